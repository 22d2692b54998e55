/- BookBy: what the law comes to is true at every book, set and text; conditions: the book's length is below 2^63 - 1, the set a uint64. -/
import Derived.Test.YtigbkmbcoiodmaaPureBookTwice
import Derived.Test.YtigbkmbcoiodmaaQ8
import Derived.Test.YtigbkmbcoiodmaaQ7
namespace Go.Proofs.Ytigbkmbcoiodmaa.Pure
open Go.RowKit Go.Proofs.Ytigbkmbcoiodmaa.Q Go.Proofs.YtigbkmbcoiodmaaW.PrintWords Go.Proofs.YtigbkmbcoiodmaaW.PrintLast Go.Proofs.YtigbkmbcoiodmaaW.PrintMore
def seatsOf (x : Nat) : List Int := ((List.range 64).filter (fun i => x.testBit i)).map (fun i : Nat => (i : Int) + 1)

theorem seatsOf_length_le (x : Nat) : (seatsOf x).length ≤ 64 := by
  unfold seatsOf
  rw [List.length_map]
  exact Nat.le_trans (List.length_filter_le _ _) (by simp)

theorem or_pow_add (j x : Nat) (h : x.testBit j = false) : x ||| 2 ^ j = x + 2 ^ j := by
  induction j generalizing x with
  | zero =>
    have h0 : x % 2 = 0 := by simp [Nat.testBit_zero] at h; omega
    have e1 : (x ||| 1) / 2 = x / 2 ||| 1 / 2 := Nat.or_div_two
    have e2 : (x ||| 1) % 2 = 1 ↔ x % 2 = 1 ∨ 1 % 2 = 1 := Nat.or_mod_two_eq_one
    rw [show 1 / 2 = 0 from rfl, Nat.or_zero] at e1
    show x ||| 1 = x + 1
    generalize x ||| 1 = p at *
    omega
  | succ j ih =>
    rw [Nat.testBit_succ] at h
    have h1 := ih (x / 2) h
    have e1 : (x ||| 2 ^ (j + 1)) / 2 = x / 2 ||| 2 ^ (j + 1) / 2 := Nat.or_div_two
    have e2 : (x ||| 2 ^ (j + 1)) % 2 = 1 ↔ x % 2 = 1 ∨ 2 ^ (j + 1) % 2 = 1 := Nat.or_mod_two_eq_one
    have e3 : 2 ^ (j + 1) / 2 = 2 ^ j := by rw [Nat.pow_succ, Nat.mul_div_cancel _ (by decide)]
    have e4 : 2 ^ (j + 1) % 2 = 0 := by rw [Nat.pow_succ, Nat.mul_mod_left]
    rw [e3, h1] at e1
    rw [e4] at e2
    have e5 : 2 ^ (j + 1) = 2 * 2 ^ j := by rw [Nat.pow_succ, Nat.mul_comm]
    generalize (x ||| 2 ^ (j + 1)) = p at *
    omega

theorem mem_seatsOf (x : Nat) (i : Int) : i ∈ seatsOf x ↔ 1 ≤ i ∧ i ≤ 64 ∧ x.testBit (i.toNat - 1) = true := by
  unfold seatsOf
  rw [List.mem_map]
  constructor
  · rintro ⟨a, ha, rfl⟩
    rw [List.mem_filter, List.mem_range] at ha
    exact ⟨by omega, by omega, by rw [show ((a : Int) + 1).toNat - 1 = a from by omega]; exact ha.2⟩
  · rintro ⟨h1, h2, h3⟩
    exact ⟨i.toNat - 1, by rw [List.mem_filter, List.mem_range]; exact ⟨by omega, h3⟩, by omega⟩

theorem wrap_nat {a : Int} (x : Nat) (h : a = x) (hx : x < 18446744073709551616) : IntKind.u64.wrap a = x := by rw [h, IntKind.wrap_u64]; omega

theorem rd_eq' (l : List Int) (i : Nat) (h : i < l.length) : rd l (i : Int) = l[i] := by
  unfold rd
  rw [Int.toNat_natCast, List.getD_eq_getElem?_getD, List.getElem?_eq_getElem h]; rfl

/-! ### the document's list -/
def upTo (x j : Nat) : List Int := ((List.range j).filter (fun i => x.testBit i)).map (fun i : Nat => (i : Int) + 1)
theorem upTo_all (x : Nat) : upTo x 64 = seatsOf x := rfl
theorem upTo_succ (x j : Nat) : upTo x (j + 1) = upTo x j ++ if x.testBit j then [(j : Int) + 1] else [] := by
  unfold upTo
  rw [List.range_succ, List.filter_append, List.map_append]
  congr 1
  by_cases h : x.testBit j <;> simp [h]
theorem upTo_len (x j : Nat) : (upTo x j).length ≤ j := by
  unfold upTo
  rw [List.length_map]
  exact Nat.le_trans (List.length_filter_le _ _) (by simp)

theorem half_u64 (y : Nat) (hy : y < 18446744073709551616) : IntKind.u64.wrap (Int.tdiv (y : Int) 2) = ((y / 2 : Nat) : Int) := by
  rw [Int.tdiv_eq_ediv_of_nonneg (by omega)]
  exact wrap_nat _ (by omega) (by omega)
theorem parity (y : Nat) : Int.tmod (y : Int) 2 = 1 ↔ y % 2 = 1 := by
  rw [Int.tmod_eq_emod_of_nonneg (by omega)]; omega

theorem refList_loop (x : Nat) (hx : x < 18446744073709551616) (d : Nat) : ∀ j : Nat, j ≤ 64 → 64 - j = d →
    Ev (fun k => selvedgeref05_List.l0 k ((x / 2 ^ j : Nat) : Int) (upTo x j) ((j : Int) + 1)) (seatsOf x) := by
  induction d with
  | zero =>
    intro j hj hd
    obtain rfl : j = 64 := by omega
    refine Ev.step (f := fun _ => some _) (fun k => ?_) (Ev.now _)
    simp only [selvedgeref05_List.l0]
    rw [if_neg (by omega), upTo_all]
  | succ d ih =>
    intro j hj hd
    have hxj : x / 2 ^ j < 18446744073709551616 := Nat.lt_of_le_of_lt (Nat.div_le_self _ _) hx
    have hl := upTo_len x j
    have hdiv : IntKind.u64.wrap (Int.tdiv ((x / 2 ^ j : Nat) : Int) 2) = ((x / 2 ^ (j + 1) : Nat) : Int) := by
      rw [Nat.pow_succ, ← Nat.div_div_eq_div_mul]
      exact half_u64 _ hxj
    have hbit : x.testBit j = decide (x / 2 ^ j % 2 = 1) := by
      rw [Nat.testBit, Nat.shiftRight_eq_div_pow, Nat.and_comm, Nat.and_one_is_mod]
      rcases Nat.mod_two_eq_zero_or_one (x / 2 ^ j) with h | h <;> simp [h]
    have hs := upTo_succ x j
    have hih := ih (j + 1) (by omega) (by omega)
    refine Ev.step (fun k => ?_) hih
    simp only [selvedgeref05_List.l0]
    rw [if_pos (by omega), hdiv, wrap_small (by omega) (by omega), show ((j : Int) + 1 + 1) = (((j + 1 : Nat) : Int) + 1) from by omega]
    by_cases hb : x / 2 ^ j % 2 = 1
    · rw [if_pos ((parity _).2 hb), if_pos (by omega)]
      rw [hbit, decide_eq_true hb, if_pos rfl] at hs
      rw [hs]
    · rw [if_neg (fun h => hb ((parity _).1 h))]
      rw [hbit, decide_eq_false hb, if_neg (by decide), List.append_nil] at hs
      rw [hs]

theorem refList_ev (x : Nat) (hx : x < 18446744073709551616) : Ev (fun k => selvedgeref05_List.f k x) (seatsOf x) := by
  unfold selvedgeref05_List.f
  have := refList_loop x hx 64 0 (by omega) (by omega)
  rw [Nat.pow_zero, Nat.div_one] at this
  exact this

theorem listHas_loop (l : List Int) (hl : l.length ≤ 64) (i : Int) (d : Nat) : ∀ j : Nat, j ≤ l.length → l.length - j = d →
    Ev (fun k => selvedgeref05_Has.l0 k i l (j : Int)) (decide (i ∈ l.drop j)) := by
  induction d with
  | zero =>
    intro j hj hd
    refine Ev.step (f := fun _ => some _) (fun k => ?_) (Ev.now _)
    simp only [selvedgeref05_Has.l0]
    rw [if_neg (by omega), List.drop_eq_nil_of_le (by omega)]
    simp
  | succ d ih =>
    intro j hj hd
    have hlt : j < l.length := by omega
    rw [List.drop_eq_getElem_cons hlt]
    by_cases h : l[j] = i
    · refine Ev.step (f := fun _ => some _) (fun k => ?_) (Ev.now _)
      simp only [selvedgeref05_Has.l0]
      rw [if_pos (by omega), if_pos (by omega), rd_eq' l j hlt, if_pos h]
      congr 1; symm
      rw [decide_eq_true_iff]
      exact List.mem_cons.2 (.inl h.symm)
    · have e : decide (i ∈ l[j] :: l.drop (j + 1)) = decide (i ∈ l.drop (j + 1)) := by
        rw [Bool.eq_iff_iff, decide_eq_true_iff, decide_eq_true_iff, List.mem_cons]
        exact ⟨fun h' => h'.resolve_left (fun e => h e.symm), .inr⟩
      rw [e]
      refine Ev.step (fun k => ?_) (ih (j + 1) (by omega) (by omega))
      simp only [selvedgeref05_Has.l0]
      rw [if_pos (by omega), if_pos (by omega), rd_eq' l j hlt, if_neg h, wrap_small (by omega) (by omega)]
      rfl

theorem listHas_ev (x : Nat) (hx : x < 18446744073709551616) (i : Int) : Ev (fun k => selvedgeref05_Has.f k x i) (decide (i ∈ seatsOf x)) := by
  unfold selvedgeref05_Has.f
  refine Ev.bind (refList_ev x hx) ?_
  exact listHas_loop _ (seatsOf_length_le x) i _ 0 (by omega) rfl


def putR (x : Nat) (i : Int) : Int × Int := if 1 ≤ i ∧ i ≤ 64 then (((x ||| 2 ^ (i.toNat - 1) : Nat) : Int), 0) else (0, 1)

theorem setPut_loop (x : Nat) (j : Nat) (hj : j < 64) (hb : x.testBit j = false) (hor : x ||| 2 ^ j < 18446744073709551616) (d : Nat) : ∀ m : Nat, m ≤ j → j - m = d →
    Ev (fun k => selvedgeref05_Put.l0 k x ((j : Int) + 1) ((2 ^ m : Nat) : Int) ((m : Int) + 1)) (((x ||| 2 ^ j : Nat) : Int), 0) := by
  have hadd := or_pow_add j x hb
  induction d with
  | zero =>
    intro m hm hd
    obtain rfl : m = j := by omega
    refine Ev.step (f := fun _ => some _) (fun k => ?_) (Ev.now _)
    simp only [selvedgeref05_Put.l0]
    rw [if_neg (by omega), hadd, wrap_nat (x + 2 ^ m) (by rw [Int.natCast_add]) (by rw [← hadd]; exact hor)]
  | succ d ih =>
    intro m hm hd
    have hp : 2 ^ (m + 1) < 2 ^ 64 := Nat.pow_lt_pow_right (by decide) (by omega)
    refine Ev.step (fun k => ?_) (ih (m + 1) (by omega) (by omega))
    simp only [selvedgeref05_Put.l0]
    rw [if_pos (by omega), wrap_nat (2 ^ (m + 1)) (by rw [Nat.pow_succ, Int.natCast_mul]; rfl) hp, wrap_small (by omega) (by omega)]
    rfl

theorem setPut_ev (x : Nat) (hx : x < 18446744073709551616) (i : Int) : Ev (fun k => selvedgeref05_Put.f k x i) (putR x i) := by
  unfold selvedgeref05_Put.f putR
  have j0t : ∀ c : Bool, c = true → Ev (fun k => selvedgeref05_Put.j0 k x i c) (0, 1) := by
    intro c hc
    subst hc
    exact Ev.step (f := fun _ => some _) (fun k => by simp only [selvedgeref05_Put.j0, if_true]) (Ev.now _)
  by_cases h : 1 ≤ i ∧ i ≤ 64
  · obtain ⟨h1, h2⟩ := h
    rw [if_pos ⟨h1, h2⟩]
    simp only [if_neg (show ¬ i < 1 by omega)]
    rw [decide_eq_false (by omega)]
    obtain ⟨j, rfl⟩ : ∃ j : Nat, i = (j : Int) + 1 := ⟨(i - 1).toNat, by omega⟩
    have hj : j < 64 := by omega
    have ej : ((j : Int) + 1).toNat - 1 = j := by omega
    refine Ev.step (fun k => by simp only [selvedgeref05_Put.j0]; rw [if_neg (by decide)]) ?_
    refine Ev.bind (listHas_ev x hx _) ?_
    rw [ej]
    cases hb : x.testBit j with
    | true =>
      have hm : ((j : Int) + 1) ∈ seatsOf x := (mem_seatsOf x _).2 ⟨h1, h2, by rw [ej]; exact hb⟩
      simp only [decide_eq_true hm, if_true]
      have : x ||| 2 ^ j = x := by
        apply Nat.eq_of_testBit_eq
        intro b
        rw [Nat.testBit_or, Nat.testBit_two_pow]
        by_cases e : j = b
        · subst e; rw [hb]; rfl
        · rw [decide_eq_false e, Bool.or_false]
      rw [this]
      exact Ev.now _
    | false =>
      have hm : ¬ ((j : Int) + 1) ∈ seatsOf x := fun hm => by
        have := ((mem_seatsOf x _).1 hm).2.2
        rw [ej, hb] at this; cases this
      simp only [decide_eq_false hm, if_neg (show ¬ (false = true) by decide)]
      exact setPut_loop x j hj hb (or_pow_lt x j hx hj) j 0 (by omega) (by omega)
  · rw [if_neg h]
    by_cases h1 : i < 1
    · simp only [if_pos h1]; exact j0t true rfl
    · simp only [if_neg h1]; exact j0t _ (decide_eq_true (by omega))


theorem refBy_loop (l : List S24) (hl : l.length ≤ 9223372036854775806) (t : ByteArray) (d : Nat) : ∀ (j x : Nat), j ≤ 64 → 64 - j = d → x < 18446744073709551616 →
    ∃ y : Nat, y < 18446744073709551616 ∧ (∀ m, m < 64 → y.testBit m = (x.testBit m || (decide (j ≤ m) && l.any (same24 ((m : Int) + 1) t)))) ∧ Ev (fun k => selvedgeref06_By.l0 k l t (x : Int) ((j : Int) + 1)) (y : Int) := by
  induction d with
  | zero =>
    intro j x hj hd hx
    refine ⟨x, hx, fun m hm => by rw [decide_eq_false (by omega)]; simp, ?_⟩
    refine Ev.step (f := fun _ => some _) (fun k => ?_) (Ev.now _)
    rw [selvedgeref06_By.l0, if_neg (by omega)]
  | succ d ih =>
    intro j x hj hd hx
    have w : wrap64 ((j : Int) + 1 + 1) = (((j + 1 : Nat) : Int) + 1) := by rw [wrap_small (by omega) (by omega)]; omega
    have hpr : putR x ((j : Int) + 1) = (((x ||| 2 ^ j : Nat) : Int), 0) := by
      unfold putR
      rw [if_pos (by omega), show ((j : Int) + 1).toNat - 1 = j by omega]
    cases hq : l.any (same24 ((j : Int) + 1) t) with
    | true =>
      obtain ⟨y, hy, hb, he⟩ := ih (j + 1) (x ||| 2 ^ j) (by omega) (by omega) (or_pow_lt x j hx (by omega))
      refine ⟨y, hy, fun m hm => ?_, ?_⟩
      · rw [hb m hm, Nat.testBit_or, Nat.testBit_two_pow]
        by_cases e : j = m
        · subst e
          simp [hq]
        · rw [decide_eq_false e, Bool.or_false]
          congr 2
          rw [decide_eq_decide]
          omega
      · refine Ev.step (f := fun k => (selvedgeref06_Has.f k l ((j : Int) + 1) t).bind fun t209 => (if t209 = true then ((selvedgeref05_Put.f k (x : Int) ((j : Int) + 1)).bind fun bt210 => (selvedgeref06_By.l0 k l t bt210.1 (wrap64 ((j : Int) + 1 + 1)))) else (selvedgeref06_By.l0 k l t (x : Int) (wrap64 ((j : Int) + 1 + 1))))) (fun k => by rw [selvedgeref06_By.l0, if_pos (by omega)]) ?_
        refine Ev.bind (refHas_ev _ t l hl) ?_
        simp only [hq, if_true]
        refine Ev.bind (setPut_ev x hx _) ?_
        rw [hpr, w]
        exact he
    | false =>
      obtain ⟨y, hy, hb, he⟩ := ih (j + 1) x (by omega) (by omega) hx
      refine ⟨y, hy, fun m hm => ?_, ?_⟩
      · rw [hb m hm]
        by_cases e : j = m
        · subst e
          rw [hq, decide_eq_false (by omega)]
          simp
        · congr 2
          rw [decide_eq_decide]
          omega
      · refine Ev.step (f := fun k => (selvedgeref06_Has.f k l ((j : Int) + 1) t).bind fun t209 => (if t209 = true then ((selvedgeref05_Put.f k (x : Int) ((j : Int) + 1)).bind fun bt210 => (selvedgeref06_By.l0 k l t bt210.1 (wrap64 ((j : Int) + 1 + 1)))) else (selvedgeref06_By.l0 k l t (x : Int) (wrap64 ((j : Int) + 1 + 1))))) (fun k => by rw [selvedgeref06_By.l0, if_pos (by omega)]) ?_
        refine Ev.bind (refHas_ev _ t l hl) ?_
        simp only [hq, if_neg (show ¬ (false = true) by decide)]
        rw [w]
        exact he
theorem refBy_ev (l : List S24) (hl : l.length ≤ 9223372036854775806) (t : ByteArray) : Ev (fun k => selvedgeref06_By.f k l t) ((byN t l 0 : Nat) : Int) := by
  obtain ⟨y, hy, hb, he⟩ := refBy_loop l hl t 64 0 0 (by omega) (by omega) (by decide)
  have e : byN t l 0 = y := by
    apply Nat.eq_of_testBit_eq
    intro m
    by_cases hm : m < 64
    · rw [byN_bit t m hm, hb m hm]
      simp
    · have hp : 18446744073709551616 ≤ 2 ^ m := Nat.pow_le_pow_right (n := 2) (by decide) (show 64 ≤ m by omega)
      rw [Nat.testBit_lt_two_pow (Nat.lt_of_lt_of_le (byN_lt t l 0 (by decide)) hp), Nat.testBit_lt_two_pow (Nat.lt_of_lt_of_le hy hp)]
  rw [e]
  exact he
theorem refAll_loop (l : List S24) (hl : l.length ≤ 9223372036854775806) (t : ByteArray) (s : List Int) (hs : s.length ≤ 64) (d : Nat) : ∀ j : Nat, j ≤ s.length → s.length - j = d →
    Ev (fun k => selvedgeref06_All.l0 k l t s (j : Int)) ((s.drop j).all (fun i => l.any (same24 i t))) := by
  induction d with
  | zero =>
    intro j hj hd
    refine Ev.step (f := fun _ => some _) (fun k => ?_) (Ev.now _)
    rw [selvedgeref06_All.l0, if_neg (by omega), List.drop_eq_nil_of_le (by omega)]
    rfl
  | succ d ih =>
    intro j hj hd
    have hlt : j < s.length := by omega
    rw [List.drop_eq_getElem_cons hlt, List.all_cons]
    refine Ev.step (f := fun k => (selvedgeref06_Has.f k l s[j] t).bind fun t216 => (if t216 = true then (selvedgeref06_All.l0 k l t s (wrap64 ((j : Int) + 1))) else (some false))) (fun k => by rw [selvedgeref06_All.l0, if_pos (by omega), if_pos (by omega), rd_eq' s j hlt]) ?_
    refine Ev.bind (refHas_ev _ t l hl) ?_
    cases hq : l.any (same24 s[j] t) with
    | true =>
      simp only [if_true]
      rw [wrap_small (by omega) (by omega), Bool.true_and]
      exact ih (j + 1) (by omega) (by omega)
    | false =>
      simp only [if_neg (show ¬ (false = true) by decide), Bool.false_and]
      exact Ev.now _
theorem refAll_ev (l : List S24) (hl : l.length ≤ 9223372036854775806) (t : ByteArray) (x : Nat) (hx : x < 18446744073709551616) : Ev (fun k => selvedgeref06_All.f k l x t) (subN x (byN t l 0)) := by
  unfold selvedgeref06_All.f
  refine Ev.bind (refList_ev x hx) ?_
  have h := refAll_loop l hl t (seatsOf x) (seatsOf_length_le x) (seatsOf x).length 0 (Nat.zero_le _) (by omega)
  have e : (seatsOf x).all (fun i => l.any (same24 i t)) = subN x (byN t l 0) := by
    rw [Bool.eq_iff_iff, List.all_eq_true, subN_iff]
    constructor
    · intro h m hm hb
      rw [byN_bit t m hm]
      have := h ((m : Int) + 1) ((mem_seatsOf x _).2 ⟨by omega, by omega, by rw [show ((m : Int) + 1).toNat - 1 = m by omega]; exact hb⟩)
      rw [this]; simp
    · intro h i hi
      obtain ⟨h1, h2, hb⟩ := (mem_seatsOf x i).1 hi
      have := h (i.toNat - 1) (by omega) hb
      rw [byN_bit t _ (by omega), show ((i.toNat - 1 : Nat) : Int) + 1 = i by omega] at this
      simpa using this
  rw [← e]
  exact h
theorem BookBy (l : List S24) (a : Int) (t : ByteArray) (hl : l.length ≤ 9223372036854775806) (ha : (Lit.int .u64 a).wf = true) : ∃ k, selvedgelaw06_BookBy.f k l a t = some true := by
  obtain ⟨x, rfl, hx⟩ := u64_nat ha
  refine Ev.rounds (g := fun k => selvedgelaw06_BookBy.f k l x t) ?_
  unfold selvedgelaw06_BookBy.f
  refine Ev.bind shown_ev ?_
  simp only [if_true]
  refine Ev.bind (by_ev t l hl) ?_
  refine Ev.bind (refBy_ev l hl t) ?_
  simp only [if_true]
  refine Ev.bind (all_ev t l hl x hx) ?_
  refine Ev.bind (refAll_ev l hl t x hx) ?_
  simp only [beq_self_eq_true]
  exact Ev.now _
end Go.Proofs.Ytigbkmbcoiodmaa.Pure
