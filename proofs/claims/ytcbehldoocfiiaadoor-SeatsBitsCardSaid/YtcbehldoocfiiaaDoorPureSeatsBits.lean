/- SeatsBits: what the law comes to is true at every set, seat, number and list of numbers (the list as long as a slice can be). -/
import Derived.Test.YtcbehldoocfiiaaDoorPure0
namespace Go.Proofs.YtcbehldoocfiiaaDoor.Pure
open Go.RowKit Go.Proofs.YtcbehldoocfiiaaDoor.Q Go.Proofs.YtcbehldoocfiiaaDoorW.PrintWords Go.Proofs.YtcbehldoocfiiaaDoorW.PrintLast Go.Proofs.YtcbehldoocfiiaaDoorW.PrintMore

theorem rd_eq' (l : List Int) (i : Nat) (h : i < l.length) : rd l (i : Int) = l[i] := by
  unfold rd
  rw [Int.toNat_natCast, List.getD_eq_getElem?_getD, List.getElem?_eq_getElem h]; rfl

/-! ### the document's list -/
def upTo (x j : Nat) : List Int := ((List.range j).filter (fun i => x.testBit i)).map (fun i : Nat => (i : Int) + 1)
theorem upTo_all (x : Nat) : upTo x 64 = seatsOf x := rfl
theorem upTo_succ (x j : Nat) : upTo x (j + 1) = upTo x j ++ if x.testBit j then [(j : Int) + 1] else [] := by
  unfold upTo
  rw [List.range_succ, List.filter_append, List.map_append]
  congr 1
  by_cases h : x.testBit j <;> simp [h]
theorem upTo_len (x j : Nat) : (upTo x j).length ≤ j := by
  unfold upTo
  rw [List.length_map]
  exact Nat.le_trans (List.length_filter_le _ _) (by simp)

theorem half_u64 (y : Nat) (hy : y < 18446744073709551616) : IntKind.u64.wrap (Int.tdiv (y : Int) 2) = ((y / 2 : Nat) : Int) := by
  rw [Int.tdiv_eq_ediv_of_nonneg (by omega)]
  exact wrap_nat _ (by omega) (by omega)
theorem parity (y : Nat) : Int.tmod (y : Int) 2 = 1 ↔ y % 2 = 1 := by
  rw [Int.tmod_eq_emod_of_nonneg (by omega)]; omega

theorem refList_loop (x : Nat) (hx : x < 18446744073709551616) (d : Nat) : ∀ j : Nat, j ≤ 64 → 64 - j = d →
    Ev (fun k => selvedgeref05_List.l0 k ((x / 2 ^ j : Nat) : Int) (upTo x j) ((j : Int) + 1)) (seatsOf x) := by
  induction d with
  | zero =>
    intro j hj hd
    obtain rfl : j = 64 := by omega
    refine Ev.step (f := fun _ => some _) (fun k => ?_) (Ev.now _)
    simp only [selvedgeref05_List.l0]
    rw [if_neg (by omega), upTo_all]
  | succ d ih =>
    intro j hj hd
    have hxj : x / 2 ^ j < 18446744073709551616 := Nat.lt_of_le_of_lt (Nat.div_le_self _ _) hx
    have hl := upTo_len x j
    have hdiv : IntKind.u64.wrap (Int.tdiv ((x / 2 ^ j : Nat) : Int) 2) = ((x / 2 ^ (j + 1) : Nat) : Int) := by
      rw [Nat.pow_succ, ← Nat.div_div_eq_div_mul]
      exact half_u64 _ hxj
    have hbit : x.testBit j = decide (x / 2 ^ j % 2 = 1) := by
      rw [Nat.testBit, Nat.shiftRight_eq_div_pow, Nat.and_comm, Nat.and_one_is_mod]
      rcases Nat.mod_two_eq_zero_or_one (x / 2 ^ j) with h | h <;> simp [h]
    have hs := upTo_succ x j
    have hih := ih (j + 1) (by omega) (by omega)
    refine Ev.step (fun k => ?_) hih
    simp only [selvedgeref05_List.l0]
    rw [if_pos (by omega), hdiv, wrap_small (by omega) (by omega), show ((j : Int) + 1 + 1) = (((j + 1 : Nat) : Int) + 1) from by omega]
    by_cases hb : x / 2 ^ j % 2 = 1
    · rw [if_pos ((parity _).2 hb), if_pos (by omega)]
      rw [hbit, decide_eq_true hb, if_pos rfl] at hs
      rw [hs]
    · rw [if_neg (fun h => hb ((parity _).1 h))]
      rw [hbit, decide_eq_false hb, if_neg (by decide), List.append_nil] at hs
      rw [hs]

theorem refList_ev (x : Nat) (hx : x < 18446744073709551616) : Ev (fun k => selvedgeref05_List.f k x) (seatsOf x) := by
  unfold selvedgeref05_List.f
  have := refList_loop x hx 64 0 (by omega) (by omega)
  rw [Nat.pow_zero, Nat.div_one] at this
  exact this

theorem refHas_loop (l : List Int) (hl : l.length ≤ 64) (i : Int) (d : Nat) : ∀ j : Nat, j ≤ l.length → l.length - j = d →
    Ev (fun k => selvedgeref05_Has.l0 k i l (j : Int)) (decide (i ∈ l.drop j)) := by
  induction d with
  | zero =>
    intro j hj hd
    refine Ev.step (f := fun _ => some _) (fun k => ?_) (Ev.now _)
    simp only [selvedgeref05_Has.l0]
    rw [if_neg (by omega), List.drop_eq_nil_of_le (by omega)]
    simp
  | succ d ih =>
    intro j hj hd
    have hlt : j < l.length := by omega
    rw [List.drop_eq_getElem_cons hlt]
    by_cases h : l[j] = i
    · refine Ev.step (f := fun _ => some _) (fun k => ?_) (Ev.now _)
      simp only [selvedgeref05_Has.l0]
      rw [if_pos (by omega), if_pos (by omega), rd_eq' l j hlt, if_pos h]
      congr 1; symm
      rw [decide_eq_true_iff]
      exact List.mem_cons.2 (.inl h.symm)
    · have e : decide (i ∈ l[j] :: l.drop (j + 1)) = decide (i ∈ l.drop (j + 1)) := by
        rw [Bool.eq_iff_iff, decide_eq_true_iff, decide_eq_true_iff, List.mem_cons]
        exact ⟨fun h' => h'.resolve_left (fun e => h e.symm), .inr⟩
      rw [e]
      refine Ev.step (fun k => ?_) (ih (j + 1) (by omega) (by omega))
      simp only [selvedgeref05_Has.l0]
      rw [if_pos (by omega), if_pos (by omega), rd_eq' l j hlt, if_neg h, wrap_small (by omega) (by omega)]
      rfl

theorem refHas_ev (x : Nat) (hx : x < 18446744073709551616) (i : Int) : Ev (fun k => selvedgeref05_Has.f k x i) (decide (i ∈ seatsOf x)) := by
  unfold selvedgeref05_Has.f
  refine Ev.bind (refList_ev x hx) ?_
  exact refHas_loop _ (seatsOf_length_le x) i _ 0 (by omega) rfl

theorem has_mem (x : Nat) (hx : x < 18446744073709551616) (i : Int) : seats_Has.f x i = some (decide (i ∈ seatsOf x)) := by
  by_cases h : 1 ≤ i ∧ i ≤ 64
  · rw [has_f x hx i h.1 h.2]
    congr 1
    rw [Bool.eq_iff_iff, decide_eq_true_iff, mem_seatsOf]
    exact ⟨fun hb => ⟨h.1, h.2, hb⟩, fun hb => hb.2.2⟩
  · rw [has_no x i h]
    congr 1; symm
    rw [decide_eq_false_iff_not, mem_seatsOf]
    exact fun hb => h ⟨hb.1, hb.2.1⟩

/-! ### the document's Put -/
def putR (x : Nat) (i : Int) : Int × Int := if 1 ≤ i ∧ i ≤ 64 then (((x ||| 2 ^ (i.toNat - 1) : Nat) : Int), 0) else (0, 1)

theorem put_R (x : Nat) (hx : x < 18446744073709551616) (i : Int) : seats_Put.f x i = some (putR x i) := by
  unfold putR
  by_cases h : 1 ≤ i ∧ i ≤ 64
  · rw [if_pos h, put_f x hx i h.1 h.2]
  · rw [if_neg h, put_no x i h]

theorem refPut_loop (x : Nat) (j : Nat) (hj : j < 64) (hb : x.testBit j = false) (hor : x ||| 2 ^ j < 18446744073709551616) (d : Nat) : ∀ m : Nat, m ≤ j → j - m = d →
    Ev (fun k => selvedgeref05_Put.l0 k x ((j : Int) + 1) ((2 ^ m : Nat) : Int) ((m : Int) + 1)) (((x ||| 2 ^ j : Nat) : Int), 0) := by
  have hadd := or_pow_add j x hb
  induction d with
  | zero =>
    intro m hm hd
    obtain rfl : m = j := by omega
    refine Ev.step (f := fun _ => some _) (fun k => ?_) (Ev.now _)
    simp only [selvedgeref05_Put.l0]
    rw [if_neg (by omega), hadd, wrap_nat (x + 2 ^ m) (by rw [Int.natCast_add]) (by rw [← hadd]; exact hor)]
  | succ d ih =>
    intro m hm hd
    have hp : 2 ^ (m + 1) < 2 ^ 64 := Nat.pow_lt_pow_right (by decide) (by omega)
    refine Ev.step (fun k => ?_) (ih (m + 1) (by omega) (by omega))
    simp only [selvedgeref05_Put.l0]
    rw [if_pos (by omega), wrap_nat (2 ^ (m + 1)) (by rw [Nat.pow_succ, Int.natCast_mul]; rfl) hp, wrap_small (by omega) (by omega)]
    rfl

theorem refPut_ev (x : Nat) (hx : x < 18446744073709551616) (i : Int) : Ev (fun k => selvedgeref05_Put.f k x i) (putR x i) := by
  unfold selvedgeref05_Put.f putR
  have j0t : ∀ c : Bool, c = true → Ev (fun k => selvedgeref05_Put.j0 k x i c) (0, 1) := by
    intro c hc
    subst hc
    exact Ev.step (f := fun _ => some _) (fun k => by simp only [selvedgeref05_Put.j0, if_true]) (Ev.now _)
  by_cases h : 1 ≤ i ∧ i ≤ 64
  · obtain ⟨h1, h2⟩ := h
    rw [if_pos ⟨h1, h2⟩]
    simp only [if_neg (show ¬ i < 1 by omega)]
    rw [decide_eq_false (by omega)]
    obtain ⟨j, rfl⟩ : ∃ j : Nat, i = (j : Int) + 1 := ⟨(i - 1).toNat, by omega⟩
    have hj : j < 64 := by omega
    have ej : ((j : Int) + 1).toNat - 1 = j := by omega
    refine Ev.step (fun k => by simp only [selvedgeref05_Put.j0]; rw [if_neg (by decide)]) ?_
    refine Ev.bind (refHas_ev x hx _) ?_
    rw [ej]
    cases hb : x.testBit j with
    | true =>
      have hm : ((j : Int) + 1) ∈ seatsOf x := (mem_seatsOf x _).2 ⟨h1, h2, by rw [ej]; exact hb⟩
      simp only [decide_eq_true hm, if_true]
      have : x ||| 2 ^ j = x := by
        apply Nat.eq_of_testBit_eq
        intro b
        rw [Nat.testBit_or, Nat.testBit_two_pow]
        by_cases e : j = b
        · subst e; rw [hb]; rfl
        · rw [decide_eq_false e, Bool.or_false]
      rw [this]
      exact Ev.now _
    | false =>
      have hm : ¬ ((j : Int) + 1) ∈ seatsOf x := fun hm => by
        have := ((mem_seatsOf x _).1 hm).2.2
        rw [ej, hb] at this; cases this
      simp only [decide_eq_false hm, if_neg (show ¬ (false = true) by decide)]
      exact refPut_loop x j hj hb (or_pow_lt x j hx hj) j 0 (by omega) (by omega)
  · rw [if_neg h]
    by_cases h1 : i < 1
    · simp only [if_pos h1]; exact j0t true rfl
    · simp only [if_neg h1]; exact j0t _ (decide_eq_true (by omega))

/-! ### a set of a list -/
def ofR : Nat → List Int → Int × Int
  | x, [] => ((x : Int), 0)
  | x, i :: t => if 1 ≤ i ∧ i ≤ 64 then ofR (x ||| 2 ^ (i.toNat - 1)) t else (0, 1)

theorem putR_ok {x : Nat} {i : Int} (h : 1 ≤ i ∧ i ≤ 64) : putR x i = (((x ||| 2 ^ (i.toNat - 1) : Nat) : Int), 0) := by unfold putR; rw [if_pos h]
theorem putR_no {x : Nat} {i : Int} (h : ¬ (1 ≤ i ∧ i ≤ 64)) : putR x i = (0, 1) := by unfold putR; rw [if_neg h]

theorem of_ev (l : List Int) (hl : l.length ≤ 9223372036854775807) (d : Nat) : ∀ (j x : Nat), j ≤ l.length → l.length - j = d → x < 18446744073709551616 →
    Ev (fun k => seats_Of.l0 k x l (l.length : Int) (j : Int)) (ofR x (l.drop j)) := by
  induction d with
  | zero =>
    intro j x hj hd hx
    refine Ev.step (f := fun _ => some _) (fun k => ?_) (Ev.now _)
    simp only [seats_Of.l0]
    rw [if_neg (by omega), List.drop_eq_nil_of_le (by omega)]
    rfl
  | succ d ih =>
    intro j x hj hd hx
    have hlt : j < l.length := by omega
    rw [List.drop_eq_getElem_cons hlt, ofR]
    by_cases h : 1 ≤ l[j] ∧ l[j] ≤ 64
    · rw [if_pos h]
      refine Ev.step (fun k => ?_) (ih (j + 1) _ (by omega) (by omega) (or_pow_lt x (l[j].toNat - 1) hx (by omega)))
      simp only [seats_Of.l0]
      rw [if_pos (by omega), if_pos (by omega), if_pos (by omega), rd_eq' l j hlt, put_R x hx, putR_ok h, wrap_small (by omega) (by omega)]
      rfl
    · rw [if_neg h]
      refine Ev.step (f := fun _ => some _) (fun k => ?_) (Ev.now _)
      simp only [seats_Of.l0]
      rw [if_pos (by omega), if_pos (by omega), if_pos (by omega), rd_eq' l j hlt, put_R x hx, putR_no h]
      rfl

theorem refOf_ev (l : List Int) (hl : l.length ≤ 9223372036854775807) (d : Nat) : ∀ (j x : Nat), j ≤ l.length → l.length - j = d → x < 18446744073709551616 →
    Ev (fun k => selvedgeref05_Of.l0 k l x (j : Int)) (ofR x (l.drop j)) := by
  induction d with
  | zero =>
    intro j x hj hd hx
    refine Ev.step (f := fun _ => some _) (fun k => ?_) (Ev.now _)
    simp only [selvedgeref05_Of.l0]
    rw [if_neg (by omega), List.drop_eq_nil_of_le (by omega)]
    rfl
  | succ d ih =>
    intro j x hj hd hx
    have hlt : j < l.length := by omega
    rw [List.drop_eq_getElem_cons hlt, ofR]
    have e : ∀ k, selvedgeref05_Of.l0 (k + 1) l x (j : Int) = (selvedgeref05_Put.f k x l[j]).bind fun bt => if bt.2 = 0 then selvedgeref05_Of.l0 k l bt.1 ((j + 1 : Nat) : Int) else some (0, bt.2) := by
      intro k
      simp only [selvedgeref05_Of.l0]
      rw [if_pos (by omega), if_pos (by omega), rd_eq' l j hlt, wrap_small (by omega) (by omega)]
      rfl
    refine Ev.step e (Ev.bind (refPut_ev x hx l[j]) ?_)
    by_cases h : 1 ≤ l[j] ∧ l[j] ≤ 64
    · rw [if_pos h, putR_ok h]
      simp only [if_true]
      exact ih (j + 1) _ (by omega) (by omega) (or_pow_lt x (l[j].toNat - 1) hx (by omega))
    · rw [if_neg h, putR_no h]
      simp only [if_neg (show ¬ ((1 : Int) = 0) by decide)]
      exact Ev.now _

/-! ### the rest -/
theorem ints_ev (l : List Int) (hl : l.length ≤ 64) (d : Nat) : ∀ j : Nat, j ≤ l.length → l.length - j = d → Ev (fun k => selvedgeref05_Ints.l0 k l l (j : Int)) true := by
  induction d with
  | zero =>
    intro j hj hd
    refine Ev.step (f := fun _ => some _) (fun k => ?_) (Ev.now _)
    simp only [selvedgeref05_Ints.l0]
    rw [if_neg (by omega)]
  | succ d ih =>
    intro j hj hd
    refine Ev.step (fun k => ?_) (ih (j + 1) (by omega) (by omega))
    simp only [selvedgeref05_Ints.l0]
    rw [if_pos (by omega), if_pos (by omega), if_pos (by omega), if_pos trivial, wrap_small (by omega) (by omega)]
    rfl

theorem last_le (x : Nat) (hx : x < 18446744073709551616) (n : Nat) (h : 0 < (seatsOf x).length) : (seatsOf x)[(seatsOf x).length - 1]'(by omega) ≤ (n : Int) ↔ x < 2 ^ n := by
  rw [lt_pow_iff x n hx]
  constructor
  · intro hl i hi
    obtain ⟨j, hj, rfl⟩ := List.getElem_of_mem hi
    rcases Nat.lt_or_ge j ((seatsOf x).length - 1) with hlt | hge
    · have := List.pairwise_iff_getElem.1 (seatsOf_sorted x) j ((seatsOf x).length - 1) hj (by omega) hlt
      omega
    · have : j = (seatsOf x).length - 1 := by omega
      subst this; exact hl
  · intro hl
    exact hl _ (List.getElem_mem _)

theorem refWithin_ev (x : Nat) (hx : x < 18446744073709551616) (n : Int) : ∃ b, seats_Within.f x n = some b ∧ Ev (fun k => selvedgeref05_Within.f k x n) b := by
  unfold selvedgeref05_Within.f
  by_cases h : 0 ≤ n ∧ n ≤ 64
  · obtain ⟨m, rfl⟩ := Int.eq_ofNat_of_zero_le h.1
    refine ⟨_, within_f x m (by omega), ?_⟩
    simp only [if_neg (show ¬ ((m : Int) < 0) by omega), if_neg (show ¬ ((m : Int) > 64) by omega)]
    refine Ev.bind (refList_ev x hx) ?_
    have hle := seatsOf_length_le x
    by_cases h0 : ((seatsOf x).length : Int) = 0
    · simp only [if_pos h0]
      have e : seatsOf x = [] := List.length_eq_zero_iff.1 (by omega)
      rw [decide_eq_true ((lt_pow_iff x m hx).2 (by rw [e]; intro i hi; cases hi))]
      exact Ev.now _
    · have hw : wrap64 (((seatsOf x).length : Int) - 1) = (((seatsOf x).length - 1 : Nat) : Int) := by rw [wrap_small (by omega) (by omega)]; omega
      simp only [if_neg h0, hw]
      rw [if_pos (by omega), if_pos (by omega), rd_eq' _ _ (by omega)]
      have := last_le x hx m (by omega)
      simp only [this]
      exact Ev.now _
  · refine ⟨_, within_no x n h, ?_⟩
    by_cases h0 : n < 0
    · simp only [if_pos h0]; exact Ev.now _
    · simp only [if_neg h0, if_pos (show n > 64 by omega)]; exact Ev.now _

theorem ints_all (x : Nat) : Ev (fun k => selvedgeref05_Ints.f k (seatsOf x) (seatsOf x)) true := by
  unfold selvedgeref05_Ints.f
  simp only [if_true]
  exact ints_ev _ (seatsOf_length_le x) _ 0 (by omega) rfl
theorem refCount_ev (x : Nat) (hx : x < 18446744073709551616) : Ev (fun k => selvedgeref05_Count.f k x) ((seatsOf x).length : Int) := by
  unfold selvedgeref05_Count.f
  exact Ev.bind (refList_ev x hx) (Ev.now _)

theorem of_all (l : List Int) (hl : l.length ≤ 9223372036854775807) : Ev (fun k => seats_Of.f k l) (ofR 0 l) := of_ev l hl l.length 0 0 (Nat.zero_le _) (Nat.sub_zero _) (by omega)
theorem refOf_all (l : List Int) (hl : l.length ≤ 9223372036854775807) : Ev (fun k => selvedgeref05_Of.f k l) (ofR 0 l) := refOf_ev l hl l.length 0 0 (Nat.zero_le _) (Nat.sub_zero _) (by omega)

theorem bits_at (a i n : Int) (l : List Int) (k : Nat) (p q : Int × Int) (s : List Int) (c : Bool) (m : Int) (b : Bool)
    (h1 : selvedgelaw05_shown.f k = some true) (h2 : seats_Put.f a i = some p) (h3 : selvedgeref05_Put.f k a i = some p) (h4 : seats_Of.f k l = some q) (h5 : selvedgeref05_Of.f k l = some q)
    (h6 : seats_List.f a = some s) (h7 : selvedgeref05_List.f k a = some s) (h8 : selvedgeref05_Ints.f k s s = some true) (h9 : seats_Has.f a i = some c) (h10 : selvedgeref05_Has.f k a i = some c)
    (h11 : seats_Count.f a = some m) (h12 : selvedgeref05_Count.f k a = some m) (h13 : seats_Within.f a n = some b) (h14 : selvedgeref05_Within.f k a n = some b) :
    selvedgelaw05_SeatsBits.f k a i n l = some true := by
  unfold selvedgelaw05_SeatsBits.f
  rw [h1, h2, h3, h4, h5, h6, h7, h9, h10, h11, h12, h13, h14]
  simp only [Option.bind_some]
  rw [h8]
  simp

theorem SeatsBits (a i n : Int) (l : List Int) (ha : (Lit.int .u64 a).wf = true) (_hi : (Lit.int .i64 i).wf = true) (_hn : (Lit.int .i64 n).wf = true) (hl : l.length ≤ 9223372036854775807) : ∃ k, selvedgelaw05_SeatsBits.f k a i n l = some true := by
  obtain ⟨x, rfl, hx⟩ := u64_nat ha
  obtain ⟨b, hb, K9, h9⟩ := refWithin_ev x hx n
  obtain ⟨K1, h1⟩ := shown_ev
  obtain ⟨K2, h2⟩ := refPut_ev x hx i
  obtain ⟨K3, h3⟩ := of_all l hl
  obtain ⟨K4, h4⟩ := refOf_all l hl
  obtain ⟨K5, h5⟩ := refList_ev x hx
  obtain ⟨K6, h6⟩ := ints_all x
  obtain ⟨K7, h7⟩ := refHas_ev x hx i
  obtain ⟨K8, h8⟩ := refCount_ev x hx
  have hlist : seats_List.f (x : Int) = some (seatsOf x) := by
    unfold seats_List.f
    rw [if_pos (by omega), Int.toNat_natCast]
  exact ⟨K1 + K2 + K3 + K4 + K5 + K6 + K7 + K8 + K9, bits_at x i n l _ _ _ _ _ _ _ (h1 _ (by omega)) (put_R x hx i) (h2 _ (by omega)) (h3 _ (by omega)) (h4 _ (by omega)) hlist (h5 _ (by omega)) (h6 _ (by omega)) (has_mem x hx i) (h7 _ (by omega)) (count_f x hx) (h8 _ (by omega)) hb (h9 _ (by omega))⟩

end Go.Proofs.YtcbehldoocfiiaaDoor.Pure
