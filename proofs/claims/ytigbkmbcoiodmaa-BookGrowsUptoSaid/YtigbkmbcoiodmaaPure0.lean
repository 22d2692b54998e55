/- What the functions of the books come to, in closed form: has, by, put, right, and the order of seals. Conditions: lengths below 5864062014700; sets below 2^64. -/
import Derived.Laws.Bits64b
import Derived.Laws.BitsAllLaws
import Derived.Test.YtigbkmbcoiodmaaQ6
import Derived.Test.YtigbkmbcoiodmaaQ5
import Derived.Test.YtigbkmbcoiodmaaQ4
import Derived.Test.YtigbkmbcoiodmaaQ3
namespace Go.Proofs.Ytigbkmbcoiodmaa.Pure
open Go.RowKit Go.Proofs.Ytigbkmbcoiodmaa.Q Go.Proofs.YtigbkmbcoiodmaaW.PrintWords Go.Proofs.YtigbkmbcoiodmaaW.PrintLast Go.Proofs.YtigbkmbcoiodmaaW.PrintMore

theorem u64_nat {a : Int} (h : (Lit.int .u64 a).wf = true) : ∃ x : Nat, a = x ∧ x < 18446744073709551616 := by
  have hb : 0 ≤ a ∧ a < 18446744073709551616 := by
    simp [Lit.wf, IntKind.min, IntKind.max, IntKind.signed, IntKind.bits] at h; omega
  exact ⟨a.toNat, by omega, by omega⟩
theorem i64_bd {a : Int} (h : (Lit.int .i64 a).wf = true) : -9223372036854775808 ≤ a ∧ a < 9223372036854775808 := by
  simp [Lit.wf, IntKind.min, IntKind.max, IntKind.signed, IntKind.bits] at h; omega
theorem wrap_small {a : Int} (h0 : -9223372036854775808 ≤ a) (h1 : a < 9223372036854775808) : wrap64 a = a := by unfold wrap64; omega
theorem rd_eq (l : List S24) (i : Nat) (h : i < l.length) : rd_T24 l (i : Int) = l[i] := by
  show l.getD ((i : Int).toNat) z24 = _
  rw [Int.toNat_natCast, List.getD_eq_getElem?_getD, List.getElem?_eq_getElem h]
  rfl
theorem S24_ext {x y : S24} (h0 : x.f0 = y.f0) (h1 : x.f1.toList = y.f1.toList) : x = y := by
  cases x; cases y
  simp only at h0 h1
  subst h0
  congr 1
  rw [ByteArray.toList_eq, ByteArray.toList_eq] at h1
  apply ByteArray.ext
  exact Array.toList_inj.1 h1
instance : DecidableEq S24 := fun x y => if h : x.f0 = y.f0 ∧ x.f1.toList = y.f1.toList then isTrue (S24_ext h.1 h.2) else isFalse (fun e => h (by subst e; exact ⟨rfl, rfl⟩))
theorem same_iff {a : Int} {b : ByteArray} {x : S24} : same24 a b x = true ↔ x = ⟨a, b⟩ := by
  unfold same24
  rw [Bool.and_eq_true, beq_iff_eq, beq_iff_eq]
  exact ⟨fun h => S24_ext h.1 h.2, fun h => by subst h; exact ⟨rfl, rfl⟩⟩
theorem any_same {a : Int} {b : ByteArray} {l : List S24} : l.any (same24 a b) = decide ((⟨a, b⟩ : S24) ∈ l) := by
  rw [Bool.eq_iff_iff, List.any_eq_true, decide_eq_true_iff]
  exact ⟨fun ⟨x, hx, h⟩ => by rw [same_iff] at h; subst h; exact hx, fun h => ⟨_, h, same_iff.2 rfl⟩⟩

/-! ### Has, both -/
theorem has_loop' (a : Int) (b : ByteArray) (l : List S24) (hl : l.length ≤ 9223372036854775806) (d : Nat) : ∀ j : Nat, j ≤ l.length → l.length - j = d →
    Ev (fun k => book_Has.l0 k l (l.length : Int) (j : Int) a b) ((l.drop j).any (same24 a b)) := by
  induction d with
  | zero =>
    intro j hj hd
    refine Ev.step (f := fun _ => some _) (fun k => ?_) (Ev.now _)
    simp only [book_Has.l0]
    rw [if_neg (by omega), List.drop_eq_nil_of_le (by omega)]
    rfl
  | succ d ih =>
    intro j hj hd
    have hlt : j < l.length := by omega
    rw [List.drop_eq_getElem_cons hlt, List.any_cons]
    have hs : (l[j].f0 == a && (l[j].f1.toList == b.toList)) = same24 a b l[j] := rfl
    cases hq : same24 a b l[j] with
    | true =>
      refine Ev.step (f := fun _ => some _) (fun k => ?_) (Ev.now _)
      simp only [book_Has.l0]
      rw [if_pos (by omega), if_pos (by omega), if_pos (by omega), rd_eq l j hlt, hs, hq, if_pos rfl]
      rfl
    | false =>
      refine Ev.step (fun k => ?_) (ih (j + 1) (by omega) (by omega))
      simp only [book_Has.l0]
      rw [if_pos (by omega), if_pos (by omega), if_pos (by omega), rd_eq l j hlt, hs, hq, if_neg (by decide), wrap_small (by omega) (by omega)]
      rfl
theorem has_ev (a : Int) (b : ByteArray) (l : List S24) (hl : l.length ≤ 9223372036854775806) : Ev (fun k => book_Has.f k l a b) (l.any (same24 a b)) := by
  have := has_loop' a b l hl l.length 0 (Nat.zero_le _) (by omega)
  exact this
theorem refHas_loop (a : Int) (b : ByteArray) (l : List S24) (hl : l.length ≤ 9223372036854775806) (d : Nat) : ∀ j : Nat, j ≤ l.length → l.length - j = d →
    Ev (fun k => selvedgeref06_Has.l0 k l (j : Int) a b) ((l.drop j).any (same24 a b)) := by
  induction d with
  | zero =>
    intro j hj hd
    refine Ev.step (f := fun _ => some _) (fun k => ?_) (Ev.now _)
    simp only [selvedgeref06_Has.l0]
    rw [if_neg (by omega), List.drop_eq_nil_of_le (by omega)]
    rfl
  | succ d ih =>
    intro j hj hd
    have hlt : j < l.length := by omega
    rw [List.drop_eq_getElem_cons hlt, List.any_cons]
    have hs : (l[j].f0 == a && (l[j].f1.toList == b.toList)) = same24 a b l[j] := rfl
    cases hq : same24 a b l[j] with
    | true =>
      refine Ev.step (f := fun _ => some _) (fun k => ?_) (Ev.now _)
      simp only [selvedgeref06_Has.l0]
      rw [if_pos (by omega), if_pos (by omega), rd_eq l j hlt, hs, hq, if_pos rfl]
      rfl
    | false =>
      refine Ev.step (fun k => ?_) (ih (j + 1) (by omega) (by omega))
      simp only [selvedgeref06_Has.l0]
      rw [if_pos (by omega), if_pos (by omega), rd_eq l j hlt, hs, hq, if_neg (by decide), wrap_small (by omega) (by omega)]
      rfl
theorem refHas_ev (a : Int) (b : ByteArray) (l : List S24) (hl : l.length ≤ 9223372036854775806) : Ev (fun k => selvedgeref06_Has.f k l a b) (l.any (same24 a b)) := by
  have := refHas_loop a b l hl l.length 0 (Nat.zero_le _) (by omega)
  exact this

/-! ### Put -/
theorem put_f (l : List S24) (a : Int) (b : ByteArray) (hl : l.length ≤ 5864062014800) : book_Put.f l a b = some (putB l a b) := by
  unfold book_Put.f
  rw [if_pos (by omega)]
theorem putB_no (l : List S24) (a : Int) (b : ByteArray) (h : ¬ (1 ≤ a ∧ a ≤ 64)) : putB l a b = l := by
  unfold putB
  rw [decide_eq_false h]; rfl
theorem putB_in (l : List S24) (a : Int) (b : ByteArray) (h : (⟨a, b⟩ : S24) ∈ l) : putB l a b = l := by
  unfold putB
  rw [any_same, decide_eq_true h, Bool.or_true, if_pos rfl]
theorem putB_new (l : List S24) (a : Int) (b : ByteArray) (h : 1 ≤ a ∧ a ≤ 64) (hn : (⟨a, b⟩ : S24) ∉ l) : putB l a b = l.take (l.findIdx (aheadB a b)) ++ ⟨a, b⟩ :: l.drop (l.findIdx (aheadB a b)) := by
  unfold putB
  rw [any_same, decide_eq_true h, decide_eq_false hn]; rfl
theorem mem_putB {l : List S24} {a : Int} {b : ByteArray} {x : S24} : x ∈ putB l a b ↔ x ∈ l ∨ ((1 ≤ a ∧ a ≤ 64) ∧ x = ⟨a, b⟩) := by
  by_cases h : 1 ≤ a ∧ a ≤ 64
  · by_cases hn : (⟨a, b⟩ : S24) ∈ l
    · rw [putB_in l a b hn]
      exact ⟨.inl, fun h' => h'.elim id (fun h' => by rw [h'.2]; exact hn)⟩
    · rw [putB_new l a b h hn, List.mem_append, List.mem_cons]
      have ht : x ∈ l ↔ x ∈ l.take (l.findIdx (aheadB a b)) ∨ x ∈ l.drop (l.findIdx (aheadB a b)) := by
        rw [← List.mem_append, List.take_append_drop]
      rw [ht]
      constructor
      · rintro (h' | h' | h')
        · exact .inl (.inl h')
        · exact .inr ⟨h, h'⟩
        · exact .inl (.inr h')
      · rintro ((h' | h') | h')
        · exact .inl h'
        · exact .inr (.inr h')
        · exact .inr (.inl h'.2)
  · rw [putB_no l a b h]
    exact ⟨.inl, fun h' => h'.elim id (fun h' => absurd h'.1 h)⟩
theorem len_putB (l : List S24) (a : Int) (b : ByteArray) : (putB l a b).length = l.length + if (1 ≤ a ∧ a ≤ 64) ∧ (⟨a, b⟩ : S24) ∉ l then 1 else 0 := by
  by_cases h : 1 ≤ a ∧ a ≤ 64
  · by_cases hn : (⟨a, b⟩ : S24) ∈ l
    · rw [putB_in l a b hn, if_neg (fun h' => h'.2 hn)]; rfl
    · rw [putB_new l a b h hn, if_pos ⟨h, hn⟩]
      have := List.findIdx_le_length (xs := l) (p := aheadB a b)
      simp only [List.length_append, List.length_take, List.length_cons, List.length_drop]
      omega
  · rw [putB_no l a b h, if_neg (fun h' => h h'.1)]; rfl
theorem len_putB_le (l : List S24) (a : Int) (b : ByteArray) : (putB l a b).length ≤ l.length + 1 := by
  rw [len_putB]; split <;> omega

/-! ### By -/
def hitB (t : ByteArray) (x : S24) : Bool := (x.f1.toList == t.toList) && decide (1 ≤ x.f0 ∧ x.f0 ≤ 64)
def byN (t : ByteArray) : List S24 → Nat → Nat
  | [], x => x
  | s :: r, x => byN t r (if hitB t s = true then x ||| 2 ^ (s.f0.toNat - 1) else x)
theorem seat_f (i : Int) : seats_seat.f i = some (decide (1 ≤ i ∧ i ≤ 64)) := by
  unfold seats_seat.f
  by_cases h : i ≥ 1
  · rw [if_pos h]; congr 1; rw [Bool.eq_iff_iff, decide_eq_true_iff, decide_eq_true_iff]; omega
  · rw [if_neg h]; congr 1; symm; rw [decide_eq_false_iff_not]; omega
theorem or_u64 {a b : Int} (x y : Nat) (ha : a = x) (hb : b = y) (hx : x < 18446744073709551616) (hy : y < 18446744073709551616) : Go.bits .or .u64 a b = ((x ||| y : Nat) : Int) := by
  rw [ha, hb, bits_or_u64_nat x y hx hy]
theorem and_u64 {a b : Int} (x y : Nat) (ha : a = x) (hb : b = y) (hx : x < 18446744073709551616) (hy : y < 18446744073709551616) : Go.bits .and .u64 a b = ((x &&& y : Nat) : Int) := by
  rw [ha, hb, bits_and_u64_nat x y hx hy]
theorem put_no (x : Nat) (i : Int) (h : ¬ (1 ≤ i ∧ i ≤ 64)) : seats_Put.f x i = some (0, 1) := by
  unfold seats_Put.f
  rw [seat_f]; simp only [Option.bind_some]
  rw [if_neg (by rw [decide_eq_true_iff]; exact h)]
theorem shl_one (j : Nat) (hj : j < 64) : shl .u64 1 (j : Int) = ((2 ^ j : Nat) : Int) := by
  have hp : 2 ^ j < 2 ^ 64 := Nat.pow_lt_pow_right (by decide) hj
  unfold shl
  rw [Int.toNat_natCast, Nat.min_eq_left (show j ≤ IntKind.u64.bits by show j ≤ 64; omega), IntKind.wrap_u64, Int.one_mul]
  rw [Int.natCast_pow]
  rw [Int.emod_eq_of_lt (by exact_mod_cast Nat.zero_le (2 ^ j))]
  · rfl
  · have : ((2 ^ j : Nat) : Int) < ((2 ^ 64 : Nat) : Int) := by exact_mod_cast hp
    simpa using this
theorem or_pow_lt (x j : Nat) (hx : x < 18446744073709551616) (hj : j < 64) : x ||| 2 ^ j < 18446744073709551616 :=
  Nat.or_lt_two_pow (n := 64) hx (Nat.pow_lt_pow_right (by decide) hj)
theorem seatPut_f (x : Nat) (hx : x < 18446744073709551616) (i : Int) (h1 : 1 ≤ i) (h2 : i ≤ 64) : seats_Put.f x i = some (((x ||| 2 ^ (i.toNat - 1) : Nat) : Int), 0) := by
  obtain ⟨j, rfl⟩ : ∃ j : Nat, i = (j : Int) + 1 := ⟨(i - 1).toNat, by omega⟩
  have hj : j < 64 := by omega
  have hp : 2 ^ j < 2 ^ 64 := Nat.pow_lt_pow_right (by decide) hj
  unfold seats_Put.f
  rw [seat_f]; simp only [Option.bind_some]
  rw [if_pos (by rw [decide_eq_true_iff]; omega), wrap_small (by omega) (by omega), if_pos (by omega), show (j : Int) + 1 - 1 = (j : Int) from by omega, shl_one j hj,
    or_u64 x (2 ^ j) rfl rfl hx (by omega), show ((j : Int) + 1).toNat - 1 = j from by omega]
theorem byN_lt (t : ByteArray) : ∀ (l : List S24) (x : Nat), x < 18446744073709551616 → byN t l x < 18446744073709551616
  | [], _, h => h
  | s :: r, x, h => by
    rw [byN]
    refine byN_lt t r _ ?_
    split
    · rename_i hh
      unfold hitB at hh
      rw [Bool.and_eq_true, decide_eq_true_iff] at hh
      exact or_pow_lt x _ h (by omega)
    · exact h
theorem byN_bit (t : ByteArray) (m : Nat) (hm : m < 64) : ∀ (l : List S24) (x : Nat), (byN t l x).testBit m = (x.testBit m || l.any (same24 ((m : Int) + 1) t))
  | [], x => by simp [byN]
  | s :: r, x => by
    rw [byN, byN_bit t m hm r, List.any_cons, ← Bool.or_assoc]
    congr 1
    by_cases hh : hitB t s = true
    · rw [if_pos hh]
      unfold hitB at hh
      rw [Bool.and_eq_true, decide_eq_true_iff] at hh
      rw [Nat.testBit_or, Nat.testBit_two_pow]
      congr 1
      unfold same24
      rw [hh.1, Bool.and_true, Bool.eq_iff_iff, decide_eq_true_iff, beq_iff_eq]
      omega
    · rw [if_neg hh]
      have : same24 ((m : Int) + 1) t s = false := by
        cases hq : same24 ((m : Int) + 1) t s with
        | false => rfl
        | true =>
          exfalso
          apply hh
          unfold same24 at hq
          unfold hitB
          rw [Bool.and_eq_true, beq_iff_eq] at hq
          rw [hq.2, hq.1]
          simp; omega
      rw [this, Bool.or_false]
theorem by_loop (t : ByteArray) (l : List S24) (hl : l.length ≤ 9223372036854775806) (d : Nat) : ∀ (j x : Nat), j ≤ l.length → l.length - j = d → x < 18446744073709551616 →
    Ev (fun k => book_By.l0 k t (x : Int) l (l.length : Int) (j : Int)) ((byN t (l.drop j) x : Nat) : Int) := by
  induction d with
  | zero =>
    intro j x hj hd hx
    refine Ev.step (f := fun _ => some _) (fun k => ?_) (Ev.now _)
    simp only [book_By.l0]
    rw [if_neg (by omega), List.drop_eq_nil_of_le (by omega)]
    rfl
  | succ d ih =>
    intro j x hj hd hx
    have hlt : j < l.length := by omega
    rw [List.drop_eq_getElem_cons hlt, byN]
    by_cases ht : l[j].f1.toList = t.toList
    · by_cases hi : 1 ≤ l[j].f0 ∧ l[j].f0 ≤ 64
      · have hh : hitB t l[j] = true := by
          unfold hitB; rw [decide_eq_true hi, Bool.and_true, beq_iff_eq]; exact ht
        rw [if_pos hh]
        refine Ev.step (fun k => ?_) (ih (j + 1) _ (by omega) (by omega) (or_pow_lt x (l[j].f0.toNat - 1) hx (by omega)))
        simp only [book_By.l0]
        rw [if_pos (by omega), if_pos (by omega), if_pos (by omega), rd_eq l j hlt, if_pos ht, seatPut_f x hx _ hi.1 hi.2]
        simp only [Option.bind_some]
        rw [if_pos trivial, wrap_small (by omega) (by omega)]
        rfl
      · have hh : ¬ hitB t l[j] = true := by
          unfold hitB; rw [decide_eq_false hi, Bool.and_false]; decide
        rw [if_neg hh]
        refine Ev.step (fun k => ?_) (ih (j + 1) _ (by omega) (by omega) hx)
        simp only [book_By.l0]
        rw [if_pos (by omega), if_pos (by omega), if_pos (by omega), rd_eq l j hlt, if_pos ht, put_no x _ hi]
        simp only [Option.bind_some]
        rw [if_neg (by decide), wrap_small (by omega) (by omega)]
        rfl
    · have hh : ¬ hitB t l[j] = true := by
        unfold hitB
        rw [Bool.and_eq_true, beq_iff_eq]
        exact fun h => ht h.1
      rw [if_neg hh]
      refine Ev.step (fun k => ?_) (ih (j + 1) _ (by omega) (by omega) hx)
      simp only [book_By.l0]
      rw [if_pos (by omega), if_pos (by omega), if_pos (by omega), rd_eq l j hlt, if_neg ht, wrap_small (by omega) (by omega)]
      rfl
theorem by_ev (t : ByteArray) (l : List S24) (hl : l.length ≤ 9223372036854775806) : Ev (fun k => book_By.f k l t) ((byN t l 0 : Nat) : Int) := by
  have := by_loop t l hl l.length 0 0 (Nat.zero_le _) (by omega) (by decide)
  exact this
theorem andNot_u64 (x y : Nat) (hx : x < 18446744073709551616) (hy : y < 18446744073709551616) : Go.bits .andNot .u64 (x : Int) (y : Int) = ((x &&& (18446744073709551615 - y) : Nat) : Int) := u64_andNot_nat x y hx hy
/-- Is one set within another? -/
def subN (x y : Nat) : Bool := decide (∀ m : Fin 64, x.testBit m = true → y.testBit m = true)
theorem subN_iff {x y : Nat} : subN x y = true ↔ ∀ m, m < 64 → x.testBit m = true → y.testBit m = true := by
  unfold subN
  rw [decide_eq_true_iff]
  exact ⟨fun h m hm => h ⟨m, hm⟩, fun h m => h m.1 m.2⟩
theorem andNot_zero (x y : Nat) (hx : x < 18446744073709551616) (hy : y < 18446744073709551616) : (Go.bits .andNot .u64 (x : Int) (y : Int) == 0) = subN x y := by
  rw [andNot_u64 x y hx hy, Bool.eq_iff_iff, beq_iff_eq, subN_iff]
  have e : ∀ m, (18446744073709551615 - y).testBit m = (decide (m < 64) && !y.testBit m) := fun m => by
    have := Nat.testBit_two_pow_sub_succ (n := 64) (x := y) (by simpa using hy) m
    rw [show 2 ^ 64 - (y + 1) = 18446744073709551615 - y by omega] at this
    exact this
  constructor
  · intro h m hm hb
    have h0 : x &&& (18446744073709551615 - y) = 0 := by exact_mod_cast h
    have := congrArg (fun n => n.testBit m) h0
    simp only [Nat.testBit_and, e, hb, Nat.zero_testBit, decide_eq_true hm, Bool.true_and] at this
    simpa using this
  · intro h
    have h0 : x &&& (18446744073709551615 - y) = 0 := by
      apply Nat.eq_of_testBit_eq
      intro m
      rw [Nat.testBit_and, e, Nat.zero_testBit]
      by_cases hm : m < 64
      · cases hb : x.testBit m with
        | false => rfl
        | true => rw [h m hm hb]; simp
      · rw [decide_eq_false hm]; simp
    exact_mod_cast h0
theorem all_ev (t : ByteArray) (l : List S24) (hl : l.length ≤ 9223372036854775806) (x : Nat) (hx : x < 18446744073709551616) : Ev (fun k => book_All.f k l x t) (subN x (byN t l 0)) := by
  unfold book_All.f
  refine Ev.bind (by_ev t l hl) ?_
  rw [andNot_zero x _ hx (byN_lt t l 0 (by decide))]
  exact Ev.now _

/-! ### the order of seals -/
theorem less_irrefl : ∀ x : List UInt8, Op.bytesLess x x = false
  | [] => rfl
  | a :: x => by simp [Op.bytesLess, less_irrefl x]
theorem less_trans : ∀ x y z : List UInt8, Op.bytesLess x y = true → Op.bytesLess y z = true → Op.bytesLess x z = true
  | [], _, [], _, h => by cases ‹List UInt8› <;> simp [Op.bytesLess] at h
  | [], _, _ :: _, _, _ => rfl
  | a :: x, [], _, h, _ => by simp [Op.bytesLess] at h
  | a :: x, b :: y, [], _, h => by simp [Op.bytesLess] at h
  | a :: x, b :: y, c :: z, h1, h2 => by
    simp only [Op.bytesLess, Bool.or_eq_true, Bool.and_eq_true, decide_eq_true_iff, beq_iff_eq] at h1 h2 ⊢
    rcases h1 with h1 | ⟨rfl, h1⟩
    · rcases h2 with h2 | ⟨rfl, h2⟩
      · exact .inl (UInt8.lt_trans h1 h2)
      · exact .inl h1
    · rcases h2 with h2 | ⟨rfl, h2⟩
      · exact .inl h2
      · exact .inr ⟨rfl, less_trans x y z h1 h2⟩
theorem less_tri : ∀ x y : List UInt8, Op.bytesLess x y = false → Op.bytesLess y x = false → x = y
  | [], [], _, _ => rfl
  | [], _ :: _, h, _ => by simp [Op.bytesLess] at h
  | _ :: _, [], _, h => by simp [Op.bytesLess] at h
  | a :: x, b :: y, h1, h2 => by
    simp only [Op.bytesLess, Bool.or_eq_false_iff, decide_eq_false_iff_not, Bool.and_eq_false_iff, beq_eq_false_iff_ne] at h1 h2
    have e : a = b := UInt8.le_antisymm (UInt8.not_lt.1 h2.1) (UInt8.not_lt.1 h1.1)
    subst e
    rw [less_tri x y (h1.2.resolve_left (fun h => h rfl)) (h2.2.resolve_left (fun h => h rfl))]
def ltB (x y : S24) : Bool := aheadB x.f0 x.f1 y
theorem ltB_iff {x y : S24} : ltB x y = true ↔ x.f0 < y.f0 ∨ (x.f0 = y.f0 ∧ Op.bytesLess x.f1.toList y.f1.toList = true) := by
  unfold ltB aheadB
  rw [Bool.or_eq_true, Bool.and_eq_true, decide_eq_true_iff, beq_iff_eq]
theorem ltB_irrefl (x : S24) : ltB x x = false := by
  cases h : ltB x x with
  | false => rfl
  | true =>
    rw [ltB_iff, less_irrefl] at h
    rcases h with h | h
    · omega
    · cases h.2
theorem ltB_trans {x y z : S24} (h1 : ltB x y = true) (h2 : ltB y z = true) : ltB x z = true := by
  rw [ltB_iff] at *
  rcases h1 with h1 | ⟨h1, h1'⟩
  · rcases h2 with h2 | ⟨h2, _⟩ <;> left <;> omega
  · rcases h2 with h2 | ⟨h2, h2'⟩
    · left; omega
    · right; exact ⟨by omega, less_trans _ _ _ h1' h2'⟩
theorem ltB_tri {x y : S24} (h1 : ltB x y = false) (h2 : ltB y x = false) : x = y := by
  have a1 : ¬ (ltB x y = true) := by rw [h1]; decide
  have a2 : ¬ (ltB y x = true) := by rw [h2]; decide
  rw [ltB_iff] at a1 a2
  have e : x.f0 = y.f0 := by
    rcases Int.lt_trichotomy x.f0 y.f0 with h | h | h
    · exact absurd (.inl h) a1
    · exact h
    · exact absurd (.inl h) a2
  have b1 : Op.bytesLess x.f1.toList y.f1.toList = false := by
    cases h : Op.bytesLess x.f1.toList y.f1.toList with
    | false => rfl
    | true => exact absurd (.inr ⟨e, h⟩) a1
  have b2 : Op.bytesLess y.f1.toList x.f1.toList = false := by
    cases h : Op.bytesLess y.f1.toList x.f1.toList with
    | false => rfl
    | true => exact absurd (.inr ⟨e.symm, h⟩) a2
  exact S24_ext e (less_tri _ _ b1 b2)
end Go.Proofs.Ytigbkmbcoiodmaa.Pure
