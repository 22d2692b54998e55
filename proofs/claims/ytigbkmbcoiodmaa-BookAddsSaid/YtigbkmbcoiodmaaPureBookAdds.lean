/- BookAdds: what the law comes to is true at every book, seal and text; condition: the book's length is below 5864062014700. -/
import Derived.Test.YtigbkmbcoiodmaaPureBookTwice
namespace Go.Proofs.Ytigbkmbcoiodmaa.Pure
open Go.RowKit Go.Proofs.Ytigbkmbcoiodmaa.Q Go.Proofs.YtigbkmbcoiodmaaW.PrintWords Go.Proofs.YtigbkmbcoiodmaaW.PrintLast Go.Proofs.YtigbkmbcoiodmaaW.PrintMore
theorem byN_ext {t : ByteArray} {l l' : List S24} (h : ∀ x : S24, x.f1.toList = t.toList → 1 ≤ x.f0 → x.f0 ≤ 64 → (x ∈ l ↔ x ∈ l')) : byN t l 0 = byN t l' 0 := by
  apply Nat.eq_of_testBit_eq
  intro m
  by_cases hm : m < 64
  · rw [byN_bit t m hm, byN_bit t m hm, any_same, any_same]
    congr 1
    rw [decide_eq_decide]
    exact h ⟨(m : Int) + 1, t⟩ rfl (by show (1 : Int) ≤ m + 1; omega) (by show (m : Int) + 1 ≤ 64; omega)
  · have hp : 18446744073709551616 ≤ 2 ^ m := Nat.pow_le_pow_right (n := 2) (by decide) (show 64 ≤ m by omega)
    rw [Nat.testBit_lt_two_pow (Nat.lt_of_lt_of_le (byN_lt t l 0 (by decide)) hp), Nat.testBit_lt_two_pow (Nat.lt_of_lt_of_le (byN_lt t l' 0 (by decide)) hp)]
theorem byN_put (l : List S24) (a : Int) (b : ByteArray) (h : 1 ≤ a ∧ a ≤ 64) : byN b (putB l a b) 0 = byN b l 0 ||| 2 ^ (a.toNat - 1) := by
  apply Nat.eq_of_testBit_eq
  intro m
  by_cases hm : m < 64
  · rw [Nat.testBit_or, byN_bit b m hm, byN_bit b m hm, any_same, any_same, Nat.testBit_two_pow]
    simp only [Nat.zero_testBit, Bool.false_or]
    rw [← Bool.decide_or, decide_eq_decide, mem_putB]
    constructor
    · rintro (h' | ⟨_, h'⟩)
      · exact .inl h'
      · injection h' with h1 h2
        right; omega
    · rintro (h' | h')
      · exact .inl h'
      · right
        exact ⟨h, by rw [show (m : Int) + 1 = a by omega]⟩
  · have hp : 18446744073709551616 ≤ 2 ^ m := Nat.pow_le_pow_right (n := 2) (by decide) (show 64 ≤ m by omega)
    rw [Nat.testBit_lt_two_pow (Nat.lt_of_lt_of_le (byN_lt b _ 0 (by decide)) hp), Nat.testBit_lt_two_pow (Nat.lt_of_lt_of_le (or_pow_lt _ _ (byN_lt b l 0 (by decide)) (by omega)) hp)]
theorem byN_other (l : List S24) (a : Int) (b t : ByteArray) (ht : ¬ t.toList = b.toList) : byN t l 0 = byN t (putB l a b) 0 := by
  refine byN_ext (fun x hx h1 h2 => ?_)
  rw [mem_putB]
  refine ⟨.inl, fun h => h.elim id (fun h => ?_)⟩
  rw [h.2] at hx
  exact absurd hx.symm ht
theorem adds_loop (l c : List S24) (t : ByteArray) (w n : Int) (a : Int) (b : ByteArray) (j : Nat) (hj : j < 64) (ha : a = (j : Int) + 1) (d : Nat) : ∀ (m : Nat), m ≤ j → j - m = d →
    Ev (fun k => selvedgelaw06_BookAdds.l0 k l t true c w n ((2 ^ j : Nat) : Int) a a b) true → Ev (fun k => selvedgelaw06_BookAdds.l0 k l t true c w n ((2 ^ m : Nat) : Int) ((m : Int) + 1) a b) true := by
  induction d with
  | zero =>
    intro m hm hd h
    obtain rfl : m = j := by omega
    rw [ha] at h ⊢
    exact h
  | succ d ih =>
    intro m hm hd h
    have hp : 2 ^ (m + 1) < 2 ^ 64 := Nat.pow_lt_pow_right (by decide) (by omega)
    refine Ev.step (fun k => ?_) (ih (m + 1) (by omega) (by omega) h)
    rw [selvedgelaw06_BookAdds.l0, if_pos (by omega), wrap_small (by omega) (by omega), show IntKind.u64.wrap (((2 ^ m : Nat) : Int) * 2) = ((2 ^ (m + 1) : Nat) : Int) by rw [IntKind.wrap_u64, Nat.pow_succ]; rw [Nat.pow_succ] at hp; omega]
    rfl
theorem BookAdds (l : List S24) (a : Int) (b t : ByteArray) (hl : l.length ≤ 5864062014700) : ∃ k, selvedgelaw06_BookAdds.f k l a b t = some true := by
  refine Ev.rounds (g := fun k => selvedgelaw06_BookAdds.f k l a b t) ?_
  unfold selvedgelaw06_BookAdds.f
  refine Ev.bind shown_ev ?_
  have h1 := len_putB_le l a b
  rw [put_f l a b (by omega)]
  simp only [Option.bind_some]
  refine Ev.bind (by_ev b l (by omega)) ?_
  refine Ev.bind (by_ev b (putB l a b) (by omega)) ?_
  by_cases h : 1 ≤ a ∧ a ≤ 64
  · simp only [if_neg (show ¬ a < 1 by omega), decide_eq_false (show ¬ a > 64 by omega)]
    obtain ⟨j, rfl⟩ : ∃ j : Nat, a = (j : Int) + 1 := ⟨(a - 1).toNat, by omega⟩
    have hj : j < 64 := by omega
    refine Ev.step (f := fun k => selvedgelaw06_BookAdds.l0 k l t true (putB l ((j : Int) + 1) b) _ _ 1 1 ((j : Int) + 1) b) (fun k => by rw [selvedgelaw06_BookAdds.j0, if_neg (by decide)]) ?_
    refine adds_loop l _ t _ _ _ b j hj rfl j 0 (Nat.zero_le _) (by omega) ?_
    have hpow : 2 ^ j < 18446744073709551616 := Nat.pow_lt_pow_right (n := 64) (a := 2) (by decide) hj
    have hby := byN_put l ((j : Int) + 1) b h
    rw [show ((j : Int) + 1).toNat - 1 = j by omega] at hby
    by_cases ht : t.toList = b.toList
    · refine Ev.step (f := fun _ => some true) (fun k => ?_) (Ev.now _)
      rw [selvedgelaw06_BookAdds.l0, if_neg (by omega), if_pos rfl, hby, or_u64 (byN b l 0) (2 ^ j) rfl rfl (byN_lt b l 0 (by decide)) hpow, if_pos rfl, if_pos ht]
    · refine Ev.step (f := fun k => (book_By.f k l t).bind fun t260 => (book_By.f k (putB l ((j : Int) + 1) b) t).bind fun t261 => some (t260 == t261)) (fun k => ?_) ?_
      · rw [selvedgelaw06_BookAdds.l0, if_neg (by omega), if_pos rfl, hby, or_u64 (byN b l 0) (2 ^ j) rfl rfl (byN_lt b l 0 (by decide)) hpow, if_pos rfl, if_neg ht]
      · refine Ev.bind (by_ev t l (by omega)) ?_
        refine Ev.bind (by_ev t (putB l ((j : Int) + 1) b) (by omega)) ?_
        rw [← byN_other l _ b t ht]
        simp only [beq_self_eq_true]
        exact Ev.now _
  · have last : Ev (fun k => selvedgelaw06_BookAdds.j0 k l t true (putB l a b) ((byN b l 0 : Nat) : Int) ((byN b (putB l a b) 0 : Nat) : Int) true a b) true := by
      refine Ev.step (f := fun _ => some true) (fun k => ?_) (Ev.now _)
      rw [selvedgelaw06_BookAdds.j0, if_pos rfl, if_pos rfl, putB_no l a b h, beq_self_eq_true]
    by_cases h1 : a < 1
    · simp only [if_pos h1]; exact last
    · simp only [if_neg h1, decide_eq_true (show a > 64 by omega)]; exact last
end Go.Proofs.Ytigbkmbcoiodmaa.Pure
