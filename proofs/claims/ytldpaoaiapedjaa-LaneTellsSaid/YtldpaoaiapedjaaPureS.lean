/- Batches and lanes are the same just if they are equal: the document's way. Condition: lengths below what memory holds. -/
import Derived.Test.YtldpaoaiapedjaaPureT
import Derived.Test.YtldpaoaiapedjaaPureA
import Derived.Test.YtldpaoaiapedjaaQ8
namespace Go.Proofs.Ytldpaoaiapedjaa.Pure
open Go.RowKit Go.Proofs.Ytldpaoaiapedjaa.Q Go.Proofs.YtldpaoaiapedjaaW.PrintWords Go.Proofs.YtldpaoaiapedjaaW.PrintLast Go.Proofs.YtldpaoaiapedjaaW.PrintMore
theorem S42_iff (x y : S42) : (x.f0 = y.f0 ∧ x.f1 = y.f1 ∧ x.f2 = y.f2) ↔ x = y := by
  constructor
  · rintro ⟨h0, h1, h2⟩
    cases x; cases y
    simp only at h0 h1 h2
    subst h0 h1 h2
    rfl
  · rintro rfl
    exact ⟨rfl, rfl, rfl⟩
instance : DecidableEq S42 := fun x y => decidable_of_iff _ (S42_iff x y)
theorem refSame7_ev (a n : Int) (p : List ByteArray) (b m : Int) (q : List ByteArray) (hl : p.length ≤ 9223372036854775806) : Ev (fun k => R07_Same.f k a n p b m q) (decide ((⟨a, n, p⟩ : S42) = ⟨b, m, q⟩)) := by
  unfold R07_Same.f
  refine Ev.bind (refSame1_ev p q hl) ?_
  have he : decide ((⟨a, n, p⟩ : S42) = ⟨b, m, q⟩) = decide (a = b ∧ n = m ∧ p = q) := by rw [Bool.eq_iff_iff, decide_eq_true_iff, decide_eq_true_iff, ← S42_iff]
  rw [he]
  by_cases h : p = q
  · simp only [decide_eq_true h, if_true]
    by_cases h1 : a = b
    · simp only [if_pos h1]
      rw [show decide (a = b ∧ n = m ∧ p = q) = (n == m) by rw [Bool.eq_iff_iff, decide_eq_true_iff, beq_iff_eq]; exact ⟨fun h => h.2.1, fun h2 => ⟨h1, h2, h⟩⟩]
      exact Ev.now _
    · simp only [if_neg h1]
      rw [decide_eq_false (fun h => h1 h.1)]
      exact Ev.now _
  · simp only [decide_eq_false h, if_neg (show ¬ (false = true) by decide)]
    rw [decide_eq_false (fun h2 => h h2.2.2)]
    exact Ev.now _
theorem eta42 (x : S42) : (⟨x.f0, x.f1, x.f2⟩ : S42) = x := rfl
/-- Each batch's row of texts has a length. -/
def short (l : List S42) : Prop := ∀ x ∈ l, x.f2.length ≤ 9223372036854775806
theorem refSameAll_loop (l m : List S42) (hl : l.length ≤ 9223372036854775806) (hs : short l) (hm : l.length = m.length) (d : Nat) : ∀ j : Nat, j ≤ l.length → l.length - j = d → Ev (fun k => R07_SameAll.l0 k l m (j : Int)) (decide (l.drop j = m.drop j)) := by
  induction d with
  | zero =>
    intro j hj hd
    rw [drop_end l m j (by omega) (by omega)]
    refine Ev.step (f := fun _ => some _) (fun k => ?_) (Ev.now _)
    rw [R07_SameAll.l0, if_neg (by omega)]
  | succ d ih =>
    intro j hj hd
    have h1 : j < l.length := by omega
    have h2 : j < m.length := by omega
    rw [drop_eq l m j h1 h2]
    refine Ev.step (f := fun k => (R07_Same.f k l[j].f0 l[j].f1 l[j].f2 m[j].f0 m[j].f1 m[j].f2).bind fun t => (if t = true then (R07_SameAll.l0 k l m (((j + 1 : Nat)) : Int)) else (some false))) (fun k => ?_) ?_
    · rw [R07_SameAll.l0, if_pos (by omega), if_pos (by omega), if_pos (by omega), rd_at42 l j h1, rd_at42 m j h2, wrap_small (by omega) (by omega)]
      rfl
    · refine Ev.bind (refSame7_ev _ _ _ _ _ _ (hs _ (List.getElem_mem h1))) ?_
      rw [eta42, eta42]
      by_cases h : l[j] = m[j]
      · simp only [decide_eq_true h, if_true, if_pos h]
        exact ih (j + 1) (by omega) (by omega)
      · simp only [decide_eq_false h, if_neg h, if_neg (show ¬ (false = true) by decide)]
        exact Ev.now _
theorem refSameAll_ev (l m : List S42) (hl : l.length ≤ 9223372036854775806) (hs : short l) : Ev (fun k => R07_SameAll.f k l m) (decide (l = m)) := by
  unfold R07_SameAll.f
  by_cases h : l.length = m.length
  · simp only [if_pos (show (l.length : Int) = (m.length : Int) by omega)]
    exact refSameAll_loop l m hl hs h l.length 0 (Nat.zero_le _) (by omega)
  · simp only [if_neg (show ¬ (l.length : Int) = (m.length : Int) by omega)]
    rw [show decide (l = m) = false from decide_eq_false (fun e => h (by rw [e]))]
    exact Ev.now _
def pickV (op : List S42) (many : Int) : List S42 := op.take many.toNat
theorem pick_f (a n : Int) (p : List ByteArray) (op : List S42) (many : Int) (hl : op.length ≤ 3518437208782) : lane_Pick.f a n p op many = some (pickV op many) := by
  unfold lane_Pick.f pickV
  have e : mn (mx many 0) (op.length : Int) = ((min many.toNat op.length : Nat) : Int) := by unfold mn mx; omega
  rw [e, if_pos (by omega), if_pos (by omega)]
  unfold cloneB.f
  rw [if_pos (by rw [List.length_take]; omega)]
  simp only [Option.bind_some, Int.toNat_natCast]
  congr 1
  rw [List.take_eq_take_iff]
  omega
theorem same_self (l : List S42) (hl : l.length ≤ 9223372036854775806) (hs : short l) : Ev (fun k => R07_SameAll.f k l l) true := by
  have := refSameAll_ev l l hl hs
  rw [show decide (l = l) = true from decide_eq_true rfl] at this
  exact this
theorem short_take {l : List S42} (h : short l) (i : Nat) : short (l.take i) := fun x hx => h x (List.mem_of_mem_take hx)
end Go.Proofs.Ytldpaoaiapedjaa.Pure
