/- Lanes are the same just if they are equal: the document's way. Condition: lengths below what memory holds. -/
import Derived.Test.YtldpaoaiapedjaaPureS
import Derived.Test.YtldpaoaiapedjaaX
namespace Go.Proofs.Ytldpaoaiapedjaa.Pure
open Go.RowKit Go.Proofs.Ytldpaoaiapedjaa.Q Go.Proofs.YtldpaoaiapedjaaW.PrintWords Go.Proofs.YtldpaoaiapedjaaW.PrintLast Go.Proofs.YtldpaoaiapedjaaW.PrintMore
theorem refSame16_ev (a n : Int) (p : List ByteArray) (op : List S42) (b m : Int) (q : List ByteArray) (oq : List S42) (hp : p.length ≤ 9223372036854775806) (hl : op.length ≤ 9223372036854775806) (hs : short op) : Ev (fun k => R16_Same.f k a n p op b m q oq) (decide (a = b ∧ n = m ∧ p = q ∧ op = oq)) := by
  unfold R16_Same.f
  refine Ev.bind (refSame1_ev p q hp) ?_
  refine Ev.bind (refSameAll_ev op oq hl hs) ?_
  by_cases h1 : p = q
  · simp only [decide_eq_true h1, if_true]
    by_cases h2 : op = oq
    · simp only [decide_eq_true h2, if_true]
      by_cases h3 : a = b
      · simp only [if_pos h3]
        rw [show decide (a = b ∧ n = m ∧ p = q ∧ op = oq) = (n == m) by rw [Bool.eq_iff_iff, decide_eq_true_iff, beq_iff_eq]; exact ⟨fun h => h.2.1, fun h => ⟨h3, h, h1, h2⟩⟩]
        exact Ev.now _
      · simp only [if_neg h3]
        rw [decide_eq_false (fun h => h3 h.1)]
        exact Ev.now _
    · simp only [decide_eq_false h2, if_neg (show ¬ (false = true) by decide)]
      rw [decide_eq_false (fun h => h2 h.2.2.2)]
      exact Ev.now _
  · simp only [decide_eq_false h1, if_neg (show ¬ (false = true) by decide)]
    rw [decide_eq_false (fun h => h1 h.2.2.1)]
    exact Ev.now _
theorem refSame16_self (a n : Int) (p : List ByteArray) (op : List S42) (hp : p.length ≤ 9223372036854775806) (hl : op.length ≤ 9223372036854775806) (hs : short op) : Ev (fun k => R16_Same.f k a n p op a n p op) true := by
  have := refSame16_ev a n p op a n p op hp hl hs
  rw [decide_eq_true ⟨rfl, rfl, rfl, rfl⟩] at this
  exact this
end Go.Proofs.Ytldpaoaiapedjaa.Pure
