/- LaneOpens: what the law comes to is true at every lane and text. Conditions: lengths below what memory holds. -/
import Derived.Test.YtldpaoaiapedjaaPureR
import Derived.Test.YtldpaoaiapedjaaQ6
namespace Go.Proofs.Ytldpaoaiapedjaa.Pure
open Go.RowKit Go.Proofs.Ytldpaoaiapedjaa.Q Go.Proofs.YtldpaoaiapedjaaW.PrintWords Go.Proofs.YtldpaoaiapedjaaW.PrintLast Go.Proofs.YtldpaoaiapedjaaW.PrintMore
theorem right_pool {a n : Int} {p : List ByteArray} {op : List S42} (h : rightD a n p op = true) : p.length ≤ 4 ∧ (p.length = 4 → leftD n op = false) := by
  unfold rightD at h
  simp only [Bool.and_eq_true, decide_eq_true_iff, Bool.not_eq_true', Bool.and_eq_false_iff, decide_eq_false_iff_not] at h
  obtain ⟨⟨h1, _⟩, h2, _⟩ := h
  exact ⟨h1.2.2.2.2, fun h4 => h2.resolve_left (fun h => h h4)⟩
theorem opens_j (a n : Int) (p : List ByteArray) (op : List S42) (t : ByteArray) (b : Bool) (hl : op.length ≤ 3518437208782) (h : b = false → rightD a n p op = true ∧ 1 ≤ t.size ∧ t.size ≤ 48) : Ev (fun k => L16_LaneOpens.j0 k t true b a n p op) true := by
  cases b with
  | true =>
    refine Ev.step (f := fun _ => some _) (fun k => ?_) (Ev.now _)
    rw [L16_LaneOpens.j0, if_pos rfl]
  | false =>
    obtain ⟨hr, h1, h2⟩ := h rfl
    obtain ⟨h4, hleft⟩ := right_pool hr
    refine Ev.step (f := fun _ => some _) (fun k => ?_) (Ev.now _)
    rw [L16_LaneOpens.j0, if_neg (by decide), submit_f a n p op t hl, refLeft_is]
    simp only [Option.bind_some, if_true]
    by_cases hp : 4 ≤ p.length
    · have e : (subV a n p op t).2.2.2.2 = 5 := by unfold subV; rw [if_neg (by omega), if_neg (by omega), if_pos hp]
      rw [e, if_neg (by decide), if_pos rfl, hleft (by omega)]
      rfl
    · have e : (subV a n p op t).2.2.2.2 = 0 := by unfold subV; rw [if_neg (by omega), if_neg (by omega), if_neg hp]
      rw [e, if_pos rfl]
theorem LaneOpens (a n : Int) (p : List ByteArray) (op : List S42) (t : ByteArray) (hp : p.length ≤ 9223372036854775806) (hl : op.length ≤ 3518437208782) (hs : shortR op) : ∃ k, L16_LaneOpens.f k a n p op t = some true := by
  refine Ev.rounds (g := fun k => L16_LaneOpens.f k a n p op t) ?_
  unfold L16_LaneOpens.f L16_shown.f
  simp only [Option.bind_some]
  refine Ev.bind (refRight_ev a n p op hp (by omega) hs) ?_
  cases hr : rightD a n p op with
  | false =>
    simp only [if_neg (show ¬ (false = true) by decide)]
    exact opens_j a n p op t true hl (fun h => by cases h)
  | true =>
    simp only [if_true]
    by_cases h1 : (t.size : Int) < 1
    · simp only [if_pos h1]
      exact opens_j a n p op t true hl (fun h => by cases h)
    · simp only [if_neg h1]
      exact opens_j a n p op t _ hl (fun h => ⟨hr, by omega, by have := of_decide_eq_false h; omega⟩)
end Go.Proofs.Ytldpaoaiapedjaa.Pure
