/- BookTwice: what the law comes to is true at every book and seal; condition: the book's length is below 5864062014700. -/
import Derived.Test.YtigbkmbcoiodmaaPure0
import Derived.Test.YtigbkmbcoiodmaaQ9
namespace Go.Proofs.Ytigbkmbcoiodmaa.Pure
open Go.RowKit Go.Proofs.Ytigbkmbcoiodmaa.Q Go.Proofs.YtigbkmbcoiodmaaW.PrintWords Go.Proofs.YtigbkmbcoiodmaaW.PrintLast Go.Proofs.YtigbkmbcoiodmaaW.PrintMore
theorem shown_at : selvedgelaw06_shown.f 12 = some true := by decide +kernel
theorem shown_ev : Ev (fun k => selvedgelaw06_shown.f k) true := Ev.of (fun k => selvedgelaw06_shown.mono k) shown_at
theorem twice_is (l : List S24) (a : Int) (b : ByteArray) : (putB (putB l a b) a b).length = (putB l a b).length := by
  by_cases h : 1 ≤ a ∧ a ≤ 64
  · rw [putB_in (putB l a b) a b (mem_putB.2 (.inr ⟨h, rfl⟩))]
  · rw [putB_no (putB l a b) a b h]
theorem BookTwice (l : List S24) (a : Int) (b : ByteArray) (hl : l.length ≤ 5864062014700) : ∃ k, selvedgelaw06_BookTwice.f k l a b = some true := by
  refine Ev.rounds (g := fun k => selvedgelaw06_BookTwice.f k l a b) ?_
  unfold selvedgelaw06_BookTwice.f
  refine Ev.bind shown_ev ?_
  have h1 := len_putB_le l a b
  rw [put_f l a b (by omega)]
  simp only [Option.bind_some]
  rw [put_f (putB l a b) a b (by omega)]
  simp only [Option.bind_some, twice_is, if_true]
  rw [decide_eq_true (by rw [wrap_small (by omega) (by omega)]; omega)]
  exact Ev.now _
end Go.Proofs.Ytigbkmbcoiodmaa.Pure
