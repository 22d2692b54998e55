/- LanePicks: what the law comes to is true at every lane and count. Conditions: lengths below what memory holds. -/
import Derived.Test.YtldpaoaiapedjaaPureS
import Derived.Test.YtldpaoaiapedjaaQ9
namespace Go.Proofs.Ytldpaoaiapedjaa.Pure
open Go.RowKit Go.Proofs.Ytldpaoaiapedjaa.Q Go.Proofs.YtldpaoaiapedjaaW.PrintWords Go.Proofs.YtldpaoaiapedjaaW.PrintLast Go.Proofs.YtldpaoaiapedjaaW.PrintMore
set_option linter.unusedVariables false
set_option linter.unusedSimpArgs false
theorem LanePicks (a n : Int) (p : List ByteArray) (op : List S42) (many : Int) (hl : op.length ≤ 3518437208782) (hs : short op) : ∃ k, L16_LanePicks.f k a n p op many = some true := by
  refine Ev.rounds (g := fun k => L16_LanePicks.f k a n p op many) ?_
  unfold L16_LanePicks.f L16_shown.f
  simp only [Option.bind_some]
  rw [pick_f a n p op many hl]
  simp only [Option.bind_some, if_true]
  have go : ∀ i, Ev (fun k => (R07_SameAll.f k (op.take i) (op.take i)).bind fun t => (some t)) true := fun i => by
    refine Ev.bind (same_self (op.take i) (by rw [List.length_take]; omega) (short_take hs i)) ?_
    exact Ev.now _
  unfold pickV
  by_cases h0 : many < 0
  · have e : many.toNat = 0 := by omega
    simp only [if_pos h0, if_neg (show ¬ (0 > (op.length : Int)) by omega), e]
    simp only [List.take_zero, List.length_nil, if_pos (show (0 : Int) ≤ (op.length : Int) by omega)]
    simp only [Int.ofNat_zero, if_true, show ((0 : Nat) : Int) = 0 from rfl]
    exact go 0
  · simp only [if_neg h0]
    by_cases h1 : many > (op.length : Int)
    · have e : op.take many.toNat = op := List.take_of_length_le (by omega)
      simp only [if_pos h1, e, if_true, if_pos (show (0 : Int) ≤ (op.length : Int) by omega), if_pos (show (op.length : Int) ≤ (op.length : Int) by omega), Int.toNat_natCast]
      have := go op.length
      rw [List.take_of_length_le (Nat.le_refl _)] at this
      rw [List.take_of_length_le (Nat.le_refl _)]
      exact this
    · have e : ((op.take many.toNat).length : Int) = many := by rw [List.length_take]; omega
      simp only [if_neg h1, e, if_true, if_pos (show 0 ≤ many by omega), if_pos (show many ≤ (op.length : Int) by omega)]
      exact go many.toNat
end Go.Proofs.Ytldpaoaiapedjaa.Pure
