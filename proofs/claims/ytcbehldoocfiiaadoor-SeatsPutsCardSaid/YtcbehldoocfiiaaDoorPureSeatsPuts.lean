/- SeatsPuts: what the law comes to is true at every set and two seats. -/
import Derived.Test.YtcbehldoocfiiaaDoorPure0
namespace Go.Proofs.YtcbehldoocfiiaaDoor.Pure
open Go.RowKit Go.Proofs.YtcbehldoocfiiaaDoor.Q Go.Proofs.YtcbehldoocfiiaaDoorW.PrintWords Go.Proofs.YtcbehldoocfiiaaDoorW.PrintLast Go.Proofs.YtcbehldoocfiiaaDoorW.PrintMore

theorem SeatsPuts (a i o : Int) (ha : (Lit.int .u64 a).wf = true) (_hi : (Lit.int .i64 i).wf = true) (_ho : (Lit.int .i64 o).wf = true) : ∃ k, selvedgelaw05_SeatsPuts.f k a i o = some true := by
  obtain ⟨x, rfl, hx⟩ := u64_nat ha
  refine Ev.rounds (g := fun k => selvedgelaw05_SeatsPuts.f k x i o) ?_
  unfold selvedgelaw05_SeatsPuts.f
  refine Ev.bind shown_ev ?_
  by_cases h : 1 ≤ i ∧ i ≤ 64
  · obtain ⟨h1, h2⟩ := h
    have hj : i.toNat - 1 < 64 := by omega
    have hor := or_pow_lt x (i.toNat - 1) hx hj
    simp only [put_f x hx i h1 h2, Option.bind_some, if_true, count_f x hx, has_f x hx i h1 h2]
    have hcnt := cnt_put x (i.toNat - 1) hj
    rw [← seatsOf_length, ← seatsOf_length] at hcnt
    have hle := seatsOf_length_le x
    have last : ∀ c : Int, c = ((seatsOf (x ||| 2 ^ (i.toNat - 1))).length : Int) → Ev (fun k => selvedgelaw05_SeatsPuts.j0 k x i o true ((x ||| 2 ^ (i.toNat - 1) : Nat) : Int) c) true := by
      intro c hc
      refine Ev.step (f := fun _ => some true) (fun k => ?_) (Ev.now true)
      simp only [selvedgelaw05_SeatsPuts.j0]
      rw [if_pos trivial, has_f _ hor i h1 h2]
      simp only [Option.bind_some]
      rw [if_pos (by rw [Nat.testBit_or, Nat.testBit_two_pow_self, Bool.or_true]), count_f _ hor]
      simp only [Option.bind_some]
      rw [if_pos hc.symm]
      by_cases he : o = i
      · rw [if_pos he]
      · rw [if_neg he]
        by_cases ho : 1 ≤ o ∧ o ≤ 64
        · rw [has_f _ hor o ho.1 ho.2, has_f x hx o ho.1 ho.2]
          simp only [Option.bind_some]
          congr 1
          rw [beq_iff_eq, Nat.testBit_or, Nat.testBit_two_pow, decide_eq_false (by omega), Bool.or_false]
        · rw [has_no _ o ho, has_no _ o ho]; rfl
    cases hb : x.testBit (i.toNat - 1) with
    | true =>
      simp only [if_true]
      exact last _ (by rw [hcnt, hb, if_pos rfl]; omega)
    | false =>
      simp only [if_neg (show ¬ (false = true) by decide)]
      refine last _ ?_
      rw [hcnt, hb, if_neg (by decide), wrap_small (by omega) (by omega)]
      omega
  · simp only [put_no x i h, Option.bind_some]
    simp only [if_neg (show ¬ ((1 : Int) = 0) by decide), if_true]
    by_cases h1 : i < 1
    · simp only [if_pos h1]; exact Ev.now true
    · simp only [if_neg h1]
      rw [decide_eq_true (by omega)]
      exact Ev.now true

end Go.Proofs.YtcbehldoocfiiaaDoor.Pure
