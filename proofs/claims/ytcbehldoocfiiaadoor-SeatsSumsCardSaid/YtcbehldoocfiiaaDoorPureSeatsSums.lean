/- SeatsSums: what the law comes to is true at every two sets. -/
import Derived.Test.YtcbehldoocfiiaaDoorPure0
namespace Go.Proofs.YtcbehldoocfiiaaDoor.Pure
open Go.RowKit Go.Proofs.YtcbehldoocfiiaaDoor.Q Go.Proofs.YtcbehldoocfiiaaDoorW.PrintWords Go.Proofs.YtcbehldoocfiiaaDoorW.PrintLast Go.Proofs.YtcbehldoocfiiaaDoorW.PrintMore

theorem cnt_or_and (n x y : Nat) : cnt n (x ||| y) + cnt n (x &&& y) = cnt n x + cnt n y := by
  induction n generalizing x y with
  | zero => rfl
  | succ n ih =>
    have h := ih (x / 2) (y / 2)
    have e1 : (x ||| y) / 2 = x / 2 ||| y / 2 := Nat.or_div_two
    have e2 : (x &&& y) / 2 = x / 2 &&& y / 2 := Nat.and_div_two
    have e3 : (x ||| y) % 2 + (x &&& y) % 2 = x % 2 + y % 2 := by
      have h1 : (x ||| y) % 2 = 1 ↔ x % 2 = 1 ∨ y % 2 = 1 := Nat.or_mod_two_eq_one
      have h2 : (x &&& y) % 2 = 1 ↔ x % 2 = 1 ∧ y % 2 = 1 := Nat.and_mod_two_eq_one
      generalize (x ||| y) = p at *
      generalize (x &&& y) = q at *
      omega
    simp only [cnt, e1, e2]
    omega

theorem SeatsSums (a b : Int) (ha : (Lit.int .u64 a).wf = true) (hb : (Lit.int .u64 b).wf = true) : ∃ k, selvedgelaw05_SeatsSums.f k a b = some true := by
  obtain ⟨k, hk⟩ := shown_ev.rounds
  obtain ⟨x, rfl, hx⟩ := u64_nat ha
  obtain ⟨y, rfl, hy⟩ := u64_nat hb
  refine ⟨k, ?_⟩
  unfold selvedgelaw05_SeatsSums.f
  rw [hk, or_u64 x y rfl rfl hx hy, and_u64 x y rfl rfl hx hy, count_f x hx, count_f y hy, count_f _ (Nat.or_lt_two_pow (n := 64) hx hy), count_f _ (Nat.and_lt_two_pow (n := 64) _ hy)]
  simp only [Option.bind_some, if_true]
  have h := cnt_or_and 64 x y
  rw [← seatsOf_length, ← seatsOf_length, ← seatsOf_length, ← seatsOf_length] at h
  have h1 := seatsOf_length_le x; have h2 := seatsOf_length_le y
  rw [wrap_small (by omega) (by omega), wrap_small (by omega) (by omega)]
  congr 1
  rw [beq_iff_eq]; omega

end Go.Proofs.YtcbehldoocfiiaaDoor.Pure
