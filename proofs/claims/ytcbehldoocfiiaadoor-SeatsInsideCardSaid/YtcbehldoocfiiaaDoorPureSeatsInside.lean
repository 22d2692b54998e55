/- SeatsInside: what the law comes to is true at every set and number. -/
import Derived.Test.YtcbehldoocfiiaaDoorPure0
namespace Go.Proofs.YtcbehldoocfiiaaDoor.Pure
open Go.RowKit Go.Proofs.YtcbehldoocfiiaaDoor.Q Go.Proofs.YtcbehldoocfiiaaDoorW.PrintWords Go.Proofs.YtcbehldoocfiiaaDoorW.PrintLast Go.Proofs.YtcbehldoocfiiaaDoorW.PrintMore

theorem inside_loop (x : Nat) (hx : x < 18446744073709551616) (n : Nat) (hn : n ≤ 64) (d : Nat) : ∀ (id : Int) (inn : Bool), 1 ≤ id → id ≤ 65 → 65 - id = d →
    (inn = true ↔ ∀ i ∈ seatsOf x, i < id → i ≤ (n : Int)) → Ev (fun k => selvedgelaw05_SeatsInside.l0 k x n true inn id) true := by
  induction d with
  | zero =>
    intro id inn h1 h2 hd hin
    refine Ev.step (f := fun _ => some true) (fun k => ?_) (Ev.now true)
    simp only [selvedgelaw05_SeatsInside.l0]
    rw [if_neg (by omega), if_pos trivial, within_f x n hn]
    simp only [Option.bind_some]
    congr 1
    rw [beq_iff_eq, Bool.eq_iff_iff, decide_eq_true_iff, lt_pow_iff x n hx, hin]
    exact ⟨fun h i hi _ => h i hi, fun h i hi => h i hi (by have := ((mem_seatsOf x i).1 hi).2.1; omega)⟩
  | succ d ih =>
    intro id inn h1 h2 hd hin
    have hstep : ∀ b : Bool, (b = true ↔ ∀ i ∈ seatsOf x, i < id + 1 → i ≤ (n : Int)) → Ev (fun k => selvedgelaw05_SeatsInside.l0 k x n true b (wrap64 (id + 1))) true := by
      intro b hb
      rw [wrap_small (by omega) (by omega)]
      exact ih (id + 1) b (by omega) (by omega) (by omega) hb
    have hmem := mem_seatsOf x id
    cases hi : inn with
    | false =>
      refine Ev.step (fun k => ?_) (hstep false ?_)
      · simp only [selvedgelaw05_SeatsInside.l0]
        rw [if_pos (by omega), if_neg (by decide)]
      · rw [hi] at hin
        have := (not_congr hin).1 (by simp)
        constructor
        · intro h; cases h
        · intro h; exact (this fun i hi2 hl => h i hi2 (by omega)).elim
    | true =>
      rw [hi] at hin
      have hall := hin.1 rfl
      cases hb : x.testBit (id.toNat - 1) with
      | true =>
        refine Ev.step (fun k => ?_) (hstep (decide (id ≤ (n : Int))) ?_)
        · simp only [selvedgelaw05_SeatsInside.l0]
          rw [if_pos (by omega), if_pos trivial, has_f x hx id h1 (by omega), hb]
          rfl
        · rw [decide_eq_true_iff]
          constructor
          · intro h i hi2 hl
            rcases Int.lt_or_le i id with hlt | hge
            · exact hall i hi2 hlt
            · obtain rfl : i = id := by omega
              exact h
          · intro h; exact h id (hmem.2 ⟨h1, by omega, hb⟩) (by omega)
      | false =>
        refine Ev.step (fun k => ?_) (hstep true ?_)
        · simp only [selvedgelaw05_SeatsInside.l0]
          rw [if_pos (by omega), if_pos trivial, has_f x hx id h1 (by omega), hb]
          rfl
        · refine ⟨fun _ i hi2 hl => ?_, fun _ => rfl⟩
          rcases Int.lt_or_le i id with hlt | hge
          · exact hall i hi2 hlt
          · obtain rfl : i = id := by omega
            rw [(hmem.1 hi2).2.2] at hb; cases hb

theorem SeatsInside (a n : Int) (ha : (Lit.int .u64 a).wf = true) (hn : (Lit.int .i64 n).wf = true) : ∃ k, selvedgelaw05_SeatsInside.f k a n = some true := by
  obtain ⟨x, rfl, hx⟩ := u64_nat ha
  refine Ev.rounds (g := fun k => selvedgelaw05_SeatsInside.f k x n) ?_
  unfold selvedgelaw05_SeatsInside.f
  refine Ev.bind shown_ev ?_
  by_cases h0 : n < 0
  · simp only [if_pos h0]
    refine Ev.step (f := fun _ => some true) (fun k => ?_) (Ev.now true)
    simp only [selvedgelaw05_SeatsInside.j0]
    rw [if_pos trivial, if_pos trivial, within_no x n (by omega)]; rfl
  · simp only [if_neg h0]
    by_cases h1 : n > 64
    · rw [decide_eq_true h1]
      refine Ev.step (f := fun _ => some true) (fun k => ?_) (Ev.now true)
      simp only [selvedgelaw05_SeatsInside.j0]
      rw [if_pos trivial, if_pos trivial, within_no x n (by omega)]; rfl
    · rw [decide_eq_false h1]
      obtain ⟨m, rfl⟩ := Int.eq_ofNat_of_zero_le (show 0 ≤ n by omega)
      refine Ev.step (fun k => ?_) (inside_loop x hx m (by omega) 64 1 true (by omega) (by omega) (by omega) ?_)
      · simp only [selvedgelaw05_SeatsInside.j0]
        rw [if_neg (by decide)]
      · refine ⟨fun _ i hi hl => ?_, fun _ => rfl⟩
        have := ((mem_seatsOf x i).1 hi).1
        omega

end Go.Proofs.YtcbehldoocfiiaaDoor.Pure
