/- What Go functions of this seat come to, as plain Lean functions, and the proof that each call does so, in whatever memory; its conditions stand in each theorem. Written by a program of this session (wip/gen), out of the print of the loaded translation. -/
import Derived.Test.YtcbehldoocfiiaaDoorQ0
import Derived.Test.YtcbehldoocfiiaaDoorQ1
import Derived.Test.YtcbehldoocfiiaaDoorQ2
namespace Go.Proofs.YtcbehldoocfiiaaDoor.Q
open Go.RowKit Go.Proofs.YtcbehldoocfiiaaDoorW.PrintWords Go.Proofs.YtcbehldoocfiiaaDoorW.PrintLast Go.Proofs.YtcbehldoocfiiaaDoorW.PrintMore
attribute [local go_sem] max2_int min2_int max_two min_two max_three min_three max_four min_four   -- for this text's walks alone
set_option linter.unusedVariables false
set_option linter.unusedSimpArgs false

/-! ### selvedgelaw05_SeatsMeet: function 7 -/
mutual
def selvedgelaw05_SeatsMeet.j0 : Nat → Int → Int → Int → Bool → Bool → Option (Bool)
  | 0, _, _, _, _, _ => none
  | k + 1, x0, x1, x2, x7, x34 => if x34 = true then (some x7) else ((seats_Count.f x2).bind fun t161 => ((seats_Quorum.f x0).bind fun t162 => (if t161 ≥ t162 then ((seats_Count.f (Go.bits .and .u64 x1 x2)).bind fun t163 => ((seats_Weak.f x0).bind fun t164 => (selvedgelaw05_SeatsMeet.j1 k x0 x1 x2 (decide (t163 < t164))))) else (selvedgelaw05_SeatsMeet.j1 k x0 x1 x2 false))))
def selvedgelaw05_SeatsMeet.j1 : Nat → Int → Int → Int → Bool → Option (Bool)
  | 0, _, _, _, _ => none
  | k + 1, x0, x1, x2, x49 => if x49 = true then (some false) else ((seats_Count.f x2).bind fun t165 => ((seats_Weak.f x0).bind fun t166 => (if t165 < t166 then (some true) else (some ((Go.bits .and .u64 x1 x2) != 0)))))
end
def selvedgelaw05_SeatsMeet.f (k : Nat) (a0 : Int) (a1 : Int) (a2 : Int) : Option (Bool) := (selvedgelaw05_shown.f k).bind fun t155 => (if t155 = true then ((seats_May.f a0).bind fun t156 => (if t156 = true then ((seats_Within.f a1 a0).bind fun t157 => (if t157 = true then ((seats_Within.f a2 a0).bind fun t158 => (if t158 = true then ((seats_Count.f a1).bind fun t159 => ((seats_Quorum.f a0).bind fun t160 => (selvedgelaw05_SeatsMeet.j0 k a0 a1 a2 t155 (decide (t159 < t160))))) else (selvedgelaw05_SeatsMeet.j0 k a0 a1 a2 t155 true))) else (selvedgelaw05_SeatsMeet.j0 k a0 a1 a2 t155 true))) else (selvedgelaw05_SeatsMeet.j0 k a0 a1 a2 t155 true))) else (selvedgelaw05_SeatsMeet.j0 k a0 a1 a2 t155 true))
theorem selvedgelaw05_SeatsMeet.mono_l : ∀ k, (∀ y0 y1 y2 y3 y4, LeO (selvedgelaw05_SeatsMeet.j0 k y0 y1 y2 y3 y4) (selvedgelaw05_SeatsMeet.j0 (k + 1) y0 y1 y2 y3 y4)) ∧ (∀ y0 y1 y2 y3, LeO (selvedgelaw05_SeatsMeet.j1 k y0 y1 y2 y3) (selvedgelaw05_SeatsMeet.j1 (k + 1) y0 y1 y2 y3))
  | 0 => ⟨fun _ _ _ _ _ r h => by simp [selvedgelaw05_SeatsMeet.j0] at h, fun _ _ _ _ r h => by simp [selvedgelaw05_SeatsMeet.j1] at h⟩
  | k + 1 => by
    obtain ⟨ih0, ih1⟩ := selvedgelaw05_SeatsMeet.mono_l k
    refine ⟨?_, ?_⟩
    · intro y0 y1 y2 y3 y4
      unfold selvedgelaw05_SeatsMeet.j0
      repeat' first
      | (with_reducible exact ih0 _ _ _ _ _)
      | (with_reducible exact ih1 _ _ _ _)
      | (with_reducible exact selvedgelaw05_shown.mono _)
      | (with_reducible exact LeO.refl _)
      | (with_reducible exact LeO.none _)
      | (with_reducible refine LeO.ite ?_ ?_)
      | (with_reducible refine LeO.bind ?_ (fun _ => ?_))
      | exact ih0 _ _ _ _ _
      | exact ih1 _ _ _ _
      | exact selvedgelaw05_shown.mono _
      | exact LeO.none _
      | refine LeO.ite ?_ ?_
      | refine LeO.bind ?_ (fun _ => ?_)
    · intro y0 y1 y2 y3
      unfold selvedgelaw05_SeatsMeet.j1
      repeat' first
      | (with_reducible exact ih0 _ _ _ _ _)
      | (with_reducible exact ih1 _ _ _ _)
      | (with_reducible exact selvedgelaw05_shown.mono _)
      | (with_reducible exact LeO.refl _)
      | (with_reducible exact LeO.none _)
      | (with_reducible refine LeO.ite ?_ ?_)
      | (with_reducible refine LeO.bind ?_ (fun _ => ?_))
      | exact ih0 _ _ _ _ _
      | exact ih1 _ _ _ _
      | exact selvedgelaw05_shown.mono _
      | exact LeO.none _
      | refine LeO.ite ?_ ?_
      | refine LeO.bind ?_ (fun _ => ?_)
theorem selvedgelaw05_SeatsMeet.mono : ∀ a0 a1 a2 k, LeO (selvedgelaw05_SeatsMeet.f k a0 a1 a2) (selvedgelaw05_SeatsMeet.f (k + 1) a0 a1 a2) := by
  intro a0 a1 a2 k
  obtain ⟨ih0, ih1⟩ := selvedgelaw05_SeatsMeet.mono_l k
  unfold selvedgelaw05_SeatsMeet.f
  repeat' first
      | (with_reducible exact ih0 _ _ _ _ _)
      | (with_reducible exact ih1 _ _ _ _)
      | (with_reducible exact selvedgelaw05_shown.mono _)
      | (with_reducible exact LeO.refl _)
      | (with_reducible exact LeO.none _)
      | (with_reducible refine LeO.ite ?_ ?_)
      | (with_reducible refine LeO.bind ?_ (fun _ => ?_))
      | exact ih0 _ _ _ _ _
      | exact ih1 _ _ _ _
      | exact selvedgelaw05_shown.mono _
      | exact LeO.none _
      | refine LeO.ite ?_ ?_
      | refine LeO.bind ?_ (fun _ => ?_)
set_option maxHeartbeats 8000000 in
set_option maxRecDepth 100000 in
theorem selvedgelaw05_SeatsMeet.calls (k : Nat) (a0 : Int) (a1 : Int) (a2 : Int) (r : Bool) (w : World) (ht : Tab w) (h : selvedgelaw05_SeatsMeet.f k a0 a1 a2 = some r) :
    Calls Tryd.prog 7 #[.int .i64 a0, .int .u64 a1, .int .u64 a2] w fun e w' => e = .returned (.bool r) ∧ Below w.heap.size w w' := by
  have HT := Aside0.mk ht
  clear ht
  have HB := Aside0.mk (Below.refl w.heap.size w)
  have H : ((selvedgelaw05_shown.f k).bind fun t155 => (if t155 = true then ((seats_May.f a0).bind fun t156 => (if t156 = true then ((seats_Within.f a1 a0).bind fun t157 => (if t157 = true then ((seats_Within.f a2 a0).bind fun t158 => (if t158 = true then ((seats_Count.f a1).bind fun t159 => ((seats_Quorum.f a0).bind fun t160 => (selvedgelaw05_SeatsMeet.j0 k a0 a1 a2 t155 (decide (t159 < t160))))) else (selvedgelaw05_SeatsMeet.j0 k a0 a1 a2 t155 true))) else (selvedgelaw05_SeatsMeet.j0 k a0 a1 a2 t155 true))) else (selvedgelaw05_SeatsMeet.j0 k a0 a1 a2 t155 true))) else (selvedgelaw05_SeatsMeet.j0 k a0 a1 a2 t155 true))) = some r := h
  clear h
  replace H := Option.bind_eq_some_iff.mp H
  obtain ⟨t155, A40, H⟩ := H
  replace H : (if t155 = true then ((seats_May.f a0).bind fun t156 => (if t156 = true then ((seats_Within.f a1 a0).bind fun t157 => (if t157 = true then ((seats_Within.f a2 a0).bind fun t158 => (if t158 = true then ((seats_Count.f a1).bind fun t159 => ((seats_Quorum.f a0).bind fun t160 => (selvedgelaw05_SeatsMeet.j0 k a0 a1 a2 t155 (decide (t159 < t160))))) else (selvedgelaw05_SeatsMeet.j0 k a0 a1 a2 t155 true))) else (selvedgelaw05_SeatsMeet.j0 k a0 a1 a2 t155 true))) else (selvedgelaw05_SeatsMeet.j0 k a0 a1 a2 t155 true))) else (selvedgelaw05_SeatsMeet.j0 k a0 a1 a2 t155 true)) = some r := H
  have A4 := Aside0.mk A40
  clear A40
  have HC5 := Aside0.mk H
  clear H
  go_enter Tryd.func7, Tryd.ntmps7
  go_upto_region 2 with (first | ((with_reducible refine gate_callee (f := 11) rfl ?_); refine goesL_ (some 8) rfl rfl Tryd.func11 (by kernel_rfl) rfl #[] rfl (by (try simp only [List.map_toArray, List.map_cons, List.map_nil]); first | done | rfl | (simp only [List.length_drop, List.length_take]; rfl)) ?_; (with_reducible refine (selvedgelaw05_shown.calls k  t155 _ ?side1 A4.out).mono ?_); (case side1 => exact tab_b HT.out (by repeat (first | (with_reducible first | exact HB.out | apply below_alloc | apply pw_below_drewN | apply below_drew1) | exact HB.out))); rintro e w6 ⟨rfl, hb⟩; refine ⟨_, rfl, ?_⟩; have n0_ := Aside0.mk (below_step (by repeat (first | (with_reducible first | exact HB.out | apply below_alloc | apply pw_below_drewN | apply below_drew1) | exact HB.out)) hb); clear HB; have HB := n0_; clear n0_; (try clear hb); (try clear hb2); (try clear hk); (try clear hi)))
  (try simp only [Act.put, List.setIfInBounds_toArray, List.set_cons_zero, List.set_cons_succ])
  go_cut [34] (fun v34 wc => ∃ (kq : Nat) (x34_4 : Bool), v34 = .bool x34_4 ∧ Aside0 (selvedgelaw05_SeatsMeet.j0 kq a0 a1 a2 t155 x34_4 = some r) ∧ Aside0 (kq ≤ k) ∧ Aside0 (Below w.heap.size w wc))
  case first =>
    have H := HC5.out
    clear HC5
    by_cases c7 : t155 = true
    · subst c7
      have H1 : ((seats_May.f a0).bind fun t156 => (if t156 = true then ((seats_Within.f a1 a0).bind fun t157 => (if t157 = true then ((seats_Within.f a2 a0).bind fun t158 => (if t158 = true then ((seats_Count.f a1).bind fun t159 => ((seats_Quorum.f a0).bind fun t160 => (selvedgelaw05_SeatsMeet.j0 k a0 a1 a2 true (decide (t159 < t160))))) else (selvedgelaw05_SeatsMeet.j0 k a0 a1 a2 true true))) else (selvedgelaw05_SeatsMeet.j0 k a0 a1 a2 true true))) else (selvedgelaw05_SeatsMeet.j0 k a0 a1 a2 true true))) = some r := by rw [if_pos rfl] at H; exact H
      clear H
      have H := H1
      clear H1
      replace H := Option.bind_eq_some_iff.mp H
      obtain ⟨t156, A80, H⟩ := H
      replace H : (if t156 = true then ((seats_Within.f a1 a0).bind fun t157 => (if t157 = true then ((seats_Within.f a2 a0).bind fun t158 => (if t158 = true then ((seats_Count.f a1).bind fun t159 => ((seats_Quorum.f a0).bind fun t160 => (selvedgelaw05_SeatsMeet.j0 k a0 a1 a2 true (decide (t159 < t160))))) else (selvedgelaw05_SeatsMeet.j0 k a0 a1 a2 true true))) else (selvedgelaw05_SeatsMeet.j0 k a0 a1 a2 true true))) else (selvedgelaw05_SeatsMeet.j0 k a0 a1 a2 true true)) = some r := H
      have A8 := Aside0.mk A80
      clear A80
      by_cases c9 : t156 = true
      · subst c9
        have H1 : ((seats_Within.f a1 a0).bind fun t157 => (if t157 = true then ((seats_Within.f a2 a0).bind fun t158 => (if t158 = true then ((seats_Count.f a1).bind fun t159 => ((seats_Quorum.f a0).bind fun t160 => (selvedgelaw05_SeatsMeet.j0 k a0 a1 a2 true (decide (t159 < t160))))) else (selvedgelaw05_SeatsMeet.j0 k a0 a1 a2 true true))) else (selvedgelaw05_SeatsMeet.j0 k a0 a1 a2 true true))) = some r := by rw [if_pos rfl] at H; exact H
        clear H
        have H := H1
        clear H1
        replace H := Option.bind_eq_some_iff.mp H
        obtain ⟨t157, A100, H⟩ := H
        replace H : (if t157 = true then ((seats_Within.f a2 a0).bind fun t158 => (if t158 = true then ((seats_Count.f a1).bind fun t159 => ((seats_Quorum.f a0).bind fun t160 => (selvedgelaw05_SeatsMeet.j0 k a0 a1 a2 true (decide (t159 < t160))))) else (selvedgelaw05_SeatsMeet.j0 k a0 a1 a2 true true))) else (selvedgelaw05_SeatsMeet.j0 k a0 a1 a2 true true)) = some r := H
        have A10 := Aside0.mk A100
        clear A100
        by_cases c11 : t157 = true
        · subst c11
          have H1 : ((seats_Within.f a2 a0).bind fun t158 => (if t158 = true then ((seats_Count.f a1).bind fun t159 => ((seats_Quorum.f a0).bind fun t160 => (selvedgelaw05_SeatsMeet.j0 k a0 a1 a2 true (decide (t159 < t160))))) else (selvedgelaw05_SeatsMeet.j0 k a0 a1 a2 true true))) = some r := by rw [if_pos rfl] at H; exact H
          clear H
          have H := H1
          clear H1
          replace H := Option.bind_eq_some_iff.mp H
          obtain ⟨t158, A120, H⟩ := H
          replace H : (if t158 = true then ((seats_Count.f a1).bind fun t159 => ((seats_Quorum.f a0).bind fun t160 => (selvedgelaw05_SeatsMeet.j0 k a0 a1 a2 true (decide (t159 < t160))))) else (selvedgelaw05_SeatsMeet.j0 k a0 a1 a2 true true)) = some r := H
          have A12 := Aside0.mk A120
          clear A120
          by_cases c13 : t158 = true
          · subst c13
            have H1 : ((seats_Count.f a1).bind fun t159 => ((seats_Quorum.f a0).bind fun t160 => (selvedgelaw05_SeatsMeet.j0 k a0 a1 a2 true (decide (t159 < t160))))) = some r := by rw [if_pos rfl] at H; exact H
            clear H
            have H := H1
            clear H1
            replace H := Option.bind_eq_some_iff.mp H
            obtain ⟨t159, A140, H⟩ := H
            replace H : ((seats_Quorum.f a0).bind fun t160 => (selvedgelaw05_SeatsMeet.j0 k a0 a1 a2 true (decide (t159 < t160)))) = some r := H
            have A14 := Aside0.mk A140
            clear A140
            replace H := Option.bind_eq_some_iff.mp H
            obtain ⟨t160, A150, H⟩ := H
            replace H : (selvedgelaw05_SeatsMeet.j0 k a0 a1 a2 true (decide (t159 < t160))) = some r := H
            have A15 := Aside0.mk A150
            clear A150
            have H' := Aside0.mk H
            clear H
            go_wp2_with (first | (go_at_call 12; (with_reducible refine (seats_May.calls a0 true _ A8.out).mono ?_); rintro e w' ⟨rfl, ⟨nd, rfl⟩⟩) | (go_at_call 20; (with_reducible refine (seats_Within.calls a1 a0 true _ A10.out).mono ?_); rintro e w16 ⟨rfl, hb⟩; have n0_ := Aside0.mk (below_step (by repeat (first | (with_reducible first | exact HB.out | apply below_alloc | apply pw_below_drewN | apply below_drew1) | exact HB.out)) hb); clear HB; have HB := n0_; clear n0_; (try clear hb); (try clear hb2); (try clear hk); (try clear hi)) | (go_at_call 20; (with_reducible refine (seats_Within.calls a2 a0 true _ A12.out).mono ?_); rintro e w17 ⟨rfl, hb⟩; have n0_ := Aside0.mk (below_step (by repeat (first | (with_reducible first | exact HB.out | apply below_alloc | apply pw_below_drewN | apply below_drew1) | exact HB.out)) hb); clear HB; have HB := n0_; clear n0_; (try clear hb); (try clear hb2); (try clear hk); (try clear hi)) | (go_at_call 22; (with_reducible refine (seats_Count.calls a1 t159 _ A14.out).mono ?_); rintro e w' ⟨rfl, ⟨nd, rfl⟩⟩) | (go_at_call 16; (with_reducible refine (seats_Quorum.calls a0 t160 _ A15.out).mono ?_); rintro e w' ⟨rfl, ⟨nd, rfl⟩⟩))
            go_meet
            case rel => exact ⟨_, (decide (t159 < t160)), (by first | rfl | (simp; done) | (simp [*]; done)), H', ⟨by first | omega | exact Nat.le_refl _⟩, ⟨by repeat (first | (with_reducible first | exact HB.out | apply below_alloc | apply pw_below_drewN | apply below_drew1) | exact HB.out)⟩⟩
          · replace c13 := Bool.eq_false_iff.mpr c13
            subst c13
            have H1 : (selvedgelaw05_SeatsMeet.j0 k a0 a1 a2 true true) = some r := by rw [if_neg (show ¬ (false = true) by decide)] at H; exact H
            clear H
            have H := H1
            clear H1
            have H' := Aside0.mk H
            clear H
            go_wp2_with (first | (go_at_call 12; (with_reducible refine (seats_May.calls a0 true _ A8.out).mono ?_); rintro e w' ⟨rfl, ⟨nd, rfl⟩⟩) | (go_at_call 20; (with_reducible refine (seats_Within.calls a1 a0 true _ A10.out).mono ?_); rintro e w18 ⟨rfl, hb⟩; have n0_ := Aside0.mk (below_step (by repeat (first | (with_reducible first | exact HB.out | apply below_alloc | apply pw_below_drewN | apply below_drew1) | exact HB.out)) hb); clear HB; have HB := n0_; clear n0_; (try clear hb); (try clear hb2); (try clear hk); (try clear hi)) | (go_at_call 20; (with_reducible refine (seats_Within.calls a2 a0 false _ A12.out).mono ?_); rintro e w19 ⟨rfl, hb⟩; have n0_ := Aside0.mk (below_step (by repeat (first | (with_reducible first | exact HB.out | apply below_alloc | apply pw_below_drewN | apply below_drew1) | exact HB.out)) hb); clear HB; have HB := n0_; clear n0_; (try clear hb); (try clear hb2); (try clear hk); (try clear hi)))
            go_meet
            case rel => exact ⟨_, (true), (by first | rfl | (simp; done) | (simp [*]; done)), H', ⟨by first | omega | exact Nat.le_refl _⟩, ⟨by repeat (first | (with_reducible first | exact HB.out | apply below_alloc | apply pw_below_drewN | apply below_drew1) | exact HB.out)⟩⟩
        · replace c11 := Bool.eq_false_iff.mpr c11
          subst c11
          have H1 : (selvedgelaw05_SeatsMeet.j0 k a0 a1 a2 true true) = some r := by rw [if_neg (show ¬ (false = true) by decide)] at H; exact H
          clear H
          have H := H1
          clear H1
          have H' := Aside0.mk H
          clear H
          go_wp2_with (first | (go_at_call 12; (with_reducible refine (seats_May.calls a0 true _ A8.out).mono ?_); rintro e w' ⟨rfl, ⟨nd, rfl⟩⟩) | (go_at_call 20; (with_reducible refine (seats_Within.calls a1 a0 false _ A10.out).mono ?_); rintro e w20 ⟨rfl, hb⟩; have n0_ := Aside0.mk (below_step (by repeat (first | (with_reducible first | exact HB.out | apply below_alloc | apply pw_below_drewN | apply below_drew1) | exact HB.out)) hb); clear HB; have HB := n0_; clear n0_; (try clear hb); (try clear hb2); (try clear hk); (try clear hi)))
          go_meet
          case rel => exact ⟨_, (true), (by first | rfl | (simp; done) | (simp [*]; done)), H', ⟨by first | omega | exact Nat.le_refl _⟩, ⟨by repeat (first | (with_reducible first | exact HB.out | apply below_alloc | apply pw_below_drewN | apply below_drew1) | exact HB.out)⟩⟩
      · replace c9 := Bool.eq_false_iff.mpr c9
        subst c9
        have H1 : (selvedgelaw05_SeatsMeet.j0 k a0 a1 a2 true true) = some r := by rw [if_neg (show ¬ (false = true) by decide)] at H; exact H
        clear H
        have H := H1
        clear H1
        have H' := Aside0.mk H
        clear H
        go_wp2_with (first | (go_at_call 12; (with_reducible refine (seats_May.calls a0 false _ A8.out).mono ?_); rintro e w' ⟨rfl, ⟨nd, rfl⟩⟩))
        go_meet
        case rel => exact ⟨_, (true), (by first | rfl | (simp; done) | (simp [*]; done)), H', ⟨by first | omega | exact Nat.le_refl _⟩, ⟨by repeat (first | (with_reducible first | exact HB.out | apply below_alloc | apply pw_below_drewN | apply below_drew1) | exact HB.out)⟩⟩
    · replace c7 := Bool.eq_false_iff.mpr c7
      subst c7
      have H1 : (selvedgelaw05_SeatsMeet.j0 k a0 a1 a2 false true) = some r := by rw [if_neg (show ¬ (false = true) by decide)] at H; exact H
      clear H
      have H := H1
      clear H1
      have H' := Aside0.mk H
      clear H
      go_wp2
      go_meet
      case rel => exact ⟨_, (true), (by first | rfl | (simp; done) | (simp [*]; done)), H', ⟨by first | omega | exact Nat.le_refl _⟩, ⟨by repeat (first | (with_reducible first | exact HB.out | apply below_alloc | apply pw_below_drewN | apply below_drew1) | exact HB.out)⟩⟩
  case rest =>
    clear HC5
    try clear c1
    try clear p2
    try clear c7
    try clear c9
    try clear c11
    try clear c13
    obtain ⟨kq, x34_4, rfl, HA, HJ4, HB⟩ := hcut
    cases kq with
    | zero => exact absurd HA.out (by simp [selvedgelaw05_SeatsMeet.j0])
    | succ kj4 =>
      have H := HA.out
      clear HA
      simp only [selvedgelaw05_SeatsMeet.j0] at H
      by_cases c21 : x34_4 = true
      · subst c21
        have H1 : (some t155) = some r := by rw [if_pos rfl] at H; exact H
        clear H
        have H := H1
        clear H1
        obtain rfl := Option.some.inj H
        go_wp2
        go_ret
        exact ⟨by first | rfl | (simp [errW_none, errW_some] <;> rfl) | (simp [*, errW_none, errW_some] <;> rfl), by repeat (first | (with_reducible first | exact HB.out | apply below_alloc | apply pw_below_drewN | apply below_drew1) | exact HB.out)⟩
      · replace c21 := Bool.eq_false_iff.mpr c21
        subst c21
        have H1 : ((seats_Count.f a2).bind fun t161 => ((seats_Quorum.f a0).bind fun t162 => (if t161 ≥ t162 then ((seats_Count.f (Go.bits .and .u64 a1 a2)).bind fun t163 => ((seats_Weak.f a0).bind fun t164 => (selvedgelaw05_SeatsMeet.j1 kj4 a0 a1 a2 (decide (t163 < t164))))) else (selvedgelaw05_SeatsMeet.j1 kj4 a0 a1 a2 false)))) = some r := by rw [if_neg (show ¬ (false = true) by decide)] at H; exact H
        clear H
        have H := H1
        clear H1
        have HC22 := Aside0.mk H
        clear H
        go_upto_region 4 with (fail)
        go_cut [49] (fun v49 wc => ∃ (kq : Nat) (x49_21 : Bool), v49 = .bool x49_21 ∧ Aside0 (selvedgelaw05_SeatsMeet.j1 kq a0 a1 a2 x49_21 = some r) ∧ Aside0 (kq ≤ kj4) ∧ Aside0 (Below w.heap.size w wc))
        case first =>
          have H := HC22.out
          clear HC22
          replace H := Option.bind_eq_some_iff.mp H
          obtain ⟨t161, A230, H⟩ := H
          replace H : ((seats_Quorum.f a0).bind fun t162 => (if t161 ≥ t162 then ((seats_Count.f (Go.bits .and .u64 a1 a2)).bind fun t163 => ((seats_Weak.f a0).bind fun t164 => (selvedgelaw05_SeatsMeet.j1 kj4 a0 a1 a2 (decide (t163 < t164))))) else (selvedgelaw05_SeatsMeet.j1 kj4 a0 a1 a2 false))) = some r := H
          have A23 := Aside0.mk A230
          clear A230
          replace H := Option.bind_eq_some_iff.mp H
          obtain ⟨t162, A240, H⟩ := H
          replace H : (if t161 ≥ t162 then ((seats_Count.f (Go.bits .and .u64 a1 a2)).bind fun t163 => ((seats_Weak.f a0).bind fun t164 => (selvedgelaw05_SeatsMeet.j1 kj4 a0 a1 a2 (decide (t163 < t164))))) else (selvedgelaw05_SeatsMeet.j1 kj4 a0 a1 a2 false)) = some r := H
          have A24 := Aside0.mk A240
          clear A240
          by_cases c25 : t161 ≥ t162
          · rw [if_pos c25] at H
            have c25b0 : decide (t162 ≤ t161) = true := decide_eq_true c25
            clear c25
            (first | rw [c25b0] | (simp only [i64_w, i32_w]; rw [c25b0]) | skip)
            replace H := Option.bind_eq_some_iff.mp H
            obtain ⟨t163, A260, H⟩ := H
            replace H : ((seats_Weak.f a0).bind fun t164 => (selvedgelaw05_SeatsMeet.j1 kj4 a0 a1 a2 (decide (t163 < t164)))) = some r := H
            have A26 := Aside0.mk A260
            clear A260
            replace H := Option.bind_eq_some_iff.mp H
            obtain ⟨t164, A270, H⟩ := H
            replace H : (selvedgelaw05_SeatsMeet.j1 kj4 a0 a1 a2 (decide (t163 < t164))) = some r := H
            have A27 := Aside0.mk A270
            clear A270
            have H' := Aside0.mk H
            clear H
            go_wp2_with (first | ((with_reducible refine gate_callee (f := 22) rfl ?_); refine goesL_ (some 37) rfl rfl Tryd.func22 (by kernel_rfl) rfl #[.int .u64 a2] rfl (by (try simp only [List.map_toArray, List.map_cons, List.map_nil]); first | done | rfl | (simp only [List.length_drop, List.length_take]; rfl)) ?_; (with_reducible refine (seats_Count.calls a2 t161 _ A23.out).mono ?_); rintro e w' ⟨rfl, ⟨nd, rfl⟩⟩; refine ⟨_, rfl, ?_⟩) | ((with_reducible refine gate_callee (f := 16) rfl ?_); refine goesL_ (some 39) rfl rfl Tryd.func16 (by kernel_rfl) rfl #[.int .i64 a0] rfl (by (try simp only [List.map_toArray, List.map_cons, List.map_nil]); first | done | rfl | (simp only [List.length_drop, List.length_take]; rfl)) ?_; (with_reducible refine (seats_Quorum.calls a0 t162 _ A24.out).mono ?_); rintro e w' ⟨rfl, ⟨nd, rfl⟩⟩; refine ⟨_, rfl, ?_⟩) | (go_at_call 22; (with_reducible refine (seats_Count.calls (Go.bits .and .u64 a1 a2) t163 _ A26.out).mono ?_); rintro e w' ⟨rfl, ⟨nd, rfl⟩⟩) | (go_at_call 18; (with_reducible refine (seats_Weak.calls a0 t164 _ A27.out).mono ?_); rintro e w' ⟨rfl, ⟨nd, rfl⟩⟩))
            go_meet
            case rel => exact ⟨_, (decide (t163 < t164)), (by first | rfl | (simp; done) | (simp [*]; done)), H', ⟨by have := HJ4.out; first | omega | exact Nat.le_refl _⟩, ⟨by repeat (first | (with_reducible first | exact HB.out | apply below_alloc | apply pw_below_drewN | apply below_drew1) | exact HB.out)⟩⟩
          · rw [if_neg c25] at H
            have c25b0 : decide (t162 ≤ t161) = false := decide_eq_false c25
            clear c25
            (first | rw [c25b0] | (simp only [i64_w, i32_w]; rw [c25b0]) | skip)
            have H' := Aside0.mk H
            clear H
            go_wp2_with (first | ((with_reducible refine gate_callee (f := 22) rfl ?_); refine goesL_ (some 37) rfl rfl Tryd.func22 (by kernel_rfl) rfl #[.int .u64 a2] rfl (by (try simp only [List.map_toArray, List.map_cons, List.map_nil]); first | done | rfl | (simp only [List.length_drop, List.length_take]; rfl)) ?_; (with_reducible refine (seats_Count.calls a2 t161 _ A23.out).mono ?_); rintro e w' ⟨rfl, ⟨nd, rfl⟩⟩; refine ⟨_, rfl, ?_⟩) | ((with_reducible refine gate_callee (f := 16) rfl ?_); refine goesL_ (some 39) rfl rfl Tryd.func16 (by kernel_rfl) rfl #[.int .i64 a0] rfl (by (try simp only [List.map_toArray, List.map_cons, List.map_nil]); first | done | rfl | (simp only [List.length_drop, List.length_take]; rfl)) ?_; (with_reducible refine (seats_Quorum.calls a0 t162 _ A24.out).mono ?_); rintro e w' ⟨rfl, ⟨nd, rfl⟩⟩; refine ⟨_, rfl, ?_⟩))
            go_meet
            case rel => exact ⟨_, (false), (by first | rfl | (simp; done) | (simp [*]; done)), H', ⟨by have := HJ4.out; first | omega | exact Nat.le_refl _⟩, ⟨by repeat (first | (with_reducible first | exact HB.out | apply below_alloc | apply pw_below_drewN | apply below_drew1) | exact HB.out)⟩⟩
        case rest =>
          clear HC22
          try clear c1
          try clear c2
          try clear p2
          try clear c7
          try clear c9
          try clear c11
          try clear c13
          try clear c16
          try clear c21
          try clear c22
          try clear c25
          try clear c25b0
          try clear p2
          obtain ⟨kq, x49_21, rfl, HA, HJ21, HB⟩ := hcut
          cases kq with
          | zero => exact absurd HA.out (by simp [selvedgelaw05_SeatsMeet.j1])
          | succ kj21 =>
            have H := HA.out
            clear HA
            simp only [selvedgelaw05_SeatsMeet.j1] at H
            by_cases c28 : x49_21 = true
            · subst c28
              have H1 : (some false) = some r := by rw [if_pos rfl] at H; exact H
              clear H
              have H := H1
              clear H1
              obtain rfl := Option.some.inj H
              go_wp2
              go_ret
              exact ⟨by first | rfl | (simp [errW_none, errW_some] <;> rfl) | (simp [*, errW_none, errW_some] <;> rfl), by repeat (first | (with_reducible first | exact HB.out | apply below_alloc | apply pw_below_drewN | apply below_drew1) | exact HB.out)⟩
            · replace c28 := Bool.eq_false_iff.mpr c28
              subst c28
              have H1 : ((seats_Count.f a2).bind fun t165 => ((seats_Weak.f a0).bind fun t166 => (if t165 < t166 then (some true) else (some ((Go.bits .and .u64 a1 a2) != 0))))) = some r := by rw [if_neg (show ¬ (false = true) by decide)] at H; exact H
              clear H
              have H := H1
              clear H1
              replace H := Option.bind_eq_some_iff.mp H
              obtain ⟨t165, A290, H⟩ := H
              replace H : ((seats_Weak.f a0).bind fun t166 => (if t165 < t166 then (some true) else (some ((Go.bits .and .u64 a1 a2) != 0)))) = some r := H
              have A29 := Aside0.mk A290
              clear A290
              replace H := Option.bind_eq_some_iff.mp H
              obtain ⟨t166, A300, H⟩ := H
              replace H : (if t165 < t166 then (some true) else (some ((Go.bits .and .u64 a1 a2) != 0))) = some r := H
              have A30 := Aside0.mk A300
              clear A300
              by_cases c31 : t165 < t166
              · rw [if_pos c31] at H
                have c31b0 : decide (t165 < t166) = true := decide_eq_true c31
                clear c31
                obtain rfl := Option.some.inj H
                go_wp2_with (first | ((with_reducible refine gate_callee (f := 22) rfl ?_); refine goesL_ (some 51) rfl rfl Tryd.func22 (by kernel_rfl) rfl #[.int .u64 a2] rfl (by (try simp only [List.map_toArray, List.map_cons, List.map_nil]); first | done | rfl | (simp only [List.length_drop, List.length_take]; rfl)) ?_; (with_reducible refine (seats_Count.calls a2 t165 _ A29.out).mono ?_); rintro e w' ⟨rfl, ⟨nd, rfl⟩⟩; refine ⟨_, rfl, ?_⟩) | ((with_reducible refine gate_callee (f := 18) rfl ?_); refine goesL_ (some 53) rfl rfl Tryd.func18 (by kernel_rfl) rfl #[.int .i64 a0] rfl (by (try simp only [List.map_toArray, List.map_cons, List.map_nil]); first | done | rfl | (simp only [List.length_drop, List.length_take]; rfl)) ?_; (with_reducible refine (seats_Weak.calls a0 t166 _ A30.out).mono ?_); rintro e w' ⟨rfl, ⟨nd, rfl⟩⟩; refine ⟨_, rfl, ?_⟩))
                go_ret
                exact ⟨by first | rfl | (simp [errW_none, errW_some] <;> rfl) | (simp [*, errW_none, errW_some] <;> rfl), by repeat (first | (with_reducible first | exact HB.out | apply below_alloc | apply pw_below_drewN | apply below_drew1) | exact HB.out)⟩
              · rw [if_neg c31] at H
                have c31b0 : decide (t165 < t166) = false := decide_eq_false c31
                clear c31
                obtain rfl := Option.some.inj H
                go_wp2_with (first | ((with_reducible refine gate_callee (f := 22) rfl ?_); refine goesL_ (some 51) rfl rfl Tryd.func22 (by kernel_rfl) rfl #[.int .u64 a2] rfl (by (try simp only [List.map_toArray, List.map_cons, List.map_nil]); first | done | rfl | (simp only [List.length_drop, List.length_take]; rfl)) ?_; (with_reducible refine (seats_Count.calls a2 t165 _ A29.out).mono ?_); rintro e w' ⟨rfl, ⟨nd, rfl⟩⟩; refine ⟨_, rfl, ?_⟩) | ((with_reducible refine gate_callee (f := 18) rfl ?_); refine goesL_ (some 53) rfl rfl Tryd.func18 (by kernel_rfl) rfl #[.int .i64 a0] rfl (by (try simp only [List.map_toArray, List.map_cons, List.map_nil]); first | done | rfl | (simp only [List.length_drop, List.length_take]; rfl)) ?_; (with_reducible refine (seats_Weak.calls a0 t166 _ A30.out).mono ?_); rintro e w' ⟨rfl, ⟨nd, rfl⟩⟩; refine ⟨_, rfl, ?_⟩))
                go_ret
                exact ⟨by first | rfl | (simp [errW_none, errW_some] <;> rfl) | (simp [*, errW_none, errW_some] <;> rfl), by repeat (first | (with_reducible first | exact HB.out | apply below_alloc | apply pw_below_drewN | apply below_drew1) | exact HB.out)⟩

/-! ### selvedgelaw05_SeatsHonest: function 8 -/
mutual
def selvedgelaw05_SeatsHonest.j0 : Nat → Int → Int → Int → Bool → Bool → Option (Bool)
  | 0, _, _, _, _, _ => none
  | k + 1, x0, x1, x2, x7, x36 => if x36 = true then (some x7) else (selvedgelaw05_SeatsHonest.l0 k x0 x1 x2 0 1)
def selvedgelaw05_SeatsHonest.l0 : Nat → Int → Int → Int → Int → Int → Option (Bool)
  | 0, _, _, _, _, _ => none
  | k + 1, x0, x1, x2, x8, x9 => if x9 ≤ x0 then ((seats_Put.f x8 x9).bind fun bt173 => (selvedgelaw05_SeatsHonest.l0 k x0 x1 x2 bt173.1 (wrap64 (x9 + 1)))) else ((seats_Count.f (IntKind.u64.wrap (x8 - x1))).bind fun t175 => ((seats_Quorum.f x0).bind fun t176 => (if t175 < t176 then (some false) else ((seats_Count.f x2).bind fun t177 => ((seats_Quorum.f x0).bind fun t178 => (if t177 < t178 then (some true) else ((seats_Count.f (IntKind.u64.wrap (x2 - (Go.bits .and .u64 x2 x1)))).bind fun t179 => ((seats_Weak.f x0).bind fun t180 => (some (decide (t179 ≥ t180)))))))))))
end
def selvedgelaw05_SeatsHonest.f (k : Nat) (a0 : Int) (a1 : Int) (a2 : Int) : Option (Bool) := (selvedgelaw05_shown.f k).bind fun t167 => (if t167 = true then ((seats_May.f a0).bind fun t168 => (if t168 = true then ((seats_Within.f a2 a0).bind fun t169 => (if t169 = true then ((seats_Within.f a1 a0).bind fun t170 => (if t170 = true then ((seats_Count.f a1).bind fun t171 => ((seats_Faults.f a0).bind fun t172 => (selvedgelaw05_SeatsHonest.j0 k a0 a1 a2 t167 (decide (t171 > t172))))) else (selvedgelaw05_SeatsHonest.j0 k a0 a1 a2 t167 true))) else (selvedgelaw05_SeatsHonest.j0 k a0 a1 a2 t167 true))) else (selvedgelaw05_SeatsHonest.j0 k a0 a1 a2 t167 true))) else (selvedgelaw05_SeatsHonest.j0 k a0 a1 a2 t167 true))
theorem selvedgelaw05_SeatsHonest.mono_l : ∀ k, (∀ y0 y1 y2 y3 y4, LeO (selvedgelaw05_SeatsHonest.j0 k y0 y1 y2 y3 y4) (selvedgelaw05_SeatsHonest.j0 (k + 1) y0 y1 y2 y3 y4)) ∧ (∀ y0 y1 y2 y3 y4, LeO (selvedgelaw05_SeatsHonest.l0 k y0 y1 y2 y3 y4) (selvedgelaw05_SeatsHonest.l0 (k + 1) y0 y1 y2 y3 y4))
  | 0 => ⟨fun _ _ _ _ _ r h => by simp [selvedgelaw05_SeatsHonest.j0] at h, fun _ _ _ _ _ r h => by simp [selvedgelaw05_SeatsHonest.l0] at h⟩
  | k + 1 => by
    obtain ⟨ih0, ih1⟩ := selvedgelaw05_SeatsHonest.mono_l k
    refine ⟨?_, ?_⟩
    · intro y0 y1 y2 y3 y4
      unfold selvedgelaw05_SeatsHonest.j0
      repeat' first
      | (with_reducible exact ih0 _ _ _ _ _)
      | (with_reducible exact ih1 _ _ _ _ _)
      | (with_reducible exact selvedgelaw05_shown.mono _)
      | (with_reducible exact LeO.refl _)
      | (with_reducible exact LeO.none _)
      | (with_reducible refine LeO.ite ?_ ?_)
      | (with_reducible refine LeO.bind ?_ (fun _ => ?_))
      | exact ih0 _ _ _ _ _
      | exact ih1 _ _ _ _ _
      | exact selvedgelaw05_shown.mono _
      | exact LeO.none _
      | refine LeO.ite ?_ ?_
      | refine LeO.bind ?_ (fun _ => ?_)
    · intro y0 y1 y2 y3 y4
      unfold selvedgelaw05_SeatsHonest.l0
      repeat' first
      | (with_reducible exact ih0 _ _ _ _ _)
      | (with_reducible exact ih1 _ _ _ _ _)
      | (with_reducible exact selvedgelaw05_shown.mono _)
      | (with_reducible exact LeO.refl _)
      | (with_reducible exact LeO.none _)
      | (with_reducible refine LeO.ite ?_ ?_)
      | (with_reducible refine LeO.bind ?_ (fun _ => ?_))
      | exact ih0 _ _ _ _ _
      | exact ih1 _ _ _ _ _
      | exact selvedgelaw05_shown.mono _
      | exact LeO.none _
      | refine LeO.ite ?_ ?_
      | refine LeO.bind ?_ (fun _ => ?_)
theorem selvedgelaw05_SeatsHonest.mono : ∀ a0 a1 a2 k, LeO (selvedgelaw05_SeatsHonest.f k a0 a1 a2) (selvedgelaw05_SeatsHonest.f (k + 1) a0 a1 a2) := by
  intro a0 a1 a2 k
  obtain ⟨ih0, ih1⟩ := selvedgelaw05_SeatsHonest.mono_l k
  unfold selvedgelaw05_SeatsHonest.f
  repeat' first
      | (with_reducible exact ih0 _ _ _ _ _)
      | (with_reducible exact ih1 _ _ _ _ _)
      | (with_reducible exact selvedgelaw05_shown.mono _)
      | (with_reducible exact LeO.refl _)
      | (with_reducible exact LeO.none _)
      | (with_reducible refine LeO.ite ?_ ?_)
      | (with_reducible refine LeO.bind ?_ (fun _ => ?_))
      | exact ih0 _ _ _ _ _
      | exact ih1 _ _ _ _ _
      | exact selvedgelaw05_shown.mono _
      | exact LeO.none _
      | refine LeO.ite ?_ ?_
      | refine LeO.bind ?_ (fun _ => ?_)
set_option maxHeartbeats 8000000 in
set_option maxRecDepth 100000 in
theorem selvedgelaw05_SeatsHonest.calls (k : Nat) (a0 : Int) (a1 : Int) (a2 : Int) (r : Bool) (w : World) (ht : Tab w) (h : selvedgelaw05_SeatsHonest.f k a0 a1 a2 = some r) :
    Calls Tryd.prog 8 #[.int .i64 a0, .int .u64 a1, .int .u64 a2] w fun e w' => e = .returned (.bool r) ∧ Below w.heap.size w w' := by
  have HT := Aside0.mk ht
  clear ht
  have HB := Aside0.mk (Below.refl w.heap.size w)
  have H : ((selvedgelaw05_shown.f k).bind fun t167 => (if t167 = true then ((seats_May.f a0).bind fun t168 => (if t168 = true then ((seats_Within.f a2 a0).bind fun t169 => (if t169 = true then ((seats_Within.f a1 a0).bind fun t170 => (if t170 = true then ((seats_Count.f a1).bind fun t171 => ((seats_Faults.f a0).bind fun t172 => (selvedgelaw05_SeatsHonest.j0 k a0 a1 a2 t167 (decide (t171 > t172))))) else (selvedgelaw05_SeatsHonest.j0 k a0 a1 a2 t167 true))) else (selvedgelaw05_SeatsHonest.j0 k a0 a1 a2 t167 true))) else (selvedgelaw05_SeatsHonest.j0 k a0 a1 a2 t167 true))) else (selvedgelaw05_SeatsHonest.j0 k a0 a1 a2 t167 true))) = some r := h
  clear h
  replace H := Option.bind_eq_some_iff.mp H
  obtain ⟨t167, A40, H⟩ := H
  replace H : (if t167 = true then ((seats_May.f a0).bind fun t168 => (if t168 = true then ((seats_Within.f a2 a0).bind fun t169 => (if t169 = true then ((seats_Within.f a1 a0).bind fun t170 => (if t170 = true then ((seats_Count.f a1).bind fun t171 => ((seats_Faults.f a0).bind fun t172 => (selvedgelaw05_SeatsHonest.j0 k a0 a1 a2 t167 (decide (t171 > t172))))) else (selvedgelaw05_SeatsHonest.j0 k a0 a1 a2 t167 true))) else (selvedgelaw05_SeatsHonest.j0 k a0 a1 a2 t167 true))) else (selvedgelaw05_SeatsHonest.j0 k a0 a1 a2 t167 true))) else (selvedgelaw05_SeatsHonest.j0 k a0 a1 a2 t167 true)) = some r := H
  have A4 := Aside0.mk A40
  clear A40
  have HC5 := Aside0.mk H
  clear H
  go_enter Tryd.func8, Tryd.ntmps8
  go_upto_region 2 with (first | ((with_reducible refine gate_callee (f := 11) rfl ?_); refine goesL_ (some 10) rfl rfl Tryd.func11 (by kernel_rfl) rfl #[] rfl (by (try simp only [List.map_toArray, List.map_cons, List.map_nil]); first | done | rfl | (simp only [List.length_drop, List.length_take]; rfl)) ?_; (with_reducible refine (selvedgelaw05_shown.calls k  t167 _ ?side1 A4.out).mono ?_); (case side1 => exact tab_b HT.out (by repeat (first | (with_reducible first | exact HB.out | apply below_alloc | apply pw_below_drewN | apply below_drew1) | exact HB.out))); rintro e w6 ⟨rfl, hb⟩; refine ⟨_, rfl, ?_⟩; have n0_ := Aside0.mk (below_step (by repeat (first | (with_reducible first | exact HB.out | apply below_alloc | apply pw_below_drewN | apply below_drew1) | exact HB.out)) hb); clear HB; have HB := n0_; clear n0_; (try clear hb); (try clear hb2); (try clear hk); (try clear hi)))
  (try simp only [Act.put, List.setIfInBounds_toArray, List.set_cons_zero, List.set_cons_succ])
  go_cut [36] (fun v36 wc => ∃ (kq : Nat) (x36_4 : Bool), v36 = .bool x36_4 ∧ Aside0 (selvedgelaw05_SeatsHonest.j0 kq a0 a1 a2 t167 x36_4 = some r) ∧ Aside0 (kq ≤ k) ∧ Aside0 (Below w.heap.size w wc))
  case first =>
    have H := HC5.out
    clear HC5
    by_cases c7 : t167 = true
    · subst c7
      have H1 : ((seats_May.f a0).bind fun t168 => (if t168 = true then ((seats_Within.f a2 a0).bind fun t169 => (if t169 = true then ((seats_Within.f a1 a0).bind fun t170 => (if t170 = true then ((seats_Count.f a1).bind fun t171 => ((seats_Faults.f a0).bind fun t172 => (selvedgelaw05_SeatsHonest.j0 k a0 a1 a2 true (decide (t171 > t172))))) else (selvedgelaw05_SeatsHonest.j0 k a0 a1 a2 true true))) else (selvedgelaw05_SeatsHonest.j0 k a0 a1 a2 true true))) else (selvedgelaw05_SeatsHonest.j0 k a0 a1 a2 true true))) = some r := by rw [if_pos rfl] at H; exact H
      clear H
      have H := H1
      clear H1
      replace H := Option.bind_eq_some_iff.mp H
      obtain ⟨t168, A80, H⟩ := H
      replace H : (if t168 = true then ((seats_Within.f a2 a0).bind fun t169 => (if t169 = true then ((seats_Within.f a1 a0).bind fun t170 => (if t170 = true then ((seats_Count.f a1).bind fun t171 => ((seats_Faults.f a0).bind fun t172 => (selvedgelaw05_SeatsHonest.j0 k a0 a1 a2 true (decide (t171 > t172))))) else (selvedgelaw05_SeatsHonest.j0 k a0 a1 a2 true true))) else (selvedgelaw05_SeatsHonest.j0 k a0 a1 a2 true true))) else (selvedgelaw05_SeatsHonest.j0 k a0 a1 a2 true true)) = some r := H
      have A8 := Aside0.mk A80
      clear A80
      by_cases c9 : t168 = true
      · subst c9
        have H1 : ((seats_Within.f a2 a0).bind fun t169 => (if t169 = true then ((seats_Within.f a1 a0).bind fun t170 => (if t170 = true then ((seats_Count.f a1).bind fun t171 => ((seats_Faults.f a0).bind fun t172 => (selvedgelaw05_SeatsHonest.j0 k a0 a1 a2 true (decide (t171 > t172))))) else (selvedgelaw05_SeatsHonest.j0 k a0 a1 a2 true true))) else (selvedgelaw05_SeatsHonest.j0 k a0 a1 a2 true true))) = some r := by rw [if_pos rfl] at H; exact H
        clear H
        have H := H1
        clear H1
        replace H := Option.bind_eq_some_iff.mp H
        obtain ⟨t169, A100, H⟩ := H
        replace H : (if t169 = true then ((seats_Within.f a1 a0).bind fun t170 => (if t170 = true then ((seats_Count.f a1).bind fun t171 => ((seats_Faults.f a0).bind fun t172 => (selvedgelaw05_SeatsHonest.j0 k a0 a1 a2 true (decide (t171 > t172))))) else (selvedgelaw05_SeatsHonest.j0 k a0 a1 a2 true true))) else (selvedgelaw05_SeatsHonest.j0 k a0 a1 a2 true true)) = some r := H
        have A10 := Aside0.mk A100
        clear A100
        by_cases c11 : t169 = true
        · subst c11
          have H1 : ((seats_Within.f a1 a0).bind fun t170 => (if t170 = true then ((seats_Count.f a1).bind fun t171 => ((seats_Faults.f a0).bind fun t172 => (selvedgelaw05_SeatsHonest.j0 k a0 a1 a2 true (decide (t171 > t172))))) else (selvedgelaw05_SeatsHonest.j0 k a0 a1 a2 true true))) = some r := by rw [if_pos rfl] at H; exact H
          clear H
          have H := H1
          clear H1
          replace H := Option.bind_eq_some_iff.mp H
          obtain ⟨t170, A120, H⟩ := H
          replace H : (if t170 = true then ((seats_Count.f a1).bind fun t171 => ((seats_Faults.f a0).bind fun t172 => (selvedgelaw05_SeatsHonest.j0 k a0 a1 a2 true (decide (t171 > t172))))) else (selvedgelaw05_SeatsHonest.j0 k a0 a1 a2 true true)) = some r := H
          have A12 := Aside0.mk A120
          clear A120
          by_cases c13 : t170 = true
          · subst c13
            have H1 : ((seats_Count.f a1).bind fun t171 => ((seats_Faults.f a0).bind fun t172 => (selvedgelaw05_SeatsHonest.j0 k a0 a1 a2 true (decide (t171 > t172))))) = some r := by rw [if_pos rfl] at H; exact H
            clear H
            have H := H1
            clear H1
            replace H := Option.bind_eq_some_iff.mp H
            obtain ⟨t171, A140, H⟩ := H
            replace H : ((seats_Faults.f a0).bind fun t172 => (selvedgelaw05_SeatsHonest.j0 k a0 a1 a2 true (decide (t171 > t172)))) = some r := H
            have A14 := Aside0.mk A140
            clear A140
            replace H := Option.bind_eq_some_iff.mp H
            obtain ⟨t172, A150, H⟩ := H
            replace H : (selvedgelaw05_SeatsHonest.j0 k a0 a1 a2 true (decide (t171 > t172))) = some r := H
            have A15 := Aside0.mk A150
            clear A150
            have H' := Aside0.mk H
            clear H
            go_wp2_with (first | (go_at_call 12; (with_reducible refine (seats_May.calls a0 true _ A8.out).mono ?_); rintro e w' ⟨rfl, ⟨nd, rfl⟩⟩) | (go_at_call 20; (with_reducible refine (seats_Within.calls a2 a0 true _ A10.out).mono ?_); rintro e w16 ⟨rfl, hb⟩; have n0_ := Aside0.mk (below_step (by repeat (first | (with_reducible first | exact HB.out | apply below_alloc | apply pw_below_drewN | apply below_drew1) | exact HB.out)) hb); clear HB; have HB := n0_; clear n0_; (try clear hb); (try clear hb2); (try clear hk); (try clear hi)) | (go_at_call 20; (with_reducible refine (seats_Within.calls a1 a0 true _ A12.out).mono ?_); rintro e w17 ⟨rfl, hb⟩; have n0_ := Aside0.mk (below_step (by repeat (first | (with_reducible first | exact HB.out | apply below_alloc | apply pw_below_drewN | apply below_drew1) | exact HB.out)) hb); clear HB; have HB := n0_; clear n0_; (try clear hb); (try clear hb2); (try clear hk); (try clear hi)) | (go_at_call 22; (with_reducible refine (seats_Count.calls a1 t171 _ A14.out).mono ?_); rintro e w' ⟨rfl, ⟨nd, rfl⟩⟩) | (go_at_call 14; (with_reducible refine (seats_Faults.calls a0 t172 _ A15.out).mono ?_); rintro e w' ⟨rfl, ⟨nd, rfl⟩⟩))
            go_meet
            case rel => exact ⟨_, (decide (t171 > t172)), (by first | rfl | (simp; done) | (simp [*]; done)), H', ⟨by first | omega | exact Nat.le_refl _⟩, ⟨by repeat (first | (with_reducible first | exact HB.out | apply below_alloc | apply pw_below_drewN | apply below_drew1) | exact HB.out)⟩⟩
          · replace c13 := Bool.eq_false_iff.mpr c13
            subst c13
            have H1 : (selvedgelaw05_SeatsHonest.j0 k a0 a1 a2 true true) = some r := by rw [if_neg (show ¬ (false = true) by decide)] at H; exact H
            clear H
            have H := H1
            clear H1
            have H' := Aside0.mk H
            clear H
            go_wp2_with (first | (go_at_call 12; (with_reducible refine (seats_May.calls a0 true _ A8.out).mono ?_); rintro e w' ⟨rfl, ⟨nd, rfl⟩⟩) | (go_at_call 20; (with_reducible refine (seats_Within.calls a2 a0 true _ A10.out).mono ?_); rintro e w18 ⟨rfl, hb⟩; have n0_ := Aside0.mk (below_step (by repeat (first | (with_reducible first | exact HB.out | apply below_alloc | apply pw_below_drewN | apply below_drew1) | exact HB.out)) hb); clear HB; have HB := n0_; clear n0_; (try clear hb); (try clear hb2); (try clear hk); (try clear hi)) | (go_at_call 20; (with_reducible refine (seats_Within.calls a1 a0 false _ A12.out).mono ?_); rintro e w19 ⟨rfl, hb⟩; have n0_ := Aside0.mk (below_step (by repeat (first | (with_reducible first | exact HB.out | apply below_alloc | apply pw_below_drewN | apply below_drew1) | exact HB.out)) hb); clear HB; have HB := n0_; clear n0_; (try clear hb); (try clear hb2); (try clear hk); (try clear hi)))
            go_meet
            case rel => exact ⟨_, (true), (by first | rfl | (simp; done) | (simp [*]; done)), H', ⟨by first | omega | exact Nat.le_refl _⟩, ⟨by repeat (first | (with_reducible first | exact HB.out | apply below_alloc | apply pw_below_drewN | apply below_drew1) | exact HB.out)⟩⟩
        · replace c11 := Bool.eq_false_iff.mpr c11
          subst c11
          have H1 : (selvedgelaw05_SeatsHonest.j0 k a0 a1 a2 true true) = some r := by rw [if_neg (show ¬ (false = true) by decide)] at H; exact H
          clear H
          have H := H1
          clear H1
          have H' := Aside0.mk H
          clear H
          go_wp2_with (first | (go_at_call 12; (with_reducible refine (seats_May.calls a0 true _ A8.out).mono ?_); rintro e w' ⟨rfl, ⟨nd, rfl⟩⟩) | (go_at_call 20; (with_reducible refine (seats_Within.calls a2 a0 false _ A10.out).mono ?_); rintro e w20 ⟨rfl, hb⟩; have n0_ := Aside0.mk (below_step (by repeat (first | (with_reducible first | exact HB.out | apply below_alloc | apply pw_below_drewN | apply below_drew1) | exact HB.out)) hb); clear HB; have HB := n0_; clear n0_; (try clear hb); (try clear hb2); (try clear hk); (try clear hi)))
          go_meet
          case rel => exact ⟨_, (true), (by first | rfl | (simp; done) | (simp [*]; done)), H', ⟨by first | omega | exact Nat.le_refl _⟩, ⟨by repeat (first | (with_reducible first | exact HB.out | apply below_alloc | apply pw_below_drewN | apply below_drew1) | exact HB.out)⟩⟩
      · replace c9 := Bool.eq_false_iff.mpr c9
        subst c9
        have H1 : (selvedgelaw05_SeatsHonest.j0 k a0 a1 a2 true true) = some r := by rw [if_neg (show ¬ (false = true) by decide)] at H; exact H
        clear H
        have H := H1
        clear H1
        have H' := Aside0.mk H
        clear H
        go_wp2_with (first | (go_at_call 12; (with_reducible refine (seats_May.calls a0 false _ A8.out).mono ?_); rintro e w' ⟨rfl, ⟨nd, rfl⟩⟩))
        go_meet
        case rel => exact ⟨_, (true), (by first | rfl | (simp; done) | (simp [*]; done)), H', ⟨by first | omega | exact Nat.le_refl _⟩, ⟨by repeat (first | (with_reducible first | exact HB.out | apply below_alloc | apply pw_below_drewN | apply below_drew1) | exact HB.out)⟩⟩
    · replace c7 := Bool.eq_false_iff.mpr c7
      subst c7
      have H1 : (selvedgelaw05_SeatsHonest.j0 k a0 a1 a2 false true) = some r := by rw [if_neg (show ¬ (false = true) by decide)] at H; exact H
      clear H
      have H := H1
      clear H1
      have H' := Aside0.mk H
      clear H
      go_wp2
      go_meet
      case rel => exact ⟨_, (true), (by first | rfl | (simp; done) | (simp [*]; done)), H', ⟨by first | omega | exact Nat.le_refl _⟩, ⟨by repeat (first | (with_reducible first | exact HB.out | apply below_alloc | apply pw_below_drewN | apply below_drew1) | exact HB.out)⟩⟩
  case rest =>
    clear HC5
    try clear c1
    try clear p2
    try clear c7
    try clear c8
    try clear c9
    try clear c11
    try clear c13
    obtain ⟨kq, x36_4, rfl, HA, HJ4, HB⟩ := hcut
    cases kq with
    | zero => exact absurd HA.out (by simp [selvedgelaw05_SeatsHonest.j0])
    | succ kj4 =>
      have H := HA.out
      clear HA
      simp only [selvedgelaw05_SeatsHonest.j0] at H
      by_cases c21 : x36_4 = true
      · subst c21
        have H1 : (some t167) = some r := by rw [if_pos rfl] at H; exact H
        clear H
        have H := H1
        clear H1
        obtain rfl := Option.some.inj H
        go_wp2
        go_ret
        exact ⟨by first | rfl | (simp [errW_none, errW_some] <;> rfl) | (simp [*, errW_none, errW_some] <;> rfl), by repeat (first | (with_reducible first | exact HB.out | apply below_alloc | apply pw_below_drewN | apply below_drew1) | exact HB.out)⟩
      · replace c21 := Bool.eq_false_iff.mpr c21
        subst c21
        have H1 : (selvedgelaw05_SeatsHonest.l0 kj4 a0 a1 a2 0 1) = some r := by rw [if_neg (show ¬ (false = true) by decide)] at H; exact H
        clear H
        have H := H1
        clear H1
        have H' := Aside0.mk H
        clear H
        go_wp2
        go_loopg [8, 9] kj4 (fun kq v8 v9 w' => ∃ (x8_2 : Int) (x9_2 : Int), v8 = .int .u64 x8_2 ∧ v9 = .int .i64 x9_2 ∧ Aside0 (selvedgelaw05_SeatsHonest.l0 kq a0 a1 a2 x8_2 x9_2 = some r) ∧ Aside0 (kq ≤ kj4) ∧ Aside0 (Below w.heap.size w w'))
        case atStart => exact ⟨(0), (1), (by first | rfl | (simp; done) | (simp [*]; done)), (by first | rfl | (simp; done) | (simp [*]; done)), H', ⟨Nat.le_refl _⟩, ⟨by repeat (first | (with_reducible first | exact HB.out | apply below_alloc | apply pw_below_drewN | apply below_drew1) | exact HB.out)⟩⟩
        case round =>
          clear H'
          try clear c1
          try clear c2
          try clear p2
          try clear c7
          try clear c8
          try clear c9
          try clear c11
          try clear c13
          try clear c21
          try clear p2
          obtain ⟨x8_2, x9_2, rfl, rfl, HA, HK2, HB⟩ := hrel
          cases gk with
          | zero => exact absurd HA.out (by simp [selvedgelaw05_SeatsHonest.l0])
          | succ k2 =>
            have H := HA.out
            clear HA
            simp only [selvedgelaw05_SeatsHonest.l0] at H
            by_cases c22 : x9_2 ≤ a0
            · rw [if_pos c22] at H
              have c22b0 : decide (x9_2 ≤ a0) = true := decide_eq_true c22
              clear c22
              replace H := Option.bind_eq_some_iff.mp H
              obtain ⟨⟨t173, t174⟩, A230, H⟩ := H
              replace H : (selvedgelaw05_SeatsHonest.l0 k2 a0 a1 a2 t173 (wrap64 (x9_2 + 1))) = some r := H
              have A23 := Aside0.mk A230
              clear A230
              have H' := Aside0.mk H
              clear H
              go_wp2_with (first | ((with_reducible refine gate_callee (f := 23) rfl ?_); refine goesL_ (some 46) rfl rfl Tryd.func23 (by kernel_rfl) rfl #[.int .u64 x8_2, .int .i64 x9_2] rfl (by (try simp only [List.map_toArray, List.map_cons, List.map_nil]); first | done | rfl | (simp only [List.length_drop, List.length_take]; rfl)) ?_; (with_reducible refine (seats_Put.calls x8_2 x9_2 t173 t174 _ A23.out).mono ?_); rintro e w' ⟨rfl, ⟨nd, rfl⟩⟩; refine ⟨_, rfl, ?_⟩))
              go_roundg k2
              case measure => have := HJ4.out; have := HK2.out; omega
              case rel => exact ⟨(t173), (wrap64 (x9_2 + 1)), (by first | rfl | (simp; done) | (simp [*]; done)), (by first | rfl | (simp; done) | (simp [*]; done)), H', ⟨by have := HJ4.out; have := HK2.out; omega⟩, ⟨by repeat (first | (with_reducible first | exact HB.out | apply below_alloc | apply pw_below_drewN | apply below_drew1) | exact HB.out)⟩⟩
            · rw [if_neg c22] at H
              have c22b0 : decide (x9_2 ≤ a0) = false := decide_eq_false c22
              clear c22
              replace H := Option.bind_eq_some_iff.mp H
              obtain ⟨t175, A240, H⟩ := H
              replace H : ((seats_Quorum.f a0).bind fun t176 => (if t175 < t176 then (some false) else ((seats_Count.f a2).bind fun t177 => ((seats_Quorum.f a0).bind fun t178 => (if t177 < t178 then (some true) else ((seats_Count.f (IntKind.u64.wrap (a2 - (Go.bits .and .u64 a2 a1)))).bind fun t179 => ((seats_Weak.f a0).bind fun t180 => (some (decide (t179 ≥ t180)))))))))) = some r := H
              have A24 := Aside0.mk A240
              clear A240
              replace H := Option.bind_eq_some_iff.mp H
              obtain ⟨t176, A250, H⟩ := H
              replace H : (if t175 < t176 then (some false) else ((seats_Count.f a2).bind fun t177 => ((seats_Quorum.f a0).bind fun t178 => (if t177 < t178 then (some true) else ((seats_Count.f (IntKind.u64.wrap (a2 - (Go.bits .and .u64 a2 a1)))).bind fun t179 => ((seats_Weak.f a0).bind fun t180 => (some (decide (t179 ≥ t180))))))))) = some r := H
              have A25 := Aside0.mk A250
              clear A250
              by_cases c26 : t175 < t176
              · rw [if_pos c26] at H
                have c26b0 : decide (t175 < t176) = true := decide_eq_true c26
                clear c26
                obtain rfl := Option.some.inj H
                go_wp2_with (first | ((with_reducible refine gate_callee (f := 22) rfl ?_); refine goesL_ (some 52) rfl rfl Tryd.func22 (by kernel_rfl) rfl #[.int .u64 (IntKind.u64.wrap (x8_2 - a1))] rfl (by (try simp only [List.map_toArray, List.map_cons, List.map_nil]); first | done | rfl | (simp only [List.length_drop, List.length_take]; rfl)) ?_; (with_reducible refine (seats_Count.calls (IntKind.u64.wrap (x8_2 - a1)) t175 _ A24.out).mono ?_); rintro e w' ⟨rfl, ⟨nd, rfl⟩⟩; refine ⟨_, rfl, ?_⟩) | ((with_reducible refine gate_callee (f := 16) rfl ?_); refine goesL_ (some 54) rfl rfl Tryd.func16 (by kernel_rfl) rfl #[.int .i64 a0] rfl (by (try simp only [List.map_toArray, List.map_cons, List.map_nil]); first | done | rfl | (simp only [List.length_drop, List.length_take]; rfl)) ?_; (with_reducible refine (seats_Quorum.calls a0 t176 _ A25.out).mono ?_); rintro e w' ⟨rfl, ⟨nd, rfl⟩⟩; refine ⟨_, rfl, ?_⟩))
                go_ret
                exact ⟨by first | rfl | (simp [errW_none, errW_some] <;> rfl) | (simp [*, errW_none, errW_some] <;> rfl), by repeat (first | (with_reducible first | exact HB.out | apply below_alloc | apply pw_below_drewN | apply below_drew1) | exact HB.out)⟩
              · rw [if_neg c26] at H
                have c26b0 : decide (t175 < t176) = false := decide_eq_false c26
                clear c26
                replace H := Option.bind_eq_some_iff.mp H
                obtain ⟨t177, A270, H⟩ := H
                replace H : ((seats_Quorum.f a0).bind fun t178 => (if t177 < t178 then (some true) else ((seats_Count.f (IntKind.u64.wrap (a2 - (Go.bits .and .u64 a2 a1)))).bind fun t179 => ((seats_Weak.f a0).bind fun t180 => (some (decide (t179 ≥ t180))))))) = some r := H
                have A27 := Aside0.mk A270
                clear A270
                replace H := Option.bind_eq_some_iff.mp H
                obtain ⟨t178, A280, H⟩ := H
                replace H : (if t177 < t178 then (some true) else ((seats_Count.f (IntKind.u64.wrap (a2 - (Go.bits .and .u64 a2 a1)))).bind fun t179 => ((seats_Weak.f a0).bind fun t180 => (some (decide (t179 ≥ t180)))))) = some r := H
                have A28 := Aside0.mk A280
                clear A280
                by_cases c29 : t177 < t178
                · rw [if_pos c29] at H
                  have c29b0 : decide (t177 < t178) = true := decide_eq_true c29
                  clear c29
                  obtain rfl := Option.some.inj H
                  go_wp2_with (first | ((with_reducible refine gate_callee (f := 22) rfl ?_); refine goesL_ (some 52) rfl rfl Tryd.func22 (by kernel_rfl) rfl #[.int .u64 (IntKind.u64.wrap (x8_2 - a1))] rfl (by (try simp only [List.map_toArray, List.map_cons, List.map_nil]); first | done | rfl | (simp only [List.length_drop, List.length_take]; rfl)) ?_; (with_reducible refine (seats_Count.calls (IntKind.u64.wrap (x8_2 - a1)) t175 _ A24.out).mono ?_); rintro e w' ⟨rfl, ⟨nd, rfl⟩⟩; refine ⟨_, rfl, ?_⟩) | ((with_reducible refine gate_callee (f := 16) rfl ?_); refine goesL_ (some 54) rfl rfl Tryd.func16 (by kernel_rfl) rfl #[.int .i64 a0] rfl (by (try simp only [List.map_toArray, List.map_cons, List.map_nil]); first | done | rfl | (simp only [List.length_drop, List.length_take]; rfl)) ?_; (with_reducible refine (seats_Quorum.calls a0 t176 _ A25.out).mono ?_); rintro e w' ⟨rfl, ⟨nd, rfl⟩⟩; refine ⟨_, rfl, ?_⟩) | ((with_reducible refine gate_callee (f := 22) rfl ?_); refine goesL_ (some 57) rfl rfl Tryd.func22 (by kernel_rfl) rfl #[.int .u64 a2] rfl (by (try simp only [List.map_toArray, List.map_cons, List.map_nil]); first | done | rfl | (simp only [List.length_drop, List.length_take]; rfl)) ?_; (with_reducible refine (seats_Count.calls a2 t177 _ A27.out).mono ?_); rintro e w' ⟨rfl, ⟨nd, rfl⟩⟩; refine ⟨_, rfl, ?_⟩) | ((with_reducible refine gate_callee (f := 16) rfl ?_); refine goesL_ (some 59) rfl rfl Tryd.func16 (by kernel_rfl) rfl #[.int .i64 a0] rfl (by (try simp only [List.map_toArray, List.map_cons, List.map_nil]); first | done | rfl | (simp only [List.length_drop, List.length_take]; rfl)) ?_; (with_reducible refine (seats_Quorum.calls a0 t178 _ A28.out).mono ?_); rintro e w' ⟨rfl, ⟨nd, rfl⟩⟩; refine ⟨_, rfl, ?_⟩))
                  go_ret
                  exact ⟨by first | rfl | (simp [errW_none, errW_some] <;> rfl) | (simp [*, errW_none, errW_some] <;> rfl), by repeat (first | (with_reducible first | exact HB.out | apply below_alloc | apply pw_below_drewN | apply below_drew1) | exact HB.out)⟩
                · rw [if_neg c29] at H
                  have c29b0 : decide (t177 < t178) = false := decide_eq_false c29
                  clear c29
                  replace H := Option.bind_eq_some_iff.mp H
                  obtain ⟨t179, A300, H⟩ := H
                  replace H : ((seats_Weak.f a0).bind fun t180 => (some (decide (t179 ≥ t180)))) = some r := H
                  have A30 := Aside0.mk A300
                  clear A300
                  replace H := Option.bind_eq_some_iff.mp H
                  obtain ⟨t180, A310, H⟩ := H
                  replace H : (some (decide (t179 ≥ t180))) = some r := H
                  have A31 := Aside0.mk A310
                  clear A310
                  obtain rfl := Option.some.inj H
                  go_wp2_with (first | ((with_reducible refine gate_callee (f := 22) rfl ?_); refine goesL_ (some 52) rfl rfl Tryd.func22 (by kernel_rfl) rfl #[.int .u64 (IntKind.u64.wrap (x8_2 - a1))] rfl (by (try simp only [List.map_toArray, List.map_cons, List.map_nil]); first | done | rfl | (simp only [List.length_drop, List.length_take]; rfl)) ?_; (with_reducible refine (seats_Count.calls (IntKind.u64.wrap (x8_2 - a1)) t175 _ A24.out).mono ?_); rintro e w' ⟨rfl, ⟨nd, rfl⟩⟩; refine ⟨_, rfl, ?_⟩) | ((with_reducible refine gate_callee (f := 16) rfl ?_); refine goesL_ (some 54) rfl rfl Tryd.func16 (by kernel_rfl) rfl #[.int .i64 a0] rfl (by (try simp only [List.map_toArray, List.map_cons, List.map_nil]); first | done | rfl | (simp only [List.length_drop, List.length_take]; rfl)) ?_; (with_reducible refine (seats_Quorum.calls a0 t176 _ A25.out).mono ?_); rintro e w' ⟨rfl, ⟨nd, rfl⟩⟩; refine ⟨_, rfl, ?_⟩) | ((with_reducible refine gate_callee (f := 22) rfl ?_); refine goesL_ (some 57) rfl rfl Tryd.func22 (by kernel_rfl) rfl #[.int .u64 a2] rfl (by (try simp only [List.map_toArray, List.map_cons, List.map_nil]); first | done | rfl | (simp only [List.length_drop, List.length_take]; rfl)) ?_; (with_reducible refine (seats_Count.calls a2 t177 _ A27.out).mono ?_); rintro e w' ⟨rfl, ⟨nd, rfl⟩⟩; refine ⟨_, rfl, ?_⟩) | ((with_reducible refine gate_callee (f := 16) rfl ?_); refine goesL_ (some 59) rfl rfl Tryd.func16 (by kernel_rfl) rfl #[.int .i64 a0] rfl (by (try simp only [List.map_toArray, List.map_cons, List.map_nil]); first | done | rfl | (simp only [List.length_drop, List.length_take]; rfl)) ?_; (with_reducible refine (seats_Quorum.calls a0 t178 _ A28.out).mono ?_); rintro e w' ⟨rfl, ⟨nd, rfl⟩⟩; refine ⟨_, rfl, ?_⟩) | (go_at_call 22; (with_reducible refine (seats_Count.calls (IntKind.u64.wrap (a2 - (Go.bits .and .u64 a2 a1))) t179 _ A30.out).mono ?_); rintro e w' ⟨rfl, ⟨nd, rfl⟩⟩) | (go_at_call 18; (with_reducible refine (seats_Weak.calls a0 t180 _ A31.out).mono ?_); rintro e w' ⟨rfl, ⟨nd, rfl⟩⟩))
                  go_ret
                  exact ⟨by first | rfl | (simp [errW_none, errW_some] <;> rfl) | (simp [*, errW_none, errW_some] <;> rfl), by repeat (first | (with_reducible first | exact HB.out | apply below_alloc | apply pw_below_drewN | apply below_drew1) | exact HB.out)⟩

/-! ### selvedgeref05_List: function 29 -/
def selvedgeref05_List.l0 : Nat → Int → List Int → Int → Option (List Int)
  | 0, _, _, _ => none
  | k + 1, x0, x3, x4 => if x4 ≤ 64 then (if (Int.tmod x0 2) = 1 then (if x3.length < 17592186044416 then (selvedgeref05_List.l0 k (IntKind.u64.wrap (Int.tdiv x0 2)) (x3 ++ [x4]) (wrap64 (x4 + 1))) else (none)) else (selvedgeref05_List.l0 k (IntKind.u64.wrap (Int.tdiv x0 2)) x3 (wrap64 (x4 + 1)))) else (some x3)
def selvedgeref05_List.f (k : Nat) (a0 : Int) : Option (List Int) := selvedgeref05_List.l0 k a0 ([] : List Int) 1
theorem selvedgeref05_List.mono_l : ∀ k, (∀ y0 y1 y2, LeO (selvedgeref05_List.l0 k y0 y1 y2) (selvedgeref05_List.l0 (k + 1) y0 y1 y2))
  | 0 => fun _ _ _ r h => by simp [selvedgeref05_List.l0] at h
  | k + 1 => by
    have ih0 := selvedgeref05_List.mono_l k
    · intro y0 y1 y2
      unfold selvedgeref05_List.l0
      repeat' first
      | (with_reducible exact ih0 _ _ _)
      | (with_reducible exact LeO.refl _)
      | (with_reducible exact LeO.none _)
      | (with_reducible refine LeO.ite ?_ ?_)
      | (with_reducible refine LeO.bind ?_ (fun _ => ?_))
      | exact ih0 _ _ _
      | exact LeO.none _
      | refine LeO.ite ?_ ?_
      | refine LeO.bind ?_ (fun _ => ?_)
theorem selvedgeref05_List.mono : ∀ a0 k, LeO (selvedgeref05_List.f k a0) (selvedgeref05_List.f (k + 1) a0) := by
  intro a0 k
  have ih0 := selvedgeref05_List.mono_l k
  unfold selvedgeref05_List.f
  repeat' first
      | (with_reducible exact ih0 _ _ _)
      | (with_reducible exact LeO.refl _)
      | (with_reducible exact LeO.none _)
      | (with_reducible refine LeO.ite ?_ ?_)
      | (with_reducible refine LeO.bind ?_ (fun _ => ?_))
      | exact ih0 _ _ _
      | exact LeO.none _
      | refine LeO.ite ?_ ?_
      | refine LeO.bind ?_ (fun _ => ?_)
set_option maxHeartbeats 8000000 in
set_option maxRecDepth 100000 in
theorem selvedgeref05_List.calls (k : Nat) (a0 : Int) (r : List Int) (w : World) (h : selvedgeref05_List.f k a0 = some r) :
    Calls Tryd.prog 29 #[.int .u64 a0] w fun e w' => ∃ v0_ : Value, e = .returned (v0_) ∧ Kd.R (Kd.int .i64) 3 w' w.heap.size (fun _ => True) v0_ r ∧ Below w.heap.size w w' := by
  have HB := Aside0.mk (Below.refl w.heap.size w)
  have H : (selvedgeref05_List.l0 k a0 ([] : List Int) 1) = some r := h
  clear h
  have H' := Aside0.mk H
  clear H
  go_enter Tryd.func29, Tryd.ntmps29
  go_wp2
  go_loopg [0, 3, 4] k (fun kq v0 v3 v4 w' => ∃ (x0_1 : Int) (x3_1 : List Int) (x4_1 : Int), v0 = .int .u64 x0_1 ∧ v4 = .int .i64 x4_1 ∧ Aside0 (selvedgeref05_List.l0 kq x0_1 x3_1 x4_1 = some r) ∧ Aside0 (kq ≤ k) ∧ Aside0 (Kd.R (Kd.int .i64) 3 w' w.heap.size (fun _ => True) v3 x3_1) ∧ Aside0 (Below w.heap.size w w'))
  case atStart => exact ⟨(a0), (([] : List Int)), (1), (by first | rfl | (simp; done) | (simp [*]; done)), (by first | rfl | (simp; done) | (simp [*]; done)), H', ⟨Nat.le_refl _⟩, ⟨by first | exact Kd.R_nil _ _ _ _ _ | exact Kd.N_nil _ _ _ _ _ | exact Kd.V_nil _ _ _ _ _ | exact Kd.Q_nil _ _ _ _ _ | exact Kd.S_nil _ _ _ _ _⟩, ⟨by repeat (first | (with_reducible first | exact HB.out | apply below_alloc | apply pw_below_drewN | apply below_drew1) | exact HB.out)⟩⟩
  case round =>
    clear H'
    obtain ⟨x0_1, x3_1, x4_1, rfl, rfl, HA, HK1, HO_3, HB⟩ := hrel
    cases gk with
    | zero => exact absurd HA.out (by simp [selvedgeref05_List.l0])
    | succ k1 =>
      have H := HA.out
      clear HA
      simp only [selvedgeref05_List.l0] at H
      by_cases c2 : x4_1 ≤ 64
      · rw [if_pos c2] at H
        have c2b0 : decide (x4_1 ≤ 64) = true := decide_eq_true c2
        clear c2
        by_cases c3 : (Int.tmod x0_1 2) = 1
        · rw [if_pos c3] at H
          have c3b0 : ((Int.tmod x0_1 2) == 1) = true := beq_iff_eq.mpr c3
          have c3b1 : ((Int.tmod x0_1 2) != 1) = false := bne_eq_false_iff_eq.mpr c3
          clear c3
          by_cases c4 : x3_1.length < 17592186044416
          · rw [if_pos c4] at H
            have LMc4 := Aside0.mk c4
            clear c4
            obtain ⟨y181, hy181⟩ : ∃ y_ : List Int, y_ = (x3_1 ++ [x4_1]) := ⟨_, rfl⟩
            replace H : (selvedgeref05_List.l0 k1 (IntKind.u64.wrap (Int.tdiv x0_1 2)) y181 (wrap64 (x4_1 + 1))) = some r := by first | (rw [hy181]; with_reducible exact H) | (have H2_ := (Option.bind_some _ _).symm.trans H; rw [hy181]; with_reducible exact H2_) | (have H2_ := (Option.bind_some _ _).symm.trans H; with_reducible exact H2_) | with_reducible exact H | (rw [hy181]; exact H) | exact H
            have Ny181 := Aside0.mk hy181
            clear hy181
            have H' := Aside0.mk H
            clear H
            go_wp2_with (first | ((with_reducible refine gate_builtin (b := .append) (xs := #[.tmp 12, .tmp 14]) rfl ?_); at_builtin; refine Kd.R_append (Kd.int .i64) (w0 := w) w.heap.size rfl (.tmp 12) (.tmp 14) 34 3 (.int .i64 0) 8 rfl Tryd.underlying34 info3 rfl (by decide) (by omega) u3 x3_1 x4_1 [.int .i64 x4_1] (fun _ => True) (fun _ => False) rfl rfl ?aP (fun _ hk => hk.elim) ?aF ?aO ?aB ?aS ?aL ?_; (case aP => exact rfl); (case aB => exact (by repeat (first | (with_reducible first | exact HB.out | apply below_alloc | apply pw_below_drewN | apply below_drew1) | exact HB.out))); (case aF => exact (fun _ _ => trivial)); (case aO => exact (by (with_reducible repeat (first | apply Kd.R_alloc | apply Kd.R_drewN | apply Kd.R_drew)); exact HO_3.out)); (case aS => exact (below_size (by repeat (first | (with_reducible first | exact HB.out | apply below_alloc | apply pw_below_drewN | apply below_drew1) | exact HB.out)))); (case aL => have := LMc4.out; omega); intro v182 w5 ho hb hg hat; rw [← Ny181.out] at ho; have n0_ := Aside0.mk (hb); have n1_ := Aside0.mk (ho); clear HB; clear HO_3; have HB := n0_; have HO183 := n1_; clear n0_ n1_; clear ho hb hg hat))
            go_roundg k1
            case measure => have := HK1.out; omega
            case rel => exact ⟨(IntKind.u64.wrap (Int.tdiv x0_1 2)), (y181), (wrap64 (x4_1 + 1)), (by first | rfl | (simp; done) | (simp [*]; done)), (by first | rfl | (simp; done) | (simp [*]; done)), H', ⟨by have := HK1.out; omega⟩, ⟨by (with_reducible repeat (first | apply Kd.R_alloc | apply Kd.R_drewN | apply Kd.R_drew)); exact HO183.out⟩, ⟨by repeat (first | (with_reducible first | exact HB.out | apply below_alloc | apply pw_below_drewN | apply below_drew1) | exact HB.out)⟩⟩
          · rw [if_neg c4] at H
            exact absurd H (by simp)
        · rw [if_neg c3] at H
          have c3b0 : ((Int.tmod x0_1 2) == 1) = false := beq_eq_false_iff_ne.mpr c3
          have c3b1 : ((Int.tmod x0_1 2) != 1) = true := bne_iff_ne.mpr c3
          have H' := Aside0.mk H
          clear H
          go_wp2
          go_roundg k1
          case measure => have := HK1.out; omega
          case rel => exact ⟨(IntKind.u64.wrap (Int.tdiv x0_1 2)), (x3_1), (wrap64 (x4_1 + 1)), (by first | rfl | (simp; done) | (simp [*]; done)), (by first | rfl | (simp; done) | (simp [*]; done)), H', ⟨by have := HK1.out; omega⟩, ⟨by (with_reducible repeat (first | apply Kd.R_alloc | apply Kd.R_drewN | apply Kd.R_drew)); exact HO_3.out⟩, ⟨by repeat (first | (with_reducible first | exact HB.out | apply below_alloc | apply pw_below_drewN | apply below_drew1) | exact HB.out)⟩⟩
      · rw [if_neg c2] at H
        have c2b0 : decide (x4_1 ≤ 64) = false := decide_eq_false c2
        clear c2
        obtain rfl := Option.some.inj H
        go_wp2
        go_ret
        exact ⟨_, by first | rfl | (simp [errW_none, errW_some] <;> rfl) | (simp [*, errW_none, errW_some] <;> rfl), by (with_reducible repeat (first | apply Kd.R_alloc | apply Kd.R_drewN | apply Kd.R_drew)); exact HO_3.out, by repeat (first | (with_reducible first | exact HB.out | apply below_alloc | apply pw_below_drewN | apply below_drew1) | exact HB.out)⟩

/-! ### selvedgeref05_Has: function 30 -/
def selvedgeref05_Has.l0 : Nat → Int → List Int → Int → Option (Bool)
  | 0, _, _, _ => none
  | k + 1, x1, x5, x6 => if x6 < (x5.length : Int) then (if 0 ≤ x6 then (if (rd x5 x6) = x1 then (some true) else (selvedgeref05_Has.l0 k x1 x5 (wrap64 (x6 + 1)))) else (none)) else (some false)
def selvedgeref05_Has.f (k : Nat) (a0 : Int) (a1 : Int) : Option (Bool) := (selvedgeref05_List.f k a0).bind fun t184 => (selvedgeref05_Has.l0 k a1 t184 0)
theorem selvedgeref05_Has.mono_l : ∀ k, (∀ y0 y1 y2, LeO (selvedgeref05_Has.l0 k y0 y1 y2) (selvedgeref05_Has.l0 (k + 1) y0 y1 y2))
  | 0 => fun _ _ _ r h => by simp [selvedgeref05_Has.l0] at h
  | k + 1 => by
    have ih0 := selvedgeref05_Has.mono_l k
    · intro y0 y1 y2
      unfold selvedgeref05_Has.l0
      repeat' first
      | (with_reducible exact ih0 _ _ _)
      | (with_reducible exact selvedgeref05_List.mono _ _)
      | (with_reducible exact LeO.refl _)
      | (with_reducible exact LeO.none _)
      | (with_reducible refine LeO.ite ?_ ?_)
      | (with_reducible refine LeO.bind ?_ (fun _ => ?_))
      | exact ih0 _ _ _
      | exact selvedgeref05_List.mono _ _
      | exact LeO.none _
      | refine LeO.ite ?_ ?_
      | refine LeO.bind ?_ (fun _ => ?_)
theorem selvedgeref05_Has.mono : ∀ a0 a1 k, LeO (selvedgeref05_Has.f k a0 a1) (selvedgeref05_Has.f (k + 1) a0 a1) := by
  intro a0 a1 k
  have ih0 := selvedgeref05_Has.mono_l k
  unfold selvedgeref05_Has.f
  repeat' first
      | (with_reducible exact ih0 _ _ _)
      | (with_reducible exact selvedgeref05_List.mono _ _)
      | (with_reducible exact LeO.refl _)
      | (with_reducible exact LeO.none _)
      | (with_reducible refine LeO.ite ?_ ?_)
      | (with_reducible refine LeO.bind ?_ (fun _ => ?_))
      | exact ih0 _ _ _
      | exact selvedgeref05_List.mono _ _
      | exact LeO.none _
      | refine LeO.ite ?_ ?_
      | refine LeO.bind ?_ (fun _ => ?_)
set_option maxHeartbeats 8000000 in
set_option maxRecDepth 100000 in
theorem selvedgeref05_Has.calls (k : Nat) (a0 : Int) (a1 : Int) (r : Bool) (w : World) (h : selvedgeref05_Has.f k a0 a1 = some r) :
    Calls Tryd.prog 30 #[.int .u64 a0, .int .i64 a1] w fun e w' => e = .returned (.bool r) ∧ Below w.heap.size w w' := by
  have HB := Aside0.mk (Below.refl w.heap.size w)
  have H : ((selvedgeref05_List.f k a0).bind fun t184 => (selvedgeref05_Has.l0 k a1 t184 0)) = some r := h
  clear h
  replace H := Option.bind_eq_some_iff.mp H
  obtain ⟨t184, A30, H⟩ := H
  replace H : (selvedgeref05_Has.l0 k a1 t184 0) = some r := H
  have A3 := Aside0.mk A30
  clear A30
  have H' := Aside0.mk H
  clear H
  go_enter Tryd.func30, Tryd.ntmps30
  go_wp2_with (first | ((with_reducible refine gate_callee (f := 29) rfl ?_); refine goesL_ (some 8) rfl rfl Tryd.func29 (by kernel_rfl) rfl #[.int .u64 a0] rfl (by (try simp only [List.map_toArray, List.map_cons, List.map_nil]); first | done | rfl | (simp only [List.length_drop, List.length_take]; rfl)) ?_; (with_reducible refine (selvedgeref05_List.calls k a0 t184 _ A3.out).mono ?_); rintro e w4 ⟨v185, rfl, ho0, hb⟩; refine ⟨_, rfl, ?_⟩; have n0_ := Aside0.mk (Kd.R_lower ho0 (below_size (by repeat (first | (with_reducible first | exact HB.out | apply below_alloc | apply pw_below_drewN | apply below_drew1) | exact HB.out)))); have n1_ := Aside0.mk (below_step (by repeat (first | (with_reducible first | exact HB.out | apply below_alloc | apply pw_below_drewN | apply below_drew1) | exact HB.out)) hb); clear HB; have HO186 := n0_; have HB := n1_; clear n0_ n1_; (try clear hb); (try clear hb2); (try clear hk); (try clear hi); (try clear ho0)))
  go_loopg [6] k (fun kq v6 w' => ∃ (x6_1 : Int), v6 = .int .i64 x6_1 ∧ Aside0 (selvedgeref05_Has.l0 kq a1 t184 x6_1 = some r) ∧ Aside0 (kq ≤ k) ∧ Aside0 (Kd.R (Kd.int .i64) 3 w' w.heap.size (fun _ => True) v185 t184) ∧ Aside0 (Below w.heap.size w w'))
  case atStart => exact ⟨(0), (by first | rfl | (simp; done) | (simp [*]; done)), H', ⟨Nat.le_refl _⟩, ⟨by (with_reducible repeat (first | apply Kd.R_alloc | apply Kd.R_drewN | apply Kd.R_drew)); exact HO186.out⟩, ⟨by repeat (first | (with_reducible first | exact HB.out | apply below_alloc | apply pw_below_drewN | apply below_drew1) | exact HB.out)⟩⟩
  case round =>
    clear H'
    try clear c2
    try clear p2
    try clear c3
    obtain ⟨x6_1, rfl, HA, HK1, HO_5, HB⟩ := hrel
    cases gk with
    | zero => exact absurd HA.out (by simp [selvedgeref05_Has.l0])
    | succ k1 =>
      have H := HA.out
      clear HA
      simp only [selvedgeref05_Has.l0] at H
      by_cases c5 : x6_1 < (t184.length : Int)
      · rw [if_pos c5] at H
        have c5b0 : decide (x6_1 < (t184.length : Int)) = true := decide_eq_true c5
        clear c5
        by_cases c6 : 0 ≤ x6_1
        · rw [if_pos c6] at H
          have c6b0 : decide (0 ≤ x6_1) = true := decide_eq_true c6
          clear c6
          by_cases c7 : (rd t184 x6_1) = a1
          · rw [if_pos c7] at H
            have c7b0 : ((rd t184 x6_1) == a1) = true := beq_iff_eq.mpr c7
            have c7b1 : ((rd t184 x6_1) != a1) = false := bne_eq_false_iff_eq.mpr c7
            clear c7
            obtain rfl := Option.some.inj H
            obtain ⟨Ao8, co8, eo8⟩ := Kd.R_slice HO_5.out
            subst eo8
            have p187 : 0 ≤ (x6_1 : Int) := of_decide_eq_true (by first | (with_reducible assumption) | assumption)
            have q187 : x6_1 < (t184.length : Int) := of_decide_eq_true (by first | (with_reducible assumption) | assumption)
            obtain ⟨ad187, e187, hx187_0⟩ := Kd.at_int (Kd.R_reads' HO_5.out).2.2 x6_1 p187 q187
            cases e187
            replace p187 := eq_true p187
            replace q187 := eq_true q187
            go_wp2
            go_ret
            exact ⟨by first | rfl | (simp [errW_none, errW_some] <;> rfl) | (simp [*, errW_none, errW_some] <;> rfl), by repeat (first | (with_reducible first | exact HB.out | apply below_alloc | apply pw_below_drewN | apply below_drew1) | exact HB.out)⟩
          · rw [if_neg c7] at H
            have c7b0 : ((rd t184 x6_1) == a1) = false := beq_eq_false_iff_ne.mpr c7
            have c7b1 : ((rd t184 x6_1) != a1) = true := bne_iff_ne.mpr c7
            have H' := Aside0.mk H
            clear H
            obtain ⟨Ao9, co9, eo9⟩ := Kd.R_slice HO_5.out
            subst eo9
            have p187 : 0 ≤ (x6_1 : Int) := of_decide_eq_true (by first | (with_reducible assumption) | assumption)
            have q187 : x6_1 < (t184.length : Int) := of_decide_eq_true (by first | (with_reducible assumption) | assumption)
            obtain ⟨ad187, e187, hx187_0⟩ := Kd.at_int (Kd.R_reads' HO_5.out).2.2 x6_1 p187 q187
            cases e187
            replace p187 := eq_true p187
            replace q187 := eq_true q187
            go_wp2
            go_roundg k1
            case measure => have := HK1.out; omega
            case rel => exact ⟨(wrap64 (x6_1 + 1)), (by first | rfl | (simp; done) | (simp [*]; done)), H', ⟨by have := HK1.out; omega⟩, ⟨by (with_reducible repeat (first | apply Kd.R_alloc | apply Kd.R_drewN | apply Kd.R_drew)); exact HO_5.out⟩, ⟨by repeat (first | (with_reducible first | exact HB.out | apply below_alloc | apply pw_below_drewN | apply below_drew1) | exact HB.out)⟩⟩
        · rw [if_neg c6] at H
          exact absurd H (by simp)
      · rw [if_neg c5] at H
        have c5b0 : decide (x6_1 < (t184.length : Int)) = false := decide_eq_false c5
        clear c5
        obtain rfl := Option.some.inj H
        obtain ⟨Ao10, co10, eo10⟩ := Kd.R_slice HO_5.out
        subst eo10
        go_wp2
        go_ret
        exact ⟨by first | rfl | (simp [errW_none, errW_some] <;> rfl) | (simp [*, errW_none, errW_some] <;> rfl), by repeat (first | (with_reducible first | exact HB.out | apply below_alloc | apply pw_below_drewN | apply below_drew1) | exact HB.out)⟩

end Go.Proofs.YtcbehldoocfiiaaDoor.Q
