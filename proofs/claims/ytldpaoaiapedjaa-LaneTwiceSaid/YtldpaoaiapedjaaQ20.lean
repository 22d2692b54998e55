/- What Go functions of this seat come to, as plain Lean functions, and the proof that each call does so, in whatever memory; its conditions stand in each theorem. Written by a program of this session (wip/gen), out of the print of the loaded translation. -/
import Derived.Test.YtldpaoaiapedjaaQ0
import Derived.Test.YtldpaoaiapedjaaQ18
import Derived.Test.YtldpaoaiapedjaaE2
import Derived.Test.YtldpaoaiapedjaaE3
namespace Go.Proofs.Ytldpaoaiapedjaa.Q
open Go.RowKit Go.Proofs.YtldpaoaiapedjaaW.PrintWords Go.Proofs.YtldpaoaiapedjaaW.PrintLast Go.Proofs.YtldpaoaiapedjaaW.PrintMore
attribute [local go_sem] max2_int min2_int max_two min_two max_three min_three max_four min_four   -- for this text's walks alone
set_option linter.unusedVariables false
set_option linter.unusedSimpArgs false

/-! ### L16_LaneTwice: function 8 -/
mutual
def L16_LaneTwice.j0 : Nat → Int → Bool → Bool → Int → Int → List ByteArray → List (S42) → Option (Bool)
  | 0, _, _, _, _, _, _, _ => none
  | k + 1, x1, x5, x23, x465000, x465001, x465002, x465003 => if x23 = true then (some x5) else ((lane_Ordered.f x465000 x465001 x465002 x465003 x1).bind fun bt466 => ((lane_Ordered.f bt466.1 bt466.2.1 bt466.2.2.1 bt466.2.2.2 x1).bind fun bt475 => (L16_LaneTwice.l0 k x1 x5 0 bt466.1 bt466.2.1 bt466.2.2.1 bt466.2.2.2 bt475.1 bt475.2.1 bt475.2.2.1 bt475.2.2.2)))
def L16_LaneTwice.l0 : Nat → Int → Bool → Int → Int → Int → List ByteArray → List (S42) → Int → Int → List ByteArray → List (S42) → Option (Bool)
  | 0, _, _, _, _, _, _, _, _, _, _, _ => none
  | k + 1, x1, x5, x8, x475000, x475001, x475002, x475003, x484000, x484001, x484002, x484003 => if x8 < (x475003.length : Int) then (if 0 ≤ x8 then (if ((rd_T42 x475003 x8).f1) = x1 then (some false) else (L16_LaneTwice.l0 k x1 x5 (wrap64 (x8 + 1)) x475000 x475001 x475002 x475003 x484000 x484001 x484002 x484003)) else (none)) else (if x5 = true then ((lane_Same.f k x475000 x475001 x475002 x475003 x484000 x484001 x484002 x484003).bind fun t485 => (some t485)) else (some false))
end
def L16_LaneTwice.f (k : Nat) (a0_0 : Int) (a0_1 : Int) (l0_2 : List ByteArray) (l0_3 : List (S42)) (a1 : Int) : Option (Bool) := (L16_shown.f).bind fun t465 => (if a0_1 > 1099511627776 then (L16_LaneTwice.j0 k a1 t465 true a0_0 a0_1 l0_2 l0_3) else (if a0_1 < 1 then (L16_LaneTwice.j0 k a1 t465 true a0_0 a0_1 l0_2 l0_3) else (L16_LaneTwice.j0 k a1 t465 (decide (a1 ≥ a0_1)) a0_0 a0_1 l0_2 l0_3)))
theorem L16_LaneTwice.mono_l : ∀ k, (∀ y0 y1 y2 y3 y4 y5 y6, LeO (L16_LaneTwice.j0 k y0 y1 y2 y3 y4 y5 y6) (L16_LaneTwice.j0 (k + 1) y0 y1 y2 y3 y4 y5 y6)) ∧ (∀ y0 y1 y2 y3 y4 y5 y6 y7 y8 y9 y10, LeO (L16_LaneTwice.l0 k y0 y1 y2 y3 y4 y5 y6 y7 y8 y9 y10) (L16_LaneTwice.l0 (k + 1) y0 y1 y2 y3 y4 y5 y6 y7 y8 y9 y10))
  | 0 => ⟨fun _ _ _ _ _ _ _ r h => by simp [L16_LaneTwice.j0] at h, fun _ _ _ _ _ _ _ _ _ _ _ r h => by simp [L16_LaneTwice.l0] at h⟩
  | k + 1 => by
    obtain ⟨ih0, ih1⟩ := L16_LaneTwice.mono_l k
    refine ⟨?_, ?_⟩
    · intro y0 y1 y2 y3 y4 y5 y6
      unfold L16_LaneTwice.j0
      repeat' first
      | (with_reducible exact ih0 _ _ _ _ _ _ _)
      | (with_reducible exact ih1 _ _ _ _ _ _ _ _ _ _ _)
      | (with_reducible exact lane_Same.mono _ _ _ _ _ _ _ _ _)
      | (with_reducible exact LeO.refl _)
      | (with_reducible exact LeO.none _)
      | (with_reducible refine LeO.ite ?_ ?_)
      | (with_reducible refine LeO.bind ?_ (fun _ => ?_))
      | exact ih0 _ _ _ _ _ _ _
      | exact ih1 _ _ _ _ _ _ _ _ _ _ _
      | exact lane_Same.mono _ _ _ _ _ _ _ _ _
      | exact LeO.none _
      | refine LeO.ite ?_ ?_
      | refine LeO.bind ?_ (fun _ => ?_)
    · intro y0 y1 y2 y3 y4 y5 y6 y7 y8 y9 y10
      unfold L16_LaneTwice.l0
      repeat' first
      | (with_reducible exact ih0 _ _ _ _ _ _ _)
      | (with_reducible exact ih1 _ _ _ _ _ _ _ _ _ _ _)
      | (with_reducible exact lane_Same.mono _ _ _ _ _ _ _ _ _)
      | (with_reducible exact LeO.refl _)
      | (with_reducible exact LeO.none _)
      | (with_reducible refine LeO.ite ?_ ?_)
      | (with_reducible refine LeO.bind ?_ (fun _ => ?_))
      | exact ih0 _ _ _ _ _ _ _
      | exact ih1 _ _ _ _ _ _ _ _ _ _ _
      | exact lane_Same.mono _ _ _ _ _ _ _ _ _
      | exact LeO.none _
      | refine LeO.ite ?_ ?_
      | refine LeO.bind ?_ (fun _ => ?_)
theorem L16_LaneTwice.mono : ∀ a0 a1 a2 a3 a4 k, LeO (L16_LaneTwice.f k a0 a1 a2 a3 a4) (L16_LaneTwice.f (k + 1) a0 a1 a2 a3 a4) := by
  intro a0 a1 a2 a3 a4 k
  obtain ⟨ih0, ih1⟩ := L16_LaneTwice.mono_l k
  unfold L16_LaneTwice.f
  repeat' first
      | (with_reducible exact ih0 _ _ _ _ _ _ _)
      | (with_reducible exact ih1 _ _ _ _ _ _ _ _ _ _ _)
      | (with_reducible exact lane_Same.mono _ _ _ _ _ _ _ _ _)
      | (with_reducible exact LeO.refl _)
      | (with_reducible exact LeO.none _)
      | (with_reducible refine LeO.ite ?_ ?_)
      | (with_reducible refine LeO.bind ?_ (fun _ => ?_))
      | exact ih0 _ _ _ _ _ _ _
      | exact ih1 _ _ _ _ _ _ _ _ _ _ _
      | exact lane_Same.mono _ _ _ _ _ _ _ _ _
      | exact LeO.none _
      | refine LeO.ite ?_ ?_
      | refine LeO.bind ?_ (fun _ => ?_)
set_option maxHeartbeats 8000000 in
set_option maxRecDepth 100000 in
theorem L16_LaneTwice.calls (k : Nat) (a0_0 : Int) (a0_1 : Int) (A0_2 : Option Addr) (c0_2 : Nat) (l0_2 : List ByteArray) (A0_3 : Option Addr) (c0_3 : Nat) (l0_3 : List (S42)) (a1 : Int) (r : Bool) (w : World) (hr0_2 : Kd.C Kd.string w A0_2 l0_2.length l0_2) (hc0_2 : l0_2.length ≤ c0_2) (hr0_3 : Kd.C k42 w A0_3 l0_3.length l0_3) (hc0_3 : l0_3.length ≤ c0_3) (hrt : r = true) (h : L16_LaneTwice.f k a0_0 a0_1 l0_2 l0_3 a1 = some r) :
    Calls Try.prog 8 #[.agg #[.int .i64 a0_0, .int .i64 a0_1, .slice A0_2 l0_2.length c0_2, .slice A0_3 l0_3.length c0_3], .int .i64 a1] w fun e w' => e = .returned (.bool r) ∧ Below w.heap.size w w' := by
  have hu25 := Try.underlying25
  have HR0_2 := Aside0.mk hr0_2
  have HC0_2 := Aside0.mk hc0_2
  clear hr0_2 hc0_2
  have HR0_3 := Aside0.mk hr0_3
  have HC0_3 := Aside0.mk hc0_3
  clear hr0_3 hc0_3
  have HRT := Aside0.mk hrt
  clear hrt
  have HB := Aside0.mk (Below.refl w.heap.size w)
  have H : ((L16_shown.f).bind fun t465 => (if a0_1 > 1099511627776 then (L16_LaneTwice.j0 k a1 t465 true a0_0 a0_1 l0_2 l0_3) else (if a0_1 < 1 then (L16_LaneTwice.j0 k a1 t465 true a0_0 a0_1 l0_2 l0_3) else (L16_LaneTwice.j0 k a1 t465 (decide (a1 ≥ a0_1)) a0_0 a0_1 l0_2 l0_3)))) = some r := h
  clear h
  replace H := Option.bind_eq_some_iff.mp H
  obtain ⟨t465, A30, H⟩ := H
  replace H : (if a0_1 > 1099511627776 then (L16_LaneTwice.j0 k a1 t465 true a0_0 a0_1 l0_2 l0_3) else (if a0_1 < 1 then (L16_LaneTwice.j0 k a1 t465 true a0_0 a0_1 l0_2 l0_3) else (L16_LaneTwice.j0 k a1 t465 (decide (a1 ≥ a0_1)) a0_0 a0_1 l0_2 l0_3))) = some r := H
  have A3 := Aside0.mk A30
  clear A30
  have HC4 := Aside0.mk H
  clear H
  go_enter Try.func8, Try.ntmps8
  go_upto_region 2 with (first | ((with_reducible refine gate_dst (N := 2) rfl ?_); refine box_event ?hg (N := 2) ?hd (cs := #[.int .i64 a0_0, .int .i64 a0_1, .slice A0_2 l0_2.length c0_2, .slice A0_3 l0_3.length c0_3]) (t := 25) ?hr ?_; (case hd => rfl); (case hg => rfl); (case hr => first | (go_simp; done) | (go_simp; rfl)); intro gb464 hg w5 hbox hb; have n0_ := Aside0.mk (below_step (by repeat (first | (with_reducible first | exact HB.out | apply below_alloc | apply pw_below_drewN | apply below_drew1) | exact HB.out)) hb); have n1_ := Aside0.mk (hbox); have n2_ := Aside0.mk ((by rw [hg]; exact (below_size (by repeat (first | (with_reducible first | exact HB.out | apply below_alloc | apply pw_below_drewN | apply below_drew1) | exact HB.out))) : w.heap.size ≤ gb464)); have n3_ := Aside0.mk ((by rw [hg]; exact (below_size (by repeat (first | (with_reducible first | exact HB.out | apply below_alloc | apply pw_below_drewN | apply below_drew1) | exact HB.out))) : w.heap.size ≤ gb464)); clear HB; have HB := n0_; have BK464 := n1_; have GW464 := n2_; have GE464 := n3_; clear n0_ n1_ n2_ n3_; clear hb hbox hg) | ((with_reducible refine gate_callee (f := 9) rfl ?_); refine goesL_ (some 9) rfl rfl Try.func9 (by kernel_rfl) rfl #[] rfl (by (try simp only [List.map_toArray, List.map_cons, List.map_nil]); first | done | rfl | (simp only [List.length_drop, List.length_take]; rfl)) ?_; (with_reducible refine (L16_shown.calls  t465 _ A3.out).mono ?_); rintro e w6 ⟨rfl, hb⟩; refine ⟨_, rfl, ?_⟩; have n0_ := Aside0.mk (blk_below (g := gb464) (o := .cells #[.int .i64 a0_0, .int .i64 a0_1, .slice A0_2 l0_2.length c0_2, .slice A0_3 l0_3.length c0_3] 25 (0, 0)) (by (with_reducible repeat (first | refine blk_drewN ?_ _ | refine blk_drew ?_ | refine blk_alloc ?_ _)); exact BK464.out) hb); have n1_ := Aside0.mk (below_step (by repeat (first | (with_reducible first | exact HB.out | apply below_alloc | apply pw_below_drewN | apply below_drew1 | refine below_set ?_ GE464.out) | exact HB.out)) hb); clear BK464; clear HB; have BK464 := n0_; have HB := n1_; clear n0_ n1_; (try clear hb); (try clear hb2); (try clear hk); (try clear hi)))
  (try simp only [Act.put, List.setIfInBounds_toArray, List.set_cons_zero, List.set_cons_succ])
  go_cut [23] (fun v23 wc => ∃ (kq : Nat) (x23_3 : Bool), v23 = .bool x23_3 ∧ Aside0 (L16_LaneTwice.j0 kq a1 t465 x23_3 a0_0 a0_1 l0_2 l0_3 = some r) ∧ Aside0 (kq ≤ k) ∧ Aside0 (wc.heap[gb464]? = some (.cells #[.int .i64 a0_0, .int .i64 a0_1, (.slice A0_2 l0_2.length c0_2), (.slice A0_3 l0_3.length c0_3)] 25 (0, 0))) ∧ Aside0 (Below w.heap.size w wc))
  case first =>
    have H := HC4.out
    clear HC4
    by_cases c7 : a0_1 > 1099511627776
    · rw [if_pos c7] at H
      have c7b0 : decide (1099511627776 < a0_1) = true := decide_eq_true c7
      clear c7
      (first | rw [c7b0] | (simp only [i64_w, i32_w]; rw [c7b0]) | skip)
      have H' := Aside0.mk H
      clear H
      have hcz8_0 : w6.cell? ⟨gb464, 0, none⟩ = some (.int .i64 a0_0) := (blk_cell BK464.out 0).trans rfl
      have hcz8_1 : w6.cell? ⟨gb464, 1, none⟩ = some (.int .i64 a0_1) := (blk_cell BK464.out 1).trans rfl
      have hcz8_2 : w6.cell? ⟨gb464, 2, none⟩ = some (.slice A0_2 l0_2.length c0_2) := (blk_cell BK464.out 2).trans rfl
      have hcz8_3 : w6.cell? ⟨gb464, 3, none⟩ = some (.slice A0_3 l0_3.length c0_3) := (blk_cell BK464.out 3).trans rfl
      have hfz8_0 := blk_frozen BK464.out 0
      have hfz8_1 := blk_frozen BK464.out 1
      have hfz8_2 := blk_frozen BK464.out 2
      have hfz8_3 := blk_frozen BK464.out 3
      go_wp2
      go_meet
      case rel => exact ⟨_, (true), (by first | rfl | (simp; done) | (simp [*]; done)), H', ⟨by first | omega | exact Nat.le_refl _⟩, ⟨by (with_reducible repeat (first | refine blk_drewN ?_ _ | refine blk_drew ?_ | refine blk_alloc ?_ _)); exact BK464.out⟩, ⟨by repeat (first | (with_reducible first | exact HB.out | apply below_alloc | apply pw_below_drewN | apply below_drew1 | refine below_set ?_ GE464.out) | exact HB.out)⟩⟩
    · rw [if_neg c7] at H
      have c7b0 : decide (1099511627776 < a0_1) = false := decide_eq_false c7
      clear c7
      (first | rw [c7b0] | (simp only [i64_w, i32_w]; rw [c7b0]) | skip)
      by_cases c9 : a0_1 < 1
      · rw [if_pos c9] at H
        have c9b0 : decide (a0_1 < 1) = true := decide_eq_true c9
        clear c9
        have H' := Aside0.mk H
        clear H
        have hcz10_0 : w6.cell? ⟨gb464, 0, none⟩ = some (.int .i64 a0_0) := (blk_cell BK464.out 0).trans rfl
        have hcz10_1 : w6.cell? ⟨gb464, 1, none⟩ = some (.int .i64 a0_1) := (blk_cell BK464.out 1).trans rfl
        have hcz10_2 : w6.cell? ⟨gb464, 2, none⟩ = some (.slice A0_2 l0_2.length c0_2) := (blk_cell BK464.out 2).trans rfl
        have hcz10_3 : w6.cell? ⟨gb464, 3, none⟩ = some (.slice A0_3 l0_3.length c0_3) := (blk_cell BK464.out 3).trans rfl
        have hfz10_0 := blk_frozen BK464.out 0
        have hfz10_1 := blk_frozen BK464.out 1
        have hfz10_2 := blk_frozen BK464.out 2
        have hfz10_3 := blk_frozen BK464.out 3
        go_wp2
        go_meet
        case rel => exact ⟨_, (true), (by first | rfl | (simp; done) | (simp [*]; done)), H', ⟨by first | omega | exact Nat.le_refl _⟩, ⟨by (with_reducible repeat (first | refine blk_drewN ?_ _ | refine blk_drew ?_ | refine blk_alloc ?_ _)); exact BK464.out⟩, ⟨by repeat (first | (with_reducible first | exact HB.out | apply below_alloc | apply pw_below_drewN | apply below_drew1 | refine below_set ?_ GE464.out) | exact HB.out)⟩⟩
      · rw [if_neg c9] at H
        have c9b0 : decide (a0_1 < 1) = false := decide_eq_false c9
        clear c9
        have H' := Aside0.mk H
        clear H
        have hcz11_0 : w6.cell? ⟨gb464, 0, none⟩ = some (.int .i64 a0_0) := (blk_cell BK464.out 0).trans rfl
        have hcz11_1 : w6.cell? ⟨gb464, 1, none⟩ = some (.int .i64 a0_1) := (blk_cell BK464.out 1).trans rfl
        have hcz11_2 : w6.cell? ⟨gb464, 2, none⟩ = some (.slice A0_2 l0_2.length c0_2) := (blk_cell BK464.out 2).trans rfl
        have hcz11_3 : w6.cell? ⟨gb464, 3, none⟩ = some (.slice A0_3 l0_3.length c0_3) := (blk_cell BK464.out 3).trans rfl
        have hfz11_0 := blk_frozen BK464.out 0
        have hfz11_1 := blk_frozen BK464.out 1
        have hfz11_2 := blk_frozen BK464.out 2
        have hfz11_3 := blk_frozen BK464.out 3
        go_wp2
        go_meet
        case rel => exact ⟨_, (decide (a1 ≥ a0_1)), (by first | rfl | (simp; done) | (simp [*]; done)), H', ⟨by first | omega | exact Nat.le_refl _⟩, ⟨by (with_reducible repeat (first | refine blk_drewN ?_ _ | refine blk_drew ?_ | refine blk_alloc ?_ _)); exact BK464.out⟩, ⟨by repeat (first | (with_reducible first | exact HB.out | apply below_alloc | apply pw_below_drewN | apply below_drew1 | refine below_set ?_ GE464.out) | exact HB.out)⟩⟩
  case rest =>
    clear HC4
    try clear p2
    try clear c7
    try clear c7b0
    try clear c8
    try clear c9
    try clear c9b0
    try clear hcz10_0
    try clear hcz10_1
    try clear hcz10_2
    try clear hcz10_3
    try clear hcz11_0
    try clear hcz11_1
    try clear hcz11_2
    try clear hcz11_3
    try clear hcz8_0
    try clear hcz8_1
    try clear hcz8_2
    try clear hcz8_3
    try clear hfz10_0
    try clear hfz10_1
    try clear hfz10_2
    try clear hfz10_3
    try clear hfz11_0
    try clear hfz11_1
    try clear hfz11_2
    try clear hfz11_3
    try clear hfz8_0
    try clear hfz8_1
    try clear hfz8_2
    try clear hfz8_3
    obtain ⟨kq, x23_3, rfl, HA, HJ3, BK464, HB⟩ := hcut
    cases kq with
    | zero => exact absurd HA.out (by simp [L16_LaneTwice.j0])
    | succ kj3 =>
      have H := HA.out
      clear HA
      simp only [L16_LaneTwice.j0] at H
      by_cases c12 : x23_3 = true
      · subst c12
        have H1 : (some t465) = some r := by rw [if_pos rfl] at H; exact H
        clear H
        have H := H1
        clear H1
        obtain rfl := Option.some.inj H
        go_wp2
        go_ret
        exact ⟨by first | rfl | (simp [errW_none, errW_some] <;> rfl) | (simp [*, errW_none, errW_some] <;> rfl), by repeat (first | (with_reducible first | exact HB.out | apply below_alloc | apply pw_below_drewN | apply below_drew1 | refine below_set ?_ GE464.out) | exact HB.out)⟩
      · replace c12 := Bool.eq_false_iff.mpr c12
        subst c12
        have H1 : ((lane_Ordered.f a0_0 a0_1 l0_2 l0_3 a1).bind fun bt466 => ((lane_Ordered.f bt466.1 bt466.2.1 bt466.2.2.1 bt466.2.2.2 a1).bind fun bt475 => (L16_LaneTwice.l0 kj3 a1 t465 0 bt466.1 bt466.2.1 bt466.2.2.1 bt466.2.2.2 bt475.1 bt475.2.1 bt475.2.2.1 bt475.2.2.2))) = some r := by rw [if_neg (show ¬ (false = true) by decide)] at H; exact H
        clear H
        have H := H1
        clear H1
        replace H := Option.bind_eq_some_iff.mp H
        obtain ⟨⟨t466, t467, t468, t471⟩, A130, H⟩ := H
        replace H : ((lane_Ordered.f t466 t467 t468 t471 a1).bind fun bt475 => (L16_LaneTwice.l0 kj3 a1 t465 0 t466 t467 t468 t471 bt475.1 bt475.2.1 bt475.2.2.1 bt475.2.2.2)) = some r := H
        have A13 := Aside0.mk A130
        clear A130
        replace H := Option.bind_eq_some_iff.mp H
        obtain ⟨⟨t475, t476, t477, t480⟩, A140, H⟩ := H
        replace H : (L16_LaneTwice.l0 kj3 a1 t465 0 t466 t467 t468 t471 t475 t476 t477 t480) = some r := H
        have A14 := Aside0.mk A140
        clear A140
        have H' := Aside0.mk H
        clear H
        have hcz15_0 : wc.cell? ⟨gb464, 0, none⟩ = some (.int .i64 a0_0) := (blk_cell BK464.out 0).trans rfl
        have hcz15_1 : wc.cell? ⟨gb464, 1, none⟩ = some (.int .i64 a0_1) := (blk_cell BK464.out 1).trans rfl
        have hcz15_2 : wc.cell? ⟨gb464, 2, none⟩ = some (.slice A0_2 l0_2.length c0_2) := (blk_cell BK464.out 2).trans rfl
        have hcz15_3 : wc.cell? ⟨gb464, 3, none⟩ = some (.slice A0_3 l0_3.length c0_3) := (blk_cell BK464.out 3).trans rfl
        have hfz15_0 := blk_frozen BK464.out 0
        have hfz15_1 := blk_frozen BK464.out 1
        have hfz15_2 := blk_frozen BK464.out 2
        have hfz15_3 := blk_frozen BK464.out 3
        go_wp2_with (first | ((with_reducible refine gate_callee (f := 17) rfl ?_); refine goesL_ (some 27) rfl rfl Try.func17 (by kernel_rfl) rfl #[.agg #[.int .i64 a0_0, .int .i64 a0_1, .slice A0_2 l0_2.length c0_2, .slice A0_3 l0_3.length c0_3], .int .i64 a1] rfl (by (try simp only [List.map_toArray, List.map_cons, List.map_nil]); first | done | rfl | (simp only [List.length_drop, List.length_take]; rfl)) ?_; (with_reducible refine (lane_Ordered.calls a0_0 a0_1 (fun k_ => k_ < w.heap.size) _ _ l0_2 (fun k_ => k_ < w.heap.size) _ _ l0_3 a1 t466 t467 t468 t471 _ ?side1 ?side2 A13.out).mono ?_); (case side1 => exact Kd.V_mk HC0_2.out (Kd.F_below (Kd.C_F Kd.heap_string HR0_2.out) (by repeat (first | (with_reducible first | exact HB.out | apply below_alloc | apply pw_below_drewN | apply below_drew1 | refine below_set ?_ GE464.out) | exact HB.out)))); (case side2 => exact Kd.V_mk HC0_3.out (Kd.F_below (Kd.C_F k42_heap HR0_3.out) (by repeat (first | (with_reducible first | exact HB.out | apply below_alloc | apply pw_below_drewN | apply below_drew1 | refine below_set ?_ GE464.out) | exact HB.out)))); rintro e w16 ⟨v469, v472, rfl, ho0, ho1, hb⟩; refine ⟨_, rfl, ?_⟩; have n0_ := Aside0.mk (Kd.V_lower (Kd.V_mono (ok' := fun k_ => k_ ≠ gb464) ho0 (fun k_ hk_ => Or.elim hk_ (fun hs_ => Or.elim hs_ (fun hs_ => fun e_ => Nat.not_le.2 hs_ (by rw [e_]; exact GW464.out)) (fun hs_ => fun e_ => Nat.not_le.2 hs_ (by rw [e_]; exact GW464.out))) (fun hn_ => (Kd.freshB (g := gb464) (o := .cells #[.int .i64 a0_0, .int .i64 a0_1, .slice A0_2 l0_2.length c0_2, .slice A0_3 l0_3.length c0_3] 25 (0, 0)) (by (with_reducible repeat (first | refine blk_drewN ?_ _ | refine blk_drew ?_ | refine blk_alloc ?_ _)); exact BK464.out) k_ hn_)))) (below_size (by repeat (first | (with_reducible first | exact HB.out | apply below_alloc | apply pw_below_drewN | apply below_drew1 | refine below_set ?_ GE464.out) | exact HB.out)))); have n1_ := Aside0.mk (Kd.V_lower (Kd.V_mono (ok' := fun k_ => k_ ≠ gb464) ho1 (fun k_ hk_ => Or.elim hk_ (fun hs_ => Or.elim hs_ (fun hs_ => fun e_ => Nat.not_le.2 hs_ (by rw [e_]; exact GW464.out)) (fun hs_ => fun e_ => Nat.not_le.2 hs_ (by rw [e_]; exact GW464.out))) (fun hn_ => (Kd.freshB (g := gb464) (o := .cells #[.int .i64 a0_0, .int .i64 a0_1, .slice A0_2 l0_2.length c0_2, .slice A0_3 l0_3.length c0_3] 25 (0, 0)) (by (with_reducible repeat (first | refine blk_drewN ?_ _ | refine blk_drew ?_ | refine blk_alloc ?_ _)); exact BK464.out) k_ hn_)))) (below_size (by repeat (first | (with_reducible first | exact HB.out | apply below_alloc | apply pw_below_drewN | apply below_drew1 | refine below_set ?_ GE464.out) | exact HB.out)))); have n2_ := Aside0.mk (blk_below (g := gb464) (o := .cells #[.int .i64 a0_0, .int .i64 a0_1, .slice A0_2 l0_2.length c0_2, .slice A0_3 l0_3.length c0_3] 25 (0, 0)) (by (with_reducible repeat (first | refine blk_drewN ?_ _ | refine blk_drew ?_ | refine blk_alloc ?_ _)); exact BK464.out) hb); have n3_ := Aside0.mk (below_step (by repeat (first | (with_reducible first | exact HB.out | apply below_alloc | apply pw_below_drewN | apply below_drew1 | refine below_set ?_ GE464.out) | exact HB.out)) hb); clear BK464; clear HB; have HO470 := n0_; have HO473 := n1_; have BK464 := n2_; have HB := n3_; clear n0_ n1_ n2_ n3_; (try clear hb); (try clear hb2); (try clear hk); (try clear hi); (try clear ho0); (try clear ho1)) | ((with_reducible refine gate_dst (N := 6) rfl ?_); refine box_event ?hg (N := 6) ?hd (cs := #[.int .i64 0, .int .i64 0, .slice none 0 0, .slice none 0 0]) (t := 25) ?hr ?_; (case hd => rfl); (case hg => rfl); (case hr => first | (go_simp; done) | (go_simp; rfl)); intro gb474 hg w17 hbox hb; have n0_ := Aside0.mk (Kd.V_below (Kd.V_elderB (by (with_reducible repeat (first | apply Kd.V_alloc | apply Kd.V_drewN | apply Kd.V_drew)); exact HO470.out) gb474 (Nat.le_of_eq hg.symm)) hb); have n1_ := Aside0.mk (Kd.V_below (Kd.V_elderB (by (with_reducible repeat (first | apply Kd.V_alloc | apply Kd.V_drewN | apply Kd.V_drew)); exact HO473.out) gb474 (Nat.le_of_eq hg.symm)) hb); have n2_ := Aside0.mk (blk_below (g := gb464) (o := .cells #[.int .i64 a0_0, .int .i64 a0_1, .slice A0_2 l0_2.length c0_2, .slice A0_3 l0_3.length c0_3] 25 (0, 0)) (by (with_reducible repeat (first | refine blk_drewN ?_ _ | refine blk_drew ?_ | refine blk_alloc ?_ _)); exact BK464.out) hb); have n3_ := Aside0.mk (below_step (by repeat (first | (with_reducible first | exact HB.out | apply below_alloc | apply pw_below_drewN | apply below_drew1 | refine below_set ?_ GE464.out) | exact HB.out)) hb); have n4_ := Aside0.mk (hbox); have n5_ := Aside0.mk ((by rw [hg]; exact (below_size (by repeat (first | (with_reducible first | exact HB.out | apply below_alloc | apply pw_below_drewN | apply below_drew1 | refine below_set ?_ GE464.out) | exact HB.out))) : w.heap.size ≤ gb474)); have n6_ := Aside0.mk ((by rw [hg]; exact (below_size (by repeat (first | (with_reducible first | exact HB.out | apply below_alloc | apply pw_below_drewN | apply below_drew1 | refine below_set ?_ GE464.out) | exact HB.out))) : w.heap.size ≤ gb474)); have n7_ := Aside0.mk ((by rw [hg]; exact Nat.ne_of_lt (blk_lt (g := gb464) (o := .cells #[.int .i64 a0_0, .int .i64 a0_1, .slice A0_2 l0_2.length c0_2, .slice A0_3 l0_3.length c0_3] 25 (0, 0)) (by (with_reducible repeat (first | refine blk_drewN ?_ _ | refine blk_drew ?_ | refine blk_alloc ?_ _)); exact BK464.out)) : gb464 ≠ gb474)); have n8_ := Aside0.mk ((by rw [hg]; exact Nat.ne_of_gt (blk_lt (g := gb464) (o := .cells #[.int .i64 a0_0, .int .i64 a0_1, .slice A0_2 l0_2.length c0_2, .slice A0_3 l0_3.length c0_3] 25 (0, 0)) (by (with_reducible repeat (first | refine blk_drewN ?_ _ | refine blk_drew ?_ | refine blk_alloc ?_ _)); exact BK464.out)) : gb474 ≠ gb464)); clear HO470; clear HO473; clear BK464; clear HB; have HO470 := n0_; have HO473 := n1_; have BK464 := n2_; have HB := n3_; have BK474 := n4_; have GW474 := n5_; have GE474 := n6_; have NB464_474 := n7_; have NB474_464 := n8_; clear n0_ n1_ n2_ n3_ n4_ n5_ n6_ n7_ n8_; clear hb hbox hg; have hnb18 := NB474_464.out; have hnc18 := NB464_474.out; have hcz19_0 : w17.cell? ⟨gb474, 0, none⟩ = some (.int .i64 0) := (blk_cell BK474.out 0).trans rfl; have hcz19_1 : w17.cell? ⟨gb474, 1, none⟩ = some (.int .i64 0) := (blk_cell BK474.out 1).trans rfl; have hcz19_2 : w17.cell? ⟨gb474, 2, none⟩ = some (.slice none 0 0) := (blk_cell BK474.out 2).trans rfl; have hcz19_3 : w17.cell? ⟨gb474, 3, none⟩ = some (.slice none 0 0) := (blk_cell BK474.out 3).trans rfl; have hfz19_0 := blk_frozen BK474.out 0; have hfz19_1 := blk_frozen BK474.out 1; have hfz19_2 := blk_frozen BK474.out 2; have hfz19_3 := blk_frozen BK474.out 3; obtain ⟨Ao20, co20, eo20⟩ := Kd.V_slice HO470.out; subst eo20; obtain ⟨Ao21, co21, eo21⟩ := Kd.V_slice HO473.out; subst eo21) | ((with_reducible refine gate_store (t := 25) (p := 6) rfl ?_); refine store_event (t := 25) (p := 6) (v := ?vo_w22) (w1 := ((((w17.setCell ⟨gb474, 0, none⟩ (.int .i64 t466)).setCell ⟨gb474, 1, none⟩ (.int .i64 t467)).setCell ⟨gb474, 2, none⟩ (.slice Ao20 t468.length co20)).setCell ⟨gb474, 3, none⟩ (.slice Ao21 t471.length co21))) ?hg ?ho ?hn ?hr ?_; (case ho => rfl); (case hg => rfl); (case hn => rfl); (case hr => first | (go_simp; done) | (go_simp; rfl)); intro w22 hw; have n0_ : Aside0 (Kd.V Kd.string 9 w22 w.heap.size (fun k_ => k_ ≠ gb464 ∧ k_ ≠ gb474) (.slice Ao20 t468.length co20) t468) := ⟨(by rw [hw]; exact (by (with_reducible repeat (first | apply Kd.V_alloc | apply Kd.V_drewN | apply Kd.V_drew)); exact Kd.V_mono (Kd.V_far (p := ⟨gb474, 3, none⟩) (Kd.V_far (p := ⟨gb474, 2, none⟩) (Kd.V_far (p := ⟨gb474, 1, none⟩) (Kd.V_far (p := ⟨gb474, 0, none⟩) (Kd.V_mono HO470.out (fun k_ hk => (⟨hk, hk.2⟩ : _ ∧ k_ ≠ gb474))) (fun _ hk => hk.2) (.int .i64 t466)) (fun _ hk => hk.2) (.int .i64 t467)) (fun _ hk => hk.2) (.slice Ao20 t468.length co20)) (fun _ hk => hk.2) (.slice Ao21 t471.length co21)) (fun _ hk => ⟨hk.1.1, hk.1.2⟩)))⟩; have n1_ : Aside0 (Kd.V k42 42 w22 w.heap.size (fun k_ => k_ ≠ gb464 ∧ k_ ≠ gb474) (.slice Ao21 t471.length co21) t471) := ⟨(by rw [hw]; exact (by (with_reducible repeat (first | apply Kd.V_alloc | apply Kd.V_drewN | apply Kd.V_drew)); exact Kd.V_mono (Kd.V_far (p := ⟨gb474, 3, none⟩) (Kd.V_far (p := ⟨gb474, 2, none⟩) (Kd.V_far (p := ⟨gb474, 1, none⟩) (Kd.V_far (p := ⟨gb474, 0, none⟩) (Kd.V_mono HO473.out (fun k_ hk => (⟨hk, hk.2⟩ : _ ∧ k_ ≠ gb474))) (fun _ hk => hk.2) (.int .i64 t466)) (fun _ hk => hk.2) (.int .i64 t467)) (fun _ hk => hk.2) (.slice Ao20 t468.length co20)) (fun _ hk => hk.2) (.slice Ao21 t471.length co21)) (fun _ hk => ⟨hk.1.1, hk.1.2⟩)))⟩; have n2_ : Aside0 (w22.heap[gb464]? = some (.cells #[.int .i64 a0_0, .int .i64 a0_1, .slice A0_2 l0_2.length c0_2, .slice A0_3 l0_3.length c0_3] 25 (0, 0))) := ⟨(by rw [hw]; exact (by (with_reducible repeat (first | refine blk_drewN ?_ _ | refine blk_drew ?_ | refine blk_alloc ?_ _)); refine blk_far ?_ NB464_474.out _; (with_reducible repeat (first | refine blk_drewN ?_ _ | refine blk_drew ?_ | refine blk_alloc ?_ _)); refine blk_far ?_ NB464_474.out _; (with_reducible repeat (first | refine blk_drewN ?_ _ | refine blk_drew ?_ | refine blk_alloc ?_ _)); refine blk_far ?_ NB464_474.out _; (with_reducible repeat (first | refine blk_drewN ?_ _ | refine blk_drew ?_ | refine blk_alloc ?_ _)); refine blk_far ?_ NB464_474.out _; (with_reducible repeat (first | refine blk_drewN ?_ _ | refine blk_drew ?_ | refine blk_alloc ?_ _)); exact BK464.out))⟩; have n3_ : Aside0 (w22.heap[gb474]? = some (.cells #[.int .i64 t466, .int .i64 t467, .slice Ao20 t468.length co20, .slice Ao21 t471.length co21] 25 (0, 0))) := ⟨(by rw [hw]; exact (by (with_reducible repeat (first | refine blk_drewN ?_ _ | refine blk_drew ?_ | refine blk_alloc ?_ _)); refine blk_put (cs := #[.int .i64 t466, .int .i64 t467, .slice Ao20 t468.length co20, .slice none 0 0]) ?_ 3 _ rfl; (with_reducible repeat (first | refine blk_drewN ?_ _ | refine blk_drew ?_ | refine blk_alloc ?_ _)); refine blk_put (cs := #[.int .i64 t466, .int .i64 t467, .slice none 0 0, .slice none 0 0]) ?_ 2 _ rfl; (with_reducible repeat (first | refine blk_drewN ?_ _ | refine blk_drew ?_ | refine blk_alloc ?_ _)); refine blk_put (cs := #[.int .i64 t466, .int .i64 0, .slice none 0 0, .slice none 0 0]) ?_ 1 _ rfl; (with_reducible repeat (first | refine blk_drewN ?_ _ | refine blk_drew ?_ | refine blk_alloc ?_ _)); refine blk_put (cs := #[.int .i64 0, .int .i64 0, .slice none 0 0, .slice none 0 0]) ?_ 0 _ rfl; (with_reducible repeat (first | refine blk_drewN ?_ _ | refine blk_drew ?_ | refine blk_alloc ?_ _)); exact BK474.out))⟩; have n4_ : Aside0 (Below w.heap.size w w22) := ⟨(by rw [hw]; exact (by repeat (first | (with_reducible first | exact HB.out | apply below_alloc | apply pw_below_drewN | apply below_drew1 | refine below_set ?_ GE464.out | refine below_set ?_ GE474.out) | exact HB.out)))⟩; clear hw; clear HO470; clear HO473; clear BK464; clear BK474; clear HB; have HO470 := n0_; have HO473 := n1_; have BK464 := n2_; have BK474 := n3_; have HB := n4_; clear n0_ n1_ n2_ n3_ n4_; have hcz23_0 : w22.cell? ⟨gb474, 0, none⟩ = some (.int .i64 t466) := (blk_cell BK474.out 0).trans rfl; have hcz23_1 : w22.cell? ⟨gb474, 1, none⟩ = some (.int .i64 t467) := (blk_cell BK474.out 1).trans rfl; have hcz23_2 : w22.cell? ⟨gb474, 2, none⟩ = some (.slice Ao20 t468.length co20) := (blk_cell BK474.out 2).trans rfl; have hcz23_3 : w22.cell? ⟨gb474, 3, none⟩ = some (.slice Ao21 t471.length co21) := (blk_cell BK474.out 3).trans rfl; have hfz23_0 := blk_frozen BK474.out 0; have hfz23_1 := blk_frozen BK474.out 1; have hfz23_2 := blk_frozen BK474.out 2; have hfz23_3 := blk_frozen BK474.out 3) | ((with_reducible refine gate_callee (f := 17) rfl ?_); refine goesL_ (some 30) rfl rfl Try.func17 (by kernel_rfl) rfl #[.agg #[.int .i64 t466, .int .i64 t467, .slice Ao20 t468.length co20, .slice Ao21 t471.length co21], .int .i64 a1] rfl (by (try simp only [List.map_toArray, List.map_cons, List.map_nil]); first | done | rfl | (simp only [List.length_drop, List.length_take]; rfl)) ?_; (with_reducible refine (lane_Ordered.calls t466 t467 (fun k_ => (k_ ≠ gb464 ∧ k_ ≠ gb474)) _ _ t468 (fun k_ => (k_ ≠ gb464 ∧ k_ ≠ gb474)) _ _ t471 a1 t475 t476 t477 t480 _ ?side1 ?side2 A14.out).mono ?_); (case side1 => exact HO470.out); (case side2 => exact HO473.out); rintro e w24 ⟨v478, v481, rfl, ho0, ho1, hb⟩; refine ⟨_, rfl, ?_⟩; have n0_ := Aside0.mk (Kd.V_below (by (with_reducible repeat (first | apply Kd.V_alloc | apply Kd.V_drewN | apply Kd.V_drew)); exact HO470.out) hb); have n1_ := Aside0.mk (Kd.V_below (by (with_reducible repeat (first | apply Kd.V_alloc | apply Kd.V_drewN | apply Kd.V_drew)); exact HO473.out) hb); have n2_ := Aside0.mk (Kd.V_lower (Kd.V_mono (ok' := fun k_ => k_ ≠ gb464 ∧ k_ ≠ gb474) ho0 (fun k_ hk_ => ⟨Or.elim hk_ (fun hs_ => Or.elim hs_ (fun hs_ => hs_.1) (fun hs_ => hs_.1)) (fun hn_ => (Kd.freshB (g := gb464) (o := .cells #[.int .i64 a0_0, .int .i64 a0_1, .slice A0_2 l0_2.length c0_2, .slice A0_3 l0_3.length c0_3] 25 (0, 0)) (by (with_reducible repeat (first | refine blk_drewN ?_ _ | refine blk_drew ?_ | refine blk_alloc ?_ _)); exact BK464.out) k_ hn_)), Or.elim hk_ (fun hs_ => Or.elim hs_ (fun hs_ => hs_.2) (fun hs_ => hs_.2)) (fun hn_ => (Kd.freshB (g := gb474) (o := .cells #[.int .i64 t466, .int .i64 t467, .slice Ao20 t468.length co20, .slice Ao21 t471.length co21] 25 (0, 0)) (by (with_reducible repeat (first | refine blk_drewN ?_ _ | refine blk_drew ?_ | refine blk_alloc ?_ _)); exact BK474.out) k_ hn_))⟩)) (below_size (by repeat (first | (with_reducible first | exact HB.out | apply below_alloc | apply pw_below_drewN | apply below_drew1 | refine below_set ?_ GE464.out | refine below_set ?_ GE474.out) | exact HB.out)))); have n3_ := Aside0.mk (Kd.V_lower (Kd.V_mono (ok' := fun k_ => k_ ≠ gb464 ∧ k_ ≠ gb474) ho1 (fun k_ hk_ => ⟨Or.elim hk_ (fun hs_ => Or.elim hs_ (fun hs_ => hs_.1) (fun hs_ => hs_.1)) (fun hn_ => (Kd.freshB (g := gb464) (o := .cells #[.int .i64 a0_0, .int .i64 a0_1, .slice A0_2 l0_2.length c0_2, .slice A0_3 l0_3.length c0_3] 25 (0, 0)) (by (with_reducible repeat (first | refine blk_drewN ?_ _ | refine blk_drew ?_ | refine blk_alloc ?_ _)); exact BK464.out) k_ hn_)), Or.elim hk_ (fun hs_ => Or.elim hs_ (fun hs_ => hs_.2) (fun hs_ => hs_.2)) (fun hn_ => (Kd.freshB (g := gb474) (o := .cells #[.int .i64 t466, .int .i64 t467, .slice Ao20 t468.length co20, .slice Ao21 t471.length co21] 25 (0, 0)) (by (with_reducible repeat (first | refine blk_drewN ?_ _ | refine blk_drew ?_ | refine blk_alloc ?_ _)); exact BK474.out) k_ hn_))⟩)) (below_size (by repeat (first | (with_reducible first | exact HB.out | apply below_alloc | apply pw_below_drewN | apply below_drew1 | refine below_set ?_ GE464.out | refine below_set ?_ GE474.out) | exact HB.out)))); have n4_ := Aside0.mk (blk_below (g := gb464) (o := .cells #[.int .i64 a0_0, .int .i64 a0_1, .slice A0_2 l0_2.length c0_2, .slice A0_3 l0_3.length c0_3] 25 (0, 0)) (by (with_reducible repeat (first | refine blk_drewN ?_ _ | refine blk_drew ?_ | refine blk_alloc ?_ _)); exact BK464.out) hb); have n5_ := Aside0.mk (blk_below (g := gb474) (o := .cells #[.int .i64 t466, .int .i64 t467, .slice Ao20 t468.length co20, .slice Ao21 t471.length co21] 25 (0, 0)) (by (with_reducible repeat (first | refine blk_drewN ?_ _ | refine blk_drew ?_ | refine blk_alloc ?_ _)); exact BK474.out) hb); have n6_ := Aside0.mk (below_step (by repeat (first | (with_reducible first | exact HB.out | apply below_alloc | apply pw_below_drewN | apply below_drew1 | refine below_set ?_ GE464.out | refine below_set ?_ GE474.out) | exact HB.out)) hb); clear HO470; clear HO473; clear BK464; clear BK474; clear HB; have HO470 := n0_; have HO473 := n1_; have HO479 := n2_; have HO482 := n3_; have BK464 := n4_; have BK474 := n5_; have HB := n6_; clear n0_ n1_ n2_ n3_ n4_ n5_ n6_; (try clear hb); (try clear hb2); (try clear hk); (try clear hi); (try clear ho0); (try clear ho1)) | ((with_reducible refine gate_dst (N := 7) rfl ?_); refine box_event ?hg (N := 7) ?hd (cs := #[.int .i64 0, .int .i64 0, .slice none 0 0, .slice none 0 0]) (t := 25) ?hr ?_; (case hd => rfl); (case hg => rfl); (case hr => first | (go_simp; done) | (go_simp; rfl)); intro gb483 hg w25 hbox hb; have n0_ := Aside0.mk (Kd.V_below (Kd.V_elderB (by (with_reducible repeat (first | apply Kd.V_alloc | apply Kd.V_drewN | apply Kd.V_drew)); exact HO470.out) gb483 (Nat.le_of_eq hg.symm)) hb); have n1_ := Aside0.mk (Kd.V_below (Kd.V_elderB (by (with_reducible repeat (first | apply Kd.V_alloc | apply Kd.V_drewN | apply Kd.V_drew)); exact HO473.out) gb483 (Nat.le_of_eq hg.symm)) hb); have n2_ := Aside0.mk (Kd.V_below (Kd.V_elderB (by (with_reducible repeat (first | apply Kd.V_alloc | apply Kd.V_drewN | apply Kd.V_drew)); exact HO479.out) gb483 (Nat.le_of_eq hg.symm)) hb); have n3_ := Aside0.mk (Kd.V_below (Kd.V_elderB (by (with_reducible repeat (first | apply Kd.V_alloc | apply Kd.V_drewN | apply Kd.V_drew)); exact HO482.out) gb483 (Nat.le_of_eq hg.symm)) hb); have n4_ := Aside0.mk (blk_below (g := gb464) (o := .cells #[.int .i64 a0_0, .int .i64 a0_1, .slice A0_2 l0_2.length c0_2, .slice A0_3 l0_3.length c0_3] 25 (0, 0)) (by (with_reducible repeat (first | refine blk_drewN ?_ _ | refine blk_drew ?_ | refine blk_alloc ?_ _)); exact BK464.out) hb); have n5_ := Aside0.mk (blk_below (g := gb474) (o := .cells #[.int .i64 t466, .int .i64 t467, .slice Ao20 t468.length co20, .slice Ao21 t471.length co21] 25 (0, 0)) (by (with_reducible repeat (first | refine blk_drewN ?_ _ | refine blk_drew ?_ | refine blk_alloc ?_ _)); exact BK474.out) hb); have n6_ := Aside0.mk (below_step (by repeat (first | (with_reducible first | exact HB.out | apply below_alloc | apply pw_below_drewN | apply below_drew1 | refine below_set ?_ GE464.out | refine below_set ?_ GE474.out) | exact HB.out)) hb); have n7_ := Aside0.mk (hbox); have n8_ := Aside0.mk ((by rw [hg]; exact (below_size (by repeat (first | (with_reducible first | exact HB.out | apply below_alloc | apply pw_below_drewN | apply below_drew1 | refine below_set ?_ GE464.out | refine below_set ?_ GE474.out) | exact HB.out))) : w.heap.size ≤ gb483)); have n9_ := Aside0.mk ((by rw [hg]; exact (below_size (by repeat (first | (with_reducible first | exact HB.out | apply below_alloc | apply pw_below_drewN | apply below_drew1 | refine below_set ?_ GE464.out | refine below_set ?_ GE474.out) | exact HB.out))) : w.heap.size ≤ gb483)); have n10_ := Aside0.mk ((by rw [hg]; exact Nat.ne_of_lt (blk_lt (g := gb464) (o := .cells #[.int .i64 a0_0, .int .i64 a0_1, .slice A0_2 l0_2.length c0_2, .slice A0_3 l0_3.length c0_3] 25 (0, 0)) (by (with_reducible repeat (first | refine blk_drewN ?_ _ | refine blk_drew ?_ | refine blk_alloc ?_ _)); exact BK464.out)) : gb464 ≠ gb483)); have n11_ := Aside0.mk ((by rw [hg]; exact Nat.ne_of_gt (blk_lt (g := gb464) (o := .cells #[.int .i64 a0_0, .int .i64 a0_1, .slice A0_2 l0_2.length c0_2, .slice A0_3 l0_3.length c0_3] 25 (0, 0)) (by (with_reducible repeat (first | refine blk_drewN ?_ _ | refine blk_drew ?_ | refine blk_alloc ?_ _)); exact BK464.out)) : gb483 ≠ gb464)); have n12_ := Aside0.mk ((by rw [hg]; exact Nat.ne_of_lt (blk_lt (g := gb474) (o := .cells #[.int .i64 t466, .int .i64 t467, .slice Ao20 t468.length co20, .slice Ao21 t471.length co21] 25 (0, 0)) (by (with_reducible repeat (first | refine blk_drewN ?_ _ | refine blk_drew ?_ | refine blk_alloc ?_ _)); exact BK474.out)) : gb474 ≠ gb483)); have n13_ := Aside0.mk ((by rw [hg]; exact Nat.ne_of_gt (blk_lt (g := gb474) (o := .cells #[.int .i64 t466, .int .i64 t467, .slice Ao20 t468.length co20, .slice Ao21 t471.length co21] 25 (0, 0)) (by (with_reducible repeat (first | refine blk_drewN ?_ _ | refine blk_drew ?_ | refine blk_alloc ?_ _)); exact BK474.out)) : gb483 ≠ gb474)); clear HO470; clear HO473; clear HO479; clear HO482; clear BK464; clear BK474; clear HB; have HO470 := n0_; have HO473 := n1_; have HO479 := n2_; have HO482 := n3_; have BK464 := n4_; have BK474 := n5_; have HB := n6_; have BK483 := n7_; have GW483 := n8_; have GE483 := n9_; have NB464_483 := n10_; have NB483_464 := n11_; have NB474_483 := n12_; have NB483_474 := n13_; clear n0_ n1_ n2_ n3_ n4_ n5_ n6_ n7_ n8_ n9_ n10_ n11_ n12_ n13_; clear hb hbox hg; have hnb26 := NB483_464.out; have hnc26 := NB464_483.out; have hnb27 := NB483_474.out; have hnc27 := NB474_483.out; have hcz28_0 : w25.cell? ⟨gb483, 0, none⟩ = some (.int .i64 0) := (blk_cell BK483.out 0).trans rfl; have hcz28_1 : w25.cell? ⟨gb483, 1, none⟩ = some (.int .i64 0) := (blk_cell BK483.out 1).trans rfl; have hcz28_2 : w25.cell? ⟨gb483, 2, none⟩ = some (.slice none 0 0) := (blk_cell BK483.out 2).trans rfl; have hcz28_3 : w25.cell? ⟨gb483, 3, none⟩ = some (.slice none 0 0) := (blk_cell BK483.out 3).trans rfl; have hfz28_0 := blk_frozen BK483.out 0; have hfz28_1 := blk_frozen BK483.out 1; have hfz28_2 := blk_frozen BK483.out 2; have hfz28_3 := blk_frozen BK483.out 3; obtain ⟨Ao29, co29, eo29⟩ := Kd.V_slice HO479.out; subst eo29; obtain ⟨Ao30, co30, eo30⟩ := Kd.V_slice HO482.out; subst eo30))
        go_loopg [8] kj3 (fun kq v8 w' => ∃ (x8_2 : Int), v8 = .int .i64 x8_2 ∧ Aside0 (L16_LaneTwice.l0 kq a1 t465 x8_2 t466 t467 t468 t471 t475 t476 t477 t480 = some r) ∧ Aside0 (kq ≤ kj3) ∧ Aside0 (Kd.V Kd.string 9 w' w.heap.size (fun k_ => k_ ≠ gb464 ∧ k_ ≠ gb474 ∧ k_ ≠ gb483) (.slice Ao20 t468.length co20) t468) ∧ Aside0 (Kd.V k42 42 w' w.heap.size (fun k_ => k_ ≠ gb464 ∧ k_ ≠ gb474 ∧ k_ ≠ gb483) (.slice Ao21 t471.length co21) t471) ∧ Aside0 (Kd.V Kd.string 9 w' w.heap.size (fun k_ => k_ ≠ gb464 ∧ k_ ≠ gb474 ∧ k_ ≠ gb483) (.slice Ao29 t477.length co29) t477) ∧ Aside0 (Kd.V k42 42 w' w.heap.size (fun k_ => k_ ≠ gb464 ∧ k_ ≠ gb474 ∧ k_ ≠ gb483) (.slice Ao30 t480.length co30) t480) ∧ Aside0 (w'.heap[gb464]? = some (.cells #[.int .i64 a0_0, .int .i64 a0_1, (.slice A0_2 l0_2.length c0_2), (.slice A0_3 l0_3.length c0_3)] 25 (0, 0))) ∧ Aside0 (w'.heap[gb474]? = some (.cells #[.int .i64 t466, .int .i64 t467, (.slice Ao20 t468.length co20), (.slice Ao21 t471.length co21)] 25 (0, 0))) ∧ Aside0 (w'.heap[gb483]? = some (.cells #[.int .i64 t475, .int .i64 t476, (.slice Ao29 t477.length co29), (.slice Ao30 t480.length co30)] 25 (0, 0))) ∧ Aside0 (Below w.heap.size w w'))
        case atStart => exact ⟨(0), (by first | rfl | (simp; done) | (simp [*]; done)), H', ⟨Nat.le_refl _⟩, ⟨by (with_reducible repeat (first | apply Kd.V_alloc | apply Kd.V_drewN | apply Kd.V_drew)); exact Kd.V_mono (Kd.V_far (p := ⟨gb483, 3, none⟩) (Kd.V_far (p := ⟨gb483, 2, none⟩) (Kd.V_far (p := ⟨gb483, 1, none⟩) (Kd.V_far (p := ⟨gb483, 0, none⟩) (Kd.V_mono HO470.out (fun k_ hk => (⟨hk, hk.2⟩ : _ ∧ k_ ≠ gb483))) (fun _ hk => hk.2) (.int .i64 t475)) (fun _ hk => hk.2) (.int .i64 t476)) (fun _ hk => hk.2) (.slice Ao29 t477.length co29)) (fun _ hk => hk.2) (.slice Ao30 t480.length co30)) (fun _ hk => ⟨hk.1.1.1, ⟨hk.1.1.2, hk.1.2⟩⟩)⟩, ⟨by (with_reducible repeat (first | apply Kd.V_alloc | apply Kd.V_drewN | apply Kd.V_drew)); exact Kd.V_mono (Kd.V_far (p := ⟨gb483, 3, none⟩) (Kd.V_far (p := ⟨gb483, 2, none⟩) (Kd.V_far (p := ⟨gb483, 1, none⟩) (Kd.V_far (p := ⟨gb483, 0, none⟩) (Kd.V_mono HO473.out (fun k_ hk => (⟨hk, hk.2⟩ : _ ∧ k_ ≠ gb483))) (fun _ hk => hk.2) (.int .i64 t475)) (fun _ hk => hk.2) (.int .i64 t476)) (fun _ hk => hk.2) (.slice Ao29 t477.length co29)) (fun _ hk => hk.2) (.slice Ao30 t480.length co30)) (fun _ hk => ⟨hk.1.1.1, ⟨hk.1.1.2, hk.1.2⟩⟩)⟩, ⟨by (with_reducible repeat (first | apply Kd.V_alloc | apply Kd.V_drewN | apply Kd.V_drew)); exact Kd.V_mono (Kd.V_far (p := ⟨gb483, 3, none⟩) (Kd.V_far (p := ⟨gb483, 2, none⟩) (Kd.V_far (p := ⟨gb483, 1, none⟩) (Kd.V_far (p := ⟨gb483, 0, none⟩) (Kd.V_mono HO479.out (fun k_ hk => (⟨hk, hk.2⟩ : _ ∧ k_ ≠ gb483))) (fun _ hk => hk.2) (.int .i64 t475)) (fun _ hk => hk.2) (.int .i64 t476)) (fun _ hk => hk.2) (.slice Ao29 t477.length co29)) (fun _ hk => hk.2) (.slice Ao30 t480.length co30)) (fun _ hk => ⟨hk.1.1.1, ⟨hk.1.1.2, hk.1.2⟩⟩)⟩, ⟨by (with_reducible repeat (first | apply Kd.V_alloc | apply Kd.V_drewN | apply Kd.V_drew)); exact Kd.V_mono (Kd.V_far (p := ⟨gb483, 3, none⟩) (Kd.V_far (p := ⟨gb483, 2, none⟩) (Kd.V_far (p := ⟨gb483, 1, none⟩) (Kd.V_far (p := ⟨gb483, 0, none⟩) (Kd.V_mono HO482.out (fun k_ hk => (⟨hk, hk.2⟩ : _ ∧ k_ ≠ gb483))) (fun _ hk => hk.2) (.int .i64 t475)) (fun _ hk => hk.2) (.int .i64 t476)) (fun _ hk => hk.2) (.slice Ao29 t477.length co29)) (fun _ hk => hk.2) (.slice Ao30 t480.length co30)) (fun _ hk => ⟨hk.1.1.1, ⟨hk.1.1.2, hk.1.2⟩⟩)⟩, ⟨by (with_reducible repeat (first | refine blk_drewN ?_ _ | refine blk_drew ?_ | refine blk_alloc ?_ _)); refine blk_far ?_ NB464_483.out _; (with_reducible repeat (first | refine blk_drewN ?_ _ | refine blk_drew ?_ | refine blk_alloc ?_ _)); refine blk_far ?_ NB464_483.out _; (with_reducible repeat (first | refine blk_drewN ?_ _ | refine blk_drew ?_ | refine blk_alloc ?_ _)); refine blk_far ?_ NB464_483.out _; (with_reducible repeat (first | refine blk_drewN ?_ _ | refine blk_drew ?_ | refine blk_alloc ?_ _)); refine blk_far ?_ NB464_483.out _; (with_reducible repeat (first | refine blk_drewN ?_ _ | refine blk_drew ?_ | refine blk_alloc ?_ _)); exact BK464.out⟩, ⟨by (with_reducible repeat (first | refine blk_drewN ?_ _ | refine blk_drew ?_ | refine blk_alloc ?_ _)); refine blk_far ?_ NB474_483.out _; (with_reducible repeat (first | refine blk_drewN ?_ _ | refine blk_drew ?_ | refine blk_alloc ?_ _)); refine blk_far ?_ NB474_483.out _; (with_reducible repeat (first | refine blk_drewN ?_ _ | refine blk_drew ?_ | refine blk_alloc ?_ _)); refine blk_far ?_ NB474_483.out _; (with_reducible repeat (first | refine blk_drewN ?_ _ | refine blk_drew ?_ | refine blk_alloc ?_ _)); refine blk_far ?_ NB474_483.out _; (with_reducible repeat (first | refine blk_drewN ?_ _ | refine blk_drew ?_ | refine blk_alloc ?_ _)); exact BK474.out⟩, ⟨by (with_reducible repeat (first | refine blk_drewN ?_ _ | refine blk_drew ?_ | refine blk_alloc ?_ _)); refine blk_put (cs := #[.int .i64 t475, .int .i64 t476, .slice Ao29 t477.length co29, .slice none 0 0]) ?_ 3 _ rfl; (with_reducible repeat (first | refine blk_drewN ?_ _ | refine blk_drew ?_ | refine blk_alloc ?_ _)); refine blk_put (cs := #[.int .i64 t475, .int .i64 t476, .slice none 0 0, .slice none 0 0]) ?_ 2 _ rfl; (with_reducible repeat (first | refine blk_drewN ?_ _ | refine blk_drew ?_ | refine blk_alloc ?_ _)); refine blk_put (cs := #[.int .i64 t475, .int .i64 0, .slice none 0 0, .slice none 0 0]) ?_ 1 _ rfl; (with_reducible repeat (first | refine blk_drewN ?_ _ | refine blk_drew ?_ | refine blk_alloc ?_ _)); refine blk_put (cs := #[.int .i64 0, .int .i64 0, .slice none 0 0, .slice none 0 0]) ?_ 0 _ rfl; (with_reducible repeat (first | refine blk_drewN ?_ _ | refine blk_drew ?_ | refine blk_alloc ?_ _)); exact BK483.out⟩, ⟨by repeat (first | (with_reducible first | exact HB.out | apply below_alloc | apply pw_below_drewN | apply below_drew1 | refine below_set ?_ GE464.out | refine below_set ?_ GE474.out | refine below_set ?_ GE483.out) | exact HB.out)⟩⟩
        case round =>
          clear H'
          try clear c1
          try clear c2
          try clear p2
          try clear c7
          try clear c7b0
          try clear c8
          try clear c9
          try clear c9b0
          try clear c12
          try clear c17
          try clear c18
          try clear c26
          try clear c27
          try clear hcz10_0
          try clear hcz10_1
          try clear hcz10_2
          try clear hcz10_3
          try clear hcz11_0
          try clear hcz11_1
          try clear hcz11_2
          try clear hcz11_3
          try clear hcz15_0
          try clear hcz15_1
          try clear hcz15_2
          try clear hcz15_3
          try clear hcz19_0
          try clear hcz19_1
          try clear hcz19_2
          try clear hcz19_3
          try clear hcz23_0
          try clear hcz23_1
          try clear hcz23_2
          try clear hcz23_3
          try clear hcz28_0
          try clear hcz28_1
          try clear hcz28_2
          try clear hcz28_3
          try clear hcz8_0
          try clear hcz8_1
          try clear hcz8_2
          try clear hcz8_3
          try clear hfz10_0
          try clear hfz10_1
          try clear hfz10_2
          try clear hfz10_3
          try clear hfz11_0
          try clear hfz11_1
          try clear hfz11_2
          try clear hfz11_3
          try clear hfz15_0
          try clear hfz15_1
          try clear hfz15_2
          try clear hfz15_3
          try clear hfz19_0
          try clear hfz19_1
          try clear hfz19_2
          try clear hfz19_3
          try clear hfz23_0
          try clear hfz23_1
          try clear hfz23_2
          try clear hfz23_3
          try clear hfz28_0
          try clear hfz28_1
          try clear hfz28_2
          try clear hfz28_3
          try clear hfz8_0
          try clear hfz8_1
          try clear hfz8_2
          try clear hfz8_3
          try clear p2
          obtain ⟨x8_2, rfl, HA, HK2, HO_475002, HO_475003, HO_484002, HO_484003, BK464, BK474, BK483, HB⟩ := hrel
          cases gk with
          | zero => exact absurd HA.out (by simp [L16_LaneTwice.l0])
          | succ k2 =>
            have H := HA.out
            clear HA
            simp only [L16_LaneTwice.l0] at H
            by_cases c31 : x8_2 < (t471.length : Int)
            · rw [if_pos c31] at H
              have c31b0 : decide (x8_2 < (t471.length : Int)) = true := decide_eq_true c31
              clear c31
              by_cases c32 : 0 ≤ x8_2
              · rw [if_pos c32] at H
                have c32b0 : decide (0 ≤ x8_2) = true := decide_eq_true c32
                clear c32
                by_cases c33 : ((rd_T42 t471 x8_2).f1) = a1
                · rw [if_pos c33] at H
                  have c33b0 : (((rd_T42 t471 x8_2).f1) == a1) = true := beq_iff_eq.mpr c33
                  have c33b1 : (((rd_T42 t471 x8_2).f1) != a1) = false := bne_eq_false_iff_eq.mpr c33
                  clear c33
                  exact absurd ((Option.some.inj H).trans HRT.out) (by decide)
                · rw [if_neg c33] at H
                  have c33b0 : (((rd_T42 t471 x8_2).f1) == a1) = false := beq_eq_false_iff_ne.mpr c33
                  have c33b1 : (((rd_T42 t471 x8_2).f1) != a1) = true := bne_iff_ne.mpr c33
                  have H' := Aside0.mk H
                  clear H
                  have hnb34 := NB474_464.out
                  have hnc34 := NB464_474.out
                  have hnb35 := NB474_483.out
                  have hnc35 := NB483_474.out
                  have hcz36_0 : wr.cell? ⟨gb474, 0, none⟩ = some (.int .i64 t466) := (blk_cell BK474.out 0).trans rfl
                  have hcz36_1 : wr.cell? ⟨gb474, 1, none⟩ = some (.int .i64 t467) := (blk_cell BK474.out 1).trans rfl
                  have hcz36_2 : wr.cell? ⟨gb474, 2, none⟩ = some (.slice Ao20 t468.length co20) := (blk_cell BK474.out 2).trans rfl
                  have hcz36_3 : wr.cell? ⟨gb474, 3, none⟩ = some (.slice Ao21 t471.length co21) := (blk_cell BK474.out 3).trans rfl
                  have hfz36_0 := blk_frozen BK474.out 0
                  have hfz36_1 := blk_frozen BK474.out 1
                  have hfz36_2 := blk_frozen BK474.out 2
                  have hfz36_3 := blk_frozen BK474.out 3
                  have p484 : 0 ≤ (x8_2 : Int) := of_decide_eq_true (by first | (with_reducible assumption) | assumption)
                  have q484 : x8_2 < (t471.length : Int) := of_decide_eq_true (by first | (with_reducible assumption) | assumption)
                  obtain ⟨ad484, A484_2, c484_2, e484, hx484_0, hx484_1, hx484_2, hl484_2, hi484_2⟩ := at_T42 (Kd.V_reads' HO_475003.out).2.2 x8_2 p484 q484
                  cases e484
                  obtain ⟨ce484, hce484, hMe484, hcc484⟩ := Kd.V_get HO_475003.out z42 x8_2 p484 (by first | exact q484 | exact of_decide_eq_true (by first | (with_reducible assumption) | assumption) | (have e_ := (Kd.V_reads' HO_475003.out).1; omega))
                  obtain ⟨ua484_2, uc484_2, rfl, ul484_2, ge484_2⟩ := k42_openF hMe484
                  have hv484_2 := hcc484 2 _ rfl
                  rw [add_field _ _ 2 (by omega)] at hv484_2
                  replace hv484_2 := Option.some.inj (hv484_2.symm.trans hx484_2)
                  injection hv484_2 with hva_ hvn_ hvc_
                  rw [hva_] at ge484_2
                  rw [hvc_] at ul484_2
                  have HL484_2 := Aside0.mk (show Kd.V Kd.string 9 _ w.heap.size _ _ ((rd_T42 t471 x8_2).f2) from Kd.V_mk ul484_2 ge484_2)
                  clear hva_ hvn_ hvc_ ge484_2 ul484_2
                  clear hcc484 hce484
                  have HR484_2 := Aside0.mk hi484_2
                  have HC484_2 := Aside0.mk hl484_2
                  clear hi484_2 hl484_2
                  replace p484 := eq_true p484
                  replace q484 := eq_true q484
                  go_wp2
                  go_roundg k2
                  case measure => have := HJ3.out; have := HK2.out; omega
                  case rel => exact ⟨(wrap64 (x8_2 + 1)), (by first | rfl | (simp; done) | (simp [*]; done)), H', ⟨by have := HJ3.out; have := HK2.out; omega⟩, ⟨by (with_reducible repeat (first | apply Kd.V_alloc | apply Kd.V_drewN | apply Kd.V_drew)); exact HO_475002.out⟩, ⟨by (with_reducible repeat (first | apply Kd.V_alloc | apply Kd.V_drewN | apply Kd.V_drew)); exact HO_475003.out⟩, ⟨by (with_reducible repeat (first | apply Kd.V_alloc | apply Kd.V_drewN | apply Kd.V_drew)); exact HO_484002.out⟩, ⟨by (with_reducible repeat (first | apply Kd.V_alloc | apply Kd.V_drewN | apply Kd.V_drew)); exact HO_484003.out⟩, ⟨by (with_reducible repeat (first | refine blk_drewN ?_ _ | refine blk_drew ?_ | refine blk_alloc ?_ _)); exact BK464.out⟩, ⟨by (with_reducible repeat (first | refine blk_drewN ?_ _ | refine blk_drew ?_ | refine blk_alloc ?_ _)); exact BK474.out⟩, ⟨by (with_reducible repeat (first | refine blk_drewN ?_ _ | refine blk_drew ?_ | refine blk_alloc ?_ _)); exact BK483.out⟩, ⟨by repeat (first | (with_reducible first | exact HB.out | apply below_alloc | apply pw_below_drewN | apply below_drew1 | refine below_set ?_ GE464.out | refine below_set ?_ GE474.out | refine below_set ?_ GE483.out) | exact HB.out)⟩⟩
              · rw [if_neg c32] at H
                exact absurd H (by simp)
            · rw [if_neg c31] at H
              have c31b0 : decide (x8_2 < (t471.length : Int)) = false := decide_eq_false c31
              clear c31
              by_cases c37 : t465 = true
              · subst c37
                have H1 : ((lane_Same.f k2 t466 t467 t468 t471 t475 t476 t477 t480).bind fun t485 => (some t485)) = some r := by rw [if_pos rfl] at H; exact H
                clear H
                have H := H1
                clear H1
                replace H := Option.bind_eq_some_iff.mp H
                obtain ⟨t485, A380, H⟩ := H
                replace H : (some t485) = some r := H
                have A38 := Aside0.mk A380
                clear A380
                obtain rfl := Option.some.inj H
                have hnb39 := NB474_464.out
                have hnc39 := NB464_474.out
                have hnb40 := NB474_483.out
                have hnc40 := NB483_474.out
                have hcz41_0 : wr.cell? ⟨gb474, 0, none⟩ = some (.int .i64 t466) := (blk_cell BK474.out 0).trans rfl
                have hcz41_1 : wr.cell? ⟨gb474, 1, none⟩ = some (.int .i64 t467) := (blk_cell BK474.out 1).trans rfl
                have hcz41_2 : wr.cell? ⟨gb474, 2, none⟩ = some (.slice Ao20 t468.length co20) := (blk_cell BK474.out 2).trans rfl
                have hcz41_3 : wr.cell? ⟨gb474, 3, none⟩ = some (.slice Ao21 t471.length co21) := (blk_cell BK474.out 3).trans rfl
                have hfz41_0 := blk_frozen BK474.out 0
                have hfz41_1 := blk_frozen BK474.out 1
                have hfz41_2 := blk_frozen BK474.out 2
                have hfz41_3 := blk_frozen BK474.out 3
                have hnb42 := NB483_464.out
                have hnc42 := NB464_483.out
                have hcz43_0 : wr.cell? ⟨gb483, 0, none⟩ = some (.int .i64 t475) := (blk_cell BK483.out 0).trans rfl
                have hcz43_1 : wr.cell? ⟨gb483, 1, none⟩ = some (.int .i64 t476) := (blk_cell BK483.out 1).trans rfl
                have hcz43_2 : wr.cell? ⟨gb483, 2, none⟩ = some (.slice Ao29 t477.length co29) := (blk_cell BK483.out 2).trans rfl
                have hcz43_3 : wr.cell? ⟨gb483, 3, none⟩ = some (.slice Ao30 t480.length co30) := (blk_cell BK483.out 3).trans rfl
                have hfz43_0 := blk_frozen BK483.out 0
                have hfz43_1 := blk_frozen BK483.out 1
                have hfz43_2 := blk_frozen BK483.out 2
                have hfz43_3 := blk_frozen BK483.out 3
                go_wp2_with (first | (go_at_call 28; (with_reducible refine (lane_Same.calls k2 t466 t467 _ _ t468 _ _ t471 t475 t476 _ _ t477 _ _ t480 t485 _ ?side1 ?side2 ?side3 ?side4 ?side5 ?side6 ?side7 ?side8 A38.out).mono ?_); (case side1 => repeat (first | exact (Kd.V_reads' HO_475002.out).2.2 | (with_reducible refine Kd.C_alloc ?_ _) | (with_reducible refine Kd.C_drewN ?_ _) | (with_reducible refine Kd.C_drew ?_))); (case side2 => exact (Kd.V_reads' HO_475002.out).2.1); (case side3 => repeat (first | exact (Kd.V_reads' HO_475003.out).2.2 | (with_reducible refine Kd.C_alloc ?_ _) | (with_reducible refine Kd.C_drewN ?_ _) | (with_reducible refine Kd.C_drew ?_))); (case side4 => exact (Kd.V_reads' HO_475003.out).2.1); (case side5 => repeat (first | exact (Kd.V_reads' HO_484002.out).2.2 | (with_reducible refine Kd.C_alloc ?_ _) | (with_reducible refine Kd.C_drewN ?_ _) | (with_reducible refine Kd.C_drew ?_))); (case side6 => exact (Kd.V_reads' HO_484002.out).2.1); (case side7 => repeat (first | exact (Kd.V_reads' HO_484003.out).2.2 | (with_reducible refine Kd.C_alloc ?_ _) | (with_reducible refine Kd.C_drewN ?_ _) | (with_reducible refine Kd.C_drew ?_))); (case side8 => exact (Kd.V_reads' HO_484003.out).2.1); rintro e w44 ⟨rfl, hb⟩; have n0_ := Aside0.mk (Kd.V_below (by (with_reducible repeat (first | apply Kd.V_alloc | apply Kd.V_drewN | apply Kd.V_drew)); exact HO_475002.out) hb); have n1_ := Aside0.mk (Kd.V_below (by (with_reducible repeat (first | apply Kd.V_alloc | apply Kd.V_drewN | apply Kd.V_drew)); exact HO_475003.out) hb); have n2_ := Aside0.mk (Kd.V_below (by (with_reducible repeat (first | apply Kd.V_alloc | apply Kd.V_drewN | apply Kd.V_drew)); exact HO_484002.out) hb); have n3_ := Aside0.mk (Kd.V_below (by (with_reducible repeat (first | apply Kd.V_alloc | apply Kd.V_drewN | apply Kd.V_drew)); exact HO_484003.out) hb); have n4_ := Aside0.mk (blk_below (g := gb464) (o := .cells #[.int .i64 a0_0, .int .i64 a0_1, .slice A0_2 l0_2.length c0_2, .slice A0_3 l0_3.length c0_3] 25 (0, 0)) (by (with_reducible repeat (first | refine blk_drewN ?_ _ | refine blk_drew ?_ | refine blk_alloc ?_ _)); exact BK464.out) hb); have n5_ := Aside0.mk (blk_below (g := gb474) (o := .cells #[.int .i64 t466, .int .i64 t467, .slice Ao20 t468.length co20, .slice Ao21 t471.length co21] 25 (0, 0)) (by (with_reducible repeat (first | refine blk_drewN ?_ _ | refine blk_drew ?_ | refine blk_alloc ?_ _)); exact BK474.out) hb); have n6_ := Aside0.mk (blk_below (g := gb483) (o := .cells #[.int .i64 t475, .int .i64 t476, .slice Ao29 t477.length co29, .slice Ao30 t480.length co30] 25 (0, 0)) (by (with_reducible repeat (first | refine blk_drewN ?_ _ | refine blk_drew ?_ | refine blk_alloc ?_ _)); exact BK483.out) hb); have n7_ := Aside0.mk (below_step (by repeat (first | (with_reducible first | exact HB.out | apply below_alloc | apply pw_below_drewN | apply below_drew1 | refine below_set ?_ GE464.out | refine below_set ?_ GE474.out | refine below_set ?_ GE483.out) | exact HB.out)) hb); clear HO_475002; clear HO_475003; clear HO_484002; clear HO_484003; clear BK464; clear BK474; clear BK483; clear HB; have HO_475002 := n0_; have HO_475003 := n1_; have HO_484002 := n2_; have HO_484003 := n3_; have BK464 := n4_; have BK474 := n5_; have BK483 := n6_; have HB := n7_; clear n0_ n1_ n2_ n3_ n4_ n5_ n6_ n7_; (try clear hb); (try clear hb2); (try clear hk); (try clear hi)))
                go_ret
                exact ⟨by first | rfl | (simp [errW_none, errW_some] <;> rfl) | (simp [*, errW_none, errW_some] <;> rfl), by repeat (first | (with_reducible first | exact HB.out | apply below_alloc | apply pw_below_drewN | apply below_drew1 | refine below_set ?_ GE464.out | refine below_set ?_ GE474.out | refine below_set ?_ GE483.out) | exact HB.out)⟩
              · replace c37 := Bool.eq_false_iff.mpr c37
                subst c37
                have H1 : (some false) = some r := by rw [if_neg (show ¬ (false = true) by decide)] at H; exact H
                clear H
                have H := H1
                clear H1
                exact absurd ((Option.some.inj H).trans HRT.out) (by decide)

end Go.Proofs.Ytldpaoaiapedjaa.Q
