/- What Go functions of this seat come to, as plain Lean functions, and the proof that each call does so, in whatever memory; its conditions stand in each theorem. Written by a program of this session (wip/gen), out of the print of the loaded translation. -/
import Derived.Test.YtldpaoaiapedjaaQ0
import Derived.Test.YtldpaoaiapedjaaQ4
import Derived.Test.YtldpaoaiapedjaaQ5
import Derived.Test.YtldpaoaiapedjaaQ10
import Derived.Test.YtldpaoaiapedjaaX
import Derived.Test.YtldpaoaiapedjaaQ15
import Derived.Test.YtldpaoaiapedjaaQ17
import Derived.Test.YtldpaoaiapedjaaQ18
import Derived.Test.YtldpaoaiapedjaaE4
namespace Go.Proofs.Ytldpaoaiapedjaa.Q
open Go.RowKit Go.Proofs.YtldpaoaiapedjaaW.PrintWords Go.Proofs.YtldpaoaiapedjaaW.PrintLast Go.Proofs.YtldpaoaiapedjaaW.PrintMore
attribute [local go_sem] max2_int min2_int max_two min_two max_three min_three max_four min_four   -- for this text's walks alone
set_option linter.unusedVariables false
set_option linter.unusedSimpArgs false
-- shrunk

/-! ### L16_LaneTells: function 7 -/
def L16_LaneTells.j0 : Nat → Int → Bool → Bool → Int → Int → List ByteArray → List (S42) → Int → Int → List ByteArray → List (S42) → Option (Bool)
 | 0, _, _, _, _, _, _, _, _, _, _, _ => none
 | k + 1, x0, x7, x21, x434000, x434001, x434002, x434003, x435000, x435001, x435002, x435003 => if x21 = true then (some x7) else ((lane_New.f x0).bind fun bt436 => ((R16_New.f x0).bind fun bt446 => ((R16_Same.f k bt436.1 bt436.2.1 bt436.2.2.1 bt436.2.2.2.1 bt446.1 bt446.2.1 bt446.2.2.1 bt446.2.2.2.1).bind fun t456 => (if x7 = true then (if t456 = true then (if bt436.2.2.2.2 = bt446.2.2.2.2 then ((lane_Right.f k x434000 x434001 x434002 x434003).bind fun t457 => ((R16_Right.f k x434000 x434001 x434002 x434003).bind fun t458 => (if (t457 == t458) = true then ((lane_Full.f x434000 x434001 x434002 x434003).bind fun t459 => ((R16_Full.f x434000 x434001 x434002 x434003).bind fun t460 => (if (t459 == t460) = true then ((lane_Same.f k x434000 x434001 x434002 x434003 x435000 x435001 x435002 x435003).bind fun t461 => ((R16_Same.f k x434000 x434001 x434002 x434003 x435000 x435001 x435002 x435003).bind fun t462 => (if (t461 == t462) = true then ((lane_Same.f k x434000 x434001 x434002 x434003 x434000 x434001 x434002 x434003).bind fun t463 => (some t463)) else (some false)))) else (some false)))) else (some false)))) else (some false)) else (some false)) else (some false)))))
def L16_LaneTells.f (k : Nat) (a0 : Int) (a1_0 : Int) (a1_1 : Int) (l1_2 : List ByteArray) (l1_3 : List (S42)) (a2_0 : Int) (a2_1 : Int) (l2_2 : List ByteArray) (l2_3 : List (S42)) : Option (Bool) := (L16_shown.f).bind fun t435 => (if a1_1 > 1099511627776 then (L16_LaneTells.j0 k a0 t435 true a1_0 a1_1 l1_2 l1_3 a2_0 a2_1 l2_2 l2_3) else (L16_LaneTells.j0 k a0 t435 (decide (a1_1 < (-1099511627776))) a1_0 a1_1 l1_2 l1_3 a2_0 a2_1 l2_2 l2_3))
theorem L16_LaneTells.mono_l : ∀ k, (∀ y0 y1 y2 y3 y4 y5 y6 y7 y8 y9 y10, LeO (L16_LaneTells.j0 k y0 y1 y2 y3 y4 y5 y6 y7 y8 y9 y10) (L16_LaneTells.j0 (k + 1) y0 y1 y2 y3 y4 y5 y6 y7 y8 y9 y10))
 | 0 => fun _ _ _ _ _ _ _ _ _ _ _ r h => by simp [L16_LaneTells.j0] at h
 | k + 1 => by
  have ih0 := L16_LaneTells.mono_l k
  ·intro y0 y1 y2 y3 y4 y5 y6 y7 y8 y9 y10
   unfold L16_LaneTells.j0
   repeat' first
   | (with_reducible exact ih0 _ _ _ _ _ _ _ _ _ _ _)
   | (with_reducible exact lane_Right.mono _ _ _ _ _)
   | (with_reducible exact lane_Same.mono _ _ _ _ _ _ _ _ _)
   | (with_reducible exact R16_Right.mono _ _ _ _ _)
   | (with_reducible exact R16_Same.mono _ _ _ _ _ _ _ _ _)
   | (with_reducible exact LeO.refl _)
   | (with_reducible exact LeO.none _)
   | (with_reducible refine LeO.ite ?_ ?_)
   | (with_reducible refine LeO.bind ?_ (fun _ => ?_))
   | exact ih0 _ _ _ _ _ _ _ _ _ _ _
   | exact lane_Right.mono _ _ _ _ _
   | exact lane_Same.mono _ _ _ _ _ _ _ _ _
   | exact R16_Right.mono _ _ _ _ _
   | exact R16_Same.mono _ _ _ _ _ _ _ _ _
   | exact LeO.none _
   | refine LeO.ite ?_ ?_
   | refine LeO.bind ?_ (fun _ => ?_)
theorem L16_LaneTells.mono : ∀ a0 a1 a2 a3 a4 a5 a6 a7 a8 k, LeO (L16_LaneTells.f k a0 a1 a2 a3 a4 a5 a6 a7 a8) (L16_LaneTells.f (k + 1) a0 a1 a2 a3 a4 a5 a6 a7 a8) := by
 intro a0 a1 a2 a3 a4 a5 a6 a7 a8 k
 have ih0 := L16_LaneTells.mono_l k
 unfold L16_LaneTells.f
 repeat' first
   | (with_reducible exact ih0 _ _ _ _ _ _ _ _ _ _ _)
   | (with_reducible exact lane_Right.mono _ _ _ _ _)
   | (with_reducible exact lane_Same.mono _ _ _ _ _ _ _ _ _)
   | (with_reducible exact R16_Right.mono _ _ _ _ _)
   | (with_reducible exact R16_Same.mono _ _ _ _ _ _ _ _ _)
   | (with_reducible exact LeO.refl _)
   | (with_reducible exact LeO.none _)
   | (with_reducible refine LeO.ite ?_ ?_)
   | (with_reducible refine LeO.bind ?_ (fun _ => ?_))
   | exact ih0 _ _ _ _ _ _ _ _ _ _ _
   | exact lane_Right.mono _ _ _ _ _
   | exact lane_Same.mono _ _ _ _ _ _ _ _ _
   | exact R16_Right.mono _ _ _ _ _
   | exact R16_Same.mono _ _ _ _ _ _ _ _ _
   | exact LeO.none _
   | refine LeO.ite ?_ ?_
   | refine LeO.bind ?_ (fun _ => ?_)
def L16_LaneTells.T7 : Bool × List (List Nat × List Nat) := (true, [([], []), ([0], [0]), ([1], [1]), ([1, 2], [1, 2]), ([3, 1], [3]), ([4], [4]), ([4], [4]), ([5, 6, 4], [4, 5, 6]), ([4, 7], [4, 7]), ([8, 4], [8]), ([9], [9]), ([10, 9, 9], [9, 10]), ([9], [9]), ([12, 11, 9], [9, 12]), ([11, 13, 9], [9, 11, 13]), ([9, 14], [9, 14]), ([15, 13], [15]), ([16], [16]), ([17, 16, 16], [16, 17]), ([16], [16]), ([19, 18, 16], [16, 19]), ([18, 20, 16], [16, 18, 20]), ([16, 21], [16, 21]), ([22, 20], [22]), ([23], [23]), ([23], [23]), ([24, 25, 23, 23], [23, 24, 25]), ([23], [23]), ([23], [23]), ([27, 28, 26, 23], [23, 27, 28]), ([26, 29, 23], [23, 26, 29]), ([23, 30], [23, 30]), ([31, 29], [31]), ([32], [32]), ([32], [32]), ([33, 34, 32, 32], [32, 33, 34]), ([32, 35], [32, 35]), ([36, 35, 0, 1, 2, 3, 4, 5, 6, 7, 8, 9, 10, 11, 12, 13, 14, 15, 16, 17, 18, 19, 20, 21, 22, 23, 24, 25, 26, 27, 28, 29, 30, 31, 32, 33, 34, 35, 36], [36])])
def L16_LaneTells.B7 : List Nat := [0, 1, 3, 7, 15, 31, 31, 127, 255, 511, 1023, 2047, 1023, 8191, 16383, 32767, 65535, 131071, 262143, 131071, 1048575, 2097151, 4194303, 8388607, 16777215, 16777215, 67108863, 16777215, 16777215, 536870911, 1073741823, 2147483647, 4294967295, 8589934591, 8589934591, 34359738367, 68719476735, 137438953471]
theorem L16_LaneTells.tab7 : rtab .any (opsOf Try.f7 7) = L16_LaneTells.T7 := by kernel_rfl
theorem L16_LaneTells.bits7 : waitsOk L16_LaneTells.T7.2 L16_LaneTells.B7 = true := by kernel_rfl
set_option maxHeartbeats 8000000 in
set_option maxRecDepth 100000 in
theorem L16_LaneTells.calls (k : Nat) (a0 : Int) (a1_0 : Int) (a1_1 : Int) (A1_2 : Option Addr) (c1_2 : Nat) (l1_2 : List ByteArray) (A1_3 : Option Addr) (c1_3 : Nat) (l1_3 : List (S42)) (a2_0 : Int) (a2_1 : Int) (A2_2 : Option Addr) (c2_2 : Nat) (l2_2 : List ByteArray) (A2_3 : Option Addr) (c2_3 : Nat) (l2_3 : List (S42)) (r : Bool) (w : World) (hr1_2 : Kd.C Kd.string w A1_2 l1_2.length l1_2) (hc1_2 : l1_2.length ≤ c1_2) (hr1_3 : Kd.C k42 w A1_3 l1_3.length l1_3) (hc1_3 : l1_3.length ≤ c1_3) (hr2_2 : Kd.C Kd.string w A2_2 l2_2.length l2_2) (hc2_2 : l2_2.length ≤ c2_2) (hr2_3 : Kd.C k42 w A2_3 l2_3.length l2_3) (hc2_3 : l2_3.length ≤ c2_3) (hrt : r = true) (h : L16_LaneTells.f k a0 a1_0 a1_1 l1_2 l1_3 a2_0 a2_1 l2_2 l2_3 = some r) :
  Calls Try.prog 7 #[.int .i64 a0, .agg #[.int .i64 a1_0, .int .i64 a1_1, .slice A1_2 l1_2.length c1_2, .slice A1_3 l1_3.length c1_3], .agg #[.int .i64 a2_0, .int .i64 a2_1, .slice A2_2 l2_2.length c2_2, .slice A2_3 l2_3.length c2_3]] w fun e w' => e = .returned (.bool r) ∧ Below w.heap.size w w' := by
 have hu25 := Try.underlying25
 have HR1_2 := zM hr1_2
 have HC1_2 := zM hc1_2
 clear hr1_2 hc1_2
 have HR1_3 := zM hr1_3
 have HC1_3 := zM hc1_3
 clear hr1_3 hc1_3
 have HR2_2 := zM hr2_2
 have HC2_2 := zM hc2_2
 clear hr2_2 hc2_2
 have HR2_3 := zM hr2_3
 have HC2_3 := zM hc2_3
 clear hr2_3 hc2_3
 have HRT := zM hrt
 clear hrt
 have HB := zM (Below.refl w.heap.size w)
 have H : ((L16_shown.f).bind fun t435 => (if a1_1 > 1099511627776 then (L16_LaneTells.j0 k a0 t435 true a1_0 a1_1 l1_2 l1_3 a2_0 a2_1 l2_2 l2_3) else (L16_LaneTells.j0 k a0 t435 (decide (a1_1 < (-1099511627776))) a1_0 a1_1 l1_2 l1_3 a2_0 a2_1 l2_2 l2_3))) = some r := h
 clear h
 replace H := Option.bind_eq_some_iff.mp H
 obtain ⟨t435, A40, H⟩ := H
 replace H : (if a1_1 > 1099511627776 then (L16_LaneTells.j0 k a0 t435 true a1_0 a1_1 l1_2 l1_3 a2_0 a2_1 l2_2 l2_3) else (L16_LaneTells.j0 k a0 t435 (decide (a1_1 < (-1099511627776))) a1_0 a1_1 l1_2 l1_3 a2_0 a2_1 l2_2 l2_3)) = some r := H
 have A4 := zM A40
 clear A40
 have HC5 := zM H
 clear H
 go_enter Try.func7, Try.ntmps7
 go_upto_region 2 with (first | ((with_reducible refine gate_dst (N := 4) rfl ?_); refine box_event ?hg (N := 4) ?hd (cs := #[.int .i64 a1_0, .int .i64 a1_1, .slice A1_2 l1_2.length c1_2, .slice A1_3 l1_3.length c1_3]) (t := 25) ?hr ?_; (case hd => rfl); (case hg => rfl); (case hr => go_simp); intro gb433 hg w6 hbox hb; have n0_ := zM (zp HB.out hb); have n1_ := zM (hbox); have n2_ := zM ((by rw [hg]; exact (zs HB.out) : w.heap.size ≤ gb433)); have n3_ := zM ((by rw [hg]; exact (zs HB.out) : w.heap.size ≤ gb433)); clear HB; have HB := n0_; have BK433 := n1_; have GW433 := n2_; have GE433 := n3_; clear n0_ n1_ n2_ n3_; clear hb hbox hg) | ((with_reducible refine gate_dst (N := 5) rfl ?_); refine box_event ?hg (N := 5) ?hd (cs := #[.int .i64 a2_0, .int .i64 a2_1, .slice A2_2 l2_2.length c2_2, .slice A2_3 l2_3.length c2_3]) (t := 25) ?hr ?_; (case hd => rfl); (case hg => rfl); (case hr => go_simp); intro gb434 hg w7 hbox hb; have n0_ := zM (zb (g := gb433) (o := .cells #[.int .i64 a1_0, .int .i64 a1_1, .slice A1_2 l1_2.length c1_2, .slice A1_3 l1_3.length c1_3] 25 (0, 0)) (by exact BK433.out) hb); have n1_ := zM (zp HB.out hb); have n2_ := zM (hbox); have n3_ := zM ((by rw [hg]; exact (zs HB.out) : w.heap.size ≤ gb434)); have n4_ := zM ((by rw [hg]; exact (zs HB.out) : w.heap.size ≤ gb434)); have n5_ := zM ((by rw [hg]; exact zt (blk_lt (g := gb433) (o := .cells #[.int .i64 a1_0, .int .i64 a1_1, .slice A1_2 l1_2.length c1_2, .slice A1_3 l1_3.length c1_3] 25 (0, 0)) (by exact BK433.out)) : gb433 ≠ gb434)); have n6_ := zM ((by rw [hg]; exact Nat.ne_of_gt (blk_lt (g := gb433) (o := .cells #[.int .i64 a1_0, .int .i64 a1_1, .slice A1_2 l1_2.length c1_2, .slice A1_3 l1_3.length c1_3] 25 (0, 0)) (by exact BK433.out)) : gb434 ≠ gb433)); clear BK433; clear HB; have BK433 := n0_; have HB := n1_; have BK434 := n2_; have GW434 := n3_; have GE434 := n4_; have NB433_434 := n5_; have NB434_433 := n6_; clear n0_ n1_ n2_ n3_ n4_ n5_ n6_; clear hb hbox hg) | ((with_reducible refine gate_callee (f := 9) rfl ?_); refine goesL_ (some 13) rfl rfl Try.func9 (by kernel_rfl) rfl #[] rfl (by (try simp only [List.map_toArray, List.map_cons, List.map_nil]); first | done | rfl) ?_; (with_reducible refine (L16_shown.calls  t435 _ A4.out).mono ?_); rintro e w8 ⟨rfl, hb⟩; refine ⟨_, rfl, ?_⟩; have n0_ := zM (zb (g := gb433) (o := .cells #[.int .i64 a1_0, .int .i64 a1_1, .slice A1_2 l1_2.length c1_2, .slice A1_3 l1_3.length c1_3] 25 (0, 0)) (by exact BK433.out) hb); have n1_ := zM (zb (g := gb434) (o := .cells #[.int .i64 a2_0, .int .i64 a2_1, .slice A2_2 l2_2.length c2_2, .slice A2_3 l2_3.length c2_3] 25 (0, 0)) (by exact BK434.out) hb); have n2_ := zM (zp HB.out hb); clear BK433; clear BK434; clear HB; have BK433 := n0_; have BK434 := n1_; have HB := n2_; clear n0_ n1_ n2_))
 (try simp only [Act.put, zA, zZ, zS])
 go_cut [21] (fun v21 wc => ∃ (kq : Nat) (x21_4 : Bool), v21 = .bool x21_4 ∧ Aside0 (L16_LaneTells.j0 kq a0 t435 x21_4 a1_0 a1_1 l1_2 l1_3 a2_0 a2_1 l2_2 l2_3 = some r) ∧ Aside0 (kq ≤ k) ∧ Aside0 (wc.heap[gb433]? = some (.cells #[.int .i64 a1_0, .int .i64 a1_1, (.slice A1_2 l1_2.length c1_2), (.slice A1_3 l1_3.length c1_3)] 25 (0, 0))) ∧ Aside0 (wc.heap[gb434]? = some (.cells #[.int .i64 a2_0, .int .i64 a2_1, (.slice A2_2 l2_2.length c2_2), (.slice A2_3 l2_3.length c2_3)] 25 (0, 0))) ∧ Aside0 (Below w.heap.size w wc))
 case first =>
  have H := HC5.out
  clear HC5
  by_cases c9 : a1_1 > 1099511627776
  ·rw [if_pos c9] at H
   have c9b0 : decide (1099511627776 < a1_1) = true := decide_eq_true c9
   clear c9
   (first | rw [c9b0] | (simp only [i64_w, i32_w]; rw [c9b0]) | skip)
   have H' := zM H
   clear H
   have hnb10 := NB433_434.out
   have hnc10 := NB434_433.out
   have hcz11_0 : w8.cell? ⟨gb433, 0, none⟩ = some (.int .i64 a1_0) := (zc BK433.out 0).trans rfl
   have hcz11_1 : w8.cell? ⟨gb433, 1, none⟩ = some (.int .i64 a1_1) := (zc BK433.out 1).trans rfl
   have hcz11_2 : w8.cell? ⟨gb433, 2, none⟩ = some (.slice A1_2 l1_2.length c1_2) := (zc BK433.out 2).trans rfl
   have hcz11_3 : w8.cell? ⟨gb433, 3, none⟩ = some (.slice A1_3 l1_3.length c1_3) := (zc BK433.out 3).trans rfl
   have hfz11_0 := zf BK433.out 0
   have hfz11_1 := zf BK433.out 1
   have hfz11_2 := zf BK433.out 2
   have hfz11_3 := zf BK433.out 3
   go_wp2
   go_meet
   case rel => exact ⟨_, (true), rfl, H', ⟨by first | omega | exact Nat.le_refl _⟩, ⟨by exact BK433.out⟩, ⟨by exact BK434.out⟩, ⟨by repeat (first | (with_reducible first | exact HB.out | apply zL | apply zN | apply zD | refine zJ ?_ GE433.out | refine zJ ?_ GE434.out) | exact HB.out)⟩⟩
  ·rw [if_neg c9] at H
   have c9b0 : decide (1099511627776 < a1_1) = false := decide_eq_false c9
   clear c9
   (first | rw [c9b0] | (simp only [i64_w, i32_w]; rw [c9b0]) | skip)
   have H' := zM H
   clear H
   have hnb12 := NB433_434.out
   have hnc12 := NB434_433.out
   have hcz13_0 : w8.cell? ⟨gb433, 0, none⟩ = some (.int .i64 a1_0) := (zc BK433.out 0).trans rfl
   have hcz13_1 : w8.cell? ⟨gb433, 1, none⟩ = some (.int .i64 a1_1) := (zc BK433.out 1).trans rfl
   have hcz13_2 : w8.cell? ⟨gb433, 2, none⟩ = some (.slice A1_2 l1_2.length c1_2) := (zc BK433.out 2).trans rfl
   have hcz13_3 : w8.cell? ⟨gb433, 3, none⟩ = some (.slice A1_3 l1_3.length c1_3) := (zc BK433.out 3).trans rfl
   have hfz13_0 := zf BK433.out 0
   have hfz13_1 := zf BK433.out 1
   have hfz13_2 := zf BK433.out 2
   have hfz13_3 := zf BK433.out 3
   go_wp2
   go_meet
   case rel => exact ⟨_, (decide (a1_1 < (-1099511627776))), rfl, H', ⟨by first | omega | exact Nat.le_refl _⟩, ⟨by exact BK433.out⟩, ⟨by exact BK434.out⟩, ⟨by repeat (first | (with_reducible first | exact HB.out | apply zL | apply zN | apply zD | refine zJ ?_ GE433.out | refine zJ ?_ GE434.out) | exact HB.out)⟩⟩
 case rest =>
  clear HC5
  obtain ⟨kq, x21_4, rfl, HA, HJ4, BK433, BK434, HB⟩ := hcut
  cases kq with
  | zero => exact absurd HA.out (by simp [L16_LaneTells.j0])
  | succ kj4 =>
   have H := HA.out
   clear HA
   simp only [L16_LaneTells.j0] at H
   by_cases c14 : x21_4 = true
   ·subst c14
    have H1 : (some t435) = some r := by rw [if_pos rfl] at H; exact H
    clear H
    have H := H1
    clear H1
    obtain rfl := Option.some.inj H
    go_wp2
    go_ret
    exact ⟨by first | rfl | (simp [errW_none, errW_some] <;> rfl) | (simp [*, errW_none, errW_some] <;> rfl), by repeat (first | (with_reducible first | exact HB.out | apply zL | apply zN | apply zD | refine zJ ?_ GE433.out | refine zJ ?_ GE434.out) | exact HB.out)⟩
   ·replace c14 := Bool.eq_false_iff.mpr c14
    subst c14
    have H1 : ((lane_New.f a0).bind fun bt436 => ((R16_New.f a0).bind fun bt446 => ((R16_Same.f kj4 bt436.1 bt436.2.1 bt436.2.2.1 bt436.2.2.2.1 bt446.1 bt446.2.1 bt446.2.2.1 bt446.2.2.2.1).bind fun t456 => (if t435 = true then (if t456 = true then (if bt436.2.2.2.2 = bt446.2.2.2.2 then ((lane_Right.f kj4 a1_0 a1_1 l1_2 l1_3).bind fun t457 => ((R16_Right.f kj4 a1_0 a1_1 l1_2 l1_3).bind fun t458 => (if (t457 == t458) = true then ((lane_Full.f a1_0 a1_1 l1_2 l1_3).bind fun t459 => ((R16_Full.f a1_0 a1_1 l1_2 l1_3).bind fun t460 => (if (t459 == t460) = true then ((lane_Same.f kj4 a1_0 a1_1 l1_2 l1_3 a2_0 a2_1 l2_2 l2_3).bind fun t461 => ((R16_Same.f kj4 a1_0 a1_1 l1_2 l1_3 a2_0 a2_1 l2_2 l2_3).bind fun t462 => (if (t461 == t462) = true then ((lane_Same.f kj4 a1_0 a1_1 l1_2 l1_3 a1_0 a1_1 l1_2 l1_3).bind fun t463 => (some t463)) else (some false)))) else (some false)))) else (some false)))) else (some false)) else (some false)) else (some false))))) = some r := by rw [if_neg (show ¬ (false = true) by decide)] at H; exact H
    clear H
    have H := H1
    clear H1
    replace H := Option.bind_eq_some_iff.mp H
    obtain ⟨⟨t436, t437, t438, t441, t444⟩, A150, H⟩ := H
    replace H : ((R16_New.f a0).bind fun bt446 => ((R16_Same.f kj4 t436 t437 t438 t441 bt446.1 bt446.2.1 bt446.2.2.1 bt446.2.2.2.1).bind fun t456 => (if t435 = true then (if t456 = true then (if t444 = bt446.2.2.2.2 then ((lane_Right.f kj4 a1_0 a1_1 l1_2 l1_3).bind fun t457 => ((R16_Right.f kj4 a1_0 a1_1 l1_2 l1_3).bind fun t458 => (if (t457 == t458) = true then ((lane_Full.f a1_0 a1_1 l1_2 l1_3).bind fun t459 => ((R16_Full.f a1_0 a1_1 l1_2 l1_3).bind fun t460 => (if (t459 == t460) = true then ((lane_Same.f kj4 a1_0 a1_1 l1_2 l1_3 a2_0 a2_1 l2_2 l2_3).bind fun t461 => ((R16_Same.f kj4 a1_0 a1_1 l1_2 l1_3 a2_0 a2_1 l2_2 l2_3).bind fun t462 => (if (t461 == t462) = true then ((lane_Same.f kj4 a1_0 a1_1 l1_2 l1_3 a1_0 a1_1 l1_2 l1_3).bind fun t463 => (some t463)) else (some false)))) else (some false)))) else (some false)))) else (some false)) else (some false)) else (some false)))) = some r := H
    have A15 := zM A150
    clear A150
    replace H := Option.bind_eq_some_iff.mp H
    obtain ⟨⟨t446, t447, t448, t451, t454⟩, A160, H⟩ := H
    replace H : ((R16_Same.f kj4 t436 t437 t438 t441 t446 t447 t448 t451).bind fun t456 => (if t435 = true then (if t456 = true then (if t444 = t454 then ((lane_Right.f kj4 a1_0 a1_1 l1_2 l1_3).bind fun t457 => ((R16_Right.f kj4 a1_0 a1_1 l1_2 l1_3).bind fun t458 => (if (t457 == t458) = true then ((lane_Full.f a1_0 a1_1 l1_2 l1_3).bind fun t459 => ((R16_Full.f a1_0 a1_1 l1_2 l1_3).bind fun t460 => (if (t459 == t460) = true then ((lane_Same.f kj4 a1_0 a1_1 l1_2 l1_3 a2_0 a2_1 l2_2 l2_3).bind fun t461 => ((R16_Same.f kj4 a1_0 a1_1 l1_2 l1_3 a2_0 a2_1 l2_2 l2_3).bind fun t462 => (if (t461 == t462) = true then ((lane_Same.f kj4 a1_0 a1_1 l1_2 l1_3 a1_0 a1_1 l1_2 l1_3).bind fun t463 => (some t463)) else (some false)))) else (some false)))) else (some false)))) else (some false)) else (some false)) else (some false))) = some r := H
    have A16 := zM A160
    clear A160
    replace H := Option.bind_eq_some_iff.mp H
    obtain ⟨t456, A170, H⟩ := H
    replace H : (if t435 = true then (if t456 = true then (if t444 = t454 then ((lane_Right.f kj4 a1_0 a1_1 l1_2 l1_3).bind fun t457 => ((R16_Right.f kj4 a1_0 a1_1 l1_2 l1_3).bind fun t458 => (if (t457 == t458) = true then ((lane_Full.f a1_0 a1_1 l1_2 l1_3).bind fun t459 => ((R16_Full.f a1_0 a1_1 l1_2 l1_3).bind fun t460 => (if (t459 == t460) = true then ((lane_Same.f kj4 a1_0 a1_1 l1_2 l1_3 a2_0 a2_1 l2_2 l2_3).bind fun t461 => ((R16_Same.f kj4 a1_0 a1_1 l1_2 l1_3 a2_0 a2_1 l2_2 l2_3).bind fun t462 => (if (t461 == t462) = true then ((lane_Same.f kj4 a1_0 a1_1 l1_2 l1_3 a1_0 a1_1 l1_2 l1_3).bind fun t463 => (some t463)) else (some false)))) else (some false)))) else (some false)))) else (some false)) else (some false)) else (some false)) = some r := H
    have A17 := zM A170
    clear A170
    by_cases c18 : t435 = true
    ·subst c18
     have H1 : (if t456 = true then (if t444 = t454 then ((lane_Right.f kj4 a1_0 a1_1 l1_2 l1_3).bind fun t457 => ((R16_Right.f kj4 a1_0 a1_1 l1_2 l1_3).bind fun t458 => (if (t457 == t458) = true then ((lane_Full.f a1_0 a1_1 l1_2 l1_3).bind fun t459 => ((R16_Full.f a1_0 a1_1 l1_2 l1_3).bind fun t460 => (if (t459 == t460) = true then ((lane_Same.f kj4 a1_0 a1_1 l1_2 l1_3 a2_0 a2_1 l2_2 l2_3).bind fun t461 => ((R16_Same.f kj4 a1_0 a1_1 l1_2 l1_3 a2_0 a2_1 l2_2 l2_3).bind fun t462 => (if (t461 == t462) = true then ((lane_Same.f kj4 a1_0 a1_1 l1_2 l1_3 a1_0 a1_1 l1_2 l1_3).bind fun t463 => (some t463)) else (some false)))) else (some false)))) else (some false)))) else (some false)) else (some false)) = some r := by rw [if_pos rfl] at H; exact H
     clear H
     have H := H1
     clear H1
     by_cases c19 : t456 = true
     ·subst c19
      have H1 : (if t444 = t454 then ((lane_Right.f kj4 a1_0 a1_1 l1_2 l1_3).bind fun t457 => ((R16_Right.f kj4 a1_0 a1_1 l1_2 l1_3).bind fun t458 => (if (t457 == t458) = true then ((lane_Full.f a1_0 a1_1 l1_2 l1_3).bind fun t459 => ((R16_Full.f a1_0 a1_1 l1_2 l1_3).bind fun t460 => (if (t459 == t460) = true then ((lane_Same.f kj4 a1_0 a1_1 l1_2 l1_3 a2_0 a2_1 l2_2 l2_3).bind fun t461 => ((R16_Same.f kj4 a1_0 a1_1 l1_2 l1_3 a2_0 a2_1 l2_2 l2_3).bind fun t462 => (if (t461 == t462) = true then ((lane_Same.f kj4 a1_0 a1_1 l1_2 l1_3 a1_0 a1_1 l1_2 l1_3).bind fun t463 => (some t463)) else (some false)))) else (some false)))) else (some false)))) else (some false)) = some r := by rw [if_pos rfl] at H; exact H
      clear H
      have H := H1
      clear H1
      by_cases c20 : t444 = t454
      ·rw [if_pos c20] at H
       have c20b0 : (t444 == t454) = true := beq_iff_eq.mpr c20
       have c20b1 : (t444 != t454) = false := bne_eq_false_iff_eq.mpr c20
       clear c20
       replace H := Option.bind_eq_some_iff.mp H
       obtain ⟨t457, A210, H⟩ := H
       replace H : ((R16_Right.f kj4 a1_0 a1_1 l1_2 l1_3).bind fun t458 => (if (t457 == t458) = true then ((lane_Full.f a1_0 a1_1 l1_2 l1_3).bind fun t459 => ((R16_Full.f a1_0 a1_1 l1_2 l1_3).bind fun t460 => (if (t459 == t460) = true then ((lane_Same.f kj4 a1_0 a1_1 l1_2 l1_3 a2_0 a2_1 l2_2 l2_3).bind fun t461 => ((R16_Same.f kj4 a1_0 a1_1 l1_2 l1_3 a2_0 a2_1 l2_2 l2_3).bind fun t462 => (if (t461 == t462) = true then ((lane_Same.f kj4 a1_0 a1_1 l1_2 l1_3 a1_0 a1_1 l1_2 l1_3).bind fun t463 => (some t463)) else (some false)))) else (some false)))) else (some false))) = some r := H
       have A21 := zM A210
       clear A210
       replace H := Option.bind_eq_some_iff.mp H
       obtain ⟨t458, A220, H⟩ := H
       replace H : (if (t457 == t458) = true then ((lane_Full.f a1_0 a1_1 l1_2 l1_3).bind fun t459 => ((R16_Full.f a1_0 a1_1 l1_2 l1_3).bind fun t460 => (if (t459 == t460) = true then ((lane_Same.f kj4 a1_0 a1_1 l1_2 l1_3 a2_0 a2_1 l2_2 l2_3).bind fun t461 => ((R16_Same.f kj4 a1_0 a1_1 l1_2 l1_3 a2_0 a2_1 l2_2 l2_3).bind fun t462 => (if (t461 == t462) = true then ((lane_Same.f kj4 a1_0 a1_1 l1_2 l1_3 a1_0 a1_1 l1_2 l1_3).bind fun t463 => (some t463)) else (some false)))) else (some false)))) else (some false)) = some r := H
       have A22 := zM A220
       clear A220
       by_cases c23 : (t457 == t458) = true
       ·rw [if_pos c23] at H
        have c23b0 : (t457 == t458) = true := c23
        (try (have c23b1 : decide (t457 = t458) = true := by simpa using c23))
        (try (have c23b2 : (t457 == t458) = true := by simpa using c23))
        clear c23
        replace H := Option.bind_eq_some_iff.mp H
        obtain ⟨t459, A240, H⟩ := H
        replace H : ((R16_Full.f a1_0 a1_1 l1_2 l1_3).bind fun t460 => (if (t459 == t460) = true then ((lane_Same.f kj4 a1_0 a1_1 l1_2 l1_3 a2_0 a2_1 l2_2 l2_3).bind fun t461 => ((R16_Same.f kj4 a1_0 a1_1 l1_2 l1_3 a2_0 a2_1 l2_2 l2_3).bind fun t462 => (if (t461 == t462) = true then ((lane_Same.f kj4 a1_0 a1_1 l1_2 l1_3 a1_0 a1_1 l1_2 l1_3).bind fun t463 => (some t463)) else (some false)))) else (some false))) = some r := H
        have A24 := zM A240
        clear A240
        replace H := Option.bind_eq_some_iff.mp H
        obtain ⟨t460, A250, H⟩ := H
        replace H : (if (t459 == t460) = true then ((lane_Same.f kj4 a1_0 a1_1 l1_2 l1_3 a2_0 a2_1 l2_2 l2_3).bind fun t461 => ((R16_Same.f kj4 a1_0 a1_1 l1_2 l1_3 a2_0 a2_1 l2_2 l2_3).bind fun t462 => (if (t461 == t462) = true then ((lane_Same.f kj4 a1_0 a1_1 l1_2 l1_3 a1_0 a1_1 l1_2 l1_3).bind fun t463 => (some t463)) else (some false)))) else (some false)) = some r := H
        have A25 := zM A250
        clear A250
        by_cases c26 : (t459 == t460) = true
        ·rw [if_pos c26] at H
         have c26b0 : (t459 == t460) = true := c26
         (try (have c26b1 : decide (t459 = t460) = true := by simpa using c26))
         (try (have c26b2 : (t459 == t460) = true := by simpa using c26))
         clear c26
         replace H := Option.bind_eq_some_iff.mp H
         obtain ⟨t461, A270, H⟩ := H
         replace H : ((R16_Same.f kj4 a1_0 a1_1 l1_2 l1_3 a2_0 a2_1 l2_2 l2_3).bind fun t462 => (if (t461 == t462) = true then ((lane_Same.f kj4 a1_0 a1_1 l1_2 l1_3 a1_0 a1_1 l1_2 l1_3).bind fun t463 => (some t463)) else (some false))) = some r := H
         have A27 := zM A270
         clear A270
         replace H := Option.bind_eq_some_iff.mp H
         obtain ⟨t462, A280, H⟩ := H
         replace H : (if (t461 == t462) = true then ((lane_Same.f kj4 a1_0 a1_1 l1_2 l1_3 a1_0 a1_1 l1_2 l1_3).bind fun t463 => (some t463)) else (some false)) = some r := H
         have A28 := zM A280
         clear A280
         by_cases c29 : (t461 == t462) = true
         ·rw [if_pos c29] at H
          have c29b0 : (t461 == t462) = true := c29
          (try (have c29b1 : decide (t461 = t462) = true := by simpa using c29))
          (try (have c29b2 : (t461 == t462) = true := by simpa using c29))
          clear c29
          replace H := Option.bind_eq_some_iff.mp H
          obtain ⟨t463, A300, H⟩ := H
          replace H : (some t463) = some r := H
          have A30 := zM A300
          clear A300
          obtain rfl := Option.some.inj H
          try go_wp2_with (first | ((with_reducible refine gate_callee (f := 15) rfl ?_); refine goesL_ (some 25) rfl rfl Try.func15 (by kernel_rfl) rfl #[.int .i64 a0] rfl (by (try simp only [List.map_toArray, List.map_cons, List.map_nil]); first | done | rfl | (simp only [List.length_drop, List.length_take]; rfl)) ?_; (with_reducible refine (lane_New.calls a0 t436 t437 t438 t441 t444 _ A15.out).mono ?_); rintro e w31 ⟨v439, v442, rfl, ho0, ho1, hb⟩; refine ⟨_, rfl, ?_⟩; have n0_ := zM (Kd.R_lower ho0 (zs (by repeat (first | (with_reducible first | exact HB.out | apply zL | apply zN | apply zD | refine zJ ?_ GE433.out | refine zJ ?_ GE434.out) | exact HB.out)))); have n1_ := zM (Kd.S_lower ho1 (zs (by repeat (first | (with_reducible first | exact HB.out | apply zL | apply zN | apply zD | refine zJ ?_ GE433.out | refine zJ ?_ GE434.out) | exact HB.out)))); have n2_ := zM (zb (g := gb433) (o := .cells #[.int .i64 a1_0, .int .i64 a1_1, .slice A1_2 l1_2.length c1_2, .slice A1_3 l1_3.length c1_3] 25 (0, 0)) (by (with_reducible repeat (first | refine zn ?_ _ | refine zd ?_ | refine za ?_ _)); exact BK433.out) hb); have n3_ := zM (zb (g := gb434) (o := .cells #[.int .i64 a2_0, .int .i64 a2_1, .slice A2_2 l2_2.length c2_2, .slice A2_3 l2_3.length c2_3] 25 (0, 0)) (by (with_reducible repeat (first | refine zn ?_ _ | refine zd ?_ | refine za ?_ _)); exact BK434.out) hb); have n4_ := zM (zp (by repeat (first | (with_reducible first | exact HB.out | apply zL | apply zN | apply zD | refine zJ ?_ GE433.out | refine zJ ?_ GE434.out) | exact HB.out)) hb); clear BK433; clear BK434; clear HB; have HO440 := n0_; have HO443 := n1_; have BK433 := n2_; have BK434 := n3_; have HB := n4_; clear n0_ n1_ n2_ n3_ n4_; (try clear hb); (try clear hb2); (try clear hk); (try clear hi); (try clear ho0); (try clear ho1)) | ((with_reducible refine gate_dst (N := 8) rfl ?_); refine box_event ?hg (N := 8) ?hd (cs := #[.int .i64 0, .int .i64 0, .slice none 0 0, .slice none 0 0]) (t := 25) ?hr ?_; (case hd => rfl); (case hg => rfl); (case hr => first | (go_simp; done) | (go_simp; rfl)); intro gb445 hg w32 hbox hb; have n0_ := zM (Kd.R_below (by (with_reducible repeat (first | apply zra | apply zrn | apply zrd)); exact HO440.out) hb); have n1_ := zM (Kd.S_below (by (with_reducible repeat (first | apply Kd.S_alloc | apply Kd.S_drewN | apply Kd.S_drew)); exact HO443.out) hb); have n2_ := zM (zb (g := gb433) (o := .cells #[.int .i64 a1_0, .int .i64 a1_1, .slice A1_2 l1_2.length c1_2, .slice A1_3 l1_3.length c1_3] 25 (0, 0)) (by (with_reducible repeat (first | refine zn ?_ _ | refine zd ?_ | refine za ?_ _)); exact BK433.out) hb); have n3_ := zM (zb (g := gb434) (o := .cells #[.int .i64 a2_0, .int .i64 a2_1, .slice A2_2 l2_2.length c2_2, .slice A2_3 l2_3.length c2_3] 25 (0, 0)) (by (with_reducible repeat (first | refine zn ?_ _ | refine zd ?_ | refine za ?_ _)); exact BK434.out) hb); have n4_ := zM (zp (by repeat (first | (with_reducible first | exact HB.out | apply zL | apply zN | apply zD | refine zJ ?_ GE433.out | refine zJ ?_ GE434.out) | exact HB.out)) hb); have n5_ := zM (hbox); have n6_ := zM ((by rw [hg]; exact (zs (by repeat (first | (with_reducible first | exact HB.out | apply zL | apply zN | apply zD | refine zJ ?_ GE433.out | refine zJ ?_ GE434.out) | exact HB.out))) : w.heap.size ≤ gb445)); have n7_ := zM ((by rw [hg]; exact (zs (by repeat (first | (with_reducible first | exact HB.out | apply zL | apply zN | apply zD | refine zJ ?_ GE433.out | refine zJ ?_ GE434.out) | exact HB.out))) : w.heap.size ≤ gb445)); have n8_ := zM ((by rw [hg]; exact zt (blk_lt (g := gb433) (o := .cells #[.int .i64 a1_0, .int .i64 a1_1, .slice A1_2 l1_2.length c1_2, .slice A1_3 l1_3.length c1_3] 25 (0, 0)) (by (with_reducible repeat (first | refine zn ?_ _ | refine zd ?_ | refine za ?_ _)); exact BK433.out)) : gb433 ≠ gb445)); have n9_ := zM ((by rw [hg]; exact Nat.ne_of_gt (blk_lt (g := gb433) (o := .cells #[.int .i64 a1_0, .int .i64 a1_1, .slice A1_2 l1_2.length c1_2, .slice A1_3 l1_3.length c1_3] 25 (0, 0)) (by (with_reducible repeat (first | refine zn ?_ _ | refine zd ?_ | refine za ?_ _)); exact BK433.out)) : gb445 ≠ gb433)); have n10_ := zM ((by rw [hg]; exact zt (blk_lt (g := gb434) (o := .cells #[.int .i64 a2_0, .int .i64 a2_1, .slice A2_2 l2_2.length c2_2, .slice A2_3 l2_3.length c2_3] 25 (0, 0)) (by (with_reducible repeat (first | refine zn ?_ _ | refine zd ?_ | refine za ?_ _)); exact BK434.out)) : gb434 ≠ gb445)); have n11_ := zM ((by rw [hg]; exact Nat.ne_of_gt (blk_lt (g := gb434) (o := .cells #[.int .i64 a2_0, .int .i64 a2_1, .slice A2_2 l2_2.length c2_2, .slice A2_3 l2_3.length c2_3] 25 (0, 0)) (by (with_reducible repeat (first | refine zn ?_ _ | refine zd ?_ | refine za ?_ _)); exact BK434.out)) : gb445 ≠ gb434)); clear HO440; clear HO443; clear BK433; clear BK434; clear HB; have HO440 := n0_; have HO443 := n1_; have BK433 := n2_; have BK434 := n3_; have HB := n4_; have BK445 := n5_; have GW445 := n6_; have GE445 := n7_; have NB433_445 := n8_; have NB445_433 := n9_; have NB434_445 := n10_; have NB445_434 := n11_; clear n0_ n1_ n2_ n3_ n4_ n5_ n6_ n7_ n8_ n9_ n10_ n11_; clear hb hbox hg; have hnb33 := NB445_433.out; have hnc33 := NB433_445.out; have hnb34 := NB445_434.out; have hnc34 := NB434_445.out; have hcz35_0 : w32.cell? ⟨gb445, 0, none⟩ = some (.int .i64 0) := (zc BK445.out 0).trans rfl; have hcz35_1 : w32.cell? ⟨gb445, 1, none⟩ = some (.int .i64 0) := (zc BK445.out 1).trans rfl; have hcz35_2 : w32.cell? ⟨gb445, 2, none⟩ = some (.slice none 0 0) := (zc BK445.out 2).trans rfl; have hcz35_3 : w32.cell? ⟨gb445, 3, none⟩ = some (.slice none 0 0) := (zc BK445.out 3).trans rfl; have hfz35_0 := zf BK445.out 0; have hfz35_1 := zf BK445.out 1; have hfz35_2 := zf BK445.out 2; have hfz35_3 := zf BK445.out 3; obtain ⟨Ao36, co36, eo36⟩ := Kd.R_slice HO440.out; subst eo36; obtain ⟨Ao37, co37, eo37⟩ := Kd.S_slice HO443.out; subst eo37) | ((with_reducible refine gate_callee (f := 24) rfl ?_); refine goesL_ (some 30) rfl rfl Try.func24 (by kernel_rfl) rfl #[.int .i64 a0] rfl (by (try simp only [List.map_toArray, List.map_cons, List.map_nil]); first | done | rfl | (simp only [List.length_drop, List.length_take]; rfl)) ?_; (with_reducible refine (R16_New.calls a0 t446 t447 t448 t451 t454 _ A16.out).mono ?_); rintro e w38 ⟨v449, v452, rfl, ho0, ho1, hb⟩; refine ⟨_, rfl, ?_⟩; have n0_ := zM (Kd.R_elder' (by (with_reducible repeat (first | apply zra | apply zrn | apply zrd)); exact (zrm (zrf (p := ⟨gb445, 3, none⟩) (zrf (p := ⟨gb445, 2, none⟩) (zrf (p := ⟨gb445, 1, none⟩) (zrf (p := ⟨gb445, 0, none⟩) (Kd.R_types HO440.out BK445.out (by decide)) (fun _ hk => hk.2) (.int .i64 t436)) (fun _ hk => hk.2) (.int .i64 t437)) (fun _ hk => hk.2) (.slice Ao36 t438.length co36)) (fun _ hk => hk.2) (.slice Ao37 t441.length co37)) (fun _ h_ => h_.1))) (Kd.R_base ho0) hb); have n1_ := zM (Kd.S_mono (Kd.S_told (Kd.S_told (Kd.S_old (by (with_reducible repeat (first | apply Kd.S_alloc | apply Kd.S_drewN | apply Kd.S_drew)); exact (Kd.S_mono (Kd.S_far (p := ⟨gb445, 3, none⟩) (Kd.S_far (p := ⟨gb445, 2, none⟩) (Kd.S_far (p := ⟨gb445, 1, none⟩) (Kd.S_far (p := ⟨gb445, 0, none⟩) (Kd.S_types HO443.out BK445.out (by decide)) (fun _ hk => hk.2) (.int .i64 t436)) (fun _ hk => hk.2) (.int .i64 t437)) (fun _ hk => hk.2) (.slice Ao36 t438.length co36)) (fun _ hk => hk.2) (.slice Ao37 t441.length co37)) (fun _ h_ => h_.1))) hb) (Kd.R_base ho0)) (Kd.S_base ho1)) (fun _ h_ => h_.1)); have n2_ := zM (Kd.R_lower (Kd.R_new' ho0 (Kd.R_lt (by (with_reducible repeat (first | apply zra | apply zrn | apply zrd)); exact (zrm (zrf (p := ⟨gb445, 3, none⟩) (zrf (p := ⟨gb445, 2, none⟩) (zrf (p := ⟨gb445, 1, none⟩) (zrf (p := ⟨gb445, 0, none⟩) (Kd.R_types HO440.out BK445.out (by decide)) (fun _ hk => hk.2) (.int .i64 t436)) (fun _ hk => hk.2) (.int .i64 t437)) (fun _ hk => hk.2) (.slice Ao36 t438.length co36)) (fun _ hk => hk.2) (.slice Ao37 t441.length co37)) (fun _ h_ => h_.1))))) (zs (by repeat (first | (with_reducible first | exact HB.out | apply zL | apply zN | apply zD | refine zJ ?_ GE433.out | refine zJ ?_ GE434.out | refine zJ ?_ GE445.out) | exact HB.out)))); have n3_ := zM (Kd.S_lower (Kd.S_new' (Kd.S_new' ho1 (Kd.R_lt (by (with_reducible repeat (first | apply zra | apply zrn | apply zrd)); exact (zrm (zrf (p := ⟨gb445, 3, none⟩) (zrf (p := ⟨gb445, 2, none⟩) (zrf (p := ⟨gb445, 1, none⟩) (zrf (p := ⟨gb445, 0, none⟩) (Kd.R_types HO440.out BK445.out (by decide)) (fun _ hk => hk.2) (.int .i64 t436)) (fun _ hk => hk.2) (.int .i64 t437)) (fun _ hk => hk.2) (.slice Ao36 t438.length co36)) (fun _ hk => hk.2) (.slice Ao37 t441.length co37)) (fun _ h_ => h_.1))))) (Kd.S_lt (by (with_reducible repeat (first | apply Kd.S_alloc | apply Kd.S_drewN | apply Kd.S_drew)); exact (Kd.S_mono (Kd.S_far (p := ⟨gb445, 3, none⟩) (Kd.S_far (p := ⟨gb445, 2, none⟩) (Kd.S_far (p := ⟨gb445, 1, none⟩) (Kd.S_far (p := ⟨gb445, 0, none⟩) (Kd.S_types HO443.out BK445.out (by decide)) (fun _ hk => hk.2) (.int .i64 t436)) (fun _ hk => hk.2) (.int .i64 t437)) (fun _ hk => hk.2) (.slice Ao36 t438.length co36)) (fun _ hk => hk.2) (.slice Ao37 t441.length co37)) (fun _ h_ => h_.1))))) (zs (by repeat (first | (with_reducible first | exact HB.out | apply zL | apply zN | apply zD | refine zJ ?_ GE433.out | refine zJ ?_ GE434.out | refine zJ ?_ GE445.out) | exact HB.out)))); have n4_ := zM (zb (g := gb433) (o := .cells #[.int .i64 a1_0, .int .i64 a1_1, .slice A1_2 l1_2.length c1_2, .slice A1_3 l1_3.length c1_3] 25 (0, 0)) (by (with_reducible repeat (first | refine zn ?_ _ | refine zd ?_ | refine za ?_ _)); refine zF ?_ NB433_445.out _; (with_reducible repeat (first | refine zn ?_ _ | refine zd ?_ | refine za ?_ _)); refine zF ?_ NB433_445.out _; (with_reducible repeat (first | refine zn ?_ _ | refine zd ?_ | refine za ?_ _)); refine zF ?_ NB433_445.out _; (with_reducible repeat (first | refine zn ?_ _ | refine zd ?_ | refine za ?_ _)); refine zF ?_ NB433_445.out _; (with_reducible repeat (first | refine zn ?_ _ | refine zd ?_ | refine za ?_ _)); exact BK433.out) hb); have n5_ := zM (zb (g := gb434) (o := .cells #[.int .i64 a2_0, .int .i64 a2_1, .slice A2_2 l2_2.length c2_2, .slice A2_3 l2_3.length c2_3] 25 (0, 0)) (by (with_reducible repeat (first | refine zn ?_ _ | refine zd ?_ | refine za ?_ _)); refine zF ?_ NB434_445.out _; (with_reducible repeat (first | refine zn ?_ _ | refine zd ?_ | refine za ?_ _)); refine zF ?_ NB434_445.out _; (with_reducible repeat (first | refine zn ?_ _ | refine zd ?_ | refine za ?_ _)); refine zF ?_ NB434_445.out _; (with_reducible repeat (first | refine zn ?_ _ | refine zd ?_ | refine za ?_ _)); refine zF ?_ NB434_445.out _; (with_reducible repeat (first | refine zn ?_ _ | refine zd ?_ | refine za ?_ _)); exact BK434.out) hb); have n6_ := zM (zb (g := gb445) (o := .cells #[.int .i64 t436, .int .i64 t437, .slice Ao36 t438.length co36, .slice Ao37 t441.length co37] 25 (0, 0)) (by (with_reducible repeat (first | refine zn ?_ _ | refine zd ?_ | refine za ?_ _)); refine zP (cs := #[.int .i64 t436, .int .i64 t437, .slice Ao36 t438.length co36, .slice none 0 0]) ?_ 3 _ rfl; (with_reducible repeat (first | refine zn ?_ _ | refine zd ?_ | refine za ?_ _)); refine zP (cs := #[.int .i64 t436, .int .i64 t437, .slice none 0 0, .slice none 0 0]) ?_ 2 _ rfl; (with_reducible repeat (first | refine zn ?_ _ | refine zd ?_ | refine za ?_ _)); refine zP (cs := #[.int .i64 t436, .int .i64 0, .slice none 0 0, .slice none 0 0]) ?_ 1 _ rfl; (with_reducible repeat (first | refine zn ?_ _ | refine zd ?_ | refine za ?_ _)); refine zP (cs := #[.int .i64 0, .int .i64 0, .slice none 0 0, .slice none 0 0]) ?_ 0 _ rfl; (with_reducible repeat (first | refine zn ?_ _ | refine zd ?_ | refine za ?_ _)); exact BK445.out) hb); have n7_ := zM (zp (by repeat (first | (with_reducible first | exact HB.out | apply zL | apply zN | apply zD | refine zJ ?_ GE433.out | refine zJ ?_ GE434.out | refine zJ ?_ GE445.out) | exact HB.out)) hb); clear HO440; clear HO443; clear BK433; clear BK434; clear BK445; clear HB; have HO440 := n0_; have HO443 := n1_; have HO450 := n2_; have HO453 := n3_; have BK433 := n4_; have BK434 := n5_; have BK445 := n6_; have HB := n7_; clear n0_ n1_ n2_ n3_ n4_ n5_ n6_ n7_; (try clear hb); (try clear hb2); (try clear hk); (try clear hi); (try clear ho0); (try clear ho1)) | ((with_reducible refine gate_dst (N := 10) rfl ?_); refine box_event ?hg (N := 10) ?hd (cs := #[.int .i64 0, .int .i64 0, .slice none 0 0, .slice none 0 0]) (t := 25) ?hr ?_; (case hd => rfl); (case hg => rfl); (case hr => first | (go_simp; done) | (go_simp; rfl)); intro gb455 hg w39 hbox hb; have n0_ := zM (Kd.R_below (by (with_reducible repeat (first | apply zra | apply zrn | apply zrd)); exact HO440.out) hb); have n1_ := zM (Kd.S_below (by (with_reducible repeat (first | apply Kd.S_alloc | apply Kd.S_drewN | apply Kd.S_drew)); exact HO443.out) hb); have n2_ := zM (Kd.R_below (by (with_reducible repeat (first | apply zra | apply zrn | apply zrd)); exact HO450.out) hb); have n3_ := zM (Kd.S_below (by (with_reducible repeat (first | apply Kd.S_alloc | apply Kd.S_drewN | apply Kd.S_drew)); exact HO453.out) hb); have n4_ := zM (zb (g := gb433) (o := .cells #[.int .i64 a1_0, .int .i64 a1_1, .slice A1_2 l1_2.length c1_2, .slice A1_3 l1_3.length c1_3] 25 (0, 0)) (by (with_reducible repeat (first | refine zn ?_ _ | refine zd ?_ | refine za ?_ _)); exact BK433.out) hb); have n5_ := zM (zb (g := gb434) (o := .cells #[.int .i64 a2_0, .int .i64 a2_1, .slice A2_2 l2_2.length c2_2, .slice A2_3 l2_3.length c2_3] 25 (0, 0)) (by (with_reducible repeat (first | refine zn ?_ _ | refine zd ?_ | refine za ?_ _)); exact BK434.out) hb); have n6_ := zM (zb (g := gb445) (o := .cells #[.int .i64 t436, .int .i64 t437, .slice Ao36 t438.length co36, .slice Ao37 t441.length co37] 25 (0, 0)) (by (with_reducible repeat (first | refine zn ?_ _ | refine zd ?_ | refine za ?_ _)); exact BK445.out) hb); have n7_ := zM (zp (by repeat (first | (with_reducible first | exact HB.out | apply zL | apply zN | apply zD | refine zJ ?_ GE433.out | refine zJ ?_ GE434.out | refine zJ ?_ GE445.out) | exact HB.out)) hb); have n8_ := zM (hbox); have n9_ := zM ((by rw [hg]; exact (zs (by repeat (first | (with_reducible first | exact HB.out | apply zL | apply zN | apply zD | refine zJ ?_ GE433.out | refine zJ ?_ GE434.out | refine zJ ?_ GE445.out) | exact HB.out))) : w.heap.size ≤ gb455)); have n10_ := zM ((by rw [hg]; exact (zs (by repeat (first | (with_reducible first | exact HB.out | apply zL | apply zN | apply zD | refine zJ ?_ GE433.out | refine zJ ?_ GE434.out | refine zJ ?_ GE445.out) | exact HB.out))) : w.heap.size ≤ gb455)); have n11_ := zM ((by rw [hg]; exact zt (blk_lt (g := gb433) (o := .cells #[.int .i64 a1_0, .int .i64 a1_1, .slice A1_2 l1_2.length c1_2, .slice A1_3 l1_3.length c1_3] 25 (0, 0)) (by (with_reducible repeat (first | refine zn ?_ _ | refine zd ?_ | refine za ?_ _)); exact BK433.out)) : gb433 ≠ gb455)); have n12_ := zM ((by rw [hg]; exact Nat.ne_of_gt (blk_lt (g := gb433) (o := .cells #[.int .i64 a1_0, .int .i64 a1_1, .slice A1_2 l1_2.length c1_2, .slice A1_3 l1_3.length c1_3] 25 (0, 0)) (by (with_reducible repeat (first | refine zn ?_ _ | refine zd ?_ | refine za ?_ _)); exact BK433.out)) : gb455 ≠ gb433)); have n13_ := zM ((by rw [hg]; exact zt (blk_lt (g := gb434) (o := .cells #[.int .i64 a2_0, .int .i64 a2_1, .slice A2_2 l2_2.length c2_2, .slice A2_3 l2_3.length c2_3] 25 (0, 0)) (by (with_reducible repeat (first | refine zn ?_ _ | refine zd ?_ | refine za ?_ _)); exact BK434.out)) : gb434 ≠ gb455)); have n14_ := zM ((by rw [hg]; exact Nat.ne_of_gt (blk_lt (g := gb434) (o := .cells #[.int .i64 a2_0, .int .i64 a2_1, .slice A2_2 l2_2.length c2_2, .slice A2_3 l2_3.length c2_3] 25 (0, 0)) (by (with_reducible repeat (first | refine zn ?_ _ | refine zd ?_ | refine za ?_ _)); exact BK434.out)) : gb455 ≠ gb434)); have n15_ := zM ((by rw [hg]; exact zt (blk_lt (g := gb445) (o := .cells #[.int .i64 t436, .int .i64 t437, .slice Ao36 t438.length co36, .slice Ao37 t441.length co37] 25 (0, 0)) (by (with_reducible repeat (first | refine zn ?_ _ | refine zd ?_ | refine za ?_ _)); exact BK445.out)) : gb445 ≠ gb455)); have n16_ := zM ((by rw [hg]; exact Nat.ne_of_gt (blk_lt (g := gb445) (o := .cells #[.int .i64 t436, .int .i64 t437, .slice Ao36 t438.length co36, .slice Ao37 t441.length co37] 25 (0, 0)) (by (with_reducible repeat (first | refine zn ?_ _ | refine zd ?_ | refine za ?_ _)); exact BK445.out)) : gb455 ≠ gb445)); clear HO440; clear HO443; clear HO450; clear HO453; clear BK433; clear BK434; clear BK445; clear HB; have HO440 := n0_; have HO443 := n1_; have HO450 := n2_; have HO453 := n3_; have BK433 := n4_; have BK434 := n5_; have BK445 := n6_; have HB := n7_; have BK455 := n8_; have GW455 := n9_; have GE455 := n10_; have NB433_455 := n11_; have NB455_433 := n12_; have NB434_455 := n13_; have NB455_434 := n14_; have NB445_455 := n15_; have NB455_445 := n16_; clear n0_ n1_ n2_ n3_ n4_ n5_ n6_ n7_ n8_ n9_ n10_ n11_ n12_ n13_ n14_ n15_ n16_; clear hb hbox hg; have hnb40 := NB455_433.out; have hnc40 := NB433_455.out; have hnb41 := NB455_434.out; have hnc41 := NB434_455.out; have hnb42 := NB455_445.out; have hnc42 := NB445_455.out; have hcz43_0 : w39.cell? ⟨gb455, 0, none⟩ = some (.int .i64 0) := (zc BK455.out 0).trans rfl; have hcz43_1 : w39.cell? ⟨gb455, 1, none⟩ = some (.int .i64 0) := (zc BK455.out 1).trans rfl; have hcz43_2 : w39.cell? ⟨gb455, 2, none⟩ = some (.slice none 0 0) := (zc BK455.out 2).trans rfl; have hcz43_3 : w39.cell? ⟨gb455, 3, none⟩ = some (.slice none 0 0) := (zc BK455.out 3).trans rfl; have hfz43_0 := zf BK455.out 0; have hfz43_1 := zf BK455.out 1; have hfz43_2 := zf BK455.out 2; have hfz43_3 := zf BK455.out 3; obtain ⟨Ao44, co44, eo44⟩ := Kd.R_slice HO450.out; subst eo44; obtain ⟨Ao45, co45, eo45⟩ := Kd.S_slice HO453.out; subst eo45; have hcz46_0 : w39.cell? ⟨gb445, 0, none⟩ = some (.int .i64 t436) := (zc BK445.out 0).trans rfl; have hcz46_1 : w39.cell? ⟨gb445, 1, none⟩ = some (.int .i64 t437) := (zc BK445.out 1).trans rfl; have hcz46_2 : w39.cell? ⟨gb445, 2, none⟩ = some (.slice Ao36 t438.length co36) := (zc BK445.out 2).trans rfl; have hcz46_3 : w39.cell? ⟨gb445, 3, none⟩ = some (.slice Ao37 t441.length co37) := (zc BK445.out 3).trans rfl; have hfz46_0 := zf BK445.out 0; have hfz46_1 := zf BK445.out 1; have hfz46_2 := zf BK445.out 2; have hfz46_3 := zf BK445.out 3) | ((with_reducible refine gate_callee (f := 21) rfl ?_); refine goesL_ (some 35) rfl rfl Try.func21 (by kernel_rfl) rfl #[.agg #[.int .i64 t436, .int .i64 t437, .slice Ao36 t438.length co36, .slice Ao37 t441.length co37], .agg #[.int .i64 t446, .int .i64 t447, .slice Ao44 t448.length co44, .slice Ao45 t451.length co45]] rfl (by (try simp only [List.map_toArray, List.map_cons, List.map_nil]); first | done | rfl | (simp only [List.length_drop, List.length_take]; rfl)) ?_; (with_reducible refine (R16_Same.calls kj4 t436 t437 _ _ t438 _ _ t441 t446 t447 _ _ t448 _ _ t451 true _ ?side1 ?side2 ?side3 ?side4 ?side5 ?side6 ?side7 ?side8 A17.out).mono ?_); (case side1 => refine (Kd.R_reads' (e := 9) (base := w.heap.size) (ok := fun k_ => (True ∧ some k_ ≠ (.slice Ao44 t448.length co44 : Value).ownBlock)) (n := t438.length) (c := co36) ?_).2.2; exact (by (with_reducible repeat (first | apply zra | apply zrn | apply zrd)); exact (zrm (zrf (p := ⟨gb455, 3, none⟩) (zrf (p := ⟨gb455, 2, none⟩) (zrf (p := ⟨gb455, 1, none⟩) (zrf (p := ⟨gb455, 0, none⟩) (Kd.R_types HO440.out BK455.out (by decide)) (fun _ hk => hk.2) (.int .i64 t446)) (fun _ hk => hk.2) (.int .i64 t447)) (fun _ hk => hk.2) (.slice Ao44 t448.length co44)) (fun _ hk => hk.2) (.slice Ao45 t451.length co45)) (fun _ h_ => h_.1)))); (case side2 => exact (Kd.R_reads' HO440.out).2.1); (case side3 => refine (Kd.S_reads' (e := 42) (base := w.heap.size) (ok := fun k_ => ((some k_ ≠ (.slice Ao36 t438.length co36 : Value).ownBlock ∧ some k_ ≠ (.slice Ao44 t448.length co44 : Value).ownBlock) ∧ some k_ ≠ (.slice Ao45 t451.length co45 : Value).ownBlock)) (n := t441.length) (c := co37) ?_).2.2; exact (by (with_reducible repeat (first | apply Kd.S_alloc | apply Kd.S_drewN | apply Kd.S_drew)); exact (Kd.S_mono (Kd.S_far (p := ⟨gb455, 3, none⟩) (Kd.S_far (p := ⟨gb455, 2, none⟩) (Kd.S_far (p := ⟨gb455, 1, none⟩) (Kd.S_far (p := ⟨gb455, 0, none⟩) (Kd.S_types HO443.out BK455.out (by decide)) (fun _ hk => hk.2) (.int .i64 t446)) (fun _ hk => hk.2) (.int .i64 t447)) (fun _ hk => hk.2) (.slice Ao44 t448.length co44)) (fun _ hk => hk.2) (.slice Ao45 t451.length co45)) (fun _ h_ => h_.1)))); (case side4 => exact (Kd.S_reads' HO443.out).2.1); (case side5 => refine (Kd.R_reads' (e := 9) (base := w.heap.size) (ok := fun k_ => (True ∧ some k_ ≠ (.slice Ao36 t438.length co36 : Value).ownBlock)) (n := t448.length) (c := co44) ?_).2.2; exact (by (with_reducible repeat (first | apply zra | apply zrn | apply zrd)); exact (zrm (zrf (p := ⟨gb455, 3, none⟩) (zrf (p := ⟨gb455, 2, none⟩) (zrf (p := ⟨gb455, 1, none⟩) (zrf (p := ⟨gb455, 0, none⟩) (Kd.R_types HO450.out BK455.out (by decide)) (fun _ hk => hk.2) (.int .i64 t446)) (fun _ hk => hk.2) (.int .i64 t447)) (fun _ hk => hk.2) (.slice Ao44 t448.length co44)) (fun _ hk => hk.2) (.slice Ao45 t451.length co45)) (fun _ h_ => h_.1)))); (case side6 => exact (Kd.R_reads' HO450.out).2.1); (case side7 => refine (Kd.S_reads' (e := 42) (base := w.heap.size) (ok := fun k_ => ((some k_ ≠ (.slice Ao44 t448.length co44 : Value).ownBlock ∧ some k_ ≠ (.slice Ao36 t438.length co36 : Value).ownBlock) ∧ some k_ ≠ (.slice Ao37 t441.length co37 : Value).ownBlock)) (n := t451.length) (c := co45) ?_).2.2; exact (by (with_reducible repeat (first | apply Kd.S_alloc | apply Kd.S_drewN | apply Kd.S_drew)); exact (Kd.S_mono (Kd.S_far (p := ⟨gb455, 3, none⟩) (Kd.S_far (p := ⟨gb455, 2, none⟩) (Kd.S_far (p := ⟨gb455, 1, none⟩) (Kd.S_far (p := ⟨gb455, 0, none⟩) (Kd.S_types HO453.out BK455.out (by decide)) (fun _ hk => hk.2) (.int .i64 t446)) (fun _ hk => hk.2) (.int .i64 t447)) (fun _ hk => hk.2) (.slice Ao44 t448.length co44)) (fun _ hk => hk.2) (.slice Ao45 t451.length co45)) (fun _ h_ => h_.1)))); (case side8 => exact (Kd.S_reads' HO453.out).2.1); rintro e w47 ⟨rfl, hb⟩; refine ⟨_, rfl, ?_⟩; have n0_ := zM (Kd.R_below (by (with_reducible repeat (first | apply zra | apply zrn | apply zrd)); exact (zrm (zrf (p := ⟨gb455, 3, none⟩) (zrf (p := ⟨gb455, 2, none⟩) (zrf (p := ⟨gb455, 1, none⟩) (zrf (p := ⟨gb455, 0, none⟩) (Kd.R_types HO440.out BK455.out (by decide)) (fun _ hk => hk.2) (.int .i64 t446)) (fun _ hk => hk.2) (.int .i64 t447)) (fun _ hk => hk.2) (.slice Ao44 t448.length co44)) (fun _ hk => hk.2) (.slice Ao45 t451.length co45)) (fun _ h_ => h_.1))) hb); have n1_ := zM (Kd.S_below (by (with_reducible repeat (first | apply Kd.S_alloc | apply Kd.S_drewN | apply Kd.S_drew)); exact (Kd.S_mono (Kd.S_far (p := ⟨gb455, 3, none⟩) (Kd.S_far (p := ⟨gb455, 2, none⟩) (Kd.S_far (p := ⟨gb455, 1, none⟩) (Kd.S_far (p := ⟨gb455, 0, none⟩) (Kd.S_types HO443.out BK455.out (by decide)) (fun _ hk => hk.2) (.int .i64 t446)) (fun _ hk => hk.2) (.int .i64 t447)) (fun _ hk => hk.2) (.slice Ao44 t448.length co44)) (fun _ hk => hk.2) (.slice Ao45 t451.length co45)) (fun _ h_ => h_.1))) hb); have n2_ := zM (Kd.R_below (by (with_reducible repeat (first | apply zra | apply zrn | apply zrd)); exact (zrm (zrf (p := ⟨gb455, 3, none⟩) (zrf (p := ⟨gb455, 2, none⟩) (zrf (p := ⟨gb455, 1, none⟩) (zrf (p := ⟨gb455, 0, none⟩) (Kd.R_types HO450.out BK455.out (by decide)) (fun _ hk => hk.2) (.int .i64 t446)) (fun _ hk => hk.2) (.int .i64 t447)) (fun _ hk => hk.2) (.slice Ao44 t448.length co44)) (fun _ hk => hk.2) (.slice Ao45 t451.length co45)) (fun _ h_ => h_.1))) hb); have n3_ := zM (Kd.S_below (by (with_reducible repeat (first | apply Kd.S_alloc | apply Kd.S_drewN | apply Kd.S_drew)); exact (Kd.S_mono (Kd.S_far (p := ⟨gb455, 3, none⟩) (Kd.S_far (p := ⟨gb455, 2, none⟩) (Kd.S_far (p := ⟨gb455, 1, none⟩) (Kd.S_far (p := ⟨gb455, 0, none⟩) (Kd.S_types HO453.out BK455.out (by decide)) (fun _ hk => hk.2) (.int .i64 t446)) (fun _ hk => hk.2) (.int .i64 t447)) (fun _ hk => hk.2) (.slice Ao44 t448.length co44)) (fun _ hk => hk.2) (.slice Ao45 t451.length co45)) (fun _ h_ => h_.1))) hb); have n4_ := zM (zb (g := gb433) (o := .cells #[.int .i64 a1_0, .int .i64 a1_1, .slice A1_2 l1_2.length c1_2, .slice A1_3 l1_3.length c1_3] 25 (0, 0)) (by (with_reducible repeat (first | refine zn ?_ _ | refine zd ?_ | refine za ?_ _)); refine zF ?_ NB433_455.out _; (with_reducible repeat (first | refine zn ?_ _ | refine zd ?_ | refine za ?_ _)); refine zF ?_ NB433_455.out _; (with_reducible repeat (first | refine zn ?_ _ | refine zd ?_ | refine za ?_ _)); refine zF ?_ NB433_455.out _; (with_reducible repeat (first | refine zn ?_ _ | refine zd ?_ | refine za ?_ _)); refine zF ?_ NB433_455.out _; (with_reducible repeat (first | refine zn ?_ _ | refine zd ?_ | refine za ?_ _)); exact BK433.out) hb); have n5_ := zM (zb (g := gb434) (o := .cells #[.int .i64 a2_0, .int .i64 a2_1, .slice A2_2 l2_2.length c2_2, .slice A2_3 l2_3.length c2_3] 25 (0, 0)) (by (with_reducible repeat (first | refine zn ?_ _ | refine zd ?_ | refine za ?_ _)); refine zF ?_ NB434_455.out _; (with_reducible repeat (first | refine zn ?_ _ | refine zd ?_ | refine za ?_ _)); refine zF ?_ NB434_455.out _; (with_reducible repeat (first | refine zn ?_ _ | refine zd ?_ | refine za ?_ _)); refine zF ?_ NB434_455.out _; (with_reducible repeat (first | refine zn ?_ _ | refine zd ?_ | refine za ?_ _)); refine zF ?_ NB434_455.out _; (with_reducible repeat (first | refine zn ?_ _ | refine zd ?_ | refine za ?_ _)); exact BK434.out) hb); have n6_ := zM (zb (g := gb445) (o := .cells #[.int .i64 t436, .int .i64 t437, .slice Ao36 t438.length co36, .slice Ao37 t441.length co37] 25 (0, 0)) (by (with_reducible repeat (first | refine zn ?_ _ | refine zd ?_ | refine za ?_ _)); refine zF ?_ NB445_455.out _; (with_reducible repeat (first | refine zn ?_ _ | refine zd ?_ | refine za ?_ _)); refine zF ?_ NB445_455.out _; (with_reducible repeat (first | refine zn ?_ _ | refine zd ?_ | refine za ?_ _)); refine zF ?_ NB445_455.out _; (with_reducible repeat (first | refine zn ?_ _ | refine zd ?_ | refine za ?_ _)); refine zF ?_ NB445_455.out _; (with_reducible repeat (first | refine zn ?_ _ | refine zd ?_ | refine za ?_ _)); exact BK445.out) hb); have n7_ := zM (zb (g := gb455) (o := .cells #[.int .i64 t446, .int .i64 t447, .slice Ao44 t448.length co44, .slice Ao45 t451.length co45] 25 (0, 0)) (by (with_reducible repeat (first | refine zn ?_ _ | refine zd ?_ | refine za ?_ _)); refine zP (cs := #[.int .i64 t446, .int .i64 t447, .slice Ao44 t448.length co44, .slice none 0 0]) ?_ 3 _ rfl; (with_reducible repeat (first | refine zn ?_ _ | refine zd ?_ | refine za ?_ _)); refine zP (cs := #[.int .i64 t446, .int .i64 t447, .slice none 0 0, .slice none 0 0]) ?_ 2 _ rfl; (with_reducible repeat (first | refine zn ?_ _ | refine zd ?_ | refine za ?_ _)); refine zP (cs := #[.int .i64 t446, .int .i64 0, .slice none 0 0, .slice none 0 0]) ?_ 1 _ rfl; (with_reducible repeat (first | refine zn ?_ _ | refine zd ?_ | refine za ?_ _)); refine zP (cs := #[.int .i64 0, .int .i64 0, .slice none 0 0, .slice none 0 0]) ?_ 0 _ rfl; (with_reducible repeat (first | refine zn ?_ _ | refine zd ?_ | refine za ?_ _)); exact BK455.out) hb); have n8_ := zM (zp (by repeat (first | (with_reducible first | exact HB.out | apply zL | apply zN | apply zD | refine zJ ?_ GE433.out | refine zJ ?_ GE434.out | refine zJ ?_ GE445.out | refine zJ ?_ GE455.out) | exact HB.out)) hb); clear HO440; clear HO443; clear HO450; clear HO453; clear BK433; clear BK434; clear BK445; clear BK455; clear HB; have HO440 := n0_; have HO443 := n1_; have HO450 := n2_; have HO453 := n3_; have BK433 := n4_; have BK434 := n5_; have BK445 := n6_; have BK455 := n7_; have HB := n8_; clear n0_ n1_ n2_ n3_ n4_ n5_ n6_ n7_ n8_; (try clear hb); (try clear hb2); (try clear hk); (try clear hi)))
          have n0_ := zM (zrd HO440.out)
          have n1_ := zM (Kd.S_drew HO443.out)
          have n2_ := zM (zrd HO450.out)
          have n3_ := zM (Kd.S_drew HO453.out)
          have n4_ := zM (zd BK433.out)
          have n5_ := zM (zd BK434.out)
          have n6_ := zM (zd BK445.out)
          have n7_ := zM (zd BK455.out)
          have n8_ := zM (zD HB.out)
          clear HO440
          clear HO443
          clear HO450
          clear HO453
          clear BK433
          clear BK434
          clear BK445
          clear BK455
          clear HB
          have HO440 := n0_
          have HO443 := n1_
          have HO450 := n2_
          have HO453 := n3_
          have BK433 := n4_
          have BK434 := n5_
          have BK445 := n6_
          have BK455 := n7_
          have HB := n8_
          clear n0_ n1_ n2_ n3_ n4_ n5_ n6_ n7_ n8_
          refine start_ (n := 38) (S := fun w' => w'.cell? ⟨gb433, 0, none⟩ = some (.int .i64 a1_0) ∧ w'.cell? ⟨gb433, 1, none⟩ = some (.int .i64 a1_1) ∧ w'.cell? ⟨gb433, 2, none⟩ = some (.slice A1_2 l1_2.length c1_2) ∧ w'.cell? ⟨gb433, 3, none⟩ = some (.slice A1_3 l1_3.length c1_3) ∧ w'.cell? ⟨gb434, 0, none⟩ = some (.int .i64 a2_0) ∧ w'.cell? ⟨gb434, 1, none⟩ = some (.int .i64 a2_1) ∧ w'.cell? ⟨gb434, 2, none⟩ = some (.slice A2_2 l2_2.length c2_2) ∧ w'.cell? ⟨gb434, 3, none⟩ = some (.slice A2_3 l2_3.length c2_3)) (ds := []) #[false, false, false, false, false, false, false, false, false, false, false, false, false, false, false, false, false, false, false, false, false, false, false, false, false, false, false, false, false, false, false, false, false, false, false, false, false, false] (by kernel_rfl) rfl rfl ⟨(zc BK433.out 0).trans rfl, (zc BK433.out 1).trans rfl, (zc BK433.out 2).trans rfl, (zc BK433.out 3).trans rfl, (zc BK434.out 0).trans rfl, (zc BK434.out 1).trans rfl, (zc BK434.out 2).trans rfl, (zc BK434.out 3).trans rfl⟩ (fun hHeld => ?_); refine with_tabW L16_LaneTells.tab7 L16_LaneTells.bits7 (fun HT_ HW_ => ?_)
          generalize w47.drew = w48 at HO440 HO443 HO450 HO453 BK433 BK434 BK445 BK455 HB hHeld ⊢
          refine pure_ (i := 0) (N := some 36) (v := ?_) (a' := ?_) #[true, false, false, false, false, false, false, false, false, false, false, false, false, false, false, false, false, false, false, false, false, false, false, false, false, false, false, false, false, false, false, false, false, false, false, false, false, false] rfl rfl (any_of HT_.out (by kernel_rfl)) (fun _ _ _ h => h) (Or.inl ⟨by rfl, ?_⟩) ?_ ?_
          rotate_left
          ·intro w'
           go_simp
           with_reducible rfl
          rotate_left
          ·simp only [Act.put, zA, zZ, zS, i64_w, i32_w]
           rfl
          refine pure_ (i := 1) (N := some 37) (v := ?_) (a' := ?_) #[true, true, false, false, false, false, false, false, false, false, false, false, false, false, false, false, false, false, false, false, false, false, false, false, false, false, false, false, false, false, false, false, false, false, false, false, false, false] rfl rfl (any_of HT_.out (by kernel_rfl)) (fun _ _ _ h => h) (Or.inl ⟨by rfl, ?_⟩) ?_ ?_
          rotate_left
          ·intro w'
           go_simp
           with_reducible rfl
          rotate_left
          ·simp only [Act.put, zA, zZ, zS, i64_w, i32_w]
           rfl
          refine pure_ (i := 2) (N := some 38) (v := ?_) (a' := ?_) #[true, true, true, false, false, false, false, false, false, false, false, false, false, false, false, false, false, false, false, false, false, false, false, false, false, false, false, false, false, false, false, false, false, false, false, false, false, false] rfl rfl (any_of HT_.out (by kernel_rfl)) (fun _ _ _ h => h) (Or.inl ⟨by rfl, ?_⟩) ?_ ?_
          rotate_left
          ·intro w'
           go_simp
           with_reducible rfl
          rotate_left
          ·simp only [Act.put, zA, zZ, zS, i64_w, i32_w]
           rfl
          refine pure_ (i := 3) (N := some 39) (v := ?_) (a' := ?_) #[true, true, true, true, false, false, false, false, false, false, false, false, false, false, false, false, false, false, false, false, false, false, false, false, false, false, false, false, false, false, false, false, false, false, false, false, false, false] rfl rfl (any_of HT_.out (by kernel_rfl)) (fun _ _ _ h => h) (Or.inl ⟨by rfl, ?_⟩) ?_ ?_
          rotate_left
          ·intro w'
           go_simp
           with_reducible rfl
          rotate_left
          ·simp only [Act.put, zA, zZ, zS, i64_w, i32_w]
           rfl
          refine pure_ (i := 4) (N := some 40) (v := ?_) (a' := ?_) #[true, true, true, true, true, false, false, false, false, false, false, false, false, false, false, false, false, false, false, false, false, false, false, false, false, false, false, false, false, false, false, false, false, false, false, false, false, false] rfl rfl (any_of HT_.out (by kernel_rfl)) (fun _ _ _ h => h) (Or.inl ⟨by rfl, ?_⟩) ?_ ?_
          rotate_left
          ·intro w'
           go_simp
           with_reducible rfl
          rotate_left
          ·simp only [Act.put, zA, zZ, zS, i64_w, i32_w]
           rfl
          refine pure_ (i := 5) (N := some 41) (v := ?_) (a' := ?_) #[true, true, true, true, true, true, false, false, false, false, false, false, false, false, false, false, false, false, false, false, false, false, false, false, false, false, false, false, false, false, false, false, false, false, false, false, false, false] rfl rfl (any_of HT_.out (by kernel_rfl)) (fun _ _ _ h => h) (Or.inl ⟨by rfl, ?_⟩) ?_ ?_
          rotate_left
          ·intro w'
           go_simp
           with_reducible rfl
          rotate_left
          ·simp only [Act.put, zA, zZ, zS, i64_w, i32_w]
           rfl
          refine pure_ (i := 6) (N := some 42) (v := ?_) (a' := ?_) #[true, true, true, true, true, true, true, false, false, false, false, false, false, false, false, false, false, false, false, false, false, false, false, false, false, false, false, false, false, false, false, false, false, false, false, false, false, false] rfl rfl (any_of HT_.out (by kernel_rfl)) (fun _ _ _ h => h) (Or.inl ⟨by rfl, ?_⟩) ?_ ?_
          rotate_left
          ·intro w'
           go_simp
           with_reducible rfl
          rotate_left
          ·simp only [Act.put, zA, zZ, zS, i64_w, i32_w]
           rfl
          refine pure_ (i := 7) (N := some 43) (v := ?_) (a' := ?_) #[true, true, true, true, true, true, true, true, false, false, false, false, false, false, false, false, false, false, false, false, false, false, false, false, false, false, false, false, false, false, false, false, false, false, false, false, false, false] rfl rfl (any_of HT_.out (by kernel_rfl)) (fun _ _ _ h => h) (Or.inl ⟨by rfl, ?_⟩) ?_ ?_
          rotate_left
          ·intro w'
           go_simp
           with_reducible rfl
          rotate_left
          ·simp only [Act.put, zA, zZ, zS, i64_w, i32_w]
           rfl
          refine pure_ (i := 8) (N := some 44) (v := ?_) (a' := ?_) #[true, true, true, true, true, true, true, true, true, false, false, false, false, false, false, false, false, false, false, false, false, false, false, false, false, false, false, false, false, false, false, false, false, false, false, false, false, false] rfl rfl (any_of HT_.out (by kernel_rfl)) (fun _ _ _ h => h) (Or.inl ⟨by rfl, ?_⟩) ?_ ?_
          rotate_left
          ·intro w'
           go_simp
           with_reducible rfl
          rotate_left
          ·simp only [Act.put, zA, zZ, zS, i64_w, i32_w]
           rfl
          refine pure_ (i := 9) (N := some 45) (v := ?_) (a' := ?_) #[true, true, true, true, true, true, true, true, true, true, false, false, false, false, false, false, false, false, false, false, false, false, false, false, false, false, false, false, false, false, false, false, false, false, false, false, false, false] rfl rfl (any_of HT_.out (by kernel_rfl)) (fun _ _ _ h => h) (Or.inl ⟨by rfl, ?_⟩) ?_ ?_
          rotate_left
          ·intro w'
           go_simp
           with_reducible rfl
          rotate_left
          ·simp only [Act.put, zA, zZ, zS, i64_w, i32_w]
           rfl
          refine take_ (i := 10) (N := some 46) (v := ?_) (a' := ?_) #[true, true, true, true, true, true, true, true, true, true, true, false, false, false, false, false, false, false, false, false, false, false, false, false, false, false, false, false, false, false, false, false, false, false, false, false, false, false] rfl rfl (take_ofW HT_.out HW_.out (by kernel_rfl)) (fun _ _ _ h => h) (Or.inl ⟨by rfl, ?_⟩) hHeld ?_ ?_
          rotate_left
          ·rintro w' ⟨s0, s1, s2, s3, s4, s5, s6, s7⟩
           go_simp
           with_reducible rfl
          rotate_left
          ·simp only [Act.put, zA, zZ, zS, i64_w, i32_w]
           rfl
          refine take_ (i := 12) (N := some 48) (v := ?_) (a' := ?_) #[true, true, true, true, true, true, true, true, true, true, true, false, true, false, false, false, false, false, false, false, false, false, false, false, false, false, false, false, false, false, false, false, false, false, false, false, false, false] rfl rfl (take_ofW HT_.out HW_.out (by kernel_rfl)) (fun _ _ _ h => h) (Or.inl ⟨by rfl, ?_⟩) hHeld ?_ ?_
          rotate_left
          ·rintro w' ⟨s0, s1, s2, s3, s4, s5, s6, s7⟩
           go_simp
           with_reducible rfl
          rotate_left
          ·simp only [Act.put, zA, zZ, zS, i64_w, i32_w]
           rfl
          refine one_ (i := 11) (N := some 47) #[true, true, true, true, true, true, true, true, true, true, true, true, true, false, false, false, false, false, false, false, false, false, false, false, false, false, false, false, false, false, false, false, false, false, false, false, false, false] rfl rfl (one_of HT_.out (by kernel_rfl)) (by decide) (fun K hK => ?_)
          refine goes_ Try.func25 (by kernel_rfl) rfl #[.agg #[.int .i64 a1_0, .int .i64 a1_1, .slice A1_2 l1_2.length c1_2, .slice A1_3 l1_3.length c1_3]] (by rfl) rfl rfl (by (try simp only [List.map_toArray, List.map_cons, List.map_nil]); first | done | rfl) ?_
          with_reducible refine (lane_Right.calls kj4 a1_0 a1_1 _ _ l1_2 _ _ l1_3 t457 _ ?side1 ?side2 ?side3 ?side4 A21.out).mono ?_
          (case side1 => exact (zcb HR1_2.out HB.out))
          (case side2 => exact HC1_2.out)
          (case side3 => exact (zcb HR1_3.out HB.out))
          (case side4 => exact HC1_3.out)
          rintro e w49 ⟨rfl, hb⟩
          refine ⟨_, rfl, ?_⟩
          have n0_ := zM (Kd.R_below (by exact HO440.out) hb)
          have n1_ := zM (Kd.S_below (by (with_reducible repeat (first | apply Kd.S_alloc | apply Kd.S_drewN | apply Kd.S_drew)); exact HO443.out) hb)
          have n2_ := zM (Kd.R_below (by exact HO450.out) hb)
          have n3_ := zM (Kd.S_below (by (with_reducible repeat (first | apply Kd.S_alloc | apply Kd.S_drewN | apply Kd.S_drew)); exact HO453.out) hb)
          have n4_ := zM (zb (g := gb433) (o := .cells #[.int .i64 a1_0, .int .i64 a1_1, .slice A1_2 l1_2.length c1_2, .slice A1_3 l1_3.length c1_3] 25 (0, 0)) (by exact BK433.out) hb)
          have n5_ := zM (zb (g := gb434) (o := .cells #[.int .i64 a2_0, .int .i64 a2_1, .slice A2_2 l2_2.length c2_2, .slice A2_3 l2_3.length c2_3] 25 (0, 0)) (by exact BK434.out) hb)
          have n6_ := zM (zb (g := gb445) (o := .cells #[.int .i64 t436, .int .i64 t437, .slice Ao36 t438.length co36, .slice Ao37 t441.length co37] 25 (0, 0)) (by exact BK445.out) hb)
          have n7_ := zM (zb (g := gb455) (o := .cells #[.int .i64 t446, .int .i64 t447, .slice Ao44 t448.length co44, .slice Ao45 t451.length co45] 25 (0, 0)) (by exact BK455.out) hb)
          have n8_ := zM (zp HB.out hb)
          clear HO440
          clear HO443
          clear HO450
          clear HO453
          clear BK433
          clear BK434
          clear BK445
          clear BK455
          clear HB
          have HO440 := n0_
          have HO443 := n1_
          have HO450 := n2_
          have HO453 := n3_
          have BK433 := n4_
          have BK434 := n5_
          have BK445 := n6_
          have BK455 := n7_
          have HB := n8_
          clear n0_ n1_ n2_ n3_ n4_ n5_ n6_ n7_ n8_
          (try clear hb)
          (try clear hb2)
          (try clear hk)
          (try clear hi)
          refine hK.out _ _ ⟨(zc BK433.out 0).trans rfl, (zc BK433.out 1).trans rfl, (zc BK433.out 2).trans rfl, (zc BK433.out 3).trans rfl, (zc BK434.out 0).trans rfl, (zc BK434.out 1).trans rfl, (zc BK434.out 2).trans rfl, (zc BK434.out 3).trans rfl⟩ (fun hHeld => ?_)
          clear hK K
          refine norm_ (a' := ?_) ?_ ?_
          rotate_left
          ·show Act.put _ (some 47) _ = _
           simp only [Act.put, zA, zZ, zS, i64_w, i32_w]
           rfl
          refine one_ (i := 13) (N := some 49) #[true, true, true, true, true, true, true, true, true, true, true, true, true, true, false, false, false, false, false, false, false, false, false, false, false, false, false, false, false, false, false, false, false, false, false, false, false, false] rfl rfl (one_of HT_.out (by kernel_rfl)) (by decide) (fun K hK => ?_)
          refine goes_ Try.func10 (by kernel_rfl) rfl #[.agg #[.int .i64 a1_0, .int .i64 a1_1, .slice A1_2 l1_2.length c1_2, .slice A1_3 l1_3.length c1_3]] (by rfl) rfl rfl (by (try simp only [List.map_toArray, List.map_cons, List.map_nil]); first | done | rfl) ?_
          with_reducible refine (R16_Right.calls kj4 a1_0 a1_1 _ _ l1_2 _ _ l1_3 t458 _ ?side1 ?side2 ?side3 ?side4 A22.out).mono ?_
          (case side1 => exact (zcb HR1_2.out HB.out))
          (case side2 => exact HC1_2.out)
          (case side3 => exact (zcb HR1_3.out HB.out))
          (case side4 => exact HC1_3.out)
          rintro e w50 ⟨rfl, hb⟩
          refine ⟨_, rfl, ?_⟩
          have n0_ := zM (Kd.R_below (by exact HO440.out) hb)
          have n1_ := zM (Kd.S_below (by (with_reducible repeat (first | apply Kd.S_alloc | apply Kd.S_drewN | apply Kd.S_drew)); exact HO443.out) hb)
          have n2_ := zM (Kd.R_below (by exact HO450.out) hb)
          have n3_ := zM (Kd.S_below (by (with_reducible repeat (first | apply Kd.S_alloc | apply Kd.S_drewN | apply Kd.S_drew)); exact HO453.out) hb)
          have n4_ := zM (zb (g := gb433) (o := .cells #[.int .i64 a1_0, .int .i64 a1_1, .slice A1_2 l1_2.length c1_2, .slice A1_3 l1_3.length c1_3] 25 (0, 0)) (by exact BK433.out) hb)
          have n5_ := zM (zb (g := gb434) (o := .cells #[.int .i64 a2_0, .int .i64 a2_1, .slice A2_2 l2_2.length c2_2, .slice A2_3 l2_3.length c2_3] 25 (0, 0)) (by exact BK434.out) hb)
          have n6_ := zM (zb (g := gb445) (o := .cells #[.int .i64 t436, .int .i64 t437, .slice Ao36 t438.length co36, .slice Ao37 t441.length co37] 25 (0, 0)) (by exact BK445.out) hb)
          have n7_ := zM (zb (g := gb455) (o := .cells #[.int .i64 t446, .int .i64 t447, .slice Ao44 t448.length co44, .slice Ao45 t451.length co45] 25 (0, 0)) (by exact BK455.out) hb)
          have n8_ := zM (zp HB.out hb)
          clear HO440
          clear HO443
          clear HO450
          clear HO453
          clear BK433
          clear BK434
          clear BK445
          clear BK455
          clear HB
          have HO440 := n0_
          have HO443 := n1_
          have HO450 := n2_
          have HO453 := n3_
          have BK433 := n4_
          have BK434 := n5_
          have BK445 := n6_
          have BK455 := n7_
          have HB := n8_
          clear n0_ n1_ n2_ n3_ n4_ n5_ n6_ n7_ n8_
          (try clear hb)
          (try clear hb2)
          (try clear hk)
          (try clear hi)
          refine hK.out _ _ ⟨(zc BK433.out 0).trans rfl, (zc BK433.out 1).trans rfl, (zc BK433.out 2).trans rfl, (zc BK433.out 3).trans rfl, (zc BK434.out 0).trans rfl, (zc BK434.out 1).trans rfl, (zc BK434.out 2).trans rfl, (zc BK434.out 3).trans rfl⟩ (fun hHeld => ?_)
          clear hK K
          refine norm_ (a' := ?_) ?_ ?_
          rotate_left
          ·show Act.put _ (some 49) _ = _
           simp only [Act.put, zA, zZ, zS, i64_w, i32_w]
           rfl
          refine pure_ (i := 14) (N := some 50) (v := ?_) (a' := ?_) #[true, true, true, true, true, true, true, true, true, true, true, true, true, true, true, false, false, false, false, false, false, false, false, false, false, false, false, false, false, false, false, false, false, false, false, false, false, false] rfl rfl (any_of HT_.out (by kernel_rfl)) (fun _ _ _ h => h) (Or.inl ⟨by rfl, ?_⟩) ?_ ?_
          rotate_left
          ·intro w'
           go_simp
           with_reducible rfl
          rotate_left
          ·simp only [Act.put, zA, zZ, zS, i64_w, i32_w]
           rfl
          refine pure_ (i := 15) (N := some 51) (v := ?_) (a' := ?_) #[true, true, true, true, true, true, true, true, true, true, true, true, true, true, true, true, false, false, false, false, false, false, false, false, false, false, false, false, false, false, false, false, false, false, false, false, false, false] rfl rfl (any_of HT_.out (by kernel_rfl)) (fun _ _ _ h => h) (Or.inl ⟨by rfl, ?_⟩) ?_ ?_
          rotate_left
          ·intro w'
           go_simp
           with_reducible rfl
          rotate_left
          ·simp only [Act.put, zA, zZ, zS, i64_w, i32_w]
           rfl
          refine pure_ (i := 16) (N := some 52) (v := ?_) (a' := ?_) #[true, true, true, true, true, true, true, true, true, true, true, true, true, true, true, true, true, false, false, false, false, false, false, false, false, false, false, false, false, false, false, false, false, false, false, false, false, false] rfl rfl (any_of HT_.out (by kernel_rfl)) (fun _ _ _ h => h) (Or.inl ⟨by rfl, ?_⟩) ?_ ?_
          rotate_left
          ·intro w'
           go_simp
           with_reducible rfl
          rotate_left
          ·simp only [Act.put, zA, zZ, zS, i64_w, i32_w]
           rfl
          refine take_ (i := 17) (N := some 53) (v := ?_) (a' := ?_) #[true, true, true, true, true, true, true, true, true, true, true, true, true, true, true, true, true, true, false, false, false, false, false, false, false, false, false, false, false, false, false, false, false, false, false, false, false, false] rfl rfl (take_ofW HT_.out HW_.out (by kernel_rfl)) (fun _ _ _ h => h) (Or.inl ⟨by rfl, ?_⟩) hHeld ?_ ?_
          rotate_left
          ·rintro w' ⟨s0, s1, s2, s3, s4, s5, s6, s7⟩
           go_simp
           with_reducible rfl
          rotate_left
          ·simp only [Act.put, zA, zZ, zS, i64_w, i32_w]
           rfl
          refine take_ (i := 19) (N := some 55) (v := ?_) (a' := ?_) #[true, true, true, true, true, true, true, true, true, true, true, true, true, true, true, true, true, true, false, true, false, false, false, false, false, false, false, false, false, false, false, false, false, false, false, false, false, false] rfl rfl (take_ofW HT_.out HW_.out (by kernel_rfl)) (fun _ _ _ h => h) (Or.inl ⟨by rfl, ?_⟩) hHeld ?_ ?_
          rotate_left
          ·rintro w' ⟨s0, s1, s2, s3, s4, s5, s6, s7⟩
           go_simp
           with_reducible rfl
          rotate_left
          ·simp only [Act.put, zA, zZ, zS, i64_w, i32_w]
           rfl
          refine one_ (i := 18) (N := some 54) #[true, true, true, true, true, true, true, true, true, true, true, true, true, true, true, true, true, true, true, true, false, false, false, false, false, false, false, false, false, false, false, false, false, false, false, false, false, false] rfl rfl (one_of HT_.out (by kernel_rfl)) (by decide) (fun K hK => ?_)
          refine goes_ Try.func26 (by kernel_rfl) rfl #[.agg #[.int .i64 a1_0, .int .i64 a1_1, .slice A1_2 l1_2.length c1_2, .slice A1_3 l1_3.length c1_3]] (by rfl) rfl rfl (by (try simp only [List.map_toArray, List.map_cons, List.map_nil]); first | done | rfl) ?_
          with_reducible refine (lane_Full.calls a1_0 a1_1 _ _ l1_2 _ _ l1_3 t459 _ ?side1 ?side2 ?side3 ?side4 A24.out).mono ?_
          (case side1 => exact (zcb HR1_2.out HB.out))
          (case side2 => exact HC1_2.out)
          (case side3 => exact (zcb HR1_3.out HB.out))
          (case side4 => exact HC1_3.out)
          rintro e w51 ⟨rfl, hb⟩
          refine ⟨_, rfl, ?_⟩
          have n0_ := zM (Kd.R_below (by exact HO440.out) hb)
          have n1_ := zM (Kd.S_below (by (with_reducible repeat (first | apply Kd.S_alloc | apply Kd.S_drewN | apply Kd.S_drew)); exact HO443.out) hb)
          have n2_ := zM (Kd.R_below (by exact HO450.out) hb)
          have n3_ := zM (Kd.S_below (by (with_reducible repeat (first | apply Kd.S_alloc | apply Kd.S_drewN | apply Kd.S_drew)); exact HO453.out) hb)
          have n4_ := zM (zb (g := gb433) (o := .cells #[.int .i64 a1_0, .int .i64 a1_1, .slice A1_2 l1_2.length c1_2, .slice A1_3 l1_3.length c1_3] 25 (0, 0)) (by exact BK433.out) hb)
          have n5_ := zM (zb (g := gb434) (o := .cells #[.int .i64 a2_0, .int .i64 a2_1, .slice A2_2 l2_2.length c2_2, .slice A2_3 l2_3.length c2_3] 25 (0, 0)) (by exact BK434.out) hb)
          have n6_ := zM (zb (g := gb445) (o := .cells #[.int .i64 t436, .int .i64 t437, .slice Ao36 t438.length co36, .slice Ao37 t441.length co37] 25 (0, 0)) (by exact BK445.out) hb)
          have n7_ := zM (zb (g := gb455) (o := .cells #[.int .i64 t446, .int .i64 t447, .slice Ao44 t448.length co44, .slice Ao45 t451.length co45] 25 (0, 0)) (by exact BK455.out) hb)
          have n8_ := zM (zp HB.out hb)
          clear HO440
          clear HO443
          clear HO450
          clear HO453
          clear BK433
          clear BK434
          clear BK445
          clear BK455
          clear HB
          have HO440 := n0_
          have HO443 := n1_
          have HO450 := n2_
          have HO453 := n3_
          have BK433 := n4_
          have BK434 := n5_
          have BK445 := n6_
          have BK455 := n7_
          have HB := n8_
          clear n0_ n1_ n2_ n3_ n4_ n5_ n6_ n7_ n8_
          (try clear hb)
          (try clear hb2)
          (try clear hk)
          (try clear hi)
          refine hK.out _ _ ⟨(zc BK433.out 0).trans rfl, (zc BK433.out 1).trans rfl, (zc BK433.out 2).trans rfl, (zc BK433.out 3).trans rfl, (zc BK434.out 0).trans rfl, (zc BK434.out 1).trans rfl, (zc BK434.out 2).trans rfl, (zc BK434.out 3).trans rfl⟩ (fun hHeld => ?_)
          clear hK K
          refine norm_ (a' := ?_) ?_ ?_
          rotate_left
          ·show Act.put _ (some 54) _ = _
           simp only [Act.put, zA, zZ, zS, i64_w, i32_w]
           rfl
          refine one_ (i := 20) (N := some 56) #[true, true, true, true, true, true, true, true, true, true, true, true, true, true, true, true, true, true, true, true, true, false, false, false, false, false, false, false, false, false, false, false, false, false, false, false, false, false] rfl rfl (one_of HT_.out (by kernel_rfl)) (by decide) (fun K hK => ?_)
          refine goes_ Try.func27 (by kernel_rfl) rfl #[.agg #[.int .i64 a1_0, .int .i64 a1_1, .slice A1_2 l1_2.length c1_2, .slice A1_3 l1_3.length c1_3]] (by rfl) rfl rfl (by (try simp only [List.map_toArray, List.map_cons, List.map_nil]); first | done | rfl) ?_
          with_reducible refine (R16_Full.calls a1_0 a1_1 _ _ l1_2 _ _ l1_3 t460 _ ?side1 ?side2 ?side3 ?side4 A25.out).mono ?_
          (case side1 => exact (zcb HR1_2.out HB.out))
          (case side2 => exact HC1_2.out)
          (case side3 => exact (zcb HR1_3.out HB.out))
          (case side4 => exact HC1_3.out)
          rintro e w52 ⟨rfl, hb⟩
          refine ⟨_, rfl, ?_⟩
          have n0_ := zM (Kd.R_below (by exact HO440.out) hb)
          have n1_ := zM (Kd.S_below (by (with_reducible repeat (first | apply Kd.S_alloc | apply Kd.S_drewN | apply Kd.S_drew)); exact HO443.out) hb)
          have n2_ := zM (Kd.R_below (by exact HO450.out) hb)
          have n3_ := zM (Kd.S_below (by (with_reducible repeat (first | apply Kd.S_alloc | apply Kd.S_drewN | apply Kd.S_drew)); exact HO453.out) hb)
          have n4_ := zM (zb (g := gb433) (o := .cells #[.int .i64 a1_0, .int .i64 a1_1, .slice A1_2 l1_2.length c1_2, .slice A1_3 l1_3.length c1_3] 25 (0, 0)) (by exact BK433.out) hb)
          have n5_ := zM (zb (g := gb434) (o := .cells #[.int .i64 a2_0, .int .i64 a2_1, .slice A2_2 l2_2.length c2_2, .slice A2_3 l2_3.length c2_3] 25 (0, 0)) (by exact BK434.out) hb)
          have n6_ := zM (zb (g := gb445) (o := .cells #[.int .i64 t436, .int .i64 t437, .slice Ao36 t438.length co36, .slice Ao37 t441.length co37] 25 (0, 0)) (by exact BK445.out) hb)
          have n7_ := zM (zb (g := gb455) (o := .cells #[.int .i64 t446, .int .i64 t447, .slice Ao44 t448.length co44, .slice Ao45 t451.length co45] 25 (0, 0)) (by exact BK455.out) hb)
          have n8_ := zM (zp HB.out hb)
          clear HO440
          clear HO443
          clear HO450
          clear HO453
          clear BK433
          clear BK434
          clear BK445
          clear BK455
          clear HB
          have HO440 := n0_
          have HO443 := n1_
          have HO450 := n2_
          have HO453 := n3_
          have BK433 := n4_
          have BK434 := n5_
          have BK445 := n6_
          have BK455 := n7_
          have HB := n8_
          clear n0_ n1_ n2_ n3_ n4_ n5_ n6_ n7_ n8_
          (try clear hb)
          (try clear hb2)
          (try clear hk)
          (try clear hi)
          refine hK.out _ _ ⟨(zc BK433.out 0).trans rfl, (zc BK433.out 1).trans rfl, (zc BK433.out 2).trans rfl, (zc BK433.out 3).trans rfl, (zc BK434.out 0).trans rfl, (zc BK434.out 1).trans rfl, (zc BK434.out 2).trans rfl, (zc BK434.out 3).trans rfl⟩ (fun hHeld => ?_)
          clear hK K
          refine norm_ (a' := ?_) ?_ ?_
          rotate_left
          ·show Act.put _ (some 56) _ = _
           simp only [Act.put, zA, zZ, zS, i64_w, i32_w]
           rfl
          refine pure_ (i := 21) (N := some 57) (v := ?_) (a' := ?_) #[true, true, true, true, true, true, true, true, true, true, true, true, true, true, true, true, true, true, true, true, true, true, false, false, false, false, false, false, false, false, false, false, false, false, false, false, false, false] rfl rfl (any_of HT_.out (by kernel_rfl)) (fun _ _ _ h => h) (Or.inl ⟨by rfl, ?_⟩) ?_ ?_
          rotate_left
          ·intro w'
           go_simp
           with_reducible rfl
          rotate_left
          ·simp only [Act.put, zA, zZ, zS, i64_w, i32_w]
           rfl
          refine pure_ (i := 22) (N := some 58) (v := ?_) (a' := ?_) #[true, true, true, true, true, true, true, true, true, true, true, true, true, true, true, true, true, true, true, true, true, true, true, false, false, false, false, false, false, false, false, false, false, false, false, false, false, false] rfl rfl (any_of HT_.out (by kernel_rfl)) (fun _ _ _ h => h) (Or.inl ⟨by rfl, ?_⟩) ?_ ?_
          rotate_left
          ·intro w'
           go_simp
           with_reducible rfl
          rotate_left
          ·simp only [Act.put, zA, zZ, zS, i64_w, i32_w]
           rfl
          refine pure_ (i := 23) (N := some 59) (v := ?_) (a' := ?_) #[true, true, true, true, true, true, true, true, true, true, true, true, true, true, true, true, true, true, true, true, true, true, true, true, false, false, false, false, false, false, false, false, false, false, false, false, false, false] rfl rfl (any_of HT_.out (by kernel_rfl)) (fun _ _ _ h => h) (Or.inl ⟨by rfl, ?_⟩) ?_ ?_
          rotate_left
          ·intro w'
           go_simp
           with_reducible rfl
          rotate_left
          ·simp only [Act.put, zA, zZ, zS, i64_w, i32_w]
           rfl
          refine take_ (i := 24) (N := some 60) (v := ?_) (a' := ?_) #[true, true, true, true, true, true, true, true, true, true, true, true, true, true, true, true, true, true, true, true, true, true, true, true, true, false, false, false, false, false, false, false, false, false, false, false, false, false] rfl rfl (take_ofW HT_.out HW_.out (by kernel_rfl)) (fun _ _ _ h => h) (Or.inl ⟨by rfl, ?_⟩) hHeld ?_ ?_
          rotate_left
          ·rintro w' ⟨s0, s1, s2, s3, s4, s5, s6, s7⟩
           go_simp
           with_reducible rfl
          rotate_left
          ·simp only [Act.put, zA, zZ, zS, i64_w, i32_w]
           rfl
          refine take_ (i := 25) (N := some 61) (v := ?_) (a' := ?_) #[true, true, true, true, true, true, true, true, true, true, true, true, true, true, true, true, true, true, true, true, true, true, true, true, true, true, false, false, false, false, false, false, false, false, false, false, false, false] rfl rfl (take_ofW HT_.out HW_.out (by kernel_rfl)) (fun _ _ _ h => h) (Or.inl ⟨by rfl, ?_⟩) hHeld ?_ ?_
          rotate_left
          ·rintro w' ⟨s0, s1, s2, s3, s4, s5, s6, s7⟩
           go_simp
           with_reducible rfl
          rotate_left
          ·simp only [Act.put, zA, zZ, zS, i64_w, i32_w]
           rfl
          refine take_ (i := 27) (N := some 63) (v := ?_) (a' := ?_) #[true, true, true, true, true, true, true, true, true, true, true, true, true, true, true, true, true, true, true, true, true, true, true, true, true, true, false, true, false, false, false, false, false, false, false, false, false, false] rfl rfl (take_ofW HT_.out HW_.out (by kernel_rfl)) (fun _ _ _ h => h) (Or.inl ⟨by rfl, ?_⟩) hHeld ?_ ?_
          rotate_left
          ·rintro w' ⟨s0, s1, s2, s3, s4, s5, s6, s7⟩
           go_simp
           with_reducible rfl
          rotate_left
          ·simp only [Act.put, zA, zZ, zS, i64_w, i32_w]
           rfl
          refine take_ (i := 28) (N := some 64) (v := ?_) (a' := ?_) #[true, true, true, true, true, true, true, true, true, true, true, true, true, true, true, true, true, true, true, true, true, true, true, true, true, true, false, true, true, false, false, false, false, false, false, false, false, false] rfl rfl (take_ofW HT_.out HW_.out (by kernel_rfl)) (fun _ _ _ h => h) (Or.inl ⟨by rfl, ?_⟩) hHeld ?_ ?_
          rotate_left
          ·rintro w' ⟨s0, s1, s2, s3, s4, s5, s6, s7⟩
           go_simp
           with_reducible rfl
          rotate_left
          ·simp only [Act.put, zA, zZ, zS, i64_w, i32_w]
           rfl
          refine one_ (i := 26) (N := some 62) #[true, true, true, true, true, true, true, true, true, true, true, true, true, true, true, true, true, true, true, true, true, true, true, true, true, true, true, true, true, false, false, false, false, false, false, false, false, false] rfl rfl (one_of HT_.out (by kernel_rfl)) (by decide) (fun K hK => ?_)
          refine goes_ Try.func28 (by kernel_rfl) rfl #[.agg #[.int .i64 a1_0, .int .i64 a1_1, .slice A1_2 l1_2.length c1_2, .slice A1_3 l1_3.length c1_3], .agg #[.int .i64 a2_0, .int .i64 a2_1, .slice A2_2 l2_2.length c2_2, .slice A2_3 l2_3.length c2_3]] (by rfl) rfl rfl (by (try simp only [List.map_toArray, List.map_cons, List.map_nil]); first | done | rfl) ?_
          with_reducible refine (lane_Same.calls kj4 a1_0 a1_1 _ _ l1_2 _ _ l1_3 a2_0 a2_1 _ _ l2_2 _ _ l2_3 t461 _ ?side1 ?side2 ?side3 ?side4 ?side5 ?side6 ?side7 ?side8 A27.out).mono ?_
          (case side1 => exact (zcb HR1_2.out HB.out))
          (case side2 => exact HC1_2.out)
          (case side3 => exact (zcb HR1_3.out HB.out))
          (case side4 => exact HC1_3.out)
          (case side5 => exact (zcb HR2_2.out HB.out))
          (case side6 => exact HC2_2.out)
          (case side7 => exact (zcb HR2_3.out HB.out))
          (case side8 => exact HC2_3.out)
          rintro e w53 ⟨rfl, hb⟩
          refine ⟨_, rfl, ?_⟩
          have n0_ := zM (Kd.R_below (by exact HO440.out) hb)
          have n1_ := zM (Kd.S_below (by (with_reducible repeat (first | apply Kd.S_alloc | apply Kd.S_drewN | apply Kd.S_drew)); exact HO443.out) hb)
          have n2_ := zM (Kd.R_below (by exact HO450.out) hb)
          have n3_ := zM (Kd.S_below (by (with_reducible repeat (first | apply Kd.S_alloc | apply Kd.S_drewN | apply Kd.S_drew)); exact HO453.out) hb)
          have n4_ := zM (zb (g := gb433) (o := .cells #[.int .i64 a1_0, .int .i64 a1_1, .slice A1_2 l1_2.length c1_2, .slice A1_3 l1_3.length c1_3] 25 (0, 0)) (by exact BK433.out) hb)
          have n5_ := zM (zb (g := gb434) (o := .cells #[.int .i64 a2_0, .int .i64 a2_1, .slice A2_2 l2_2.length c2_2, .slice A2_3 l2_3.length c2_3] 25 (0, 0)) (by exact BK434.out) hb)
          have n6_ := zM (zb (g := gb445) (o := .cells #[.int .i64 t436, .int .i64 t437, .slice Ao36 t438.length co36, .slice Ao37 t441.length co37] 25 (0, 0)) (by exact BK445.out) hb)
          have n7_ := zM (zb (g := gb455) (o := .cells #[.int .i64 t446, .int .i64 t447, .slice Ao44 t448.length co44, .slice Ao45 t451.length co45] 25 (0, 0)) (by exact BK455.out) hb)
          have n8_ := zM (zp HB.out hb)
          clear HO440
          clear HO443
          clear HO450
          clear HO453
          clear BK433
          clear BK434
          clear BK445
          clear BK455
          clear HB
          have HO440 := n0_
          have HO443 := n1_
          have HO450 := n2_
          have HO453 := n3_
          have BK433 := n4_
          have BK434 := n5_
          have BK445 := n6_
          have BK455 := n7_
          have HB := n8_
          clear n0_ n1_ n2_ n3_ n4_ n5_ n6_ n7_ n8_
          (try clear hb)
          (try clear hb2)
          (try clear hk)
          (try clear hi)
          refine hK.out _ _ ⟨(zc BK433.out 0).trans rfl, (zc BK433.out 1).trans rfl, (zc BK433.out 2).trans rfl, (zc BK433.out 3).trans rfl, (zc BK434.out 0).trans rfl, (zc BK434.out 1).trans rfl, (zc BK434.out 2).trans rfl, (zc BK434.out 3).trans rfl⟩ (fun hHeld => ?_)
          clear hK K
          refine norm_ (a' := ?_) ?_ ?_
          rotate_left
          ·show Act.put _ (some 62) _ = _
           simp only [Act.put, zA, zZ, zS, i64_w, i32_w]
           rfl
          refine one_ (i := 29) (N := some 65) #[true, true, true, true, true, true, true, true, true, true, true, true, true, true, true, true, true, true, true, true, true, true, true, true, true, true, true, true, true, true, false, false, false, false, false, false, false, false] rfl rfl (one_of HT_.out (by kernel_rfl)) (by decide) (fun K hK => ?_)
          refine goes_ Try.func21 (by kernel_rfl) rfl #[.agg #[.int .i64 a1_0, .int .i64 a1_1, .slice A1_2 l1_2.length c1_2, .slice A1_3 l1_3.length c1_3], .agg #[.int .i64 a2_0, .int .i64 a2_1, .slice A2_2 l2_2.length c2_2, .slice A2_3 l2_3.length c2_3]] (by rfl) rfl rfl (by (try simp only [List.map_toArray, List.map_cons, List.map_nil]); first | done | rfl) ?_
          with_reducible refine (R16_Same.calls kj4 a1_0 a1_1 _ _ l1_2 _ _ l1_3 a2_0 a2_1 _ _ l2_2 _ _ l2_3 t462 _ ?side1 ?side2 ?side3 ?side4 ?side5 ?side6 ?side7 ?side8 A28.out).mono ?_
          (case side1 => exact (zcb HR1_2.out HB.out))
          (case side2 => exact HC1_2.out)
          (case side3 => exact (zcb HR1_3.out HB.out))
          (case side4 => exact HC1_3.out)
          (case side5 => exact (zcb HR2_2.out HB.out))
          (case side6 => exact HC2_2.out)
          (case side7 => exact (zcb HR2_3.out HB.out))
          (case side8 => exact HC2_3.out)
          rintro e w54 ⟨rfl, hb⟩
          refine ⟨_, rfl, ?_⟩
          have n0_ := zM (Kd.R_below (by exact HO440.out) hb)
          have n1_ := zM (Kd.S_below (by (with_reducible repeat (first | apply Kd.S_alloc | apply Kd.S_drewN | apply Kd.S_drew)); exact HO443.out) hb)
          have n2_ := zM (Kd.R_below (by exact HO450.out) hb)
          have n3_ := zM (Kd.S_below (by (with_reducible repeat (first | apply Kd.S_alloc | apply Kd.S_drewN | apply Kd.S_drew)); exact HO453.out) hb)
          have n4_ := zM (zb (g := gb433) (o := .cells #[.int .i64 a1_0, .int .i64 a1_1, .slice A1_2 l1_2.length c1_2, .slice A1_3 l1_3.length c1_3] 25 (0, 0)) (by exact BK433.out) hb)
          have n5_ := zM (zb (g := gb434) (o := .cells #[.int .i64 a2_0, .int .i64 a2_1, .slice A2_2 l2_2.length c2_2, .slice A2_3 l2_3.length c2_3] 25 (0, 0)) (by exact BK434.out) hb)
          have n6_ := zM (zb (g := gb445) (o := .cells #[.int .i64 t436, .int .i64 t437, .slice Ao36 t438.length co36, .slice Ao37 t441.length co37] 25 (0, 0)) (by exact BK445.out) hb)
          have n7_ := zM (zb (g := gb455) (o := .cells #[.int .i64 t446, .int .i64 t447, .slice Ao44 t448.length co44, .slice Ao45 t451.length co45] 25 (0, 0)) (by exact BK455.out) hb)
          have n8_ := zM (zp HB.out hb)
          clear HO440
          clear HO443
          clear HO450
          clear HO453
          clear BK433
          clear BK434
          clear BK445
          clear BK455
          clear HB
          have HO440 := n0_
          have HO443 := n1_
          have HO450 := n2_
          have HO453 := n3_
          have BK433 := n4_
          have BK434 := n5_
          have BK445 := n6_
          have BK455 := n7_
          have HB := n8_
          clear n0_ n1_ n2_ n3_ n4_ n5_ n6_ n7_ n8_
          (try clear hb)
          (try clear hb2)
          (try clear hk)
          (try clear hi)
          refine hK.out _ _ ⟨(zc BK433.out 0).trans rfl, (zc BK433.out 1).trans rfl, (zc BK433.out 2).trans rfl, (zc BK433.out 3).trans rfl, (zc BK434.out 0).trans rfl, (zc BK434.out 1).trans rfl, (zc BK434.out 2).trans rfl, (zc BK434.out 3).trans rfl⟩ (fun hHeld => ?_)
          clear hK K
          refine norm_ (a' := ?_) ?_ ?_
          rotate_left
          ·show Act.put _ (some 65) _ = _
           simp only [Act.put, zA, zZ, zS, i64_w, i32_w]
           rfl
          refine pure_ (i := 30) (N := some 66) (v := ?_) (a' := ?_) #[true, true, true, true, true, true, true, true, true, true, true, true, true, true, true, true, true, true, true, true, true, true, true, true, true, true, true, true, true, true, true, false, false, false, false, false, false, false] rfl rfl (any_of HT_.out (by kernel_rfl)) (fun _ _ _ h => h) (Or.inl ⟨by rfl, ?_⟩) ?_ ?_
          rotate_left
          ·intro w'
           go_simp
           with_reducible rfl
          rotate_left
          ·simp only [Act.put, zA, zZ, zS, i64_w, i32_w]
           rfl
          refine pure_ (i := 31) (N := some 67) (v := ?_) (a' := ?_) #[true, true, true, true, true, true, true, true, true, true, true, true, true, true, true, true, true, true, true, true, true, true, true, true, true, true, true, true, true, true, true, true, false, false, false, false, false, false] rfl rfl (any_of HT_.out (by kernel_rfl)) (fun _ _ _ h => h) (Or.inl ⟨by rfl, ?_⟩) ?_ ?_
          rotate_left
          ·intro w'
           go_simp
           with_reducible rfl
          rotate_left
          ·simp only [Act.put, zA, zZ, zS, i64_w, i32_w]
           rfl
          refine pure_ (i := 32) (N := some 68) (v := ?_) (a' := ?_) #[true, true, true, true, true, true, true, true, true, true, true, true, true, true, true, true, true, true, true, true, true, true, true, true, true, true, true, true, true, true, true, true, true, false, false, false, false, false] rfl rfl (any_of HT_.out (by kernel_rfl)) (fun _ _ _ h => h) (Or.inl ⟨by rfl, ?_⟩) ?_ ?_
          rotate_left
          ·intro w'
           go_simp
           with_reducible rfl
          rotate_left
          ·simp only [Act.put, zA, zZ, zS, i64_w, i32_w]
           rfl
          refine take_ (i := 33) (N := some 69) (v := ?_) (a' := ?_) #[true, true, true, true, true, true, true, true, true, true, true, true, true, true, true, true, true, true, true, true, true, true, true, true, true, true, true, true, true, true, true, true, true, true, false, false, false, false] rfl rfl (take_ofW HT_.out HW_.out (by kernel_rfl)) (fun _ _ _ h => h) (Or.inl ⟨by rfl, ?_⟩) hHeld ?_ ?_
          rotate_left
          ·rintro w' ⟨s0, s1, s2, s3, s4, s5, s6, s7⟩
           go_simp
           with_reducible rfl
          rotate_left
          ·simp only [Act.put, zA, zZ, zS, i64_w, i32_w]
           rfl
          refine take_ (i := 34) (N := some 70) (v := ?_) (a' := ?_) #[true, true, true, true, true, true, true, true, true, true, true, true, true, true, true, true, true, true, true, true, true, true, true, true, true, true, true, true, true, true, true, true, true, true, true, false, false, false] rfl rfl (take_ofW HT_.out HW_.out (by kernel_rfl)) (fun _ _ _ h => h) (Or.inl ⟨by rfl, ?_⟩) hHeld ?_ ?_
          rotate_left
          ·rintro w' ⟨s0, s1, s2, s3, s4, s5, s6, s7⟩
           go_simp
           with_reducible rfl
          rotate_left
          ·simp only [Act.put, zA, zZ, zS, i64_w, i32_w]
           rfl
          refine one_ (i := 35) (N := some 71) #[true, true, true, true, true, true, true, true, true, true, true, true, true, true, true, true, true, true, true, true, true, true, true, true, true, true, true, true, true, true, true, true, true, true, true, true, false, false] rfl rfl (one_of HT_.out (by kernel_rfl)) (by decide) (fun K hK => ?_)
          refine goes_ Try.func28 (by kernel_rfl) rfl #[.agg #[.int .i64 a1_0, .int .i64 a1_1, .slice A1_2 l1_2.length c1_2, .slice A1_3 l1_3.length c1_3], .agg #[.int .i64 a1_0, .int .i64 a1_1, .slice A1_2 l1_2.length c1_2, .slice A1_3 l1_3.length c1_3]] (by rfl) rfl rfl (by (try simp only [List.map_toArray, List.map_cons, List.map_nil]); first | done | rfl) ?_
          with_reducible refine (lane_Same.calls kj4 a1_0 a1_1 _ _ l1_2 _ _ l1_3 a1_0 a1_1 _ _ l1_2 _ _ l1_3 t463 _ ?side1 ?side2 ?side3 ?side4 ?side5 ?side6 ?side7 ?side8 A30.out).mono ?_
          (case side1 => exact (zcb HR1_2.out HB.out))
          (case side2 => exact HC1_2.out)
          (case side3 => exact (zcb HR1_3.out HB.out))
          (case side4 => exact HC1_3.out)
          (case side5 => exact (zcb HR1_2.out HB.out))
          (case side6 => exact HC1_2.out)
          (case side7 => exact (zcb HR1_3.out HB.out))
          (case side8 => exact HC1_3.out)
          rintro e w55 ⟨rfl, hb⟩
          refine ⟨_, rfl, ?_⟩
          have n0_ := zM (Kd.R_below (by exact HO440.out) hb)
          have n1_ := zM (Kd.S_below (by (with_reducible repeat (first | apply Kd.S_alloc | apply Kd.S_drewN | apply Kd.S_drew)); exact HO443.out) hb)
          have n2_ := zM (Kd.R_below (by exact HO450.out) hb)
          have n3_ := zM (Kd.S_below (by (with_reducible repeat (first | apply Kd.S_alloc | apply Kd.S_drewN | apply Kd.S_drew)); exact HO453.out) hb)
          have n4_ := zM (zb (g := gb433) (o := .cells #[.int .i64 a1_0, .int .i64 a1_1, .slice A1_2 l1_2.length c1_2, .slice A1_3 l1_3.length c1_3] 25 (0, 0)) (by exact BK433.out) hb)
          have n5_ := zM (zb (g := gb434) (o := .cells #[.int .i64 a2_0, .int .i64 a2_1, .slice A2_2 l2_2.length c2_2, .slice A2_3 l2_3.length c2_3] 25 (0, 0)) (by exact BK434.out) hb)
          have n6_ := zM (zb (g := gb445) (o := .cells #[.int .i64 t436, .int .i64 t437, .slice Ao36 t438.length co36, .slice Ao37 t441.length co37] 25 (0, 0)) (by exact BK445.out) hb)
          have n7_ := zM (zb (g := gb455) (o := .cells #[.int .i64 t446, .int .i64 t447, .slice Ao44 t448.length co44, .slice Ao45 t451.length co45] 25 (0, 0)) (by exact BK455.out) hb)
          have n8_ := zM (zp HB.out hb)
          clear HO440
          clear HO443
          clear HO450
          clear HO453
          clear BK433
          clear BK434
          clear BK445
          clear BK455
          clear HB
          have HO440 := n0_
          have HO443 := n1_
          have HO450 := n2_
          have HO453 := n3_
          have BK433 := n4_
          have BK434 := n5_
          have BK445 := n6_
          have BK455 := n7_
          have HB := n8_
          clear n0_ n1_ n2_ n3_ n4_ n5_ n6_ n7_ n8_
          (try clear hb)
          (try clear hb2)
          (try clear hk)
          (try clear hi)
          refine hK.out _ _ ⟨(zc BK433.out 0).trans rfl, (zc BK433.out 1).trans rfl, (zc BK433.out 2).trans rfl, (zc BK433.out 3).trans rfl, (zc BK434.out 0).trans rfl, (zc BK434.out 1).trans rfl, (zc BK434.out 2).trans rfl, (zc BK434.out 3).trans rfl⟩ (fun hHeld => ?_)
          clear hK K
          refine norm_ (a' := ?_) ?_ ?_
          rotate_left
          ·show Act.put _ (some 71) _ = _
           simp only [Act.put, zA, zZ, zS, i64_w, i32_w]
           rfl
          refine pure_ (i := 36) (N := some 72) (v := ?_) (a' := ?_) #[true, true, true, true, true, true, true, true, true, true, true, true, true, true, true, true, true, true, true, true, true, true, true, true, true, true, true, true, true, true, true, true, true, true, true, true, true, false] rfl rfl (any_of HT_.out (by kernel_rfl)) (fun _ _ _ h => h) (Or.inl ⟨by rfl, ?_⟩) ?_ ?_
          rotate_left
          ·intro w'
           go_simp
           with_reducible rfl
          rotate_left
          ·simp only [Act.put, zA, zZ, zS, i64_w, i32_w]
           rfl
          refine pure_ (i := 37) (N := some 6) (v := ?_) (a' := ?_) #[true, true, true, true, true, true, true, true, true, true, true, true, true, true, true, true, true, true, true, true, true, true, true, true, true, true, true, true, true, true, true, true, true, true, true, true, true, true] rfl rfl (any_of HT_.out (by kernel_rfl)) (fun _ _ _ h => h) (Or.inl ⟨by rfl, ?_⟩) ?_ ?_
          rotate_left
          ·intro w'
           go_simp
           with_reducible rfl
          rotate_left
          ·simp only [Act.put, zA, zZ, zS, i64_w, i32_w]
           rfl
          refine done_ (done_of HT_.out (by kernel_rfl)) ?_
          try go_wp2
          go_ret
          exact ⟨rfl, by repeat (first | (with_reducible first | exact HB.out | apply zL | apply zN | apply zD | refine zJ ?_ GE433.out | refine zJ ?_ GE434.out | refine zJ ?_ GE445.out | refine zJ ?_ GE455.out) | exact HB.out)⟩
         ·rw [if_neg c29] at H
          have c29b0 : (t461 == t462) = false := by simpa using c29
          (try (have c29b1 : decide (t461 = t462) = false := by simpa using c29))
          (try (have c29b2 : (t461 == t462) = false := by simpa using c29))
          (try (have c29b3 : ¬ (t461 = t462) := by simpa using c29))
          clear c29
          exact absurd ((Option.some.inj H).trans HRT.out) (by decide)
        ·rw [if_neg c26] at H
         have c26b0 : (t459 == t460) = false := by simpa using c26
         (try (have c26b1 : decide (t459 = t460) = false := by simpa using c26))
         (try (have c26b2 : (t459 == t460) = false := by simpa using c26))
         (try (have c26b3 : ¬ (t459 = t460) := by simpa using c26))
         clear c26
         exact absurd ((Option.some.inj H).trans HRT.out) (by decide)
       ·rw [if_neg c23] at H
        have c23b0 : (t457 == t458) = false := by simpa using c23
        (try (have c23b1 : decide (t457 = t458) = false := by simpa using c23))
        (try (have c23b2 : (t457 == t458) = false := by simpa using c23))
        (try (have c23b3 : ¬ (t457 = t458) := by simpa using c23))
        clear c23
        exact absurd ((Option.some.inj H).trans HRT.out) (by decide)
      ·rw [if_neg c20] at H
       have c20b0 : (t444 == t454) = false := beq_eq_false_iff_ne.mpr c20
       have c20b1 : (t444 != t454) = true := bne_iff_ne.mpr c20
       exact absurd ((Option.some.inj H).trans HRT.out) (by decide)
     ·replace c19 := Bool.eq_false_iff.mpr c19
      subst c19
      have H1 : (some false) = some r := by rw [if_neg (show ¬ (false = true) by decide)] at H; exact H
      clear H
      have H := H1
      clear H1
      exact absurd ((Option.some.inj H).trans HRT.out) (by decide)
    ·replace c18 := Bool.eq_false_iff.mpr c18
     subst c18
     have H1 : (some false) = some r := by rw [if_neg (show ¬ (false = true) by decide)] at H; exact H
     clear H
     have H := H1
     clear H1
     exact absurd ((Option.some.inj H).trans HRT.out) (by decide)

end Go.Proofs.Ytldpaoaiapedjaa.Q
