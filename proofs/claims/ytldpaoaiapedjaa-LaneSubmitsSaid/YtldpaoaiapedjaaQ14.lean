/- What Go functions of this seat come to, as plain Lean functions, and the proof that each call does so, in whatever memory; its conditions stand in each theorem. Written by a program of this session (wip/gen), out of the print of the loaded translation. -/
import Derived.Test.YtldpaoaiapedjaaQ0
import Derived.Test.YtldpaoaiapedjaaQ5
import Derived.Test.YtldpaoaiapedjaaQ7
import Derived.Test.YtldpaoaiapedjaaQ8
import Derived.Test.YtldpaoaiapedjaaQ12
import Derived.Test.YtldpaoaiapedjaaQ13
import Derived.Test.YtldpaoaiapedjaaE2
import Derived.Test.YtldpaoaiapedjaaE3
namespace Go.Proofs.Ytldpaoaiapedjaa.Q
open Go.RowKit Go.Proofs.YtldpaoaiapedjaaW.PrintWords Go.Proofs.YtldpaoaiapedjaaW.PrintLast Go.Proofs.YtldpaoaiapedjaaW.PrintMore
attribute [local go_sem] max2_int min2_int max_two min_two max_three min_three max_four min_four   -- for this text's walks alone
set_option linter.unusedVariables false
set_option linter.unusedSimpArgs false
-- shrunk
def mq140 : Array Bool := #[false, false, false, false, false, false, false, false]
def mq141 : Array Bool := #[false, true, false, false, false, false, false, false]
def mq142 : Array Bool := #[false, true, false, false, true, false, false, false]
def mq143 : Array Bool := #[true, true, false, false, true, false, false, false]
def mq144 : Array Bool := #[true, true, false, true, true, false, false, false]
def mq145 : Array Bool := #[true, true, true, true, true, false, false, false]
def mq146 : Array Bool := #[true, true, true, true, true, true, false, false]
def mq147 : Array Bool := #[true, true, true, true, true, true, true, false]
def mq148 : Array Bool := #[true, true, true, true, true, true, true, true]

/-! ### L16_LaneSubmits: function 6 -/
mutual
def L16_LaneSubmits.j0 : Nat → ByteArray → Int → Int → Bool → Bool → Int → Int → List ByteArray → List (S42) → Option (Bool)
 | 0, _, _, _, _, _, _, _, _, _ => none
 | k + 1, x4, x5, x6, x7, x35, x352000, x352001, x352002, x352003 => if x35 = true then (some x7) else ((lane_Submit.f x352000 x352001 x352002 x352003 x4).bind fun bt353 => ((R16_Submit.f x352000 x352001 x352002 x352003 x4).bind fun bt363 => ((lane_Seal.f x352000 x352001 x352002 x352003).bind fun bt373 => ((R16_Seal.f x352000 x352001 x352002 x352003).bind fun bt383 => ((R16_Same.f k bt353.1 bt353.2.1 bt353.2.2.1 bt353.2.2.2.1 bt363.1 bt363.2.1 bt363.2.2.1 bt363.2.2.2.1).bind fun t393 => (if t393 = true then ((R16_Same.f k bt373.1 bt373.2.1 bt373.2.2.1 bt373.2.2.2.1 bt383.1 bt383.2.1 bt383.2.2.1 bt383.2.2.2.1).bind fun t394 => (L16_LaneSubmits.j1 k x5 x6 x7 bt353.2.2.2.2 bt363.2.2.2.2 bt373.2.2.2.2 bt383.2.2.2.2 t394 x352000 x352001 x352002 x352003)) else (L16_LaneSubmits.j1 k x5 x6 x7 bt353.2.2.2.2 bt363.2.2.2.2 bt373.2.2.2.2 bt383.2.2.2.2 false x352000 x352001 x352002 x352003)))))))
def L16_LaneSubmits.j1 : Nat → Int → Int → Bool → Int → Int → Int → Int → Bool → Int → Int → List ByteArray → List (S42) → Option (Bool)
 | 0, _, _, _, _, _, _, _, _, _, _, _, _ => none
 | k + 1, x5, x6, x7, x9, x11, x13, x15, x16, x352000, x352001, x352002, x352003 => (lane_Ordered.f x352000 x352001 x352002 x352003 x5).bind fun bt395 => ((R16_Ordered.f k x352000 x352001 x352002 x352003 x5).bind fun bt403 => ((R16_Same.f k bt395.1 bt395.2.1 bt395.2.2.1 bt395.2.2.2 bt403.1 bt403.2.1 bt403.2.2.1 bt403.2.2.2).bind fun t411 => ((lane_Pick.f x352000 x352001 x352002 x352003 x6).bind fun t412 => ((R16_Pick.f k x352000 x352001 x352002 x352003 x6).bind fun t415 => ((R07_SameAll.f k t412 t415).bind fun t418 => (if x7 = true then (if x16 = true then (if t411 = true then (if t418 = true then (if x9 = x11 then (some (x13 == x15)) else (some false)) else (some false)) else (some false)) else (some false)) else (some false)))))))
end
def L16_LaneSubmits.f (k : Nat) (a0_0 : Int) (a0_1 : Int) (l0_2 : List ByteArray) (l0_3 : List (S42)) (a0_4 : ByteArray) (a0_5 : Int) (a0_6 : Int) : Option (Bool) := (L16_shown.f).bind fun t352 => (if a0_1 > 1099511627776 then (L16_LaneSubmits.j0 k a0_4 a0_5 a0_6 t352 true a0_0 a0_1 l0_2 l0_3) else (L16_LaneSubmits.j0 k a0_4 a0_5 a0_6 t352 (decide (a0_1 < (-1099511627776))) a0_0 a0_1 l0_2 l0_3))
theorem L16_LaneSubmits.mono_l : ∀ k, (∀ y0 y1 y2 y3 y4 y5 y6 y7 y8, LeO (L16_LaneSubmits.j0 k y0 y1 y2 y3 y4 y5 y6 y7 y8) (L16_LaneSubmits.j0 (k + 1) y0 y1 y2 y3 y4 y5 y6 y7 y8)) ∧ (∀ y0 y1 y2 y3 y4 y5 y6 y7 y8 y9 y10 y11, LeO (L16_LaneSubmits.j1 k y0 y1 y2 y3 y4 y5 y6 y7 y8 y9 y10 y11) (L16_LaneSubmits.j1 (k + 1) y0 y1 y2 y3 y4 y5 y6 y7 y8 y9 y10 y11))
 | 0 => ⟨fun _ _ _ _ _ _ _ _ _ r h => by simp [L16_LaneSubmits.j0] at h, fun _ _ _ _ _ _ _ _ _ _ _ _ r h => by simp [L16_LaneSubmits.j1] at h⟩
 | k + 1 => by
  obtain ⟨ih0, ih1⟩ := L16_LaneSubmits.mono_l k
  refine ⟨?_, ?_⟩
  ·intro y0 y1 y2 y3 y4 y5 y6 y7 y8
   unfold L16_LaneSubmits.j0
   repeat' first
   | (with_reducible exact ih0 _ _ _ _ _ _ _ _ _)
   | (with_reducible exact ih1 _ _ _ _ _ _ _ _ _ _ _ _)
   | (with_reducible exact R07_SameAll.mono _ _ _)
   | (with_reducible exact R16_Ordered.mono _ _ _ _ _ _)
   | (with_reducible exact R16_Pick.mono _ _ _ _ _ _)
   | (with_reducible exact R16_Same.mono _ _ _ _ _ _ _ _ _)
   | (with_reducible exact LeO.refl _)
   | (with_reducible exact LeO.none _)
   | (with_reducible refine LeO.ite ?_ ?_)
   | (with_reducible refine LeO.bind ?_ (fun _ => ?_))
   | exact ih0 _ _ _ _ _ _ _ _ _
   | exact ih1 _ _ _ _ _ _ _ _ _ _ _ _
   | exact R07_SameAll.mono _ _ _
   | exact R16_Ordered.mono _ _ _ _ _ _
   | exact R16_Pick.mono _ _ _ _ _ _
   | exact R16_Same.mono _ _ _ _ _ _ _ _ _
   | exact LeO.none _
   | refine LeO.ite ?_ ?_
   | refine LeO.bind ?_ (fun _ => ?_)
  ·intro y0 y1 y2 y3 y4 y5 y6 y7 y8 y9 y10 y11
   unfold L16_LaneSubmits.j1
   repeat' first
   | (with_reducible exact ih0 _ _ _ _ _ _ _ _ _)
   | (with_reducible exact ih1 _ _ _ _ _ _ _ _ _ _ _ _)
   | (with_reducible exact R07_SameAll.mono _ _ _)
   | (with_reducible exact R16_Ordered.mono _ _ _ _ _ _)
   | (with_reducible exact R16_Pick.mono _ _ _ _ _ _)
   | (with_reducible exact R16_Same.mono _ _ _ _ _ _ _ _ _)
   | (with_reducible exact LeO.refl _)
   | (with_reducible exact LeO.none _)
   | (with_reducible refine LeO.ite ?_ ?_)
   | (with_reducible refine LeO.bind ?_ (fun _ => ?_))
   | exact ih0 _ _ _ _ _ _ _ _ _
   | exact ih1 _ _ _ _ _ _ _ _ _ _ _ _
   | exact R07_SameAll.mono _ _ _
   | exact R16_Ordered.mono _ _ _ _ _ _
   | exact R16_Pick.mono _ _ _ _ _ _
   | exact R16_Same.mono _ _ _ _ _ _ _ _ _
   | exact LeO.none _
   | refine LeO.ite ?_ ?_
   | refine LeO.bind ?_ (fun _ => ?_)
theorem L16_LaneSubmits.mono : ∀ a0 a1 a2 a3 a4 a5 a6 k, LeO (L16_LaneSubmits.f k a0 a1 a2 a3 a4 a5 a6) (L16_LaneSubmits.f (k + 1) a0 a1 a2 a3 a4 a5 a6) := by
 intro a0 a1 a2 a3 a4 a5 a6 k
 obtain ⟨ih0, ih1⟩ := L16_LaneSubmits.mono_l k
 unfold L16_LaneSubmits.f
 repeat' first
   | (with_reducible exact ih0 _ _ _ _ _ _ _ _ _)
   | (with_reducible exact ih1 _ _ _ _ _ _ _ _ _ _ _ _)
   | (with_reducible exact R07_SameAll.mono _ _ _)
   | (with_reducible exact R16_Ordered.mono _ _ _ _ _ _)
   | (with_reducible exact R16_Pick.mono _ _ _ _ _ _)
   | (with_reducible exact R16_Same.mono _ _ _ _ _ _ _ _ _)
   | (with_reducible exact LeO.refl _)
   | (with_reducible exact LeO.none _)
   | (with_reducible refine LeO.ite ?_ ?_)
   | (with_reducible refine LeO.bind ?_ (fun _ => ?_))
   | exact ih0 _ _ _ _ _ _ _ _ _
   | exact ih1 _ _ _ _ _ _ _ _ _ _ _ _
   | exact R07_SameAll.mono _ _ _
   | exact R16_Ordered.mono _ _ _ _ _ _
   | exact R16_Pick.mono _ _ _ _ _ _
   | exact R16_Same.mono _ _ _ _ _ _ _ _ _
   | exact LeO.none _
   | refine LeO.ite ?_ ?_
   | refine LeO.bind ?_ (fun _ => ?_)
def L16_LaneSubmits.T13 : Bool × List (List Nat × List Nat) := (true, [([], []), ([], []), ([0, 1], [0, 1]), ([], []), ([], []), ([3, 4, 2], [3, 4]), ([2, 5, 5], [2, 5]), ([6, 6, 0, 1, 2, 3, 4, 5, 6], [6])])
def L16_LaneSubmits.B13 : List Nat := [0, 0, 3, 0, 0, 31, 63, 127]
theorem L16_LaneSubmits.tab13 : rtab .any (opsOf Try.f6 13) = L16_LaneSubmits.T13 := by kernel_rfl
theorem L16_LaneSubmits.bits13 : waitsOk L16_LaneSubmits.T13.2 L16_LaneSubmits.B13 = true := by kernel_rfl
def L16_LaneSubmits.T14 : Bool × List (List Nat × List Nat) := (true, [([], []), ([], []), ([0, 1], [0, 1]), ([], []), ([], []), ([3, 4, 2], [3, 4]), ([2, 5, 5], [2, 5]), ([6, 6, 0, 1, 2, 3, 4, 5, 6], [6])])
def L16_LaneSubmits.B14 : List Nat := [0, 0, 3, 0, 0, 31, 63, 127]
theorem L16_LaneSubmits.tab14 : rtab .any (opsOf Try.f6 14) = L16_LaneSubmits.T14 := by kernel_rfl
theorem L16_LaneSubmits.bits14 : waitsOk L16_LaneSubmits.T14.2 L16_LaneSubmits.B14 = true := by kernel_rfl
set_option maxHeartbeats 8000000 in
set_option maxRecDepth 100000 in
theorem L16_LaneSubmits.calls (k : Nat) (a0_0 : Int) (a0_1 : Int) (A0_2 : Option Addr) (c0_2 : Nat) (l0_2 : List ByteArray) (A0_3 : Option Addr) (c0_3 : Nat) (l0_3 : List (S42)) (a0_4 : ByteArray) (a0_5 : Int) (a0_6 : Int) (r : Bool) (w : World) (hr0_2 : Kd.C Kd.string w A0_2 l0_2.length l0_2) (hc0_2 : l0_2.length ≤ c0_2) (hr0_3 : Kd.C k42 w A0_3 l0_3.length l0_3) (hc0_3 : l0_3.length ≤ c0_3) (hrt : r = true) (h : L16_LaneSubmits.f k a0_0 a0_1 l0_2 l0_3 a0_4 a0_5 a0_6 = some r) :
  Calls Try.prog 6 #[.agg #[.int .i64 a0_0, .int .i64 a0_1, .slice A0_2 l0_2.length c0_2, .slice A0_3 l0_3.length c0_3, .string a0_4, .int .i64 a0_5, .int .i64 a0_6]] w fun e w' => e = .returned (.bool r) ∧ Below w.heap.size w w' := by
 have hu46 := Try.underlying46
 have hu25 := Try.underlying25
 have HR0_2 := zM hr0_2
 have HC0_2 := zM hc0_2
 clear hr0_2 hc0_2
 have HR0_3 := zM hr0_3
 have HC0_3 := zM hc0_3
 clear hr0_3 hc0_3
 have HRT := zM hrt
 clear hrt
 have HB := zM (Below.refl w.heap.size w)
 have H : ((L16_shown.f).bind fun t352 => (if a0_1 > 1099511627776 then (L16_LaneSubmits.j0 k a0_4 a0_5 a0_6 t352 true a0_0 a0_1 l0_2 l0_3) else (L16_LaneSubmits.j0 k a0_4 a0_5 a0_6 t352 (decide (a0_1 < (-1099511627776))) a0_0 a0_1 l0_2 l0_3))) = some r := h
 clear h
 replace H := Option.bind_eq_some_iff.mp H
 obtain ⟨t352, A20, H⟩ := H
 replace H : (if a0_1 > 1099511627776 then (L16_LaneSubmits.j0 k a0_4 a0_5 a0_6 t352 true a0_0 a0_1 l0_2 l0_3) else (L16_LaneSubmits.j0 k a0_4 a0_5 a0_6 t352 (decide (a0_1 < (-1099511627776))) a0_0 a0_1 l0_2 l0_3)) = some r := H
 have A2 := zM A20
 clear A20
 have HC3 := zM H
 clear H
 go_enter Try.func6, Try.ntmps6
 go_upto_region 6 with (first | ((with_reducible refine gate_dst (N := 1) rfl ?_); refine box_event ?hg (N := 1) ?hd (cs := #[.int .i64 a0_0, .int .i64 a0_1, .slice A0_2 l0_2.length c0_2, .slice A0_3 l0_3.length c0_3, .string a0_4, .int .i64 a0_5, .int .i64 a0_6]) (t := 46) ?hr ?_; (case hd => rfl); (case hg => rfl); (case hr => first | (go_simp; done) | (go_simp; rfl)); intro gb350 hg w4 hbox hb; have n0_ := zM (zp (by repeat (first | (with_reducible first | exact HB.out | apply zL | apply zN | apply zD) | exact HB.out)) hb); have n1_ := zM (hbox); have n2_ := zM ((by rw [hg]; exact (zs (by repeat (first | (with_reducible first | exact HB.out | apply zL | apply zN | apply zD) | exact HB.out))) : w.heap.size ≤ gb350)); have n3_ := zM ((by rw [hg]; exact (zs (by repeat (first | (with_reducible first | exact HB.out | apply zL | apply zN | apply zD) | exact HB.out))) : w.heap.size ≤ gb350)); clear HB; have HB := n0_; have BK350 := n1_; have GW350 := n2_; have GE350 := n3_; clear n0_ n1_ n2_ n3_; clear hb hbox hg; have hcz5_0 : w4.cell? ⟨gb350, 0, none⟩ = some (.int .i64 a0_0) := (zc BK350.out 0).trans rfl; have hcz5_1 : w4.cell? ⟨gb350, 1, none⟩ = some (.int .i64 a0_1) := (zc BK350.out 1).trans rfl; have hcz5_2 : w4.cell? ⟨gb350, 2, none⟩ = some (.slice A0_2 l0_2.length c0_2) := (zc BK350.out 2).trans rfl; have hcz5_3 : w4.cell? ⟨gb350, 3, none⟩ = some (.slice A0_3 l0_3.length c0_3) := (zc BK350.out 3).trans rfl; have hcz5_4 : w4.cell? ⟨gb350, 4, none⟩ = some (.string a0_4) := (zc BK350.out 4).trans rfl; have hcz5_5 : w4.cell? ⟨gb350, 5, none⟩ = some (.int .i64 a0_5) := (zc BK350.out 5).trans rfl; have hcz5_6 : w4.cell? ⟨gb350, 6, none⟩ = some (.int .i64 a0_6) := (zc BK350.out 6).trans rfl; have hfz5_0 := zf BK350.out 0; have hfz5_1 := zf BK350.out 1; have hfz5_2 := zf BK350.out 2; have hfz5_3 := zf BK350.out 3; have hfz5_4 := zf BK350.out 4; have hfz5_5 := zf BK350.out 5; have hfz5_6 := zf BK350.out 6) | ((with_reducible refine gate_dst (N := 3) rfl ?_); refine box_event ?hg (N := 3) ?hd (cs := #[.int .i64 0, .int .i64 0, .slice none 0 0, .slice none 0 0]) (t := 25) ?hr ?_; (case hd => rfl); (case hg => rfl); (case hr => first | (go_simp; done) | (go_simp; rfl)); intro gb351 hg w6 hbox hb; have n0_ := zM (zb (g := gb350) (o := .cells #[.int .i64 a0_0, .int .i64 a0_1, .slice A0_2 l0_2.length c0_2, .slice A0_3 l0_3.length c0_3, .string a0_4, .int .i64 a0_5, .int .i64 a0_6] 46 (0, 0)) (by (with_reducible repeat (first | refine zn ?_ _ | refine zd ?_ | refine za ?_ _)); exact BK350.out) hb); have n1_ := zM (zp (by repeat (first | (with_reducible first | exact HB.out | apply zL | apply zN | apply zD | refine zJ ?_ GE350.out) | exact HB.out)) hb); have n2_ := zM (hbox); have n3_ := zM ((by rw [hg]; exact (zs (by repeat (first | (with_reducible first | exact HB.out | apply zL | apply zN | apply zD | refine zJ ?_ GE350.out) | exact HB.out))) : w.heap.size ≤ gb351)); have n4_ := zM ((by rw [hg]; exact (zs (by repeat (first | (with_reducible first | exact HB.out | apply zL | apply zN | apply zD | refine zJ ?_ GE350.out) | exact HB.out))) : w.heap.size ≤ gb351)); have n5_ := zM ((by rw [hg]; exact zt (blk_lt (g := gb350) (o := .cells #[.int .i64 a0_0, .int .i64 a0_1, .slice A0_2 l0_2.length c0_2, .slice A0_3 l0_3.length c0_3, .string a0_4, .int .i64 a0_5, .int .i64 a0_6] 46 (0, 0)) (by (with_reducible repeat (first | refine zn ?_ _ | refine zd ?_ | refine za ?_ _)); exact BK350.out)) : gb350 ≠ gb351)); have n6_ := zM ((by rw [hg]; exact Nat.ne_of_gt (blk_lt (g := gb350) (o := .cells #[.int .i64 a0_0, .int .i64 a0_1, .slice A0_2 l0_2.length c0_2, .slice A0_3 l0_3.length c0_3, .string a0_4, .int .i64 a0_5, .int .i64 a0_6] 46 (0, 0)) (by (with_reducible repeat (first | refine zn ?_ _ | refine zd ?_ | refine za ?_ _)); exact BK350.out)) : gb351 ≠ gb350)); clear BK350; clear HB; have BK350 := n0_; have HB := n1_; have BK351 := n2_; have GW351 := n3_; have GE351 := n4_; have NB350_351 := n5_; have NB351_350 := n6_; clear n0_ n1_ n2_ n3_ n4_ n5_ n6_; clear hb hbox hg; have hnb7 := NB351_350.out; have hnc7 := NB350_351.out; have hcz8_0 : w6.cell? ⟨gb351, 0, none⟩ = some (.int .i64 0) := (zc BK351.out 0).trans rfl; have hcz8_1 : w6.cell? ⟨gb351, 1, none⟩ = some (.int .i64 0) := (zc BK351.out 1).trans rfl; have hcz8_2 : w6.cell? ⟨gb351, 2, none⟩ = some (.slice none 0 0) := (zc BK351.out 2).trans rfl; have hcz8_3 : w6.cell? ⟨gb351, 3, none⟩ = some (.slice none 0 0) := (zc BK351.out 3).trans rfl; have hfz8_0 := zf BK351.out 0; have hfz8_1 := zf BK351.out 1; have hfz8_2 := zf BK351.out 2; have hfz8_3 := zf BK351.out 3; have hcz9_0 : w6.cell? ⟨gb350, 0, none⟩ = some (.int .i64 a0_0) := (zc BK350.out 0).trans rfl; have hcz9_1 : w6.cell? ⟨gb350, 1, none⟩ = some (.int .i64 a0_1) := (zc BK350.out 1).trans rfl; have hcz9_2 : w6.cell? ⟨gb350, 2, none⟩ = some (.slice A0_2 l0_2.length c0_2) := (zc BK350.out 2).trans rfl; have hcz9_3 : w6.cell? ⟨gb350, 3, none⟩ = some (.slice A0_3 l0_3.length c0_3) := (zc BK350.out 3).trans rfl; have hcz9_4 : w6.cell? ⟨gb350, 4, none⟩ = some (.string a0_4) := (zc BK350.out 4).trans rfl; have hcz9_5 : w6.cell? ⟨gb350, 5, none⟩ = some (.int .i64 a0_5) := (zc BK350.out 5).trans rfl; have hcz9_6 : w6.cell? ⟨gb350, 6, none⟩ = some (.int .i64 a0_6) := (zc BK350.out 6).trans rfl; have hfz9_0 := zf BK350.out 0; have hfz9_1 := zf BK350.out 1; have hfz9_2 := zf BK350.out 2; have hfz9_3 := zf BK350.out 3; have hfz9_4 := zf BK350.out 4; have hfz9_5 := zf BK350.out 5; have hfz9_6 := zf BK350.out 6) | ((with_reducible refine gate_callee (f := 9) rfl ?_); refine goesL_ (some 27) rfl rfl Try.func9 (by kernel_rfl) rfl #[] rfl (by (try simp only [List.map_toArray, List.map_cons, List.map_nil]); first | done | rfl | (simp only [List.length_drop, List.length_take]; rfl)) ?_; (with_reducible refine (L16_shown.calls  t352 _ A2.out).mono ?_); rintro e w10 ⟨rfl, hb⟩; refine ⟨_, rfl, ?_⟩; have n0_ := zM (zb (g := gb350) (o := .cells #[.int .i64 a0_0, .int .i64 a0_1, .slice A0_2 l0_2.length c0_2, .slice A0_3 l0_3.length c0_3, .string a0_4, .int .i64 a0_5, .int .i64 a0_6] 46 (0, 0)) (by (with_reducible repeat (first | refine zn ?_ _ | refine zd ?_ | refine za ?_ _)); refine zF ?_ NB350_351.out _; (with_reducible repeat (first | refine zn ?_ _ | refine zd ?_ | refine za ?_ _)); refine zF ?_ NB350_351.out _; (with_reducible repeat (first | refine zn ?_ _ | refine zd ?_ | refine za ?_ _)); refine zF ?_ NB350_351.out _; (with_reducible repeat (first | refine zn ?_ _ | refine zd ?_ | refine za ?_ _)); refine zF ?_ NB350_351.out _; (with_reducible repeat (first | refine zn ?_ _ | refine zd ?_ | refine za ?_ _)); exact BK350.out) hb); have n1_ := zM (zb (g := gb351) (o := .cells #[.int .i64 a0_0, .int .i64 a0_1, .slice A0_2 l0_2.length c0_2, .slice A0_3 l0_3.length c0_3] 25 (0, 0)) (by (with_reducible repeat (first | refine zn ?_ _ | refine zd ?_ | refine za ?_ _)); refine zP (cs := #[.int .i64 a0_0, .int .i64 a0_1, .slice A0_2 l0_2.length c0_2, .slice none 0 0]) ?_ 3 _ rfl; (with_reducible repeat (first | refine zn ?_ _ | refine zd ?_ | refine za ?_ _)); refine zP (cs := #[.int .i64 a0_0, .int .i64 a0_1, .slice none 0 0, .slice none 0 0]) ?_ 2 _ rfl; (with_reducible repeat (first | refine zn ?_ _ | refine zd ?_ | refine za ?_ _)); refine zP (cs := #[.int .i64 a0_0, .int .i64 0, .slice none 0 0, .slice none 0 0]) ?_ 1 _ rfl; (with_reducible repeat (first | refine zn ?_ _ | refine zd ?_ | refine za ?_ _)); refine zP (cs := #[.int .i64 0, .int .i64 0, .slice none 0 0, .slice none 0 0]) ?_ 0 _ rfl; (with_reducible repeat (first | refine zn ?_ _ | refine zd ?_ | refine za ?_ _)); exact BK351.out) hb); have n2_ := zM (zp (by repeat (first | (with_reducible first | exact HB.out | apply zL | apply zN | apply zD | refine zJ ?_ GE350.out | refine zJ ?_ GE351.out) | exact HB.out)) hb); clear BK350; clear BK351; clear HB; have BK350 := n0_; have BK351 := n1_; have HB := n2_; clear n0_ n1_ n2_; (try clear hb); (try clear hb2); (try clear hk); (try clear hi)))
 (try simp only [Act.put, zA, zZ, zS])
 go_cut [35] (fun v35 wc => ∃ (kq : Nat) (x35_2 : Bool), v35 = .bool x35_2 ∧ Aside0 (L16_LaneSubmits.j0 kq a0_4 a0_5 a0_6 t352 x35_2 a0_0 a0_1 l0_2 l0_3 = some r) ∧ Aside0 (kq ≤ k) ∧ Aside0 (wc.heap[gb350]? = some (.cells #[.int .i64 a0_0, .int .i64 a0_1, (.slice A0_2 l0_2.length c0_2), (.slice A0_3 l0_3.length c0_3), .string a0_4, .int .i64 a0_5, .int .i64 a0_6] 46 (0, 0))) ∧ Aside0 (wc.heap[gb351]? = some (.cells #[.int .i64 a0_0, .int .i64 a0_1, (.slice A0_2 l0_2.length c0_2), (.slice A0_3 l0_3.length c0_3)] 25 (0, 0))) ∧ Aside0 (Below w.heap.size w wc))
 case first =>
  have H := HC3.out
  clear HC3
  by_cases c11 : a0_1 > 1099511627776
  ·rw [if_pos c11] at H
   have c11b0 : decide (1099511627776 < a0_1) = true := decide_eq_true c11
   clear c11
   (first | rw [c11b0] | (simp only [i64_w, i32_w]; rw [c11b0]) | skip)
   have H' := zM H
   clear H
   have hnb12 := NB351_350.out
   have hnc12 := NB350_351.out
   have hcz13_0 : w10.cell? ⟨gb351, 0, none⟩ = some (.int .i64 a0_0) := (zc BK351.out 0).trans rfl
   have hcz13_1 : w10.cell? ⟨gb351, 1, none⟩ = some (.int .i64 a0_1) := (zc BK351.out 1).trans rfl
   have hcz13_2 : w10.cell? ⟨gb351, 2, none⟩ = some (.slice A0_2 l0_2.length c0_2) := (zc BK351.out 2).trans rfl
   have hcz13_3 : w10.cell? ⟨gb351, 3, none⟩ = some (.slice A0_3 l0_3.length c0_3) := (zc BK351.out 3).trans rfl
   have hfz13_0 := zf BK351.out 0
   have hfz13_1 := zf BK351.out 1
   have hfz13_2 := zf BK351.out 2
   have hfz13_3 := zf BK351.out 3
   go_wp2
   go_meet
   case rel => exact ⟨_, (true), (by first | rfl | (simp; done) | (simp [*]; done)), H', ⟨by first | omega | exact Nat.le_refl _⟩, ⟨by (with_reducible repeat (first | refine zn ?_ _ | refine zd ?_ | refine za ?_ _)); exact BK350.out⟩, ⟨by (with_reducible repeat (first | refine zn ?_ _ | refine zd ?_ | refine za ?_ _)); exact BK351.out⟩, ⟨by repeat (first | (with_reducible first | exact HB.out | apply zL | apply zN | apply zD | refine zJ ?_ GE350.out | refine zJ ?_ GE351.out) | exact HB.out)⟩⟩
  ·rw [if_neg c11] at H
   have c11b0 : decide (1099511627776 < a0_1) = false := decide_eq_false c11
   clear c11
   (first | rw [c11b0] | (simp only [i64_w, i32_w]; rw [c11b0]) | skip)
   have H' := zM H
   clear H
   have hnb14 := NB351_350.out
   have hnc14 := NB350_351.out
   have hcz15_0 : w10.cell? ⟨gb351, 0, none⟩ = some (.int .i64 a0_0) := (zc BK351.out 0).trans rfl
   have hcz15_1 : w10.cell? ⟨gb351, 1, none⟩ = some (.int .i64 a0_1) := (zc BK351.out 1).trans rfl
   have hcz15_2 : w10.cell? ⟨gb351, 2, none⟩ = some (.slice A0_2 l0_2.length c0_2) := (zc BK351.out 2).trans rfl
   have hcz15_3 : w10.cell? ⟨gb351, 3, none⟩ = some (.slice A0_3 l0_3.length c0_3) := (zc BK351.out 3).trans rfl
   have hfz15_0 := zf BK351.out 0
   have hfz15_1 := zf BK351.out 1
   have hfz15_2 := zf BK351.out 2
   have hfz15_3 := zf BK351.out 3
   go_wp2
   go_meet
   case rel => exact ⟨_, (decide (a0_1 < (-1099511627776))), (by first | rfl | (simp; done) | (simp [*]; done)), H', ⟨by first | omega | exact Nat.le_refl _⟩, ⟨by (with_reducible repeat (first | refine zn ?_ _ | refine zd ?_ | refine za ?_ _)); exact BK350.out⟩, ⟨by (with_reducible repeat (first | refine zn ?_ _ | refine zd ?_ | refine za ?_ _)); exact BK351.out⟩, ⟨by repeat (first | (with_reducible first | exact HB.out | apply zL | apply zN | apply zD | refine zJ ?_ GE350.out | refine zJ ?_ GE351.out) | exact HB.out)⟩⟩
 case rest =>
  clear HC3
  try clear c1
  try clear p2
  try clear c6
  try clear c7
  try clear c9
  try clear c11
  try clear c11b0
  try clear c12
  try clear c14
  try clear hcz13_0
  try clear hcz13_1
  try clear hcz13_2
  try clear hcz13_3
  try clear hcz15_0
  try clear hcz15_1
  try clear hcz15_2
  try clear hcz15_3
  try clear hcz5_0
  try clear hcz5_1
  try clear hcz5_2
  try clear hcz5_3
  try clear hcz5_4
  try clear hcz5_5
  try clear hcz5_6
  try clear hcz8_0
  try clear hcz8_1
  try clear hcz8_2
  try clear hcz8_3
  try clear hcz9_0
  try clear hcz9_1
  try clear hcz9_2
  try clear hcz9_3
  try clear hcz9_4
  try clear hcz9_5
  try clear hcz9_6
  try clear hfz13_0
  try clear hfz13_1
  try clear hfz13_2
  try clear hfz13_3
  try clear hfz15_0
  try clear hfz15_1
  try clear hfz15_2
  try clear hfz15_3
  try clear hfz5_0
  try clear hfz5_1
  try clear hfz5_2
  try clear hfz5_3
  try clear hfz5_4
  try clear hfz5_5
  try clear hfz5_6
  try clear hfz8_0
  try clear hfz8_1
  try clear hfz8_2
  try clear hfz8_3
  try clear hfz9_0
  try clear hfz9_1
  try clear hfz9_2
  try clear hfz9_3
  try clear hfz9_4
  try clear hfz9_5
  try clear hfz9_6
  obtain ⟨kq, x35_2, rfl, HA, HJ2, BK350, BK351, HB⟩ := hcut
  cases kq with
  | zero => exact absurd HA.out (by simp [L16_LaneSubmits.j0])
  | succ kj2 =>
   have H := HA.out
   clear HA
   simp only [L16_LaneSubmits.j0] at H
   by_cases c16 : x35_2 = true
   ·subst c16
    have H1 : (some t352) = some r := by rw [if_pos rfl] at H; exact H
    clear H
    have H := H1
    clear H1
    obtain rfl := Option.some.inj H
    go_wp2
    go_ret
    exact ⟨by first | rfl | (simp [errW_none, errW_some] <;> rfl) | (simp [*, errW_none, errW_some] <;> rfl), by repeat (first | (with_reducible first | exact HB.out | apply zL | apply zN | apply zD | refine zJ ?_ GE350.out | refine zJ ?_ GE351.out) | exact HB.out)⟩
   ·replace c16 := Bool.eq_false_iff.mpr c16
    subst c16
    have H1 : ((lane_Submit.f a0_0 a0_1 l0_2 l0_3 a0_4).bind fun bt353 => ((R16_Submit.f a0_0 a0_1 l0_2 l0_3 a0_4).bind fun bt363 => ((lane_Seal.f a0_0 a0_1 l0_2 l0_3).bind fun bt373 => ((R16_Seal.f a0_0 a0_1 l0_2 l0_3).bind fun bt383 => ((R16_Same.f kj2 bt353.1 bt353.2.1 bt353.2.2.1 bt353.2.2.2.1 bt363.1 bt363.2.1 bt363.2.2.1 bt363.2.2.2.1).bind fun t393 => (if t393 = true then ((R16_Same.f kj2 bt373.1 bt373.2.1 bt373.2.2.1 bt373.2.2.2.1 bt383.1 bt383.2.1 bt383.2.2.1 bt383.2.2.2.1).bind fun t394 => (L16_LaneSubmits.j1 kj2 a0_5 a0_6 t352 bt353.2.2.2.2 bt363.2.2.2.2 bt373.2.2.2.2 bt383.2.2.2.2 t394 a0_0 a0_1 l0_2 l0_3)) else (L16_LaneSubmits.j1 kj2 a0_5 a0_6 t352 bt353.2.2.2.2 bt363.2.2.2.2 bt373.2.2.2.2 bt383.2.2.2.2 false a0_0 a0_1 l0_2 l0_3))))))) = some r := by rw [if_neg (show ¬ (false = true) by decide)] at H; exact H
    clear H
    have H := H1
    clear H1
    replace H := Option.bind_eq_some_iff.mp H
    obtain ⟨⟨t353, t354, t355, t358, t361⟩, A170, H⟩ := H
    replace H : ((R16_Submit.f a0_0 a0_1 l0_2 l0_3 a0_4).bind fun bt363 => ((lane_Seal.f a0_0 a0_1 l0_2 l0_3).bind fun bt373 => ((R16_Seal.f a0_0 a0_1 l0_2 l0_3).bind fun bt383 => ((R16_Same.f kj2 t353 t354 t355 t358 bt363.1 bt363.2.1 bt363.2.2.1 bt363.2.2.2.1).bind fun t393 => (if t393 = true then ((R16_Same.f kj2 bt373.1 bt373.2.1 bt373.2.2.1 bt373.2.2.2.1 bt383.1 bt383.2.1 bt383.2.2.1 bt383.2.2.2.1).bind fun t394 => (L16_LaneSubmits.j1 kj2 a0_5 a0_6 t352 t361 bt363.2.2.2.2 bt373.2.2.2.2 bt383.2.2.2.2 t394 a0_0 a0_1 l0_2 l0_3)) else (L16_LaneSubmits.j1 kj2 a0_5 a0_6 t352 t361 bt363.2.2.2.2 bt373.2.2.2.2 bt383.2.2.2.2 false a0_0 a0_1 l0_2 l0_3)))))) = some r := H
    have A17 := zM A170
    clear A170
    replace H := Option.bind_eq_some_iff.mp H
    obtain ⟨⟨t363, t364, t365, t368, t371⟩, A180, H⟩ := H
    replace H : ((lane_Seal.f a0_0 a0_1 l0_2 l0_3).bind fun bt373 => ((R16_Seal.f a0_0 a0_1 l0_2 l0_3).bind fun bt383 => ((R16_Same.f kj2 t353 t354 t355 t358 t363 t364 t365 t368).bind fun t393 => (if t393 = true then ((R16_Same.f kj2 bt373.1 bt373.2.1 bt373.2.2.1 bt373.2.2.2.1 bt383.1 bt383.2.1 bt383.2.2.1 bt383.2.2.2.1).bind fun t394 => (L16_LaneSubmits.j1 kj2 a0_5 a0_6 t352 t361 t371 bt373.2.2.2.2 bt383.2.2.2.2 t394 a0_0 a0_1 l0_2 l0_3)) else (L16_LaneSubmits.j1 kj2 a0_5 a0_6 t352 t361 t371 bt373.2.2.2.2 bt383.2.2.2.2 false a0_0 a0_1 l0_2 l0_3))))) = some r := H
    have A18 := zM A180
    clear A180
    replace H := Option.bind_eq_some_iff.mp H
    obtain ⟨⟨t373, t374, t375, t378, t381⟩, A190, H⟩ := H
    replace H : ((R16_Seal.f a0_0 a0_1 l0_2 l0_3).bind fun bt383 => ((R16_Same.f kj2 t353 t354 t355 t358 t363 t364 t365 t368).bind fun t393 => (if t393 = true then ((R16_Same.f kj2 t373 t374 t375 t378 bt383.1 bt383.2.1 bt383.2.2.1 bt383.2.2.2.1).bind fun t394 => (L16_LaneSubmits.j1 kj2 a0_5 a0_6 t352 t361 t371 t381 bt383.2.2.2.2 t394 a0_0 a0_1 l0_2 l0_3)) else (L16_LaneSubmits.j1 kj2 a0_5 a0_6 t352 t361 t371 t381 bt383.2.2.2.2 false a0_0 a0_1 l0_2 l0_3)))) = some r := H
    have A19 := zM A190
    clear A190
    replace H := Option.bind_eq_some_iff.mp H
    obtain ⟨⟨t383, t384, t385, t388, t391⟩, A200, H⟩ := H
    replace H : ((R16_Same.f kj2 t353 t354 t355 t358 t363 t364 t365 t368).bind fun t393 => (if t393 = true then ((R16_Same.f kj2 t373 t374 t375 t378 t383 t384 t385 t388).bind fun t394 => (L16_LaneSubmits.j1 kj2 a0_5 a0_6 t352 t361 t371 t381 t391 t394 a0_0 a0_1 l0_2 l0_3)) else (L16_LaneSubmits.j1 kj2 a0_5 a0_6 t352 t361 t371 t381 t391 false a0_0 a0_1 l0_2 l0_3))) = some r := H
    have A20 := zM A200
    clear A200
    have HC21 := zM H
    clear H
    have hnb22 := NB351_350.out
    have hnc22 := NB350_351.out
    have hcz23_0 : wc.cell? ⟨gb351, 0, none⟩ = some (.int .i64 a0_0) := (zc BK351.out 0).trans rfl
    have hcz23_1 : wc.cell? ⟨gb351, 1, none⟩ = some (.int .i64 a0_1) := (zc BK351.out 1).trans rfl
    have hcz23_2 : wc.cell? ⟨gb351, 2, none⟩ = some (.slice A0_2 l0_2.length c0_2) := (zc BK351.out 2).trans rfl
    have hcz23_3 : wc.cell? ⟨gb351, 3, none⟩ = some (.slice A0_3 l0_3.length c0_3) := (zc BK351.out 3).trans rfl
    have hfz23_0 := zf BK351.out 0
    have hfz23_1 := zf BK351.out 1
    have hfz23_2 := zf BK351.out 2
    have hfz23_3 := zf BK351.out 3
    go_upto_region 12 with (first | ((with_reducible refine gate_callee (f := 11) rfl ?_); refine goesL_ (some 40) rfl rfl Try.func11 (by kernel_rfl) rfl #[.agg #[.int .i64 a0_0, .int .i64 a0_1, .slice A0_2 l0_2.length c0_2, .slice A0_3 l0_3.length c0_3], .string a0_4] rfl (by (try simp only [List.map_toArray, List.map_cons, List.map_nil]); first | done | rfl | (simp only [List.length_drop, List.length_take]; rfl)) ?_; (with_reducible refine (lane_Submit.calls a0_0 a0_1 (fun k_ => k_ < w.heap.size) _ _ l0_2 (fun k_ => k_ < w.heap.size) _ _ l0_3 a0_4 t353 t354 t355 t358 t361 _ ?side1 ?side2 A17.out).mono ?_); (case side1 => exact Kd.V_mk HC0_2.out (Kd.F_below (Kd.C_F Kd.heap_string HR0_2.out) (by repeat (first | (with_reducible first | exact HB.out | apply zL | apply zN | apply zD | refine zJ ?_ GE350.out | refine zJ ?_ GE351.out) | exact HB.out)))); (case side2 => exact Kd.V_mk HC0_3.out (Kd.F_below (Kd.C_F k42_heap HR0_3.out) (by repeat (first | (with_reducible first | exact HB.out | apply zL | apply zN | apply zD | refine zJ ?_ GE350.out | refine zJ ?_ GE351.out) | exact HB.out)))); rintro e w24 ⟨v356, v359, rfl, ho0, ho1, hb⟩; refine ⟨_, rfl, ?_⟩; have n0_ := zM (Kd.V_lower (zvm (ok' := fun k_ => k_ ≠ gb350 ∧ k_ ≠ gb351) ho0 (fun k_ hk_ => ⟨Or.elim hk_ (fun hs_ => Or.elim hs_ (fun hs_ => fun e_ => Nat.not_le.2 hs_ (by rw [e_]; exact GW350.out)) (fun hs_ => fun e_ => Nat.not_le.2 hs_ (by rw [e_]; exact GW350.out))) (fun hn_ => (Kd.freshB (g := gb350) (o := .cells #[.int .i64 a0_0, .int .i64 a0_1, .slice A0_2 l0_2.length c0_2, .slice A0_3 l0_3.length c0_3, .string a0_4, .int .i64 a0_5, .int .i64 a0_6] 46 (0, 0)) (by (with_reducible repeat (first | refine zn ?_ _ | refine zd ?_ | refine za ?_ _)); exact BK350.out) k_ hn_)), Or.elim hk_ (fun hs_ => Or.elim hs_ (fun hs_ => fun e_ => Nat.not_le.2 hs_ (by rw [e_]; exact GW351.out)) (fun hs_ => fun e_ => Nat.not_le.2 hs_ (by rw [e_]; exact GW351.out))) (fun hn_ => (Kd.freshB (g := gb351) (o := .cells #[.int .i64 a0_0, .int .i64 a0_1, .slice A0_2 l0_2.length c0_2, .slice A0_3 l0_3.length c0_3] 25 (0, 0)) (by (with_reducible repeat (first | refine zn ?_ _ | refine zd ?_ | refine za ?_ _)); exact BK351.out) k_ hn_))⟩)) (zs (by repeat (first | (with_reducible first | exact HB.out | apply zL | apply zN | apply zD | refine zJ ?_ GE350.out | refine zJ ?_ GE351.out) | exact HB.out)))); have n1_ := zM (Kd.V_lower (zvm (ok' := fun k_ => k_ ≠ gb350 ∧ k_ ≠ gb351) ho1 (fun k_ hk_ => ⟨Or.elim hk_ (fun hs_ => Or.elim hs_ (fun hs_ => fun e_ => Nat.not_le.2 hs_ (by rw [e_]; exact GW350.out)) (fun hs_ => fun e_ => Nat.not_le.2 hs_ (by rw [e_]; exact GW350.out))) (fun hn_ => (Kd.freshB (g := gb350) (o := .cells #[.int .i64 a0_0, .int .i64 a0_1, .slice A0_2 l0_2.length c0_2, .slice A0_3 l0_3.length c0_3, .string a0_4, .int .i64 a0_5, .int .i64 a0_6] 46 (0, 0)) (by (with_reducible repeat (first | refine zn ?_ _ | refine zd ?_ | refine za ?_ _)); exact BK350.out) k_ hn_)), Or.elim hk_ (fun hs_ => Or.elim hs_ (fun hs_ => fun e_ => Nat.not_le.2 hs_ (by rw [e_]; exact GW351.out)) (fun hs_ => fun e_ => Nat.not_le.2 hs_ (by rw [e_]; exact GW351.out))) (fun hn_ => (Kd.freshB (g := gb351) (o := .cells #[.int .i64 a0_0, .int .i64 a0_1, .slice A0_2 l0_2.length c0_2, .slice A0_3 l0_3.length c0_3] 25 (0, 0)) (by (with_reducible repeat (first | refine zn ?_ _ | refine zd ?_ | refine za ?_ _)); exact BK351.out) k_ hn_))⟩)) (zs (by repeat (first | (with_reducible first | exact HB.out | apply zL | apply zN | apply zD | refine zJ ?_ GE350.out | refine zJ ?_ GE351.out) | exact HB.out)))); have n2_ := zM (zb (g := gb350) (o := .cells #[.int .i64 a0_0, .int .i64 a0_1, .slice A0_2 l0_2.length c0_2, .slice A0_3 l0_3.length c0_3, .string a0_4, .int .i64 a0_5, .int .i64 a0_6] 46 (0, 0)) (by (with_reducible repeat (first | refine zn ?_ _ | refine zd ?_ | refine za ?_ _)); exact BK350.out) hb); have n3_ := zM (zb (g := gb351) (o := .cells #[.int .i64 a0_0, .int .i64 a0_1, .slice A0_2 l0_2.length c0_2, .slice A0_3 l0_3.length c0_3] 25 (0, 0)) (by (with_reducible repeat (first | refine zn ?_ _ | refine zd ?_ | refine za ?_ _)); exact BK351.out) hb); have n4_ := zM (zp (by repeat (first | (with_reducible first | exact HB.out | apply zL | apply zN | apply zD | refine zJ ?_ GE350.out | refine zJ ?_ GE351.out) | exact HB.out)) hb); clear BK350; clear BK351; clear HB; have HO357 := n0_; have HO360 := n1_; have BK350 := n2_; have BK351 := n3_; have HB := n4_; clear n0_ n1_ n2_ n3_ n4_; (try clear hb); (try clear hb2); (try clear hk); (try clear hi); (try clear ho0); (try clear ho1)) | ((with_reducible refine gate_dst (N := 8) rfl ?_); refine box_event ?hg (N := 8) ?hd (cs := #[.int .i64 0, .int .i64 0, .slice none 0 0, .slice none 0 0]) (t := 25) ?hr ?_; (case hd => rfl); (case hg => rfl); (case hr => first | (go_simp; done) | (go_simp; rfl)); intro gb362 hg w25 hbox hb; have n0_ := zM (zvb (zve (by (with_reducible repeat (first | apply zva | apply zvn | apply zvd)); exact HO357.out) gb362 (zq hg.symm)) hb); have n1_ := zM (zvb (zve (by (with_reducible repeat (first | apply zva | apply zvn | apply zvd)); exact HO360.out) gb362 (zq hg.symm)) hb); have n2_ := zM (zb (g := gb350) (o := .cells #[.int .i64 a0_0, .int .i64 a0_1, .slice A0_2 l0_2.length c0_2, .slice A0_3 l0_3.length c0_3, .string a0_4, .int .i64 a0_5, .int .i64 a0_6] 46 (0, 0)) (by (with_reducible repeat (first | refine zn ?_ _ | refine zd ?_ | refine za ?_ _)); exact BK350.out) hb); have n3_ := zM (zb (g := gb351) (o := .cells #[.int .i64 a0_0, .int .i64 a0_1, .slice A0_2 l0_2.length c0_2, .slice A0_3 l0_3.length c0_3] 25 (0, 0)) (by (with_reducible repeat (first | refine zn ?_ _ | refine zd ?_ | refine za ?_ _)); exact BK351.out) hb); have n4_ := zM (zp (by repeat (first | (with_reducible first | exact HB.out | apply zL | apply zN | apply zD | refine zJ ?_ GE350.out | refine zJ ?_ GE351.out) | exact HB.out)) hb); have n5_ := zM (hbox); have n6_ := zM ((by rw [hg]; exact (zs (by repeat (first | (with_reducible first | exact HB.out | apply zL | apply zN | apply zD | refine zJ ?_ GE350.out | refine zJ ?_ GE351.out) | exact HB.out))) : w.heap.size ≤ gb362)); have n7_ := zM ((by rw [hg]; exact (zs (by repeat (first | (with_reducible first | exact HB.out | apply zL | apply zN | apply zD | refine zJ ?_ GE350.out | refine zJ ?_ GE351.out) | exact HB.out))) : w.heap.size ≤ gb362)); have n8_ := zM ((by rw [hg]; exact zt (blk_lt (g := gb350) (o := .cells #[.int .i64 a0_0, .int .i64 a0_1, .slice A0_2 l0_2.length c0_2, .slice A0_3 l0_3.length c0_3, .string a0_4, .int .i64 a0_5, .int .i64 a0_6] 46 (0, 0)) (by (with_reducible repeat (first | refine zn ?_ _ | refine zd ?_ | refine za ?_ _)); exact BK350.out)) : gb350 ≠ gb362)); have n9_ := zM ((by rw [hg]; exact Nat.ne_of_gt (blk_lt (g := gb350) (o := .cells #[.int .i64 a0_0, .int .i64 a0_1, .slice A0_2 l0_2.length c0_2, .slice A0_3 l0_3.length c0_3, .string a0_4, .int .i64 a0_5, .int .i64 a0_6] 46 (0, 0)) (by (with_reducible repeat (first | refine zn ?_ _ | refine zd ?_ | refine za ?_ _)); exact BK350.out)) : gb362 ≠ gb350)); have n10_ := zM ((by rw [hg]; exact zt (blk_lt (g := gb351) (o := .cells #[.int .i64 a0_0, .int .i64 a0_1, .slice A0_2 l0_2.length c0_2, .slice A0_3 l0_3.length c0_3] 25 (0, 0)) (by (with_reducible repeat (first | refine zn ?_ _ | refine zd ?_ | refine za ?_ _)); exact BK351.out)) : gb351 ≠ gb362)); have n11_ := zM ((by rw [hg]; exact Nat.ne_of_gt (blk_lt (g := gb351) (o := .cells #[.int .i64 a0_0, .int .i64 a0_1, .slice A0_2 l0_2.length c0_2, .slice A0_3 l0_3.length c0_3] 25 (0, 0)) (by (with_reducible repeat (first | refine zn ?_ _ | refine zd ?_ | refine za ?_ _)); exact BK351.out)) : gb362 ≠ gb351)); clear HO357; clear HO360; clear BK350; clear BK351; clear HB; have HO357 := n0_; have HO360 := n1_; have BK350 := n2_; have BK351 := n3_; have HB := n4_; have BK362 := n5_; have GW362 := n6_; have GE362 := n7_; have NB350_362 := n8_; have NB362_350 := n9_; have NB351_362 := n10_; have NB362_351 := n11_; clear n0_ n1_ n2_ n3_ n4_ n5_ n6_ n7_ n8_ n9_ n10_ n11_; clear hb hbox hg; have hnb26 := NB362_350.out; have hnc26 := NB350_362.out; have hnb27 := NB362_351.out; have hnc27 := NB351_362.out; have hcz28_0 : w25.cell? ⟨gb362, 0, none⟩ = some (.int .i64 0) := (zc BK362.out 0).trans rfl; have hcz28_1 : w25.cell? ⟨gb362, 1, none⟩ = some (.int .i64 0) := (zc BK362.out 1).trans rfl; have hcz28_2 : w25.cell? ⟨gb362, 2, none⟩ = some (.slice none 0 0) := (zc BK362.out 2).trans rfl; have hcz28_3 : w25.cell? ⟨gb362, 3, none⟩ = some (.slice none 0 0) := (zc BK362.out 3).trans rfl; have hfz28_0 := zf BK362.out 0; have hfz28_1 := zf BK362.out 1; have hfz28_2 := zf BK362.out 2; have hfz28_3 := zf BK362.out 3; obtain ⟨Ao29, co29, eo29⟩ := Kd.V_slice HO357.out; subst eo29; obtain ⟨Ao30, co30, eo30⟩ := Kd.V_slice HO360.out; subst eo30) | ((with_reducible refine gate_store (t := 25) (p := 8) rfl ?_); refine store_event (t := 25) (p := 8) (v := ?vo_w31) (w1 := ((((w25.setCell ⟨gb362, 0, none⟩ (.int .i64 t353)).setCell ⟨gb362, 1, none⟩ (.int .i64 t354)).setCell ⟨gb362, 2, none⟩ (.slice Ao29 t355.length co29)).setCell ⟨gb362, 3, none⟩ (.slice Ao30 t358.length co30))) ?hg ?ho ?hn ?hr ?_; (case ho => rfl); (case hg => rfl); (case hn => rfl); (case hr => first | (go_simp; done) | (go_simp; rfl)); intro w31 hw; have n0_ : Aside0 (Kd.V Kd.string 9 w31 w.heap.size (fun k_ => k_ ≠ gb350 ∧ k_ ≠ gb351 ∧ k_ ≠ gb362) (.slice Ao29 t355.length co29) t355) := ⟨(by rw [hw]; exact (by (with_reducible repeat (first | apply zva | apply zvn | apply zvd)); exact zvm (zvf (p := ⟨gb362, 3, none⟩) (zvf (p := ⟨gb362, 2, none⟩) (zvf (p := ⟨gb362, 1, none⟩) (zvf (p := ⟨gb362, 0, none⟩) (zvm HO357.out (fun k_ hk => (⟨hk, hk.2⟩ : _ ∧ k_ ≠ gb362))) (fun _ hk => hk.2) (.int .i64 t353)) (fun _ hk => hk.2) (.int .i64 t354)) (fun _ hk => hk.2) (.slice Ao29 t355.length co29)) (fun _ hk => hk.2) (.slice Ao30 t358.length co30)) (fun _ hk => ⟨hk.1.1.1, ⟨hk.1.1.2, hk.1.2⟩⟩)))⟩; have n1_ : Aside0 (Kd.V k42 42 w31 w.heap.size (fun k_ => k_ ≠ gb350 ∧ k_ ≠ gb351 ∧ k_ ≠ gb362) (.slice Ao30 t358.length co30) t358) := ⟨(by rw [hw]; exact (by (with_reducible repeat (first | apply zva | apply zvn | apply zvd)); exact zvm (zvf (p := ⟨gb362, 3, none⟩) (zvf (p := ⟨gb362, 2, none⟩) (zvf (p := ⟨gb362, 1, none⟩) (zvf (p := ⟨gb362, 0, none⟩) (zvm HO360.out (fun k_ hk => (⟨hk, hk.2⟩ : _ ∧ k_ ≠ gb362))) (fun _ hk => hk.2) (.int .i64 t353)) (fun _ hk => hk.2) (.int .i64 t354)) (fun _ hk => hk.2) (.slice Ao29 t355.length co29)) (fun _ hk => hk.2) (.slice Ao30 t358.length co30)) (fun _ hk => ⟨hk.1.1.1, ⟨hk.1.1.2, hk.1.2⟩⟩)))⟩; have n2_ : Aside0 (w31.heap[gb350]? = some (.cells #[.int .i64 a0_0, .int .i64 a0_1, .slice A0_2 l0_2.length c0_2, .slice A0_3 l0_3.length c0_3, .string a0_4, .int .i64 a0_5, .int .i64 a0_6] 46 (0, 0))) := ⟨(by rw [hw]; exact (by (with_reducible repeat (first | refine zn ?_ _ | refine zd ?_ | refine za ?_ _)); refine zF ?_ NB350_362.out _; (with_reducible repeat (first | refine zn ?_ _ | refine zd ?_ | refine za ?_ _)); refine zF ?_ NB350_362.out _; (with_reducible repeat (first | refine zn ?_ _ | refine zd ?_ | refine za ?_ _)); refine zF ?_ NB350_362.out _; (with_reducible repeat (first | refine zn ?_ _ | refine zd ?_ | refine za ?_ _)); refine zF ?_ NB350_362.out _; (with_reducible repeat (first | refine zn ?_ _ | refine zd ?_ | refine za ?_ _)); exact BK350.out))⟩; have n3_ : Aside0 (w31.heap[gb351]? = some (.cells #[.int .i64 a0_0, .int .i64 a0_1, .slice A0_2 l0_2.length c0_2, .slice A0_3 l0_3.length c0_3] 25 (0, 0))) := ⟨(by rw [hw]; exact (by (with_reducible repeat (first | refine zn ?_ _ | refine zd ?_ | refine za ?_ _)); refine zF ?_ NB351_362.out _; (with_reducible repeat (first | refine zn ?_ _ | refine zd ?_ | refine za ?_ _)); refine zF ?_ NB351_362.out _; (with_reducible repeat (first | refine zn ?_ _ | refine zd ?_ | refine za ?_ _)); refine zF ?_ NB351_362.out _; (with_reducible repeat (first | refine zn ?_ _ | refine zd ?_ | refine za ?_ _)); refine zF ?_ NB351_362.out _; (with_reducible repeat (first | refine zn ?_ _ | refine zd ?_ | refine za ?_ _)); exact BK351.out))⟩; have n4_ : Aside0 (w31.heap[gb362]? = some (.cells #[.int .i64 t353, .int .i64 t354, .slice Ao29 t355.length co29, .slice Ao30 t358.length co30] 25 (0, 0))) := ⟨(by rw [hw]; exact (by (with_reducible repeat (first | refine zn ?_ _ | refine zd ?_ | refine za ?_ _)); refine zP (cs := #[.int .i64 t353, .int .i64 t354, .slice Ao29 t355.length co29, .slice none 0 0]) ?_ 3 _ rfl; (with_reducible repeat (first | refine zn ?_ _ | refine zd ?_ | refine za ?_ _)); refine zP (cs := #[.int .i64 t353, .int .i64 t354, .slice none 0 0, .slice none 0 0]) ?_ 2 _ rfl; (with_reducible repeat (first | refine zn ?_ _ | refine zd ?_ | refine za ?_ _)); refine zP (cs := #[.int .i64 t353, .int .i64 0, .slice none 0 0, .slice none 0 0]) ?_ 1 _ rfl; (with_reducible repeat (first | refine zn ?_ _ | refine zd ?_ | refine za ?_ _)); refine zP (cs := #[.int .i64 0, .int .i64 0, .slice none 0 0, .slice none 0 0]) ?_ 0 _ rfl; (with_reducible repeat (first | refine zn ?_ _ | refine zd ?_ | refine za ?_ _)); exact BK362.out))⟩; have n5_ : Aside0 (Below w.heap.size w w31) := ⟨(by rw [hw]; exact (by repeat (first | (with_reducible first | exact HB.out | apply zL | apply zN | apply zD | refine zJ ?_ GE350.out | refine zJ ?_ GE351.out | refine zJ ?_ GE362.out) | exact HB.out)))⟩; clear hw; clear HO357; clear HO360; clear BK350; clear BK351; clear BK362; clear HB; have HO357 := n0_; have HO360 := n1_; have BK350 := n2_; have BK351 := n3_; have BK362 := n4_; have HB := n5_; clear n0_ n1_ n2_ n3_ n4_ n5_; have hcz32_0 : w31.cell? ⟨gb351, 0, none⟩ = some (.int .i64 a0_0) := (zc BK351.out 0).trans rfl; have hcz32_1 : w31.cell? ⟨gb351, 1, none⟩ = some (.int .i64 a0_1) := (zc BK351.out 1).trans rfl; have hcz32_2 : w31.cell? ⟨gb351, 2, none⟩ = some (.slice A0_2 l0_2.length c0_2) := (zc BK351.out 2).trans rfl; have hcz32_3 : w31.cell? ⟨gb351, 3, none⟩ = some (.slice A0_3 l0_3.length c0_3) := (zc BK351.out 3).trans rfl; have hfz32_0 := zf BK351.out 0; have hfz32_1 := zf BK351.out 1; have hfz32_2 := zf BK351.out 2; have hfz32_3 := zf BK351.out 3) | ((with_reducible refine gate_callee (f := 19) rfl ?_); refine goesL_ (some 46) rfl rfl Try.func19 (by kernel_rfl) rfl #[.agg #[.int .i64 a0_0, .int .i64 a0_1, .slice A0_2 l0_2.length c0_2, .slice A0_3 l0_3.length c0_3], .string a0_4] rfl (by (try simp only [List.map_toArray, List.map_cons, List.map_nil]); first | done | rfl | (simp only [List.length_drop, List.length_take]; rfl)) ?_; (with_reducible refine (R16_Submit.calls a0_0 a0_1 (fun k_ => k_ < w.heap.size) _ _ l0_2 (fun k_ => k_ < w.heap.size) _ _ l0_3 a0_4 t363 t364 t365 t368 t371 _ ?side1 ?side2 A18.out).mono ?_); (case side1 => exact Kd.V_mk HC0_2.out (Kd.F_below (Kd.C_F Kd.heap_string HR0_2.out) (by repeat (first | (with_reducible first | exact HB.out | apply zL | apply zN | apply zD | refine zJ ?_ GE350.out | refine zJ ?_ GE351.out | refine zJ ?_ GE362.out) | exact HB.out)))); (case side2 => exact Kd.V_mk HC0_3.out (Kd.F_below (Kd.C_F k42_heap HR0_3.out) (by repeat (first | (with_reducible first | exact HB.out | apply zL | apply zN | apply zD | refine zJ ?_ GE350.out | refine zJ ?_ GE351.out | refine zJ ?_ GE362.out) | exact HB.out)))); rintro e w33 ⟨v366, v369, rfl, ho0, ho1, hb⟩; refine ⟨_, rfl, ?_⟩; have n0_ := zM (zvb (by (with_reducible repeat (first | apply zva | apply zvn | apply zvd)); exact HO357.out) hb); have n1_ := zM (zvb (by (with_reducible repeat (first | apply zva | apply zvn | apply zvd)); exact HO360.out) hb); have n2_ := zM (Kd.V_lower (zvm (ok' := fun k_ => k_ ≠ gb350 ∧ k_ ≠ gb351 ∧ k_ ≠ gb362) ho0 (fun k_ hk_ => ⟨Or.elim hk_ (fun hs_ => Or.elim hs_ (fun hs_ => fun e_ => Nat.not_le.2 hs_ (by rw [e_]; exact GW350.out)) (fun hs_ => fun e_ => Nat.not_le.2 hs_ (by rw [e_]; exact GW350.out))) (fun hn_ => (Kd.freshB (g := gb350) (o := .cells #[.int .i64 a0_0, .int .i64 a0_1, .slice A0_2 l0_2.length c0_2, .slice A0_3 l0_3.length c0_3, .string a0_4, .int .i64 a0_5, .int .i64 a0_6] 46 (0, 0)) (by (with_reducible repeat (first | refine zn ?_ _ | refine zd ?_ | refine za ?_ _)); exact BK350.out) k_ hn_)), Or.elim hk_ (fun hs_ => Or.elim hs_ (fun hs_ => fun e_ => Nat.not_le.2 hs_ (by rw [e_]; exact GW351.out)) (fun hs_ => fun e_ => Nat.not_le.2 hs_ (by rw [e_]; exact GW351.out))) (fun hn_ => (Kd.freshB (g := gb351) (o := .cells #[.int .i64 a0_0, .int .i64 a0_1, .slice A0_2 l0_2.length c0_2, .slice A0_3 l0_3.length c0_3] 25 (0, 0)) (by (with_reducible repeat (first | refine zn ?_ _ | refine zd ?_ | refine za ?_ _)); exact BK351.out) k_ hn_)), Or.elim hk_ (fun hs_ => Or.elim hs_ (fun hs_ => fun e_ => Nat.not_le.2 hs_ (by rw [e_]; exact GW362.out)) (fun hs_ => fun e_ => Nat.not_le.2 hs_ (by rw [e_]; exact GW362.out))) (fun hn_ => (Kd.freshB (g := gb362) (o := .cells #[.int .i64 t353, .int .i64 t354, .slice Ao29 t355.length co29, .slice Ao30 t358.length co30] 25 (0, 0)) (by (with_reducible repeat (first | refine zn ?_ _ | refine zd ?_ | refine za ?_ _)); exact BK362.out) k_ hn_))⟩)) (zs (by repeat (first | (with_reducible first | exact HB.out | apply zL | apply zN | apply zD | refine zJ ?_ GE350.out | refine zJ ?_ GE351.out | refine zJ ?_ GE362.out) | exact HB.out)))); have n3_ := zM (Kd.V_lower (zvm (ok' := fun k_ => k_ ≠ gb350 ∧ k_ ≠ gb351 ∧ k_ ≠ gb362) ho1 (fun k_ hk_ => ⟨Or.elim hk_ (fun hs_ => Or.elim hs_ (fun hs_ => fun e_ => Nat.not_le.2 hs_ (by rw [e_]; exact GW350.out)) (fun hs_ => fun e_ => Nat.not_le.2 hs_ (by rw [e_]; exact GW350.out))) (fun hn_ => (Kd.freshB (g := gb350) (o := .cells #[.int .i64 a0_0, .int .i64 a0_1, .slice A0_2 l0_2.length c0_2, .slice A0_3 l0_3.length c0_3, .string a0_4, .int .i64 a0_5, .int .i64 a0_6] 46 (0, 0)) (by (with_reducible repeat (first | refine zn ?_ _ | refine zd ?_ | refine za ?_ _)); exact BK350.out) k_ hn_)), Or.elim hk_ (fun hs_ => Or.elim hs_ (fun hs_ => fun e_ => Nat.not_le.2 hs_ (by rw [e_]; exact GW351.out)) (fun hs_ => fun e_ => Nat.not_le.2 hs_ (by rw [e_]; exact GW351.out))) (fun hn_ => (Kd.freshB (g := gb351) (o := .cells #[.int .i64 a0_0, .int .i64 a0_1, .slice A0_2 l0_2.length c0_2, .slice A0_3 l0_3.length c0_3] 25 (0, 0)) (by (with_reducible repeat (first | refine zn ?_ _ | refine zd ?_ | refine za ?_ _)); exact BK351.out) k_ hn_)), Or.elim hk_ (fun hs_ => Or.elim hs_ (fun hs_ => fun e_ => Nat.not_le.2 hs_ (by rw [e_]; exact GW362.out)) (fun hs_ => fun e_ => Nat.not_le.2 hs_ (by rw [e_]; exact GW362.out))) (fun hn_ => (Kd.freshB (g := gb362) (o := .cells #[.int .i64 t353, .int .i64 t354, .slice Ao29 t355.length co29, .slice Ao30 t358.length co30] 25 (0, 0)) (by (with_reducible repeat (first | refine zn ?_ _ | refine zd ?_ | refine za ?_ _)); exact BK362.out) k_ hn_))⟩)) (zs (by repeat (first | (with_reducible first | exact HB.out | apply zL | apply zN | apply zD | refine zJ ?_ GE350.out | refine zJ ?_ GE351.out | refine zJ ?_ GE362.out) | exact HB.out)))); have n4_ := zM (zb (g := gb350) (o := .cells #[.int .i64 a0_0, .int .i64 a0_1, .slice A0_2 l0_2.length c0_2, .slice A0_3 l0_3.length c0_3, .string a0_4, .int .i64 a0_5, .int .i64 a0_6] 46 (0, 0)) (by (with_reducible repeat (first | refine zn ?_ _ | refine zd ?_ | refine za ?_ _)); exact BK350.out) hb); have n5_ := zM (zb (g := gb351) (o := .cells #[.int .i64 a0_0, .int .i64 a0_1, .slice A0_2 l0_2.length c0_2, .slice A0_3 l0_3.length c0_3] 25 (0, 0)) (by (with_reducible repeat (first | refine zn ?_ _ | refine zd ?_ | refine za ?_ _)); exact BK351.out) hb); have n6_ := zM (zb (g := gb362) (o := .cells #[.int .i64 t353, .int .i64 t354, .slice Ao29 t355.length co29, .slice Ao30 t358.length co30] 25 (0, 0)) (by (with_reducible repeat (first | refine zn ?_ _ | refine zd ?_ | refine za ?_ _)); exact BK362.out) hb); have n7_ := zM (zp (by repeat (first | (with_reducible first | exact HB.out | apply zL | apply zN | apply zD | refine zJ ?_ GE350.out | refine zJ ?_ GE351.out | refine zJ ?_ GE362.out) | exact HB.out)) hb); clear HO357; clear HO360; clear BK350; clear BK351; clear BK362; clear HB; have HO357 := n0_; have HO360 := n1_; have HO367 := n2_; have HO370 := n3_; have BK350 := n4_; have BK351 := n5_; have BK362 := n6_; have HB := n7_; clear n0_ n1_ n2_ n3_ n4_ n5_ n6_ n7_; (try clear hb); (try clear hb2); (try clear hk); (try clear hi); (try clear ho0); (try clear ho1)) | ((with_reducible refine gate_dst (N := 10) rfl ?_); refine box_event ?hg (N := 10) ?hd (cs := #[.int .i64 0, .int .i64 0, .slice none 0 0, .slice none 0 0]) (t := 25) ?hr ?_; (case hd => rfl); (case hg => rfl); (case hr => first | (go_simp; done) | (go_simp; rfl)); intro gb372 hg w34 hbox hb; have n0_ := zM (zvb (zve (by (with_reducible repeat (first | apply zva | apply zvn | apply zvd)); exact HO357.out) gb372 (zq hg.symm)) hb); have n1_ := zM (zvb (zve (by (with_reducible repeat (first | apply zva | apply zvn | apply zvd)); exact HO360.out) gb372 (zq hg.symm)) hb); have n2_ := zM (zvb (zve (by (with_reducible repeat (first | apply zva | apply zvn | apply zvd)); exact HO367.out) gb372 (zq hg.symm)) hb); have n3_ := zM (zvb (zve (by (with_reducible repeat (first | apply zva | apply zvn | apply zvd)); exact HO370.out) gb372 (zq hg.symm)) hb); have n4_ := zM (zb (g := gb350) (o := .cells #[.int .i64 a0_0, .int .i64 a0_1, .slice A0_2 l0_2.length c0_2, .slice A0_3 l0_3.length c0_3, .string a0_4, .int .i64 a0_5, .int .i64 a0_6] 46 (0, 0)) (by (with_reducible repeat (first | refine zn ?_ _ | refine zd ?_ | refine za ?_ _)); exact BK350.out) hb); have n5_ := zM (zb (g := gb351) (o := .cells #[.int .i64 a0_0, .int .i64 a0_1, .slice A0_2 l0_2.length c0_2, .slice A0_3 l0_3.length c0_3] 25 (0, 0)) (by (with_reducible repeat (first | refine zn ?_ _ | refine zd ?_ | refine za ?_ _)); exact BK351.out) hb); have n6_ := zM (zb (g := gb362) (o := .cells #[.int .i64 t353, .int .i64 t354, .slice Ao29 t355.length co29, .slice Ao30 t358.length co30] 25 (0, 0)) (by (with_reducible repeat (first | refine zn ?_ _ | refine zd ?_ | refine za ?_ _)); exact BK362.out) hb); have n7_ := zM (zp (by repeat (first | (with_reducible first | exact HB.out | apply zL | apply zN | apply zD | refine zJ ?_ GE350.out | refine zJ ?_ GE351.out | refine zJ ?_ GE362.out) | exact HB.out)) hb); have n8_ := zM (hbox); have n9_ := zM ((by rw [hg]; exact (zs (by repeat (first | (with_reducible first | exact HB.out | apply zL | apply zN | apply zD | refine zJ ?_ GE350.out | refine zJ ?_ GE351.out | refine zJ ?_ GE362.out) | exact HB.out))) : w.heap.size ≤ gb372)); have n10_ := zM ((by rw [hg]; exact (zs (by repeat (first | (with_reducible first | exact HB.out | apply zL | apply zN | apply zD | refine zJ ?_ GE350.out | refine zJ ?_ GE351.out | refine zJ ?_ GE362.out) | exact HB.out))) : w.heap.size ≤ gb372)); have n11_ := zM ((by rw [hg]; exact zt (blk_lt (g := gb350) (o := .cells #[.int .i64 a0_0, .int .i64 a0_1, .slice A0_2 l0_2.length c0_2, .slice A0_3 l0_3.length c0_3, .string a0_4, .int .i64 a0_5, .int .i64 a0_6] 46 (0, 0)) (by (with_reducible repeat (first | refine zn ?_ _ | refine zd ?_ | refine za ?_ _)); exact BK350.out)) : gb350 ≠ gb372)); have n12_ := zM ((by rw [hg]; exact Nat.ne_of_gt (blk_lt (g := gb350) (o := .cells #[.int .i64 a0_0, .int .i64 a0_1, .slice A0_2 l0_2.length c0_2, .slice A0_3 l0_3.length c0_3, .string a0_4, .int .i64 a0_5, .int .i64 a0_6] 46 (0, 0)) (by (with_reducible repeat (first | refine zn ?_ _ | refine zd ?_ | refine za ?_ _)); exact BK350.out)) : gb372 ≠ gb350)); have n13_ := zM ((by rw [hg]; exact zt (blk_lt (g := gb351) (o := .cells #[.int .i64 a0_0, .int .i64 a0_1, .slice A0_2 l0_2.length c0_2, .slice A0_3 l0_3.length c0_3] 25 (0, 0)) (by (with_reducible repeat (first | refine zn ?_ _ | refine zd ?_ | refine za ?_ _)); exact BK351.out)) : gb351 ≠ gb372)); have n14_ := zM ((by rw [hg]; exact Nat.ne_of_gt (blk_lt (g := gb351) (o := .cells #[.int .i64 a0_0, .int .i64 a0_1, .slice A0_2 l0_2.length c0_2, .slice A0_3 l0_3.length c0_3] 25 (0, 0)) (by (with_reducible repeat (first | refine zn ?_ _ | refine zd ?_ | refine za ?_ _)); exact BK351.out)) : gb372 ≠ gb351)); have n15_ := zM ((by rw [hg]; exact zt (blk_lt (g := gb362) (o := .cells #[.int .i64 t353, .int .i64 t354, .slice Ao29 t355.length co29, .slice Ao30 t358.length co30] 25 (0, 0)) (by (with_reducible repeat (first | refine zn ?_ _ | refine zd ?_ | refine za ?_ _)); exact BK362.out)) : gb362 ≠ gb372)); have n16_ := zM ((by rw [hg]; exact Nat.ne_of_gt (blk_lt (g := gb362) (o := .cells #[.int .i64 t353, .int .i64 t354, .slice Ao29 t355.length co29, .slice Ao30 t358.length co30] 25 (0, 0)) (by (with_reducible repeat (first | refine zn ?_ _ | refine zd ?_ | refine za ?_ _)); exact BK362.out)) : gb372 ≠ gb362)); clear HO357; clear HO360; clear HO367; clear HO370; clear BK350; clear BK351; clear BK362; clear HB; have HO357 := n0_; have HO360 := n1_; have HO367 := n2_; have HO370 := n3_; have BK350 := n4_; have BK351 := n5_; have BK362 := n6_; have HB := n7_; have BK372 := n8_; have GW372 := n9_; have GE372 := n10_; have NB350_372 := n11_; have NB372_350 := n12_; have NB351_372 := n13_; have NB372_351 := n14_; have NB362_372 := n15_; have NB372_362 := n16_; clear n0_ n1_ n2_ n3_ n4_ n5_ n6_ n7_ n8_ n9_ n10_ n11_ n12_ n13_ n14_ n15_ n16_; clear hb hbox hg; have hnb35 := NB372_350.out; have hnc35 := NB350_372.out; have hnb36 := NB372_351.out; have hnc36 := NB351_372.out; have hnb37 := NB372_362.out; have hnc37 := NB362_372.out; have hcz38_0 : w34.cell? ⟨gb372, 0, none⟩ = some (.int .i64 0) := (zc BK372.out 0).trans rfl; have hcz38_1 : w34.cell? ⟨gb372, 1, none⟩ = some (.int .i64 0) := (zc BK372.out 1).trans rfl; have hcz38_2 : w34.cell? ⟨gb372, 2, none⟩ = some (.slice none 0 0) := (zc BK372.out 2).trans rfl; have hcz38_3 : w34.cell? ⟨gb372, 3, none⟩ = some (.slice none 0 0) := (zc BK372.out 3).trans rfl; have hfz38_0 := zf BK372.out 0; have hfz38_1 := zf BK372.out 1; have hfz38_2 := zf BK372.out 2; have hfz38_3 := zf BK372.out 3; obtain ⟨Ao39, co39, eo39⟩ := Kd.V_slice HO367.out; subst eo39; obtain ⟨Ao40, co40, eo40⟩ := Kd.V_slice HO370.out; subst eo40) | ((with_reducible refine gate_store (t := 25) (p := 10) rfl ?_); refine store_event (t := 25) (p := 10) (v := ?vo_w41) (w1 := ((((w34.setCell ⟨gb372, 0, none⟩ (.int .i64 t363)).setCell ⟨gb372, 1, none⟩ (.int .i64 t364)).setCell ⟨gb372, 2, none⟩ (.slice Ao39 t365.length co39)).setCell ⟨gb372, 3, none⟩ (.slice Ao40 t368.length co40))) ?hg ?ho ?hn ?hr ?_; (case ho => rfl); (case hg => rfl); (case hn => rfl); (case hr => first | (go_simp; done) | (go_simp; rfl)); intro w41 hw; have n0_ : Aside0 (Kd.V Kd.string 9 w41 w.heap.size (fun k_ => k_ ≠ gb350 ∧ k_ ≠ gb351 ∧ k_ ≠ gb362 ∧ k_ ≠ gb372) (.slice Ao29 t355.length co29) t355) := ⟨(by rw [hw]; exact (by (with_reducible repeat (first | apply zva | apply zvn | apply zvd)); exact zvm (zvf (p := ⟨gb372, 3, none⟩) (zvf (p := ⟨gb372, 2, none⟩) (zvf (p := ⟨gb372, 1, none⟩) (zvf (p := ⟨gb372, 0, none⟩) (zvm HO357.out (fun k_ hk => (⟨hk, hk.2⟩ : _ ∧ k_ ≠ gb372))) (fun _ hk => hk.2) (.int .i64 t363)) (fun _ hk => hk.2) (.int .i64 t364)) (fun _ hk => hk.2) (.slice Ao39 t365.length co39)) (fun _ hk => hk.2) (.slice Ao40 t368.length co40)) (fun _ hk => ⟨hk.1.1.1, ⟨hk.1.1.2.1, ⟨hk.1.1.2.2, hk.1.2⟩⟩⟩)))⟩; have n1_ : Aside0 (Kd.V k42 42 w41 w.heap.size (fun k_ => k_ ≠ gb350 ∧ k_ ≠ gb351 ∧ k_ ≠ gb362 ∧ k_ ≠ gb372) (.slice Ao30 t358.length co30) t358) := ⟨(by rw [hw]; exact (by (with_reducible repeat (first | apply zva | apply zvn | apply zvd)); exact zvm (zvf (p := ⟨gb372, 3, none⟩) (zvf (p := ⟨gb372, 2, none⟩) (zvf (p := ⟨gb372, 1, none⟩) (zvf (p := ⟨gb372, 0, none⟩) (zvm HO360.out (fun k_ hk => (⟨hk, hk.2⟩ : _ ∧ k_ ≠ gb372))) (fun _ hk => hk.2) (.int .i64 t363)) (fun _ hk => hk.2) (.int .i64 t364)) (fun _ hk => hk.2) (.slice Ao39 t365.length co39)) (fun _ hk => hk.2) (.slice Ao40 t368.length co40)) (fun _ hk => ⟨hk.1.1.1, ⟨hk.1.1.2.1, ⟨hk.1.1.2.2, hk.1.2⟩⟩⟩)))⟩; have n2_ : Aside0 (Kd.V Kd.string 9 w41 w.heap.size (fun k_ => k_ ≠ gb350 ∧ k_ ≠ gb351 ∧ k_ ≠ gb362 ∧ k_ ≠ gb372) (.slice Ao39 t365.length co39) t365) := ⟨(by rw [hw]; exact (by (with_reducible repeat (first | apply zva | apply zvn | apply zvd)); exact zvm (zvf (p := ⟨gb372, 3, none⟩) (zvf (p := ⟨gb372, 2, none⟩) (zvf (p := ⟨gb372, 1, none⟩) (zvf (p := ⟨gb372, 0, none⟩) (zvm HO367.out (fun k_ hk => (⟨hk, hk.2⟩ : _ ∧ k_ ≠ gb372))) (fun _ hk => hk.2) (.int .i64 t363)) (fun _ hk => hk.2) (.int .i64 t364)) (fun _ hk => hk.2) (.slice Ao39 t365.length co39)) (fun _ hk => hk.2) (.slice Ao40 t368.length co40)) (fun _ hk => ⟨hk.1.1.1, ⟨hk.1.1.2.1, ⟨hk.1.1.2.2, hk.1.2⟩⟩⟩)))⟩; have n3_ : Aside0 (Kd.V k42 42 w41 w.heap.size (fun k_ => k_ ≠ gb350 ∧ k_ ≠ gb351 ∧ k_ ≠ gb362 ∧ k_ ≠ gb372) (.slice Ao40 t368.length co40) t368) := ⟨(by rw [hw]; exact (by (with_reducible repeat (first | apply zva | apply zvn | apply zvd)); exact zvm (zvf (p := ⟨gb372, 3, none⟩) (zvf (p := ⟨gb372, 2, none⟩) (zvf (p := ⟨gb372, 1, none⟩) (zvf (p := ⟨gb372, 0, none⟩) (zvm HO370.out (fun k_ hk => (⟨hk, hk.2⟩ : _ ∧ k_ ≠ gb372))) (fun _ hk => hk.2) (.int .i64 t363)) (fun _ hk => hk.2) (.int .i64 t364)) (fun _ hk => hk.2) (.slice Ao39 t365.length co39)) (fun _ hk => hk.2) (.slice Ao40 t368.length co40)) (fun _ hk => ⟨hk.1.1.1, ⟨hk.1.1.2.1, ⟨hk.1.1.2.2, hk.1.2⟩⟩⟩)))⟩; have n4_ : Aside0 (w41.heap[gb350]? = some (.cells #[.int .i64 a0_0, .int .i64 a0_1, .slice A0_2 l0_2.length c0_2, .slice A0_3 l0_3.length c0_3, .string a0_4, .int .i64 a0_5, .int .i64 a0_6] 46 (0, 0))) := ⟨(by rw [hw]; exact (by (with_reducible repeat (first | refine zn ?_ _ | refine zd ?_ | refine za ?_ _)); refine zF ?_ NB350_372.out _; (with_reducible repeat (first | refine zn ?_ _ | refine zd ?_ | refine za ?_ _)); refine zF ?_ NB350_372.out _; (with_reducible repeat (first | refine zn ?_ _ | refine zd ?_ | refine za ?_ _)); refine zF ?_ NB350_372.out _; (with_reducible repeat (first | refine zn ?_ _ | refine zd ?_ | refine za ?_ _)); refine zF ?_ NB350_372.out _; (with_reducible repeat (first | refine zn ?_ _ | refine zd ?_ | refine za ?_ _)); exact BK350.out))⟩; have n5_ : Aside0 (w41.heap[gb351]? = some (.cells #[.int .i64 a0_0, .int .i64 a0_1, .slice A0_2 l0_2.length c0_2, .slice A0_3 l0_3.length c0_3] 25 (0, 0))) := ⟨(by rw [hw]; exact (by (with_reducible repeat (first | refine zn ?_ _ | refine zd ?_ | refine za ?_ _)); refine zF ?_ NB351_372.out _; (with_reducible repeat (first | refine zn ?_ _ | refine zd ?_ | refine za ?_ _)); refine zF ?_ NB351_372.out _; (with_reducible repeat (first | refine zn ?_ _ | refine zd ?_ | refine za ?_ _)); refine zF ?_ NB351_372.out _; (with_reducible repeat (first | refine zn ?_ _ | refine zd ?_ | refine za ?_ _)); refine zF ?_ NB351_372.out _; (with_reducible repeat (first | refine zn ?_ _ | refine zd ?_ | refine za ?_ _)); exact BK351.out))⟩; have n6_ : Aside0 (w41.heap[gb362]? = some (.cells #[.int .i64 t353, .int .i64 t354, .slice Ao29 t355.length co29, .slice Ao30 t358.length co30] 25 (0, 0))) := ⟨(by rw [hw]; exact (by (with_reducible repeat (first | refine zn ?_ _ | refine zd ?_ | refine za ?_ _)); refine zF ?_ NB362_372.out _; (with_reducible repeat (first | refine zn ?_ _ | refine zd ?_ | refine za ?_ _)); refine zF ?_ NB362_372.out _; (with_reducible repeat (first | refine zn ?_ _ | refine zd ?_ | refine za ?_ _)); refine zF ?_ NB362_372.out _; (with_reducible repeat (first | refine zn ?_ _ | refine zd ?_ | refine za ?_ _)); refine zF ?_ NB362_372.out _; (with_reducible repeat (first | refine zn ?_ _ | refine zd ?_ | refine za ?_ _)); exact BK362.out))⟩; have n7_ : Aside0 (w41.heap[gb372]? = some (.cells #[.int .i64 t363, .int .i64 t364, .slice Ao39 t365.length co39, .slice Ao40 t368.length co40] 25 (0, 0))) := ⟨(by rw [hw]; exact (by (with_reducible repeat (first | refine zn ?_ _ | refine zd ?_ | refine za ?_ _)); refine zP (cs := #[.int .i64 t363, .int .i64 t364, .slice Ao39 t365.length co39, .slice none 0 0]) ?_ 3 _ rfl; (with_reducible repeat (first | refine zn ?_ _ | refine zd ?_ | refine za ?_ _)); refine zP (cs := #[.int .i64 t363, .int .i64 t364, .slice none 0 0, .slice none 0 0]) ?_ 2 _ rfl; (with_reducible repeat (first | refine zn ?_ _ | refine zd ?_ | refine za ?_ _)); refine zP (cs := #[.int .i64 t363, .int .i64 0, .slice none 0 0, .slice none 0 0]) ?_ 1 _ rfl; (with_reducible repeat (first | refine zn ?_ _ | refine zd ?_ | refine za ?_ _)); refine zP (cs := #[.int .i64 0, .int .i64 0, .slice none 0 0, .slice none 0 0]) ?_ 0 _ rfl; (with_reducible repeat (first | refine zn ?_ _ | refine zd ?_ | refine za ?_ _)); exact BK372.out))⟩; have n8_ : Aside0 (Below w.heap.size w w41) := ⟨(by rw [hw]; exact (by repeat (first | (with_reducible first | exact HB.out | apply zL | apply zN | apply zD | refine zJ ?_ GE350.out | refine zJ ?_ GE351.out | refine zJ ?_ GE362.out | refine zJ ?_ GE372.out) | exact HB.out)))⟩; clear hw; clear HO357; clear HO360; clear HO367; clear HO370; clear BK350; clear BK351; clear BK362; clear BK372; clear HB; have HO357 := n0_; have HO360 := n1_; have HO367 := n2_; have HO370 := n3_; have BK350 := n4_; have BK351 := n5_; have BK362 := n6_; have BK372 := n7_; have HB := n8_; clear n0_ n1_ n2_ n3_ n4_ n5_ n6_ n7_ n8_; have hcz42_0 : w41.cell? ⟨gb351, 0, none⟩ = some (.int .i64 a0_0) := (zc BK351.out 0).trans rfl; have hcz42_1 : w41.cell? ⟨gb351, 1, none⟩ = some (.int .i64 a0_1) := (zc BK351.out 1).trans rfl; have hcz42_2 : w41.cell? ⟨gb351, 2, none⟩ = some (.slice A0_2 l0_2.length c0_2) := (zc BK351.out 2).trans rfl; have hcz42_3 : w41.cell? ⟨gb351, 3, none⟩ = some (.slice A0_3 l0_3.length c0_3) := (zc BK351.out 3).trans rfl; have hfz42_0 := zf BK351.out 0; have hfz42_1 := zf BK351.out 1; have hfz42_2 := zf BK351.out 2; have hfz42_3 := zf BK351.out 3) | ((with_reducible refine gate_callee (f := 16) rfl ?_); refine goesL_ (some 51) rfl rfl Try.func16 (by kernel_rfl) rfl #[.agg #[.int .i64 a0_0, .int .i64 a0_1, .slice A0_2 l0_2.length c0_2, .slice A0_3 l0_3.length c0_3]] rfl (by (try simp only [List.map_toArray, List.map_cons, List.map_nil]); first | done | rfl | (simp only [List.length_drop, List.length_take]; rfl)) ?_; (with_reducible refine (lane_Seal.calls a0_0 a0_1 (fun k_ => k_ < w.heap.size) _ _ l0_2 (fun k_ => k_ < w.heap.size) _ _ l0_3 t373 t374 t375 t378 t381 _ ?side1 ?side2 A19.out).mono ?_); (case side1 => exact Kd.V_mk HC0_2.out (Kd.F_below (Kd.C_F Kd.heap_string HR0_2.out) (by repeat (first | (with_reducible first | exact HB.out | apply zL | apply zN | apply zD | refine zJ ?_ GE350.out | refine zJ ?_ GE351.out | refine zJ ?_ GE362.out | refine zJ ?_ GE372.out) | exact HB.out)))); (case side2 => exact Kd.V_mk HC0_3.out (Kd.F_below (Kd.C_F k42_heap HR0_3.out) (by repeat (first | (with_reducible first | exact HB.out | apply zL | apply zN | apply zD | refine zJ ?_ GE350.out | refine zJ ?_ GE351.out | refine zJ ?_ GE362.out | refine zJ ?_ GE372.out) | exact HB.out)))); rintro e w43 ⟨v376, v379, rfl, ho0, ho1, hb⟩; refine ⟨_, rfl, ?_⟩; have n0_ := zM (zvb (by (with_reducible repeat (first | apply zva | apply zvn | apply zvd)); exact HO357.out) hb); have n1_ := zM (zvb (by (with_reducible repeat (first | apply zva | apply zvn | apply zvd)); exact HO360.out) hb); have n2_ := zM (zvb (by (with_reducible repeat (first | apply zva | apply zvn | apply zvd)); exact HO367.out) hb); have n3_ := zM (zvb (by (with_reducible repeat (first | apply zva | apply zvn | apply zvd)); exact HO370.out) hb); have n4_ := zM (Kd.V_lower (zvm (ok' := fun k_ => k_ ≠ gb350 ∧ k_ ≠ gb351 ∧ k_ ≠ gb362 ∧ k_ ≠ gb372) ho0 (fun k_ hk_ => ⟨Or.elim hk_ (fun hs_ => Or.elim hs_ (fun hs_ => fun e_ => Nat.not_le.2 hs_ (by rw [e_]; exact GW350.out)) (fun hs_ => fun e_ => Nat.not_le.2 hs_ (by rw [e_]; exact GW350.out))) (fun hn_ => (Kd.freshB (g := gb350) (o := .cells #[.int .i64 a0_0, .int .i64 a0_1, .slice A0_2 l0_2.length c0_2, .slice A0_3 l0_3.length c0_3, .string a0_4, .int .i64 a0_5, .int .i64 a0_6] 46 (0, 0)) (by (with_reducible repeat (first | refine zn ?_ _ | refine zd ?_ | refine za ?_ _)); exact BK350.out) k_ hn_)), Or.elim hk_ (fun hs_ => Or.elim hs_ (fun hs_ => fun e_ => Nat.not_le.2 hs_ (by rw [e_]; exact GW351.out)) (fun hs_ => fun e_ => Nat.not_le.2 hs_ (by rw [e_]; exact GW351.out))) (fun hn_ => (Kd.freshB (g := gb351) (o := .cells #[.int .i64 a0_0, .int .i64 a0_1, .slice A0_2 l0_2.length c0_2, .slice A0_3 l0_3.length c0_3] 25 (0, 0)) (by (with_reducible repeat (first | refine zn ?_ _ | refine zd ?_ | refine za ?_ _)); exact BK351.out) k_ hn_)), Or.elim hk_ (fun hs_ => Or.elim hs_ (fun hs_ => fun e_ => Nat.not_le.2 hs_ (by rw [e_]; exact GW362.out)) (fun hs_ => fun e_ => Nat.not_le.2 hs_ (by rw [e_]; exact GW362.out))) (fun hn_ => (Kd.freshB (g := gb362) (o := .cells #[.int .i64 t353, .int .i64 t354, .slice Ao29 t355.length co29, .slice Ao30 t358.length co30] 25 (0, 0)) (by (with_reducible repeat (first | refine zn ?_ _ | refine zd ?_ | refine za ?_ _)); exact BK362.out) k_ hn_)), Or.elim hk_ (fun hs_ => Or.elim hs_ (fun hs_ => fun e_ => Nat.not_le.2 hs_ (by rw [e_]; exact GW372.out)) (fun hs_ => fun e_ => Nat.not_le.2 hs_ (by rw [e_]; exact GW372.out))) (fun hn_ => (Kd.freshB (g := gb372) (o := .cells #[.int .i64 t363, .int .i64 t364, .slice Ao39 t365.length co39, .slice Ao40 t368.length co40] 25 (0, 0)) (by (with_reducible repeat (first | refine zn ?_ _ | refine zd ?_ | refine za ?_ _)); exact BK372.out) k_ hn_))⟩)) (zs (by repeat (first | (with_reducible first | exact HB.out | apply zL | apply zN | apply zD | refine zJ ?_ GE350.out | refine zJ ?_ GE351.out | refine zJ ?_ GE362.out | refine zJ ?_ GE372.out) | exact HB.out)))); have n5_ := zM (Kd.V_lower (zvm (ok' := fun k_ => k_ ≠ gb350 ∧ k_ ≠ gb351 ∧ k_ ≠ gb362 ∧ k_ ≠ gb372) ho1 (fun k_ hk_ => ⟨Or.elim hk_ (fun hs_ => Or.elim hs_ (fun hs_ => fun e_ => Nat.not_le.2 hs_ (by rw [e_]; exact GW350.out)) (fun hs_ => fun e_ => Nat.not_le.2 hs_ (by rw [e_]; exact GW350.out))) (fun hn_ => (Kd.freshB (g := gb350) (o := .cells #[.int .i64 a0_0, .int .i64 a0_1, .slice A0_2 l0_2.length c0_2, .slice A0_3 l0_3.length c0_3, .string a0_4, .int .i64 a0_5, .int .i64 a0_6] 46 (0, 0)) (by (with_reducible repeat (first | refine zn ?_ _ | refine zd ?_ | refine za ?_ _)); exact BK350.out) k_ hn_)), Or.elim hk_ (fun hs_ => Or.elim hs_ (fun hs_ => fun e_ => Nat.not_le.2 hs_ (by rw [e_]; exact GW351.out)) (fun hs_ => fun e_ => Nat.not_le.2 hs_ (by rw [e_]; exact GW351.out))) (fun hn_ => (Kd.freshB (g := gb351) (o := .cells #[.int .i64 a0_0, .int .i64 a0_1, .slice A0_2 l0_2.length c0_2, .slice A0_3 l0_3.length c0_3] 25 (0, 0)) (by (with_reducible repeat (first | refine zn ?_ _ | refine zd ?_ | refine za ?_ _)); exact BK351.out) k_ hn_)), Or.elim hk_ (fun hs_ => Or.elim hs_ (fun hs_ => fun e_ => Nat.not_le.2 hs_ (by rw [e_]; exact GW362.out)) (fun hs_ => fun e_ => Nat.not_le.2 hs_ (by rw [e_]; exact GW362.out))) (fun hn_ => (Kd.freshB (g := gb362) (o := .cells #[.int .i64 t353, .int .i64 t354, .slice Ao29 t355.length co29, .slice Ao30 t358.length co30] 25 (0, 0)) (by (with_reducible repeat (first | refine zn ?_ _ | refine zd ?_ | refine za ?_ _)); exact BK362.out) k_ hn_)), Or.elim hk_ (fun hs_ => Or.elim hs_ (fun hs_ => fun e_ => Nat.not_le.2 hs_ (by rw [e_]; exact GW372.out)) (fun hs_ => fun e_ => Nat.not_le.2 hs_ (by rw [e_]; exact GW372.out))) (fun hn_ => (Kd.freshB (g := gb372) (o := .cells #[.int .i64 t363, .int .i64 t364, .slice Ao39 t365.length co39, .slice Ao40 t368.length co40] 25 (0, 0)) (by (with_reducible repeat (first | refine zn ?_ _ | refine zd ?_ | refine za ?_ _)); exact BK372.out) k_ hn_))⟩)) (zs (by repeat (first | (with_reducible first | exact HB.out | apply zL | apply zN | apply zD | refine zJ ?_ GE350.out | refine zJ ?_ GE351.out | refine zJ ?_ GE362.out | refine zJ ?_ GE372.out) | exact HB.out)))); have n6_ := zM (zb (g := gb350) (o := .cells #[.int .i64 a0_0, .int .i64 a0_1, .slice A0_2 l0_2.length c0_2, .slice A0_3 l0_3.length c0_3, .string a0_4, .int .i64 a0_5, .int .i64 a0_6] 46 (0, 0)) (by (with_reducible repeat (first | refine zn ?_ _ | refine zd ?_ | refine za ?_ _)); exact BK350.out) hb); have n7_ := zM (zb (g := gb351) (o := .cells #[.int .i64 a0_0, .int .i64 a0_1, .slice A0_2 l0_2.length c0_2, .slice A0_3 l0_3.length c0_3] 25 (0, 0)) (by (with_reducible repeat (first | refine zn ?_ _ | refine zd ?_ | refine za ?_ _)); exact BK351.out) hb); have n8_ := zM (zb (g := gb362) (o := .cells #[.int .i64 t353, .int .i64 t354, .slice Ao29 t355.length co29, .slice Ao30 t358.length co30] 25 (0, 0)) (by (with_reducible repeat (first | refine zn ?_ _ | refine zd ?_ | refine za ?_ _)); exact BK362.out) hb); have n9_ := zM (zb (g := gb372) (o := .cells #[.int .i64 t363, .int .i64 t364, .slice Ao39 t365.length co39, .slice Ao40 t368.length co40] 25 (0, 0)) (by (with_reducible repeat (first | refine zn ?_ _ | refine zd ?_ | refine za ?_ _)); exact BK372.out) hb); have n10_ := zM (zp (by repeat (first | (with_reducible first | exact HB.out | apply zL | apply zN | apply zD | refine zJ ?_ GE350.out | refine zJ ?_ GE351.out | refine zJ ?_ GE362.out | refine zJ ?_ GE372.out) | exact HB.out)) hb); clear HO357; clear HO360; clear HO367; clear HO370; clear BK350; clear BK351; clear BK362; clear BK372; clear HB; have HO357 := n0_; have HO360 := n1_; have HO367 := n2_; have HO370 := n3_; have HO377 := n4_; have HO380 := n5_; have BK350 := n6_; have BK351 := n7_; have BK362 := n8_; have BK372 := n9_; have HB := n10_; clear n0_ n1_ n2_ n3_ n4_ n5_ n6_ n7_ n8_ n9_ n10_; (try clear hb); (try clear hb2); (try clear hk); (try clear hi); (try clear ho0); (try clear ho1)) | ((with_reducible refine gate_dst (N := 12) rfl ?_); refine box_event ?hg (N := 12) ?hd (cs := #[.int .i64 0, .int .i64 0, .slice none 0 0, .slice none 0 0]) (t := 25) ?hr ?_; (case hd => rfl); (case hg => rfl); (case hr => first | (go_simp; done) | (go_simp; rfl)); intro gb382 hg w44 hbox hb; have n0_ := zM (zvb (zve (by (with_reducible repeat (first | apply zva | apply zvn | apply zvd)); exact HO357.out) gb382 (zq hg.symm)) hb); have n1_ := zM (zvb (zve (by (with_reducible repeat (first | apply zva | apply zvn | apply zvd)); exact HO360.out) gb382 (zq hg.symm)) hb); have n2_ := zM (zvb (zve (by (with_reducible repeat (first | apply zva | apply zvn | apply zvd)); exact HO367.out) gb382 (zq hg.symm)) hb); have n3_ := zM (zvb (zve (by (with_reducible repeat (first | apply zva | apply zvn | apply zvd)); exact HO370.out) gb382 (zq hg.symm)) hb); have n4_ := zM (zvb (zve (by (with_reducible repeat (first | apply zva | apply zvn | apply zvd)); exact HO377.out) gb382 (zq hg.symm)) hb); have n5_ := zM (zvb (zve (by (with_reducible repeat (first | apply zva | apply zvn | apply zvd)); exact HO380.out) gb382 (zq hg.symm)) hb); have n6_ := zM (zb (g := gb350) (o := .cells #[.int .i64 a0_0, .int .i64 a0_1, .slice A0_2 l0_2.length c0_2, .slice A0_3 l0_3.length c0_3, .string a0_4, .int .i64 a0_5, .int .i64 a0_6] 46 (0, 0)) (by (with_reducible repeat (first | refine zn ?_ _ | refine zd ?_ | refine za ?_ _)); exact BK350.out) hb); have n7_ := zM (zb (g := gb351) (o := .cells #[.int .i64 a0_0, .int .i64 a0_1, .slice A0_2 l0_2.length c0_2, .slice A0_3 l0_3.length c0_3] 25 (0, 0)) (by (with_reducible repeat (first | refine zn ?_ _ | refine zd ?_ | refine za ?_ _)); exact BK351.out) hb); have n8_ := zM (zb (g := gb362) (o := .cells #[.int .i64 t353, .int .i64 t354, .slice Ao29 t355.length co29, .slice Ao30 t358.length co30] 25 (0, 0)) (by (with_reducible repeat (first | refine zn ?_ _ | refine zd ?_ | refine za ?_ _)); exact BK362.out) hb); have n9_ := zM (zb (g := gb372) (o := .cells #[.int .i64 t363, .int .i64 t364, .slice Ao39 t365.length co39, .slice Ao40 t368.length co40] 25 (0, 0)) (by (with_reducible repeat (first | refine zn ?_ _ | refine zd ?_ | refine za ?_ _)); exact BK372.out) hb); have n10_ := zM (zp (by repeat (first | (with_reducible first | exact HB.out | apply zL | apply zN | apply zD | refine zJ ?_ GE350.out | refine zJ ?_ GE351.out | refine zJ ?_ GE362.out | refine zJ ?_ GE372.out) | exact HB.out)) hb); have n11_ := zM (hbox); have n12_ := zM ((by rw [hg]; exact (zs (by repeat (first | (with_reducible first | exact HB.out | apply zL | apply zN | apply zD | refine zJ ?_ GE350.out | refine zJ ?_ GE351.out | refine zJ ?_ GE362.out | refine zJ ?_ GE372.out) | exact HB.out))) : w.heap.size ≤ gb382)); have n13_ := zM ((by rw [hg]; exact (zs (by repeat (first | (with_reducible first | exact HB.out | apply zL | apply zN | apply zD | refine zJ ?_ GE350.out | refine zJ ?_ GE351.out | refine zJ ?_ GE362.out | refine zJ ?_ GE372.out) | exact HB.out))) : w.heap.size ≤ gb382)); have n14_ := zM ((by rw [hg]; exact zt (blk_lt (g := gb350) (o := .cells #[.int .i64 a0_0, .int .i64 a0_1, .slice A0_2 l0_2.length c0_2, .slice A0_3 l0_3.length c0_3, .string a0_4, .int .i64 a0_5, .int .i64 a0_6] 46 (0, 0)) (by (with_reducible repeat (first | refine zn ?_ _ | refine zd ?_ | refine za ?_ _)); exact BK350.out)) : gb350 ≠ gb382)); have n15_ := zM ((by rw [hg]; exact Nat.ne_of_gt (blk_lt (g := gb350) (o := .cells #[.int .i64 a0_0, .int .i64 a0_1, .slice A0_2 l0_2.length c0_2, .slice A0_3 l0_3.length c0_3, .string a0_4, .int .i64 a0_5, .int .i64 a0_6] 46 (0, 0)) (by (with_reducible repeat (first | refine zn ?_ _ | refine zd ?_ | refine za ?_ _)); exact BK350.out)) : gb382 ≠ gb350)); have n16_ := zM ((by rw [hg]; exact zt (blk_lt (g := gb351) (o := .cells #[.int .i64 a0_0, .int .i64 a0_1, .slice A0_2 l0_2.length c0_2, .slice A0_3 l0_3.length c0_3] 25 (0, 0)) (by (with_reducible repeat (first | refine zn ?_ _ | refine zd ?_ | refine za ?_ _)); exact BK351.out)) : gb351 ≠ gb382)); have n17_ := zM ((by rw [hg]; exact Nat.ne_of_gt (blk_lt (g := gb351) (o := .cells #[.int .i64 a0_0, .int .i64 a0_1, .slice A0_2 l0_2.length c0_2, .slice A0_3 l0_3.length c0_3] 25 (0, 0)) (by (with_reducible repeat (first | refine zn ?_ _ | refine zd ?_ | refine za ?_ _)); exact BK351.out)) : gb382 ≠ gb351)); have n18_ := zM ((by rw [hg]; exact zt (blk_lt (g := gb362) (o := .cells #[.int .i64 t353, .int .i64 t354, .slice Ao29 t355.length co29, .slice Ao30 t358.length co30] 25 (0, 0)) (by (with_reducible repeat (first | refine zn ?_ _ | refine zd ?_ | refine za ?_ _)); exact BK362.out)) : gb362 ≠ gb382)); have n19_ := zM ((by rw [hg]; exact Nat.ne_of_gt (blk_lt (g := gb362) (o := .cells #[.int .i64 t353, .int .i64 t354, .slice Ao29 t355.length co29, .slice Ao30 t358.length co30] 25 (0, 0)) (by (with_reducible repeat (first | refine zn ?_ _ | refine zd ?_ | refine za ?_ _)); exact BK362.out)) : gb382 ≠ gb362)); have n20_ := zM ((by rw [hg]; exact zt (blk_lt (g := gb372) (o := .cells #[.int .i64 t363, .int .i64 t364, .slice Ao39 t365.length co39, .slice Ao40 t368.length co40] 25 (0, 0)) (by (with_reducible repeat (first | refine zn ?_ _ | refine zd ?_ | refine za ?_ _)); exact BK372.out)) : gb372 ≠ gb382)); have n21_ := zM ((by rw [hg]; exact Nat.ne_of_gt (blk_lt (g := gb372) (o := .cells #[.int .i64 t363, .int .i64 t364, .slice Ao39 t365.length co39, .slice Ao40 t368.length co40] 25 (0, 0)) (by (with_reducible repeat (first | refine zn ?_ _ | refine zd ?_ | refine za ?_ _)); exact BK372.out)) : gb382 ≠ gb372)); clear HO357; clear HO360; clear HO367; clear HO370; clear HO377; clear HO380; clear BK350; clear BK351; clear BK362; clear BK372; clear HB; have HO357 := n0_; have HO360 := n1_; have HO367 := n2_; have HO370 := n3_; have HO377 := n4_; have HO380 := n5_; have BK350 := n6_; have BK351 := n7_; have BK362 := n8_; have BK372 := n9_; have HB := n10_; have BK382 := n11_; have GW382 := n12_; have GE382 := n13_; have NB350_382 := n14_; have NB382_350 := n15_; have NB351_382 := n16_; have NB382_351 := n17_; have NB362_382 := n18_; have NB382_362 := n19_; have NB372_382 := n20_; have NB382_372 := n21_; clear n0_ n1_ n2_ n3_ n4_ n5_ n6_ n7_ n8_ n9_ n10_ n11_ n12_ n13_ n14_ n15_ n16_ n17_ n18_ n19_ n20_ n21_; clear hb hbox hg; have hnb45 := NB382_350.out; have hnc45 := NB350_382.out; have hnb46 := NB382_351.out; have hnc46 := NB351_382.out; have hnb47 := NB382_362.out; have hnc47 := NB362_382.out; have hnb48 := NB382_372.out; have hnc48 := NB372_382.out; have hcz49_0 : w44.cell? ⟨gb382, 0, none⟩ = some (.int .i64 0) := (zc BK382.out 0).trans rfl; have hcz49_1 : w44.cell? ⟨gb382, 1, none⟩ = some (.int .i64 0) := (zc BK382.out 1).trans rfl; have hcz49_2 : w44.cell? ⟨gb382, 2, none⟩ = some (.slice none 0 0) := (zc BK382.out 2).trans rfl; have hcz49_3 : w44.cell? ⟨gb382, 3, none⟩ = some (.slice none 0 0) := (zc BK382.out 3).trans rfl; have hfz49_0 := zf BK382.out 0; have hfz49_1 := zf BK382.out 1; have hfz49_2 := zf BK382.out 2; have hfz49_3 := zf BK382.out 3; obtain ⟨Ao50, co50, eo50⟩ := Kd.V_slice HO377.out; subst eo50; obtain ⟨Ao51, co51, eo51⟩ := Kd.V_slice HO380.out; subst eo51) | ((with_reducible refine gate_store (t := 25) (p := 12) rfl ?_); refine store_event (t := 25) (p := 12) (v := ?vo_w52) (w1 := ((((w44.setCell ⟨gb382, 0, none⟩ (.int .i64 t373)).setCell ⟨gb382, 1, none⟩ (.int .i64 t374)).setCell ⟨gb382, 2, none⟩ (.slice Ao50 t375.length co50)).setCell ⟨gb382, 3, none⟩ (.slice Ao51 t378.length co51))) ?hg ?ho ?hn ?hr ?_; (case ho => rfl); (case hg => rfl); (case hn => rfl); (case hr => first | (go_simp; done) | (go_simp; rfl)); intro w52 hw; have n0_ : Aside0 (Kd.V Kd.string 9 w52 w.heap.size (fun k_ => k_ ≠ gb350 ∧ k_ ≠ gb351 ∧ k_ ≠ gb362 ∧ k_ ≠ gb372 ∧ k_ ≠ gb382) (.slice Ao29 t355.length co29) t355) := ⟨(by rw [hw]; exact (by (with_reducible repeat (first | apply zva | apply zvn | apply zvd)); exact zvm (zvf (p := ⟨gb382, 3, none⟩) (zvf (p := ⟨gb382, 2, none⟩) (zvf (p := ⟨gb382, 1, none⟩) (zvf (p := ⟨gb382, 0, none⟩) (zvm HO357.out (fun k_ hk => (⟨hk, hk.2⟩ : _ ∧ k_ ≠ gb382))) (fun _ hk => hk.2) (.int .i64 t373)) (fun _ hk => hk.2) (.int .i64 t374)) (fun _ hk => hk.2) (.slice Ao50 t375.length co50)) (fun _ hk => hk.2) (.slice Ao51 t378.length co51)) (fun _ hk => ⟨hk.1.1.1, ⟨hk.1.1.2.1, ⟨hk.1.1.2.2.1, ⟨hk.1.1.2.2.2, hk.1.2⟩⟩⟩⟩)))⟩; have n1_ : Aside0 (Kd.V k42 42 w52 w.heap.size (fun k_ => k_ ≠ gb350 ∧ k_ ≠ gb351 ∧ k_ ≠ gb362 ∧ k_ ≠ gb372 ∧ k_ ≠ gb382) (.slice Ao30 t358.length co30) t358) := ⟨(by rw [hw]; exact (by (with_reducible repeat (first | apply zva | apply zvn | apply zvd)); exact zvm (zvf (p := ⟨gb382, 3, none⟩) (zvf (p := ⟨gb382, 2, none⟩) (zvf (p := ⟨gb382, 1, none⟩) (zvf (p := ⟨gb382, 0, none⟩) (zvm HO360.out (fun k_ hk => (⟨hk, hk.2⟩ : _ ∧ k_ ≠ gb382))) (fun _ hk => hk.2) (.int .i64 t373)) (fun _ hk => hk.2) (.int .i64 t374)) (fun _ hk => hk.2) (.slice Ao50 t375.length co50)) (fun _ hk => hk.2) (.slice Ao51 t378.length co51)) (fun _ hk => ⟨hk.1.1.1, ⟨hk.1.1.2.1, ⟨hk.1.1.2.2.1, ⟨hk.1.1.2.2.2, hk.1.2⟩⟩⟩⟩)))⟩; have n2_ : Aside0 (Kd.V Kd.string 9 w52 w.heap.size (fun k_ => k_ ≠ gb350 ∧ k_ ≠ gb351 ∧ k_ ≠ gb362 ∧ k_ ≠ gb372 ∧ k_ ≠ gb382) (.slice Ao39 t365.length co39) t365) := ⟨(by rw [hw]; exact (by (with_reducible repeat (first | apply zva | apply zvn | apply zvd)); exact zvm (zvf (p := ⟨gb382, 3, none⟩) (zvf (p := ⟨gb382, 2, none⟩) (zvf (p := ⟨gb382, 1, none⟩) (zvf (p := ⟨gb382, 0, none⟩) (zvm HO367.out (fun k_ hk => (⟨hk, hk.2⟩ : _ ∧ k_ ≠ gb382))) (fun _ hk => hk.2) (.int .i64 t373)) (fun _ hk => hk.2) (.int .i64 t374)) (fun _ hk => hk.2) (.slice Ao50 t375.length co50)) (fun _ hk => hk.2) (.slice Ao51 t378.length co51)) (fun _ hk => ⟨hk.1.1.1, ⟨hk.1.1.2.1, ⟨hk.1.1.2.2.1, ⟨hk.1.1.2.2.2, hk.1.2⟩⟩⟩⟩)))⟩; have n3_ : Aside0 (Kd.V k42 42 w52 w.heap.size (fun k_ => k_ ≠ gb350 ∧ k_ ≠ gb351 ∧ k_ ≠ gb362 ∧ k_ ≠ gb372 ∧ k_ ≠ gb382) (.slice Ao40 t368.length co40) t368) := ⟨(by rw [hw]; exact (by (with_reducible repeat (first | apply zva | apply zvn | apply zvd)); exact zvm (zvf (p := ⟨gb382, 3, none⟩) (zvf (p := ⟨gb382, 2, none⟩) (zvf (p := ⟨gb382, 1, none⟩) (zvf (p := ⟨gb382, 0, none⟩) (zvm HO370.out (fun k_ hk => (⟨hk, hk.2⟩ : _ ∧ k_ ≠ gb382))) (fun _ hk => hk.2) (.int .i64 t373)) (fun _ hk => hk.2) (.int .i64 t374)) (fun _ hk => hk.2) (.slice Ao50 t375.length co50)) (fun _ hk => hk.2) (.slice Ao51 t378.length co51)) (fun _ hk => ⟨hk.1.1.1, ⟨hk.1.1.2.1, ⟨hk.1.1.2.2.1, ⟨hk.1.1.2.2.2, hk.1.2⟩⟩⟩⟩)))⟩; have n4_ : Aside0 (Kd.V Kd.string 9 w52 w.heap.size (fun k_ => k_ ≠ gb350 ∧ k_ ≠ gb351 ∧ k_ ≠ gb362 ∧ k_ ≠ gb372 ∧ k_ ≠ gb382) (.slice Ao50 t375.length co50) t375) := ⟨(by rw [hw]; exact (by (with_reducible repeat (first | apply zva | apply zvn | apply zvd)); exact zvm (zvf (p := ⟨gb382, 3, none⟩) (zvf (p := ⟨gb382, 2, none⟩) (zvf (p := ⟨gb382, 1, none⟩) (zvf (p := ⟨gb382, 0, none⟩) (zvm HO377.out (fun k_ hk => (⟨hk, hk.2⟩ : _ ∧ k_ ≠ gb382))) (fun _ hk => hk.2) (.int .i64 t373)) (fun _ hk => hk.2) (.int .i64 t374)) (fun _ hk => hk.2) (.slice Ao50 t375.length co50)) (fun _ hk => hk.2) (.slice Ao51 t378.length co51)) (fun _ hk => ⟨hk.1.1.1, ⟨hk.1.1.2.1, ⟨hk.1.1.2.2.1, ⟨hk.1.1.2.2.2, hk.1.2⟩⟩⟩⟩)))⟩; have n5_ : Aside0 (Kd.V k42 42 w52 w.heap.size (fun k_ => k_ ≠ gb350 ∧ k_ ≠ gb351 ∧ k_ ≠ gb362 ∧ k_ ≠ gb372 ∧ k_ ≠ gb382) (.slice Ao51 t378.length co51) t378) := ⟨(by rw [hw]; exact (by (with_reducible repeat (first | apply zva | apply zvn | apply zvd)); exact zvm (zvf (p := ⟨gb382, 3, none⟩) (zvf (p := ⟨gb382, 2, none⟩) (zvf (p := ⟨gb382, 1, none⟩) (zvf (p := ⟨gb382, 0, none⟩) (zvm HO380.out (fun k_ hk => (⟨hk, hk.2⟩ : _ ∧ k_ ≠ gb382))) (fun _ hk => hk.2) (.int .i64 t373)) (fun _ hk => hk.2) (.int .i64 t374)) (fun _ hk => hk.2) (.slice Ao50 t375.length co50)) (fun _ hk => hk.2) (.slice Ao51 t378.length co51)) (fun _ hk => ⟨hk.1.1.1, ⟨hk.1.1.2.1, ⟨hk.1.1.2.2.1, ⟨hk.1.1.2.2.2, hk.1.2⟩⟩⟩⟩)))⟩; have n6_ : Aside0 (w52.heap[gb350]? = some (.cells #[.int .i64 a0_0, .int .i64 a0_1, .slice A0_2 l0_2.length c0_2, .slice A0_3 l0_3.length c0_3, .string a0_4, .int .i64 a0_5, .int .i64 a0_6] 46 (0, 0))) := ⟨(by rw [hw]; exact (by (with_reducible repeat (first | refine zn ?_ _ | refine zd ?_ | refine za ?_ _)); refine zF ?_ NB350_382.out _; (with_reducible repeat (first | refine zn ?_ _ | refine zd ?_ | refine za ?_ _)); refine zF ?_ NB350_382.out _; (with_reducible repeat (first | refine zn ?_ _ | refine zd ?_ | refine za ?_ _)); refine zF ?_ NB350_382.out _; (with_reducible repeat (first | refine zn ?_ _ | refine zd ?_ | refine za ?_ _)); refine zF ?_ NB350_382.out _; (with_reducible repeat (first | refine zn ?_ _ | refine zd ?_ | refine za ?_ _)); exact BK350.out))⟩; have n7_ : Aside0 (w52.heap[gb351]? = some (.cells #[.int .i64 a0_0, .int .i64 a0_1, .slice A0_2 l0_2.length c0_2, .slice A0_3 l0_3.length c0_3] 25 (0, 0))) := ⟨(by rw [hw]; exact (by (with_reducible repeat (first | refine zn ?_ _ | refine zd ?_ | refine za ?_ _)); refine zF ?_ NB351_382.out _; (with_reducible repeat (first | refine zn ?_ _ | refine zd ?_ | refine za ?_ _)); refine zF ?_ NB351_382.out _; (with_reducible repeat (first | refine zn ?_ _ | refine zd ?_ | refine za ?_ _)); refine zF ?_ NB351_382.out _; (with_reducible repeat (first | refine zn ?_ _ | refine zd ?_ | refine za ?_ _)); refine zF ?_ NB351_382.out _; (with_reducible repeat (first | refine zn ?_ _ | refine zd ?_ | refine za ?_ _)); exact BK351.out))⟩; have n8_ : Aside0 (w52.heap[gb362]? = some (.cells #[.int .i64 t353, .int .i64 t354, .slice Ao29 t355.length co29, .slice Ao30 t358.length co30] 25 (0, 0))) := ⟨(by rw [hw]; exact (by (with_reducible repeat (first | refine zn ?_ _ | refine zd ?_ | refine za ?_ _)); refine zF ?_ NB362_382.out _; (with_reducible repeat (first | refine zn ?_ _ | refine zd ?_ | refine za ?_ _)); refine zF ?_ NB362_382.out _; (with_reducible repeat (first | refine zn ?_ _ | refine zd ?_ | refine za ?_ _)); refine zF ?_ NB362_382.out _; (with_reducible repeat (first | refine zn ?_ _ | refine zd ?_ | refine za ?_ _)); refine zF ?_ NB362_382.out _; (with_reducible repeat (first | refine zn ?_ _ | refine zd ?_ | refine za ?_ _)); exact BK362.out))⟩; have n9_ : Aside0 (w52.heap[gb372]? = some (.cells #[.int .i64 t363, .int .i64 t364, .slice Ao39 t365.length co39, .slice Ao40 t368.length co40] 25 (0, 0))) := ⟨(by rw [hw]; exact (by (with_reducible repeat (first | refine zn ?_ _ | refine zd ?_ | refine za ?_ _)); refine zF ?_ NB372_382.out _; (with_reducible repeat (first | refine zn ?_ _ | refine zd ?_ | refine za ?_ _)); refine zF ?_ NB372_382.out _; (with_reducible repeat (first | refine zn ?_ _ | refine zd ?_ | refine za ?_ _)); refine zF ?_ NB372_382.out _; (with_reducible repeat (first | refine zn ?_ _ | refine zd ?_ | refine za ?_ _)); refine zF ?_ NB372_382.out _; (with_reducible repeat (first | refine zn ?_ _ | refine zd ?_ | refine za ?_ _)); exact BK372.out))⟩; have n10_ : Aside0 (w52.heap[gb382]? = some (.cells #[.int .i64 t373, .int .i64 t374, .slice Ao50 t375.length co50, .slice Ao51 t378.length co51] 25 (0, 0))) := ⟨(by rw [hw]; exact (by (with_reducible repeat (first | refine zn ?_ _ | refine zd ?_ | refine za ?_ _)); refine zP (cs := #[.int .i64 t373, .int .i64 t374, .slice Ao50 t375.length co50, .slice none 0 0]) ?_ 3 _ rfl; (with_reducible repeat (first | refine zn ?_ _ | refine zd ?_ | refine za ?_ _)); refine zP (cs := #[.int .i64 t373, .int .i64 t374, .slice none 0 0, .slice none 0 0]) ?_ 2 _ rfl; (with_reducible repeat (first | refine zn ?_ _ | refine zd ?_ | refine za ?_ _)); refine zP (cs := #[.int .i64 t373, .int .i64 0, .slice none 0 0, .slice none 0 0]) ?_ 1 _ rfl; (with_reducible repeat (first | refine zn ?_ _ | refine zd ?_ | refine za ?_ _)); refine zP (cs := #[.int .i64 0, .int .i64 0, .slice none 0 0, .slice none 0 0]) ?_ 0 _ rfl; (with_reducible repeat (first | refine zn ?_ _ | refine zd ?_ | refine za ?_ _)); exact BK382.out))⟩; have n11_ : Aside0 (Below w.heap.size w w52) := ⟨(by rw [hw]; exact (by repeat (first | (with_reducible first | exact HB.out | apply zL | apply zN | apply zD | refine zJ ?_ GE350.out | refine zJ ?_ GE351.out | refine zJ ?_ GE362.out | refine zJ ?_ GE372.out | refine zJ ?_ GE382.out) | exact HB.out)))⟩; clear hw; clear HO357; clear HO360; clear HO367; clear HO370; clear HO377; clear HO380; clear BK350; clear BK351; clear BK362; clear BK372; clear BK382; clear HB; have HO357 := n0_; have HO360 := n1_; have HO367 := n2_; have HO370 := n3_; have HO377 := n4_; have HO380 := n5_; have BK350 := n6_; have BK351 := n7_; have BK362 := n8_; have BK372 := n9_; have BK382 := n10_; have HB := n11_; clear n0_ n1_ n2_ n3_ n4_ n5_ n6_ n7_ n8_ n9_ n10_ n11_; have hcz53_0 : w52.cell? ⟨gb351, 0, none⟩ = some (.int .i64 a0_0) := (zc BK351.out 0).trans rfl; have hcz53_1 : w52.cell? ⟨gb351, 1, none⟩ = some (.int .i64 a0_1) := (zc BK351.out 1).trans rfl; have hcz53_2 : w52.cell? ⟨gb351, 2, none⟩ = some (.slice A0_2 l0_2.length c0_2) := (zc BK351.out 2).trans rfl; have hcz53_3 : w52.cell? ⟨gb351, 3, none⟩ = some (.slice A0_3 l0_3.length c0_3) := (zc BK351.out 3).trans rfl; have hfz53_0 := zf BK351.out 0; have hfz53_1 := zf BK351.out 1; have hfz53_2 := zf BK351.out 2; have hfz53_3 := zf BK351.out 3) | ((with_reducible refine gate_callee (f := 20) rfl ?_); refine goesL_ (some 56) rfl rfl Try.func20 (by kernel_rfl) rfl #[.agg #[.int .i64 a0_0, .int .i64 a0_1, .slice A0_2 l0_2.length c0_2, .slice A0_3 l0_3.length c0_3]] rfl (by (try simp only [List.map_toArray, List.map_cons, List.map_nil]); first | done | rfl | (simp only [List.length_drop, List.length_take]; rfl)) ?_; (with_reducible refine (R16_Seal.calls a0_0 a0_1 (fun k_ => k_ < w.heap.size) _ _ l0_2 (fun k_ => k_ < w.heap.size) _ _ l0_3 t383 t384 t385 t388 t391 _ ?side1 ?side2 A20.out).mono ?_); (case side1 => exact Kd.V_mk HC0_2.out (Kd.F_below (Kd.C_F Kd.heap_string HR0_2.out) (by repeat (first | (with_reducible first | exact HB.out | apply zL | apply zN | apply zD | refine zJ ?_ GE350.out | refine zJ ?_ GE351.out | refine zJ ?_ GE362.out | refine zJ ?_ GE372.out | refine zJ ?_ GE382.out) | exact HB.out)))); (case side2 => exact Kd.V_mk HC0_3.out (Kd.F_below (Kd.C_F k42_heap HR0_3.out) (by repeat (first | (with_reducible first | exact HB.out | apply zL | apply zN | apply zD | refine zJ ?_ GE350.out | refine zJ ?_ GE351.out | refine zJ ?_ GE362.out | refine zJ ?_ GE372.out | refine zJ ?_ GE382.out) | exact HB.out)))); rintro e w54 ⟨v386, v389, rfl, ho0, ho1, hb⟩; refine ⟨_, rfl, ?_⟩; have n0_ := zM (zvb (by (with_reducible repeat (first | apply zva | apply zvn | apply zvd)); exact HO357.out) hb); have n1_ := zM (zvb (by (with_reducible repeat (first | apply zva | apply zvn | apply zvd)); exact HO360.out) hb); have n2_ := zM (zvb (by (with_reducible repeat (first | apply zva | apply zvn | apply zvd)); exact HO367.out) hb); have n3_ := zM (zvb (by (with_reducible repeat (first | apply zva | apply zvn | apply zvd)); exact HO370.out) hb); have n4_ := zM (zvb (by (with_reducible repeat (first | apply zva | apply zvn | apply zvd)); exact HO377.out) hb); have n5_ := zM (zvb (by (with_reducible repeat (first | apply zva | apply zvn | apply zvd)); exact HO380.out) hb); have n6_ := zM (Kd.V_lower (zvm (ok' := fun k_ => k_ ≠ gb350 ∧ k_ ≠ gb351 ∧ k_ ≠ gb362 ∧ k_ ≠ gb372 ∧ k_ ≠ gb382) ho0 (fun k_ hk_ => ⟨Or.elim hk_ (fun hs_ => Or.elim hs_ (fun hs_ => fun e_ => Nat.not_le.2 hs_ (by rw [e_]; exact GW350.out)) (fun hs_ => fun e_ => Nat.not_le.2 hs_ (by rw [e_]; exact GW350.out))) (fun hn_ => (Kd.freshB (g := gb350) (o := .cells #[.int .i64 a0_0, .int .i64 a0_1, .slice A0_2 l0_2.length c0_2, .slice A0_3 l0_3.length c0_3, .string a0_4, .int .i64 a0_5, .int .i64 a0_6] 46 (0, 0)) (by (with_reducible repeat (first | refine zn ?_ _ | refine zd ?_ | refine za ?_ _)); exact BK350.out) k_ hn_)), Or.elim hk_ (fun hs_ => Or.elim hs_ (fun hs_ => fun e_ => Nat.not_le.2 hs_ (by rw [e_]; exact GW351.out)) (fun hs_ => fun e_ => Nat.not_le.2 hs_ (by rw [e_]; exact GW351.out))) (fun hn_ => (Kd.freshB (g := gb351) (o := .cells #[.int .i64 a0_0, .int .i64 a0_1, .slice A0_2 l0_2.length c0_2, .slice A0_3 l0_3.length c0_3] 25 (0, 0)) (by (with_reducible repeat (first | refine zn ?_ _ | refine zd ?_ | refine za ?_ _)); exact BK351.out) k_ hn_)), Or.elim hk_ (fun hs_ => Or.elim hs_ (fun hs_ => fun e_ => Nat.not_le.2 hs_ (by rw [e_]; exact GW362.out)) (fun hs_ => fun e_ => Nat.not_le.2 hs_ (by rw [e_]; exact GW362.out))) (fun hn_ => (Kd.freshB (g := gb362) (o := .cells #[.int .i64 t353, .int .i64 t354, .slice Ao29 t355.length co29, .slice Ao30 t358.length co30] 25 (0, 0)) (by (with_reducible repeat (first | refine zn ?_ _ | refine zd ?_ | refine za ?_ _)); exact BK362.out) k_ hn_)), Or.elim hk_ (fun hs_ => Or.elim hs_ (fun hs_ => fun e_ => Nat.not_le.2 hs_ (by rw [e_]; exact GW372.out)) (fun hs_ => fun e_ => Nat.not_le.2 hs_ (by rw [e_]; exact GW372.out))) (fun hn_ => (Kd.freshB (g := gb372) (o := .cells #[.int .i64 t363, .int .i64 t364, .slice Ao39 t365.length co39, .slice Ao40 t368.length co40] 25 (0, 0)) (by (with_reducible repeat (first | refine zn ?_ _ | refine zd ?_ | refine za ?_ _)); exact BK372.out) k_ hn_)), Or.elim hk_ (fun hs_ => Or.elim hs_ (fun hs_ => fun e_ => Nat.not_le.2 hs_ (by rw [e_]; exact GW382.out)) (fun hs_ => fun e_ => Nat.not_le.2 hs_ (by rw [e_]; exact GW382.out))) (fun hn_ => (Kd.freshB (g := gb382) (o := .cells #[.int .i64 t373, .int .i64 t374, .slice Ao50 t375.length co50, .slice Ao51 t378.length co51] 25 (0, 0)) (by (with_reducible repeat (first | refine zn ?_ _ | refine zd ?_ | refine za ?_ _)); exact BK382.out) k_ hn_))⟩)) (zs (by repeat (first | (with_reducible first | exact HB.out | apply zL | apply zN | apply zD | refine zJ ?_ GE350.out | refine zJ ?_ GE351.out | refine zJ ?_ GE362.out | refine zJ ?_ GE372.out | refine zJ ?_ GE382.out) | exact HB.out)))); have n7_ := zM (Kd.V_lower (zvm (ok' := fun k_ => k_ ≠ gb350 ∧ k_ ≠ gb351 ∧ k_ ≠ gb362 ∧ k_ ≠ gb372 ∧ k_ ≠ gb382) ho1 (fun k_ hk_ => ⟨Or.elim hk_ (fun hs_ => Or.elim hs_ (fun hs_ => fun e_ => Nat.not_le.2 hs_ (by rw [e_]; exact GW350.out)) (fun hs_ => fun e_ => Nat.not_le.2 hs_ (by rw [e_]; exact GW350.out))) (fun hn_ => (Kd.freshB (g := gb350) (o := .cells #[.int .i64 a0_0, .int .i64 a0_1, .slice A0_2 l0_2.length c0_2, .slice A0_3 l0_3.length c0_3, .string a0_4, .int .i64 a0_5, .int .i64 a0_6] 46 (0, 0)) (by (with_reducible repeat (first | refine zn ?_ _ | refine zd ?_ | refine za ?_ _)); exact BK350.out) k_ hn_)), Or.elim hk_ (fun hs_ => Or.elim hs_ (fun hs_ => fun e_ => Nat.not_le.2 hs_ (by rw [e_]; exact GW351.out)) (fun hs_ => fun e_ => Nat.not_le.2 hs_ (by rw [e_]; exact GW351.out))) (fun hn_ => (Kd.freshB (g := gb351) (o := .cells #[.int .i64 a0_0, .int .i64 a0_1, .slice A0_2 l0_2.length c0_2, .slice A0_3 l0_3.length c0_3] 25 (0, 0)) (by (with_reducible repeat (first | refine zn ?_ _ | refine zd ?_ | refine za ?_ _)); exact BK351.out) k_ hn_)), Or.elim hk_ (fun hs_ => Or.elim hs_ (fun hs_ => fun e_ => Nat.not_le.2 hs_ (by rw [e_]; exact GW362.out)) (fun hs_ => fun e_ => Nat.not_le.2 hs_ (by rw [e_]; exact GW362.out))) (fun hn_ => (Kd.freshB (g := gb362) (o := .cells #[.int .i64 t353, .int .i64 t354, .slice Ao29 t355.length co29, .slice Ao30 t358.length co30] 25 (0, 0)) (by (with_reducible repeat (first | refine zn ?_ _ | refine zd ?_ | refine za ?_ _)); exact BK362.out) k_ hn_)), Or.elim hk_ (fun hs_ => Or.elim hs_ (fun hs_ => fun e_ => Nat.not_le.2 hs_ (by rw [e_]; exact GW372.out)) (fun hs_ => fun e_ => Nat.not_le.2 hs_ (by rw [e_]; exact GW372.out))) (fun hn_ => (Kd.freshB (g := gb372) (o := .cells #[.int .i64 t363, .int .i64 t364, .slice Ao39 t365.length co39, .slice Ao40 t368.length co40] 25 (0, 0)) (by (with_reducible repeat (first | refine zn ?_ _ | refine zd ?_ | refine za ?_ _)); exact BK372.out) k_ hn_)), Or.elim hk_ (fun hs_ => Or.elim hs_ (fun hs_ => fun e_ => Nat.not_le.2 hs_ (by rw [e_]; exact GW382.out)) (fun hs_ => fun e_ => Nat.not_le.2 hs_ (by rw [e_]; exact GW382.out))) (fun hn_ => (Kd.freshB (g := gb382) (o := .cells #[.int .i64 t373, .int .i64 t374, .slice Ao50 t375.length co50, .slice Ao51 t378.length co51] 25 (0, 0)) (by (with_reducible repeat (first | refine zn ?_ _ | refine zd ?_ | refine za ?_ _)); exact BK382.out) k_ hn_))⟩)) (zs (by repeat (first | (with_reducible first | exact HB.out | apply zL | apply zN | apply zD | refine zJ ?_ GE350.out | refine zJ ?_ GE351.out | refine zJ ?_ GE362.out | refine zJ ?_ GE372.out | refine zJ ?_ GE382.out) | exact HB.out)))); have n8_ := zM (zb (g := gb350) (o := .cells #[.int .i64 a0_0, .int .i64 a0_1, .slice A0_2 l0_2.length c0_2, .slice A0_3 l0_3.length c0_3, .string a0_4, .int .i64 a0_5, .int .i64 a0_6] 46 (0, 0)) (by (with_reducible repeat (first | refine zn ?_ _ | refine zd ?_ | refine za ?_ _)); exact BK350.out) hb); have n9_ := zM (zb (g := gb351) (o := .cells #[.int .i64 a0_0, .int .i64 a0_1, .slice A0_2 l0_2.length c0_2, .slice A0_3 l0_3.length c0_3] 25 (0, 0)) (by (with_reducible repeat (first | refine zn ?_ _ | refine zd ?_ | refine za ?_ _)); exact BK351.out) hb); have n10_ := zM (zb (g := gb362) (o := .cells #[.int .i64 t353, .int .i64 t354, .slice Ao29 t355.length co29, .slice Ao30 t358.length co30] 25 (0, 0)) (by (with_reducible repeat (first | refine zn ?_ _ | refine zd ?_ | refine za ?_ _)); exact BK362.out) hb); have n11_ := zM (zb (g := gb372) (o := .cells #[.int .i64 t363, .int .i64 t364, .slice Ao39 t365.length co39, .slice Ao40 t368.length co40] 25 (0, 0)) (by (with_reducible repeat (first | refine zn ?_ _ | refine zd ?_ | refine za ?_ _)); exact BK372.out) hb); have n12_ := zM (zb (g := gb382) (o := .cells #[.int .i64 t373, .int .i64 t374, .slice Ao50 t375.length co50, .slice Ao51 t378.length co51] 25 (0, 0)) (by (with_reducible repeat (first | refine zn ?_ _ | refine zd ?_ | refine za ?_ _)); exact BK382.out) hb); have n13_ := zM (zp (by repeat (first | (with_reducible first | exact HB.out | apply zL | apply zN | apply zD | refine zJ ?_ GE350.out | refine zJ ?_ GE351.out | refine zJ ?_ GE362.out | refine zJ ?_ GE372.out | refine zJ ?_ GE382.out) | exact HB.out)) hb); clear HO357; clear HO360; clear HO367; clear HO370; clear HO377; clear HO380; clear BK350; clear BK351; clear BK362; clear BK372; clear BK382; clear HB; have HO357 := n0_; have HO360 := n1_; have HO367 := n2_; have HO370 := n3_; have HO377 := n4_; have HO380 := n5_; have HO387 := n6_; have HO390 := n7_; have BK350 := n8_; have BK351 := n9_; have BK362 := n10_; have BK372 := n11_; have BK382 := n12_; have HB := n13_; clear n0_ n1_ n2_ n3_ n4_ n5_ n6_ n7_ n8_ n9_ n10_ n11_ n12_ n13_; (try clear hb); (try clear hb2); (try clear hk); (try clear hi); (try clear ho0); (try clear ho1)) | ((with_reducible refine gate_dst (N := 14) rfl ?_); refine box_event ?hg (N := 14) ?hd (cs := #[.int .i64 0, .int .i64 0, .slice none 0 0, .slice none 0 0]) (t := 25) ?hr ?_; (case hd => rfl); (case hg => rfl); (case hr => first | (go_simp; done) | (go_simp; rfl)); intro gb392 hg w55 hbox hb; have n0_ := zM (zvb (zve (by (with_reducible repeat (first | apply zva | apply zvn | apply zvd)); exact HO357.out) gb392 (zq hg.symm)) hb); have n1_ := zM (zvb (zve (by (with_reducible repeat (first | apply zva | apply zvn | apply zvd)); exact HO360.out) gb392 (zq hg.symm)) hb); have n2_ := zM (zvb (zve (by (with_reducible repeat (first | apply zva | apply zvn | apply zvd)); exact HO367.out) gb392 (zq hg.symm)) hb); have n3_ := zM (zvb (zve (by (with_reducible repeat (first | apply zva | apply zvn | apply zvd)); exact HO370.out) gb392 (zq hg.symm)) hb); have n4_ := zM (zvb (zve (by (with_reducible repeat (first | apply zva | apply zvn | apply zvd)); exact HO377.out) gb392 (zq hg.symm)) hb); have n5_ := zM (zvb (zve (by (with_reducible repeat (first | apply zva | apply zvn | apply zvd)); exact HO380.out) gb392 (zq hg.symm)) hb); have n6_ := zM (zvb (zve (by (with_reducible repeat (first | apply zva | apply zvn | apply zvd)); exact HO387.out) gb392 (zq hg.symm)) hb); have n7_ := zM (zvb (zve (by (with_reducible repeat (first | apply zva | apply zvn | apply zvd)); exact HO390.out) gb392 (zq hg.symm)) hb); have n8_ := zM (zb (g := gb350) (o := .cells #[.int .i64 a0_0, .int .i64 a0_1, .slice A0_2 l0_2.length c0_2, .slice A0_3 l0_3.length c0_3, .string a0_4, .int .i64 a0_5, .int .i64 a0_6] 46 (0, 0)) (by (with_reducible repeat (first | refine zn ?_ _ | refine zd ?_ | refine za ?_ _)); exact BK350.out) hb); have n9_ := zM (zb (g := gb351) (o := .cells #[.int .i64 a0_0, .int .i64 a0_1, .slice A0_2 l0_2.length c0_2, .slice A0_3 l0_3.length c0_3] 25 (0, 0)) (by (with_reducible repeat (first | refine zn ?_ _ | refine zd ?_ | refine za ?_ _)); exact BK351.out) hb); have n10_ := zM (zb (g := gb362) (o := .cells #[.int .i64 t353, .int .i64 t354, .slice Ao29 t355.length co29, .slice Ao30 t358.length co30] 25 (0, 0)) (by (with_reducible repeat (first | refine zn ?_ _ | refine zd ?_ | refine za ?_ _)); exact BK362.out) hb); have n11_ := zM (zb (g := gb372) (o := .cells #[.int .i64 t363, .int .i64 t364, .slice Ao39 t365.length co39, .slice Ao40 t368.length co40] 25 (0, 0)) (by (with_reducible repeat (first | refine zn ?_ _ | refine zd ?_ | refine za ?_ _)); exact BK372.out) hb); have n12_ := zM (zb (g := gb382) (o := .cells #[.int .i64 t373, .int .i64 t374, .slice Ao50 t375.length co50, .slice Ao51 t378.length co51] 25 (0, 0)) (by (with_reducible repeat (first | refine zn ?_ _ | refine zd ?_ | refine za ?_ _)); exact BK382.out) hb); have n13_ := zM (zp (by repeat (first | (with_reducible first | exact HB.out | apply zL | apply zN | apply zD | refine zJ ?_ GE350.out | refine zJ ?_ GE351.out | refine zJ ?_ GE362.out | refine zJ ?_ GE372.out | refine zJ ?_ GE382.out) | exact HB.out)) hb); have n14_ := zM (hbox); have n15_ := zM ((by rw [hg]; exact (zs (by repeat (first | (with_reducible first | exact HB.out | apply zL | apply zN | apply zD | refine zJ ?_ GE350.out | refine zJ ?_ GE351.out | refine zJ ?_ GE362.out | refine zJ ?_ GE372.out | refine zJ ?_ GE382.out) | exact HB.out))) : w.heap.size ≤ gb392)); have n16_ := zM ((by rw [hg]; exact (zs (by repeat (first | (with_reducible first | exact HB.out | apply zL | apply zN | apply zD | refine zJ ?_ GE350.out | refine zJ ?_ GE351.out | refine zJ ?_ GE362.out | refine zJ ?_ GE372.out | refine zJ ?_ GE382.out) | exact HB.out))) : w.heap.size ≤ gb392)); have n17_ := zM ((by rw [hg]; exact zt (blk_lt (g := gb350) (o := .cells #[.int .i64 a0_0, .int .i64 a0_1, .slice A0_2 l0_2.length c0_2, .slice A0_3 l0_3.length c0_3, .string a0_4, .int .i64 a0_5, .int .i64 a0_6] 46 (0, 0)) (by (with_reducible repeat (first | refine zn ?_ _ | refine zd ?_ | refine za ?_ _)); exact BK350.out)) : gb350 ≠ gb392)); have n18_ := zM ((by rw [hg]; exact Nat.ne_of_gt (blk_lt (g := gb350) (o := .cells #[.int .i64 a0_0, .int .i64 a0_1, .slice A0_2 l0_2.length c0_2, .slice A0_3 l0_3.length c0_3, .string a0_4, .int .i64 a0_5, .int .i64 a0_6] 46 (0, 0)) (by (with_reducible repeat (first | refine zn ?_ _ | refine zd ?_ | refine za ?_ _)); exact BK350.out)) : gb392 ≠ gb350)); have n19_ := zM ((by rw [hg]; exact zt (blk_lt (g := gb351) (o := .cells #[.int .i64 a0_0, .int .i64 a0_1, .slice A0_2 l0_2.length c0_2, .slice A0_3 l0_3.length c0_3] 25 (0, 0)) (by (with_reducible repeat (first | refine zn ?_ _ | refine zd ?_ | refine za ?_ _)); exact BK351.out)) : gb351 ≠ gb392)); have n20_ := zM ((by rw [hg]; exact Nat.ne_of_gt (blk_lt (g := gb351) (o := .cells #[.int .i64 a0_0, .int .i64 a0_1, .slice A0_2 l0_2.length c0_2, .slice A0_3 l0_3.length c0_3] 25 (0, 0)) (by (with_reducible repeat (first | refine zn ?_ _ | refine zd ?_ | refine za ?_ _)); exact BK351.out)) : gb392 ≠ gb351)); have n21_ := zM ((by rw [hg]; exact zt (blk_lt (g := gb362) (o := .cells #[.int .i64 t353, .int .i64 t354, .slice Ao29 t355.length co29, .slice Ao30 t358.length co30] 25 (0, 0)) (by (with_reducible repeat (first | refine zn ?_ _ | refine zd ?_ | refine za ?_ _)); exact BK362.out)) : gb362 ≠ gb392)); have n22_ := zM ((by rw [hg]; exact Nat.ne_of_gt (blk_lt (g := gb362) (o := .cells #[.int .i64 t353, .int .i64 t354, .slice Ao29 t355.length co29, .slice Ao30 t358.length co30] 25 (0, 0)) (by (with_reducible repeat (first | refine zn ?_ _ | refine zd ?_ | refine za ?_ _)); exact BK362.out)) : gb392 ≠ gb362)); have n23_ := zM ((by rw [hg]; exact zt (blk_lt (g := gb372) (o := .cells #[.int .i64 t363, .int .i64 t364, .slice Ao39 t365.length co39, .slice Ao40 t368.length co40] 25 (0, 0)) (by (with_reducible repeat (first | refine zn ?_ _ | refine zd ?_ | refine za ?_ _)); exact BK372.out)) : gb372 ≠ gb392)); have n24_ := zM ((by rw [hg]; exact Nat.ne_of_gt (blk_lt (g := gb372) (o := .cells #[.int .i64 t363, .int .i64 t364, .slice Ao39 t365.length co39, .slice Ao40 t368.length co40] 25 (0, 0)) (by (with_reducible repeat (first | refine zn ?_ _ | refine zd ?_ | refine za ?_ _)); exact BK372.out)) : gb392 ≠ gb372)); have n25_ := zM ((by rw [hg]; exact zt (blk_lt (g := gb382) (o := .cells #[.int .i64 t373, .int .i64 t374, .slice Ao50 t375.length co50, .slice Ao51 t378.length co51] 25 (0, 0)) (by (with_reducible repeat (first | refine zn ?_ _ | refine zd ?_ | refine za ?_ _)); exact BK382.out)) : gb382 ≠ gb392)); have n26_ := zM ((by rw [hg]; exact Nat.ne_of_gt (blk_lt (g := gb382) (o := .cells #[.int .i64 t373, .int .i64 t374, .slice Ao50 t375.length co50, .slice Ao51 t378.length co51] 25 (0, 0)) (by (with_reducible repeat (first | refine zn ?_ _ | refine zd ?_ | refine za ?_ _)); exact BK382.out)) : gb392 ≠ gb382)); clear HO357; clear HO360; clear HO367; clear HO370; clear HO377; clear HO380; clear HO387; clear HO390; clear BK350; clear BK351; clear BK362; clear BK372; clear BK382; clear HB; have HO357 := n0_; have HO360 := n1_; have HO367 := n2_; have HO370 := n3_; have HO377 := n4_; have HO380 := n5_; have HO387 := n6_; have HO390 := n7_; have BK350 := n8_; have BK351 := n9_; have BK362 := n10_; have BK372 := n11_; have BK382 := n12_; have HB := n13_; have BK392 := n14_; have GW392 := n15_; have GE392 := n16_; have NB350_392 := n17_; have NB392_350 := n18_; have NB351_392 := n19_; have NB392_351 := n20_; have NB362_392 := n21_; have NB392_362 := n22_; have NB372_392 := n23_; have NB392_372 := n24_; have NB382_392 := n25_; have NB392_382 := n26_; clear n0_ n1_ n2_ n3_ n4_ n5_ n6_ n7_ n8_ n9_ n10_ n11_ n12_ n13_ n14_ n15_ n16_ n17_ n18_ n19_ n20_ n21_ n22_ n23_ n24_ n25_ n26_; clear hb hbox hg; have hnb56 := NB392_350.out; have hnc56 := NB350_392.out; have hnb57 := NB392_351.out; have hnc57 := NB351_392.out; have hnb58 := NB392_362.out; have hnc58 := NB362_392.out; have hnb59 := NB392_372.out; have hnc59 := NB372_392.out; have hnb60 := NB392_382.out; have hnc60 := NB382_392.out; have hcz61_0 : w55.cell? ⟨gb392, 0, none⟩ = some (.int .i64 0) := (zc BK392.out 0).trans rfl; have hcz61_1 : w55.cell? ⟨gb392, 1, none⟩ = some (.int .i64 0) := (zc BK392.out 1).trans rfl; have hcz61_2 : w55.cell? ⟨gb392, 2, none⟩ = some (.slice none 0 0) := (zc BK392.out 2).trans rfl; have hcz61_3 : w55.cell? ⟨gb392, 3, none⟩ = some (.slice none 0 0) := (zc BK392.out 3).trans rfl; have hfz61_0 := zf BK392.out 0; have hfz61_1 := zf BK392.out 1; have hfz61_2 := zf BK392.out 2; have hfz61_3 := zf BK392.out 3; obtain ⟨Ao62, co62, eo62⟩ := Kd.V_slice HO387.out; subst eo62; obtain ⟨Ao63, co63, eo63⟩ := Kd.V_slice HO390.out; subst eo63))
    (try simp only [Act.put, zA, zZ, zS])
    go_cut [16] (fun v16 wc => ∃ (kq : Nat) (x16_20 : Bool), v16 = .bool x16_20 ∧ Aside0 (L16_LaneSubmits.j1 kq a0_5 a0_6 t352 t361 t371 t381 t391 x16_20 a0_0 a0_1 l0_2 l0_3 = some r) ∧ Aside0 (kq ≤ kj2) ∧ Aside0 (Kd.V Kd.string 9 wc w.heap.size (fun k_ => k_ ≠ gb350 ∧ k_ ≠ gb351 ∧ k_ ≠ gb362 ∧ k_ ≠ gb372 ∧ k_ ≠ gb382 ∧ k_ ≠ gb392) (.slice Ao29 t355.length co29) t355) ∧ Aside0 (Kd.V k42 42 wc w.heap.size (fun k_ => k_ ≠ gb350 ∧ k_ ≠ gb351 ∧ k_ ≠ gb362 ∧ k_ ≠ gb372 ∧ k_ ≠ gb382 ∧ k_ ≠ gb392) (.slice Ao30 t358.length co30) t358) ∧ Aside0 (Kd.V Kd.string 9 wc w.heap.size (fun k_ => k_ ≠ gb350 ∧ k_ ≠ gb351 ∧ k_ ≠ gb362 ∧ k_ ≠ gb372 ∧ k_ ≠ gb382 ∧ k_ ≠ gb392) (.slice Ao39 t365.length co39) t365) ∧ Aside0 (Kd.V k42 42 wc w.heap.size (fun k_ => k_ ≠ gb350 ∧ k_ ≠ gb351 ∧ k_ ≠ gb362 ∧ k_ ≠ gb372 ∧ k_ ≠ gb382 ∧ k_ ≠ gb392) (.slice Ao40 t368.length co40) t368) ∧ Aside0 (Kd.V Kd.string 9 wc w.heap.size (fun k_ => k_ ≠ gb350 ∧ k_ ≠ gb351 ∧ k_ ≠ gb362 ∧ k_ ≠ gb372 ∧ k_ ≠ gb382 ∧ k_ ≠ gb392) (.slice Ao50 t375.length co50) t375) ∧ Aside0 (Kd.V k42 42 wc w.heap.size (fun k_ => k_ ≠ gb350 ∧ k_ ≠ gb351 ∧ k_ ≠ gb362 ∧ k_ ≠ gb372 ∧ k_ ≠ gb382 ∧ k_ ≠ gb392) (.slice Ao51 t378.length co51) t378) ∧ Aside0 (Kd.V Kd.string 9 wc w.heap.size (fun k_ => k_ ≠ gb350 ∧ k_ ≠ gb351 ∧ k_ ≠ gb362 ∧ k_ ≠ gb372 ∧ k_ ≠ gb382 ∧ k_ ≠ gb392) (.slice Ao62 t385.length co62) t385) ∧ Aside0 (Kd.V k42 42 wc w.heap.size (fun k_ => k_ ≠ gb350 ∧ k_ ≠ gb351 ∧ k_ ≠ gb362 ∧ k_ ≠ gb372 ∧ k_ ≠ gb382 ∧ k_ ≠ gb392) (.slice Ao63 t388.length co63) t388) ∧ Aside0 (wc.heap[gb350]? = some (.cells #[.int .i64 a0_0, .int .i64 a0_1, (.slice A0_2 l0_2.length c0_2), (.slice A0_3 l0_3.length c0_3), .string a0_4, .int .i64 a0_5, .int .i64 a0_6] 46 (0, 0))) ∧ Aside0 (wc.heap[gb351]? = some (.cells #[.int .i64 a0_0, .int .i64 a0_1, (.slice A0_2 l0_2.length c0_2), (.slice A0_3 l0_3.length c0_3)] 25 (0, 0))) ∧ Aside0 (wc.heap[gb362]? = some (.cells #[.int .i64 t353, .int .i64 t354, (.slice Ao29 t355.length co29), (.slice Ao30 t358.length co30)] 25 (0, 0))) ∧ Aside0 (wc.heap[gb372]? = some (.cells #[.int .i64 t363, .int .i64 t364, (.slice Ao39 t365.length co39), (.slice Ao40 t368.length co40)] 25 (0, 0))) ∧ Aside0 (wc.heap[gb382]? = some (.cells #[.int .i64 t373, .int .i64 t374, (.slice Ao50 t375.length co50), (.slice Ao51 t378.length co51)] 25 (0, 0))) ∧ Aside0 (wc.heap[gb392]? = some (.cells #[.int .i64 t383, .int .i64 t384, (.slice Ao62 t385.length co62), (.slice Ao63 t388.length co63)] 25 (0, 0))) ∧ Aside0 (Below w.heap.size w wc))
    case first =>
     have H := HC21.out
     clear HC21
     replace H := Option.bind_eq_some_iff.mp H
     obtain ⟨t393, A640, H⟩ := H
     replace H : (if t393 = true then ((R16_Same.f kj2 t373 t374 t375 t378 t383 t384 t385 t388).bind fun t394 => (L16_LaneSubmits.j1 kj2 a0_5 a0_6 t352 t361 t371 t381 t391 t394 a0_0 a0_1 l0_2 l0_3)) else (L16_LaneSubmits.j1 kj2 a0_5 a0_6 t352 t361 t371 t381 t391 false a0_0 a0_1 l0_2 l0_3)) = some r := H
     have A64 := zM A640
     clear A640
     by_cases c65 : t393 = true
     ·subst c65
      have H1 : ((R16_Same.f kj2 t373 t374 t375 t378 t383 t384 t385 t388).bind fun t394 => (L16_LaneSubmits.j1 kj2 a0_5 a0_6 t352 t361 t371 t381 t391 t394 a0_0 a0_1 l0_2 l0_3)) = some r := by rw [if_pos rfl] at H; exact H
      clear H
      have H := H1
      clear H1
      replace H := Option.bind_eq_some_iff.mp H
      obtain ⟨t394, A660, H⟩ := H
      replace H : (L16_LaneSubmits.j1 kj2 a0_5 a0_6 t352 t361 t371 t381 t391 t394 a0_0 a0_1 l0_2 l0_3) = some r := H
      have A66 := zM A660
      clear A660
      have H' := zM H
      clear H
      have hnb67 := NB362_350.out
      have hnc67 := NB350_362.out
      have hnb68 := NB362_351.out
      have hnc68 := NB351_362.out
      have hnb69 := NB362_372.out
      have hnc69 := NB372_362.out
      have hnb70 := NB362_382.out
      have hnc70 := NB382_362.out
      have hnb71 := NB362_392.out
      have hnc71 := NB392_362.out
      have hcz72_0 : w55.cell? ⟨gb362, 0, none⟩ = some (.int .i64 t353) := (zc BK362.out 0).trans rfl
      have hcz72_1 : w55.cell? ⟨gb362, 1, none⟩ = some (.int .i64 t354) := (zc BK362.out 1).trans rfl
      have hcz72_2 : w55.cell? ⟨gb362, 2, none⟩ = some (.slice Ao29 t355.length co29) := (zc BK362.out 2).trans rfl
      have hcz72_3 : w55.cell? ⟨gb362, 3, none⟩ = some (.slice Ao30 t358.length co30) := (zc BK362.out 3).trans rfl
      have hfz72_0 := zf BK362.out 0
      have hfz72_1 := zf BK362.out 1
      have hfz72_2 := zf BK362.out 2
      have hfz72_3 := zf BK362.out 3
      have hnb73 := NB372_350.out
      have hnc73 := NB350_372.out
      have hnb74 := NB372_351.out
      have hnc74 := NB351_372.out
      have hnb75 := NB372_382.out
      have hnc75 := NB382_372.out
      have hnb76 := NB372_392.out
      have hnc76 := NB392_372.out
      have hcz77_0 : w55.cell? ⟨gb372, 0, none⟩ = some (.int .i64 t363) := (zc BK372.out 0).trans rfl
      have hcz77_1 : w55.cell? ⟨gb372, 1, none⟩ = some (.int .i64 t364) := (zc BK372.out 1).trans rfl
      have hcz77_2 : w55.cell? ⟨gb372, 2, none⟩ = some (.slice Ao39 t365.length co39) := (zc BK372.out 2).trans rfl
      have hcz77_3 : w55.cell? ⟨gb372, 3, none⟩ = some (.slice Ao40 t368.length co40) := (zc BK372.out 3).trans rfl
      have hfz77_0 := zf BK372.out 0
      have hfz77_1 := zf BK372.out 1
      have hfz77_2 := zf BK372.out 2
      have hfz77_3 := zf BK372.out 3
      go_wp2_with (first | ((with_reducible refine gate_callee (f := 21) rfl ?_); refine goesL_ (some 61) rfl rfl Try.func21 (by kernel_rfl) rfl #[.agg #[.int .i64 t353, .int .i64 t354, .slice Ao29 t355.length co29, .slice Ao30 t358.length co30], .agg #[.int .i64 t363, .int .i64 t364, .slice Ao39 t365.length co39, .slice Ao40 t368.length co40]] rfl (by (try simp only [List.map_toArray, List.map_cons, List.map_nil]); first | done | rfl | (simp only [List.length_drop, List.length_take]; rfl)) ?_; (with_reducible refine (R16_Same.calls kj2 t353 t354 _ _ t355 _ _ t358 t363 t364 _ _ t365 _ _ t368 true _ ?side1 ?side2 ?side3 ?side4 ?side5 ?side6 ?side7 ?side8 A64.out).mono ?_); (case side1 => refine (Kd.V_reads' (e := 9) (base := w.heap.size) (ok := fun k_ => ((k_ ≠ gb350 ∧ (k_ ≠ gb351 ∧ (k_ ≠ gb362 ∧ (k_ ≠ gb372 ∧ k_ ≠ gb382)))) ∧ k_ ≠ gb392)) (n := t355.length) (c := co29) ?_).2.2; exact (by (with_reducible repeat (first | apply zva | apply zvn | apply zvd)); exact (zvm (zvf (p := ⟨gb392, 3, none⟩) (zvf (p := ⟨gb392, 2, none⟩) (zvf (p := ⟨gb392, 1, none⟩) (zvf (p := ⟨gb392, 0, none⟩) (zvm HO357.out (fun k_ hk => (⟨hk, hk.2⟩ : _ ∧ k_ ≠ gb392))) (fun _ hk => hk.2) (.int .i64 t383)) (fun _ hk => hk.2) (.int .i64 t384)) (fun _ hk => hk.2) (.slice Ao62 t385.length co62)) (fun _ hk => hk.2) (.slice Ao63 t388.length co63)) (fun _ h_ => h_.1)))); (case side2 => exact (Kd.V_reads' HO357.out).2.1); (case side3 => refine (Kd.V_reads' (e := 42) (base := w.heap.size) (ok := fun k_ => ((k_ ≠ gb350 ∧ (k_ ≠ gb351 ∧ (k_ ≠ gb362 ∧ (k_ ≠ gb372 ∧ k_ ≠ gb382)))) ∧ k_ ≠ gb392)) (n := t358.length) (c := co30) ?_).2.2; exact (by (with_reducible repeat (first | apply zva | apply zvn | apply zvd)); exact (zvm (zvf (p := ⟨gb392, 3, none⟩) (zvf (p := ⟨gb392, 2, none⟩) (zvf (p := ⟨gb392, 1, none⟩) (zvf (p := ⟨gb392, 0, none⟩) (zvm HO360.out (fun k_ hk => (⟨hk, hk.2⟩ : _ ∧ k_ ≠ gb392))) (fun _ hk => hk.2) (.int .i64 t383)) (fun _ hk => hk.2) (.int .i64 t384)) (fun _ hk => hk.2) (.slice Ao62 t385.length co62)) (fun _ hk => hk.2) (.slice Ao63 t388.length co63)) (fun _ h_ => h_.1)))); (case side4 => exact (Kd.V_reads' HO360.out).2.1); (case side5 => refine (Kd.V_reads' (e := 9) (base := w.heap.size) (ok := fun k_ => ((k_ ≠ gb350 ∧ (k_ ≠ gb351 ∧ (k_ ≠ gb362 ∧ (k_ ≠ gb372 ∧ k_ ≠ gb382)))) ∧ k_ ≠ gb392)) (n := t365.length) (c := co39) ?_).2.2; exact (by (with_reducible repeat (first | apply zva | apply zvn | apply zvd)); exact (zvm (zvf (p := ⟨gb392, 3, none⟩) (zvf (p := ⟨gb392, 2, none⟩) (zvf (p := ⟨gb392, 1, none⟩) (zvf (p := ⟨gb392, 0, none⟩) (zvm HO367.out (fun k_ hk => (⟨hk, hk.2⟩ : _ ∧ k_ ≠ gb392))) (fun _ hk => hk.2) (.int .i64 t383)) (fun _ hk => hk.2) (.int .i64 t384)) (fun _ hk => hk.2) (.slice Ao62 t385.length co62)) (fun _ hk => hk.2) (.slice Ao63 t388.length co63)) (fun _ h_ => h_.1)))); (case side6 => exact (Kd.V_reads' HO367.out).2.1); (case side7 => refine (Kd.V_reads' (e := 42) (base := w.heap.size) (ok := fun k_ => ((k_ ≠ gb350 ∧ (k_ ≠ gb351 ∧ (k_ ≠ gb362 ∧ (k_ ≠ gb372 ∧ k_ ≠ gb382)))) ∧ k_ ≠ gb392)) (n := t368.length) (c := co40) ?_).2.2; exact (by (with_reducible repeat (first | apply zva | apply zvn | apply zvd)); exact (zvm (zvf (p := ⟨gb392, 3, none⟩) (zvf (p := ⟨gb392, 2, none⟩) (zvf (p := ⟨gb392, 1, none⟩) (zvf (p := ⟨gb392, 0, none⟩) (zvm HO370.out (fun k_ hk => (⟨hk, hk.2⟩ : _ ∧ k_ ≠ gb392))) (fun _ hk => hk.2) (.int .i64 t383)) (fun _ hk => hk.2) (.int .i64 t384)) (fun _ hk => hk.2) (.slice Ao62 t385.length co62)) (fun _ hk => hk.2) (.slice Ao63 t388.length co63)) (fun _ h_ => h_.1)))); (case side8 => exact (Kd.V_reads' HO370.out).2.1); rintro e w78 ⟨rfl, hb⟩; refine ⟨_, rfl, ?_⟩; have n0_ := zM (zvb (by (with_reducible repeat (first | apply zva | apply zvn | apply zvd)); exact (zvm (zvf (p := ⟨gb392, 3, none⟩) (zvf (p := ⟨gb392, 2, none⟩) (zvf (p := ⟨gb392, 1, none⟩) (zvf (p := ⟨gb392, 0, none⟩) (zvm HO357.out (fun k_ hk => (⟨hk, hk.2⟩ : _ ∧ k_ ≠ gb392))) (fun _ hk => hk.2) (.int .i64 t383)) (fun _ hk => hk.2) (.int .i64 t384)) (fun _ hk => hk.2) (.slice Ao62 t385.length co62)) (fun _ hk => hk.2) (.slice Ao63 t388.length co63)) (fun _ h_ => h_.1))) hb); have n1_ := zM (zvb (by (with_reducible repeat (first | apply zva | apply zvn | apply zvd)); exact (zvm (zvf (p := ⟨gb392, 3, none⟩) (zvf (p := ⟨gb392, 2, none⟩) (zvf (p := ⟨gb392, 1, none⟩) (zvf (p := ⟨gb392, 0, none⟩) (zvm HO360.out (fun k_ hk => (⟨hk, hk.2⟩ : _ ∧ k_ ≠ gb392))) (fun _ hk => hk.2) (.int .i64 t383)) (fun _ hk => hk.2) (.int .i64 t384)) (fun _ hk => hk.2) (.slice Ao62 t385.length co62)) (fun _ hk => hk.2) (.slice Ao63 t388.length co63)) (fun _ h_ => h_.1))) hb); have n2_ := zM (zvb (by (with_reducible repeat (first | apply zva | apply zvn | apply zvd)); exact (zvm (zvf (p := ⟨gb392, 3, none⟩) (zvf (p := ⟨gb392, 2, none⟩) (zvf (p := ⟨gb392, 1, none⟩) (zvf (p := ⟨gb392, 0, none⟩) (zvm HO367.out (fun k_ hk => (⟨hk, hk.2⟩ : _ ∧ k_ ≠ gb392))) (fun _ hk => hk.2) (.int .i64 t383)) (fun _ hk => hk.2) (.int .i64 t384)) (fun _ hk => hk.2) (.slice Ao62 t385.length co62)) (fun _ hk => hk.2) (.slice Ao63 t388.length co63)) (fun _ h_ => h_.1))) hb); have n3_ := zM (zvb (by (with_reducible repeat (first | apply zva | apply zvn | apply zvd)); exact (zvm (zvf (p := ⟨gb392, 3, none⟩) (zvf (p := ⟨gb392, 2, none⟩) (zvf (p := ⟨gb392, 1, none⟩) (zvf (p := ⟨gb392, 0, none⟩) (zvm HO370.out (fun k_ hk => (⟨hk, hk.2⟩ : _ ∧ k_ ≠ gb392))) (fun _ hk => hk.2) (.int .i64 t383)) (fun _ hk => hk.2) (.int .i64 t384)) (fun _ hk => hk.2) (.slice Ao62 t385.length co62)) (fun _ hk => hk.2) (.slice Ao63 t388.length co63)) (fun _ h_ => h_.1))) hb); have n4_ := zM (zvb (by (with_reducible repeat (first | apply zva | apply zvn | apply zvd)); exact (zvm (zvf (p := ⟨gb392, 3, none⟩) (zvf (p := ⟨gb392, 2, none⟩) (zvf (p := ⟨gb392, 1, none⟩) (zvf (p := ⟨gb392, 0, none⟩) (zvm HO377.out (fun k_ hk => (⟨hk, hk.2⟩ : _ ∧ k_ ≠ gb392))) (fun _ hk => hk.2) (.int .i64 t383)) (fun _ hk => hk.2) (.int .i64 t384)) (fun _ hk => hk.2) (.slice Ao62 t385.length co62)) (fun _ hk => hk.2) (.slice Ao63 t388.length co63)) (fun _ h_ => h_.1))) hb); have n5_ := zM (zvb (by (with_reducible repeat (first | apply zva | apply zvn | apply zvd)); exact (zvm (zvf (p := ⟨gb392, 3, none⟩) (zvf (p := ⟨gb392, 2, none⟩) (zvf (p := ⟨gb392, 1, none⟩) (zvf (p := ⟨gb392, 0, none⟩) (zvm HO380.out (fun k_ hk => (⟨hk, hk.2⟩ : _ ∧ k_ ≠ gb392))) (fun _ hk => hk.2) (.int .i64 t383)) (fun _ hk => hk.2) (.int .i64 t384)) (fun _ hk => hk.2) (.slice Ao62 t385.length co62)) (fun _ hk => hk.2) (.slice Ao63 t388.length co63)) (fun _ h_ => h_.1))) hb); have n6_ := zM (zvb (by (with_reducible repeat (first | apply zva | apply zvn | apply zvd)); exact (zvm (zvf (p := ⟨gb392, 3, none⟩) (zvf (p := ⟨gb392, 2, none⟩) (zvf (p := ⟨gb392, 1, none⟩) (zvf (p := ⟨gb392, 0, none⟩) (zvm HO387.out (fun k_ hk => (⟨hk, hk.2⟩ : _ ∧ k_ ≠ gb392))) (fun _ hk => hk.2) (.int .i64 t383)) (fun _ hk => hk.2) (.int .i64 t384)) (fun _ hk => hk.2) (.slice Ao62 t385.length co62)) (fun _ hk => hk.2) (.slice Ao63 t388.length co63)) (fun _ h_ => h_.1))) hb); have n7_ := zM (zvb (by (with_reducible repeat (first | apply zva | apply zvn | apply zvd)); exact (zvm (zvf (p := ⟨gb392, 3, none⟩) (zvf (p := ⟨gb392, 2, none⟩) (zvf (p := ⟨gb392, 1, none⟩) (zvf (p := ⟨gb392, 0, none⟩) (zvm HO390.out (fun k_ hk => (⟨hk, hk.2⟩ : _ ∧ k_ ≠ gb392))) (fun _ hk => hk.2) (.int .i64 t383)) (fun _ hk => hk.2) (.int .i64 t384)) (fun _ hk => hk.2) (.slice Ao62 t385.length co62)) (fun _ hk => hk.2) (.slice Ao63 t388.length co63)) (fun _ h_ => h_.1))) hb); have n8_ := zM (zb (g := gb350) (o := .cells #[.int .i64 a0_0, .int .i64 a0_1, .slice A0_2 l0_2.length c0_2, .slice A0_3 l0_3.length c0_3, .string a0_4, .int .i64 a0_5, .int .i64 a0_6] 46 (0, 0)) (by (with_reducible repeat (first | refine zn ?_ _ | refine zd ?_ | refine za ?_ _)); refine zF ?_ NB350_392.out _; (with_reducible repeat (first | refine zn ?_ _ | refine zd ?_ | refine za ?_ _)); refine zF ?_ NB350_392.out _; (with_reducible repeat (first | refine zn ?_ _ | refine zd ?_ | refine za ?_ _)); refine zF ?_ NB350_392.out _; (with_reducible repeat (first | refine zn ?_ _ | refine zd ?_ | refine za ?_ _)); refine zF ?_ NB350_392.out _; (with_reducible repeat (first | refine zn ?_ _ | refine zd ?_ | refine za ?_ _)); exact BK350.out) hb); have n9_ := zM (zb (g := gb351) (o := .cells #[.int .i64 a0_0, .int .i64 a0_1, .slice A0_2 l0_2.length c0_2, .slice A0_3 l0_3.length c0_3] 25 (0, 0)) (by (with_reducible repeat (first | refine zn ?_ _ | refine zd ?_ | refine za ?_ _)); refine zF ?_ NB351_392.out _; (with_reducible repeat (first | refine zn ?_ _ | refine zd ?_ | refine za ?_ _)); refine zF ?_ NB351_392.out _; (with_reducible repeat (first | refine zn ?_ _ | refine zd ?_ | refine za ?_ _)); refine zF ?_ NB351_392.out _; (with_reducible repeat (first | refine zn ?_ _ | refine zd ?_ | refine za ?_ _)); refine zF ?_ NB351_392.out _; (with_reducible repeat (first | refine zn ?_ _ | refine zd ?_ | refine za ?_ _)); exact BK351.out) hb); have n10_ := zM (zb (g := gb362) (o := .cells #[.int .i64 t353, .int .i64 t354, .slice Ao29 t355.length co29, .slice Ao30 t358.length co30] 25 (0, 0)) (by (with_reducible repeat (first | refine zn ?_ _ | refine zd ?_ | refine za ?_ _)); refine zF ?_ NB362_392.out _; (with_reducible repeat (first | refine zn ?_ _ | refine zd ?_ | refine za ?_ _)); refine zF ?_ NB362_392.out _; (with_reducible repeat (first | refine zn ?_ _ | refine zd ?_ | refine za ?_ _)); refine zF ?_ NB362_392.out _; (with_reducible repeat (first | refine zn ?_ _ | refine zd ?_ | refine za ?_ _)); refine zF ?_ NB362_392.out _; (with_reducible repeat (first | refine zn ?_ _ | refine zd ?_ | refine za ?_ _)); exact BK362.out) hb); have n11_ := zM (zb (g := gb372) (o := .cells #[.int .i64 t363, .int .i64 t364, .slice Ao39 t365.length co39, .slice Ao40 t368.length co40] 25 (0, 0)) (by (with_reducible repeat (first | refine zn ?_ _ | refine zd ?_ | refine za ?_ _)); refine zF ?_ NB372_392.out _; (with_reducible repeat (first | refine zn ?_ _ | refine zd ?_ | refine za ?_ _)); refine zF ?_ NB372_392.out _; (with_reducible repeat (first | refine zn ?_ _ | refine zd ?_ | refine za ?_ _)); refine zF ?_ NB372_392.out _; (with_reducible repeat (first | refine zn ?_ _ | refine zd ?_ | refine za ?_ _)); refine zF ?_ NB372_392.out _; (with_reducible repeat (first | refine zn ?_ _ | refine zd ?_ | refine za ?_ _)); exact BK372.out) hb); have n12_ := zM (zb (g := gb382) (o := .cells #[.int .i64 t373, .int .i64 t374, .slice Ao50 t375.length co50, .slice Ao51 t378.length co51] 25 (0, 0)) (by (with_reducible repeat (first | refine zn ?_ _ | refine zd ?_ | refine za ?_ _)); refine zF ?_ NB382_392.out _; (with_reducible repeat (first | refine zn ?_ _ | refine zd ?_ | refine za ?_ _)); refine zF ?_ NB382_392.out _; (with_reducible repeat (first | refine zn ?_ _ | refine zd ?_ | refine za ?_ _)); refine zF ?_ NB382_392.out _; (with_reducible repeat (first | refine zn ?_ _ | refine zd ?_ | refine za ?_ _)); refine zF ?_ NB382_392.out _; (with_reducible repeat (first | refine zn ?_ _ | refine zd ?_ | refine za ?_ _)); exact BK382.out) hb); have n13_ := zM (zb (g := gb392) (o := .cells #[.int .i64 t383, .int .i64 t384, .slice Ao62 t385.length co62, .slice Ao63 t388.length co63] 25 (0, 0)) (by (with_reducible repeat (first | refine zn ?_ _ | refine zd ?_ | refine za ?_ _)); refine zP (cs := #[.int .i64 t383, .int .i64 t384, .slice Ao62 t385.length co62, .slice none 0 0]) ?_ 3 _ rfl; (with_reducible repeat (first | refine zn ?_ _ | refine zd ?_ | refine za ?_ _)); refine zP (cs := #[.int .i64 t383, .int .i64 t384, .slice none 0 0, .slice none 0 0]) ?_ 2 _ rfl; (with_reducible repeat (first | refine zn ?_ _ | refine zd ?_ | refine za ?_ _)); refine zP (cs := #[.int .i64 t383, .int .i64 0, .slice none 0 0, .slice none 0 0]) ?_ 1 _ rfl; (with_reducible repeat (first | refine zn ?_ _ | refine zd ?_ | refine za ?_ _)); refine zP (cs := #[.int .i64 0, .int .i64 0, .slice none 0 0, .slice none 0 0]) ?_ 0 _ rfl; (with_reducible repeat (first | refine zn ?_ _ | refine zd ?_ | refine za ?_ _)); exact BK392.out) hb); have n14_ := zM (zp (by repeat (first | (with_reducible first | exact HB.out | apply zL | apply zN | apply zD | refine zJ ?_ GE350.out | refine zJ ?_ GE351.out | refine zJ ?_ GE362.out | refine zJ ?_ GE372.out | refine zJ ?_ GE382.out | refine zJ ?_ GE392.out) | exact HB.out)) hb); clear HO357; clear HO360; clear HO367; clear HO370; clear HO377; clear HO380; clear HO387; clear HO390; clear BK350; clear BK351; clear BK362; clear BK372; clear BK382; clear BK392; clear HB; have HO357 := n0_; have HO360 := n1_; have HO367 := n2_; have HO370 := n3_; have HO377 := n4_; have HO380 := n5_; have HO387 := n6_; have HO390 := n7_; have BK350 := n8_; have BK351 := n9_; have BK362 := n10_; have BK372 := n11_; have BK382 := n12_; have BK392 := n13_; have HB := n14_; clear n0_ n1_ n2_ n3_ n4_ n5_ n6_ n7_ n8_ n9_ n10_ n11_ n12_ n13_ n14_; (try clear hb); (try clear hb2); (try clear hk); (try clear hi); have hnb79 := NB382_350.out; have hnc79 := NB350_382.out; have hnb80 := NB382_351.out; have hnc80 := NB351_382.out; have hnb81 := NB382_392.out; have hnc81 := NB392_382.out; have hcz82_0 : w78.cell? ⟨gb382, 0, none⟩ = some (.int .i64 t373) := (zc BK382.out 0).trans rfl; have hcz82_1 : w78.cell? ⟨gb382, 1, none⟩ = some (.int .i64 t374) := (zc BK382.out 1).trans rfl; have hcz82_2 : w78.cell? ⟨gb382, 2, none⟩ = some (.slice Ao50 t375.length co50) := (zc BK382.out 2).trans rfl; have hcz82_3 : w78.cell? ⟨gb382, 3, none⟩ = some (.slice Ao51 t378.length co51) := (zc BK382.out 3).trans rfl; have hfz82_0 := zf BK382.out 0; have hfz82_1 := zf BK382.out 1; have hfz82_2 := zf BK382.out 2; have hfz82_3 := zf BK382.out 3; have hnb83 := NB392_350.out; have hnc83 := NB350_392.out; have hnb84 := NB392_351.out; have hnc84 := NB351_392.out; have hcz85_0 : w78.cell? ⟨gb392, 0, none⟩ = some (.int .i64 t383) := (zc BK392.out 0).trans rfl; have hcz85_1 : w78.cell? ⟨gb392, 1, none⟩ = some (.int .i64 t384) := (zc BK392.out 1).trans rfl; have hcz85_2 : w78.cell? ⟨gb392, 2, none⟩ = some (.slice Ao62 t385.length co62) := (zc BK392.out 2).trans rfl; have hcz85_3 : w78.cell? ⟨gb392, 3, none⟩ = some (.slice Ao63 t388.length co63) := (zc BK392.out 3).trans rfl; have hfz85_0 := zf BK392.out 0; have hfz85_1 := zf BK392.out 1; have hfz85_2 := zf BK392.out 2; have hfz85_3 := zf BK392.out 3) | (go_at_call 21; (with_reducible refine (R16_Same.calls kj2 t373 t374 _ _ t375 _ _ t378 t383 t384 _ _ t385 _ _ t388 t394 _ ?side1 ?side2 ?side3 ?side4 ?side5 ?side6 ?side7 ?side8 A66.out).mono ?_); (case side1 => repeat (first | exact (Kd.V_reads' HO377.out).2.2 | (with_reducible refine zca ?_ _) | (with_reducible refine zcn ?_ _) | (with_reducible refine zcd ?_))); (case side2 => exact (Kd.V_reads' HO377.out).2.1); (case side3 => repeat (first | exact (Kd.V_reads' HO380.out).2.2 | (with_reducible refine zca ?_ _) | (with_reducible refine zcn ?_ _) | (with_reducible refine zcd ?_))); (case side4 => exact (Kd.V_reads' HO380.out).2.1); (case side5 => repeat (first | exact (Kd.V_reads' HO387.out).2.2 | (with_reducible refine zca ?_ _) | (with_reducible refine zcn ?_ _) | (with_reducible refine zcd ?_))); (case side6 => exact (Kd.V_reads' HO387.out).2.1); (case side7 => repeat (first | exact (Kd.V_reads' HO390.out).2.2 | (with_reducible refine zca ?_ _) | (with_reducible refine zcn ?_ _) | (with_reducible refine zcd ?_))); (case side8 => exact (Kd.V_reads' HO390.out).2.1); rintro e w86 ⟨rfl, hb⟩; have n0_ := zM (zvb (by (with_reducible repeat (first | apply zva | apply zvn | apply zvd)); exact HO357.out) hb); have n1_ := zM (zvb (by (with_reducible repeat (first | apply zva | apply zvn | apply zvd)); exact HO360.out) hb); have n2_ := zM (zvb (by (with_reducible repeat (first | apply zva | apply zvn | apply zvd)); exact HO367.out) hb); have n3_ := zM (zvb (by (with_reducible repeat (first | apply zva | apply zvn | apply zvd)); exact HO370.out) hb); have n4_ := zM (zvb (by (with_reducible repeat (first | apply zva | apply zvn | apply zvd)); exact HO377.out) hb); have n5_ := zM (zvb (by (with_reducible repeat (first | apply zva | apply zvn | apply zvd)); exact HO380.out) hb); have n6_ := zM (zvb (by (with_reducible repeat (first | apply zva | apply zvn | apply zvd)); exact HO387.out) hb); have n7_ := zM (zvb (by (with_reducible repeat (first | apply zva | apply zvn | apply zvd)); exact HO390.out) hb); have n8_ := zM (zb (g := gb350) (o := .cells #[.int .i64 a0_0, .int .i64 a0_1, .slice A0_2 l0_2.length c0_2, .slice A0_3 l0_3.length c0_3, .string a0_4, .int .i64 a0_5, .int .i64 a0_6] 46 (0, 0)) (by (with_reducible repeat (first | refine zn ?_ _ | refine zd ?_ | refine za ?_ _)); exact BK350.out) hb); have n9_ := zM (zb (g := gb351) (o := .cells #[.int .i64 a0_0, .int .i64 a0_1, .slice A0_2 l0_2.length c0_2, .slice A0_3 l0_3.length c0_3] 25 (0, 0)) (by (with_reducible repeat (first | refine zn ?_ _ | refine zd ?_ | refine za ?_ _)); exact BK351.out) hb); have n10_ := zM (zb (g := gb362) (o := .cells #[.int .i64 t353, .int .i64 t354, .slice Ao29 t355.length co29, .slice Ao30 t358.length co30] 25 (0, 0)) (by (with_reducible repeat (first | refine zn ?_ _ | refine zd ?_ | refine za ?_ _)); exact BK362.out) hb); have n11_ := zM (zb (g := gb372) (o := .cells #[.int .i64 t363, .int .i64 t364, .slice Ao39 t365.length co39, .slice Ao40 t368.length co40] 25 (0, 0)) (by (with_reducible repeat (first | refine zn ?_ _ | refine zd ?_ | refine za ?_ _)); exact BK372.out) hb); have n12_ := zM (zb (g := gb382) (o := .cells #[.int .i64 t373, .int .i64 t374, .slice Ao50 t375.length co50, .slice Ao51 t378.length co51] 25 (0, 0)) (by (with_reducible repeat (first | refine zn ?_ _ | refine zd ?_ | refine za ?_ _)); exact BK382.out) hb); have n13_ := zM (zb (g := gb392) (o := .cells #[.int .i64 t383, .int .i64 t384, .slice Ao62 t385.length co62, .slice Ao63 t388.length co63] 25 (0, 0)) (by (with_reducible repeat (first | refine zn ?_ _ | refine zd ?_ | refine za ?_ _)); exact BK392.out) hb); have n14_ := zM (zp (by repeat (first | (with_reducible first | exact HB.out | apply zL | apply zN | apply zD | refine zJ ?_ GE350.out | refine zJ ?_ GE351.out | refine zJ ?_ GE362.out | refine zJ ?_ GE372.out | refine zJ ?_ GE382.out | refine zJ ?_ GE392.out) | exact HB.out)) hb); clear HO357; clear HO360; clear HO367; clear HO370; clear HO377; clear HO380; clear HO387; clear HO390; clear BK350; clear BK351; clear BK362; clear BK372; clear BK382; clear BK392; clear HB; have HO357 := n0_; have HO360 := n1_; have HO367 := n2_; have HO370 := n3_; have HO377 := n4_; have HO380 := n5_; have HO387 := n6_; have HO390 := n7_; have BK350 := n8_; have BK351 := n9_; have BK362 := n10_; have BK372 := n11_; have BK382 := n12_; have BK392 := n13_; have HB := n14_; clear n0_ n1_ n2_ n3_ n4_ n5_ n6_ n7_ n8_ n9_ n10_ n11_ n12_ n13_ n14_; (try clear hb); (try clear hb2); (try clear hk); (try clear hi)))
      go_meet
      case rel => exact ⟨_, (t394), (by first | rfl | (simp; done) | (simp [*]; done)), H', ⟨by have := HJ2.out; first | omega | exact Nat.le_refl _⟩, ⟨by (with_reducible repeat (first | apply zva | apply zvn | apply zvd)); exact zvm HO357.out (fun _ hk => ⟨hk.1.1, ⟨hk.1.2.1, ⟨hk.1.2.2.1, ⟨hk.1.2.2.2.1, ⟨hk.1.2.2.2.2, hk.2⟩⟩⟩⟩⟩)⟩, ⟨by (with_reducible repeat (first | apply zva | apply zvn | apply zvd)); exact zvm HO360.out (fun _ hk => ⟨hk.1.1, ⟨hk.1.2.1, ⟨hk.1.2.2.1, ⟨hk.1.2.2.2.1, ⟨hk.1.2.2.2.2, hk.2⟩⟩⟩⟩⟩)⟩, ⟨by (with_reducible repeat (first | apply zva | apply zvn | apply zvd)); exact zvm HO367.out (fun _ hk => ⟨hk.1.1, ⟨hk.1.2.1, ⟨hk.1.2.2.1, ⟨hk.1.2.2.2.1, ⟨hk.1.2.2.2.2, hk.2⟩⟩⟩⟩⟩)⟩, ⟨by (with_reducible repeat (first | apply zva | apply zvn | apply zvd)); exact zvm HO370.out (fun _ hk => ⟨hk.1.1, ⟨hk.1.2.1, ⟨hk.1.2.2.1, ⟨hk.1.2.2.2.1, ⟨hk.1.2.2.2.2, hk.2⟩⟩⟩⟩⟩)⟩, ⟨by (with_reducible repeat (first | apply zva | apply zvn | apply zvd)); exact zvm HO377.out (fun _ hk => ⟨hk.1.1, ⟨hk.1.2.1, ⟨hk.1.2.2.1, ⟨hk.1.2.2.2.1, ⟨hk.1.2.2.2.2, hk.2⟩⟩⟩⟩⟩)⟩, ⟨by (with_reducible repeat (first | apply zva | apply zvn | apply zvd)); exact zvm HO380.out (fun _ hk => ⟨hk.1.1, ⟨hk.1.2.1, ⟨hk.1.2.2.1, ⟨hk.1.2.2.2.1, ⟨hk.1.2.2.2.2, hk.2⟩⟩⟩⟩⟩)⟩, ⟨by (with_reducible repeat (first | apply zva | apply zvn | apply zvd)); exact zvm HO387.out (fun _ hk => ⟨hk.1.1, ⟨hk.1.2.1, ⟨hk.1.2.2.1, ⟨hk.1.2.2.2.1, ⟨hk.1.2.2.2.2, hk.2⟩⟩⟩⟩⟩)⟩, ⟨by (with_reducible repeat (first | apply zva | apply zvn | apply zvd)); exact zvm HO390.out (fun _ hk => ⟨hk.1.1, ⟨hk.1.2.1, ⟨hk.1.2.2.1, ⟨hk.1.2.2.2.1, ⟨hk.1.2.2.2.2, hk.2⟩⟩⟩⟩⟩)⟩, ⟨by (with_reducible repeat (first | refine zn ?_ _ | refine zd ?_ | refine za ?_ _)); exact BK350.out⟩, ⟨by (with_reducible repeat (first | refine zn ?_ _ | refine zd ?_ | refine za ?_ _)); exact BK351.out⟩, ⟨by (with_reducible repeat (first | refine zn ?_ _ | refine zd ?_ | refine za ?_ _)); exact BK362.out⟩, ⟨by (with_reducible repeat (first | refine zn ?_ _ | refine zd ?_ | refine za ?_ _)); exact BK372.out⟩, ⟨by (with_reducible repeat (first | refine zn ?_ _ | refine zd ?_ | refine za ?_ _)); exact BK382.out⟩, ⟨by (with_reducible repeat (first | refine zn ?_ _ | refine zd ?_ | refine za ?_ _)); exact BK392.out⟩, ⟨by repeat (first | (with_reducible first | exact HB.out | apply zL | apply zN | apply zD | refine zJ ?_ GE350.out | refine zJ ?_ GE351.out | refine zJ ?_ GE362.out | refine zJ ?_ GE372.out | refine zJ ?_ GE382.out | refine zJ ?_ GE392.out) | exact HB.out)⟩⟩
     ·replace c65 := Bool.eq_false_iff.mpr c65
      subst c65
      have H1 : (L16_LaneSubmits.j1 kj2 a0_5 a0_6 t352 t361 t371 t381 t391 false a0_0 a0_1 l0_2 l0_3) = some r := by rw [if_neg (show ¬ (false = true) by decide)] at H; exact H
      clear H
      have H := H1
      clear H1
      have H' := zM H
      clear H
      have hnb87 := NB362_350.out
      have hnc87 := NB350_362.out
      have hnb88 := NB362_351.out
      have hnc88 := NB351_362.out
      have hnb89 := NB362_372.out
      have hnc89 := NB372_362.out
      have hnb90 := NB362_382.out
      have hnc90 := NB382_362.out
      have hnb91 := NB362_392.out
      have hnc91 := NB392_362.out
      have hcz92_0 : w55.cell? ⟨gb362, 0, none⟩ = some (.int .i64 t353) := (zc BK362.out 0).trans rfl
      have hcz92_1 : w55.cell? ⟨gb362, 1, none⟩ = some (.int .i64 t354) := (zc BK362.out 1).trans rfl
      have hcz92_2 : w55.cell? ⟨gb362, 2, none⟩ = some (.slice Ao29 t355.length co29) := (zc BK362.out 2).trans rfl
      have hcz92_3 : w55.cell? ⟨gb362, 3, none⟩ = some (.slice Ao30 t358.length co30) := (zc BK362.out 3).trans rfl
      have hfz92_0 := zf BK362.out 0
      have hfz92_1 := zf BK362.out 1
      have hfz92_2 := zf BK362.out 2
      have hfz92_3 := zf BK362.out 3
      have hnb93 := NB372_350.out
      have hnc93 := NB350_372.out
      have hnb94 := NB372_351.out
      have hnc94 := NB351_372.out
      have hnb95 := NB372_382.out
      have hnc95 := NB382_372.out
      have hnb96 := NB372_392.out
      have hnc96 := NB392_372.out
      have hcz97_0 : w55.cell? ⟨gb372, 0, none⟩ = some (.int .i64 t363) := (zc BK372.out 0).trans rfl
      have hcz97_1 : w55.cell? ⟨gb372, 1, none⟩ = some (.int .i64 t364) := (zc BK372.out 1).trans rfl
      have hcz97_2 : w55.cell? ⟨gb372, 2, none⟩ = some (.slice Ao39 t365.length co39) := (zc BK372.out 2).trans rfl
      have hcz97_3 : w55.cell? ⟨gb372, 3, none⟩ = some (.slice Ao40 t368.length co40) := (zc BK372.out 3).trans rfl
      have hfz97_0 := zf BK372.out 0
      have hfz97_1 := zf BK372.out 1
      have hfz97_2 := zf BK372.out 2
      have hfz97_3 := zf BK372.out 3
      go_wp2_with (first | ((with_reducible refine gate_callee (f := 21) rfl ?_); refine goesL_ (some 61) rfl rfl Try.func21 (by kernel_rfl) rfl #[.agg #[.int .i64 t353, .int .i64 t354, .slice Ao29 t355.length co29, .slice Ao30 t358.length co30], .agg #[.int .i64 t363, .int .i64 t364, .slice Ao39 t365.length co39, .slice Ao40 t368.length co40]] rfl (by (try simp only [List.map_toArray, List.map_cons, List.map_nil]); first | done | rfl | (simp only [List.length_drop, List.length_take]; rfl)) ?_; (with_reducible refine (R16_Same.calls kj2 t353 t354 _ _ t355 _ _ t358 t363 t364 _ _ t365 _ _ t368 false _ ?side1 ?side2 ?side3 ?side4 ?side5 ?side6 ?side7 ?side8 A64.out).mono ?_); (case side1 => refine (Kd.V_reads' (e := 9) (base := w.heap.size) (ok := fun k_ => ((k_ ≠ gb350 ∧ (k_ ≠ gb351 ∧ (k_ ≠ gb362 ∧ (k_ ≠ gb372 ∧ k_ ≠ gb382)))) ∧ k_ ≠ gb392)) (n := t355.length) (c := co29) ?_).2.2; exact (by (with_reducible repeat (first | apply zva | apply zvn | apply zvd)); exact (zvm (zvf (p := ⟨gb392, 3, none⟩) (zvf (p := ⟨gb392, 2, none⟩) (zvf (p := ⟨gb392, 1, none⟩) (zvf (p := ⟨gb392, 0, none⟩) (zvm HO357.out (fun k_ hk => (⟨hk, hk.2⟩ : _ ∧ k_ ≠ gb392))) (fun _ hk => hk.2) (.int .i64 t383)) (fun _ hk => hk.2) (.int .i64 t384)) (fun _ hk => hk.2) (.slice Ao62 t385.length co62)) (fun _ hk => hk.2) (.slice Ao63 t388.length co63)) (fun _ h_ => h_.1)))); (case side2 => exact (Kd.V_reads' HO357.out).2.1); (case side3 => refine (Kd.V_reads' (e := 42) (base := w.heap.size) (ok := fun k_ => ((k_ ≠ gb350 ∧ (k_ ≠ gb351 ∧ (k_ ≠ gb362 ∧ (k_ ≠ gb372 ∧ k_ ≠ gb382)))) ∧ k_ ≠ gb392)) (n := t358.length) (c := co30) ?_).2.2; exact (by (with_reducible repeat (first | apply zva | apply zvn | apply zvd)); exact (zvm (zvf (p := ⟨gb392, 3, none⟩) (zvf (p := ⟨gb392, 2, none⟩) (zvf (p := ⟨gb392, 1, none⟩) (zvf (p := ⟨gb392, 0, none⟩) (zvm HO360.out (fun k_ hk => (⟨hk, hk.2⟩ : _ ∧ k_ ≠ gb392))) (fun _ hk => hk.2) (.int .i64 t383)) (fun _ hk => hk.2) (.int .i64 t384)) (fun _ hk => hk.2) (.slice Ao62 t385.length co62)) (fun _ hk => hk.2) (.slice Ao63 t388.length co63)) (fun _ h_ => h_.1)))); (case side4 => exact (Kd.V_reads' HO360.out).2.1); (case side5 => refine (Kd.V_reads' (e := 9) (base := w.heap.size) (ok := fun k_ => ((k_ ≠ gb350 ∧ (k_ ≠ gb351 ∧ (k_ ≠ gb362 ∧ (k_ ≠ gb372 ∧ k_ ≠ gb382)))) ∧ k_ ≠ gb392)) (n := t365.length) (c := co39) ?_).2.2; exact (by (with_reducible repeat (first | apply zva | apply zvn | apply zvd)); exact (zvm (zvf (p := ⟨gb392, 3, none⟩) (zvf (p := ⟨gb392, 2, none⟩) (zvf (p := ⟨gb392, 1, none⟩) (zvf (p := ⟨gb392, 0, none⟩) (zvm HO367.out (fun k_ hk => (⟨hk, hk.2⟩ : _ ∧ k_ ≠ gb392))) (fun _ hk => hk.2) (.int .i64 t383)) (fun _ hk => hk.2) (.int .i64 t384)) (fun _ hk => hk.2) (.slice Ao62 t385.length co62)) (fun _ hk => hk.2) (.slice Ao63 t388.length co63)) (fun _ h_ => h_.1)))); (case side6 => exact (Kd.V_reads' HO367.out).2.1); (case side7 => refine (Kd.V_reads' (e := 42) (base := w.heap.size) (ok := fun k_ => ((k_ ≠ gb350 ∧ (k_ ≠ gb351 ∧ (k_ ≠ gb362 ∧ (k_ ≠ gb372 ∧ k_ ≠ gb382)))) ∧ k_ ≠ gb392)) (n := t368.length) (c := co40) ?_).2.2; exact (by (with_reducible repeat (first | apply zva | apply zvn | apply zvd)); exact (zvm (zvf (p := ⟨gb392, 3, none⟩) (zvf (p := ⟨gb392, 2, none⟩) (zvf (p := ⟨gb392, 1, none⟩) (zvf (p := ⟨gb392, 0, none⟩) (zvm HO370.out (fun k_ hk => (⟨hk, hk.2⟩ : _ ∧ k_ ≠ gb392))) (fun _ hk => hk.2) (.int .i64 t383)) (fun _ hk => hk.2) (.int .i64 t384)) (fun _ hk => hk.2) (.slice Ao62 t385.length co62)) (fun _ hk => hk.2) (.slice Ao63 t388.length co63)) (fun _ h_ => h_.1)))); (case side8 => exact (Kd.V_reads' HO370.out).2.1); rintro e w98 ⟨rfl, hb⟩; refine ⟨_, rfl, ?_⟩; have n0_ := zM (zvb (by (with_reducible repeat (first | apply zva | apply zvn | apply zvd)); exact (zvm (zvf (p := ⟨gb392, 3, none⟩) (zvf (p := ⟨gb392, 2, none⟩) (zvf (p := ⟨gb392, 1, none⟩) (zvf (p := ⟨gb392, 0, none⟩) (zvm HO357.out (fun k_ hk => (⟨hk, hk.2⟩ : _ ∧ k_ ≠ gb392))) (fun _ hk => hk.2) (.int .i64 t383)) (fun _ hk => hk.2) (.int .i64 t384)) (fun _ hk => hk.2) (.slice Ao62 t385.length co62)) (fun _ hk => hk.2) (.slice Ao63 t388.length co63)) (fun _ h_ => h_.1))) hb); have n1_ := zM (zvb (by (with_reducible repeat (first | apply zva | apply zvn | apply zvd)); exact (zvm (zvf (p := ⟨gb392, 3, none⟩) (zvf (p := ⟨gb392, 2, none⟩) (zvf (p := ⟨gb392, 1, none⟩) (zvf (p := ⟨gb392, 0, none⟩) (zvm HO360.out (fun k_ hk => (⟨hk, hk.2⟩ : _ ∧ k_ ≠ gb392))) (fun _ hk => hk.2) (.int .i64 t383)) (fun _ hk => hk.2) (.int .i64 t384)) (fun _ hk => hk.2) (.slice Ao62 t385.length co62)) (fun _ hk => hk.2) (.slice Ao63 t388.length co63)) (fun _ h_ => h_.1))) hb); have n2_ := zM (zvb (by (with_reducible repeat (first | apply zva | apply zvn | apply zvd)); exact (zvm (zvf (p := ⟨gb392, 3, none⟩) (zvf (p := ⟨gb392, 2, none⟩) (zvf (p := ⟨gb392, 1, none⟩) (zvf (p := ⟨gb392, 0, none⟩) (zvm HO367.out (fun k_ hk => (⟨hk, hk.2⟩ : _ ∧ k_ ≠ gb392))) (fun _ hk => hk.2) (.int .i64 t383)) (fun _ hk => hk.2) (.int .i64 t384)) (fun _ hk => hk.2) (.slice Ao62 t385.length co62)) (fun _ hk => hk.2) (.slice Ao63 t388.length co63)) (fun _ h_ => h_.1))) hb); have n3_ := zM (zvb (by (with_reducible repeat (first | apply zva | apply zvn | apply zvd)); exact (zvm (zvf (p := ⟨gb392, 3, none⟩) (zvf (p := ⟨gb392, 2, none⟩) (zvf (p := ⟨gb392, 1, none⟩) (zvf (p := ⟨gb392, 0, none⟩) (zvm HO370.out (fun k_ hk => (⟨hk, hk.2⟩ : _ ∧ k_ ≠ gb392))) (fun _ hk => hk.2) (.int .i64 t383)) (fun _ hk => hk.2) (.int .i64 t384)) (fun _ hk => hk.2) (.slice Ao62 t385.length co62)) (fun _ hk => hk.2) (.slice Ao63 t388.length co63)) (fun _ h_ => h_.1))) hb); have n4_ := zM (zvb (by (with_reducible repeat (first | apply zva | apply zvn | apply zvd)); exact (zvm (zvf (p := ⟨gb392, 3, none⟩) (zvf (p := ⟨gb392, 2, none⟩) (zvf (p := ⟨gb392, 1, none⟩) (zvf (p := ⟨gb392, 0, none⟩) (zvm HO377.out (fun k_ hk => (⟨hk, hk.2⟩ : _ ∧ k_ ≠ gb392))) (fun _ hk => hk.2) (.int .i64 t383)) (fun _ hk => hk.2) (.int .i64 t384)) (fun _ hk => hk.2) (.slice Ao62 t385.length co62)) (fun _ hk => hk.2) (.slice Ao63 t388.length co63)) (fun _ h_ => h_.1))) hb); have n5_ := zM (zvb (by (with_reducible repeat (first | apply zva | apply zvn | apply zvd)); exact (zvm (zvf (p := ⟨gb392, 3, none⟩) (zvf (p := ⟨gb392, 2, none⟩) (zvf (p := ⟨gb392, 1, none⟩) (zvf (p := ⟨gb392, 0, none⟩) (zvm HO380.out (fun k_ hk => (⟨hk, hk.2⟩ : _ ∧ k_ ≠ gb392))) (fun _ hk => hk.2) (.int .i64 t383)) (fun _ hk => hk.2) (.int .i64 t384)) (fun _ hk => hk.2) (.slice Ao62 t385.length co62)) (fun _ hk => hk.2) (.slice Ao63 t388.length co63)) (fun _ h_ => h_.1))) hb); have n6_ := zM (zvb (by (with_reducible repeat (first | apply zva | apply zvn | apply zvd)); exact (zvm (zvf (p := ⟨gb392, 3, none⟩) (zvf (p := ⟨gb392, 2, none⟩) (zvf (p := ⟨gb392, 1, none⟩) (zvf (p := ⟨gb392, 0, none⟩) (zvm HO387.out (fun k_ hk => (⟨hk, hk.2⟩ : _ ∧ k_ ≠ gb392))) (fun _ hk => hk.2) (.int .i64 t383)) (fun _ hk => hk.2) (.int .i64 t384)) (fun _ hk => hk.2) (.slice Ao62 t385.length co62)) (fun _ hk => hk.2) (.slice Ao63 t388.length co63)) (fun _ h_ => h_.1))) hb); have n7_ := zM (zvb (by (with_reducible repeat (first | apply zva | apply zvn | apply zvd)); exact (zvm (zvf (p := ⟨gb392, 3, none⟩) (zvf (p := ⟨gb392, 2, none⟩) (zvf (p := ⟨gb392, 1, none⟩) (zvf (p := ⟨gb392, 0, none⟩) (zvm HO390.out (fun k_ hk => (⟨hk, hk.2⟩ : _ ∧ k_ ≠ gb392))) (fun _ hk => hk.2) (.int .i64 t383)) (fun _ hk => hk.2) (.int .i64 t384)) (fun _ hk => hk.2) (.slice Ao62 t385.length co62)) (fun _ hk => hk.2) (.slice Ao63 t388.length co63)) (fun _ h_ => h_.1))) hb); have n8_ := zM (zb (g := gb350) (o := .cells #[.int .i64 a0_0, .int .i64 a0_1, .slice A0_2 l0_2.length c0_2, .slice A0_3 l0_3.length c0_3, .string a0_4, .int .i64 a0_5, .int .i64 a0_6] 46 (0, 0)) (by (with_reducible repeat (first | refine zn ?_ _ | refine zd ?_ | refine za ?_ _)); refine zF ?_ NB350_392.out _; (with_reducible repeat (first | refine zn ?_ _ | refine zd ?_ | refine za ?_ _)); refine zF ?_ NB350_392.out _; (with_reducible repeat (first | refine zn ?_ _ | refine zd ?_ | refine za ?_ _)); refine zF ?_ NB350_392.out _; (with_reducible repeat (first | refine zn ?_ _ | refine zd ?_ | refine za ?_ _)); refine zF ?_ NB350_392.out _; (with_reducible repeat (first | refine zn ?_ _ | refine zd ?_ | refine za ?_ _)); exact BK350.out) hb); have n9_ := zM (zb (g := gb351) (o := .cells #[.int .i64 a0_0, .int .i64 a0_1, .slice A0_2 l0_2.length c0_2, .slice A0_3 l0_3.length c0_3] 25 (0, 0)) (by (with_reducible repeat (first | refine zn ?_ _ | refine zd ?_ | refine za ?_ _)); refine zF ?_ NB351_392.out _; (with_reducible repeat (first | refine zn ?_ _ | refine zd ?_ | refine za ?_ _)); refine zF ?_ NB351_392.out _; (with_reducible repeat (first | refine zn ?_ _ | refine zd ?_ | refine za ?_ _)); refine zF ?_ NB351_392.out _; (with_reducible repeat (first | refine zn ?_ _ | refine zd ?_ | refine za ?_ _)); refine zF ?_ NB351_392.out _; (with_reducible repeat (first | refine zn ?_ _ | refine zd ?_ | refine za ?_ _)); exact BK351.out) hb); have n10_ := zM (zb (g := gb362) (o := .cells #[.int .i64 t353, .int .i64 t354, .slice Ao29 t355.length co29, .slice Ao30 t358.length co30] 25 (0, 0)) (by (with_reducible repeat (first | refine zn ?_ _ | refine zd ?_ | refine za ?_ _)); refine zF ?_ NB362_392.out _; (with_reducible repeat (first | refine zn ?_ _ | refine zd ?_ | refine za ?_ _)); refine zF ?_ NB362_392.out _; (with_reducible repeat (first | refine zn ?_ _ | refine zd ?_ | refine za ?_ _)); refine zF ?_ NB362_392.out _; (with_reducible repeat (first | refine zn ?_ _ | refine zd ?_ | refine za ?_ _)); refine zF ?_ NB362_392.out _; (with_reducible repeat (first | refine zn ?_ _ | refine zd ?_ | refine za ?_ _)); exact BK362.out) hb); have n11_ := zM (zb (g := gb372) (o := .cells #[.int .i64 t363, .int .i64 t364, .slice Ao39 t365.length co39, .slice Ao40 t368.length co40] 25 (0, 0)) (by (with_reducible repeat (first | refine zn ?_ _ | refine zd ?_ | refine za ?_ _)); refine zF ?_ NB372_392.out _; (with_reducible repeat (first | refine zn ?_ _ | refine zd ?_ | refine za ?_ _)); refine zF ?_ NB372_392.out _; (with_reducible repeat (first | refine zn ?_ _ | refine zd ?_ | refine za ?_ _)); refine zF ?_ NB372_392.out _; (with_reducible repeat (first | refine zn ?_ _ | refine zd ?_ | refine za ?_ _)); refine zF ?_ NB372_392.out _; (with_reducible repeat (first | refine zn ?_ _ | refine zd ?_ | refine za ?_ _)); exact BK372.out) hb); have n12_ := zM (zb (g := gb382) (o := .cells #[.int .i64 t373, .int .i64 t374, .slice Ao50 t375.length co50, .slice Ao51 t378.length co51] 25 (0, 0)) (by (with_reducible repeat (first | refine zn ?_ _ | refine zd ?_ | refine za ?_ _)); refine zF ?_ NB382_392.out _; (with_reducible repeat (first | refine zn ?_ _ | refine zd ?_ | refine za ?_ _)); refine zF ?_ NB382_392.out _; (with_reducible repeat (first | refine zn ?_ _ | refine zd ?_ | refine za ?_ _)); refine zF ?_ NB382_392.out _; (with_reducible repeat (first | refine zn ?_ _ | refine zd ?_ | refine za ?_ _)); refine zF ?_ NB382_392.out _; (with_reducible repeat (first | refine zn ?_ _ | refine zd ?_ | refine za ?_ _)); exact BK382.out) hb); have n13_ := zM (zb (g := gb392) (o := .cells #[.int .i64 t383, .int .i64 t384, .slice Ao62 t385.length co62, .slice Ao63 t388.length co63] 25 (0, 0)) (by (with_reducible repeat (first | refine zn ?_ _ | refine zd ?_ | refine za ?_ _)); refine zP (cs := #[.int .i64 t383, .int .i64 t384, .slice Ao62 t385.length co62, .slice none 0 0]) ?_ 3 _ rfl; (with_reducible repeat (first | refine zn ?_ _ | refine zd ?_ | refine za ?_ _)); refine zP (cs := #[.int .i64 t383, .int .i64 t384, .slice none 0 0, .slice none 0 0]) ?_ 2 _ rfl; (with_reducible repeat (first | refine zn ?_ _ | refine zd ?_ | refine za ?_ _)); refine zP (cs := #[.int .i64 t383, .int .i64 0, .slice none 0 0, .slice none 0 0]) ?_ 1 _ rfl; (with_reducible repeat (first | refine zn ?_ _ | refine zd ?_ | refine za ?_ _)); refine zP (cs := #[.int .i64 0, .int .i64 0, .slice none 0 0, .slice none 0 0]) ?_ 0 _ rfl; (with_reducible repeat (first | refine zn ?_ _ | refine zd ?_ | refine za ?_ _)); exact BK392.out) hb); have n14_ := zM (zp (by repeat (first | (with_reducible first | exact HB.out | apply zL | apply zN | apply zD | refine zJ ?_ GE350.out | refine zJ ?_ GE351.out | refine zJ ?_ GE362.out | refine zJ ?_ GE372.out | refine zJ ?_ GE382.out | refine zJ ?_ GE392.out) | exact HB.out)) hb); clear HO357; clear HO360; clear HO367; clear HO370; clear HO377; clear HO380; clear HO387; clear HO390; clear BK350; clear BK351; clear BK362; clear BK372; clear BK382; clear BK392; clear HB; have HO357 := n0_; have HO360 := n1_; have HO367 := n2_; have HO370 := n3_; have HO377 := n4_; have HO380 := n5_; have HO387 := n6_; have HO390 := n7_; have BK350 := n8_; have BK351 := n9_; have BK362 := n10_; have BK372 := n11_; have BK382 := n12_; have BK392 := n13_; have HB := n14_; clear n0_ n1_ n2_ n3_ n4_ n5_ n6_ n7_ n8_ n9_ n10_ n11_ n12_ n13_ n14_; (try clear hb); (try clear hb2); (try clear hk); (try clear hi)))
      go_meet
      case rel => exact ⟨_, (false), (by first | rfl | (simp; done) | (simp [*]; done)), H', ⟨by have := HJ2.out; first | omega | exact Nat.le_refl _⟩, ⟨by (with_reducible repeat (first | apply zva | apply zvn | apply zvd)); exact zvm HO357.out (fun _ hk => ⟨hk.1.1, ⟨hk.1.2.1, ⟨hk.1.2.2.1, ⟨hk.1.2.2.2.1, ⟨hk.1.2.2.2.2, hk.2⟩⟩⟩⟩⟩)⟩, ⟨by (with_reducible repeat (first | apply zva | apply zvn | apply zvd)); exact zvm HO360.out (fun _ hk => ⟨hk.1.1, ⟨hk.1.2.1, ⟨hk.1.2.2.1, ⟨hk.1.2.2.2.1, ⟨hk.1.2.2.2.2, hk.2⟩⟩⟩⟩⟩)⟩, ⟨by (with_reducible repeat (first | apply zva | apply zvn | apply zvd)); exact zvm HO367.out (fun _ hk => ⟨hk.1.1, ⟨hk.1.2.1, ⟨hk.1.2.2.1, ⟨hk.1.2.2.2.1, ⟨hk.1.2.2.2.2, hk.2⟩⟩⟩⟩⟩)⟩, ⟨by (with_reducible repeat (first | apply zva | apply zvn | apply zvd)); exact zvm HO370.out (fun _ hk => ⟨hk.1.1, ⟨hk.1.2.1, ⟨hk.1.2.2.1, ⟨hk.1.2.2.2.1, ⟨hk.1.2.2.2.2, hk.2⟩⟩⟩⟩⟩)⟩, ⟨by (with_reducible repeat (first | apply zva | apply zvn | apply zvd)); exact zvm HO377.out (fun _ hk => ⟨hk.1.1, ⟨hk.1.2.1, ⟨hk.1.2.2.1, ⟨hk.1.2.2.2.1, ⟨hk.1.2.2.2.2, hk.2⟩⟩⟩⟩⟩)⟩, ⟨by (with_reducible repeat (first | apply zva | apply zvn | apply zvd)); exact zvm HO380.out (fun _ hk => ⟨hk.1.1, ⟨hk.1.2.1, ⟨hk.1.2.2.1, ⟨hk.1.2.2.2.1, ⟨hk.1.2.2.2.2, hk.2⟩⟩⟩⟩⟩)⟩, ⟨by (with_reducible repeat (first | apply zva | apply zvn | apply zvd)); exact zvm HO387.out (fun _ hk => ⟨hk.1.1, ⟨hk.1.2.1, ⟨hk.1.2.2.1, ⟨hk.1.2.2.2.1, ⟨hk.1.2.2.2.2, hk.2⟩⟩⟩⟩⟩)⟩, ⟨by (with_reducible repeat (first | apply zva | apply zvn | apply zvd)); exact zvm HO390.out (fun _ hk => ⟨hk.1.1, ⟨hk.1.2.1, ⟨hk.1.2.2.1, ⟨hk.1.2.2.2.1, ⟨hk.1.2.2.2.2, hk.2⟩⟩⟩⟩⟩)⟩, ⟨by (with_reducible repeat (first | refine zn ?_ _ | refine zd ?_ | refine za ?_ _)); exact BK350.out⟩, ⟨by (with_reducible repeat (first | refine zn ?_ _ | refine zd ?_ | refine za ?_ _)); exact BK351.out⟩, ⟨by (with_reducible repeat (first | refine zn ?_ _ | refine zd ?_ | refine za ?_ _)); exact BK362.out⟩, ⟨by (with_reducible repeat (first | refine zn ?_ _ | refine zd ?_ | refine za ?_ _)); exact BK372.out⟩, ⟨by (with_reducible repeat (first | refine zn ?_ _ | refine zd ?_ | refine za ?_ _)); exact BK382.out⟩, ⟨by (with_reducible repeat (first | refine zn ?_ _ | refine zd ?_ | refine za ?_ _)); exact BK392.out⟩, ⟨by repeat (first | (with_reducible first | exact HB.out | apply zL | apply zN | apply zD | refine zJ ?_ GE350.out | refine zJ ?_ GE351.out | refine zJ ?_ GE362.out | refine zJ ?_ GE372.out | refine zJ ?_ GE382.out | refine zJ ?_ GE392.out) | exact HB.out)⟩⟩
    case rest =>
     clear HC21
     try clear c1
     try clear c2
     try clear p2
     try clear c3
     try clear c4
     try clear c5
     try clear c6
     try clear c7
     try clear c8
     try clear c9
     try clear c11
     try clear c11b0
     try clear c12
     try clear c14
     try clear c16
     try clear c19
     try clear c20
     try clear c21
     try clear c22
     try clear c26
     try clear c27
     try clear c35
     try clear c36
     try clear c37
     try clear c45
     try clear c46
     try clear c47
     try clear c48
     try clear c56
     try clear c57
     try clear c58
     try clear c59
     try clear c60
     try clear c65
     try clear c67
     try clear c68
     try clear c69
     try clear c70
     try clear c71
     try clear c73
     try clear c74
     try clear c75
     try clear c76
     try clear c79
     try clear c80
     try clear c81
     try clear c83
     try clear c84
     try clear c87
     try clear c88
     try clear c89
     try clear c90
     try clear c91
     try clear c93
     try clear c94
     try clear c95
     try clear c96
     try clear hcz13_0
     try clear hcz13_1
     try clear hcz13_2
     try clear hcz13_3
     try clear hcz15_0
     try clear hcz15_1
     try clear hcz15_2
     try clear hcz15_3
     try clear hcz23_0
     try clear hcz23_1
     try clear hcz23_2
     try clear hcz23_3
     try clear hcz28_0
     try clear hcz28_1
     try clear hcz28_2
     try clear hcz28_3
     try clear hcz32_0
     try clear hcz32_1
     try clear hcz32_2
     try clear hcz32_3
     try clear hcz38_0
     try clear hcz38_1
     try clear hcz38_2
     try clear hcz38_3
     try clear hcz42_0
     try clear hcz42_1
     try clear hcz42_2
     try clear hcz42_3
     try clear hcz49_0
     try clear hcz49_1
     try clear hcz49_2
     try clear hcz49_3
     try clear hcz53_0
     try clear hcz53_1
     try clear hcz53_2
     try clear hcz53_3
     try clear hcz5_0
     try clear hcz5_1
     try clear hcz5_2
     try clear hcz5_3
     try clear hcz5_4
     try clear hcz5_5
     try clear hcz5_6
     try clear hcz61_0
     try clear hcz61_1
     try clear hcz61_2
     try clear hcz61_3
     try clear hcz72_0
     try clear hcz72_1
     try clear hcz72_2
     try clear hcz72_3
     try clear hcz77_0
     try clear hcz77_1
     try clear hcz77_2
     try clear hcz77_3
     try clear hcz82_0
     try clear hcz82_1
     try clear hcz82_2
     try clear hcz82_3
     try clear hcz85_0
     try clear hcz85_1
     try clear hcz85_2
     try clear hcz85_3
     try clear hcz8_0
     try clear hcz8_1
     try clear hcz8_2
     try clear hcz8_3
     try clear hcz92_0
     try clear hcz92_1
     try clear hcz92_2
     try clear hcz92_3
     try clear hcz97_0
     try clear hcz97_1
     try clear hcz97_2
     try clear hcz97_3
     try clear hcz9_0
     try clear hcz9_1
     try clear hcz9_2
     try clear hcz9_3
     try clear hcz9_4
     try clear hcz9_5
     try clear hcz9_6
     try clear hfz13_0
     try clear hfz13_1
     try clear hfz13_2
     try clear hfz13_3
     try clear hfz15_0
     try clear hfz15_1
     try clear hfz15_2
     try clear hfz15_3
     try clear hfz23_0
     try clear hfz23_1
     try clear hfz23_2
     try clear hfz23_3
     try clear hfz28_0
     try clear hfz28_1
     try clear hfz28_2
     try clear hfz28_3
     try clear hfz32_0
     try clear hfz32_1
     try clear hfz32_2
     try clear hfz32_3
     try clear hfz38_0
     try clear hfz38_1
     try clear hfz38_2
     try clear hfz38_3
     try clear hfz42_0
     try clear hfz42_1
     try clear hfz42_2
     try clear hfz42_3
     try clear hfz49_0
     try clear hfz49_1
     try clear hfz49_2
     try clear hfz49_3
     try clear hfz53_0
     try clear hfz53_1
     try clear hfz53_2
     try clear hfz53_3
     try clear hfz5_0
     try clear hfz5_1
     try clear hfz5_2
     try clear hfz5_3
     try clear hfz5_4
     try clear hfz5_5
     try clear hfz5_6
     try clear hfz61_0
     try clear hfz61_1
     try clear hfz61_2
     try clear hfz61_3
     try clear hfz72_0
     try clear hfz72_1
     try clear hfz72_2
     try clear hfz72_3
     try clear hfz77_0
     try clear hfz77_1
     try clear hfz77_2
     try clear hfz77_3
     try clear hfz82_0
     try clear hfz82_1
     try clear hfz82_2
     try clear hfz82_3
     try clear hfz85_0
     try clear hfz85_1
     try clear hfz85_2
     try clear hfz85_3
     try clear hfz8_0
     try clear hfz8_1
     try clear hfz8_2
     try clear hfz8_3
     try clear hfz92_0
     try clear hfz92_1
     try clear hfz92_2
     try clear hfz92_3
     try clear hfz97_0
     try clear hfz97_1
     try clear hfz97_2
     try clear hfz97_3
     try clear hfz9_0
     try clear hfz9_1
     try clear hfz9_2
     try clear hfz9_3
     try clear hfz9_4
     try clear hfz9_5
     try clear hfz9_6
     try clear p2
     obtain ⟨kq, x16_20, rfl, HA, HJ20, HO_363002, HO_363003, HO_373002, HO_373003, HO_383002, HO_383003, HO_393002, HO_393003, BK350, BK351, BK362, BK372, BK382, BK392, HB⟩ := hcut
     cases kq with
     | zero => exact absurd HA.out (by simp [L16_LaneSubmits.j1])
     | succ kj20 =>
      have H := HA.out
      clear HA
      simp only [L16_LaneSubmits.j1] at H
      replace H := Option.bind_eq_some_iff.mp H
      obtain ⟨⟨t395, t396, t397, t400⟩, A990, H⟩ := H
      replace H : ((R16_Ordered.f kj20 a0_0 a0_1 l0_2 l0_3 a0_5).bind fun bt403 => ((R16_Same.f kj20 t395 t396 t397 t400 bt403.1 bt403.2.1 bt403.2.2.1 bt403.2.2.2).bind fun t411 => ((lane_Pick.f a0_0 a0_1 l0_2 l0_3 a0_6).bind fun t412 => ((R16_Pick.f kj20 a0_0 a0_1 l0_2 l0_3 a0_6).bind fun t415 => ((R07_SameAll.f kj20 t412 t415).bind fun t418 => (if t352 = true then (if x16_20 = true then (if t411 = true then (if t418 = true then (if t361 = t371 then (some (t381 == t391)) else (some false)) else (some false)) else (some false)) else (some false)) else (some false))))))) = some r := H
      have A99 := zM A990
      clear A990
      replace H := Option.bind_eq_some_iff.mp H
      obtain ⟨⟨t403, t404, t405, t408⟩, A1000, H⟩ := H
      replace H : ((R16_Same.f kj20 t395 t396 t397 t400 t403 t404 t405 t408).bind fun t411 => ((lane_Pick.f a0_0 a0_1 l0_2 l0_3 a0_6).bind fun t412 => ((R16_Pick.f kj20 a0_0 a0_1 l0_2 l0_3 a0_6).bind fun t415 => ((R07_SameAll.f kj20 t412 t415).bind fun t418 => (if t352 = true then (if x16_20 = true then (if t411 = true then (if t418 = true then (if t361 = t371 then (some (t381 == t391)) else (some false)) else (some false)) else (some false)) else (some false)) else (some false)))))) = some r := H
      have A100 := zM A1000
      clear A1000
      replace H := Option.bind_eq_some_iff.mp H
      obtain ⟨t411, A1010, H⟩ := H
      replace H : ((lane_Pick.f a0_0 a0_1 l0_2 l0_3 a0_6).bind fun t412 => ((R16_Pick.f kj20 a0_0 a0_1 l0_2 l0_3 a0_6).bind fun t415 => ((R07_SameAll.f kj20 t412 t415).bind fun t418 => (if t352 = true then (if x16_20 = true then (if t411 = true then (if t418 = true then (if t361 = t371 then (some (t381 == t391)) else (some false)) else (some false)) else (some false)) else (some false)) else (some false))))) = some r := H
      have A101 := zM A1010
      clear A1010
      replace H := Option.bind_eq_some_iff.mp H
      obtain ⟨t412, A1020, H⟩ := H
      replace H : ((R16_Pick.f kj20 a0_0 a0_1 l0_2 l0_3 a0_6).bind fun t415 => ((R07_SameAll.f kj20 t412 t415).bind fun t418 => (if t352 = true then (if x16_20 = true then (if t411 = true then (if t418 = true then (if t361 = t371 then (some (t381 == t391)) else (some false)) else (some false)) else (some false)) else (some false)) else (some false)))) = some r := H
      have A102 := zM A1020
      clear A1020
      replace H := Option.bind_eq_some_iff.mp H
      obtain ⟨t415, A1030, H⟩ := H
      replace H : ((R07_SameAll.f kj20 t412 t415).bind fun t418 => (if t352 = true then (if x16_20 = true then (if t411 = true then (if t418 = true then (if t361 = t371 then (some (t381 == t391)) else (some false)) else (some false)) else (some false)) else (some false)) else (some false))) = some r := H
      have A103 := zM A1030
      clear A1030
      replace H := Option.bind_eq_some_iff.mp H
      obtain ⟨t418, A1040, H⟩ := H
      replace H : (if t352 = true then (if x16_20 = true then (if t411 = true then (if t418 = true then (if t361 = t371 then (some (t381 == t391)) else (some false)) else (some false)) else (some false)) else (some false)) else (some false)) = some r := H
      have A104 := zM A1040
      clear A1040
      by_cases c105 : t352 = true
      ·subst c105
       have H1 : (if x16_20 = true then (if t411 = true then (if t418 = true then (if t361 = t371 then (some (t381 == t391)) else (some false)) else (some false)) else (some false)) else (some false)) = some r := by rw [if_pos rfl] at H; exact H
       clear H
       have H := H1
       clear H1
       by_cases c106 : x16_20 = true
       ·subst c106
        have H1 : (if t411 = true then (if t418 = true then (if t361 = t371 then (some (t381 == t391)) else (some false)) else (some false)) else (some false)) = some r := by rw [if_pos rfl] at H; exact H
        clear H
        have H := H1
        clear H1
        by_cases c107 : t411 = true
        ·subst c107
         have H1 : (if t418 = true then (if t361 = t371 then (some (t381 == t391)) else (some false)) else (some false)) = some r := by rw [if_pos rfl] at H; exact H
         clear H
         have H := H1
         clear H1
         by_cases c108 : t418 = true
         ·subst c108
          have H1 : (if t361 = t371 then (some (t381 == t391)) else (some false)) = some r := by rw [if_pos rfl] at H; exact H
          clear H
          have H := H1
          clear H1
          by_cases c109 : t361 = t371
          ·rw [if_pos c109] at H
           have c109b0 : (t361 == t371) = true := beq_iff_eq.mpr c109
           have c109b1 : (t361 != t371) = false := bne_eq_false_iff_eq.mpr c109
           clear c109
           obtain rfl := Option.some.inj H
           try go_wp2
           have n0_ := zM (zvd HO_363002.out)
           have n1_ := zM (zvd HO_363003.out)
           have n2_ := zM (zvd HO_373002.out)
           have n3_ := zM (zvd HO_373003.out)
           have n4_ := zM (zvd HO_383002.out)
           have n5_ := zM (zvd HO_383003.out)
           have n6_ := zM (zvd HO_393002.out)
           have n7_ := zM (zvd HO_393003.out)
           have n8_ := zM (zd BK350.out)
           have n9_ := zM (zd BK351.out)
           have n10_ := zM (zd BK362.out)
           have n11_ := zM (zd BK372.out)
           have n12_ := zM (zd BK382.out)
           have n13_ := zM (zd BK392.out)
           have n14_ := zM (zD HB.out)
           clear HO_363002
           clear HO_363003
           clear HO_373002
           clear HO_373003
           clear HO_383002
           clear HO_383003
           clear HO_393002
           clear HO_393003
           clear BK350
           clear BK351
           clear BK362
           clear BK372
           clear BK382
           clear BK392
           clear HB
           have HO_363002 := n0_
           have HO_363003 := n1_
           have HO_373002 := n2_
           have HO_373003 := n3_
           have HO_383002 := n4_
           have HO_383003 := n5_
           have HO_393002 := n6_
           have HO_393003 := n7_
           have BK350 := n8_
           have BK351 := n9_
           have BK362 := n10_
           have BK372 := n11_
           have BK382 := n12_
           have BK392 := n13_
           have HB := n14_
           clear n0_ n1_ n2_ n3_ n4_ n5_ n6_ n7_ n8_ n9_ n10_ n11_ n12_ n13_ n14_
           refine start_ (n := 8) (S := fun w' => w'.cell? ⟨gb351, 0, none⟩ = some (.int .i64 a0_0) ∧ w'.cell? ⟨gb351, 1, none⟩ = some (.int .i64 a0_1) ∧ w'.cell? ⟨gb351, 2, none⟩ = some (.slice A0_2 l0_2.length c0_2) ∧ w'.cell? ⟨gb351, 3, none⟩ = some (.slice A0_3 l0_3.length c0_3)) (ds := []) mq140 (by kernel_rfl) rfl rfl ⟨(zc BK351.out 0).trans rfl, (zc BK351.out 1).trans rfl, (zc BK351.out 2).trans rfl, (zc BK351.out 3).trans rfl⟩ (fun hHeld => ?_); refine with_tabW L16_LaneSubmits.tab13 L16_LaneSubmits.bits13 (fun HT_ HW_ => ?_)
           generalize wc.drew = w110 at HO_363002 HO_363003 HO_373002 HO_373003 HO_383002 HO_383003 HO_393002 HO_393003 BK350 BK351 BK362 BK372 BK382 BK392 HB hHeld ⊢
           refine pure_ (i := 1) (N := some 68) (v := ?_) (a' := ?_) mq141 rfl rfl (any_of HT_.out (by kernel_rfl)) (fun _ _ _ h => h) (Or.inl ⟨by rfl, ?_⟩) ?_ ?_
           rotate_left
           ·intro w'
            go_simp
            with_reducible rfl
           rotate_left
           ·simp only [Act.put, zA, zZ, zS, i64_w, i32_w]
            rfl
           refine pure_ (i := 4) (N := some 71) (v := ?_) (a' := ?_) mq142 rfl rfl (any_of HT_.out (by kernel_rfl)) (fun _ _ _ h => h) (Or.inl ⟨by rfl, ?_⟩) ?_ ?_
           rotate_left
           ·intro w'
            go_simp
            with_reducible rfl
           rotate_left
           ·simp only [Act.put, zA, zZ, zS, i64_w, i32_w]
            rfl
           refine take_ (i := 0) (N := some 67) (v := ?_) (a' := ?_) mq143 rfl rfl (take_ofW HT_.out HW_.out (by kernel_rfl)) (fun _ _ _ h => h) (Or.inl ⟨by rfl, ?_⟩) hHeld ?_ ?_
           rotate_left
           ·rintro w' ⟨s0, s1, s2, s3⟩
            go_simp
            with_reducible rfl
           rotate_left
           ·simp only [Act.put, zA, zZ, zS, i64_w, i32_w]
            rfl
           refine take_ (i := 3) (N := some 70) (v := ?_) (a' := ?_) mq144 rfl rfl (take_ofW HT_.out HW_.out (by kernel_rfl)) (fun _ _ _ h => h) (Or.inl ⟨by rfl, ?_⟩) hHeld ?_ ?_
           rotate_left
           ·rintro w' ⟨s0, s1, s2, s3⟩
            go_simp
            with_reducible rfl
           rotate_left
           ·simp only [Act.put, zA, zZ, zS, i64_w, i32_w]
            rfl
           refine one_ (i := 2) (N := some 69) mq145 rfl rfl (one_of HT_.out (by kernel_rfl)) (by decide) (fun K hK => ?_)
           refine goes_ Try.func17 (by kernel_rfl) rfl #[.agg #[.int .i64 a0_0, .int .i64 a0_1, .slice A0_2 l0_2.length c0_2, .slice A0_3 l0_3.length c0_3], .int .i64 a0_5] (by rfl) rfl rfl (by (try simp only [List.map_toArray, List.map_cons, List.map_nil]); first | done | rfl | (simp only [List.length_drop, List.length_take]; rfl)) ?_
           with_reducible refine (lane_Ordered.calls a0_0 a0_1 (fun k_ => k_ < w.heap.size) _ _ l0_2 (fun k_ => k_ < w.heap.size) _ _ l0_3 a0_5 t395 t396 t397 t400 _ ?side1 ?side2 A99.out).mono ?_
           (case side1 => exact Kd.V_mk HC0_2.out (Kd.F_below (Kd.C_F Kd.heap_string HR0_2.out) (by repeat (first | (with_reducible first | exact HB.out | apply zL | apply zN | apply zD | refine zJ ?_ GE350.out | refine zJ ?_ GE351.out | refine zJ ?_ GE362.out | refine zJ ?_ GE372.out | refine zJ ?_ GE382.out | refine zJ ?_ GE392.out) | exact HB.out))))
           (case side2 => exact Kd.V_mk HC0_3.out (Kd.F_below (Kd.C_F k42_heap HR0_3.out) (by repeat (first | (with_reducible first | exact HB.out | apply zL | apply zN | apply zD | refine zJ ?_ GE350.out | refine zJ ?_ GE351.out | refine zJ ?_ GE362.out | refine zJ ?_ GE372.out | refine zJ ?_ GE382.out | refine zJ ?_ GE392.out) | exact HB.out))))
           rintro e w111 ⟨v398, v401, rfl, ho0, ho1, hb⟩
           refine ⟨_, rfl, ?_⟩
           have n0_ := zM (zvb (by (with_reducible repeat (first | apply zva | apply zvn | apply zvd)); exact HO_363002.out) hb)
           have n1_ := zM (zvb (by (with_reducible repeat (first | apply zva | apply zvn | apply zvd)); exact HO_363003.out) hb)
           have n2_ := zM (zvb (by (with_reducible repeat (first | apply zva | apply zvn | apply zvd)); exact HO_373002.out) hb)
           have n3_ := zM (zvb (by (with_reducible repeat (first | apply zva | apply zvn | apply zvd)); exact HO_373003.out) hb)
           have n4_ := zM (zvb (by (with_reducible repeat (first | apply zva | apply zvn | apply zvd)); exact HO_383002.out) hb)
           have n5_ := zM (zvb (by (with_reducible repeat (first | apply zva | apply zvn | apply zvd)); exact HO_383003.out) hb)
           have n6_ := zM (zvb (by (with_reducible repeat (first | apply zva | apply zvn | apply zvd)); exact HO_393002.out) hb)
           have n7_ := zM (zvb (by (with_reducible repeat (first | apply zva | apply zvn | apply zvd)); exact HO_393003.out) hb)
           have n8_ := zM (Kd.V_lower (zvm (ok' := fun k_ => k_ ≠ gb350 ∧ k_ ≠ gb351 ∧ k_ ≠ gb362 ∧ k_ ≠ gb372 ∧ k_ ≠ gb382 ∧ k_ ≠ gb392) ho0 (fun k_ hk_ => ⟨Or.elim hk_ (fun hs_ => Or.elim hs_ (fun hs_ => fun e_ => Nat.not_le.2 hs_ (by rw [e_]; exact GW350.out)) (fun hs_ => fun e_ => Nat.not_le.2 hs_ (by rw [e_]; exact GW350.out))) (fun hn_ => (Kd.freshB (g := gb350) (o := .cells #[.int .i64 a0_0, .int .i64 a0_1, .slice A0_2 l0_2.length c0_2, .slice A0_3 l0_3.length c0_3, .string a0_4, .int .i64 a0_5, .int .i64 a0_6] 46 (0, 0)) (by (with_reducible repeat (first | refine zn ?_ _ | refine zd ?_ | refine za ?_ _)); exact BK350.out) k_ hn_)), Or.elim hk_ (fun hs_ => Or.elim hs_ (fun hs_ => fun e_ => Nat.not_le.2 hs_ (by rw [e_]; exact GW351.out)) (fun hs_ => fun e_ => Nat.not_le.2 hs_ (by rw [e_]; exact GW351.out))) (fun hn_ => (Kd.freshB (g := gb351) (o := .cells #[.int .i64 a0_0, .int .i64 a0_1, .slice A0_2 l0_2.length c0_2, .slice A0_3 l0_3.length c0_3] 25 (0, 0)) (by (with_reducible repeat (first | refine zn ?_ _ | refine zd ?_ | refine za ?_ _)); exact BK351.out) k_ hn_)), Or.elim hk_ (fun hs_ => Or.elim hs_ (fun hs_ => fun e_ => Nat.not_le.2 hs_ (by rw [e_]; exact GW362.out)) (fun hs_ => fun e_ => Nat.not_le.2 hs_ (by rw [e_]; exact GW362.out))) (fun hn_ => (Kd.freshB (g := gb362) (o := .cells #[.int .i64 t353, .int .i64 t354, .slice Ao29 t355.length co29, .slice Ao30 t358.length co30] 25 (0, 0)) (by (with_reducible repeat (first | refine zn ?_ _ | refine zd ?_ | refine za ?_ _)); exact BK362.out) k_ hn_)), Or.elim hk_ (fun hs_ => Or.elim hs_ (fun hs_ => fun e_ => Nat.not_le.2 hs_ (by rw [e_]; exact GW372.out)) (fun hs_ => fun e_ => Nat.not_le.2 hs_ (by rw [e_]; exact GW372.out))) (fun hn_ => (Kd.freshB (g := gb372) (o := .cells #[.int .i64 t363, .int .i64 t364, .slice Ao39 t365.length co39, .slice Ao40 t368.length co40] 25 (0, 0)) (by (with_reducible repeat (first | refine zn ?_ _ | refine zd ?_ | refine za ?_ _)); exact BK372.out) k_ hn_)), Or.elim hk_ (fun hs_ => Or.elim hs_ (fun hs_ => fun e_ => Nat.not_le.2 hs_ (by rw [e_]; exact GW382.out)) (fun hs_ => fun e_ => Nat.not_le.2 hs_ (by rw [e_]; exact GW382.out))) (fun hn_ => (Kd.freshB (g := gb382) (o := .cells #[.int .i64 t373, .int .i64 t374, .slice Ao50 t375.length co50, .slice Ao51 t378.length co51] 25 (0, 0)) (by (with_reducible repeat (first | refine zn ?_ _ | refine zd ?_ | refine za ?_ _)); exact BK382.out) k_ hn_)), Or.elim hk_ (fun hs_ => Or.elim hs_ (fun hs_ => fun e_ => Nat.not_le.2 hs_ (by rw [e_]; exact GW392.out)) (fun hs_ => fun e_ => Nat.not_le.2 hs_ (by rw [e_]; exact GW392.out))) (fun hn_ => (Kd.freshB (g := gb392) (o := .cells #[.int .i64 t383, .int .i64 t384, .slice Ao62 t385.length co62, .slice Ao63 t388.length co63] 25 (0, 0)) (by (with_reducible repeat (first | refine zn ?_ _ | refine zd ?_ | refine za ?_ _)); exact BK392.out) k_ hn_))⟩)) (zs (by repeat (first | (with_reducible first | exact HB.out | apply zL | apply zN | apply zD | refine zJ ?_ GE350.out | refine zJ ?_ GE351.out | refine zJ ?_ GE362.out | refine zJ ?_ GE372.out | refine zJ ?_ GE382.out | refine zJ ?_ GE392.out) | exact HB.out))))
           have n9_ := zM (Kd.V_lower (zvm (ok' := fun k_ => k_ ≠ gb350 ∧ k_ ≠ gb351 ∧ k_ ≠ gb362 ∧ k_ ≠ gb372 ∧ k_ ≠ gb382 ∧ k_ ≠ gb392) ho1 (fun k_ hk_ => ⟨Or.elim hk_ (fun hs_ => Or.elim hs_ (fun hs_ => fun e_ => Nat.not_le.2 hs_ (by rw [e_]; exact GW350.out)) (fun hs_ => fun e_ => Nat.not_le.2 hs_ (by rw [e_]; exact GW350.out))) (fun hn_ => (Kd.freshB (g := gb350) (o := .cells #[.int .i64 a0_0, .int .i64 a0_1, .slice A0_2 l0_2.length c0_2, .slice A0_3 l0_3.length c0_3, .string a0_4, .int .i64 a0_5, .int .i64 a0_6] 46 (0, 0)) (by (with_reducible repeat (first | refine zn ?_ _ | refine zd ?_ | refine za ?_ _)); exact BK350.out) k_ hn_)), Or.elim hk_ (fun hs_ => Or.elim hs_ (fun hs_ => fun e_ => Nat.not_le.2 hs_ (by rw [e_]; exact GW351.out)) (fun hs_ => fun e_ => Nat.not_le.2 hs_ (by rw [e_]; exact GW351.out))) (fun hn_ => (Kd.freshB (g := gb351) (o := .cells #[.int .i64 a0_0, .int .i64 a0_1, .slice A0_2 l0_2.length c0_2, .slice A0_3 l0_3.length c0_3] 25 (0, 0)) (by (with_reducible repeat (first | refine zn ?_ _ | refine zd ?_ | refine za ?_ _)); exact BK351.out) k_ hn_)), Or.elim hk_ (fun hs_ => Or.elim hs_ (fun hs_ => fun e_ => Nat.not_le.2 hs_ (by rw [e_]; exact GW362.out)) (fun hs_ => fun e_ => Nat.not_le.2 hs_ (by rw [e_]; exact GW362.out))) (fun hn_ => (Kd.freshB (g := gb362) (o := .cells #[.int .i64 t353, .int .i64 t354, .slice Ao29 t355.length co29, .slice Ao30 t358.length co30] 25 (0, 0)) (by (with_reducible repeat (first | refine zn ?_ _ | refine zd ?_ | refine za ?_ _)); exact BK362.out) k_ hn_)), Or.elim hk_ (fun hs_ => Or.elim hs_ (fun hs_ => fun e_ => Nat.not_le.2 hs_ (by rw [e_]; exact GW372.out)) (fun hs_ => fun e_ => Nat.not_le.2 hs_ (by rw [e_]; exact GW372.out))) (fun hn_ => (Kd.freshB (g := gb372) (o := .cells #[.int .i64 t363, .int .i64 t364, .slice Ao39 t365.length co39, .slice Ao40 t368.length co40] 25 (0, 0)) (by (with_reducible repeat (first | refine zn ?_ _ | refine zd ?_ | refine za ?_ _)); exact BK372.out) k_ hn_)), Or.elim hk_ (fun hs_ => Or.elim hs_ (fun hs_ => fun e_ => Nat.not_le.2 hs_ (by rw [e_]; exact GW382.out)) (fun hs_ => fun e_ => Nat.not_le.2 hs_ (by rw [e_]; exact GW382.out))) (fun hn_ => (Kd.freshB (g := gb382) (o := .cells #[.int .i64 t373, .int .i64 t374, .slice Ao50 t375.length co50, .slice Ao51 t378.length co51] 25 (0, 0)) (by (with_reducible repeat (first | refine zn ?_ _ | refine zd ?_ | refine za ?_ _)); exact BK382.out) k_ hn_)), Or.elim hk_ (fun hs_ => Or.elim hs_ (fun hs_ => fun e_ => Nat.not_le.2 hs_ (by rw [e_]; exact GW392.out)) (fun hs_ => fun e_ => Nat.not_le.2 hs_ (by rw [e_]; exact GW392.out))) (fun hn_ => (Kd.freshB (g := gb392) (o := .cells #[.int .i64 t383, .int .i64 t384, .slice Ao62 t385.length co62, .slice Ao63 t388.length co63] 25 (0, 0)) (by (with_reducible repeat (first | refine zn ?_ _ | refine zd ?_ | refine za ?_ _)); exact BK392.out) k_ hn_))⟩)) (zs (by repeat (first | (with_reducible first | exact HB.out | apply zL | apply zN | apply zD | refine zJ ?_ GE350.out | refine zJ ?_ GE351.out | refine zJ ?_ GE362.out | refine zJ ?_ GE372.out | refine zJ ?_ GE382.out | refine zJ ?_ GE392.out) | exact HB.out))))
           have n10_ := zM (zb (g := gb350) (o := .cells #[.int .i64 a0_0, .int .i64 a0_1, .slice A0_2 l0_2.length c0_2, .slice A0_3 l0_3.length c0_3, .string a0_4, .int .i64 a0_5, .int .i64 a0_6] 46 (0, 0)) (by (with_reducible repeat (first | refine zn ?_ _ | refine zd ?_ | refine za ?_ _)); exact BK350.out) hb)
           have n11_ := zM (zb (g := gb351) (o := .cells #[.int .i64 a0_0, .int .i64 a0_1, .slice A0_2 l0_2.length c0_2, .slice A0_3 l0_3.length c0_3] 25 (0, 0)) (by (with_reducible repeat (first | refine zn ?_ _ | refine zd ?_ | refine za ?_ _)); exact BK351.out) hb)
           have n12_ := zM (zb (g := gb362) (o := .cells #[.int .i64 t353, .int .i64 t354, .slice Ao29 t355.length co29, .slice Ao30 t358.length co30] 25 (0, 0)) (by (with_reducible repeat (first | refine zn ?_ _ | refine zd ?_ | refine za ?_ _)); exact BK362.out) hb)
           have n13_ := zM (zb (g := gb372) (o := .cells #[.int .i64 t363, .int .i64 t364, .slice Ao39 t365.length co39, .slice Ao40 t368.length co40] 25 (0, 0)) (by (with_reducible repeat (first | refine zn ?_ _ | refine zd ?_ | refine za ?_ _)); exact BK372.out) hb)
           have n14_ := zM (zb (g := gb382) (o := .cells #[.int .i64 t373, .int .i64 t374, .slice Ao50 t375.length co50, .slice Ao51 t378.length co51] 25 (0, 0)) (by (with_reducible repeat (first | refine zn ?_ _ | refine zd ?_ | refine za ?_ _)); exact BK382.out) hb)
           have n15_ := zM (zb (g := gb392) (o := .cells #[.int .i64 t383, .int .i64 t384, .slice Ao62 t385.length co62, .slice Ao63 t388.length co63] 25 (0, 0)) (by (with_reducible repeat (first | refine zn ?_ _ | refine zd ?_ | refine za ?_ _)); exact BK392.out) hb)
           have n16_ := zM (zp (by repeat (first | (with_reducible first | exact HB.out | apply zL | apply zN | apply zD | refine zJ ?_ GE350.out | refine zJ ?_ GE351.out | refine zJ ?_ GE362.out | refine zJ ?_ GE372.out | refine zJ ?_ GE382.out | refine zJ ?_ GE392.out) | exact HB.out)) hb)
           clear HO_363002
           clear HO_363003
           clear HO_373002
           clear HO_373003
           clear HO_383002
           clear HO_383003
           clear HO_393002
           clear HO_393003
           clear BK350
           clear BK351
           clear BK362
           clear BK372
           clear BK382
           clear BK392
           clear HB
           have HO_363002 := n0_
           have HO_363003 := n1_
           have HO_373002 := n2_
           have HO_373003 := n3_
           have HO_383002 := n4_
           have HO_383003 := n5_
           have HO_393002 := n6_
           have HO_393003 := n7_
           have HO399 := n8_
           have HO402 := n9_
           have BK350 := n10_
           have BK351 := n11_
           have BK362 := n12_
           have BK372 := n13_
           have BK382 := n14_
           have BK392 := n15_
           have HB := n16_
           clear n0_ n1_ n2_ n3_ n4_ n5_ n6_ n7_ n8_ n9_ n10_ n11_ n12_ n13_ n14_ n15_ n16_
           (try clear hb)
           (try clear hb2)
           (try clear hk)
           (try clear hi)
           (try clear ho0)
           (try clear ho1)
           refine hK.out _ _ ⟨(zc BK351.out 0).trans rfl, (zc BK351.out 1).trans rfl, (zc BK351.out 2).trans rfl, (zc BK351.out 3).trans rfl⟩ (fun hHeld => ?_)
           clear hK K
           refine norm_ (a' := ?_) ?_ ?_
           rotate_left
           ·show Act.put _ (some 69) _ = _
            simp only [Act.put, zA, zZ, zS, i64_w, i32_w]
            rfl
           refine one_ (i := 5) (N := some 72) mq146 rfl rfl (one_of HT_.out (by kernel_rfl)) (by decide) (fun K hK => ?_)
           refine goes_ Try.func22 (by kernel_rfl) rfl #[.agg #[.int .i64 a0_0, .int .i64 a0_1, .slice A0_2 l0_2.length c0_2, .slice A0_3 l0_3.length c0_3], .int .i64 a0_5] (by rfl) rfl rfl (by (try simp only [List.map_toArray, List.map_cons, List.map_nil]); first | done | rfl | (simp only [List.length_drop, List.length_take]; rfl)) ?_
           with_reducible refine (R16_Ordered.calls kj20 a0_0 a0_1 (fun k_ => k_ < w.heap.size) _ _ l0_2 (fun k_ => k_ < w.heap.size) _ _ l0_3 a0_5 t403 t404 t405 t408 _ ?side1 ?side2 A100.out).mono ?_
           (case side1 => exact Kd.V_mk HC0_2.out (Kd.F_below (Kd.C_F Kd.heap_string HR0_2.out) (by repeat (first | (with_reducible first | exact HB.out | apply zL | apply zN | apply zD | refine zJ ?_ GE350.out | refine zJ ?_ GE351.out | refine zJ ?_ GE362.out | refine zJ ?_ GE372.out | refine zJ ?_ GE382.out | refine zJ ?_ GE392.out) | exact HB.out))))
           (case side2 => exact Kd.V_mk HC0_3.out (Kd.F_below (Kd.C_F k42_heap HR0_3.out) (by repeat (first | (with_reducible first | exact HB.out | apply zL | apply zN | apply zD | refine zJ ?_ GE350.out | refine zJ ?_ GE351.out | refine zJ ?_ GE362.out | refine zJ ?_ GE372.out | refine zJ ?_ GE382.out | refine zJ ?_ GE392.out) | exact HB.out))))
           rintro e w112 ⟨v406, v409, rfl, ho0, ho1, hb⟩
           refine ⟨_, rfl, ?_⟩
           have n0_ := zM (zvb (by (with_reducible repeat (first | apply zva | apply zvn | apply zvd)); exact HO_363002.out) hb)
           have n1_ := zM (zvb (by (with_reducible repeat (first | apply zva | apply zvn | apply zvd)); exact HO_363003.out) hb)
           have n2_ := zM (zvb (by (with_reducible repeat (first | apply zva | apply zvn | apply zvd)); exact HO_373002.out) hb)
           have n3_ := zM (zvb (by (with_reducible repeat (first | apply zva | apply zvn | apply zvd)); exact HO_373003.out) hb)
           have n4_ := zM (zvb (by (with_reducible repeat (first | apply zva | apply zvn | apply zvd)); exact HO_383002.out) hb)
           have n5_ := zM (zvb (by (with_reducible repeat (first | apply zva | apply zvn | apply zvd)); exact HO_383003.out) hb)
           have n6_ := zM (zvb (by (with_reducible repeat (first | apply zva | apply zvn | apply zvd)); exact HO_393002.out) hb)
           have n7_ := zM (zvb (by (with_reducible repeat (first | apply zva | apply zvn | apply zvd)); exact HO_393003.out) hb)
           have n8_ := zM (zvb (by (with_reducible repeat (first | apply zva | apply zvn | apply zvd)); exact HO399.out) hb)
           have n9_ := zM (zvb (by (with_reducible repeat (first | apply zva | apply zvn | apply zvd)); exact HO402.out) hb)
           have n10_ := zM (Kd.V_lower (zvm (ok' := fun k_ => k_ ≠ gb350 ∧ k_ ≠ gb351 ∧ k_ ≠ gb362 ∧ k_ ≠ gb372 ∧ k_ ≠ gb382 ∧ k_ ≠ gb392) ho0 (fun k_ hk_ => ⟨Or.elim hk_ (fun hs_ => Or.elim hs_ (fun hs_ => fun e_ => Nat.not_le.2 hs_ (by rw [e_]; exact GW350.out)) (fun hs_ => fun e_ => Nat.not_le.2 hs_ (by rw [e_]; exact GW350.out))) (fun hn_ => (Kd.freshB (g := gb350) (o := .cells #[.int .i64 a0_0, .int .i64 a0_1, .slice A0_2 l0_2.length c0_2, .slice A0_3 l0_3.length c0_3, .string a0_4, .int .i64 a0_5, .int .i64 a0_6] 46 (0, 0)) (by (with_reducible repeat (first | refine zn ?_ _ | refine zd ?_ | refine za ?_ _)); exact BK350.out) k_ hn_)), Or.elim hk_ (fun hs_ => Or.elim hs_ (fun hs_ => fun e_ => Nat.not_le.2 hs_ (by rw [e_]; exact GW351.out)) (fun hs_ => fun e_ => Nat.not_le.2 hs_ (by rw [e_]; exact GW351.out))) (fun hn_ => (Kd.freshB (g := gb351) (o := .cells #[.int .i64 a0_0, .int .i64 a0_1, .slice A0_2 l0_2.length c0_2, .slice A0_3 l0_3.length c0_3] 25 (0, 0)) (by (with_reducible repeat (first | refine zn ?_ _ | refine zd ?_ | refine za ?_ _)); exact BK351.out) k_ hn_)), Or.elim hk_ (fun hs_ => Or.elim hs_ (fun hs_ => fun e_ => Nat.not_le.2 hs_ (by rw [e_]; exact GW362.out)) (fun hs_ => fun e_ => Nat.not_le.2 hs_ (by rw [e_]; exact GW362.out))) (fun hn_ => (Kd.freshB (g := gb362) (o := .cells #[.int .i64 t353, .int .i64 t354, .slice Ao29 t355.length co29, .slice Ao30 t358.length co30] 25 (0, 0)) (by (with_reducible repeat (first | refine zn ?_ _ | refine zd ?_ | refine za ?_ _)); exact BK362.out) k_ hn_)), Or.elim hk_ (fun hs_ => Or.elim hs_ (fun hs_ => fun e_ => Nat.not_le.2 hs_ (by rw [e_]; exact GW372.out)) (fun hs_ => fun e_ => Nat.not_le.2 hs_ (by rw [e_]; exact GW372.out))) (fun hn_ => (Kd.freshB (g := gb372) (o := .cells #[.int .i64 t363, .int .i64 t364, .slice Ao39 t365.length co39, .slice Ao40 t368.length co40] 25 (0, 0)) (by (with_reducible repeat (first | refine zn ?_ _ | refine zd ?_ | refine za ?_ _)); exact BK372.out) k_ hn_)), Or.elim hk_ (fun hs_ => Or.elim hs_ (fun hs_ => fun e_ => Nat.not_le.2 hs_ (by rw [e_]; exact GW382.out)) (fun hs_ => fun e_ => Nat.not_le.2 hs_ (by rw [e_]; exact GW382.out))) (fun hn_ => (Kd.freshB (g := gb382) (o := .cells #[.int .i64 t373, .int .i64 t374, .slice Ao50 t375.length co50, .slice Ao51 t378.length co51] 25 (0, 0)) (by (with_reducible repeat (first | refine zn ?_ _ | refine zd ?_ | refine za ?_ _)); exact BK382.out) k_ hn_)), Or.elim hk_ (fun hs_ => Or.elim hs_ (fun hs_ => fun e_ => Nat.not_le.2 hs_ (by rw [e_]; exact GW392.out)) (fun hs_ => fun e_ => Nat.not_le.2 hs_ (by rw [e_]; exact GW392.out))) (fun hn_ => (Kd.freshB (g := gb392) (o := .cells #[.int .i64 t383, .int .i64 t384, .slice Ao62 t385.length co62, .slice Ao63 t388.length co63] 25 (0, 0)) (by (with_reducible repeat (first | refine zn ?_ _ | refine zd ?_ | refine za ?_ _)); exact BK392.out) k_ hn_))⟩)) (zs (by repeat (first | (with_reducible first | exact HB.out | apply zL | apply zN | apply zD | refine zJ ?_ GE350.out | refine zJ ?_ GE351.out | refine zJ ?_ GE362.out | refine zJ ?_ GE372.out | refine zJ ?_ GE382.out | refine zJ ?_ GE392.out) | exact HB.out))))
           have n11_ := zM (Kd.V_lower (zvm (ok' := fun k_ => k_ ≠ gb350 ∧ k_ ≠ gb351 ∧ k_ ≠ gb362 ∧ k_ ≠ gb372 ∧ k_ ≠ gb382 ∧ k_ ≠ gb392) ho1 (fun k_ hk_ => ⟨Or.elim hk_ (fun hs_ => Or.elim hs_ (fun hs_ => fun e_ => Nat.not_le.2 hs_ (by rw [e_]; exact GW350.out)) (fun hs_ => fun e_ => Nat.not_le.2 hs_ (by rw [e_]; exact GW350.out))) (fun hn_ => (Kd.freshB (g := gb350) (o := .cells #[.int .i64 a0_0, .int .i64 a0_1, .slice A0_2 l0_2.length c0_2, .slice A0_3 l0_3.length c0_3, .string a0_4, .int .i64 a0_5, .int .i64 a0_6] 46 (0, 0)) (by (with_reducible repeat (first | refine zn ?_ _ | refine zd ?_ | refine za ?_ _)); exact BK350.out) k_ hn_)), Or.elim hk_ (fun hs_ => Or.elim hs_ (fun hs_ => fun e_ => Nat.not_le.2 hs_ (by rw [e_]; exact GW351.out)) (fun hs_ => fun e_ => Nat.not_le.2 hs_ (by rw [e_]; exact GW351.out))) (fun hn_ => (Kd.freshB (g := gb351) (o := .cells #[.int .i64 a0_0, .int .i64 a0_1, .slice A0_2 l0_2.length c0_2, .slice A0_3 l0_3.length c0_3] 25 (0, 0)) (by (with_reducible repeat (first | refine zn ?_ _ | refine zd ?_ | refine za ?_ _)); exact BK351.out) k_ hn_)), Or.elim hk_ (fun hs_ => Or.elim hs_ (fun hs_ => fun e_ => Nat.not_le.2 hs_ (by rw [e_]; exact GW362.out)) (fun hs_ => fun e_ => Nat.not_le.2 hs_ (by rw [e_]; exact GW362.out))) (fun hn_ => (Kd.freshB (g := gb362) (o := .cells #[.int .i64 t353, .int .i64 t354, .slice Ao29 t355.length co29, .slice Ao30 t358.length co30] 25 (0, 0)) (by (with_reducible repeat (first | refine zn ?_ _ | refine zd ?_ | refine za ?_ _)); exact BK362.out) k_ hn_)), Or.elim hk_ (fun hs_ => Or.elim hs_ (fun hs_ => fun e_ => Nat.not_le.2 hs_ (by rw [e_]; exact GW372.out)) (fun hs_ => fun e_ => Nat.not_le.2 hs_ (by rw [e_]; exact GW372.out))) (fun hn_ => (Kd.freshB (g := gb372) (o := .cells #[.int .i64 t363, .int .i64 t364, .slice Ao39 t365.length co39, .slice Ao40 t368.length co40] 25 (0, 0)) (by (with_reducible repeat (first | refine zn ?_ _ | refine zd ?_ | refine za ?_ _)); exact BK372.out) k_ hn_)), Or.elim hk_ (fun hs_ => Or.elim hs_ (fun hs_ => fun e_ => Nat.not_le.2 hs_ (by rw [e_]; exact GW382.out)) (fun hs_ => fun e_ => Nat.not_le.2 hs_ (by rw [e_]; exact GW382.out))) (fun hn_ => (Kd.freshB (g := gb382) (o := .cells #[.int .i64 t373, .int .i64 t374, .slice Ao50 t375.length co50, .slice Ao51 t378.length co51] 25 (0, 0)) (by (with_reducible repeat (first | refine zn ?_ _ | refine zd ?_ | refine za ?_ _)); exact BK382.out) k_ hn_)), Or.elim hk_ (fun hs_ => Or.elim hs_ (fun hs_ => fun e_ => Nat.not_le.2 hs_ (by rw [e_]; exact GW392.out)) (fun hs_ => fun e_ => Nat.not_le.2 hs_ (by rw [e_]; exact GW392.out))) (fun hn_ => (Kd.freshB (g := gb392) (o := .cells #[.int .i64 t383, .int .i64 t384, .slice Ao62 t385.length co62, .slice Ao63 t388.length co63] 25 (0, 0)) (by (with_reducible repeat (first | refine zn ?_ _ | refine zd ?_ | refine za ?_ _)); exact BK392.out) k_ hn_))⟩)) (zs (by repeat (first | (with_reducible first | exact HB.out | apply zL | apply zN | apply zD | refine zJ ?_ GE350.out | refine zJ ?_ GE351.out | refine zJ ?_ GE362.out | refine zJ ?_ GE372.out | refine zJ ?_ GE382.out | refine zJ ?_ GE392.out) | exact HB.out))))
           have n12_ := zM (zb (g := gb350) (o := .cells #[.int .i64 a0_0, .int .i64 a0_1, .slice A0_2 l0_2.length c0_2, .slice A0_3 l0_3.length c0_3, .string a0_4, .int .i64 a0_5, .int .i64 a0_6] 46 (0, 0)) (by (with_reducible repeat (first | refine zn ?_ _ | refine zd ?_ | refine za ?_ _)); exact BK350.out) hb)
           have n13_ := zM (zb (g := gb351) (o := .cells #[.int .i64 a0_0, .int .i64 a0_1, .slice A0_2 l0_2.length c0_2, .slice A0_3 l0_3.length c0_3] 25 (0, 0)) (by (with_reducible repeat (first | refine zn ?_ _ | refine zd ?_ | refine za ?_ _)); exact BK351.out) hb)
           have n14_ := zM (zb (g := gb362) (o := .cells #[.int .i64 t353, .int .i64 t354, .slice Ao29 t355.length co29, .slice Ao30 t358.length co30] 25 (0, 0)) (by (with_reducible repeat (first | refine zn ?_ _ | refine zd ?_ | refine za ?_ _)); exact BK362.out) hb)
           have n15_ := zM (zb (g := gb372) (o := .cells #[.int .i64 t363, .int .i64 t364, .slice Ao39 t365.length co39, .slice Ao40 t368.length co40] 25 (0, 0)) (by (with_reducible repeat (first | refine zn ?_ _ | refine zd ?_ | refine za ?_ _)); exact BK372.out) hb)
           have n16_ := zM (zb (g := gb382) (o := .cells #[.int .i64 t373, .int .i64 t374, .slice Ao50 t375.length co50, .slice Ao51 t378.length co51] 25 (0, 0)) (by (with_reducible repeat (first | refine zn ?_ _ | refine zd ?_ | refine za ?_ _)); exact BK382.out) hb)
           have n17_ := zM (zb (g := gb392) (o := .cells #[.int .i64 t383, .int .i64 t384, .slice Ao62 t385.length co62, .slice Ao63 t388.length co63] 25 (0, 0)) (by (with_reducible repeat (first | refine zn ?_ _ | refine zd ?_ | refine za ?_ _)); exact BK392.out) hb)
           have n18_ := zM (zp (by repeat (first | (with_reducible first | exact HB.out | apply zL | apply zN | apply zD | refine zJ ?_ GE350.out | refine zJ ?_ GE351.out | refine zJ ?_ GE362.out | refine zJ ?_ GE372.out | refine zJ ?_ GE382.out | refine zJ ?_ GE392.out) | exact HB.out)) hb)
           clear HO_363002
           clear HO_363003
           clear HO_373002
           clear HO_373003
           clear HO_383002
           clear HO_383003
           clear HO_393002
           clear HO_393003
           clear HO399
           clear HO402
           clear BK350
           clear BK351
           clear BK362
           clear BK372
           clear BK382
           clear BK392
           clear HB
           have HO_363002 := n0_
           have HO_363003 := n1_
           have HO_373002 := n2_
           have HO_373003 := n3_
           have HO_383002 := n4_
           have HO_383003 := n5_
           have HO_393002 := n6_
           have HO_393003 := n7_
           have HO399 := n8_
           have HO402 := n9_
           have HO407 := n10_
           have HO410 := n11_
           have BK350 := n12_
           have BK351 := n13_
           have BK362 := n14_
           have BK372 := n15_
           have BK382 := n16_
           have BK392 := n17_
           have HB := n18_
           clear n0_ n1_ n2_ n3_ n4_ n5_ n6_ n7_ n8_ n9_ n10_ n11_ n12_ n13_ n14_ n15_ n16_ n17_ n18_
           (try clear hb)
           (try clear hb2)
           (try clear hk)
           (try clear hi)
           (try clear ho0)
           (try clear ho1)
           obtain ⟨Ao113, co113, eo113⟩ := Kd.V_slice HO399.out
           (first | subst eo113 | (injection eo113 with f1_ f2_ f3_; have f4_ := f1_.symm; have f5_ := f3_.symm; clear f1_ f2_ f3_; subst f4_; subst f5_))
           obtain ⟨Ao114, co114, eo114⟩ := Kd.V_slice HO402.out
           (first | subst eo114 | (injection eo114 with f1_ f2_ f3_; have f4_ := f1_.symm; have f5_ := f3_.symm; clear f1_ f2_ f3_; subst f4_; subst f5_))
           obtain ⟨Ao115, co115, eo115⟩ := Kd.V_slice HO407.out
           (first | subst eo115 | (injection eo115 with f1_ f2_ f3_; have f4_ := f1_.symm; have f5_ := f3_.symm; clear f1_ f2_ f3_; subst f4_; subst f5_))
           obtain ⟨Ao116, co116, eo116⟩ := Kd.V_slice HO410.out
           (first | subst eo116 | (injection eo116 with f1_ f2_ f3_; have f4_ := f1_.symm; have f5_ := f3_.symm; clear f1_ f2_ f3_; subst f4_; subst f5_))
           refine hK.out _ _ ⟨(zc BK351.out 0).trans rfl, (zc BK351.out 1).trans rfl, (zc BK351.out 2).trans rfl, (zc BK351.out 3).trans rfl⟩ (fun hHeld => ?_)
           clear hK K
           refine norm_ (a' := ?_) ?_ ?_
           rotate_left
           ·show Act.put _ (some 72) _ = _
            simp only [Act.put, zA, zZ, zS, i64_w, i32_w]
            rfl
           refine one_ (i := 6) (N := some 73) mq147 rfl rfl (one_of HT_.out (by kernel_rfl)) (by decide) (fun K hK => ?_)
           refine goes_ Try.func21 (by kernel_rfl) rfl #[.agg #[.int .i64 t395, .int .i64 t396, .slice Ao113 t397.length co113, .slice Ao114 t400.length co114], .agg #[.int .i64 t403, .int .i64 t404, .slice Ao115 t405.length co115, .slice Ao116 t408.length co116]] (by rfl) rfl rfl (by (try simp only [List.map_toArray, List.map_cons, List.map_nil]); first | done | rfl | (simp only [List.length_drop, List.length_take]; rfl)) ?_
           with_reducible refine (R16_Same.calls kj20 t395 t396 _ _ t397 _ _ t400 t403 t404 _ _ t405 _ _ t408 true _ ?side1 ?side2 ?side3 ?side4 ?side5 ?side6 ?side7 ?side8 A101.out).mono ?_
           (case side1 => repeat (first | exact (Kd.V_reads' HO399.out).2.2 | (with_reducible refine zca ?_ _) | (with_reducible refine zcn ?_ _) | (with_reducible refine zcd ?_)))
           (case side2 => exact (Kd.V_reads' HO399.out).2.1)
           (case side3 => repeat (first | exact (Kd.V_reads' HO402.out).2.2 | (with_reducible refine zca ?_ _) | (with_reducible refine zcn ?_ _) | (with_reducible refine zcd ?_)))
           (case side4 => exact (Kd.V_reads' HO402.out).2.1)
           (case side5 => repeat (first | exact (Kd.V_reads' HO407.out).2.2 | (with_reducible refine zca ?_ _) | (with_reducible refine zcn ?_ _) | (with_reducible refine zcd ?_)))
           (case side6 => exact (Kd.V_reads' HO407.out).2.1)
           (case side7 => repeat (first | exact (Kd.V_reads' HO410.out).2.2 | (with_reducible refine zca ?_ _) | (with_reducible refine zcn ?_ _) | (with_reducible refine zcd ?_)))
           (case side8 => exact (Kd.V_reads' HO410.out).2.1)
           rintro e w117 ⟨rfl, hb⟩
           refine ⟨_, rfl, ?_⟩
           have n0_ := zM (zvb (by (with_reducible repeat (first | apply zva | apply zvn | apply zvd)); exact HO_363002.out) hb)
           have n1_ := zM (zvb (by (with_reducible repeat (first | apply zva | apply zvn | apply zvd)); exact HO_363003.out) hb)
           have n2_ := zM (zvb (by (with_reducible repeat (first | apply zva | apply zvn | apply zvd)); exact HO_373002.out) hb)
           have n3_ := zM (zvb (by (with_reducible repeat (first | apply zva | apply zvn | apply zvd)); exact HO_373003.out) hb)
           have n4_ := zM (zvb (by (with_reducible repeat (first | apply zva | apply zvn | apply zvd)); exact HO_383002.out) hb)
           have n5_ := zM (zvb (by (with_reducible repeat (first | apply zva | apply zvn | apply zvd)); exact HO_383003.out) hb)
           have n6_ := zM (zvb (by (with_reducible repeat (first | apply zva | apply zvn | apply zvd)); exact HO_393002.out) hb)
           have n7_ := zM (zvb (by (with_reducible repeat (first | apply zva | apply zvn | apply zvd)); exact HO_393003.out) hb)
           have n8_ := zM (zvb (by (with_reducible repeat (first | apply zva | apply zvn | apply zvd)); exact HO399.out) hb)
           have n9_ := zM (zvb (by (with_reducible repeat (first | apply zva | apply zvn | apply zvd)); exact HO402.out) hb)
           have n10_ := zM (zvb (by (with_reducible repeat (first | apply zva | apply zvn | apply zvd)); exact HO407.out) hb)
           have n11_ := zM (zvb (by (with_reducible repeat (first | apply zva | apply zvn | apply zvd)); exact HO410.out) hb)
           have n12_ := zM (zb (g := gb350) (o := .cells #[.int .i64 a0_0, .int .i64 a0_1, .slice A0_2 l0_2.length c0_2, .slice A0_3 l0_3.length c0_3, .string a0_4, .int .i64 a0_5, .int .i64 a0_6] 46 (0, 0)) (by (with_reducible repeat (first | refine zn ?_ _ | refine zd ?_ | refine za ?_ _)); exact BK350.out) hb)
           have n13_ := zM (zb (g := gb351) (o := .cells #[.int .i64 a0_0, .int .i64 a0_1, .slice A0_2 l0_2.length c0_2, .slice A0_3 l0_3.length c0_3] 25 (0, 0)) (by (with_reducible repeat (first | refine zn ?_ _ | refine zd ?_ | refine za ?_ _)); exact BK351.out) hb)
           have n14_ := zM (zb (g := gb362) (o := .cells #[.int .i64 t353, .int .i64 t354, .slice Ao29 t355.length co29, .slice Ao30 t358.length co30] 25 (0, 0)) (by (with_reducible repeat (first | refine zn ?_ _ | refine zd ?_ | refine za ?_ _)); exact BK362.out) hb)
           have n15_ := zM (zb (g := gb372) (o := .cells #[.int .i64 t363, .int .i64 t364, .slice Ao39 t365.length co39, .slice Ao40 t368.length co40] 25 (0, 0)) (by (with_reducible repeat (first | refine zn ?_ _ | refine zd ?_ | refine za ?_ _)); exact BK372.out) hb)
           have n16_ := zM (zb (g := gb382) (o := .cells #[.int .i64 t373, .int .i64 t374, .slice Ao50 t375.length co50, .slice Ao51 t378.length co51] 25 (0, 0)) (by (with_reducible repeat (first | refine zn ?_ _ | refine zd ?_ | refine za ?_ _)); exact BK382.out) hb)
           have n17_ := zM (zb (g := gb392) (o := .cells #[.int .i64 t383, .int .i64 t384, .slice Ao62 t385.length co62, .slice Ao63 t388.length co63] 25 (0, 0)) (by (with_reducible repeat (first | refine zn ?_ _ | refine zd ?_ | refine za ?_ _)); exact BK392.out) hb)
           have n18_ := zM (zp (by repeat (first | (with_reducible first | exact HB.out | apply zL | apply zN | apply zD | refine zJ ?_ GE350.out | refine zJ ?_ GE351.out | refine zJ ?_ GE362.out | refine zJ ?_ GE372.out | refine zJ ?_ GE382.out | refine zJ ?_ GE392.out) | exact HB.out)) hb)
           clear HO_363002
           clear HO_363003
           clear HO_373002
           clear HO_373003
           clear HO_383002
           clear HO_383003
           clear HO_393002
           clear HO_393003
           clear HO399
           clear HO402
           clear HO407
           clear HO410
           clear BK350
           clear BK351
           clear BK362
           clear BK372
           clear BK382
           clear BK392
           clear HB
           have HO_363002 := n0_
           have HO_363003 := n1_
           have HO_373002 := n2_
           have HO_373003 := n3_
           have HO_383002 := n4_
           have HO_383003 := n5_
           have HO_393002 := n6_
           have HO_393003 := n7_
           have HO399 := n8_
           have HO402 := n9_
           have HO407 := n10_
           have HO410 := n11_
           have BK350 := n12_
           have BK351 := n13_
           have BK362 := n14_
           have BK372 := n15_
           have BK382 := n16_
           have BK392 := n17_
           have HB := n18_
           clear n0_ n1_ n2_ n3_ n4_ n5_ n6_ n7_ n8_ n9_ n10_ n11_ n12_ n13_ n14_ n15_ n16_ n17_ n18_
           (try clear hb)
           (try clear hb2)
           (try clear hk)
           (try clear hi)
           refine hK.out _ _ ⟨(zc BK351.out 0).trans rfl, (zc BK351.out 1).trans rfl, (zc BK351.out 2).trans rfl, (zc BK351.out 3).trans rfl⟩ (fun hHeld => ?_)
           clear hK K
           refine norm_ (a' := ?_) ?_ ?_
           rotate_left
           ·show Act.put _ (some 73) _ = _
            simp only [Act.put, zA, zZ, zS, i64_w, i32_w]
            rfl
           refine pure_ (i := 7) (N := some 17) (v := ?_) (a' := ?_) mq148 rfl rfl (any_of HT_.out (by kernel_rfl)) (fun _ _ _ h => h) (Or.inl ⟨by rfl, ?_⟩) ?_ ?_
           rotate_left
           ·intro w'
            go_simp
            with_reducible rfl
           rotate_left
           ·simp only [Act.put, zA, zZ, zS, i64_w, i32_w]
            rfl
           refine done_ (done_of HT_.out (by kernel_rfl)) ?_
           try go_wp2
           have n0_ := zM (zvd HO_363002.out)
           have n1_ := zM (zvd HO_363003.out)
           have n2_ := zM (zvd HO_373002.out)
           have n3_ := zM (zvd HO_373003.out)
           have n4_ := zM (zvd HO_383002.out)
           have n5_ := zM (zvd HO_383003.out)
           have n6_ := zM (zvd HO_393002.out)
           have n7_ := zM (zvd HO_393003.out)
           have n8_ := zM (zvd HO399.out)
           have n9_ := zM (zvd HO402.out)
           have n10_ := zM (zvd HO407.out)
           have n11_ := zM (zvd HO410.out)
           have n12_ := zM (zd BK350.out)
           have n13_ := zM (zd BK351.out)
           have n14_ := zM (zd BK362.out)
           have n15_ := zM (zd BK372.out)
           have n16_ := zM (zd BK382.out)
           have n17_ := zM (zd BK392.out)
           have n18_ := zM (zD HB.out)
           clear HO_363002
           clear HO_363003
           clear HO_373002
           clear HO_373003
           clear HO_383002
           clear HO_383003
           clear HO_393002
           clear HO_393003
           clear HO399
           clear HO402
           clear HO407
           clear HO410
           clear BK350
           clear BK351
           clear BK362
           clear BK372
           clear BK382
           clear BK392
           clear HB
           have HO_363002 := n0_
           have HO_363003 := n1_
           have HO_373002 := n2_
           have HO_373003 := n3_
           have HO_383002 := n4_
           have HO_383003 := n5_
           have HO_393002 := n6_
           have HO_393003 := n7_
           have HO399 := n8_
           have HO402 := n9_
           have HO407 := n10_
           have HO410 := n11_
           have BK350 := n12_
           have BK351 := n13_
           have BK362 := n14_
           have BK372 := n15_
           have BK382 := n16_
           have BK392 := n17_
           have HB := n18_
           clear n0_ n1_ n2_ n3_ n4_ n5_ n6_ n7_ n8_ n9_ n10_ n11_ n12_ n13_ n14_ n15_ n16_ n17_ n18_
           refine start_ (n := 8) (S := fun w' => w'.cell? ⟨gb351, 0, none⟩ = some (.int .i64 a0_0) ∧ w'.cell? ⟨gb351, 1, none⟩ = some (.int .i64 a0_1) ∧ w'.cell? ⟨gb351, 2, none⟩ = some (.slice A0_2 l0_2.length c0_2) ∧ w'.cell? ⟨gb351, 3, none⟩ = some (.slice A0_3 l0_3.length c0_3)) (ds := []) mq140 (by kernel_rfl) rfl rfl ⟨(zc BK351.out 0).trans rfl, (zc BK351.out 1).trans rfl, (zc BK351.out 2).trans rfl, (zc BK351.out 3).trans rfl⟩ (fun hHeld => ?_); refine with_tabW L16_LaneSubmits.tab14 L16_LaneSubmits.bits14 (fun HT_ HW_ => ?_)
           generalize w117.drew = w118 at HO_363002 HO_363003 HO_373002 HO_373003 HO_383002 HO_383003 HO_393002 HO_393003 HO399 HO402 HO407 HO410 BK350 BK351 BK362 BK372 BK382 BK392 HB hHeld ⊢
           refine pure_ (i := 1) (N := some 75) (v := ?_) (a' := ?_) mq141 rfl rfl (any_of HT_.out (by kernel_rfl)) (fun _ _ _ h => h) (Or.inl ⟨by rfl, ?_⟩) ?_ ?_
           rotate_left
           ·intro w'
            go_simp
            with_reducible rfl
           rotate_left
           ·simp only [Act.put, zA, zZ, zS, i64_w, i32_w]
            rfl
           refine pure_ (i := 4) (N := some 78) (v := ?_) (a' := ?_) mq142 rfl rfl (any_of HT_.out (by kernel_rfl)) (fun _ _ _ h => h) (Or.inl ⟨by rfl, ?_⟩) ?_ ?_
           rotate_left
           ·intro w'
            go_simp
            with_reducible rfl
           rotate_left
           ·simp only [Act.put, zA, zZ, zS, i64_w, i32_w]
            rfl
           refine take_ (i := 0) (N := some 74) (v := ?_) (a' := ?_) mq143 rfl rfl (take_ofW HT_.out HW_.out (by kernel_rfl)) (fun _ _ _ h => h) (Or.inl ⟨by rfl, ?_⟩) hHeld ?_ ?_
           rotate_left
           ·rintro w' ⟨s0, s1, s2, s3⟩
            go_simp
            with_reducible rfl
           rotate_left
           ·simp only [Act.put, zA, zZ, zS, i64_w, i32_w]
            rfl
           refine take_ (i := 3) (N := some 77) (v := ?_) (a' := ?_) mq144 rfl rfl (take_ofW HT_.out HW_.out (by kernel_rfl)) (fun _ _ _ h => h) (Or.inl ⟨by rfl, ?_⟩) hHeld ?_ ?_
           rotate_left
           ·rintro w' ⟨s0, s1, s2, s3⟩
            go_simp
            with_reducible rfl
           rotate_left
           ·simp only [Act.put, zA, zZ, zS, i64_w, i32_w]
            rfl
           refine one_ (i := 2) (N := some 76) mq145 rfl rfl (one_of HT_.out (by kernel_rfl)) (by decide) (fun K hK => ?_)
           refine goes_ Try.func13 (by kernel_rfl) rfl #[.agg #[.int .i64 a0_0, .int .i64 a0_1, .slice A0_2 l0_2.length c0_2, .slice A0_3 l0_3.length c0_3], .int .i64 a0_6] (by rfl) rfl rfl (by (try simp only [List.map_toArray, List.map_cons, List.map_nil]); first | done | rfl | (simp only [List.length_drop, List.length_take]; rfl)) ?_
           with_reducible refine (lane_Pick.calls a0_0 a0_1 _ _ l0_2 (fun k_ => k_ < w.heap.size) _ _ l0_3 a0_6 t412 _ ?side1 ?side2 ?side3 A102.out).mono ?_
           (case side1 => repeat (first | exact (zcb HR0_2.out HB.out) | (with_reducible refine zca ?_ _) | (with_reducible refine zcn ?_ _) | (with_reducible refine zcd ?_)))
           (case side2 => exact HC0_2.out)
           (case side3 => exact Kd.V_mk HC0_3.out (Kd.F_below (Kd.C_F k42_heap HR0_3.out) (by repeat (first | (with_reducible first | exact HB.out | apply zL | apply zN | apply zD | refine zJ ?_ GE350.out | refine zJ ?_ GE351.out | refine zJ ?_ GE362.out | refine zJ ?_ GE372.out | refine zJ ?_ GE382.out | refine zJ ?_ GE392.out) | exact HB.out))))
           rintro e w119 ⟨v413, rfl, ho0, hb⟩
           refine ⟨_, rfl, ?_⟩
           have n0_ := zM (Kd.V_elder' (by (with_reducible repeat (first | apply zva | apply zvn | apply zvd)); exact HO_363002.out) (Kd.N_base ho0) hb)
           have n1_ := zM (Kd.V_elder' (by (with_reducible repeat (first | apply zva | apply zvn | apply zvd)); exact HO_363003.out) (Kd.N_base ho0) hb)
           have n2_ := zM (Kd.V_elder' (by (with_reducible repeat (first | apply zva | apply zvn | apply zvd)); exact HO_373002.out) (Kd.N_base ho0) hb)
           have n3_ := zM (Kd.V_elder' (by (with_reducible repeat (first | apply zva | apply zvn | apply zvd)); exact HO_373003.out) (Kd.N_base ho0) hb)
           have n4_ := zM (Kd.V_elder' (by (with_reducible repeat (first | apply zva | apply zvn | apply zvd)); exact HO_383002.out) (Kd.N_base ho0) hb)
           have n5_ := zM (Kd.V_elder' (by (with_reducible repeat (first | apply zva | apply zvn | apply zvd)); exact HO_383003.out) (Kd.N_base ho0) hb)
           have n6_ := zM (Kd.V_elder' (by (with_reducible repeat (first | apply zva | apply zvn | apply zvd)); exact HO_393002.out) (Kd.N_base ho0) hb)
           have n7_ := zM (Kd.V_elder' (by (with_reducible repeat (first | apply zva | apply zvn | apply zvd)); exact HO_393003.out) (Kd.N_base ho0) hb)
           have n8_ := zM (Kd.V_elder' (by (with_reducible repeat (first | apply zva | apply zvn | apply zvd)); exact HO399.out) (Kd.N_base ho0) hb)
           have n9_ := zM (Kd.V_elder' (by (with_reducible repeat (first | apply zva | apply zvn | apply zvd)); exact HO402.out) (Kd.N_base ho0) hb)
           have n10_ := zM (Kd.V_elder' (by (with_reducible repeat (first | apply zva | apply zvn | apply zvd)); exact HO407.out) (Kd.N_base ho0) hb)
           have n11_ := zM (Kd.V_elder' (by (with_reducible repeat (first | apply zva | apply zvn | apply zvd)); exact HO410.out) (Kd.N_base ho0) hb)
           have n12_ := zM (Kd.N_lower (znm (ok' := fun k_ => k_ ≠ gb350 ∧ k_ ≠ gb351 ∧ k_ ≠ gb362 ∧ k_ ≠ gb372 ∧ k_ ≠ gb382 ∧ k_ ≠ gb392) ho0 (fun k_ hk_ => ⟨Or.elim hk_ (fun hs_ => fun e_ => Nat.not_le.2 hs_ (by rw [e_]; exact GW350.out)) (fun hn_ => (Kd.freshB (g := gb350) (o := .cells #[.int .i64 a0_0, .int .i64 a0_1, .slice A0_2 l0_2.length c0_2, .slice A0_3 l0_3.length c0_3, .string a0_4, .int .i64 a0_5, .int .i64 a0_6] 46 (0, 0)) (by (with_reducible repeat (first | refine zn ?_ _ | refine zd ?_ | refine za ?_ _)); exact BK350.out) k_ hn_)), Or.elim hk_ (fun hs_ => fun e_ => Nat.not_le.2 hs_ (by rw [e_]; exact GW351.out)) (fun hn_ => (Kd.freshB (g := gb351) (o := .cells #[.int .i64 a0_0, .int .i64 a0_1, .slice A0_2 l0_2.length c0_2, .slice A0_3 l0_3.length c0_3] 25 (0, 0)) (by (with_reducible repeat (first | refine zn ?_ _ | refine zd ?_ | refine za ?_ _)); exact BK351.out) k_ hn_)), Or.elim hk_ (fun hs_ => fun e_ => Nat.not_le.2 hs_ (by rw [e_]; exact GW362.out)) (fun hn_ => (Kd.freshB (g := gb362) (o := .cells #[.int .i64 t353, .int .i64 t354, .slice Ao29 t355.length co29, .slice Ao30 t358.length co30] 25 (0, 0)) (by (with_reducible repeat (first | refine zn ?_ _ | refine zd ?_ | refine za ?_ _)); exact BK362.out) k_ hn_)), Or.elim hk_ (fun hs_ => fun e_ => Nat.not_le.2 hs_ (by rw [e_]; exact GW372.out)) (fun hn_ => (Kd.freshB (g := gb372) (o := .cells #[.int .i64 t363, .int .i64 t364, .slice Ao39 t365.length co39, .slice Ao40 t368.length co40] 25 (0, 0)) (by (with_reducible repeat (first | refine zn ?_ _ | refine zd ?_ | refine za ?_ _)); exact BK372.out) k_ hn_)), Or.elim hk_ (fun hs_ => fun e_ => Nat.not_le.2 hs_ (by rw [e_]; exact GW382.out)) (fun hn_ => (Kd.freshB (g := gb382) (o := .cells #[.int .i64 t373, .int .i64 t374, .slice Ao50 t375.length co50, .slice Ao51 t378.length co51] 25 (0, 0)) (by (with_reducible repeat (first | refine zn ?_ _ | refine zd ?_ | refine za ?_ _)); exact BK382.out) k_ hn_)), Or.elim hk_ (fun hs_ => fun e_ => Nat.not_le.2 hs_ (by rw [e_]; exact GW392.out)) (fun hn_ => (Kd.freshB (g := gb392) (o := .cells #[.int .i64 t383, .int .i64 t384, .slice Ao62 t385.length co62, .slice Ao63 t388.length co63] 25 (0, 0)) (by (with_reducible repeat (first | refine zn ?_ _ | refine zd ?_ | refine za ?_ _)); exact BK392.out) k_ hn_))⟩)) (zs (by repeat (first | (with_reducible first | exact HB.out | apply zL | apply zN | apply zD | refine zJ ?_ GE350.out | refine zJ ?_ GE351.out | refine zJ ?_ GE362.out | refine zJ ?_ GE372.out | refine zJ ?_ GE382.out | refine zJ ?_ GE392.out) | exact HB.out))))
           have n13_ := zM (zb (g := gb350) (o := .cells #[.int .i64 a0_0, .int .i64 a0_1, .slice A0_2 l0_2.length c0_2, .slice A0_3 l0_3.length c0_3, .string a0_4, .int .i64 a0_5, .int .i64 a0_6] 46 (0, 0)) (by (with_reducible repeat (first | refine zn ?_ _ | refine zd ?_ | refine za ?_ _)); exact BK350.out) hb)
           have n14_ := zM (zb (g := gb351) (o := .cells #[.int .i64 a0_0, .int .i64 a0_1, .slice A0_2 l0_2.length c0_2, .slice A0_3 l0_3.length c0_3] 25 (0, 0)) (by (with_reducible repeat (first | refine zn ?_ _ | refine zd ?_ | refine za ?_ _)); exact BK351.out) hb)
           have n15_ := zM (zb (g := gb362) (o := .cells #[.int .i64 t353, .int .i64 t354, .slice Ao29 t355.length co29, .slice Ao30 t358.length co30] 25 (0, 0)) (by (with_reducible repeat (first | refine zn ?_ _ | refine zd ?_ | refine za ?_ _)); exact BK362.out) hb)
           have n16_ := zM (zb (g := gb372) (o := .cells #[.int .i64 t363, .int .i64 t364, .slice Ao39 t365.length co39, .slice Ao40 t368.length co40] 25 (0, 0)) (by (with_reducible repeat (first | refine zn ?_ _ | refine zd ?_ | refine za ?_ _)); exact BK372.out) hb)
           have n17_ := zM (zb (g := gb382) (o := .cells #[.int .i64 t373, .int .i64 t374, .slice Ao50 t375.length co50, .slice Ao51 t378.length co51] 25 (0, 0)) (by (with_reducible repeat (first | refine zn ?_ _ | refine zd ?_ | refine za ?_ _)); exact BK382.out) hb)
           have n18_ := zM (zb (g := gb392) (o := .cells #[.int .i64 t383, .int .i64 t384, .slice Ao62 t385.length co62, .slice Ao63 t388.length co63] 25 (0, 0)) (by (with_reducible repeat (first | refine zn ?_ _ | refine zd ?_ | refine za ?_ _)); exact BK392.out) hb)
           have n19_ := zM (zp (by repeat (first | (with_reducible first | exact HB.out | apply zL | apply zN | apply zD | refine zJ ?_ GE350.out | refine zJ ?_ GE351.out | refine zJ ?_ GE362.out | refine zJ ?_ GE372.out | refine zJ ?_ GE382.out | refine zJ ?_ GE392.out) | exact HB.out)) hb)
           clear HO_363002
           clear HO_363003
           clear HO_373002
           clear HO_373003
           clear HO_383002
           clear HO_383003
           clear HO_393002
           clear HO_393003
           clear HO399
           clear HO402
           clear HO407
           clear HO410
           clear BK350
           clear BK351
           clear BK362
           clear BK372
           clear BK382
           clear BK392
           clear HB
           have HO_363002 := n0_
           have HO_363003 := n1_
           have HO_373002 := n2_
           have HO_373003 := n3_
           have HO_383002 := n4_
           have HO_383003 := n5_
           have HO_393002 := n6_
           have HO_393003 := n7_
           have HO399 := n8_
           have HO402 := n9_
           have HO407 := n10_
           have HO410 := n11_
           have HO414 := n12_
           have BK350 := n13_
           have BK351 := n14_
           have BK362 := n15_
           have BK372 := n16_
           have BK382 := n17_
           have BK392 := n18_
           have HB := n19_
           clear n0_ n1_ n2_ n3_ n4_ n5_ n6_ n7_ n8_ n9_ n10_ n11_ n12_ n13_ n14_ n15_ n16_ n17_ n18_ n19_
           (try clear hb)
           (try clear hb2)
           (try clear hk)
           (try clear hi)
           (try clear ho0)
           refine hK.out _ _ ⟨(zc BK351.out 0).trans rfl, (zc BK351.out 1).trans rfl, (zc BK351.out 2).trans rfl, (zc BK351.out 3).trans rfl⟩ (fun hHeld => ?_)
           clear hK K
           refine norm_ (a' := ?_) ?_ ?_
           rotate_left
           ·show Act.put _ (some 76) _ = _
            simp only [Act.put, zA, zZ, zS, i64_w, i32_w]
            rfl
           refine one_ (i := 5) (N := some 79) mq146 rfl rfl (one_of HT_.out (by kernel_rfl)) (by decide) (fun K hK => ?_)
           refine goes_ Try.func23 (by kernel_rfl) rfl #[.agg #[.int .i64 a0_0, .int .i64 a0_1, .slice A0_2 l0_2.length c0_2, .slice A0_3 l0_3.length c0_3], .int .i64 a0_6] (by rfl) rfl rfl (by (try simp only [List.map_toArray, List.map_cons, List.map_nil]); first | done | rfl | (simp only [List.length_drop, List.length_take]; rfl)) ?_
           with_reducible refine (R16_Pick.calls kj20 a0_0 a0_1 _ _ l0_2 (fun k_ => k_ < w.heap.size) _ _ l0_3 a0_6 t415 _ ?side1 ?side2 ?side3 A103.out).mono ?_
           (case side1 => repeat (first | exact (zcb HR0_2.out HB.out) | (with_reducible refine zca ?_ _) | (with_reducible refine zcn ?_ _) | (with_reducible refine zcd ?_)))
           (case side2 => exact HC0_2.out)
           (case side3 => exact Kd.V_mk HC0_3.out (Kd.F_below (Kd.C_F k42_heap HR0_3.out) (by repeat (first | (with_reducible first | exact HB.out | apply zL | apply zN | apply zD | refine zJ ?_ GE350.out | refine zJ ?_ GE351.out | refine zJ ?_ GE362.out | refine zJ ?_ GE372.out | refine zJ ?_ GE382.out | refine zJ ?_ GE392.out) | exact HB.out))))
           rintro e w120 ⟨v416, rfl, ho0, hb⟩
           refine ⟨_, rfl, ?_⟩
           have n0_ := zM (Kd.V_elder' (by (with_reducible repeat (first | apply zva | apply zvn | apply zvd)); exact HO_363002.out) (Kd.N_base ho0) hb)
           have n1_ := zM (Kd.V_elder' (by (with_reducible repeat (first | apply zva | apply zvn | apply zvd)); exact HO_363003.out) (Kd.N_base ho0) hb)
           have n2_ := zM (Kd.V_elder' (by (with_reducible repeat (first | apply zva | apply zvn | apply zvd)); exact HO_373002.out) (Kd.N_base ho0) hb)
           have n3_ := zM (Kd.V_elder' (by (with_reducible repeat (first | apply zva | apply zvn | apply zvd)); exact HO_373003.out) (Kd.N_base ho0) hb)
           have n4_ := zM (Kd.V_elder' (by (with_reducible repeat (first | apply zva | apply zvn | apply zvd)); exact HO_383002.out) (Kd.N_base ho0) hb)
           have n5_ := zM (Kd.V_elder' (by (with_reducible repeat (first | apply zva | apply zvn | apply zvd)); exact HO_383003.out) (Kd.N_base ho0) hb)
           have n6_ := zM (Kd.V_elder' (by (with_reducible repeat (first | apply zva | apply zvn | apply zvd)); exact HO_393002.out) (Kd.N_base ho0) hb)
           have n7_ := zM (Kd.V_elder' (by (with_reducible repeat (first | apply zva | apply zvn | apply zvd)); exact HO_393003.out) (Kd.N_base ho0) hb)
           have n8_ := zM (Kd.V_elder' (by (with_reducible repeat (first | apply zva | apply zvn | apply zvd)); exact HO399.out) (Kd.N_base ho0) hb)
           have n9_ := zM (Kd.V_elder' (by (with_reducible repeat (first | apply zva | apply zvn | apply zvd)); exact HO402.out) (Kd.N_base ho0) hb)
           have n10_ := zM (Kd.V_elder' (by (with_reducible repeat (first | apply zva | apply zvn | apply zvd)); exact HO407.out) (Kd.N_base ho0) hb)
           have n11_ := zM (Kd.V_elder' (by (with_reducible repeat (first | apply zva | apply zvn | apply zvd)); exact HO410.out) (Kd.N_base ho0) hb)
           have n12_ := zM (Kd.N_elder' (by (with_reducible repeat (first | apply zna | apply znn | apply znd)); exact HO414.out) (Kd.N_base ho0) hb)
           have n13_ := zM (Kd.N_lower (znm (ok' := fun k_ => some k_ ≠ (v413 : Value).ownBlock ∧ k_ ≠ gb350 ∧ k_ ≠ gb351 ∧ k_ ≠ gb362 ∧ k_ ≠ gb372 ∧ k_ ≠ gb382 ∧ k_ ≠ gb392) ho0 (fun k_ hk_ => ⟨Or.elim hk_ (fun hs_ => fun e_ => Nat.not_le.2 hs_ (Kd.N_base HO414.out k_ e_.symm)) (fun hn_ => (Kd.fresh' (Kd.N_lt (by (with_reducible repeat (first | apply zna | apply znn | apply znd)); exact HO414.out)) k_ hn_)), Or.elim hk_ (fun hs_ => fun e_ => Nat.not_le.2 hs_ (by rw [e_]; exact GW350.out)) (fun hn_ => (Kd.freshB (g := gb350) (o := .cells #[.int .i64 a0_0, .int .i64 a0_1, .slice A0_2 l0_2.length c0_2, .slice A0_3 l0_3.length c0_3, .string a0_4, .int .i64 a0_5, .int .i64 a0_6] 46 (0, 0)) (by (with_reducible repeat (first | refine zn ?_ _ | refine zd ?_ | refine za ?_ _)); exact BK350.out) k_ hn_)), Or.elim hk_ (fun hs_ => fun e_ => Nat.not_le.2 hs_ (by rw [e_]; exact GW351.out)) (fun hn_ => (Kd.freshB (g := gb351) (o := .cells #[.int .i64 a0_0, .int .i64 a0_1, .slice A0_2 l0_2.length c0_2, .slice A0_3 l0_3.length c0_3] 25 (0, 0)) (by (with_reducible repeat (first | refine zn ?_ _ | refine zd ?_ | refine za ?_ _)); exact BK351.out) k_ hn_)), Or.elim hk_ (fun hs_ => fun e_ => Nat.not_le.2 hs_ (by rw [e_]; exact GW362.out)) (fun hn_ => (Kd.freshB (g := gb362) (o := .cells #[.int .i64 t353, .int .i64 t354, .slice Ao29 t355.length co29, .slice Ao30 t358.length co30] 25 (0, 0)) (by (with_reducible repeat (first | refine zn ?_ _ | refine zd ?_ | refine za ?_ _)); exact BK362.out) k_ hn_)), Or.elim hk_ (fun hs_ => fun e_ => Nat.not_le.2 hs_ (by rw [e_]; exact GW372.out)) (fun hn_ => (Kd.freshB (g := gb372) (o := .cells #[.int .i64 t363, .int .i64 t364, .slice Ao39 t365.length co39, .slice Ao40 t368.length co40] 25 (0, 0)) (by (with_reducible repeat (first | refine zn ?_ _ | refine zd ?_ | refine za ?_ _)); exact BK372.out) k_ hn_)), Or.elim hk_ (fun hs_ => fun e_ => Nat.not_le.2 hs_ (by rw [e_]; exact GW382.out)) (fun hn_ => (Kd.freshB (g := gb382) (o := .cells #[.int .i64 t373, .int .i64 t374, .slice Ao50 t375.length co50, .slice Ao51 t378.length co51] 25 (0, 0)) (by (with_reducible repeat (first | refine zn ?_ _ | refine zd ?_ | refine za ?_ _)); exact BK382.out) k_ hn_)), Or.elim hk_ (fun hs_ => fun e_ => Nat.not_le.2 hs_ (by rw [e_]; exact GW392.out)) (fun hn_ => (Kd.freshB (g := gb392) (o := .cells #[.int .i64 t383, .int .i64 t384, .slice Ao62 t385.length co62, .slice Ao63 t388.length co63] 25 (0, 0)) (by (with_reducible repeat (first | refine zn ?_ _ | refine zd ?_ | refine za ?_ _)); exact BK392.out) k_ hn_))⟩)) (zs (by repeat (first | (with_reducible first | exact HB.out | apply zL | apply zN | apply zD | refine zJ ?_ GE350.out | refine zJ ?_ GE351.out | refine zJ ?_ GE362.out | refine zJ ?_ GE372.out | refine zJ ?_ GE382.out | refine zJ ?_ GE392.out) | exact HB.out))))
           have n14_ := zM (zb (g := gb350) (o := .cells #[.int .i64 a0_0, .int .i64 a0_1, .slice A0_2 l0_2.length c0_2, .slice A0_3 l0_3.length c0_3, .string a0_4, .int .i64 a0_5, .int .i64 a0_6] 46 (0, 0)) (by (with_reducible repeat (first | refine zn ?_ _ | refine zd ?_ | refine za ?_ _)); exact BK350.out) hb)
           have n15_ := zM (zb (g := gb351) (o := .cells #[.int .i64 a0_0, .int .i64 a0_1, .slice A0_2 l0_2.length c0_2, .slice A0_3 l0_3.length c0_3] 25 (0, 0)) (by (with_reducible repeat (first | refine zn ?_ _ | refine zd ?_ | refine za ?_ _)); exact BK351.out) hb)
           have n16_ := zM (zb (g := gb362) (o := .cells #[.int .i64 t353, .int .i64 t354, .slice Ao29 t355.length co29, .slice Ao30 t358.length co30] 25 (0, 0)) (by (with_reducible repeat (first | refine zn ?_ _ | refine zd ?_ | refine za ?_ _)); exact BK362.out) hb)
           have n17_ := zM (zb (g := gb372) (o := .cells #[.int .i64 t363, .int .i64 t364, .slice Ao39 t365.length co39, .slice Ao40 t368.length co40] 25 (0, 0)) (by (with_reducible repeat (first | refine zn ?_ _ | refine zd ?_ | refine za ?_ _)); exact BK372.out) hb)
           have n18_ := zM (zb (g := gb382) (o := .cells #[.int .i64 t373, .int .i64 t374, .slice Ao50 t375.length co50, .slice Ao51 t378.length co51] 25 (0, 0)) (by (with_reducible repeat (first | refine zn ?_ _ | refine zd ?_ | refine za ?_ _)); exact BK382.out) hb)
           have n19_ := zM (zb (g := gb392) (o := .cells #[.int .i64 t383, .int .i64 t384, .slice Ao62 t385.length co62, .slice Ao63 t388.length co63] 25 (0, 0)) (by (with_reducible repeat (first | refine zn ?_ _ | refine zd ?_ | refine za ?_ _)); exact BK392.out) hb)
           have n20_ := zM (zp (by repeat (first | (with_reducible first | exact HB.out | apply zL | apply zN | apply zD | refine zJ ?_ GE350.out | refine zJ ?_ GE351.out | refine zJ ?_ GE362.out | refine zJ ?_ GE372.out | refine zJ ?_ GE382.out | refine zJ ?_ GE392.out) | exact HB.out)) hb)
           clear HO_363002
           clear HO_363003
           clear HO_373002
           clear HO_373003
           clear HO_383002
           clear HO_383003
           clear HO_393002
           clear HO_393003
           clear HO399
           clear HO402
           clear HO407
           clear HO410
           clear HO414
           clear BK350
           clear BK351
           clear BK362
           clear BK372
           clear BK382
           clear BK392
           clear HB
           have HO_363002 := n0_
           have HO_363003 := n1_
           have HO_373002 := n2_
           have HO_373003 := n3_
           have HO_383002 := n4_
           have HO_383003 := n5_
           have HO_393002 := n6_
           have HO_393003 := n7_
           have HO399 := n8_
           have HO402 := n9_
           have HO407 := n10_
           have HO410 := n11_
           have HO414 := n12_
           have HO417 := n13_
           have BK350 := n14_
           have BK351 := n15_
           have BK362 := n16_
           have BK372 := n17_
           have BK382 := n18_
           have BK392 := n19_
           have HB := n20_
           clear n0_ n1_ n2_ n3_ n4_ n5_ n6_ n7_ n8_ n9_ n10_ n11_ n12_ n13_ n14_ n15_ n16_ n17_ n18_ n19_ n20_
           (try clear hb)
           (try clear hb2)
           (try clear hk)
           (try clear hi)
           (try clear ho0)
           obtain ⟨Ao121, co121, eo121⟩ := Kd.N_slice HO414.out
           (first | subst eo121 | (injection eo121 with f1_ f2_ f3_; have f4_ := f1_.symm; have f5_ := f3_.symm; clear f1_ f2_ f3_; subst f4_; subst f5_))
           obtain ⟨Ao122, co122, eo122⟩ := Kd.N_slice HO417.out
           (first | subst eo122 | (injection eo122 with f1_ f2_ f3_; have f4_ := f1_.symm; have f5_ := f3_.symm; clear f1_ f2_ f3_; subst f4_; subst f5_))
           refine hK.out _ _ ⟨(zc BK351.out 0).trans rfl, (zc BK351.out 1).trans rfl, (zc BK351.out 2).trans rfl, (zc BK351.out 3).trans rfl⟩ (fun hHeld => ?_)
           clear hK K
           refine norm_ (a' := ?_) ?_ ?_
           rotate_left
           ·show Act.put _ (some 79) _ = _
            simp only [Act.put, zA, zZ, zS, i64_w, i32_w]
            rfl
           refine one_ (i := 6) (N := some 80) mq147 rfl rfl (one_of HT_.out (by kernel_rfl)) (by decide) (fun K hK => ?_)
           refine goes_ Try.func14 (by kernel_rfl) rfl #[.slice Ao121 t412.length co121, .slice Ao122 t415.length co122] (by rfl) rfl rfl (by (try simp only [List.map_toArray, List.map_cons, List.map_nil]); first | done | rfl | (simp only [List.length_drop, List.length_take]; rfl)) ?_
           with_reducible refine (R07_SameAll.calls kj20 _ _ t412 _ _ t415 true _ ?side1 ?side2 ?side3 ?side4 A104.out).mono ?_
           (case side1 => repeat (first | exact (Kd.N_reads' HO414.out).2.2 | (with_reducible refine zca ?_ _) | (with_reducible refine zcn ?_ _) | (with_reducible refine zcd ?_)))
           (case side2 => exact (Kd.N_reads' HO414.out).2.1)
           (case side3 => repeat (first | exact (Kd.N_reads' HO417.out).2.2 | (with_reducible refine zca ?_ _) | (with_reducible refine zcn ?_ _) | (with_reducible refine zcd ?_)))
           (case side4 => exact (Kd.N_reads' HO417.out).2.1)
           rintro e w123 ⟨rfl, hb⟩
           refine ⟨_, rfl, ?_⟩
           have n0_ := zM (zvb (by (with_reducible repeat (first | apply zva | apply zvn | apply zvd)); exact HO_363002.out) hb)
           have n1_ := zM (zvb (by (with_reducible repeat (first | apply zva | apply zvn | apply zvd)); exact HO_363003.out) hb)
           have n2_ := zM (zvb (by (with_reducible repeat (first | apply zva | apply zvn | apply zvd)); exact HO_373002.out) hb)
           have n3_ := zM (zvb (by (with_reducible repeat (first | apply zva | apply zvn | apply zvd)); exact HO_373003.out) hb)
           have n4_ := zM (zvb (by (with_reducible repeat (first | apply zva | apply zvn | apply zvd)); exact HO_383002.out) hb)
           have n5_ := zM (zvb (by (with_reducible repeat (first | apply zva | apply zvn | apply zvd)); exact HO_383003.out) hb)
           have n6_ := zM (zvb (by (with_reducible repeat (first | apply zva | apply zvn | apply zvd)); exact HO_393002.out) hb)
           have n7_ := zM (zvb (by (with_reducible repeat (first | apply zva | apply zvn | apply zvd)); exact HO_393003.out) hb)
           have n8_ := zM (zvb (by (with_reducible repeat (first | apply zva | apply zvn | apply zvd)); exact HO399.out) hb)
           have n9_ := zM (zvb (by (with_reducible repeat (first | apply zva | apply zvn | apply zvd)); exact HO402.out) hb)
           have n10_ := zM (zvb (by (with_reducible repeat (first | apply zva | apply zvn | apply zvd)); exact HO407.out) hb)
           have n11_ := zM (zvb (by (with_reducible repeat (first | apply zva | apply zvn | apply zvd)); exact HO410.out) hb)
           have n12_ := zM (Kd.N_below (by (with_reducible repeat (first | apply zna | apply znn | apply znd)); exact HO414.out) hb)
           have n13_ := zM (Kd.N_below (by (with_reducible repeat (first | apply zna | apply znn | apply znd)); exact HO417.out) hb)
           have n14_ := zM (zb (g := gb350) (o := .cells #[.int .i64 a0_0, .int .i64 a0_1, .slice A0_2 l0_2.length c0_2, .slice A0_3 l0_3.length c0_3, .string a0_4, .int .i64 a0_5, .int .i64 a0_6] 46 (0, 0)) (by (with_reducible repeat (first | refine zn ?_ _ | refine zd ?_ | refine za ?_ _)); exact BK350.out) hb)
           have n15_ := zM (zb (g := gb351) (o := .cells #[.int .i64 a0_0, .int .i64 a0_1, .slice A0_2 l0_2.length c0_2, .slice A0_3 l0_3.length c0_3] 25 (0, 0)) (by (with_reducible repeat (first | refine zn ?_ _ | refine zd ?_ | refine za ?_ _)); exact BK351.out) hb)
           have n16_ := zM (zb (g := gb362) (o := .cells #[.int .i64 t353, .int .i64 t354, .slice Ao29 t355.length co29, .slice Ao30 t358.length co30] 25 (0, 0)) (by (with_reducible repeat (first | refine zn ?_ _ | refine zd ?_ | refine za ?_ _)); exact BK362.out) hb)
           have n17_ := zM (zb (g := gb372) (o := .cells #[.int .i64 t363, .int .i64 t364, .slice Ao39 t365.length co39, .slice Ao40 t368.length co40] 25 (0, 0)) (by (with_reducible repeat (first | refine zn ?_ _ | refine zd ?_ | refine za ?_ _)); exact BK372.out) hb)
           have n18_ := zM (zb (g := gb382) (o := .cells #[.int .i64 t373, .int .i64 t374, .slice Ao50 t375.length co50, .slice Ao51 t378.length co51] 25 (0, 0)) (by (with_reducible repeat (first | refine zn ?_ _ | refine zd ?_ | refine za ?_ _)); exact BK382.out) hb)
           have n19_ := zM (zb (g := gb392) (o := .cells #[.int .i64 t383, .int .i64 t384, .slice Ao62 t385.length co62, .slice Ao63 t388.length co63] 25 (0, 0)) (by (with_reducible repeat (first | refine zn ?_ _ | refine zd ?_ | refine za ?_ _)); exact BK392.out) hb)
           have n20_ := zM (zp (by repeat (first | (with_reducible first | exact HB.out | apply zL | apply zN | apply zD | refine zJ ?_ GE350.out | refine zJ ?_ GE351.out | refine zJ ?_ GE362.out | refine zJ ?_ GE372.out | refine zJ ?_ GE382.out | refine zJ ?_ GE392.out) | exact HB.out)) hb)
           clear HO_363002
           clear HO_363003
           clear HO_373002
           clear HO_373003
           clear HO_383002
           clear HO_383003
           clear HO_393002
           clear HO_393003
           clear HO399
           clear HO402
           clear HO407
           clear HO410
           clear HO414
           clear HO417
           clear BK350
           clear BK351
           clear BK362
           clear BK372
           clear BK382
           clear BK392
           clear HB
           have HO_363002 := n0_
           have HO_363003 := n1_
           have HO_373002 := n2_
           have HO_373003 := n3_
           have HO_383002 := n4_
           have HO_383003 := n5_
           have HO_393002 := n6_
           have HO_393003 := n7_
           have HO399 := n8_
           have HO402 := n9_
           have HO407 := n10_
           have HO410 := n11_
           have HO414 := n12_
           have HO417 := n13_
           have BK350 := n14_
           have BK351 := n15_
           have BK362 := n16_
           have BK372 := n17_
           have BK382 := n18_
           have BK392 := n19_
           have HB := n20_
           clear n0_ n1_ n2_ n3_ n4_ n5_ n6_ n7_ n8_ n9_ n10_ n11_ n12_ n13_ n14_ n15_ n16_ n17_ n18_ n19_ n20_
           (try clear hb)
           (try clear hb2)
           (try clear hk)
           (try clear hi)
           refine hK.out _ _ ⟨(zc BK351.out 0).trans rfl, (zc BK351.out 1).trans rfl, (zc BK351.out 2).trans rfl, (zc BK351.out 3).trans rfl⟩ (fun hHeld => ?_)
           clear hK K
           refine norm_ (a' := ?_) ?_ ?_
           rotate_left
           ·show Act.put _ (some 80) _ = _
            simp only [Act.put, zA, zZ, zS, i64_w, i32_w]
            rfl
           refine pure_ (i := 7) (N := some 18) (v := ?_) (a' := ?_) mq148 rfl rfl (any_of HT_.out (by kernel_rfl)) (fun _ _ _ h => h) (Or.inl ⟨by rfl, ?_⟩) ?_ ?_
           rotate_left
           ·intro w'
            go_simp
            with_reducible rfl
           rotate_left
           ·simp only [Act.put, zA, zZ, zS, i64_w, i32_w]
            rfl
           refine done_ (done_of HT_.out (by kernel_rfl)) ?_
           try go_wp2
           go_ret
           exact ⟨by first | rfl | (simp [errW_none, errW_some] <;> rfl) | (simp [*, errW_none, errW_some] <;> rfl), by repeat (first | (with_reducible first | exact HB.out | apply zL | apply zN | apply zD | refine zJ ?_ GE350.out | refine zJ ?_ GE351.out | refine zJ ?_ GE362.out | refine zJ ?_ GE372.out | refine zJ ?_ GE382.out | refine zJ ?_ GE392.out) | exact HB.out)⟩
          ·rw [if_neg c109] at H
           have c109b0 : (t361 == t371) = false := beq_eq_false_iff_ne.mpr c109
           have c109b1 : (t361 != t371) = true := bne_iff_ne.mpr c109
           exact absurd ((Option.some.inj H).trans HRT.out) (by decide)
         ·replace c108 := Bool.eq_false_iff.mpr c108
          subst c108
          have H1 : (some false) = some r := by rw [if_neg (show ¬ (false = true) by decide)] at H; exact H
          clear H
          have H := H1
          clear H1
          exact absurd ((Option.some.inj H).trans HRT.out) (by decide)
        ·replace c107 := Bool.eq_false_iff.mpr c107
         subst c107
         have H1 : (some false) = some r := by rw [if_neg (show ¬ (false = true) by decide)] at H; exact H
         clear H
         have H := H1
         clear H1
         exact absurd ((Option.some.inj H).trans HRT.out) (by decide)
       ·replace c106 := Bool.eq_false_iff.mpr c106
        subst c106
        have H1 : (some false) = some r := by rw [if_neg (show ¬ (false = true) by decide)] at H; exact H
        clear H
        have H := H1
        clear H1
        exact absurd ((Option.some.inj H).trans HRT.out) (by decide)
      ·replace c105 := Bool.eq_false_iff.mpr c105
       subst c105
       have H1 : (some false) = some r := by rw [if_neg (show ¬ (false = true) by decide)] at H; exact H
       clear H
       have H := H1
       clear H1
       exact absurd ((Option.some.inj H).trans HRT.out) (by decide)

end Go.Proofs.Ytldpaoaiapedjaa.Q
