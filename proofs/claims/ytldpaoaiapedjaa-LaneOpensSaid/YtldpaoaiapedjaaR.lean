/- What Go functions of this seat come to, as plain Lean functions, and the proof that each call does so, in whatever memory; its conditions stand in each theorem. Written by a program of this session (wip/gen), out of the print of the loaded translation. -/
import Derived.Test.YtldpaoaiapedjaaQ0
import Derived.Test.YtldpaoaiapedjaaQ5
import Derived.Test.YtldpaoaiapedjaaQ16
import Derived.Test.YtldpaoaiapedjaaE
namespace Go.Proofs.Ytldpaoaiapedjaa.Q
open Go.RowKit Go.Proofs.YtldpaoaiapedjaaW.PrintWords Go.Proofs.YtldpaoaiapedjaaW.PrintLast Go.Proofs.YtldpaoaiapedjaaW.PrintMore
attribute [local go_sem] max2_int min2_int max_two min_two max_three min_three max_four min_four   -- for this text's walks alone
set_option linter.unusedVariables false
set_option linter.unusedSimpArgs false
-- shrunk
def mr0 : Array Bool := #[false, false, false, false, false, false, false, false, false, false, false, false, false, false, false, false, false, false, false, false, false, false, false, false, false, false, false, false, false, false, false, false, false, false, false, false, false, false, false, false, false]
def mr1 : Array Bool := #[true, false, false, false, false, false, false, false, false, false, false, false, false, false, false, false, false, false, false, false, false, false, false, false, false, false, false, false, false, false, false, false, false, false, false, false, false, false, false, false, false]
def mr2 : Array Bool := #[true, true, false, false, false, false, false, false, false, false, false, false, false, false, false, false, false, false, false, false, false, false, false, false, false, false, false, false, false, false, false, false, false, false, false, false, false, false, false, false, false]
def mr3 : Array Bool := #[true, true, true, false, false, false, false, false, false, false, false, false, false, false, false, false, false, false, false, false, false, false, false, false, false, false, false, false, false, false, false, false, false, false, false, false, false, false, false, false, false]
def mr4 : Array Bool := #[true, true, true, true, false, false, false, false, false, false, false, false, false, false, false, false, false, false, false, false, false, false, false, false, false, false, false, false, false, false, false, false, false, false, false, false, false, false, false, false, false]
def mr5 : Array Bool := #[true, true, true, true, true, false, false, false, false, false, false, false, false, false, false, false, false, false, false, false, false, false, false, false, false, false, false, false, false, false, false, false, false, false, false, false, false, false, false, false, false]
def mr6 : Array Bool := #[true, true, true, true, true, false, true, false, false, false, false, false, false, false, false, false, false, false, false, false, false, false, false, false, false, false, false, false, false, false, false, false, false, false, false, false, false, false, false, false, false]
def mr7 : Array Bool := #[true, true, true, true, true, true, true, false, false, false, false, false, false, false, false, false, false, false, false, false, false, false, false, false, false, false, false, false, false, false, false, false, false, false, false, false, false, false, false, false, false]
def mr8 : Array Bool := #[true, true, true, true, true, true, true, true, false, false, false, false, false, false, false, false, false, false, false, false, false, false, false, false, false, false, false, false, false, false, false, false, false, false, false, false, false, false, false, false, false]
def mr9 : Array Bool := #[true, true, true, true, true, true, true, true, true, false, false, false, false, false, false, false, false, false, false, false, false, false, false, false, false, false, false, false, false, false, false, false, false, false, false, false, false, false, false, false, false]
def mr10 : Array Bool := #[true, true, true, true, true, true, true, true, true, true, false, false, false, false, false, false, false, false, false, false, false, false, false, false, false, false, false, false, false, false, false, false, false, false, false, false, false, false, false, false, false]
def mr11 : Array Bool := #[true, true, true, true, true, true, true, true, true, true, true, false, false, false, false, false, false, false, false, false, false, false, false, false, false, false, false, false, false, false, false, false, false, false, false, false, false, false, false, false, false]
def mr12 : Array Bool := #[true, true, true, true, true, true, true, true, true, true, true, true, false, false, false, false, false, false, false, false, false, false, false, false, false, false, false, false, false, false, false, false, false, false, false, false, false, false, false, false, false]
def mr13 : Array Bool := #[true, true, true, true, true, true, true, true, true, true, true, true, false, true, false, false, false, false, false, false, false, false, false, false, false, false, false, false, false, false, false, false, false, false, false, false, false, false, false, false, false]
def mr14 : Array Bool := #[true, true, true, true, true, true, true, true, true, true, true, true, true, true, false, false, false, false, false, false, false, false, false, false, false, false, false, false, false, false, false, false, false, false, false, false, false, false, false, false, false]
def mr15 : Array Bool := #[true, true, true, true, true, true, true, true, true, true, true, true, true, true, true, false, false, false, false, false, false, false, false, false, false, false, false, false, false, false, false, false, false, false, false, false, false, false, false, false, false]
def mr16 : Array Bool := #[true, true, true, true, true, true, true, true, true, true, true, true, true, true, true, true, false, false, false, false, false, false, false, false, false, false, false, false, false, false, false, false, false, false, false, false, false, false, false, false, false]
def mr17 : Array Bool := #[true, true, true, true, true, true, true, true, true, true, true, true, true, true, true, true, true, false, false, false, false, false, false, false, false, false, false, false, false, false, false, false, false, false, false, false, false, false, false, false, false]
def mr18 : Array Bool := #[true, true, true, true, true, true, true, true, true, true, true, true, true, true, true, true, true, true, false, false, false, false, false, false, false, false, false, false, false, false, false, false, false, false, false, false, false, false, false, false, false]
def mr19 : Array Bool := #[true, true, true, true, true, true, true, true, true, true, true, true, true, true, true, true, true, true, true, false, false, false, false, false, false, false, false, false, false, false, false, false, false, false, false, false, false, false, false, false, false]
def mr20 : Array Bool := #[true, true, true, true, true, true, true, true, true, true, true, true, true, true, true, true, true, true, true, false, true, false, false, false, false, false, false, false, false, false, false, false, false, false, false, false, false, false, false, false, false]
def mr21 : Array Bool := #[true, true, true, true, true, true, true, true, true, true, true, true, true, true, true, true, true, true, true, true, true, false, false, false, false, false, false, false, false, false, false, false, false, false, false, false, false, false, false, false, false]
def mr22 : Array Bool := #[true, true, true, true, true, true, true, true, true, true, true, true, true, true, true, true, true, true, true, true, true, true, false, false, false, false, false, false, false, false, false, false, false, false, false, false, false, false, false, false, false]
def mr23 : Array Bool := #[true, true, true, true, true, true, true, true, true, true, true, true, true, true, true, true, true, true, true, true, true, true, true, false, false, false, false, false, false, false, false, false, false, false, false, false, false, false, false, false, false]
def mr24 : Array Bool := #[true, true, true, true, true, true, true, true, true, true, true, true, true, true, true, true, true, true, true, true, true, true, true, true, false, false, false, false, false, false, false, false, false, false, false, false, false, false, false, false, false]
def mr25 : Array Bool := #[true, true, true, true, true, true, true, true, true, true, true, true, true, true, true, true, true, true, true, true, true, true, true, true, true, false, false, false, false, false, false, false, false, false, false, false, false, false, false, false, false]
def mr26 : Array Bool := #[true, true, true, true, true, true, true, true, true, true, true, true, true, true, true, true, true, true, true, true, true, true, true, true, true, true, false, false, false, false, false, false, false, false, false, false, false, false, false, false, false]
def mr27 : Array Bool := #[true, true, true, true, true, true, true, true, true, true, true, true, true, true, true, true, true, true, true, true, true, true, true, true, true, true, true, false, false, false, false, false, false, false, false, false, false, false, false, false, false]
def mr28 : Array Bool := #[true, true, true, true, true, true, true, true, true, true, true, true, true, true, true, true, true, true, true, true, true, true, true, true, true, true, true, true, false, false, false, false, false, false, false, false, false, false, false, false, false]
def mr29 : Array Bool := #[true, true, true, true, true, true, true, true, true, true, true, true, true, true, true, true, true, true, true, true, true, true, true, true, true, true, true, true, true, false, false, false, false, false, false, false, false, false, false, false, false]
def mr30 : Array Bool := #[true, true, true, true, true, true, true, true, true, true, true, true, true, true, true, true, true, true, true, true, true, true, true, true, true, true, true, true, true, true, false, false, false, false, false, false, false, false, false, false, false]
def mr31 : Array Bool := #[true, true, true, true, true, true, true, true, true, true, true, true, true, true, true, true, true, true, true, true, true, true, true, true, true, true, true, true, true, true, true, true, true, true, true, true, true, false, false, false, false]
def mr32 : Array Bool := #[true, true, true, true, true, true, true, true, true, true, true, true, true, true, true, true, true, true, true, true, true, true, true, true, true, true, true, true, true, true, true, true, true, true, true, true, true, true, false, false, false]
def mr33 : Array Bool := #[true, true, true, true, true, true, true, true, true, true, true, true, true, true, true, true, true, true, true, true, true, true, true, true, true, true, true, true, true, true, true, true, true, true, true, true, true, true, true, false, false]
def mr34 : Array Bool := #[true, true, true, true, true, true, true, true, true, true, true, true, true, true, true, true, true, true, true, true, true, true, true, true, true, true, true, true, true, true, true, true, true, true, true, true, true, true, true, true, false]
def mr35 : Array Bool := #[true, true, true, true, true, true, true, true, true, true, true, true, true, true, true, true, true, true, true, true, true, true, true, true, true, true, true, true, true, true, true, true, true, true, true, true, true, true, true, true, true]

/-! ### rightT: function 25 -/
mutual
def rightT.j0 : Nat → Bool → Int → Int → List ByteArray → List (S42) → Option (Bool)
 | 0, _, _, _, _, _ => none
 | k + 1, x45, x423000, x423001, x423002, x423003 => if x45 = true then (some false) else (rightT.l0 k x423003 (x423003.length : Int) 0 x423000 x423001 x423002 x423003)
def rightT.l0 : Nat → List (S42) → Int → Int → Int → Int → List ByteArray → List (S42) → Option (Bool)
 | 0, _, _, _, _, _, _, _ => none
 | k + 1, x47, x48, x49, x423000, x423001, x423002, x423003 => if x49 < x48 then (if 0 ≤ x49 then (if x49 < (x47.length : Int) then ((batch_May.f k ((rd_T42 x47 x49).f0) ((rd_T42 x47 x49).f1) ((rd_T42 x47 x49).f2)).bind fun t427 => (if t427 = true then (if ((rd_T42 x47 x49).f0) = x423000 then (if ((rd_T42 x47 x49).f1) ≥ x423001 then (some false) else (if ((rd_T42 x47 x49).f1) < (wrap64 (x423001 - 8)) then (some false) else (if x49 > 0 then (if 0 ≤ (wrap64 (x49 - 1)) then (if (wrap64 (x49 - 1)) < (x423003.length : Int) then (if ((rd_T42 x423003 (wrap64 (x49 - 1))).f1) ≥ ((rd_T42 x47 x49).f1) then (some false) else (rightT.l0 k x47 x48 (wrap64 (x49 + 1)) x423000 x423001 x423002 x423003)) else (none)) else (none)) else (rightT.l0 k x47 x48 (wrap64 (x49 + 1)) x423000 x423001 x423002 x423003)))) else (some false)) else (some false))) else (none)) else (none)) else (some true)
end
def rightT.f (k : Nat) (a0_0 : Int) (a0_1 : Int) (l0_2 : List ByteArray) (l0_3 : List (S42)) : Option (Bool) := if a0_0 < 1 then (rightT.j0 k true a0_0 a0_1 l0_2 l0_3) else (if a0_0 > 64 then (rightT.j0 k true a0_0 a0_1 l0_2 l0_3) else (if a0_1 < 1 then (rightT.j0 k true a0_0 a0_1 l0_2 l0_3) else (if a0_1 > 1073741825 then (rightT.j0 k true a0_0 a0_1 l0_2 l0_3) else (if (l0_2.length : Int) > 4 then (rightT.j0 k true a0_0 a0_1 l0_2 l0_3) else ((contS.f l0_2).bind fun t423 => (if t423 = true then (rightT.j0 k true a0_0 a0_1 l0_2 l0_3) else (if (l0_2.length : Int) = 4 then ((lane_left.f a0_0 a0_1 l0_2 l0_3).bind fun t424 => (rightT.j0 k t424 a0_0 a0_1 l0_2 l0_3)) else (rightT.j0 k false a0_0 a0_1 l0_2 l0_3))))))))
theorem rightT.mono_l : ∀ k, (∀ y0 y1 y2 y3 y4, LeO (rightT.j0 k y0 y1 y2 y3 y4) (rightT.j0 (k + 1) y0 y1 y2 y3 y4)) ∧ (∀ y0 y1 y2 y3 y4 y5 y6, LeO (rightT.l0 k y0 y1 y2 y3 y4 y5 y6) (rightT.l0 (k + 1) y0 y1 y2 y3 y4 y5 y6))
 | 0 => ⟨fun _ _ _ _ _ r h => by simp [rightT.j0] at h, fun _ _ _ _ _ _ _ r h => by simp [rightT.l0] at h⟩
 | k + 1 => by
  obtain ⟨ih0, ih1⟩ := rightT.mono_l k
  refine ⟨?_, ?_⟩
  ·intro y0 y1 y2 y3 y4
   unfold rightT.j0
   repeat' first
   | (with_reducible exact ih0 _ _ _ _ _)
   | (with_reducible exact ih1 _ _ _ _ _ _ _)
   | (with_reducible exact batch_May.mono _ _ _ _)
   | (with_reducible exact LeO.refl _)
   | (with_reducible exact LeO.none _)
   | (with_reducible refine LeO.ite ?_ ?_)
   | (with_reducible refine LeO.bind ?_ (fun _ => ?_))
   | exact ih0 _ _ _ _ _
   | exact ih1 _ _ _ _ _ _ _
   | exact batch_May.mono _ _ _ _
   | exact LeO.none _
   | refine LeO.ite ?_ ?_
   | refine LeO.bind ?_ (fun _ => ?_)
  ·intro y0 y1 y2 y3 y4 y5 y6
   unfold rightT.l0
   repeat' first
   | (with_reducible exact ih0 _ _ _ _ _)
   | (with_reducible exact ih1 _ _ _ _ _ _ _)
   | (with_reducible exact batch_May.mono _ _ _ _)
   | (with_reducible exact LeO.refl _)
   | (with_reducible exact LeO.none _)
   | (with_reducible refine LeO.ite ?_ ?_)
   | (with_reducible refine LeO.bind ?_ (fun _ => ?_))
   | exact ih0 _ _ _ _ _
   | exact ih1 _ _ _ _ _ _ _
   | exact batch_May.mono _ _ _ _
   | exact LeO.none _
   | refine LeO.ite ?_ ?_
   | refine LeO.bind ?_ (fun _ => ?_)
theorem rightT.mono : ∀ a0 a1 a2 a3 k, LeO (rightT.f k a0 a1 a2 a3) (rightT.f (k + 1) a0 a1 a2 a3) := by
 intro a0 a1 a2 a3 k
 obtain ⟨ih0, ih1⟩ := rightT.mono_l k
 unfold rightT.f
 repeat' first
   | (with_reducible exact ih0 _ _ _ _ _)
   | (with_reducible exact ih1 _ _ _ _ _ _ _)
   | (with_reducible exact batch_May.mono _ _ _ _)
   | (with_reducible exact LeO.refl _)
   | (with_reducible exact LeO.none _)
   | (with_reducible refine LeO.ite ?_ ?_)
   | (with_reducible refine LeO.bind ?_ (fun _ => ?_))
   | exact ih0 _ _ _ _ _
   | exact ih1 _ _ _ _ _ _ _
   | exact batch_May.mono _ _ _ _
   | exact LeO.none _
   | refine LeO.ite ?_ ?_
   | refine LeO.bind ?_ (fun _ => ?_)
def rightT.T7 : Bool × List (List Nat × List Nat) := (true, [([], []), ([0], [0]), ([1], [1]), ([2, 1], [2]), ([3], [3]), ([4, 3], [3, 4]), ([3], [3]), ([6, 3], [3, 6]), ([5, 7, 3], [3, 5, 7]), ([3, 8], [3, 8]), ([9, 3], [9]), ([10], [10]), ([11, 10], [10, 11]), ([10], [10]), ([13, 10], [10, 13]), ([12, 14, 10], [10, 12, 14]), ([10, 15], [10, 15]), ([16, 10], [16]), ([17], [17]), ([18, 17], [17, 18]), ([17], [17]), ([20, 17], [17, 20]), ([21, 17], [17, 21]), ([19, 22, 17], [17, 19, 22]), ([17, 23], [17, 23]), ([24, 17], [24]), ([25], [25]), ([26, 25], [25, 26]), ([27, 25, 25], [25, 27]), ([28], [28]), ([29, 28], [28, 29]), ([28], [28]), ([31, 28], [28, 31]), ([30, 32, 28], [28, 30, 32]), ([33, 28], [28, 33]), ([34, 28], [28, 34]), ([28], [28]), ([36, 28], [28, 36]), ([35, 37, 28], [28, 35, 37]), ([28, 38, 25], [25, 28, 38]), ([25, 39], [25, 39])])
def rightT.B7 : List Nat := [0, 1, 3, 7, 15, 31, 15, 79, 255, 511, 1023, 2047, 4095, 2047, 10239, 32767, 65535, 131071, 262143, 524287, 262143, 1310719, 3407871, 8388607, 16777215, 33554431, 67108863, 134217727, 268435455, 536870911, 1073741823, 536870911, 2684354559, 8589934591, 17179869183, 34359738367, 536870911, 69256347647, 274877906943, 549755813887, 1099511627775]
theorem rightT.tab7 : rtab .any (opsOf Try.f25 7) = rightT.T7 := by kernel_rfl
theorem rightT.bits7 : waitsOk rightT.T7.2 rightT.B7 = true := by kernel_rfl
set_option maxHeartbeats 8000000 in
set_option maxRecDepth 100000 in
theorem rightT.calls (k : Nat) (a0_0 : Int) (a0_1 : Int) (A0_2 : Option Addr) (c0_2 : Nat) (l0_2 : List ByteArray) (A0_3 : Option Addr) (c0_3 : Nat) (l0_3 : List (S42)) (r : Bool) (w : World) (hr0_2 : Kd.C Kd.string w A0_2 l0_2.length l0_2) (hc0_2 : l0_2.length ≤ c0_2) (hr0_3 : Kd.C k42 w A0_3 l0_3.length l0_3) (hc0_3 : l0_3.length ≤ c0_3) (hrt : r = true) (h : rightT.f k a0_0 a0_1 l0_2 l0_3 = some r) :
  Calls Try.prog 25 #[.agg #[.int .i64 a0_0, .int .i64 a0_1, .slice A0_2 l0_2.length c0_2, .slice A0_3 l0_3.length c0_3]] w fun e w' => e = .returned (.bool r) ∧ Below w.heap.size w w' := by
 have hu25 := Try.underlying25
 have hu42 := Try.underlying42
 have HR0_2 := zM hr0_2
 have HC0_2 := zM hc0_2
 clear hr0_2 hc0_2
 have HR0_3 := zM hr0_3
 have HC0_3 := zM hc0_3
 clear hr0_3 hc0_3
 have HRT := zM hrt
 clear hrt
 have HB := zM (Below.refl w.heap.size w)
 have H : (if a0_0 < 1 then (rightT.j0 k true a0_0 a0_1 l0_2 l0_3) else (if a0_0 > 64 then (rightT.j0 k true a0_0 a0_1 l0_2 l0_3) else (if a0_1 < 1 then (rightT.j0 k true a0_0 a0_1 l0_2 l0_3) else (if a0_1 > 1073741825 then (rightT.j0 k true a0_0 a0_1 l0_2 l0_3) else (if (l0_2.length : Int) > 4 then (rightT.j0 k true a0_0 a0_1 l0_2 l0_3) else ((contS.f l0_2).bind fun t423 => (if t423 = true then (rightT.j0 k true a0_0 a0_1 l0_2 l0_3) else (if (l0_2.length : Int) = 4 then ((lane_left.f a0_0 a0_1 l0_2 l0_3).bind fun t424 => (rightT.j0 k t424 a0_0 a0_1 l0_2 l0_3)) else (rightT.j0 k false a0_0 a0_1 l0_2 l0_3))))))))) = some r := h
 clear h
 have HC2 := zM H
 clear H
 go_enter Try.func25, Try.ntmps25
 go_upto_region 2 with (first | ((with_reducible refine gate_dst (N := 1) rfl ?_); (try (refine gate_guard (by rfl) ?_; dsimp only)); refine box_event ?hg (N := 1) ?hd (cs := #[.int .i64 a0_0, .int .i64 a0_1, .slice A0_2 l0_2.length c0_2, .slice A0_3 l0_3.length c0_3]) (t := 25) ?hr ?_; (case hd => rfl); (case hg => rfl); (case hr => go_simp); intro gb422 hg w3 hbox hb; have n0_ := zM (zp HB.out hb); have n1_ := zM (hbox); have n2_ := zM ((by rw [hg]; exact (zs HB.out) : w.heap.size ≤ gb422)); have n3_ := zM ((by rw [hg]; exact (zs HB.out) : w.heap.size ≤ gb422)); clear HB; have HB := n0_; have BK422 := n1_; have GW422 := n2_; have GE422 := n3_; clear n0_ n1_ n2_ n3_; clear hb hbox hg))
 (try simp only [Act.put, zA, zZ, zS])
 go_cut [45] (fun v45 wc => ∃ (kq : Nat) (x45_1 : Bool), v45 = .bool x45_1 ∧ Aside0 (rightT.j0 kq x45_1 a0_0 a0_1 l0_2 l0_3 = some r) ∧ Aside0 (kq ≤ k) ∧ Aside0 (wc.heap[gb422]? = some (.cells #[.int .i64 a0_0, .int .i64 a0_1, (.slice A0_2 l0_2.length c0_2), (.slice A0_3 l0_3.length c0_3)] 25 (0, 0))) ∧ Aside0 (Below w.heap.size w wc))
 case first =>
  have H := HC2.out
  clear HC2
  by_cases c4 : a0_0 < 1
  ·rw [if_pos c4] at H
   have c4b0 : decide (a0_0 < 1) = true := decide_eq_true c4
   clear c4
   (first | rw [c4b0] | (simp only [i64_w, i32_w]; rw [c4b0]) | skip)
   have H' := zM H
   clear H
   have hcz5_0 : w3.cell? ⟨gb422, 0, none⟩ = some (.int .i64 a0_0) := (zc BK422.out 0).trans rfl
   have hcz5_1 : w3.cell? ⟨gb422, 1, none⟩ = some (.int .i64 a0_1) := (zc BK422.out 1).trans rfl
   have hcz5_2 : w3.cell? ⟨gb422, 2, none⟩ = some (.slice A0_2 l0_2.length c0_2) := (zc BK422.out 2).trans rfl
   have hcz5_3 : w3.cell? ⟨gb422, 3, none⟩ = some (.slice A0_3 l0_3.length c0_3) := (zc BK422.out 3).trans rfl
   have hfz5_0 := zf BK422.out 0
   have hfz5_1 := zf BK422.out 1
   have hfz5_2 := zf BK422.out 2
   have hfz5_3 := zf BK422.out 3
   go_wp2
   go_meet
   case rel => exact ⟨_, (true), rfl, H', ⟨by first | omega | exact Nat.le_refl _⟩, ⟨by exact BK422.out⟩, ⟨by repeat (first | (with_reducible first | exact HB.out | apply zL | apply zN | apply zD | refine zJ ?_ GE422.out) | exact HB.out)⟩⟩
  ·rw [if_neg c4] at H
   have c4b0 : decide (a0_0 < 1) = false := decide_eq_false c4
   clear c4
   (first | rw [c4b0] | (simp only [i64_w, i32_w]; rw [c4b0]) | skip)
   by_cases c6 : a0_0 > 64
   ·rw [if_pos c6] at H
    have c6b0 : decide (64 < a0_0) = true := decide_eq_true c6
    clear c6
    have H' := zM H
    clear H
    have hcz7_0 : w3.cell? ⟨gb422, 0, none⟩ = some (.int .i64 a0_0) := (zc BK422.out 0).trans rfl
    have hcz7_1 : w3.cell? ⟨gb422, 1, none⟩ = some (.int .i64 a0_1) := (zc BK422.out 1).trans rfl
    have hcz7_2 : w3.cell? ⟨gb422, 2, none⟩ = some (.slice A0_2 l0_2.length c0_2) := (zc BK422.out 2).trans rfl
    have hcz7_3 : w3.cell? ⟨gb422, 3, none⟩ = some (.slice A0_3 l0_3.length c0_3) := (zc BK422.out 3).trans rfl
    have hfz7_0 := zf BK422.out 0
    have hfz7_1 := zf BK422.out 1
    have hfz7_2 := zf BK422.out 2
    have hfz7_3 := zf BK422.out 3
    go_wp2
    go_meet
    case rel => exact ⟨_, (true), rfl, H', ⟨by first | omega | exact Nat.le_refl _⟩, ⟨by exact BK422.out⟩, ⟨by repeat (first | (with_reducible first | exact HB.out | apply zL | apply zN | apply zD | refine zJ ?_ GE422.out) | exact HB.out)⟩⟩
   ·rw [if_neg c6] at H
    have c6b0 : decide (64 < a0_0) = false := decide_eq_false c6
    clear c6
    by_cases c8 : a0_1 < 1
    ·rw [if_pos c8] at H
     have c8b0 : decide (a0_1 < 1) = true := decide_eq_true c8
     clear c8
     have H' := zM H
     clear H
     have hcz9_0 : w3.cell? ⟨gb422, 0, none⟩ = some (.int .i64 a0_0) := (zc BK422.out 0).trans rfl
     have hcz9_1 : w3.cell? ⟨gb422, 1, none⟩ = some (.int .i64 a0_1) := (zc BK422.out 1).trans rfl
     have hcz9_2 : w3.cell? ⟨gb422, 2, none⟩ = some (.slice A0_2 l0_2.length c0_2) := (zc BK422.out 2).trans rfl
     have hcz9_3 : w3.cell? ⟨gb422, 3, none⟩ = some (.slice A0_3 l0_3.length c0_3) := (zc BK422.out 3).trans rfl
     have hfz9_0 := zf BK422.out 0
     have hfz9_1 := zf BK422.out 1
     have hfz9_2 := zf BK422.out 2
     have hfz9_3 := zf BK422.out 3
     go_wp2
     go_meet
     case rel => exact ⟨_, (true), rfl, H', ⟨by first | omega | exact Nat.le_refl _⟩, ⟨by exact BK422.out⟩, ⟨by repeat (first | (with_reducible first | exact HB.out | apply zL | apply zN | apply zD | refine zJ ?_ GE422.out) | exact HB.out)⟩⟩
    ·rw [if_neg c8] at H
     have c8b0 : decide (a0_1 < 1) = false := decide_eq_false c8
     clear c8
     by_cases c10 : a0_1 > 1073741825
     ·rw [if_pos c10] at H
      have c10b0 : decide (1073741825 < a0_1) = true := decide_eq_true c10
      clear c10
      have H' := zM H
      clear H
      have hcz11_0 : w3.cell? ⟨gb422, 0, none⟩ = some (.int .i64 a0_0) := (zc BK422.out 0).trans rfl
      have hcz11_1 : w3.cell? ⟨gb422, 1, none⟩ = some (.int .i64 a0_1) := (zc BK422.out 1).trans rfl
      have hcz11_2 : w3.cell? ⟨gb422, 2, none⟩ = some (.slice A0_2 l0_2.length c0_2) := (zc BK422.out 2).trans rfl
      have hcz11_3 : w3.cell? ⟨gb422, 3, none⟩ = some (.slice A0_3 l0_3.length c0_3) := (zc BK422.out 3).trans rfl
      have hfz11_0 := zf BK422.out 0
      have hfz11_1 := zf BK422.out 1
      have hfz11_2 := zf BK422.out 2
      have hfz11_3 := zf BK422.out 3
      go_wp2
      go_meet
      case rel => exact ⟨_, (true), rfl, H', ⟨by first | omega | exact Nat.le_refl _⟩, ⟨by exact BK422.out⟩, ⟨by repeat (first | (with_reducible first | exact HB.out | apply zL | apply zN | apply zD | refine zJ ?_ GE422.out) | exact HB.out)⟩⟩
     ·rw [if_neg c10] at H
      have c10b0 : decide (1073741825 < a0_1) = false := decide_eq_false c10
      clear c10
      by_cases c12 : (l0_2.length : Int) > 4
      ·rw [if_pos c12] at H
       have c12b0 : decide (4 < (l0_2.length : Int)) = true := decide_eq_true c12
       have c12b1 : decide (4 < l0_2.length) = true := decide_eq_true (by omega)
       clear c12
       have H' := zM H
       clear H
       have hcz13_0 : w3.cell? ⟨gb422, 0, none⟩ = some (.int .i64 a0_0) := (zc BK422.out 0).trans rfl
       have hcz13_1 : w3.cell? ⟨gb422, 1, none⟩ = some (.int .i64 a0_1) := (zc BK422.out 1).trans rfl
       have hcz13_2 : w3.cell? ⟨gb422, 2, none⟩ = some (.slice A0_2 l0_2.length c0_2) := (zc BK422.out 2).trans rfl
       have hcz13_3 : w3.cell? ⟨gb422, 3, none⟩ = some (.slice A0_3 l0_3.length c0_3) := (zc BK422.out 3).trans rfl
       have hfz13_0 := zf BK422.out 0
       have hfz13_1 := zf BK422.out 1
       have hfz13_2 := zf BK422.out 2
       have hfz13_3 := zf BK422.out 3
       go_wp2
       go_meet
       case rel => exact ⟨_, (true), rfl, H', ⟨by first | omega | exact Nat.le_refl _⟩, ⟨by exact BK422.out⟩, ⟨by repeat (first | (with_reducible first | exact HB.out | apply zL | apply zN | apply zD | refine zJ ?_ GE422.out) | exact HB.out)⟩⟩
      ·rw [if_neg c12] at H
       have c12b0 : decide (4 < (l0_2.length : Int)) = false := decide_eq_false c12
       have c12b1 : decide (4 < l0_2.length) = false := decide_eq_false (by omega)
       clear c12
       replace H := Option.bind_eq_some_iff.mp H
       obtain ⟨t423, A140, H⟩ := H
       replace H : (if t423 = true then (rightT.j0 k true a0_0 a0_1 l0_2 l0_3) else (if (l0_2.length : Int) = 4 then ((lane_left.f a0_0 a0_1 l0_2 l0_3).bind fun t424 => (rightT.j0 k t424 a0_0 a0_1 l0_2 l0_3)) else (rightT.j0 k false a0_0 a0_1 l0_2 l0_3))) = some r := H
       have A14 := zM A140
       clear A140
       by_cases c15 : t423 = true
       ·subst c15
        have H1 : (rightT.j0 k true a0_0 a0_1 l0_2 l0_3) = some r := by rw [if_pos rfl] at H; exact H
        clear H
        have H := H1
        clear H1
        have H' := zM H
        clear H
        have hcz16_0 : w3.cell? ⟨gb422, 0, none⟩ = some (.int .i64 a0_0) := (zc BK422.out 0).trans rfl
        have hcz16_1 : w3.cell? ⟨gb422, 1, none⟩ = some (.int .i64 a0_1) := (zc BK422.out 1).trans rfl
        have hcz16_2 : w3.cell? ⟨gb422, 2, none⟩ = some (.slice A0_2 l0_2.length c0_2) := (zc BK422.out 2).trans rfl
        have hcz16_3 : w3.cell? ⟨gb422, 3, none⟩ = some (.slice A0_3 l0_3.length c0_3) := (zc BK422.out 3).trans rfl
        have hfz16_0 := zf BK422.out 0
        have hfz16_1 := zf BK422.out 1
        have hfz16_2 := zf BK422.out 2
        have hfz16_3 := zf BK422.out 3
        go_wp2_with (first | (go_at_call 38; (with_reducible refine (contS.calls _ _ l0_2 true _ ?side1 ?side2 A14.out).mono ?_); (case side1 => exact (zcb HR0_2.out HB.out)); (case side2 => exact HC0_2.out); rintro e w17 ⟨rfl, hb⟩; have n0_ := zM (zb (g := gb422) (o := .cells #[.int .i64 a0_0, .int .i64 a0_1, .slice A0_2 l0_2.length c0_2, .slice A0_3 l0_3.length c0_3] 25 (0, 0)) (by exact BK422.out) hb); have n1_ := zM (zp HB.out hb); clear BK422; clear HB; have BK422 := n0_; have HB := n1_; clear n0_ n1_))
        go_meet
        case rel => exact ⟨_, (true), rfl, H', ⟨by first | omega | exact Nat.le_refl _⟩, ⟨by exact BK422.out⟩, ⟨by repeat (first | (with_reducible first | exact HB.out | apply zL | apply zN | apply zD | refine zJ ?_ GE422.out) | exact HB.out)⟩⟩
       ·replace c15 := Bool.eq_false_iff.mpr c15
        subst c15
        have H1 : (if (l0_2.length : Int) = 4 then ((lane_left.f a0_0 a0_1 l0_2 l0_3).bind fun t424 => (rightT.j0 k t424 a0_0 a0_1 l0_2 l0_3)) else (rightT.j0 k false a0_0 a0_1 l0_2 l0_3)) = some r := by rw [if_neg (show ¬ (false = true) by decide)] at H; exact H
        clear H
        have H := H1
        clear H1
        by_cases c18 : (l0_2.length : Int) = 4
        ·rw [if_pos c18] at H
         have c18b0 : ((l0_2.length : Int) == 4) = true := beq_iff_eq.mpr c18
         have c18b1 : ((l0_2.length : Int) != 4) = false := bne_eq_false_iff_eq.mpr c18
         clear c18
         replace H := Option.bind_eq_some_iff.mp H
         obtain ⟨t424, A190, H⟩ := H
         replace H : (rightT.j0 k t424 a0_0 a0_1 l0_2 l0_3) = some r := H
         have A19 := zM A190
         clear A190
         have H' := zM H
         clear H
         have hcz20_0 : w3.cell? ⟨gb422, 0, none⟩ = some (.int .i64 a0_0) := (zc BK422.out 0).trans rfl
         have hcz20_1 : w3.cell? ⟨gb422, 1, none⟩ = some (.int .i64 a0_1) := (zc BK422.out 1).trans rfl
         have hcz20_2 : w3.cell? ⟨gb422, 2, none⟩ = some (.slice A0_2 l0_2.length c0_2) := (zc BK422.out 2).trans rfl
         have hcz20_3 : w3.cell? ⟨gb422, 3, none⟩ = some (.slice A0_3 l0_3.length c0_3) := (zc BK422.out 3).trans rfl
         have hfz20_0 := zf BK422.out 0
         have hfz20_1 := zf BK422.out 1
         have hfz20_2 := zf BK422.out 2
         have hfz20_3 := zf BK422.out 3
         go_wp2_with (first | (go_at_call 38; (with_reducible refine (contS.calls _ _ l0_2 false _ ?side1 ?side2 A14.out).mono ?_); (case side1 => exact (zcb HR0_2.out HB.out)); (case side2 => exact HC0_2.out); rintro e w21 ⟨rfl, hb⟩; have n0_ := zM (zb (g := gb422) (o := .cells #[.int .i64 a0_0, .int .i64 a0_1, .slice A0_2 l0_2.length c0_2, .slice A0_3 l0_3.length c0_3] 25 (0, 0)) (by exact BK422.out) hb); have n1_ := zM (zp HB.out hb); clear BK422; clear HB; have BK422 := n0_; have HB := n1_; clear n0_ n1_; have hcz22_0 : w21.cell? ⟨gb422, 0, none⟩ = some (.int .i64 a0_0) := (zc BK422.out 0).trans rfl; have hcz22_1 : w21.cell? ⟨gb422, 1, none⟩ = some (.int .i64 a0_1) := (zc BK422.out 1).trans rfl; have hcz22_2 : w21.cell? ⟨gb422, 2, none⟩ = some (.slice A0_2 l0_2.length c0_2) := (zc BK422.out 2).trans rfl; have hcz22_3 : w21.cell? ⟨gb422, 3, none⟩ = some (.slice A0_3 l0_3.length c0_3) := (zc BK422.out 3).trans rfl; have hfz22_0 := zf BK422.out 0; have hfz22_1 := zf BK422.out 1; have hfz22_2 := zf BK422.out 2; have hfz22_3 := zf BK422.out 3) | (go_at_call 34; (with_reducible refine (lane_left.calls a0_0 a0_1 _ _ l0_2 _ _ l0_3 t424 _ ?side1 ?side2 ?side3 ?side4 A19.out).mono ?_); (case side1 => exact (zcb HR0_2.out HB.out)); (case side2 => exact HC0_2.out); (case side3 => exact (zcb HR0_3.out HB.out)); (case side4 => exact HC0_3.out); rintro e w23 ⟨rfl, hb⟩; have n0_ := zM (zb (g := gb422) (o := .cells #[.int .i64 a0_0, .int .i64 a0_1, .slice A0_2 l0_2.length c0_2, .slice A0_3 l0_3.length c0_3] 25 (0, 0)) (by exact BK422.out) hb); have n1_ := zM (zp HB.out hb); clear BK422; clear HB; have BK422 := n0_; have HB := n1_; clear n0_ n1_))
         go_meet
         case rel => exact ⟨_, (t424), rfl, H', ⟨by first | omega | exact Nat.le_refl _⟩, ⟨by exact BK422.out⟩, ⟨by repeat (first | (with_reducible first | exact HB.out | apply zL | apply zN | apply zD | refine zJ ?_ GE422.out) | exact HB.out)⟩⟩
        ·rw [if_neg c18] at H
         have c18b0 : ((l0_2.length : Int) == 4) = false := beq_eq_false_iff_ne.mpr c18
         have c18b1 : ((l0_2.length : Int) != 4) = true := bne_iff_ne.mpr c18
         have H' := zM H
         clear H
         have hcz24_0 : w3.cell? ⟨gb422, 0, none⟩ = some (.int .i64 a0_0) := (zc BK422.out 0).trans rfl
         have hcz24_1 : w3.cell? ⟨gb422, 1, none⟩ = some (.int .i64 a0_1) := (zc BK422.out 1).trans rfl
         have hcz24_2 : w3.cell? ⟨gb422, 2, none⟩ = some (.slice A0_2 l0_2.length c0_2) := (zc BK422.out 2).trans rfl
         have hcz24_3 : w3.cell? ⟨gb422, 3, none⟩ = some (.slice A0_3 l0_3.length c0_3) := (zc BK422.out 3).trans rfl
         have hfz24_0 := zf BK422.out 0
         have hfz24_1 := zf BK422.out 1
         have hfz24_2 := zf BK422.out 2
         have hfz24_3 := zf BK422.out 3
         go_wp2_with (first | (go_at_call 38; (with_reducible refine (contS.calls _ _ l0_2 false _ ?side1 ?side2 A14.out).mono ?_); (case side1 => exact (zcb HR0_2.out HB.out)); (case side2 => exact HC0_2.out); rintro e w25 ⟨rfl, hb⟩; have n0_ := zM (zb (g := gb422) (o := .cells #[.int .i64 a0_0, .int .i64 a0_1, .slice A0_2 l0_2.length c0_2, .slice A0_3 l0_3.length c0_3] 25 (0, 0)) (by exact BK422.out) hb); have n1_ := zM (zp HB.out hb); clear BK422; clear HB; have BK422 := n0_; have HB := n1_; clear n0_ n1_; have hcz26_0 : w25.cell? ⟨gb422, 0, none⟩ = some (.int .i64 a0_0) := (zc BK422.out 0).trans rfl; have hcz26_1 : w25.cell? ⟨gb422, 1, none⟩ = some (.int .i64 a0_1) := (zc BK422.out 1).trans rfl; have hcz26_2 : w25.cell? ⟨gb422, 2, none⟩ = some (.slice A0_2 l0_2.length c0_2) := (zc BK422.out 2).trans rfl; have hcz26_3 : w25.cell? ⟨gb422, 3, none⟩ = some (.slice A0_3 l0_3.length c0_3) := (zc BK422.out 3).trans rfl; have hfz26_0 := zf BK422.out 0; have hfz26_1 := zf BK422.out 1; have hfz26_2 := zf BK422.out 2; have hfz26_3 := zf BK422.out 3))
         go_meet
         case rel => exact ⟨_, (false), rfl, H', ⟨by first | omega | exact Nat.le_refl _⟩, ⟨by exact BK422.out⟩, ⟨by repeat (first | (with_reducible first | exact HB.out | apply zL | apply zN | apply zD | refine zJ ?_ GE422.out) | exact HB.out)⟩⟩
 case rest =>
  clear HC2
  obtain ⟨kq, x45_1, rfl, HA, HJ1, BK422, HB⟩ := hcut
  cases kq with
  | zero => exact absurd HA.out (by simp [rightT.j0])
  | succ kj1 =>
   have H := HA.out
   clear HA
   simp only [rightT.j0] at H
   by_cases c27 : x45_1 = true
   ·subst c27
    have H1 : (some false) = some r := by rw [if_pos rfl] at H; exact H
    clear H
    have H := H1
    clear H1
    exact absurd ((Option.some.inj H).trans HRT.out) (by decide)
   ·replace c27 := Bool.eq_false_iff.mpr c27
    subst c27
    have H1 : (rightT.l0 kj1 l0_3 (l0_3.length : Int) 0 a0_0 a0_1 l0_2 l0_3) = some r := by rw [if_neg (show ¬ (false = true) by decide)] at H; exact H
    clear H
    have H := H1
    clear H1
    have H' := zM H
    clear H
    have hcz28_0 : wc.cell? ⟨gb422, 0, none⟩ = some (.int .i64 a0_0) := (zc BK422.out 0).trans rfl
    have hcz28_1 : wc.cell? ⟨gb422, 1, none⟩ = some (.int .i64 a0_1) := (zc BK422.out 1).trans rfl
    have hcz28_2 : wc.cell? ⟨gb422, 2, none⟩ = some (.slice A0_2 l0_2.length c0_2) := (zc BK422.out 2).trans rfl
    have hcz28_3 : wc.cell? ⟨gb422, 3, none⟩ = some (.slice A0_3 l0_3.length c0_3) := (zc BK422.out 3).trans rfl
    have hfz28_0 := zf BK422.out 0
    have hfz28_1 := zf BK422.out 1
    have hfz28_2 := zf BK422.out 2
    have hfz28_3 := zf BK422.out 3
    go_wp2
    go_loopg [49] kj1 (fun kq v49 w' => ∃ (x49_2 : Int), v49 = .int .i64 x49_2 ∧ Aside0 (rightT.l0 kq l0_3 (l0_3.length : Int) x49_2 a0_0 a0_1 l0_2 l0_3 = some r) ∧ Aside0 (kq ≤ kj1) ∧ Aside0 (w'.heap[gb422]? = some (.cells #[.int .i64 a0_0, .int .i64 a0_1, (.slice A0_2 l0_2.length c0_2), (.slice A0_3 l0_3.length c0_3)] 25 (0, 0))) ∧ Aside0 (Below w.heap.size w w'))
    case atStart => exact ⟨(0), rfl, H', ⟨Nat.le_refl _⟩, ⟨by exact BK422.out⟩, ⟨by repeat (first | (with_reducible first | exact HB.out | apply zL | apply zN | apply zD | refine zJ ?_ GE422.out) | exact HB.out)⟩⟩
    case round =>
     clear H'
     obtain ⟨x49_2, rfl, HA, HK2, BK422, HB⟩ := hrel
     cases gk with
     | zero => exact absurd HA.out (by simp [rightT.l0])
     | succ k2 =>
      have H := HA.out
      clear HA
      simp only [rightT.l0] at H
      by_cases c29 : x49_2 < (l0_3.length : Int)
      ·rw [if_pos c29] at H
       have c29b0 : decide (x49_2 < (l0_3.length : Int)) = true := decide_eq_true c29
       clear c29
       by_cases c30 : 0 ≤ x49_2
       ·rw [if_pos c30] at H
        have c30b0 : decide (0 ≤ x49_2) = true := decide_eq_true c30
        clear c30
        by_cases c31 : x49_2 < (l0_3.length : Int)
        ·rw [if_pos c31] at H
         have c31b0 : decide (x49_2 < (l0_3.length : Int)) = true := decide_eq_true c31
         clear c31
         replace H := Option.bind_eq_some_iff.mp H
         obtain ⟨t427, A320, H⟩ := H
         replace H : (if t427 = true then (if ((rd_T42 l0_3 x49_2).f0) = a0_0 then (if ((rd_T42 l0_3 x49_2).f1) ≥ a0_1 then (some false) else (if ((rd_T42 l0_3 x49_2).f1) < (wrap64 (a0_1 - 8)) then (some false) else (if x49_2 > 0 then (if 0 ≤ (wrap64 (x49_2 - 1)) then (if (wrap64 (x49_2 - 1)) < (l0_3.length : Int) then (if ((rd_T42 l0_3 (wrap64 (x49_2 - 1))).f1) ≥ ((rd_T42 l0_3 x49_2).f1) then (some false) else (rightT.l0 k2 l0_3 (l0_3.length : Int) (wrap64 (x49_2 + 1)) a0_0 a0_1 l0_2 l0_3)) else (none)) else (none)) else (rightT.l0 k2 l0_3 (l0_3.length : Int) (wrap64 (x49_2 + 1)) a0_0 a0_1 l0_2 l0_3)))) else (some false)) else (some false)) = some r := H
         have A32 := zM A320
         clear A320
         by_cases c33 : t427 = true
         ·subst c33
          have H1 : (if ((rd_T42 l0_3 x49_2).f0) = a0_0 then (if ((rd_T42 l0_3 x49_2).f1) ≥ a0_1 then (some false) else (if ((rd_T42 l0_3 x49_2).f1) < (wrap64 (a0_1 - 8)) then (some false) else (if x49_2 > 0 then (if 0 ≤ (wrap64 (x49_2 - 1)) then (if (wrap64 (x49_2 - 1)) < (l0_3.length : Int) then (if ((rd_T42 l0_3 (wrap64 (x49_2 - 1))).f1) ≥ ((rd_T42 l0_3 x49_2).f1) then (some false) else (rightT.l0 k2 l0_3 (l0_3.length : Int) (wrap64 (x49_2 + 1)) a0_0 a0_1 l0_2 l0_3)) else (none)) else (none)) else (rightT.l0 k2 l0_3 (l0_3.length : Int) (wrap64 (x49_2 + 1)) a0_0 a0_1 l0_2 l0_3)))) else (some false)) = some r := by rw [if_pos rfl] at H; exact H
          clear H
          have H := H1
          clear H1
          by_cases c34 : ((rd_T42 l0_3 x49_2).f0) = a0_0
          ·rw [if_pos c34] at H
           have c34b0 : (((rd_T42 l0_3 x49_2).f0) == a0_0) = true := beq_iff_eq.mpr c34
           have c34b1 : (((rd_T42 l0_3 x49_2).f0) != a0_0) = false := bne_eq_false_iff_eq.mpr c34
           clear c34
           by_cases c35 : ((rd_T42 l0_3 x49_2).f1) ≥ a0_1
           ·rw [if_pos c35] at H
            have c35b0 : decide (a0_1 ≤ ((rd_T42 l0_3 x49_2).f1)) = true := decide_eq_true c35
            clear c35
            exact absurd ((Option.some.inj H).trans HRT.out) (by decide)
           ·rw [if_neg c35] at H
            have c35b0 : decide (a0_1 ≤ ((rd_T42 l0_3 x49_2).f1)) = false := decide_eq_false c35
            clear c35
            by_cases c36 : ((rd_T42 l0_3 x49_2).f1) < (wrap64 (a0_1 - 8))
            ·rw [if_pos c36] at H
             have c36b0 : decide (((rd_T42 l0_3 x49_2).f1) < (wrap64 (a0_1 - 8))) = true := decide_eq_true c36
             clear c36
             exact absurd ((Option.some.inj H).trans HRT.out) (by decide)
            ·rw [if_neg c36] at H
             have c36b0 : decide (((rd_T42 l0_3 x49_2).f1) < (wrap64 (a0_1 - 8))) = false := decide_eq_false c36
             clear c36
             by_cases c37 : x49_2 > 0
             ·rw [if_pos c37] at H
              have c37b0 : decide (0 < x49_2) = true := decide_eq_true c37
              clear c37
              obtain ⟨ji38, hji38⟩ : ∃ j_ : Int, (wrap64 (x49_2 - 1)) = j_ := ⟨_, rfl⟩
              replace H : (if 0 ≤ (ji38) then (if (ji38) < (l0_3.length : Int) then (if ((rd_T42 l0_3 (ji38)).f1) ≥ ((rd_T42 l0_3 x49_2).f1) then (some false) else (rightT.l0 k2 l0_3 (l0_3.length : Int) (wrap64 (x49_2 + 1)) a0_0 a0_1 l0_2 l0_3)) else (none)) else (none)) = some r := by first | (rw [hji38] at H; exact H) | (simp only [hji38] at H ⊢; exact H)
              (try rw [hji38] at A32)
              have hji38w : (IntKind.i64.wrap (x49_2 - 1)) = ji38 := (i64_w _).trans hji38
              by_cases c39 : 0 ≤ (ji38)
              ·rw [if_pos c39] at H
               have c39b0 : decide (0 ≤ (ji38)) = true := decide_eq_true c39
               clear c39
               by_cases c40 : (ji38) < (l0_3.length : Int)
               ·rw [if_pos c40] at H
                have c40b0 : decide ((ji38) < (l0_3.length : Int)) = true := decide_eq_true c40
                clear c40
                by_cases c41 : ((rd_T42 l0_3 (ji38)).f1) ≥ ((rd_T42 l0_3 x49_2).f1)
                ·rw [if_pos c41] at H
                 have c41b0 : decide (((rd_T42 l0_3 x49_2).f1) ≤ ((rd_T42 l0_3 (ji38)).f1)) = true := decide_eq_true c41
                 clear c41
                 exact absurd ((Option.some.inj H).trans HRT.out) (by decide)
                ·rw [if_neg c41] at H
                 have c41b0 : decide (((rd_T42 l0_3 x49_2).f1) ≤ ((rd_T42 l0_3 (ji38)).f1)) = false := decide_eq_false c41
                 clear c41
                 have H' := zM H
                 clear H
                 have p425 : 0 ≤ (x49_2 : Int) := zo (by assumption)
                 have q425 : x49_2 < (l0_3.length : Int) := zo (by assumption)
                 obtain ⟨ad425, A425_2, c425_2, e425, hx425_0, hx425_1, hx425_2, hl425_2, hi425_2⟩ := at_T42 HR0_3.out x49_2 p425 q425
                 cases e425
                 replace hx425_0 := (HB.out.cell (zW w _ hx425_0)).trans hx425_0
                 replace hx425_1 := (HB.out.cell (zW w _ hx425_1)).trans hx425_1
                 replace hx425_2 := (HB.out.cell (zW w _ hx425_2)).trans hx425_2
                 have HR425_2 := zM hi425_2
                 have HC425_2 := zM hl425_2
                 clear hi425_2 hl425_2
                 replace p425 := eq_true p425
                 replace q425 := eq_true q425
                 try go_wp2_with (first | ((with_reducible refine gate_dst (N := 5) rfl ?_); (try (refine gate_guard (by rfl) ?_; dsimp only)); refine box_event ?hg (N := 5) ?hd (cs := #[.int .i64 0, .int .i64 0, .slice none 0 0]) (t := 42) ?hr ?_; (case hd => rfl); (case hg => rfl); (case hr => go_simp); intro gb426 hg w42 hbox hb; have n0_ := zM (zb (g := gb422) (o := .cells #[.int .i64 a0_0, .int .i64 a0_1, .slice A0_2 l0_2.length c0_2, .slice (some ad425) l0_3.length c0_3] 25 (0, 0)) (by exact BK422.out) hb); have n1_ := zM (zp HB.out hb); have n2_ := zM (hbox); have n3_ := zM ((by rw [hg]; exact (zs HB.out) : w.heap.size ≤ gb426)); have n4_ := zM ((by rw [hg]; exact (zs HB.out) : w.heap.size ≤ gb426)); have n5_ := zM ((by rw [hg]; exact zt (blk_lt (g := gb422) (o := .cells #[.int .i64 a0_0, .int .i64 a0_1, .slice A0_2 l0_2.length c0_2, .slice (some ad425) l0_3.length c0_3] 25 (0, 0)) (by exact BK422.out)) : gb422 ≠ gb426)); have n6_ := zM ((by rw [hg]; exact Nat.ne_of_gt (blk_lt (g := gb422) (o := .cells #[.int .i64 a0_0, .int .i64 a0_1, .slice A0_2 l0_2.length c0_2, .slice (some ad425) l0_3.length c0_3] 25 (0, 0)) (by exact BK422.out)) : gb426 ≠ gb422)); clear BK422; clear HB; have BK422 := n0_; have HB := n1_; have BK426 := n2_; have GW426 := n3_; have GE426 := n4_; have NB422_426 := n5_; have NB426_422 := n6_; clear n0_ n1_ n2_ n3_ n4_ n5_ n6_; clear hb hbox hg; have hnb43 := NB426_422.out; have hnc43 := NB422_426.out; have hcz44_0 : w42.cell? ⟨gb426, 0, none⟩ = some (.int .i64 0) := (zc BK426.out 0).trans rfl; have hcz44_1 : w42.cell? ⟨gb426, 1, none⟩ = some (.int .i64 0) := (zc BK426.out 1).trans rfl; have hcz44_2 : w42.cell? ⟨gb426, 2, none⟩ = some (.slice none 0 0) := (zc BK426.out 2).trans rfl; have hfz44_0 := zf BK426.out 0; have hfz44_1 := zf BK426.out 1; have hfz44_2 := zf BK426.out 2))
                 have n0_ : Aside0 ((((w42.setCell ⟨gb426, 0, none⟩ (.int .i64 ((rd_T42 l0_3 x49_2).f0))).setCell ⟨gb426, 1, none⟩ (.int .i64 ((rd_T42 l0_3 x49_2).f1))).setCell ⟨gb426, 2, none⟩ (.slice A425_2 ((rd_T42 l0_3 x49_2).f2).length c425_2)).heap[gb422]? = some (.cells #[.int .i64 a0_0, .int .i64 a0_1, .slice A0_2 l0_2.length c0_2, .slice (some ad425) l0_3.length c0_3] 25 (0, 0))) := ⟨by refine zF ?_ NB422_426.out _; refine zF ?_ NB422_426.out _; refine zF ?_ NB422_426.out _; exact BK422.out⟩
                 have n1_ : Aside0 ((((w42.setCell ⟨gb426, 0, none⟩ (.int .i64 ((rd_T42 l0_3 x49_2).f0))).setCell ⟨gb426, 1, none⟩ (.int .i64 ((rd_T42 l0_3 x49_2).f1))).setCell ⟨gb426, 2, none⟩ (.slice A425_2 ((rd_T42 l0_3 x49_2).f2).length c425_2)).heap[gb426]? = some (.cells #[.int .i64 ((rd_T42 l0_3 x49_2).f0), .int .i64 ((rd_T42 l0_3 x49_2).f1), .slice A425_2 ((rd_T42 l0_3 x49_2).f2).length c425_2] 42 (0, 0))) := ⟨by refine zP (cs := #[.int .i64 ((rd_T42 l0_3 x49_2).f0), .int .i64 ((rd_T42 l0_3 x49_2).f1), .slice none 0 0]) ?_ 2 _ rfl; refine zP (cs := #[.int .i64 ((rd_T42 l0_3 x49_2).f0), .int .i64 0, .slice none 0 0]) ?_ 1 _ rfl; refine zP (cs := #[.int .i64 0, .int .i64 0, .slice none 0 0]) ?_ 0 _ rfl; exact BK426.out⟩
                 have n2_ : Aside0 (Below w.heap.size w (((w42.setCell ⟨gb426, 0, none⟩ (.int .i64 ((rd_T42 l0_3 x49_2).f0))).setCell ⟨gb426, 1, none⟩ (.int .i64 ((rd_T42 l0_3 x49_2).f1))).setCell ⟨gb426, 2, none⟩ (.slice A425_2 ((rd_T42 l0_3 x49_2).f2).length c425_2))) := ⟨by repeat (first | (with_reducible first | exact HB.out | apply zL | apply zN | apply zD | refine zJ ?_ GE422.out | refine zJ ?_ GE426.out) | exact HB.out)⟩
                 (try clear BK422)
                 (try clear BK426)
                 (try clear HB)
                 generalize (((w42.setCell ⟨gb426, 0, none⟩ (.int .i64 ((rd_T42 l0_3 x49_2).f0))).setCell ⟨gb426, 1, none⟩ (.int .i64 ((rd_T42 l0_3 x49_2).f1))).setCell ⟨gb426, 2, none⟩ (.slice A425_2 ((rd_T42 l0_3 x49_2).f2).length c425_2)) = w45 at n0_ n1_ n2_ ⊢
                 have BK422 := n0_
                 have BK426 := n1_
                 have HB := n2_
                 clear n0_ n1_ n2_
                 have n0_ := zM (zd BK422.out)
                 have n1_ := zM (zd BK426.out)
                 have n2_ := zM (zD HB.out)
                 clear BK422
                 clear BK426
                 clear HB
                 have BK422 := n0_
                 have BK426 := n1_
                 have HB := n2_
                 clear n0_ n1_ n2_
                 have p428 : 0 ≤ ((ji38) : Int) := zo (by assumption)
                 have q428 : (ji38) < (l0_3.length : Int) := zo (by assumption)
                 obtain ⟨ad428, A428_2, c428_2, e428, hx428_0, hx428_1, hx428_2, hl428_2, hi428_2⟩ := at_T42 HR0_3.out (ji38) p428 q428
                 have hw428_2 := hx428_2
                 have hw428_1 := hx428_1
                 have hw428_0 := hx428_0
                 obtain rfl : ad425 = ad428 := (by injection e428)
                 replace hx428_0 := (HB.out.cell (zW w _ hx428_0)).trans hx428_0
                 replace hx428_1 := (HB.out.cell (zW w _ hx428_1)).trans hx428_1
                 replace hx428_2 := (HB.out.cell (zW w _ hx428_2)).trans hx428_2
                 have HR428_2 := zM hi428_2
                 have HC428_2 := zM hl428_2
                 clear hi428_2 hl428_2
                 replace p428 := eq_true p428
                 replace q428 := eq_true q428
                 refine start_ (n := 41) (S := fun w' => w'.cell? ⟨gb426, 0, none⟩ = some (.int .i64 ((rd_T42 l0_3 x49_2).f0)) ∧ w'.cell? ⟨gb426, 1, none⟩ = some (.int .i64 ((rd_T42 l0_3 x49_2).f1)) ∧ w'.cell? ⟨gb426, 2, none⟩ = some (.slice A425_2 ((rd_T42 l0_3 x49_2).f2).length c425_2) ∧ w'.cell? ⟨gb422, 0, none⟩ = some (.int .i64 a0_0) ∧ w'.cell? ⟨gb422, 1, none⟩ = some (.int .i64 a0_1) ∧ w'.cell? ⟨gb422, 2, none⟩ = some (.slice A0_2 l0_2.length c0_2) ∧ w'.cell? ⟨gb422, 3, none⟩ = some (.slice (some ad425) l0_3.length c0_3) ∧ w'.cell? (ad425.add (((ji38)).toNat * 3)) = some (.int .i64 ((rd_T42 l0_3 (ji38)).f0)) ∧ w'.cell? ⟨(ad425.add (((ji38)).toNat * 3)).block, (ad425.add (((ji38)).toNat * 3)).off + 1, none⟩ = some (.int .i64 ((rd_T42 l0_3 (ji38)).f1)) ∧ w'.cell? ⟨(ad425.add (((ji38)).toNat * 3)).block, (ad425.add (((ji38)).toNat * 3)).off + 2, none⟩ = some (.slice A428_2 ((rd_T42 l0_3 (ji38)).f2).length c428_2)) (ds := []) mr0 (by kernel_rfl) rfl rfl ⟨(zc BK426.out 0).trans rfl, (zc BK426.out 1).trans rfl, (zc BK426.out 2).trans rfl, (zc BK422.out 0).trans rfl, (zc BK422.out 1).trans rfl, (zc BK422.out 2).trans rfl, (zc BK422.out 3).trans rfl, ((HB.out.cell (zW w _ hw428_0)).trans hw428_0), ((HB.out.cell (zW w _ hw428_1)).trans hw428_1), ((HB.out.cell (zW w _ hw428_2)).trans hw428_2)⟩ (fun hHeld => ?_); refine with_tabW rightT.tab7 rightT.bits7 (fun HT_ HW_ => ?_)
                 generalize w45.drew = w46 at BK422 BK426 HB HR428_2 hx428_0 hx428_1 hx428_2 hHeld ⊢
                 refine take_ (i := 0) (N := some 54) (v := ?_) (a' := ?_) mr1 rfl rfl (take_ofW HT_.out HW_.out (by kernel_rfl)) (fun _ _ _ h => h) (Or.inl ⟨by rfl, ?_⟩) hHeld ?_ ?_
                 rotate_left
                 ·rintro w' ⟨s0, s1, s2, s3, s4, s5, s6, s7, s8, s9⟩
                  go_simp
                  with_reducible rfl
                 rotate_left
                 ·simp only [Act.put, zA, zZ, zS, i64_w, i32_w]
                  rfl
                 refine one_ (i := 1) (N := some 55) mr2 rfl rfl (one_of HT_.out (by kernel_rfl)) (by decide) (fun K hK => ?_)
                 refine goes_ Try.func39 (by kernel_rfl) rfl #[.agg #[.int .i64 ((rd_T42 l0_3 x49_2).f0), .int .i64 ((rd_T42 l0_3 x49_2).f1), .slice A425_2 ((rd_T42 l0_3 x49_2).f2).length c425_2]] (by rfl) rfl rfl (by (try simp only [List.map_toArray, List.map_cons, List.map_nil]); first | done | rfl) ?_
                 with_reducible refine (batch_May.calls k2 ((rd_T42 l0_3 x49_2).f0) ((rd_T42 l0_3 x49_2).f1) _ _ ((rd_T42 l0_3 x49_2).f2) true _ ?side1 ?side2 A32.out).mono ?_
                 (case side1 => exact (zcb HR425_2.out HB.out))
                 (case side2 => exact HC425_2.out)
                 rintro e w47 ⟨rfl, hb⟩
                 refine ⟨_, rfl, ?_⟩
                 have n0_ := zM (zb (g := gb422) (o := .cells #[.int .i64 a0_0, .int .i64 a0_1, .slice A0_2 l0_2.length c0_2, .slice (some ad425) l0_3.length c0_3] 25 (0, 0)) (by exact BK422.out) hb)
                 have n1_ := zM (zb (g := gb426) (o := .cells #[.int .i64 ((rd_T42 l0_3 x49_2).f0), .int .i64 ((rd_T42 l0_3 x49_2).f1), .slice A425_2 ((rd_T42 l0_3 x49_2).f2).length c425_2] 42 (0, 0)) (by exact BK426.out) hb)
                 have n2_ := zM (zp HB.out hb)
                 clear BK422
                 clear BK426
                 clear HB
                 have BK422 := n0_
                 have BK426 := n1_
                 have HB := n2_
                 clear n0_ n1_ n2_
                 (try clear hb)
                 (try clear hb2)
                 (try clear hk)
                 (try clear hi)
                 refine hK.out _ _ ⟨(zc BK426.out 0).trans rfl, (zc BK426.out 1).trans rfl, (zc BK426.out 2).trans rfl, (zc BK422.out 0).trans rfl, (zc BK422.out 1).trans rfl, (zc BK422.out 2).trans rfl, (zc BK422.out 3).trans rfl, ((HB.out.cell (zW w _ hw428_0)).trans hw428_0), ((HB.out.cell (zW w _ hw428_1)).trans hw428_1), ((HB.out.cell (zW w _ hw428_2)).trans hw428_2)⟩ (fun hHeld => ?_)
                 clear hK K
                 refine norm_ (a' := ?_) ?_ ?_
                 rotate_left
                 ·show Act.put _ (some 55) _ = _
                  simp only [Act.put, zA, zZ, zS, i64_w, i32_w]
                  rfl
                 refine pure_ (i := 2) (N := some 56) (v := ?_) (a' := ?_) mr3 rfl rfl (any_of HT_.out (by kernel_rfl)) (fun _ _ _ h => h) (Or.inl ⟨by rfl, ?_⟩) ?_ ?_
                 rotate_left
                 ·intro w'
                  go_simp
                  with_reducible rfl
                 rotate_left
                 ·simp only [Act.put, zA, zZ, zS, i64_w, i32_w]
                  rfl
                 refine pure_ (i := 3) (N := some 57) (v := ?_) (a' := ?_) mr4 rfl rfl (any_of HT_.out (by kernel_rfl)) (fun _ _ _ h => h) (Or.inl ⟨by rfl, ?_⟩) ?_ ?_
                 rotate_left
                 ·intro w'
                  go_simp
                  with_reducible rfl
                 rotate_left
                 ·simp only [Act.put, zA, zZ, zS, i64_w, i32_w]
                  rfl
                 refine pure_ (i := 4) (N := some 58) (v := ?_) (a' := ?_) mr5 rfl rfl (any_of HT_.out (by kernel_rfl)) (fun _ _ _ h => h) (Or.inl ⟨by rfl, ?_⟩) ?_ ?_
                 rotate_left
                 ·intro w'
                  go_simp
                  with_reducible rfl
                 rotate_left
                 ·simp only [Act.put, zA, zZ, zS, i64_w, i32_w]
                  rfl
                 refine pure_ (i := 6) (N := some 60) (v := ?_) (a' := ?_) mr6 rfl rfl (any_of HT_.out (by kernel_rfl)) (fun _ _ _ h => h) (Or.inl ⟨by rfl, ?_⟩) ?_ ?_
                 rotate_left
                 ·intro w'
                  go_simp
                  with_reducible rfl
                 rotate_left
                 ·simp only [Act.put, zA, zZ, zS, i64_w, i32_w]
                  rfl
                 refine take_ (i := 5) (N := some 59) (v := ?_) (a' := ?_) mr7 rfl rfl (take_ofW HT_.out HW_.out (by kernel_rfl)) (fun _ _ _ h => h) (Or.inl ⟨by rfl, ?_⟩) hHeld ?_ ?_
                 rotate_left
                 ·rintro w' ⟨s0, s1, s2, s3, s4, s5, s6, s7, s8, s9⟩
                  go_simp
                  with_reducible rfl
                 rotate_left
                 ·simp only [Act.put, zA, zZ, zS, i64_w, i32_w]
                  rfl
                 refine take_ (i := 7) (N := some 61) (v := ?_) (a' := ?_) mr8 rfl rfl (take_ofW HT_.out HW_.out (by kernel_rfl)) (fun _ _ _ h => h) (Or.inl ⟨by rfl, ?_⟩) hHeld ?_ ?_
                 rotate_left
                 ·rintro w' ⟨s0, s1, s2, s3, s4, s5, s6, s7, s8, s9⟩
                  go_simp
                  with_reducible rfl
                 rotate_left
                 ·simp only [Act.put, zA, zZ, zS, i64_w, i32_w]
                  rfl
                 refine pure_ (i := 8) (N := some 62) (v := ?_) (a' := ?_) mr9 rfl rfl (any_of HT_.out (by kernel_rfl)) (fun _ _ _ h => h) (Or.inl ⟨by rfl, ?_⟩) ?_ ?_
                 rotate_left
                 ·intro w'
                  go_simp
                  with_reducible rfl
                 rotate_left
                 ·simp only [Act.put, zA, zZ, zS, i64_w, i32_w]
                  rfl
                 refine pure_ (i := 9) (N := some 63) (v := ?_) (a' := ?_) mr10 rfl rfl (any_of HT_.out (by kernel_rfl)) (fun _ _ _ h => h) (Or.inl ⟨by rfl, ?_⟩) ?_ ?_
                 rotate_left
                 ·intro w'
                  go_simp
                  with_reducible rfl
                 rotate_left
                 ·simp only [Act.put, zA, zZ, zS, i64_w, i32_w]
                  rfl
                 refine pure_ (i := 10) (N := some 64) (v := ?_) (a' := ?_) mr11 rfl rfl (any_of HT_.out (by kernel_rfl)) (fun _ _ _ h => h) (Or.inl ⟨by rfl, ?_⟩) ?_ ?_
                 rotate_left
                 ·intro w'
                  go_simp
                  with_reducible rfl
                 rotate_left
                 ·simp only [Act.put, zA, zZ, zS, i64_w, i32_w]
                  rfl
                 refine pure_ (i := 11) (N := some 65) (v := ?_) (a' := ?_) mr12 rfl rfl (any_of HT_.out (by kernel_rfl)) (fun _ _ _ h => h) (Or.inl ⟨by rfl, ?_⟩) ?_ ?_
                 rotate_left
                 ·intro w'
                  go_simp
                  with_reducible rfl
                 rotate_left
                 ·simp only [Act.put, zA, zZ, zS, i64_w, i32_w]
                  rfl
                 refine pure_ (i := 13) (N := some 67) (v := ?_) (a' := ?_) mr13 rfl rfl (any_of HT_.out (by kernel_rfl)) (fun _ _ _ h => h) (Or.inl ⟨by rfl, ?_⟩) ?_ ?_
                 rotate_left
                 ·intro w'
                  go_simp
                  with_reducible rfl
                 rotate_left
                 ·simp only [Act.put, zA, zZ, zS, i64_w, i32_w]
                  rfl
                 refine take_ (i := 12) (N := some 66) (v := ?_) (a' := ?_) mr14 rfl rfl (take_ofW HT_.out HW_.out (by kernel_rfl)) (fun _ _ _ h => h) (Or.inl ⟨by rfl, ?_⟩) hHeld ?_ ?_
                 rotate_left
                 ·rintro w' ⟨s0, s1, s2, s3, s4, s5, s6, s7, s8, s9⟩
                  go_simp
                  with_reducible rfl
                 rotate_left
                 ·simp only [Act.put, zA, zZ, zS, i64_w, i32_w]
                  rfl
                 refine take_ (i := 14) (N := some 68) (v := ?_) (a' := ?_) mr15 rfl rfl (take_ofW HT_.out HW_.out (by kernel_rfl)) (fun _ _ _ h => h) (Or.inl ⟨by rfl, ?_⟩) hHeld ?_ ?_
                 rotate_left
                 ·rintro w' ⟨s0, s1, s2, s3, s4, s5, s6, s7, s8, s9⟩
                  go_simp
                  with_reducible rfl
                 rotate_left
                 ·simp only [Act.put, zA, zZ, zS, i64_w, i32_w]
                  rfl
                 refine pure_ (i := 15) (N := some 69) (v := ?_) (a' := ?_) mr16 rfl rfl (any_of HT_.out (by kernel_rfl)) (fun _ _ _ h => h) (Or.inl ⟨by rfl, ?_⟩) ?_ ?_
                 rotate_left
                 ·intro w'
                  go_simp
                  with_reducible rfl
                 rotate_left
                 ·simp only [Act.put, zA, zZ, zS, i64_w, i32_w]
                  rfl
                 refine pure_ (i := 16) (N := some 70) (v := ?_) (a' := ?_) mr17 rfl rfl (any_of HT_.out (by kernel_rfl)) (fun _ _ _ h => h) (Or.inl ⟨by rfl, ?_⟩) ?_ ?_
                 rotate_left
                 ·intro w'
                  go_simp
                  with_reducible rfl
                 rotate_left
                 ·simp only [Act.put, zA, zZ, zS, i64_w, i32_w]
                  rfl
                 refine pure_ (i := 17) (N := some 71) (v := ?_) (a' := ?_) mr18 rfl rfl (any_of HT_.out (by kernel_rfl)) (fun _ _ _ h => h) (Or.inl ⟨by rfl, ?_⟩) ?_ ?_
                 rotate_left
                 ·intro w'
                  go_simp
                  with_reducible rfl
                 rotate_left
                 ·simp only [Act.put, zA, zZ, zS, i64_w, i32_w]
                  rfl
                 refine pure_ (i := 18) (N := some 72) (v := ?_) (a' := ?_) mr19 rfl rfl (any_of HT_.out (by kernel_rfl)) (fun _ _ _ h => h) (Or.inl ⟨by rfl, ?_⟩) ?_ ?_
                 rotate_left
                 ·intro w'
                  go_simp
                  with_reducible rfl
                 rotate_left
                 ·simp only [Act.put, zA, zZ, zS, i64_w, i32_w]
                  rfl
                 refine pure_ (i := 20) (N := some 74) (v := ?_) (a' := ?_) mr20 rfl rfl (any_of HT_.out (by kernel_rfl)) (fun _ _ _ h => h) (Or.inl ⟨by rfl, ?_⟩) ?_ ?_
                 rotate_left
                 ·intro w'
                  go_simp
                  with_reducible rfl
                 rotate_left
                 ·simp only [Act.put, zA, zZ, zS, i64_w, i32_w]
                  rfl
                 refine take_ (i := 19) (N := some 73) (v := ?_) (a' := ?_) mr21 rfl rfl (take_ofW HT_.out HW_.out (by kernel_rfl)) (fun _ _ _ h => h) (Or.inl ⟨by rfl, ?_⟩) hHeld ?_ ?_
                 rotate_left
                 ·rintro w' ⟨s0, s1, s2, s3, s4, s5, s6, s7, s8, s9⟩
                  go_simp
                  with_reducible rfl
                 rotate_left
                 ·simp only [Act.put, zA, zZ, zS, i64_w, i32_w]
                  rfl
                 refine take_ (i := 21) (N := some 75) (v := ?_) (a' := ?_) mr22 rfl rfl (take_ofW HT_.out HW_.out (by kernel_rfl)) (fun _ _ _ h => h) (Or.inl ⟨by rfl, ?_⟩) hHeld ?_ ?_
                 rotate_left
                 ·rintro w' ⟨s0, s1, s2, s3, s4, s5, s6, s7, s8, s9⟩
                  go_simp
                  with_reducible rfl
                 rotate_left
                 ·simp only [Act.put, zA, zZ, zS, i64_w, i32_w]
                  rfl
                 refine pure_ (i := 22) (N := some 76) (v := ?_) (a' := ?_) mr23 rfl rfl (any_of HT_.out (by kernel_rfl)) (fun _ _ _ h => h) (Or.inl ⟨by rfl, ?_⟩) ?_ ?_
                 rotate_left
                 ·intro w'
                  go_simp
                  with_reducible rfl
                 rotate_left
                 ·simp only [Act.put, zA, zZ, zS, i64_w, i32_w]
                  rfl
                 refine pure_ (i := 23) (N := some 77) (v := ?_) (a' := ?_) mr24 rfl rfl (any_of HT_.out (by kernel_rfl)) (fun _ _ _ h => h) (Or.inl ⟨by rfl, ?_⟩) ?_ ?_
                 rotate_left
                 ·intro w'
                  go_simp
                  with_reducible rfl
                 rotate_left
                 ·simp only [Act.put, zA, zZ, zS, i64_w, i32_w]
                  rfl
                 refine pure_ (i := 24) (N := some 78) (v := ?_) (a' := ?_) mr25 rfl rfl (any_of HT_.out (by kernel_rfl)) (fun _ _ _ h => h) (Or.inl ⟨by rfl, ?_⟩) ?_ ?_
                 rotate_left
                 ·intro w'
                  go_simp
                  with_reducible rfl
                 rotate_left
                 ·simp only [Act.put, zA, zZ, zS, i64_w, i32_w]
                  rfl
                 refine pure_ (i := 25) (N := some 79) (v := ?_) (a' := ?_) mr26 rfl rfl (any_of HT_.out (by kernel_rfl)) (fun _ _ _ h => h) (Or.inl ⟨by rfl, ?_⟩) ?_ ?_
                 rotate_left
                 ·intro w'
                  go_simp
                  with_reducible rfl
                 rotate_left
                 ·simp only [Act.put, zA, zZ, zS, i64_w, i32_w]
                  rfl
                 refine pure_ (i := 26) (N := some 80) (v := ?_) (a' := ?_) mr27 rfl rfl (any_of HT_.out (by kernel_rfl)) (fun _ _ _ h => h) (Or.inl ⟨by rfl, ?_⟩) ?_ ?_
                 rotate_left
                 ·intro w'
                  go_simp
                  with_reducible rfl
                 rotate_left
                 ·simp only [Act.put, zA, zZ, zS, i64_w, i32_w]
                  rfl
                 refine pure_ (i := 27) (N := some 81) (v := ?_) (a' := ?_) mr28 rfl rfl (any_of HT_.out (by kernel_rfl)) (fun _ _ _ h => h) (Or.inl ⟨by rfl, ?_⟩) ?_ ?_
                 rotate_left
                 ·intro w'
                  go_simp
                  with_reducible rfl
                 rotate_left
                 ·simp only [Act.put, zA, zZ, zS, i64_w, i32_w]
                  rfl
                 refine pure_ (i := 28) (N := some 82) (v := ?_) (a' := ?_) mr29 rfl rfl (any_of HT_.out (by kernel_rfl)) (fun _ _ _ h => h) (Or.inl ⟨by rfl, ?_⟩) ?_ ?_
                 rotate_left
                 ·intro w'
                  go_simp
                  with_reducible rfl
                 rotate_left
                 ·simp only [Act.put, zA, zZ, zS, i64_w, i32_w]
                  rfl
                 refine pure_ (i := 29) (N := some 83) (v := ?_) (a' := ?_) mr30 rfl rfl (any_of HT_.out (by kernel_rfl)) (fun _ _ _ h => h) (Or.inl ⟨by rfl, ?_⟩) ?_ ?_
                 rotate_left
                 ·intro w'
                  go_simp
                  with_reducible rfl
                 rotate_left
                 ·simp only [Act.put, zA, zZ, zS, i64_w, i32_w]
                  rfl
                 refine pure_ (i := 31) (N := some 85) (v := ?_) (a' := ?_) #[true, true, true, true, true, true, true, true, true, true, true, true, true, true, true, true, true, true, true, true, true, true, true, true, true, true, true, true, true, true, false, true, false, false, false, false, false, false, false, false, false] rfl rfl (any_of HT_.out (by kernel_rfl)) (fun _ _ _ h => h) (Or.inl ⟨by rfl, ?_⟩) ?_ ?_
                 rotate_left
                 ·intro w'
                  go_simp
                  with_reducible rfl
                 rotate_left
                 ·simp only [Act.put, zA, zZ, zS, i64_w, i32_w]
                  rfl
                 refine pure_ (i := 32) (N := some 86) (v := ?_) (a' := ?_) #[true, true, true, true, true, true, true, true, true, true, true, true, true, true, true, true, true, true, true, true, true, true, true, true, true, true, true, true, true, true, false, true, true, false, false, false, false, false, false, false, false] rfl rfl (any_of HT_.out (by kernel_rfl)) (fun _ _ _ h => h) (Or.inl ⟨by rfl, ?_⟩) ?_ ?_
                 rotate_left
                 ·intro w'
                  go_simp
                  with_reducible rfl
                 rotate_left
                 ·simp only [Act.put, zA, zZ, zS, i64_w, i32_w]
                  rfl
                 refine pure_ (i := 36) (N := some 90) (v := ?_) (a' := ?_) #[true, true, true, true, true, true, true, true, true, true, true, true, true, true, true, true, true, true, true, true, true, true, true, true, true, true, true, true, true, true, false, true, true, false, false, false, true, false, false, false, false] rfl rfl (any_of HT_.out (by kernel_rfl)) (fun _ _ _ h => h) (Or.inl ⟨by rfl, ?_⟩) ?_ ?_
                 rotate_left
                 ·intro w'
                  go_simp
                  with_reducible rfl
                 rotate_left
                 ·simp only [Act.put, zA, zZ, zS, i64_w, i32_w]
                  rfl
                 refine take_ (i := 30) (N := some 84) (v := ?_) (a' := ?_) #[true, true, true, true, true, true, true, true, true, true, true, true, true, true, true, true, true, true, true, true, true, true, true, true, true, true, true, true, true, true, true, true, true, false, false, false, true, false, false, false, false] rfl rfl (take_ofW HT_.out HW_.out (by kernel_rfl)) (fun _ _ _ h => h) (Or.inl ⟨by rfl, ?_⟩) hHeld ?_ ?_
                 rotate_left
                 ·rintro w' ⟨s0, s1, s2, s3, s4, s5, s6, s7, s8, s9⟩
                  go_simp
                  with_reducible rfl
                 rotate_left
                 ·simp only [Act.put, zA, zZ, zS, i64_w, i32_w]
                  rfl
                 refine pure_ (i := 33) (N := some 87) (v := ?_) (a' := ?_) #[true, true, true, true, true, true, true, true, true, true, true, true, true, true, true, true, true, true, true, true, true, true, true, true, true, true, true, true, true, true, true, true, true, true, false, false, true, false, false, false, false] rfl rfl (any_of HT_.out (by kernel_rfl)) (fun _ _ _ h => h) (Or.inl ⟨by rfl, ?_⟩) ?_ ?_
                 rotate_left
                 ·intro w'
                  go_simp
                  with_reducible rfl
                 rotate_left
                 ·simp only [Act.put, zA, zZ, zS, i64_w, i32_w]
                  rfl
                 refine pure_ (i := 34) (N := some 88) (v := ?_) (a' := ?_) #[true, true, true, true, true, true, true, true, true, true, true, true, true, true, true, true, true, true, true, true, true, true, true, true, true, true, true, true, true, true, true, true, true, true, true, false, true, false, false, false, false] rfl rfl (any_of HT_.out (by kernel_rfl)) (fun _ _ _ h => h) (Or.inl ⟨by rfl, ?_⟩) ?_ ?_
                 rotate_left
                 ·intro w'
                  go_simp
                  with_reducible rfl
                 rotate_left
                 ·simp only [Act.put, zA, zZ, zS, i64_w, i32_w]
                  rfl
                 refine take_ (i := 35) (N := some 89) (v := ?_) (a' := ?_) mr31 rfl rfl (take_ofW HT_.out HW_.out (by kernel_rfl)) (fun _ _ _ h => h) (Or.inl ⟨by rfl, ?_⟩) hHeld ?_ ?_
                 rotate_left
                 ·rintro w' ⟨s0, s1, s2, s3, s4, s5, s6, s7, s8, s9⟩
                  go_simp
                  with_reducible rfl
                 rotate_left
                 ·simp only [Act.put, zA, zZ, zS, i64_w, i32_w]
                  rfl
                 refine take_ (i := 37) (N := some 91) (v := ?_) (a' := ?_) mr32 rfl rfl (take_ofW HT_.out HW_.out (by kernel_rfl)) (fun _ _ _ h => h) (Or.inl ⟨by rfl, ?_⟩) hHeld ?_ ?_
                 rotate_left
                 ·rintro w' ⟨s0, s1, s2, s3, s4, s5, s6, s7, s8, s9⟩
                  go_simp
                  with_reducible rfl
                 rotate_left
                 ·simp only [Act.put, zA, zZ, zS, i64_w, i32_w]
                  rfl
                 refine pure_ (i := 38) (N := some 92) (v := ?_) (a' := ?_) mr33 rfl rfl (any_of HT_.out (by kernel_rfl)) (fun _ _ _ h => h) (Or.inl ⟨by rfl, ?_⟩) ?_ ?_
                 rotate_left
                 ·intro w'
                  go_simp
                  with_reducible rfl
                 rotate_left
                 ·simp only [Act.put, zA, zZ, zS, i64_w, i32_w]
                  rfl
                 refine pure_ (i := 39) (N := some 93) (v := ?_) (a' := ?_) mr34 rfl rfl (any_of HT_.out (by kernel_rfl)) (fun _ _ _ h => h) (Or.inl ⟨by rfl, ?_⟩) ?_ ?_
                 rotate_left
                 ·intro w'
                  go_simp
                  with_reducible rfl
                 rotate_left
                 ·simp only [Act.put, zA, zZ, zS, i64_w, i32_w]
                  rfl
                 refine pure_ (i := 40) (N := some 94) (v := ?_) (a' := ?_) mr35 rfl rfl (any_of HT_.out (by kernel_rfl)) (fun _ _ _ h => h) (Or.inl ⟨by rfl, ?_⟩) ?_ ?_
                 rotate_left
                 ·intro w'
                  go_simp
                  with_reducible rfl
                 rotate_left
                 ·simp only [Act.put, zA, zZ, zS, i64_w, i32_w]
                  rfl
                 refine done_ (done_of HT_.out (by kernel_rfl)) ?_
                 try go_wp2
                 go_roundg k2
                 case measure => have := HJ1.out; have := HK2.out; omega
                 case rel => exact ⟨(wrap64 (x49_2 + 1)), rfl, H', ⟨by have := HJ1.out; have := HK2.out; omega⟩, ⟨by exact BK422.out⟩, ⟨by repeat (first | (with_reducible first | exact HB.out | apply zL | apply zN | apply zD | refine zJ ?_ GE422.out | refine zJ ?_ GE426.out) | exact HB.out)⟩⟩
               ·rw [if_neg c40] at H
                exact absurd H (by simp)
              ·rw [if_neg c39] at H
               exact absurd H (by simp)
             ·rw [if_neg c37] at H
              have c37b0 : decide (0 < x49_2) = false := decide_eq_false c37
              clear c37
              have H' := zM H
              clear H
              have p425 : 0 ≤ (x49_2 : Int) := zo (by assumption)
              have q425 : x49_2 < (l0_3.length : Int) := zo (by assumption)
              obtain ⟨ad425, A425_2, c425_2, e425, hx425_0, hx425_1, hx425_2, hl425_2, hi425_2⟩ := at_T42 HR0_3.out x49_2 p425 q425
              cases e425
              replace hx425_0 := (HB.out.cell (zW w _ hx425_0)).trans hx425_0
              replace hx425_1 := (HB.out.cell (zW w _ hx425_1)).trans hx425_1
              replace hx425_2 := (HB.out.cell (zW w _ hx425_2)).trans hx425_2
              have HR425_2 := zM hi425_2
              have HC425_2 := zM hl425_2
              clear hi425_2 hl425_2
              replace p425 := eq_true p425
              replace q425 := eq_true q425
              try go_wp2_with (first | ((with_reducible refine gate_dst (N := 5) rfl ?_); (try (refine gate_guard (by rfl) ?_; dsimp only)); refine box_event ?hg (N := 5) ?hd (cs := #[.int .i64 0, .int .i64 0, .slice none 0 0]) (t := 42) ?hr ?_; (case hd => rfl); (case hg => rfl); (case hr => go_simp); intro gb426 hg w48 hbox hb; have n0_ := zM (zb (g := gb422) (o := .cells #[.int .i64 a0_0, .int .i64 a0_1, .slice A0_2 l0_2.length c0_2, .slice (some ad425) l0_3.length c0_3] 25 (0, 0)) (by exact BK422.out) hb); have n1_ := zM (zp HB.out hb); have n2_ := zM (hbox); have n3_ := zM ((by rw [hg]; exact (zs HB.out) : w.heap.size ≤ gb426)); have n4_ := zM ((by rw [hg]; exact (zs HB.out) : w.heap.size ≤ gb426)); have n5_ := zM ((by rw [hg]; exact zt (blk_lt (g := gb422) (o := .cells #[.int .i64 a0_0, .int .i64 a0_1, .slice A0_2 l0_2.length c0_2, .slice (some ad425) l0_3.length c0_3] 25 (0, 0)) (by exact BK422.out)) : gb422 ≠ gb426)); have n6_ := zM ((by rw [hg]; exact Nat.ne_of_gt (blk_lt (g := gb422) (o := .cells #[.int .i64 a0_0, .int .i64 a0_1, .slice A0_2 l0_2.length c0_2, .slice (some ad425) l0_3.length c0_3] 25 (0, 0)) (by exact BK422.out)) : gb426 ≠ gb422)); clear BK422; clear HB; have BK422 := n0_; have HB := n1_; have BK426 := n2_; have GW426 := n3_; have GE426 := n4_; have NB422_426 := n5_; have NB426_422 := n6_; clear n0_ n1_ n2_ n3_ n4_ n5_ n6_; clear hb hbox hg; have hnb49 := NB426_422.out; have hnc49 := NB422_426.out; have hcz50_0 : w48.cell? ⟨gb426, 0, none⟩ = some (.int .i64 0) := (zc BK426.out 0).trans rfl; have hcz50_1 : w48.cell? ⟨gb426, 1, none⟩ = some (.int .i64 0) := (zc BK426.out 1).trans rfl; have hcz50_2 : w48.cell? ⟨gb426, 2, none⟩ = some (.slice none 0 0) := (zc BK426.out 2).trans rfl; have hfz50_0 := zf BK426.out 0; have hfz50_1 := zf BK426.out 1; have hfz50_2 := zf BK426.out 2))
              have n0_ : Aside0 ((((w48.setCell ⟨gb426, 0, none⟩ (.int .i64 ((rd_T42 l0_3 x49_2).f0))).setCell ⟨gb426, 1, none⟩ (.int .i64 ((rd_T42 l0_3 x49_2).f1))).setCell ⟨gb426, 2, none⟩ (.slice A425_2 ((rd_T42 l0_3 x49_2).f2).length c425_2)).heap[gb422]? = some (.cells #[.int .i64 a0_0, .int .i64 a0_1, .slice A0_2 l0_2.length c0_2, .slice (some ad425) l0_3.length c0_3] 25 (0, 0))) := ⟨by refine zF ?_ NB422_426.out _; refine zF ?_ NB422_426.out _; refine zF ?_ NB422_426.out _; exact BK422.out⟩
              have n1_ : Aside0 ((((w48.setCell ⟨gb426, 0, none⟩ (.int .i64 ((rd_T42 l0_3 x49_2).f0))).setCell ⟨gb426, 1, none⟩ (.int .i64 ((rd_T42 l0_3 x49_2).f1))).setCell ⟨gb426, 2, none⟩ (.slice A425_2 ((rd_T42 l0_3 x49_2).f2).length c425_2)).heap[gb426]? = some (.cells #[.int .i64 ((rd_T42 l0_3 x49_2).f0), .int .i64 ((rd_T42 l0_3 x49_2).f1), .slice A425_2 ((rd_T42 l0_3 x49_2).f2).length c425_2] 42 (0, 0))) := ⟨by refine zP (cs := #[.int .i64 ((rd_T42 l0_3 x49_2).f0), .int .i64 ((rd_T42 l0_3 x49_2).f1), .slice none 0 0]) ?_ 2 _ rfl; refine zP (cs := #[.int .i64 ((rd_T42 l0_3 x49_2).f0), .int .i64 0, .slice none 0 0]) ?_ 1 _ rfl; refine zP (cs := #[.int .i64 0, .int .i64 0, .slice none 0 0]) ?_ 0 _ rfl; exact BK426.out⟩
              have n2_ : Aside0 (Below w.heap.size w (((w48.setCell ⟨gb426, 0, none⟩ (.int .i64 ((rd_T42 l0_3 x49_2).f0))).setCell ⟨gb426, 1, none⟩ (.int .i64 ((rd_T42 l0_3 x49_2).f1))).setCell ⟨gb426, 2, none⟩ (.slice A425_2 ((rd_T42 l0_3 x49_2).f2).length c425_2))) := ⟨by repeat (first | (with_reducible first | exact HB.out | apply zL | apply zN | apply zD | refine zJ ?_ GE422.out | refine zJ ?_ GE426.out) | exact HB.out)⟩
              (try clear BK422)
              (try clear BK426)
              (try clear HB)
              generalize (((w48.setCell ⟨gb426, 0, none⟩ (.int .i64 ((rd_T42 l0_3 x49_2).f0))).setCell ⟨gb426, 1, none⟩ (.int .i64 ((rd_T42 l0_3 x49_2).f1))).setCell ⟨gb426, 2, none⟩ (.slice A425_2 ((rd_T42 l0_3 x49_2).f2).length c425_2)) = w51 at n0_ n1_ n2_ ⊢
              have BK422 := n0_
              have BK426 := n1_
              have HB := n2_
              clear n0_ n1_ n2_
              have n0_ := zM (zd BK422.out)
              have n1_ := zM (zd BK426.out)
              have n2_ := zM (zD HB.out)
              clear BK422
              clear BK426
              clear HB
              have BK422 := n0_
              have BK426 := n1_
              have HB := n2_
              clear n0_ n1_ n2_
              refine start_ (n := 41) (S := fun w' => w'.cell? ⟨gb426, 0, none⟩ = some (.int .i64 ((rd_T42 l0_3 x49_2).f0)) ∧ w'.cell? ⟨gb426, 1, none⟩ = some (.int .i64 ((rd_T42 l0_3 x49_2).f1)) ∧ w'.cell? ⟨gb426, 2, none⟩ = some (.slice A425_2 ((rd_T42 l0_3 x49_2).f2).length c425_2) ∧ w'.cell? ⟨gb422, 0, none⟩ = some (.int .i64 a0_0) ∧ w'.cell? ⟨gb422, 1, none⟩ = some (.int .i64 a0_1) ∧ w'.cell? ⟨gb422, 2, none⟩ = some (.slice A0_2 l0_2.length c0_2) ∧ w'.cell? ⟨gb422, 3, none⟩ = some (.slice (some ad425) l0_3.length c0_3)) (ds := []) mr0 (by kernel_rfl) rfl rfl ⟨(zc BK426.out 0).trans rfl, (zc BK426.out 1).trans rfl, (zc BK426.out 2).trans rfl, (zc BK422.out 0).trans rfl, (zc BK422.out 1).trans rfl, (zc BK422.out 2).trans rfl, (zc BK422.out 3).trans rfl⟩ (fun hHeld => ?_); refine with_tabW rightT.tab7 rightT.bits7 (fun HT_ HW_ => ?_)
              generalize w51.drew = w52 at BK422 BK426 HB hHeld ⊢
              refine take_ (i := 0) (N := some 54) (v := ?_) (a' := ?_) mr1 rfl rfl (take_ofW HT_.out HW_.out (by kernel_rfl)) (fun _ _ _ h => h) (Or.inl ⟨by rfl, ?_⟩) hHeld ?_ ?_
              rotate_left
              ·rintro w' ⟨s0, s1, s2, s3, s4, s5, s6⟩
               go_simp
               with_reducible rfl
              rotate_left
              ·simp only [Act.put, zA, zZ, zS, i64_w, i32_w]
               rfl
              refine one_ (i := 1) (N := some 55) mr2 rfl rfl (one_of HT_.out (by kernel_rfl)) (by decide) (fun K hK => ?_)
              refine goes_ Try.func39 (by kernel_rfl) rfl #[.agg #[.int .i64 ((rd_T42 l0_3 x49_2).f0), .int .i64 ((rd_T42 l0_3 x49_2).f1), .slice A425_2 ((rd_T42 l0_3 x49_2).f2).length c425_2]] (by rfl) rfl rfl (by (try simp only [List.map_toArray, List.map_cons, List.map_nil]); first | done | rfl) ?_
              with_reducible refine (batch_May.calls k2 ((rd_T42 l0_3 x49_2).f0) ((rd_T42 l0_3 x49_2).f1) _ _ ((rd_T42 l0_3 x49_2).f2) true _ ?side1 ?side2 A32.out).mono ?_
              (case side1 => exact (zcb HR425_2.out HB.out))
              (case side2 => exact HC425_2.out)
              rintro e w53 ⟨rfl, hb⟩
              refine ⟨_, rfl, ?_⟩
              have n0_ := zM (zb (g := gb422) (o := .cells #[.int .i64 a0_0, .int .i64 a0_1, .slice A0_2 l0_2.length c0_2, .slice (some ad425) l0_3.length c0_3] 25 (0, 0)) (by exact BK422.out) hb)
              have n1_ := zM (zb (g := gb426) (o := .cells #[.int .i64 ((rd_T42 l0_3 x49_2).f0), .int .i64 ((rd_T42 l0_3 x49_2).f1), .slice A425_2 ((rd_T42 l0_3 x49_2).f2).length c425_2] 42 (0, 0)) (by exact BK426.out) hb)
              have n2_ := zM (zp HB.out hb)
              clear BK422
              clear BK426
              clear HB
              have BK422 := n0_
              have BK426 := n1_
              have HB := n2_
              clear n0_ n1_ n2_
              (try clear hb)
              (try clear hb2)
              (try clear hk)
              (try clear hi)
              refine hK.out _ _ ⟨(zc BK426.out 0).trans rfl, (zc BK426.out 1).trans rfl, (zc BK426.out 2).trans rfl, (zc BK422.out 0).trans rfl, (zc BK422.out 1).trans rfl, (zc BK422.out 2).trans rfl, (zc BK422.out 3).trans rfl⟩ (fun hHeld => ?_)
              clear hK K
              refine norm_ (a' := ?_) ?_ ?_
              rotate_left
              ·show Act.put _ (some 55) _ = _
               simp only [Act.put, zA, zZ, zS, i64_w, i32_w]
               rfl
              refine pure_ (i := 2) (N := some 56) (v := ?_) (a' := ?_) mr3 rfl rfl (any_of HT_.out (by kernel_rfl)) (fun _ _ _ h => h) (Or.inl ⟨by rfl, ?_⟩) ?_ ?_
              rotate_left
              ·intro w'
               go_simp
               with_reducible rfl
              rotate_left
              ·simp only [Act.put, zA, zZ, zS, i64_w, i32_w]
               rfl
              refine pure_ (i := 3) (N := some 57) (v := ?_) (a' := ?_) mr4 rfl rfl (any_of HT_.out (by kernel_rfl)) (fun _ _ _ h => h) (Or.inl ⟨by rfl, ?_⟩) ?_ ?_
              rotate_left
              ·intro w'
               go_simp
               with_reducible rfl
              rotate_left
              ·simp only [Act.put, zA, zZ, zS, i64_w, i32_w]
               rfl
              refine pure_ (i := 4) (N := some 58) (v := ?_) (a' := ?_) mr5 rfl rfl (any_of HT_.out (by kernel_rfl)) (fun _ _ _ h => h) (Or.inl ⟨by rfl, ?_⟩) ?_ ?_
              rotate_left
              ·intro w'
               go_simp
               with_reducible rfl
              rotate_left
              ·simp only [Act.put, zA, zZ, zS, i64_w, i32_w]
               rfl
              refine pure_ (i := 6) (N := some 60) (v := ?_) (a' := ?_) mr6 rfl rfl (any_of HT_.out (by kernel_rfl)) (fun _ _ _ h => h) (Or.inl ⟨by rfl, ?_⟩) ?_ ?_
              rotate_left
              ·intro w'
               go_simp
               with_reducible rfl
              rotate_left
              ·simp only [Act.put, zA, zZ, zS, i64_w, i32_w]
               rfl
              refine take_ (i := 5) (N := some 59) (v := ?_) (a' := ?_) mr7 rfl rfl (take_ofW HT_.out HW_.out (by kernel_rfl)) (fun _ _ _ h => h) (Or.inl ⟨by rfl, ?_⟩) hHeld ?_ ?_
              rotate_left
              ·rintro w' ⟨s0, s1, s2, s3, s4, s5, s6⟩
               go_simp
               with_reducible rfl
              rotate_left
              ·simp only [Act.put, zA, zZ, zS, i64_w, i32_w]
               rfl
              refine take_ (i := 7) (N := some 61) (v := ?_) (a' := ?_) mr8 rfl rfl (take_ofW HT_.out HW_.out (by kernel_rfl)) (fun _ _ _ h => h) (Or.inl ⟨by rfl, ?_⟩) hHeld ?_ ?_
              rotate_left
              ·rintro w' ⟨s0, s1, s2, s3, s4, s5, s6⟩
               go_simp
               with_reducible rfl
              rotate_left
              ·simp only [Act.put, zA, zZ, zS, i64_w, i32_w]
               rfl
              refine pure_ (i := 8) (N := some 62) (v := ?_) (a' := ?_) mr9 rfl rfl (any_of HT_.out (by kernel_rfl)) (fun _ _ _ h => h) (Or.inl ⟨by rfl, ?_⟩) ?_ ?_
              rotate_left
              ·intro w'
               go_simp
               with_reducible rfl
              rotate_left
              ·simp only [Act.put, zA, zZ, zS, i64_w, i32_w]
               rfl
              refine pure_ (i := 9) (N := some 63) (v := ?_) (a' := ?_) mr10 rfl rfl (any_of HT_.out (by kernel_rfl)) (fun _ _ _ h => h) (Or.inl ⟨by rfl, ?_⟩) ?_ ?_
              rotate_left
              ·intro w'
               go_simp
               with_reducible rfl
              rotate_left
              ·simp only [Act.put, zA, zZ, zS, i64_w, i32_w]
               rfl
              refine pure_ (i := 10) (N := some 64) (v := ?_) (a' := ?_) mr11 rfl rfl (any_of HT_.out (by kernel_rfl)) (fun _ _ _ h => h) (Or.inl ⟨by rfl, ?_⟩) ?_ ?_
              rotate_left
              ·intro w'
               go_simp
               with_reducible rfl
              rotate_left
              ·simp only [Act.put, zA, zZ, zS, i64_w, i32_w]
               rfl
              refine pure_ (i := 11) (N := some 65) (v := ?_) (a' := ?_) mr12 rfl rfl (any_of HT_.out (by kernel_rfl)) (fun _ _ _ h => h) (Or.inl ⟨by rfl, ?_⟩) ?_ ?_
              rotate_left
              ·intro w'
               go_simp
               with_reducible rfl
              rotate_left
              ·simp only [Act.put, zA, zZ, zS, i64_w, i32_w]
               rfl
              refine pure_ (i := 13) (N := some 67) (v := ?_) (a' := ?_) mr13 rfl rfl (any_of HT_.out (by kernel_rfl)) (fun _ _ _ h => h) (Or.inl ⟨by rfl, ?_⟩) ?_ ?_
              rotate_left
              ·intro w'
               go_simp
               with_reducible rfl
              rotate_left
              ·simp only [Act.put, zA, zZ, zS, i64_w, i32_w]
               rfl
              refine take_ (i := 12) (N := some 66) (v := ?_) (a' := ?_) mr14 rfl rfl (take_ofW HT_.out HW_.out (by kernel_rfl)) (fun _ _ _ h => h) (Or.inl ⟨by rfl, ?_⟩) hHeld ?_ ?_
              rotate_left
              ·rintro w' ⟨s0, s1, s2, s3, s4, s5, s6⟩
               go_simp
               with_reducible rfl
              rotate_left
              ·simp only [Act.put, zA, zZ, zS, i64_w, i32_w]
               rfl
              refine take_ (i := 14) (N := some 68) (v := ?_) (a' := ?_) mr15 rfl rfl (take_ofW HT_.out HW_.out (by kernel_rfl)) (fun _ _ _ h => h) (Or.inl ⟨by rfl, ?_⟩) hHeld ?_ ?_
              rotate_left
              ·rintro w' ⟨s0, s1, s2, s3, s4, s5, s6⟩
               go_simp
               with_reducible rfl
              rotate_left
              ·simp only [Act.put, zA, zZ, zS, i64_w, i32_w]
               rfl
              refine pure_ (i := 15) (N := some 69) (v := ?_) (a' := ?_) mr16 rfl rfl (any_of HT_.out (by kernel_rfl)) (fun _ _ _ h => h) (Or.inl ⟨by rfl, ?_⟩) ?_ ?_
              rotate_left
              ·intro w'
               go_simp
               with_reducible rfl
              rotate_left
              ·simp only [Act.put, zA, zZ, zS, i64_w, i32_w]
               rfl
              refine pure_ (i := 16) (N := some 70) (v := ?_) (a' := ?_) mr17 rfl rfl (any_of HT_.out (by kernel_rfl)) (fun _ _ _ h => h) (Or.inl ⟨by rfl, ?_⟩) ?_ ?_
              rotate_left
              ·intro w'
               go_simp
               with_reducible rfl
              rotate_left
              ·simp only [Act.put, zA, zZ, zS, i64_w, i32_w]
               rfl
              refine pure_ (i := 17) (N := some 71) (v := ?_) (a' := ?_) mr18 rfl rfl (any_of HT_.out (by kernel_rfl)) (fun _ _ _ h => h) (Or.inl ⟨by rfl, ?_⟩) ?_ ?_
              rotate_left
              ·intro w'
               go_simp
               with_reducible rfl
              rotate_left
              ·simp only [Act.put, zA, zZ, zS, i64_w, i32_w]
               rfl
              refine pure_ (i := 18) (N := some 72) (v := ?_) (a' := ?_) mr19 rfl rfl (any_of HT_.out (by kernel_rfl)) (fun _ _ _ h => h) (Or.inl ⟨by rfl, ?_⟩) ?_ ?_
              rotate_left
              ·intro w'
               go_simp
               with_reducible rfl
              rotate_left
              ·simp only [Act.put, zA, zZ, zS, i64_w, i32_w]
               rfl
              refine pure_ (i := 20) (N := some 74) (v := ?_) (a' := ?_) mr20 rfl rfl (any_of HT_.out (by kernel_rfl)) (fun _ _ _ h => h) (Or.inl ⟨by rfl, ?_⟩) ?_ ?_
              rotate_left
              ·intro w'
               go_simp
               with_reducible rfl
              rotate_left
              ·simp only [Act.put, zA, zZ, zS, i64_w, i32_w]
               rfl
              refine take_ (i := 19) (N := some 73) (v := ?_) (a' := ?_) mr21 rfl rfl (take_ofW HT_.out HW_.out (by kernel_rfl)) (fun _ _ _ h => h) (Or.inl ⟨by rfl, ?_⟩) hHeld ?_ ?_
              rotate_left
              ·rintro w' ⟨s0, s1, s2, s3, s4, s5, s6⟩
               go_simp
               with_reducible rfl
              rotate_left
              ·simp only [Act.put, zA, zZ, zS, i64_w, i32_w]
               rfl
              refine take_ (i := 21) (N := some 75) (v := ?_) (a' := ?_) mr22 rfl rfl (take_ofW HT_.out HW_.out (by kernel_rfl)) (fun _ _ _ h => h) (Or.inl ⟨by rfl, ?_⟩) hHeld ?_ ?_
              rotate_left
              ·rintro w' ⟨s0, s1, s2, s3, s4, s5, s6⟩
               go_simp
               with_reducible rfl
              rotate_left
              ·simp only [Act.put, zA, zZ, zS, i64_w, i32_w]
               rfl
              refine pure_ (i := 22) (N := some 76) (v := ?_) (a' := ?_) mr23 rfl rfl (any_of HT_.out (by kernel_rfl)) (fun _ _ _ h => h) (Or.inl ⟨by rfl, ?_⟩) ?_ ?_
              rotate_left
              ·intro w'
               go_simp
               with_reducible rfl
              rotate_left
              ·simp only [Act.put, zA, zZ, zS, i64_w, i32_w]
               rfl
              refine pure_ (i := 23) (N := some 77) (v := ?_) (a' := ?_) mr24 rfl rfl (any_of HT_.out (by kernel_rfl)) (fun _ _ _ h => h) (Or.inl ⟨by rfl, ?_⟩) ?_ ?_
              rotate_left
              ·intro w'
               go_simp
               with_reducible rfl
              rotate_left
              ·simp only [Act.put, zA, zZ, zS, i64_w, i32_w]
               rfl
              refine pure_ (i := 24) (N := some 78) (v := ?_) (a' := ?_) mr25 rfl rfl (any_of HT_.out (by kernel_rfl)) (fun _ _ _ h => h) (Or.inl ⟨by rfl, ?_⟩) ?_ ?_
              rotate_left
              ·intro w'
               go_simp
               with_reducible rfl
              rotate_left
              ·simp only [Act.put, zA, zZ, zS, i64_w, i32_w]
               rfl
              refine pure_ (i := 25) (N := some 79) (v := ?_) (a' := ?_) mr26 rfl rfl (any_of HT_.out (by kernel_rfl)) (fun _ _ _ h => h) (Or.inl ⟨by rfl, ?_⟩) ?_ ?_
              rotate_left
              ·intro w'
               go_simp
               with_reducible rfl
              rotate_left
              ·simp only [Act.put, zA, zZ, zS, i64_w, i32_w]
               rfl
              refine pure_ (i := 26) (N := some 80) (v := ?_) (a' := ?_) mr27 rfl rfl (any_of HT_.out (by kernel_rfl)) (fun _ _ _ h => h) (Or.inl ⟨by rfl, ?_⟩) ?_ ?_
              rotate_left
              ·intro w'
               go_simp
               with_reducible rfl
              rotate_left
              ·simp only [Act.put, zA, zZ, zS, i64_w, i32_w]
               rfl
              refine pure_ (i := 27) (N := some 81) (v := ?_) (a' := ?_) mr28 rfl rfl (any_of HT_.out (by kernel_rfl)) (fun _ _ _ h => h) (Or.inl ⟨by rfl, ?_⟩) ?_ ?_
              rotate_left
              ·intro w'
               go_simp
               with_reducible rfl
              rotate_left
              ·simp only [Act.put, zA, zZ, zS, i64_w, i32_w]
               rfl
              refine pure_ (i := 28) (N := some 82) (v := ?_) (a' := ?_) mr29 rfl rfl (any_of HT_.out (by kernel_rfl)) (fun _ _ _ h => h) (Or.inl ⟨by rfl, ?_⟩) ?_ ?_
              rotate_left
              ·intro w'
               go_simp
               with_reducible rfl
              rotate_left
              ·simp only [Act.put, zA, zZ, zS, i64_w, i32_w]
               rfl
              refine pure_ (i := 29) (N := some 83) (v := undef) (a' := ?_) mr30 rfl rfl (any_of HT_.out (by kernel_rfl)) (fun _ _ _ h => h) (Or.inr ⟨by rfl, rfl⟩) ?_ ?_
              rotate_left
              ·simp only [Act.put, zA, zZ, zS, i64_w, i32_w]
               rfl
              refine pure_ (i := 30) (N := some 84) (v := undef) (a' := ?_) #[true, true, true, true, true, true, true, true, true, true, true, true, true, true, true, true, true, true, true, true, true, true, true, true, true, true, true, true, true, true, true, false, false, false, false, false, false, false, false, false, false] rfl rfl (any_of HT_.out (by kernel_rfl)) (fun _ _ _ h => h) (Or.inr ⟨by rfl, rfl⟩) ?_ ?_
              rotate_left
              ·simp only [Act.put, zA, zZ, zS, i64_w, i32_w]
               rfl
              refine pure_ (i := 31) (N := some 85) (v := undef) (a' := ?_) #[true, true, true, true, true, true, true, true, true, true, true, true, true, true, true, true, true, true, true, true, true, true, true, true, true, true, true, true, true, true, true, true, false, false, false, false, false, false, false, false, false] rfl rfl (any_of HT_.out (by kernel_rfl)) (fun _ _ _ h => h) (Or.inr ⟨by rfl, rfl⟩) ?_ ?_
              rotate_left
              ·simp only [Act.put, zA, zZ, zS, i64_w, i32_w]
               rfl
              refine pure_ (i := 32) (N := some 86) (v := undef) (a' := ?_) #[true, true, true, true, true, true, true, true, true, true, true, true, true, true, true, true, true, true, true, true, true, true, true, true, true, true, true, true, true, true, true, true, true, false, false, false, false, false, false, false, false] rfl rfl (any_of HT_.out (by kernel_rfl)) (fun _ _ _ h => h) (Or.inr ⟨by rfl, rfl⟩) ?_ ?_
              rotate_left
              ·simp only [Act.put, zA, zZ, zS, i64_w, i32_w]
               rfl
              refine pure_ (i := 33) (N := some 87) (v := undef) (a' := ?_) #[true, true, true, true, true, true, true, true, true, true, true, true, true, true, true, true, true, true, true, true, true, true, true, true, true, true, true, true, true, true, true, true, true, true, false, false, false, false, false, false, false] rfl rfl (any_of HT_.out (by kernel_rfl)) (fun _ _ _ h => h) (Or.inr ⟨by rfl, rfl⟩) ?_ ?_
              rotate_left
              ·simp only [Act.put, zA, zZ, zS, i64_w, i32_w]
               rfl
              refine pure_ (i := 34) (N := some 88) (v := undef) (a' := ?_) #[true, true, true, true, true, true, true, true, true, true, true, true, true, true, true, true, true, true, true, true, true, true, true, true, true, true, true, true, true, true, true, true, true, true, true, false, false, false, false, false, false] rfl rfl (any_of HT_.out (by kernel_rfl)) (fun _ _ _ h => h) (Or.inr ⟨by rfl, rfl⟩) ?_ ?_
              rotate_left
              ·simp only [Act.put, zA, zZ, zS, i64_w, i32_w]
               rfl
              refine pure_ (i := 35) (N := some 89) (v := undef) (a' := ?_) #[true, true, true, true, true, true, true, true, true, true, true, true, true, true, true, true, true, true, true, true, true, true, true, true, true, true, true, true, true, true, true, true, true, true, true, true, false, false, false, false, false] rfl rfl (any_of HT_.out (by kernel_rfl)) (fun _ _ _ h => h) (Or.inr ⟨by rfl, rfl⟩) ?_ ?_
              rotate_left
              ·simp only [Act.put, zA, zZ, zS, i64_w, i32_w]
               rfl
              refine pure_ (i := 36) (N := some 90) (v := undef) (a' := ?_) mr31 rfl rfl (any_of HT_.out (by kernel_rfl)) (fun _ _ _ h => h) (Or.inr ⟨by rfl, rfl⟩) ?_ ?_
              rotate_left
              ·simp only [Act.put, zA, zZ, zS, i64_w, i32_w]
               rfl
              refine pure_ (i := 37) (N := some 91) (v := undef) (a' := ?_) mr32 rfl rfl (any_of HT_.out (by kernel_rfl)) (fun _ _ _ h => h) (Or.inr ⟨by rfl, rfl⟩) ?_ ?_
              rotate_left
              ·simp only [Act.put, zA, zZ, zS, i64_w, i32_w]
               rfl
              refine pure_ (i := 38) (N := some 92) (v := undef) (a' := ?_) mr33 rfl rfl (any_of HT_.out (by kernel_rfl)) (fun _ _ _ h => h) (Or.inr ⟨by rfl, rfl⟩) ?_ ?_
              rotate_left
              ·simp only [Act.put, zA, zZ, zS, i64_w, i32_w]
               rfl
              refine pure_ (i := 39) (N := some 93) (v := ?_) (a' := ?_) mr34 rfl rfl (any_of HT_.out (by kernel_rfl)) (fun _ _ _ h => h) (Or.inl ⟨by rfl, ?_⟩) ?_ ?_
              rotate_left
              ·intro w'
               go_simp
               with_reducible rfl
              rotate_left
              ·simp only [Act.put, zA, zZ, zS, i64_w, i32_w]
               rfl
              refine pure_ (i := 40) (N := some 94) (v := ?_) (a' := ?_) mr35 rfl rfl (any_of HT_.out (by kernel_rfl)) (fun _ _ _ h => h) (Or.inl ⟨by rfl, ?_⟩) ?_ ?_
              rotate_left
              ·intro w'
               go_simp
               with_reducible rfl
              rotate_left
              ·simp only [Act.put, zA, zZ, zS, i64_w, i32_w]
               rfl
              refine done_ (done_of HT_.out (by kernel_rfl)) ?_
              try go_wp2
              go_roundg k2
              case measure => have := HJ1.out; have := HK2.out; omega
              case rel => exact ⟨(wrap64 (x49_2 + 1)), rfl, H', ⟨by have := HJ1.out; have := HK2.out; omega⟩, ⟨by exact BK422.out⟩, ⟨by repeat (first | (with_reducible first | exact HB.out | apply zL | apply zN | apply zD | refine zJ ?_ GE422.out | refine zJ ?_ GE426.out) | exact HB.out)⟩⟩
          ·rw [if_neg c34] at H
           have c34b0 : (((rd_T42 l0_3 x49_2).f0) == a0_0) = false := beq_eq_false_iff_ne.mpr c34
           have c34b1 : (((rd_T42 l0_3 x49_2).f0) != a0_0) = true := bne_iff_ne.mpr c34
           exact absurd ((Option.some.inj H).trans HRT.out) (by decide)
         ·replace c33 := Bool.eq_false_iff.mpr c33
          subst c33
          have H1 : (some false) = some r := by rw [if_neg (show ¬ (false = true) by decide)] at H; exact H
          clear H
          have H := H1
          clear H1
          exact absurd ((Option.some.inj H).trans HRT.out) (by decide)
        ·rw [if_neg c31] at H
         exact absurd H (by simp)
       ·rw [if_neg c30] at H
        exact absurd H (by simp)
      ·rw [if_neg c29] at H
       have c29b0 : decide (x49_2 < (l0_3.length : Int)) = false := decide_eq_false c29
       clear c29
       obtain rfl := Option.some.inj H
       go_wp2
       go_ret
       exact ⟨rfl, by repeat (first | (with_reducible first | exact HB.out | apply zL | apply zN | apply zD | refine zJ ?_ GE422.out) | exact HB.out)⟩

end Go.Proofs.Ytldpaoaiapedjaa.Q
