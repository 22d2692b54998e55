/- What Go functions of this seat come to, as plain Lean functions, and the proof that each call does so, in whatever memory; its conditions stand in each theorem. Written by a program of this session (wip/gen), out of the print of the loaded translation. -/
import Derived.Test.YtldpaoaiapedjaaQ0
import Derived.Test.YtldpaoaiapedjaaQ5
import Derived.Test.YtldpaoaiapedjaaQ16
import Derived.Test.YtldpaoaiapedjaaE
namespace Go.Proofs.Ytldpaoaiapedjaa.Q
open Go.RowKit Go.Proofs.YtldpaoaiapedjaaW.PrintWords Go.Proofs.YtldpaoaiapedjaaW.PrintLast Go.Proofs.YtldpaoaiapedjaaW.PrintMore
attribute [local go_sem] max2_int min2_int max_two min_two max_three min_three max_four min_four   -- for this text's walks alone
set_option linter.unusedVariables false
set_option linter.unusedSimpArgs false
-- shrunk
def mq170 : Array Bool := #[false, false, false, false, false, false, false, false, false, false, false, false, false, false, false, false, false, false, false, false, false, false, false, false, false, false, false, false, false, false, false, false, false, false, false, false, false, false, false, false, false]
def mq171 : Array Bool := #[true, false, false, false, false, false, false, false, false, false, false, false, false, false, false, false, false, false, false, false, false, false, false, false, false, false, false, false, false, false, false, false, false, false, false, false, false, false, false, false, false]
def mq172 : Array Bool := #[true, true, false, false, false, false, false, false, false, false, false, false, false, false, false, false, false, false, false, false, false, false, false, false, false, false, false, false, false, false, false, false, false, false, false, false, false, false, false, false, false]
def mq173 : Array Bool := #[true, true, true, false, false, false, false, false, false, false, false, false, false, false, false, false, false, false, false, false, false, false, false, false, false, false, false, false, false, false, false, false, false, false, false, false, false, false, false, false, false]
def mq174 : Array Bool := #[true, true, true, true, false, false, false, false, false, false, false, false, false, false, false, false, false, false, false, false, false, false, false, false, false, false, false, false, false, false, false, false, false, false, false, false, false, false, false, false, false]
def mq175 : Array Bool := #[true, true, true, true, true, false, false, false, false, false, false, false, false, false, false, false, false, false, false, false, false, false, false, false, false, false, false, false, false, false, false, false, false, false, false, false, false, false, false, false, false]
def mq176 : Array Bool := #[true, true, true, true, true, false, true, false, false, false, false, false, false, false, false, false, false, false, false, false, false, false, false, false, false, false, false, false, false, false, false, false, false, false, false, false, false, false, false, false, false]
def mq177 : Array Bool := #[true, true, true, true, true, true, true, false, false, false, false, false, false, false, false, false, false, false, false, false, false, false, false, false, false, false, false, false, false, false, false, false, false, false, false, false, false, false, false, false, false]
def mq178 : Array Bool := #[true, true, true, true, true, true, true, true, false, false, false, false, false, false, false, false, false, false, false, false, false, false, false, false, false, false, false, false, false, false, false, false, false, false, false, false, false, false, false, false, false]
def mq179 : Array Bool := #[true, true, true, true, true, true, true, true, true, false, false, false, false, false, false, false, false, false, false, false, false, false, false, false, false, false, false, false, false, false, false, false, false, false, false, false, false, false, false, false, false]
def mq1710 : Array Bool := #[true, true, true, true, true, true, true, true, true, true, false, false, false, false, false, false, false, false, false, false, false, false, false, false, false, false, false, false, false, false, false, false, false, false, false, false, false, false, false, false, false]
def mq1711 : Array Bool := #[true, true, true, true, true, true, true, true, true, true, true, false, false, false, false, false, false, false, false, false, false, false, false, false, false, false, false, false, false, false, false, false, false, false, false, false, false, false, false, false, false]
def mq1712 : Array Bool := #[true, true, true, true, true, true, true, true, true, true, true, true, false, false, false, false, false, false, false, false, false, false, false, false, false, false, false, false, false, false, false, false, false, false, false, false, false, false, false, false, false]
def mq1713 : Array Bool := #[true, true, true, true, true, true, true, true, true, true, true, true, false, true, false, false, false, false, false, false, false, false, false, false, false, false, false, false, false, false, false, false, false, false, false, false, false, false, false, false, false]
def mq1714 : Array Bool := #[true, true, true, true, true, true, true, true, true, true, true, true, true, true, false, false, false, false, false, false, false, false, false, false, false, false, false, false, false, false, false, false, false, false, false, false, false, false, false, false, false]
def mq1715 : Array Bool := #[true, true, true, true, true, true, true, true, true, true, true, true, true, true, true, false, false, false, false, false, false, false, false, false, false, false, false, false, false, false, false, false, false, false, false, false, false, false, false, false, false]
def mq1716 : Array Bool := #[true, true, true, true, true, true, true, true, true, true, true, true, true, true, true, true, false, false, false, false, false, false, false, false, false, false, false, false, false, false, false, false, false, false, false, false, false, false, false, false, false]
def mq1717 : Array Bool := #[true, true, true, true, true, true, true, true, true, true, true, true, true, true, true, true, true, false, false, false, false, false, false, false, false, false, false, false, false, false, false, false, false, false, false, false, false, false, false, false, false]
def mq1718 : Array Bool := #[true, true, true, true, true, true, true, true, true, true, true, true, true, true, true, true, true, true, false, false, false, false, false, false, false, false, false, false, false, false, false, false, false, false, false, false, false, false, false, false, false]
def mq1719 : Array Bool := #[true, true, true, true, true, true, true, true, true, true, true, true, true, true, true, true, true, true, true, false, false, false, false, false, false, false, false, false, false, false, false, false, false, false, false, false, false, false, false, false, false]
def mq1720 : Array Bool := #[true, true, true, true, true, true, true, true, true, true, true, true, true, true, true, true, true, true, true, true, false, false, false, false, false, false, false, false, false, false, false, false, false, false, false, false, false, false, false, false, false]
def mq1721 : Array Bool := #[true, true, true, true, true, true, true, true, true, true, true, true, true, true, true, true, true, true, true, true, true, false, false, false, false, false, false, false, false, false, false, false, false, false, false, false, false, false, false, false, false]
def mq1722 : Array Bool := #[true, true, true, true, true, true, true, true, true, true, true, true, true, true, true, true, true, true, true, true, true, true, false, false, false, false, false, false, false, false, false, false, false, false, false, false, false, false, false, false, false]
def mq1723 : Array Bool := #[true, true, true, true, true, true, true, true, true, true, true, true, true, true, true, true, true, true, true, true, true, true, true, false, false, false, false, false, false, false, false, false, false, false, false, false, false, false, false, false, false]
def mq1724 : Array Bool := #[true, true, true, true, true, true, true, true, true, true, true, true, true, true, true, true, true, true, true, true, true, true, true, true, false, false, false, false, false, false, false, false, false, false, false, false, false, false, false, false, false]
def mq1725 : Array Bool := #[true, true, true, true, true, true, true, true, true, true, true, true, true, true, true, true, true, true, true, true, true, true, true, true, true, false, false, false, false, false, false, false, false, false, false, false, false, false, false, false, false]
def mq1726 : Array Bool := #[true, true, true, true, true, true, true, true, true, true, true, true, true, true, true, true, true, true, true, true, true, true, true, true, true, true, false, false, false, false, false, false, false, false, false, false, false, false, false, false, false]
def mq1727 : Array Bool := #[true, true, true, true, true, true, true, true, true, true, true, true, true, true, true, true, true, true, true, true, true, true, true, true, true, true, true, false, false, false, false, false, false, false, false, false, false, false, false, false, false]
def mq1728 : Array Bool := #[true, true, true, true, true, true, true, true, true, true, true, true, true, true, true, true, true, true, true, true, true, true, true, true, true, true, true, true, false, false, false, false, false, false, false, false, false, false, false, false, false]
def mq1729 : Array Bool := #[true, true, true, true, true, true, true, true, true, true, true, true, true, true, true, true, true, true, true, true, true, true, true, true, true, true, true, true, true, false, false, false, false, false, false, false, false, false, false, false, false]
def mq1730 : Array Bool := #[true, true, true, true, true, true, true, true, true, true, true, true, true, true, true, true, true, true, true, true, true, true, true, true, true, true, true, true, true, true, false, false, false, false, false, false, false, false, false, false, false]
def mq1731 : Array Bool := #[true, true, true, true, true, true, true, true, true, true, true, true, true, true, true, true, true, true, true, true, true, true, true, true, true, true, true, true, true, true, true, false, false, false, false, false, false, false, false, false, false]
def mq1732 : Array Bool := #[true, true, true, true, true, true, true, true, true, true, true, true, true, true, true, true, true, true, true, true, true, true, true, true, true, true, true, true, true, true, true, true, false, false, false, false, false, false, false, false, false]
def mq1733 : Array Bool := #[true, true, true, true, true, true, true, true, true, true, true, true, true, true, true, true, true, true, true, true, true, true, true, true, true, true, true, true, true, true, true, true, true, false, false, false, false, false, false, false, false]
def mq1734 : Array Bool := #[true, true, true, true, true, true, true, true, true, true, true, true, true, true, true, true, true, true, true, true, true, true, true, true, true, true, true, true, true, true, true, true, true, true, false, false, false, false, false, false, false]
def mq1735 : Array Bool := #[true, true, true, true, true, true, true, true, true, true, true, true, true, true, true, true, true, true, true, true, true, true, true, true, true, true, true, true, true, true, true, true, true, true, true, false, false, false, false, false, false]
def mq1736 : Array Bool := #[true, true, true, true, true, true, true, true, true, true, true, true, true, true, true, true, true, true, true, true, true, true, true, true, true, true, true, true, true, true, true, true, true, true, true, true, false, false, false, false, false]
def mq1737 : Array Bool := #[true, true, true, true, true, true, true, true, true, true, true, true, true, true, true, true, true, true, true, true, true, true, true, true, true, true, true, true, true, true, true, true, true, true, true, true, true, false, false, false, false]
def mq1738 : Array Bool := #[true, true, true, true, true, true, true, true, true, true, true, true, true, true, true, true, true, true, true, true, true, true, true, true, true, true, true, true, true, true, true, true, true, true, true, true, true, true, false, false, false]
def mq1739 : Array Bool := #[true, true, true, true, true, true, true, true, true, true, true, true, true, true, true, true, true, true, true, true, true, true, true, true, true, true, true, true, true, true, true, true, true, true, true, true, true, true, true, false, false]
def mq1740 : Array Bool := #[true, true, true, true, true, true, true, true, true, true, true, true, true, true, true, true, true, true, true, true, true, true, true, true, true, true, true, true, true, true, true, true, true, true, true, true, true, true, true, true, false]
def mq1741 : Array Bool := #[true, true, true, true, true, true, true, true, true, true, true, true, true, true, true, true, true, true, true, true, true, true, true, true, true, true, true, true, true, true, true, true, true, true, true, true, true, true, true, true, true]
def mq1742 : Array Bool := #[true, true, true, true, true, true, true, true, true, true, true, true, true, true, true, true, true, true, true, false, true, false, false, false, false, false, false, false, false, false, false, false, false, false, false, false, false, false, false, false, false]
def mq1743 : Array Bool := #[true, true, true, true, true, true, true, true, true, true, true, true, true, true, true, true, true, true, true, true, true, true, true, true, true, true, true, true, true, true, false, true, false, false, false, false, false, false, false, false, false]
def mq1744 : Array Bool := #[true, true, true, true, true, true, true, true, true, true, true, true, true, true, true, true, true, true, true, true, true, true, true, true, true, true, true, true, true, true, false, true, true, false, false, false, false, false, false, false, false]
def mq1745 : Array Bool := #[true, true, true, true, true, true, true, true, true, true, true, true, true, true, true, true, true, true, true, true, true, true, true, true, true, true, true, true, true, true, false, true, true, false, false, false, true, false, false, false, false]
def mq1746 : Array Bool := #[true, true, true, true, true, true, true, true, true, true, true, true, true, true, true, true, true, true, true, true, true, true, true, true, true, true, true, true, true, true, true, true, true, false, false, false, true, false, false, false, false]
def mq1747 : Array Bool := #[true, true, true, true, true, true, true, true, true, true, true, true, true, true, true, true, true, true, true, true, true, true, true, true, true, true, true, true, true, true, true, true, true, true, false, false, true, false, false, false, false]
def mq1748 : Array Bool := #[true, true, true, true, true, true, true, true, true, true, true, true, true, true, true, true, true, true, true, true, true, true, true, true, true, true, true, true, true, true, true, true, true, true, true, false, true, false, false, false, false]
def mq1749 : Array Bool := #[true, true, true, true, true, true, true, true, true, true, true, true, true, false, false, false, false, false, false, false, false, false, false, false, false, false, false, false, false, false, false, false, false, false, false, false, false, false, false, false, false]

/-! ### lane_Right: function 25 -/
mutual
def lane_Right.j0 : Nat → Bool → Int → Int → List ByteArray → List (S42) → Option (Bool)
 | 0, _, _, _, _, _ => none
 | k + 1, x45, x423000, x423001, x423002, x423003 => if x45 = true then (some false) else (lane_Right.l0 k x423003 (x423003.length : Int) 0 x423000 x423001 x423002 x423003)
def lane_Right.l0 : Nat → List (S42) → Int → Int → Int → Int → List ByteArray → List (S42) → Option (Bool)
 | 0, _, _, _, _, _, _, _ => none
 | k + 1, x47, x48, x49, x423000, x423001, x423002, x423003 => if x49 < x48 then (if 0 ≤ x49 then (if x49 < (x47.length : Int) then ((batch_May.f k ((rd_T42 x47 x49).f0) ((rd_T42 x47 x49).f1) ((rd_T42 x47 x49).f2)).bind fun t427 => (if t427 = true then (if ((rd_T42 x47 x49).f0) = x423000 then (if ((rd_T42 x47 x49).f1) ≥ x423001 then (some false) else (if ((rd_T42 x47 x49).f1) < (wrap64 (x423001 - 8)) then (some false) else (if x49 > 0 then (if 0 ≤ (wrap64 (x49 - 1)) then (if (wrap64 (x49 - 1)) < (x423003.length : Int) then (if ((rd_T42 x423003 (wrap64 (x49 - 1))).f1) ≥ ((rd_T42 x47 x49).f1) then (some false) else (lane_Right.l0 k x47 x48 (wrap64 (x49 + 1)) x423000 x423001 x423002 x423003)) else (none)) else (none)) else (lane_Right.l0 k x47 x48 (wrap64 (x49 + 1)) x423000 x423001 x423002 x423003)))) else (some false)) else (some false))) else (none)) else (none)) else (some true)
end
def lane_Right.f (k : Nat) (a0_0 : Int) (a0_1 : Int) (l0_2 : List ByteArray) (l0_3 : List (S42)) : Option (Bool) := if a0_0 < 1 then (lane_Right.j0 k true a0_0 a0_1 l0_2 l0_3) else (if a0_0 > 64 then (lane_Right.j0 k true a0_0 a0_1 l0_2 l0_3) else (if a0_1 < 1 then (lane_Right.j0 k true a0_0 a0_1 l0_2 l0_3) else (if a0_1 > 1073741825 then (lane_Right.j0 k true a0_0 a0_1 l0_2 l0_3) else (if (l0_2.length : Int) > 4 then (lane_Right.j0 k true a0_0 a0_1 l0_2 l0_3) else ((contS.f l0_2).bind fun t423 => (if t423 = true then (lane_Right.j0 k true a0_0 a0_1 l0_2 l0_3) else (if (l0_2.length : Int) = 4 then ((lane_left.f a0_0 a0_1 l0_2 l0_3).bind fun t424 => (lane_Right.j0 k t424 a0_0 a0_1 l0_2 l0_3)) else (lane_Right.j0 k false a0_0 a0_1 l0_2 l0_3))))))))
theorem lane_Right.mono_l : ∀ k, (∀ y0 y1 y2 y3 y4, LeO (lane_Right.j0 k y0 y1 y2 y3 y4) (lane_Right.j0 (k + 1) y0 y1 y2 y3 y4)) ∧ (∀ y0 y1 y2 y3 y4 y5 y6, LeO (lane_Right.l0 k y0 y1 y2 y3 y4 y5 y6) (lane_Right.l0 (k + 1) y0 y1 y2 y3 y4 y5 y6))
 | 0 => ⟨fun _ _ _ _ _ r h => by simp [lane_Right.j0] at h, fun _ _ _ _ _ _ _ r h => by simp [lane_Right.l0] at h⟩
 | k + 1 => by
  obtain ⟨ih0, ih1⟩ := lane_Right.mono_l k
  refine ⟨?_, ?_⟩
  ·intro y0 y1 y2 y3 y4
   unfold lane_Right.j0
   repeat' first
   | (with_reducible exact ih0 _ _ _ _ _)
   | (with_reducible exact ih1 _ _ _ _ _ _ _)
   | (with_reducible exact batch_May.mono _ _ _ _)
   | (with_reducible exact LeO.refl _)
   | (with_reducible exact LeO.none _)
   | (with_reducible refine LeO.ite ?_ ?_)
   | (with_reducible refine LeO.bind ?_ (fun _ => ?_))
   | exact ih0 _ _ _ _ _
   | exact ih1 _ _ _ _ _ _ _
   | exact batch_May.mono _ _ _ _
   | exact LeO.none _
   | refine LeO.ite ?_ ?_
   | refine LeO.bind ?_ (fun _ => ?_)
  ·intro y0 y1 y2 y3 y4 y5 y6
   unfold lane_Right.l0
   repeat' first
   | (with_reducible exact ih0 _ _ _ _ _)
   | (with_reducible exact ih1 _ _ _ _ _ _ _)
   | (with_reducible exact batch_May.mono _ _ _ _)
   | (with_reducible exact LeO.refl _)
   | (with_reducible exact LeO.none _)
   | (with_reducible refine LeO.ite ?_ ?_)
   | (with_reducible refine LeO.bind ?_ (fun _ => ?_))
   | exact ih0 _ _ _ _ _
   | exact ih1 _ _ _ _ _ _ _
   | exact batch_May.mono _ _ _ _
   | exact LeO.none _
   | refine LeO.ite ?_ ?_
   | refine LeO.bind ?_ (fun _ => ?_)
theorem lane_Right.mono : ∀ a0 a1 a2 a3 k, LeO (lane_Right.f k a0 a1 a2 a3) (lane_Right.f (k + 1) a0 a1 a2 a3) := by
 intro a0 a1 a2 a3 k
 obtain ⟨ih0, ih1⟩ := lane_Right.mono_l k
 unfold lane_Right.f
 repeat' first
   | (with_reducible exact ih0 _ _ _ _ _)
   | (with_reducible exact ih1 _ _ _ _ _ _ _)
   | (with_reducible exact batch_May.mono _ _ _ _)
   | (with_reducible exact LeO.refl _)
   | (with_reducible exact LeO.none _)
   | (with_reducible refine LeO.ite ?_ ?_)
   | (with_reducible refine LeO.bind ?_ (fun _ => ?_))
   | exact ih0 _ _ _ _ _
   | exact ih1 _ _ _ _ _ _ _
   | exact batch_May.mono _ _ _ _
   | exact LeO.none _
   | refine LeO.ite ?_ ?_
   | refine LeO.bind ?_ (fun _ => ?_)
def lane_Right.T7 : Bool × List (List Nat × List Nat) := (true, [([], []), ([0], [0]), ([1], [1]), ([2, 1], [2]), ([3], [3]), ([4, 3], [3, 4]), ([3], [3]), ([6, 3], [3, 6]), ([5, 7, 3], [3, 5, 7]), ([3, 8], [3, 8]), ([9, 3], [9]), ([10], [10]), ([11, 10], [10, 11]), ([10], [10]), ([13, 10], [10, 13]), ([12, 14, 10], [10, 12, 14]), ([10, 15], [10, 15]), ([16, 10], [16]), ([17], [17]), ([18, 17], [17, 18]), ([17], [17]), ([20, 17], [17, 20]), ([21, 17], [17, 21]), ([19, 22, 17], [17, 19, 22]), ([17, 23], [17, 23]), ([24, 17], [24]), ([25], [25]), ([26, 25], [25, 26]), ([27, 25, 25], [25, 27]), ([28], [28]), ([29, 28], [28, 29]), ([28], [28]), ([31, 28], [28, 31]), ([30, 32, 28], [28, 30, 32]), ([33, 28], [28, 33]), ([34, 28], [28, 34]), ([28], [28]), ([36, 28], [28, 36]), ([35, 37, 28], [28, 35, 37]), ([28, 38, 25], [25, 28, 38]), ([25, 39], [25, 39])])
def lane_Right.B7 : List Nat := [0, 1, 3, 7, 15, 31, 15, 79, 255, 511, 1023, 2047, 4095, 2047, 10239, 32767, 65535, 131071, 262143, 524287, 262143, 1310719, 3407871, 8388607, 16777215, 33554431, 67108863, 134217727, 268435455, 536870911, 1073741823, 536870911, 2684354559, 8589934591, 17179869183, 34359738367, 536870911, 69256347647, 274877906943, 549755813887, 1099511627775]
theorem lane_Right.tab7 : rtab .any (opsOf Try.f25 7) = lane_Right.T7 := by kernel_rfl
theorem lane_Right.bits7 : waitsOk lane_Right.T7.2 lane_Right.B7 = true := by kernel_rfl
set_option maxHeartbeats 8000000 in
set_option maxRecDepth 100000 in
theorem lane_Right.calls (k : Nat) (a0_0 : Int) (a0_1 : Int) (A0_2 : Option Addr) (c0_2 : Nat) (l0_2 : List ByteArray) (A0_3 : Option Addr) (c0_3 : Nat) (l0_3 : List (S42)) (r : Bool) (w : World) (hr0_2 : Kd.C Kd.string w A0_2 l0_2.length l0_2) (hc0_2 : l0_2.length ≤ c0_2) (hr0_3 : Kd.C k42 w A0_3 l0_3.length l0_3) (hc0_3 : l0_3.length ≤ c0_3) (h : lane_Right.f k a0_0 a0_1 l0_2 l0_3 = some r) :
  Calls Try.prog 25 #[.agg #[.int .i64 a0_0, .int .i64 a0_1, .slice A0_2 l0_2.length c0_2, .slice A0_3 l0_3.length c0_3]] w fun e w' => e = .returned (.bool r) ∧ Below w.heap.size w w' := by
 have hu25 := Try.underlying25
 have hu42 := Try.underlying42
 have HR0_2 := zM hr0_2
 have HC0_2 := zM hc0_2
 clear hr0_2 hc0_2
 have HR0_3 := zM hr0_3
 have HC0_3 := zM hc0_3
 clear hr0_3 hc0_3
 have HB := zM (Below.refl w.heap.size w)
 have H : (if a0_0 < 1 then (lane_Right.j0 k true a0_0 a0_1 l0_2 l0_3) else (if a0_0 > 64 then (lane_Right.j0 k true a0_0 a0_1 l0_2 l0_3) else (if a0_1 < 1 then (lane_Right.j0 k true a0_0 a0_1 l0_2 l0_3) else (if a0_1 > 1073741825 then (lane_Right.j0 k true a0_0 a0_1 l0_2 l0_3) else (if (l0_2.length : Int) > 4 then (lane_Right.j0 k true a0_0 a0_1 l0_2 l0_3) else ((contS.f l0_2).bind fun t423 => (if t423 = true then (lane_Right.j0 k true a0_0 a0_1 l0_2 l0_3) else (if (l0_2.length : Int) = 4 then ((lane_left.f a0_0 a0_1 l0_2 l0_3).bind fun t424 => (lane_Right.j0 k t424 a0_0 a0_1 l0_2 l0_3)) else (lane_Right.j0 k false a0_0 a0_1 l0_2 l0_3))))))))) = some r := h
 clear h
 have HC2 := zM H
 clear H
 go_enter Try.func25, Try.ntmps25
 go_upto_region 2 with (first | ((with_reducible refine gate_dst (N := 1) rfl ?_); (try (refine gate_guard (by rfl) ?_; dsimp only)); refine box_event ?hg (N := 1) ?hd (cs := #[.int .i64 a0_0, .int .i64 a0_1, .slice A0_2 l0_2.length c0_2, .slice A0_3 l0_3.length c0_3]) (t := 25) ?hr ?_; (case hd => rfl); (case hg => rfl); (case hr => go_simp); intro gb422 hg w3 hbox hb; have n0_ := zM (zp HB.out hb); have n1_ := zM (hbox); have n2_ := zM ((by rw [hg]; exact (zs HB.out) : w.heap.size ≤ gb422)); have n3_ := zM ((by rw [hg]; exact (zs HB.out) : w.heap.size ≤ gb422)); clear HB; have HB := n0_; have BK422 := n1_; have GW422 := n2_; have GE422 := n3_; clear n0_ n1_ n2_ n3_; clear hb hbox hg))
 (try simp only [Act.put, zA, zZ, zS])
 go_cut [45] (fun v45 wc => ∃ (kq : Nat) (x45_1 : Bool), v45 = .bool x45_1 ∧ Aside0 (lane_Right.j0 kq x45_1 a0_0 a0_1 l0_2 l0_3 = some r) ∧ Aside0 (kq ≤ k) ∧ Aside0 (wc.heap[gb422]? = some (.cells #[.int .i64 a0_0, .int .i64 a0_1, (.slice A0_2 l0_2.length c0_2), (.slice A0_3 l0_3.length c0_3)] 25 (0, 0))) ∧ Aside0 (Below w.heap.size w wc))
 case first =>
  have H := HC2.out
  clear HC2
  by_cases c4 : a0_0 < 1
  ·rw [if_pos c4] at H
   have c4b0 : decide (a0_0 < 1) = true := decide_eq_true c4
   clear c4
   (first | rw [c4b0] | (simp only [i64_w, i32_w]; rw [c4b0]) | skip)
   have H' := zM H
   clear H
   have hcz5_0 : w3.cell? ⟨gb422, 0, none⟩ = some (.int .i64 a0_0) := (zc BK422.out 0).trans rfl
   have hcz5_1 : w3.cell? ⟨gb422, 1, none⟩ = some (.int .i64 a0_1) := (zc BK422.out 1).trans rfl
   have hcz5_2 : w3.cell? ⟨gb422, 2, none⟩ = some (.slice A0_2 l0_2.length c0_2) := (zc BK422.out 2).trans rfl
   have hcz5_3 : w3.cell? ⟨gb422, 3, none⟩ = some (.slice A0_3 l0_3.length c0_3) := (zc BK422.out 3).trans rfl
   have hfz5_0 := zf BK422.out 0
   have hfz5_1 := zf BK422.out 1
   have hfz5_2 := zf BK422.out 2
   have hfz5_3 := zf BK422.out 3
   go_wp2
   go_meet
   case rel => exact ⟨_, (true), rfl, H', ⟨by first | omega | exact Nat.le_refl _⟩, ⟨by exact BK422.out⟩, ⟨by repeat (first | (with_reducible first | exact HB.out | apply zL | apply zN | apply zD | refine zJ ?_ GE422.out) | exact HB.out)⟩⟩
  ·rw [if_neg c4] at H
   have c4b0 : decide (a0_0 < 1) = false := decide_eq_false c4
   clear c4
   (first | rw [c4b0] | (simp only [i64_w, i32_w]; rw [c4b0]) | skip)
   by_cases c6 : a0_0 > 64
   ·rw [if_pos c6] at H
    have c6b0 : decide (64 < a0_0) = true := decide_eq_true c6
    clear c6
    have H' := zM H
    clear H
    have hcz7_0 : w3.cell? ⟨gb422, 0, none⟩ = some (.int .i64 a0_0) := (zc BK422.out 0).trans rfl
    have hcz7_1 : w3.cell? ⟨gb422, 1, none⟩ = some (.int .i64 a0_1) := (zc BK422.out 1).trans rfl
    have hcz7_2 : w3.cell? ⟨gb422, 2, none⟩ = some (.slice A0_2 l0_2.length c0_2) := (zc BK422.out 2).trans rfl
    have hcz7_3 : w3.cell? ⟨gb422, 3, none⟩ = some (.slice A0_3 l0_3.length c0_3) := (zc BK422.out 3).trans rfl
    have hfz7_0 := zf BK422.out 0
    have hfz7_1 := zf BK422.out 1
    have hfz7_2 := zf BK422.out 2
    have hfz7_3 := zf BK422.out 3
    go_wp2
    go_meet
    case rel => exact ⟨_, (true), rfl, H', ⟨by first | omega | exact Nat.le_refl _⟩, ⟨by exact BK422.out⟩, ⟨by repeat (first | (with_reducible first | exact HB.out | apply zL | apply zN | apply zD | refine zJ ?_ GE422.out) | exact HB.out)⟩⟩
   ·rw [if_neg c6] at H
    have c6b0 : decide (64 < a0_0) = false := decide_eq_false c6
    clear c6
    by_cases c8 : a0_1 < 1
    ·rw [if_pos c8] at H
     have c8b0 : decide (a0_1 < 1) = true := decide_eq_true c8
     clear c8
     have H' := zM H
     clear H
     have hcz9_0 : w3.cell? ⟨gb422, 0, none⟩ = some (.int .i64 a0_0) := (zc BK422.out 0).trans rfl
     have hcz9_1 : w3.cell? ⟨gb422, 1, none⟩ = some (.int .i64 a0_1) := (zc BK422.out 1).trans rfl
     have hcz9_2 : w3.cell? ⟨gb422, 2, none⟩ = some (.slice A0_2 l0_2.length c0_2) := (zc BK422.out 2).trans rfl
     have hcz9_3 : w3.cell? ⟨gb422, 3, none⟩ = some (.slice A0_3 l0_3.length c0_3) := (zc BK422.out 3).trans rfl
     have hfz9_0 := zf BK422.out 0
     have hfz9_1 := zf BK422.out 1
     have hfz9_2 := zf BK422.out 2
     have hfz9_3 := zf BK422.out 3
     go_wp2
     go_meet
     case rel => exact ⟨_, (true), rfl, H', ⟨by first | omega | exact Nat.le_refl _⟩, ⟨by exact BK422.out⟩, ⟨by repeat (first | (with_reducible first | exact HB.out | apply zL | apply zN | apply zD | refine zJ ?_ GE422.out) | exact HB.out)⟩⟩
    ·rw [if_neg c8] at H
     have c8b0 : decide (a0_1 < 1) = false := decide_eq_false c8
     clear c8
     by_cases c10 : a0_1 > 1073741825
     ·rw [if_pos c10] at H
      have c10b0 : decide (1073741825 < a0_1) = true := decide_eq_true c10
      clear c10
      have H' := zM H
      clear H
      have hcz11_0 : w3.cell? ⟨gb422, 0, none⟩ = some (.int .i64 a0_0) := (zc BK422.out 0).trans rfl
      have hcz11_1 : w3.cell? ⟨gb422, 1, none⟩ = some (.int .i64 a0_1) := (zc BK422.out 1).trans rfl
      have hcz11_2 : w3.cell? ⟨gb422, 2, none⟩ = some (.slice A0_2 l0_2.length c0_2) := (zc BK422.out 2).trans rfl
      have hcz11_3 : w3.cell? ⟨gb422, 3, none⟩ = some (.slice A0_3 l0_3.length c0_3) := (zc BK422.out 3).trans rfl
      have hfz11_0 := zf BK422.out 0
      have hfz11_1 := zf BK422.out 1
      have hfz11_2 := zf BK422.out 2
      have hfz11_3 := zf BK422.out 3
      go_wp2
      go_meet
      case rel => exact ⟨_, (true), rfl, H', ⟨by first | omega | exact Nat.le_refl _⟩, ⟨by exact BK422.out⟩, ⟨by repeat (first | (with_reducible first | exact HB.out | apply zL | apply zN | apply zD | refine zJ ?_ GE422.out) | exact HB.out)⟩⟩
     ·rw [if_neg c10] at H
      have c10b0 : decide (1073741825 < a0_1) = false := decide_eq_false c10
      clear c10
      by_cases c12 : (l0_2.length : Int) > 4
      ·rw [if_pos c12] at H
       have c12b0 : decide (4 < (l0_2.length : Int)) = true := decide_eq_true c12
       have c12b1 : decide (4 < l0_2.length) = true := decide_eq_true (by omega)
       clear c12
       have H' := zM H
       clear H
       have hcz13_0 : w3.cell? ⟨gb422, 0, none⟩ = some (.int .i64 a0_0) := (zc BK422.out 0).trans rfl
       have hcz13_1 : w3.cell? ⟨gb422, 1, none⟩ = some (.int .i64 a0_1) := (zc BK422.out 1).trans rfl
       have hcz13_2 : w3.cell? ⟨gb422, 2, none⟩ = some (.slice A0_2 l0_2.length c0_2) := (zc BK422.out 2).trans rfl
       have hcz13_3 : w3.cell? ⟨gb422, 3, none⟩ = some (.slice A0_3 l0_3.length c0_3) := (zc BK422.out 3).trans rfl
       have hfz13_0 := zf BK422.out 0
       have hfz13_1 := zf BK422.out 1
       have hfz13_2 := zf BK422.out 2
       have hfz13_3 := zf BK422.out 3
       go_wp2
       go_meet
       case rel => exact ⟨_, (true), rfl, H', ⟨by first | omega | exact Nat.le_refl _⟩, ⟨by exact BK422.out⟩, ⟨by repeat (first | (with_reducible first | exact HB.out | apply zL | apply zN | apply zD | refine zJ ?_ GE422.out) | exact HB.out)⟩⟩
      ·rw [if_neg c12] at H
       have c12b0 : decide (4 < (l0_2.length : Int)) = false := decide_eq_false c12
       have c12b1 : decide (4 < l0_2.length) = false := decide_eq_false (by omega)
       clear c12
       replace H := Option.bind_eq_some_iff.mp H
       obtain ⟨t423, A140, H⟩ := H
       replace H : (if t423 = true then (lane_Right.j0 k true a0_0 a0_1 l0_2 l0_3) else (if (l0_2.length : Int) = 4 then ((lane_left.f a0_0 a0_1 l0_2 l0_3).bind fun t424 => (lane_Right.j0 k t424 a0_0 a0_1 l0_2 l0_3)) else (lane_Right.j0 k false a0_0 a0_1 l0_2 l0_3))) = some r := H
       have A14 := zM A140
       clear A140
       by_cases c15 : t423 = true
       ·subst c15
        have H1 : (lane_Right.j0 k true a0_0 a0_1 l0_2 l0_3) = some r := by rw [if_pos rfl] at H; exact H
        clear H
        have H := H1
        clear H1
        have H' := zM H
        clear H
        have hcz16_0 : w3.cell? ⟨gb422, 0, none⟩ = some (.int .i64 a0_0) := (zc BK422.out 0).trans rfl
        have hcz16_1 : w3.cell? ⟨gb422, 1, none⟩ = some (.int .i64 a0_1) := (zc BK422.out 1).trans rfl
        have hcz16_2 : w3.cell? ⟨gb422, 2, none⟩ = some (.slice A0_2 l0_2.length c0_2) := (zc BK422.out 2).trans rfl
        have hcz16_3 : w3.cell? ⟨gb422, 3, none⟩ = some (.slice A0_3 l0_3.length c0_3) := (zc BK422.out 3).trans rfl
        have hfz16_0 := zf BK422.out 0
        have hfz16_1 := zf BK422.out 1
        have hfz16_2 := zf BK422.out 2
        have hfz16_3 := zf BK422.out 3
        go_wp2_with (first | (go_at_call 38; (with_reducible refine (contS.calls _ _ l0_2 true _ ?side1 ?side2 A14.out).mono ?_); (case side1 => exact (zcb HR0_2.out HB.out)); (case side2 => exact HC0_2.out); rintro e w17 ⟨rfl, hb⟩; have n0_ := zM (zb (g := gb422) (o := .cells #[.int .i64 a0_0, .int .i64 a0_1, .slice A0_2 l0_2.length c0_2, .slice A0_3 l0_3.length c0_3] 25 (0, 0)) (by exact BK422.out) hb); have n1_ := zM (zp HB.out hb); clear BK422; clear HB; have BK422 := n0_; have HB := n1_; clear n0_ n1_))
        go_meet
        case rel => exact ⟨_, (true), rfl, H', ⟨by first | omega | exact Nat.le_refl _⟩, ⟨by exact BK422.out⟩, ⟨by repeat (first | (with_reducible first | exact HB.out | apply zL | apply zN | apply zD | refine zJ ?_ GE422.out) | exact HB.out)⟩⟩
       ·replace c15 := Bool.eq_false_iff.mpr c15
        subst c15
        have H1 : (if (l0_2.length : Int) = 4 then ((lane_left.f a0_0 a0_1 l0_2 l0_3).bind fun t424 => (lane_Right.j0 k t424 a0_0 a0_1 l0_2 l0_3)) else (lane_Right.j0 k false a0_0 a0_1 l0_2 l0_3)) = some r := by rw [if_neg (show ¬ (false = true) by decide)] at H; exact H
        clear H
        have H := H1
        clear H1
        by_cases c18 : (l0_2.length : Int) = 4
        ·rw [if_pos c18] at H
         have c18b0 : ((l0_2.length : Int) == 4) = true := beq_iff_eq.mpr c18
         have c18b1 : ((l0_2.length : Int) != 4) = false := bne_eq_false_iff_eq.mpr c18
         clear c18
         replace H := Option.bind_eq_some_iff.mp H
         obtain ⟨t424, A190, H⟩ := H
         replace H : (lane_Right.j0 k t424 a0_0 a0_1 l0_2 l0_3) = some r := H
         have A19 := zM A190
         clear A190
         have H' := zM H
         clear H
         have hcz20_0 : w3.cell? ⟨gb422, 0, none⟩ = some (.int .i64 a0_0) := (zc BK422.out 0).trans rfl
         have hcz20_1 : w3.cell? ⟨gb422, 1, none⟩ = some (.int .i64 a0_1) := (zc BK422.out 1).trans rfl
         have hcz20_2 : w3.cell? ⟨gb422, 2, none⟩ = some (.slice A0_2 l0_2.length c0_2) := (zc BK422.out 2).trans rfl
         have hcz20_3 : w3.cell? ⟨gb422, 3, none⟩ = some (.slice A0_3 l0_3.length c0_3) := (zc BK422.out 3).trans rfl
         have hfz20_0 := zf BK422.out 0
         have hfz20_1 := zf BK422.out 1
         have hfz20_2 := zf BK422.out 2
         have hfz20_3 := zf BK422.out 3
         go_wp2_with (first | (go_at_call 38; (with_reducible refine (contS.calls _ _ l0_2 false _ ?side1 ?side2 A14.out).mono ?_); (case side1 => exact (zcb HR0_2.out HB.out)); (case side2 => exact HC0_2.out); rintro e w21 ⟨rfl, hb⟩; have n0_ := zM (zb (g := gb422) (o := .cells #[.int .i64 a0_0, .int .i64 a0_1, .slice A0_2 l0_2.length c0_2, .slice A0_3 l0_3.length c0_3] 25 (0, 0)) (by exact BK422.out) hb); have n1_ := zM (zp HB.out hb); clear BK422; clear HB; have BK422 := n0_; have HB := n1_; clear n0_ n1_; have hcz22_0 : w21.cell? ⟨gb422, 0, none⟩ = some (.int .i64 a0_0) := (zc BK422.out 0).trans rfl; have hcz22_1 : w21.cell? ⟨gb422, 1, none⟩ = some (.int .i64 a0_1) := (zc BK422.out 1).trans rfl; have hcz22_2 : w21.cell? ⟨gb422, 2, none⟩ = some (.slice A0_2 l0_2.length c0_2) := (zc BK422.out 2).trans rfl; have hcz22_3 : w21.cell? ⟨gb422, 3, none⟩ = some (.slice A0_3 l0_3.length c0_3) := (zc BK422.out 3).trans rfl; have hfz22_0 := zf BK422.out 0; have hfz22_1 := zf BK422.out 1; have hfz22_2 := zf BK422.out 2; have hfz22_3 := zf BK422.out 3) | (go_at_call 34; (with_reducible refine (lane_left.calls a0_0 a0_1 _ _ l0_2 _ _ l0_3 t424 _ ?side1 ?side2 ?side3 ?side4 A19.out).mono ?_); (case side1 => exact (zcb HR0_2.out HB.out)); (case side2 => exact HC0_2.out); (case side3 => exact (zcb HR0_3.out HB.out)); (case side4 => exact HC0_3.out); rintro e w23 ⟨rfl, hb⟩; have n0_ := zM (zb (g := gb422) (o := .cells #[.int .i64 a0_0, .int .i64 a0_1, .slice A0_2 l0_2.length c0_2, .slice A0_3 l0_3.length c0_3] 25 (0, 0)) (by exact BK422.out) hb); have n1_ := zM (zp HB.out hb); clear BK422; clear HB; have BK422 := n0_; have HB := n1_; clear n0_ n1_))
         go_meet
         case rel => exact ⟨_, (t424), rfl, H', ⟨by first | omega | exact Nat.le_refl _⟩, ⟨by exact BK422.out⟩, ⟨by repeat (first | (with_reducible first | exact HB.out | apply zL | apply zN | apply zD | refine zJ ?_ GE422.out) | exact HB.out)⟩⟩
        ·rw [if_neg c18] at H
         have c18b0 : ((l0_2.length : Int) == 4) = false := beq_eq_false_iff_ne.mpr c18
         have c18b1 : ((l0_2.length : Int) != 4) = true := bne_iff_ne.mpr c18
         have H' := zM H
         clear H
         have hcz24_0 : w3.cell? ⟨gb422, 0, none⟩ = some (.int .i64 a0_0) := (zc BK422.out 0).trans rfl
         have hcz24_1 : w3.cell? ⟨gb422, 1, none⟩ = some (.int .i64 a0_1) := (zc BK422.out 1).trans rfl
         have hcz24_2 : w3.cell? ⟨gb422, 2, none⟩ = some (.slice A0_2 l0_2.length c0_2) := (zc BK422.out 2).trans rfl
         have hcz24_3 : w3.cell? ⟨gb422, 3, none⟩ = some (.slice A0_3 l0_3.length c0_3) := (zc BK422.out 3).trans rfl
         have hfz24_0 := zf BK422.out 0
         have hfz24_1 := zf BK422.out 1
         have hfz24_2 := zf BK422.out 2
         have hfz24_3 := zf BK422.out 3
         go_wp2_with (first | (go_at_call 38; (with_reducible refine (contS.calls _ _ l0_2 false _ ?side1 ?side2 A14.out).mono ?_); (case side1 => exact (zcb HR0_2.out HB.out)); (case side2 => exact HC0_2.out); rintro e w25 ⟨rfl, hb⟩; have n0_ := zM (zb (g := gb422) (o := .cells #[.int .i64 a0_0, .int .i64 a0_1, .slice A0_2 l0_2.length c0_2, .slice A0_3 l0_3.length c0_3] 25 (0, 0)) (by exact BK422.out) hb); have n1_ := zM (zp HB.out hb); clear BK422; clear HB; have BK422 := n0_; have HB := n1_; clear n0_ n1_; have hcz26_0 : w25.cell? ⟨gb422, 0, none⟩ = some (.int .i64 a0_0) := (zc BK422.out 0).trans rfl; have hcz26_1 : w25.cell? ⟨gb422, 1, none⟩ = some (.int .i64 a0_1) := (zc BK422.out 1).trans rfl; have hcz26_2 : w25.cell? ⟨gb422, 2, none⟩ = some (.slice A0_2 l0_2.length c0_2) := (zc BK422.out 2).trans rfl; have hcz26_3 : w25.cell? ⟨gb422, 3, none⟩ = some (.slice A0_3 l0_3.length c0_3) := (zc BK422.out 3).trans rfl; have hfz26_0 := zf BK422.out 0; have hfz26_1 := zf BK422.out 1; have hfz26_2 := zf BK422.out 2; have hfz26_3 := zf BK422.out 3))
         go_meet
         case rel => exact ⟨_, (false), rfl, H', ⟨by first | omega | exact Nat.le_refl _⟩, ⟨by exact BK422.out⟩, ⟨by repeat (first | (with_reducible first | exact HB.out | apply zL | apply zN | apply zD | refine zJ ?_ GE422.out) | exact HB.out)⟩⟩
 case rest =>
  clear HC2
  obtain ⟨kq, x45_1, rfl, HA, HJ1, BK422, HB⟩ := hcut
  cases kq with
  | zero => exact absurd HA.out (by simp [lane_Right.j0])
  | succ kj1 =>
   have H := HA.out
   clear HA
   simp only [lane_Right.j0] at H
   by_cases c27 : x45_1 = true
   ·subst c27
    have H1 : (some false) = some r := by rw [if_pos rfl] at H; exact H
    clear H
    have H := H1
    clear H1
    obtain rfl := Option.some.inj H
    go_wp2
    go_ret
    exact ⟨rfl, by repeat (first | (with_reducible first | exact HB.out | apply zL | apply zN | apply zD | refine zJ ?_ GE422.out) | exact HB.out)⟩
   ·replace c27 := Bool.eq_false_iff.mpr c27
    subst c27
    have H1 : (lane_Right.l0 kj1 l0_3 (l0_3.length : Int) 0 a0_0 a0_1 l0_2 l0_3) = some r := by rw [if_neg (show ¬ (false = true) by decide)] at H; exact H
    clear H
    have H := H1
    clear H1
    have H' := zM H
    clear H
    have hcz28_0 : wc.cell? ⟨gb422, 0, none⟩ = some (.int .i64 a0_0) := (zc BK422.out 0).trans rfl
    have hcz28_1 : wc.cell? ⟨gb422, 1, none⟩ = some (.int .i64 a0_1) := (zc BK422.out 1).trans rfl
    have hcz28_2 : wc.cell? ⟨gb422, 2, none⟩ = some (.slice A0_2 l0_2.length c0_2) := (zc BK422.out 2).trans rfl
    have hcz28_3 : wc.cell? ⟨gb422, 3, none⟩ = some (.slice A0_3 l0_3.length c0_3) := (zc BK422.out 3).trans rfl
    have hfz28_0 := zf BK422.out 0
    have hfz28_1 := zf BK422.out 1
    have hfz28_2 := zf BK422.out 2
    have hfz28_3 := zf BK422.out 3
    go_wp2
    go_loopg [49] kj1 (fun kq v49 w' => ∃ (x49_2 : Int), v49 = .int .i64 x49_2 ∧ Aside0 (lane_Right.l0 kq l0_3 (l0_3.length : Int) x49_2 a0_0 a0_1 l0_2 l0_3 = some r) ∧ Aside0 (kq ≤ kj1) ∧ Aside0 (w'.heap[gb422]? = some (.cells #[.int .i64 a0_0, .int .i64 a0_1, (.slice A0_2 l0_2.length c0_2), (.slice A0_3 l0_3.length c0_3)] 25 (0, 0))) ∧ Aside0 (Below w.heap.size w w'))
    case atStart => exact ⟨(0), rfl, H', ⟨Nat.le_refl _⟩, ⟨by exact BK422.out⟩, ⟨by repeat (first | (with_reducible first | exact HB.out | apply zL | apply zN | apply zD | refine zJ ?_ GE422.out) | exact HB.out)⟩⟩
    case round =>
     clear H'
     obtain ⟨x49_2, rfl, HA, HK2, BK422, HB⟩ := hrel
     cases gk with
     | zero => exact absurd HA.out (by simp [lane_Right.l0])
     | succ k2 =>
      have H := HA.out
      clear HA
      simp only [lane_Right.l0] at H
      by_cases c29 : x49_2 < (l0_3.length : Int)
      ·rw [if_pos c29] at H
       have c29b0 : decide (x49_2 < (l0_3.length : Int)) = true := decide_eq_true c29
       clear c29
       by_cases c30 : 0 ≤ x49_2
       ·rw [if_pos c30] at H
        have c30b0 : decide (0 ≤ x49_2) = true := decide_eq_true c30
        clear c30
        by_cases c31 : x49_2 < (l0_3.length : Int)
        ·rw [if_pos c31] at H
         have c31b0 : decide (x49_2 < (l0_3.length : Int)) = true := decide_eq_true c31
         clear c31
         replace H := Option.bind_eq_some_iff.mp H
         obtain ⟨t427, A320, H⟩ := H
         replace H : (if t427 = true then (if ((rd_T42 l0_3 x49_2).f0) = a0_0 then (if ((rd_T42 l0_3 x49_2).f1) ≥ a0_1 then (some false) else (if ((rd_T42 l0_3 x49_2).f1) < (wrap64 (a0_1 - 8)) then (some false) else (if x49_2 > 0 then (if 0 ≤ (wrap64 (x49_2 - 1)) then (if (wrap64 (x49_2 - 1)) < (l0_3.length : Int) then (if ((rd_T42 l0_3 (wrap64 (x49_2 - 1))).f1) ≥ ((rd_T42 l0_3 x49_2).f1) then (some false) else (lane_Right.l0 k2 l0_3 (l0_3.length : Int) (wrap64 (x49_2 + 1)) a0_0 a0_1 l0_2 l0_3)) else (none)) else (none)) else (lane_Right.l0 k2 l0_3 (l0_3.length : Int) (wrap64 (x49_2 + 1)) a0_0 a0_1 l0_2 l0_3)))) else (some false)) else (some false)) = some r := H
         have A32 := zM A320
         clear A320
         by_cases c33 : t427 = true
         ·subst c33
          have H1 : (if ((rd_T42 l0_3 x49_2).f0) = a0_0 then (if ((rd_T42 l0_3 x49_2).f1) ≥ a0_1 then (some false) else (if ((rd_T42 l0_3 x49_2).f1) < (wrap64 (a0_1 - 8)) then (some false) else (if x49_2 > 0 then (if 0 ≤ (wrap64 (x49_2 - 1)) then (if (wrap64 (x49_2 - 1)) < (l0_3.length : Int) then (if ((rd_T42 l0_3 (wrap64 (x49_2 - 1))).f1) ≥ ((rd_T42 l0_3 x49_2).f1) then (some false) else (lane_Right.l0 k2 l0_3 (l0_3.length : Int) (wrap64 (x49_2 + 1)) a0_0 a0_1 l0_2 l0_3)) else (none)) else (none)) else (lane_Right.l0 k2 l0_3 (l0_3.length : Int) (wrap64 (x49_2 + 1)) a0_0 a0_1 l0_2 l0_3)))) else (some false)) = some r := by rw [if_pos rfl] at H; exact H
          clear H
          have H := H1
          clear H1
          by_cases c34 : ((rd_T42 l0_3 x49_2).f0) = a0_0
          ·rw [if_pos c34] at H
           have c34b0 : (((rd_T42 l0_3 x49_2).f0) == a0_0) = true := beq_iff_eq.mpr c34
           have c34b1 : (((rd_T42 l0_3 x49_2).f0) != a0_0) = false := bne_eq_false_iff_eq.mpr c34
           clear c34
           by_cases c35 : ((rd_T42 l0_3 x49_2).f1) ≥ a0_1
           ·rw [if_pos c35] at H
            have c35b0 : decide (a0_1 ≤ ((rd_T42 l0_3 x49_2).f1)) = true := decide_eq_true c35
            clear c35
            obtain rfl := Option.some.inj H
            have p425 : 0 ≤ (x49_2 : Int) := zo (by assumption)
            have q425 : x49_2 < (l0_3.length : Int) := zo (by assumption)
            obtain ⟨ad425, A425_2, c425_2, e425, hx425_0, hx425_1, hx425_2, hl425_2, hi425_2⟩ := at_T42 HR0_3.out x49_2 p425 q425
            cases e425
            replace hx425_0 := (HB.out.cell (zW w _ hx425_0)).trans hx425_0
            replace hx425_1 := (HB.out.cell (zW w _ hx425_1)).trans hx425_1
            replace hx425_2 := (HB.out.cell (zW w _ hx425_2)).trans hx425_2
            have HR425_2 := zM hi425_2
            have HC425_2 := zM hl425_2
            clear hi425_2 hl425_2
            replace p425 := eq_true p425
            replace q425 := eq_true q425
            try go_wp2_with (first | ((with_reducible refine gate_dst (N := 5) rfl ?_); (try (refine gate_guard (by rfl) ?_; dsimp only)); refine box_event ?hg (N := 5) ?hd (cs := #[.int .i64 0, .int .i64 0, .slice none 0 0]) (t := 42) ?hr ?_; (case hd => rfl); (case hg => rfl); (case hr => go_simp); intro gb426 hg w36 hbox hb; have n0_ := zM (zb (g := gb422) (o := .cells #[.int .i64 a0_0, .int .i64 a0_1, .slice A0_2 l0_2.length c0_2, .slice (some ad425) l0_3.length c0_3] 25 (0, 0)) (by exact BK422.out) hb); have n1_ := zM (zp HB.out hb); have n2_ := zM (hbox); have n3_ := zM ((by rw [hg]; exact (zs HB.out) : w.heap.size ≤ gb426)); have n4_ := zM ((by rw [hg]; exact (zs HB.out) : w.heap.size ≤ gb426)); have n5_ := zM ((by rw [hg]; exact zt (blk_lt (g := gb422) (o := .cells #[.int .i64 a0_0, .int .i64 a0_1, .slice A0_2 l0_2.length c0_2, .slice (some ad425) l0_3.length c0_3] 25 (0, 0)) (by exact BK422.out)) : gb422 ≠ gb426)); have n6_ := zM ((by rw [hg]; exact Nat.ne_of_gt (blk_lt (g := gb422) (o := .cells #[.int .i64 a0_0, .int .i64 a0_1, .slice A0_2 l0_2.length c0_2, .slice (some ad425) l0_3.length c0_3] 25 (0, 0)) (by exact BK422.out)) : gb426 ≠ gb422)); clear BK422; clear HB; have BK422 := n0_; have HB := n1_; have BK426 := n2_; have GW426 := n3_; have GE426 := n4_; have NB422_426 := n5_; have NB426_422 := n6_; clear n0_ n1_ n2_ n3_ n4_ n5_ n6_; clear hb hbox hg; have hnb37 := NB426_422.out; have hnc37 := NB422_426.out; have hcz38_0 : w36.cell? ⟨gb426, 0, none⟩ = some (.int .i64 0) := (zc BK426.out 0).trans rfl; have hcz38_1 : w36.cell? ⟨gb426, 1, none⟩ = some (.int .i64 0) := (zc BK426.out 1).trans rfl; have hcz38_2 : w36.cell? ⟨gb426, 2, none⟩ = some (.slice none 0 0) := (zc BK426.out 2).trans rfl; have hfz38_0 := zf BK426.out 0; have hfz38_1 := zf BK426.out 1; have hfz38_2 := zf BK426.out 2))
            have n0_ : Aside0 ((((w36.setCell ⟨gb426, 0, none⟩ (.int .i64 ((rd_T42 l0_3 x49_2).f0))).setCell ⟨gb426, 1, none⟩ (.int .i64 ((rd_T42 l0_3 x49_2).f1))).setCell ⟨gb426, 2, none⟩ (.slice A425_2 ((rd_T42 l0_3 x49_2).f2).length c425_2)).heap[gb422]? = some (.cells #[.int .i64 a0_0, .int .i64 a0_1, .slice A0_2 l0_2.length c0_2, .slice (some ad425) l0_3.length c0_3] 25 (0, 0))) := ⟨by refine zF ?_ NB422_426.out _; refine zF ?_ NB422_426.out _; refine zF ?_ NB422_426.out _; exact BK422.out⟩
            have n1_ : Aside0 ((((w36.setCell ⟨gb426, 0, none⟩ (.int .i64 ((rd_T42 l0_3 x49_2).f0))).setCell ⟨gb426, 1, none⟩ (.int .i64 ((rd_T42 l0_3 x49_2).f1))).setCell ⟨gb426, 2, none⟩ (.slice A425_2 ((rd_T42 l0_3 x49_2).f2).length c425_2)).heap[gb426]? = some (.cells #[.int .i64 ((rd_T42 l0_3 x49_2).f0), .int .i64 ((rd_T42 l0_3 x49_2).f1), .slice A425_2 ((rd_T42 l0_3 x49_2).f2).length c425_2] 42 (0, 0))) := ⟨by refine zP (cs := #[.int .i64 ((rd_T42 l0_3 x49_2).f0), .int .i64 ((rd_T42 l0_3 x49_2).f1), .slice none 0 0]) ?_ 2 _ rfl; refine zP (cs := #[.int .i64 ((rd_T42 l0_3 x49_2).f0), .int .i64 0, .slice none 0 0]) ?_ 1 _ rfl; refine zP (cs := #[.int .i64 0, .int .i64 0, .slice none 0 0]) ?_ 0 _ rfl; exact BK426.out⟩
            have n2_ : Aside0 (Below w.heap.size w (((w36.setCell ⟨gb426, 0, none⟩ (.int .i64 ((rd_T42 l0_3 x49_2).f0))).setCell ⟨gb426, 1, none⟩ (.int .i64 ((rd_T42 l0_3 x49_2).f1))).setCell ⟨gb426, 2, none⟩ (.slice A425_2 ((rd_T42 l0_3 x49_2).f2).length c425_2))) := ⟨by repeat (first | (with_reducible first | exact HB.out | apply zL | apply zN | apply zD | refine zJ ?_ GE422.out | refine zJ ?_ GE426.out) | exact HB.out)⟩
            (try clear BK422)
            (try clear BK426)
            (try clear HB)
            generalize (((w36.setCell ⟨gb426, 0, none⟩ (.int .i64 ((rd_T42 l0_3 x49_2).f0))).setCell ⟨gb426, 1, none⟩ (.int .i64 ((rd_T42 l0_3 x49_2).f1))).setCell ⟨gb426, 2, none⟩ (.slice A425_2 ((rd_T42 l0_3 x49_2).f2).length c425_2)) = w39 at n0_ n1_ n2_ ⊢
            have BK422 := n0_
            have BK426 := n1_
            have HB := n2_
            clear n0_ n1_ n2_
            have n0_ := zM (zd BK422.out)
            have n1_ := zM (zd BK426.out)
            have n2_ := zM (zD HB.out)
            clear BK422
            clear BK426
            clear HB
            have BK422 := n0_
            have BK426 := n1_
            have HB := n2_
            clear n0_ n1_ n2_
            refine start_ (n := 41) (S := fun w' => w'.cell? ⟨gb426, 0, none⟩ = some (.int .i64 ((rd_T42 l0_3 x49_2).f0)) ∧ w'.cell? ⟨gb426, 1, none⟩ = some (.int .i64 ((rd_T42 l0_3 x49_2).f1)) ∧ w'.cell? ⟨gb426, 2, none⟩ = some (.slice A425_2 ((rd_T42 l0_3 x49_2).f2).length c425_2) ∧ w'.cell? ⟨gb422, 0, none⟩ = some (.int .i64 a0_0) ∧ w'.cell? ⟨gb422, 1, none⟩ = some (.int .i64 a0_1) ∧ w'.cell? ⟨gb422, 2, none⟩ = some (.slice A0_2 l0_2.length c0_2) ∧ w'.cell? ⟨gb422, 3, none⟩ = some (.slice (some ad425) l0_3.length c0_3)) (ds := []) mq170 (by kernel_rfl) rfl rfl ⟨(zc BK426.out 0).trans rfl, (zc BK426.out 1).trans rfl, (zc BK426.out 2).trans rfl, (zc BK422.out 0).trans rfl, (zc BK422.out 1).trans rfl, (zc BK422.out 2).trans rfl, (zc BK422.out 3).trans rfl⟩ (fun hHeld => ?_); refine with_tabW lane_Right.tab7 lane_Right.bits7 (fun HT_ HW_ => ?_)
            generalize w39.drew = w40 at BK422 BK426 HB hHeld ⊢
            refine take_ (i := 0) (N := some 54) (v := ?_) (a' := ?_) mq171 rfl rfl (take_ofW HT_.out HW_.out (by kernel_rfl)) (fun _ _ _ h => h) (Or.inl ⟨by rfl, ?_⟩) hHeld ?_ ?_
            rotate_left
            ·rintro w' ⟨s0, s1, s2, s3, s4, s5, s6⟩
             go_simp
             with_reducible rfl
            rotate_left
            ·simp only [Act.put, zA, zZ, zS, i64_w, i32_w]
             rfl
            refine one_ (i := 1) (N := some 55) mq172 rfl rfl (one_of HT_.out (by kernel_rfl)) (by decide) (fun K hK => ?_)
            refine goes_ Try.func39 (by kernel_rfl) rfl #[.agg #[.int .i64 ((rd_T42 l0_3 x49_2).f0), .int .i64 ((rd_T42 l0_3 x49_2).f1), .slice A425_2 ((rd_T42 l0_3 x49_2).f2).length c425_2]] (by rfl) rfl rfl (by (try simp only [List.map_toArray, List.map_cons, List.map_nil]); first | done | rfl) ?_
            with_reducible refine (batch_May.calls k2 ((rd_T42 l0_3 x49_2).f0) ((rd_T42 l0_3 x49_2).f1) _ _ ((rd_T42 l0_3 x49_2).f2) true _ ?side1 ?side2 A32.out).mono ?_
            (case side1 => exact (zcb HR425_2.out HB.out))
            (case side2 => exact HC425_2.out)
            rintro e w41 ⟨rfl, hb⟩
            refine ⟨_, rfl, ?_⟩
            have n0_ := zM (zb (g := gb422) (o := .cells #[.int .i64 a0_0, .int .i64 a0_1, .slice A0_2 l0_2.length c0_2, .slice (some ad425) l0_3.length c0_3] 25 (0, 0)) (by exact BK422.out) hb)
            have n1_ := zM (zb (g := gb426) (o := .cells #[.int .i64 ((rd_T42 l0_3 x49_2).f0), .int .i64 ((rd_T42 l0_3 x49_2).f1), .slice A425_2 ((rd_T42 l0_3 x49_2).f2).length c425_2] 42 (0, 0)) (by exact BK426.out) hb)
            have n2_ := zM (zp HB.out hb)
            clear BK422
            clear BK426
            clear HB
            have BK422 := n0_
            have BK426 := n1_
            have HB := n2_
            clear n0_ n1_ n2_
            (try clear hb)
            (try clear hb2)
            (try clear hk)
            (try clear hi)
            refine hK.out _ _ ⟨(zc BK426.out 0).trans rfl, (zc BK426.out 1).trans rfl, (zc BK426.out 2).trans rfl, (zc BK422.out 0).trans rfl, (zc BK422.out 1).trans rfl, (zc BK422.out 2).trans rfl, (zc BK422.out 3).trans rfl⟩ (fun hHeld => ?_)
            clear hK K
            refine norm_ (a' := ?_) ?_ ?_
            rotate_left
            ·show Act.put _ (some 55) _ = _
             simp only [Act.put, zA, zZ, zS, i64_w, i32_w]
             rfl
            refine pure_ (i := 2) (N := some 56) (v := ?_) (a' := ?_) mq173 rfl rfl (any_of HT_.out (by kernel_rfl)) (fun _ _ _ h => h) (Or.inl ⟨by rfl, ?_⟩) ?_ ?_
            rotate_left
            ·intro w'
             go_simp
             with_reducible rfl
            rotate_left
            ·simp only [Act.put, zA, zZ, zS, i64_w, i32_w]
             rfl
            refine pure_ (i := 3) (N := some 57) (v := ?_) (a' := ?_) mq174 rfl rfl (any_of HT_.out (by kernel_rfl)) (fun _ _ _ h => h) (Or.inl ⟨by rfl, ?_⟩) ?_ ?_
            rotate_left
            ·intro w'
             go_simp
             with_reducible rfl
            rotate_left
            ·simp only [Act.put, zA, zZ, zS, i64_w, i32_w]
             rfl
            refine pure_ (i := 4) (N := some 58) (v := ?_) (a' := ?_) mq175 rfl rfl (any_of HT_.out (by kernel_rfl)) (fun _ _ _ h => h) (Or.inl ⟨by rfl, ?_⟩) ?_ ?_
            rotate_left
            ·intro w'
             go_simp
             with_reducible rfl
            rotate_left
            ·simp only [Act.put, zA, zZ, zS, i64_w, i32_w]
             rfl
            refine pure_ (i := 6) (N := some 60) (v := ?_) (a' := ?_) mq176 rfl rfl (any_of HT_.out (by kernel_rfl)) (fun _ _ _ h => h) (Or.inl ⟨by rfl, ?_⟩) ?_ ?_
            rotate_left
            ·intro w'
             go_simp
             with_reducible rfl
            rotate_left
            ·simp only [Act.put, zA, zZ, zS, i64_w, i32_w]
             rfl
            refine take_ (i := 5) (N := some 59) (v := ?_) (a' := ?_) mq177 rfl rfl (take_ofW HT_.out HW_.out (by kernel_rfl)) (fun _ _ _ h => h) (Or.inl ⟨by rfl, ?_⟩) hHeld ?_ ?_
            rotate_left
            ·rintro w' ⟨s0, s1, s2, s3, s4, s5, s6⟩
             go_simp
             with_reducible rfl
            rotate_left
            ·simp only [Act.put, zA, zZ, zS, i64_w, i32_w]
             rfl
            refine take_ (i := 7) (N := some 61) (v := ?_) (a' := ?_) mq178 rfl rfl (take_ofW HT_.out HW_.out (by kernel_rfl)) (fun _ _ _ h => h) (Or.inl ⟨by rfl, ?_⟩) hHeld ?_ ?_
            rotate_left
            ·rintro w' ⟨s0, s1, s2, s3, s4, s5, s6⟩
             go_simp
             with_reducible rfl
            rotate_left
            ·simp only [Act.put, zA, zZ, zS, i64_w, i32_w]
             rfl
            refine pure_ (i := 8) (N := some 62) (v := ?_) (a' := ?_) mq179 rfl rfl (any_of HT_.out (by kernel_rfl)) (fun _ _ _ h => h) (Or.inl ⟨by rfl, ?_⟩) ?_ ?_
            rotate_left
            ·intro w'
             go_simp
             with_reducible rfl
            rotate_left
            ·simp only [Act.put, zA, zZ, zS, i64_w, i32_w]
             rfl
            refine pure_ (i := 9) (N := some 63) (v := ?_) (a' := ?_) mq1710 rfl rfl (any_of HT_.out (by kernel_rfl)) (fun _ _ _ h => h) (Or.inl ⟨by rfl, ?_⟩) ?_ ?_
            rotate_left
            ·intro w'
             go_simp
             with_reducible rfl
            rotate_left
            ·simp only [Act.put, zA, zZ, zS, i64_w, i32_w]
             rfl
            refine pure_ (i := 10) (N := some 64) (v := ?_) (a' := ?_) mq1711 rfl rfl (any_of HT_.out (by kernel_rfl)) (fun _ _ _ h => h) (Or.inl ⟨by rfl, ?_⟩) ?_ ?_
            rotate_left
            ·intro w'
             go_simp
             with_reducible rfl
            rotate_left
            ·simp only [Act.put, zA, zZ, zS, i64_w, i32_w]
             rfl
            refine pure_ (i := 11) (N := some 65) (v := ?_) (a' := ?_) mq1712 rfl rfl (any_of HT_.out (by kernel_rfl)) (fun _ _ _ h => h) (Or.inl ⟨by rfl, ?_⟩) ?_ ?_
            rotate_left
            ·intro w'
             go_simp
             with_reducible rfl
            rotate_left
            ·simp only [Act.put, zA, zZ, zS, i64_w, i32_w]
             rfl
            refine pure_ (i := 13) (N := some 67) (v := ?_) (a' := ?_) mq1713 rfl rfl (any_of HT_.out (by kernel_rfl)) (fun _ _ _ h => h) (Or.inl ⟨by rfl, ?_⟩) ?_ ?_
            rotate_left
            ·intro w'
             go_simp
             with_reducible rfl
            rotate_left
            ·simp only [Act.put, zA, zZ, zS, i64_w, i32_w]
             rfl
            refine take_ (i := 12) (N := some 66) (v := ?_) (a' := ?_) mq1714 rfl rfl (take_ofW HT_.out HW_.out (by kernel_rfl)) (fun _ _ _ h => h) (Or.inl ⟨by rfl, ?_⟩) hHeld ?_ ?_
            rotate_left
            ·rintro w' ⟨s0, s1, s2, s3, s4, s5, s6⟩
             go_simp
             with_reducible rfl
            rotate_left
            ·simp only [Act.put, zA, zZ, zS, i64_w, i32_w]
             rfl
            refine take_ (i := 14) (N := some 68) (v := ?_) (a' := ?_) mq1715 rfl rfl (take_ofW HT_.out HW_.out (by kernel_rfl)) (fun _ _ _ h => h) (Or.inl ⟨by rfl, ?_⟩) hHeld ?_ ?_
            rotate_left
            ·rintro w' ⟨s0, s1, s2, s3, s4, s5, s6⟩
             go_simp
             with_reducible rfl
            rotate_left
            ·simp only [Act.put, zA, zZ, zS, i64_w, i32_w]
             rfl
            refine pure_ (i := 15) (N := some 69) (v := ?_) (a' := ?_) mq1716 rfl rfl (any_of HT_.out (by kernel_rfl)) (fun _ _ _ h => h) (Or.inl ⟨by rfl, ?_⟩) ?_ ?_
            rotate_left
            ·intro w'
             go_simp
             with_reducible rfl
            rotate_left
            ·simp only [Act.put, zA, zZ, zS, i64_w, i32_w]
             rfl
            refine pure_ (i := 16) (N := some 70) (v := ?_) (a' := ?_) mq1717 rfl rfl (any_of HT_.out (by kernel_rfl)) (fun _ _ _ h => h) (Or.inl ⟨by rfl, ?_⟩) ?_ ?_
            rotate_left
            ·intro w'
             go_simp
             with_reducible rfl
            rotate_left
            ·simp only [Act.put, zA, zZ, zS, i64_w, i32_w]
             rfl
            refine pure_ (i := 17) (N := some 71) (v := ?_) (a' := ?_) mq1718 rfl rfl (any_of HT_.out (by kernel_rfl)) (fun _ _ _ h => h) (Or.inl ⟨by rfl, ?_⟩) ?_ ?_
            rotate_left
            ·intro w'
             go_simp
             with_reducible rfl
            rotate_left
            ·simp only [Act.put, zA, zZ, zS, i64_w, i32_w]
             rfl
            refine pure_ (i := 18) (N := some 72) (v := undef) (a' := ?_) mq1719 rfl rfl (any_of HT_.out (by kernel_rfl)) (fun _ _ _ h => h) (Or.inr ⟨by rfl, rfl⟩) ?_ ?_
            rotate_left
            ·simp only [Act.put, zA, zZ, zS, i64_w, i32_w]
             rfl
            refine pure_ (i := 19) (N := some 73) (v := undef) (a' := ?_) mq1720 rfl rfl (any_of HT_.out (by kernel_rfl)) (fun _ _ _ h => h) (Or.inr ⟨by rfl, rfl⟩) ?_ ?_
            rotate_left
            ·simp only [Act.put, zA, zZ, zS, i64_w, i32_w]
             rfl
            refine pure_ (i := 20) (N := some 74) (v := undef) (a' := ?_) mq1721 rfl rfl (any_of HT_.out (by kernel_rfl)) (fun _ _ _ h => h) (Or.inr ⟨by rfl, rfl⟩) ?_ ?_
            rotate_left
            ·simp only [Act.put, zA, zZ, zS, i64_w, i32_w]
             rfl
            refine pure_ (i := 21) (N := some 75) (v := undef) (a' := ?_) mq1722 rfl rfl (any_of HT_.out (by kernel_rfl)) (fun _ _ _ h => h) (Or.inr ⟨by rfl, rfl⟩) ?_ ?_
            rotate_left
            ·simp only [Act.put, zA, zZ, zS, i64_w, i32_w]
             rfl
            refine pure_ (i := 22) (N := some 76) (v := undef) (a' := ?_) mq1723 rfl rfl (any_of HT_.out (by kernel_rfl)) (fun _ _ _ h => h) (Or.inr ⟨by rfl, rfl⟩) ?_ ?_
            rotate_left
            ·simp only [Act.put, zA, zZ, zS, i64_w, i32_w]
             rfl
            refine pure_ (i := 23) (N := some 77) (v := undef) (a' := ?_) mq1724 rfl rfl (any_of HT_.out (by kernel_rfl)) (fun _ _ _ h => h) (Or.inr ⟨by rfl, rfl⟩) ?_ ?_
            rotate_left
            ·simp only [Act.put, zA, zZ, zS, i64_w, i32_w]
             rfl
            refine pure_ (i := 24) (N := some 78) (v := ?_) (a' := ?_) mq1725 rfl rfl (any_of HT_.out (by kernel_rfl)) (fun _ _ _ h => h) (Or.inl ⟨by rfl, ?_⟩) ?_ ?_
            rotate_left
            ·intro w'
             go_simp
             with_reducible rfl
            rotate_left
            ·simp only [Act.put, zA, zZ, zS, i64_w, i32_w]
             rfl
            refine pure_ (i := 25) (N := some 79) (v := ?_) (a' := ?_) mq1726 rfl rfl (any_of HT_.out (by kernel_rfl)) (fun _ _ _ h => h) (Or.inl ⟨by rfl, ?_⟩) ?_ ?_
            rotate_left
            ·intro w'
             go_simp
             with_reducible rfl
            rotate_left
            ·simp only [Act.put, zA, zZ, zS, i64_w, i32_w]
             rfl
            refine pure_ (i := 26) (N := some 80) (v := undef) (a' := ?_) mq1727 rfl rfl (any_of HT_.out (by kernel_rfl)) (fun _ _ _ h => h) (Or.inr ⟨by rfl, rfl⟩) ?_ ?_
            rotate_left
            ·simp only [Act.put, zA, zZ, zS, i64_w, i32_w]
             rfl
            refine pure_ (i := 27) (N := some 81) (v := undef) (a' := ?_) mq1728 rfl rfl (any_of HT_.out (by kernel_rfl)) (fun _ _ _ h => h) (Or.inr ⟨by rfl, rfl⟩) ?_ ?_
            rotate_left
            ·simp only [Act.put, zA, zZ, zS, i64_w, i32_w]
             rfl
            refine pure_ (i := 28) (N := some 82) (v := undef) (a' := ?_) mq1729 rfl rfl (any_of HT_.out (by kernel_rfl)) (fun _ _ _ h => h) (Or.inr ⟨by rfl, rfl⟩) ?_ ?_
            rotate_left
            ·simp only [Act.put, zA, zZ, zS, i64_w, i32_w]
             rfl
            refine pure_ (i := 29) (N := some 83) (v := undef) (a' := ?_) mq1730 rfl rfl (any_of HT_.out (by kernel_rfl)) (fun _ _ _ h => h) (Or.inr ⟨by rfl, rfl⟩) ?_ ?_
            rotate_left
            ·simp only [Act.put, zA, zZ, zS, i64_w, i32_w]
             rfl
            refine pure_ (i := 30) (N := some 84) (v := undef) (a' := ?_) mq1731 rfl rfl (any_of HT_.out (by kernel_rfl)) (fun _ _ _ h => h) (Or.inr ⟨by rfl, rfl⟩) ?_ ?_
            rotate_left
            ·simp only [Act.put, zA, zZ, zS, i64_w, i32_w]
             rfl
            refine pure_ (i := 31) (N := some 85) (v := undef) (a' := ?_) mq1732 rfl rfl (any_of HT_.out (by kernel_rfl)) (fun _ _ _ h => h) (Or.inr ⟨by rfl, rfl⟩) ?_ ?_
            rotate_left
            ·simp only [Act.put, zA, zZ, zS, i64_w, i32_w]
             rfl
            refine pure_ (i := 32) (N := some 86) (v := undef) (a' := ?_) mq1733 rfl rfl (any_of HT_.out (by kernel_rfl)) (fun _ _ _ h => h) (Or.inr ⟨by rfl, rfl⟩) ?_ ?_
            rotate_left
            ·simp only [Act.put, zA, zZ, zS, i64_w, i32_w]
             rfl
            refine pure_ (i := 33) (N := some 87) (v := undef) (a' := ?_) mq1734 rfl rfl (any_of HT_.out (by kernel_rfl)) (fun _ _ _ h => h) (Or.inr ⟨by rfl, rfl⟩) ?_ ?_
            rotate_left
            ·simp only [Act.put, zA, zZ, zS, i64_w, i32_w]
             rfl
            refine pure_ (i := 34) (N := some 88) (v := undef) (a' := ?_) mq1735 rfl rfl (any_of HT_.out (by kernel_rfl)) (fun _ _ _ h => h) (Or.inr ⟨by rfl, rfl⟩) ?_ ?_
            rotate_left
            ·simp only [Act.put, zA, zZ, zS, i64_w, i32_w]
             rfl
            refine pure_ (i := 35) (N := some 89) (v := undef) (a' := ?_) mq1736 rfl rfl (any_of HT_.out (by kernel_rfl)) (fun _ _ _ h => h) (Or.inr ⟨by rfl, rfl⟩) ?_ ?_
            rotate_left
            ·simp only [Act.put, zA, zZ, zS, i64_w, i32_w]
             rfl
            refine pure_ (i := 36) (N := some 90) (v := undef) (a' := ?_) mq1737 rfl rfl (any_of HT_.out (by kernel_rfl)) (fun _ _ _ h => h) (Or.inr ⟨by rfl, rfl⟩) ?_ ?_
            rotate_left
            ·simp only [Act.put, zA, zZ, zS, i64_w, i32_w]
             rfl
            refine pure_ (i := 37) (N := some 91) (v := undef) (a' := ?_) mq1738 rfl rfl (any_of HT_.out (by kernel_rfl)) (fun _ _ _ h => h) (Or.inr ⟨by rfl, rfl⟩) ?_ ?_
            rotate_left
            ·simp only [Act.put, zA, zZ, zS, i64_w, i32_w]
             rfl
            refine pure_ (i := 38) (N := some 92) (v := undef) (a' := ?_) mq1739 rfl rfl (any_of HT_.out (by kernel_rfl)) (fun _ _ _ h => h) (Or.inr ⟨by rfl, rfl⟩) ?_ ?_
            rotate_left
            ·simp only [Act.put, zA, zZ, zS, i64_w, i32_w]
             rfl
            refine pure_ (i := 39) (N := some 93) (v := undef) (a' := ?_) mq1740 rfl rfl (any_of HT_.out (by kernel_rfl)) (fun _ _ _ h => h) (Or.inr ⟨by rfl, rfl⟩) ?_ ?_
            rotate_left
            ·simp only [Act.put, zA, zZ, zS, i64_w, i32_w]
             rfl
            refine pure_ (i := 40) (N := some 94) (v := ?_) (a' := ?_) mq1741 rfl rfl (any_of HT_.out (by kernel_rfl)) (fun _ _ _ h => h) (Or.inl ⟨by rfl, ?_⟩) ?_ ?_
            rotate_left
            ·intro w'
             go_simp
             with_reducible rfl
            rotate_left
            ·simp only [Act.put, zA, zZ, zS, i64_w, i32_w]
             rfl
            refine done_ (done_of HT_.out (by kernel_rfl)) ?_
            try go_wp2
            go_ret
            exact ⟨rfl, by repeat (first | (with_reducible first | exact HB.out | apply zL | apply zN | apply zD | refine zJ ?_ GE422.out | refine zJ ?_ GE426.out) | exact HB.out)⟩
           ·rw [if_neg c35] at H
            have c35b0 : decide (a0_1 ≤ ((rd_T42 l0_3 x49_2).f1)) = false := decide_eq_false c35
            clear c35
            by_cases c42 : ((rd_T42 l0_3 x49_2).f1) < (wrap64 (a0_1 - 8))
            ·rw [if_pos c42] at H
             have c42b0 : decide (((rd_T42 l0_3 x49_2).f1) < (wrap64 (a0_1 - 8))) = true := decide_eq_true c42
             clear c42
             obtain rfl := Option.some.inj H
             have p425 : 0 ≤ (x49_2 : Int) := zo (by assumption)
             have q425 : x49_2 < (l0_3.length : Int) := zo (by assumption)
             obtain ⟨ad425, A425_2, c425_2, e425, hx425_0, hx425_1, hx425_2, hl425_2, hi425_2⟩ := at_T42 HR0_3.out x49_2 p425 q425
             cases e425
             replace hx425_0 := (HB.out.cell (zW w _ hx425_0)).trans hx425_0
             replace hx425_1 := (HB.out.cell (zW w _ hx425_1)).trans hx425_1
             replace hx425_2 := (HB.out.cell (zW w _ hx425_2)).trans hx425_2
             have HR425_2 := zM hi425_2
             have HC425_2 := zM hl425_2
             clear hi425_2 hl425_2
             replace p425 := eq_true p425
             replace q425 := eq_true q425
             try go_wp2_with (first | ((with_reducible refine gate_dst (N := 5) rfl ?_); (try (refine gate_guard (by rfl) ?_; dsimp only)); refine box_event ?hg (N := 5) ?hd (cs := #[.int .i64 0, .int .i64 0, .slice none 0 0]) (t := 42) ?hr ?_; (case hd => rfl); (case hg => rfl); (case hr => go_simp); intro gb426 hg w43 hbox hb; have n0_ := zM (zb (g := gb422) (o := .cells #[.int .i64 a0_0, .int .i64 a0_1, .slice A0_2 l0_2.length c0_2, .slice (some ad425) l0_3.length c0_3] 25 (0, 0)) (by exact BK422.out) hb); have n1_ := zM (zp HB.out hb); have n2_ := zM (hbox); have n3_ := zM ((by rw [hg]; exact (zs HB.out) : w.heap.size ≤ gb426)); have n4_ := zM ((by rw [hg]; exact (zs HB.out) : w.heap.size ≤ gb426)); have n5_ := zM ((by rw [hg]; exact zt (blk_lt (g := gb422) (o := .cells #[.int .i64 a0_0, .int .i64 a0_1, .slice A0_2 l0_2.length c0_2, .slice (some ad425) l0_3.length c0_3] 25 (0, 0)) (by exact BK422.out)) : gb422 ≠ gb426)); have n6_ := zM ((by rw [hg]; exact Nat.ne_of_gt (blk_lt (g := gb422) (o := .cells #[.int .i64 a0_0, .int .i64 a0_1, .slice A0_2 l0_2.length c0_2, .slice (some ad425) l0_3.length c0_3] 25 (0, 0)) (by exact BK422.out)) : gb426 ≠ gb422)); clear BK422; clear HB; have BK422 := n0_; have HB := n1_; have BK426 := n2_; have GW426 := n3_; have GE426 := n4_; have NB422_426 := n5_; have NB426_422 := n6_; clear n0_ n1_ n2_ n3_ n4_ n5_ n6_; clear hb hbox hg; have hnb44 := NB426_422.out; have hnc44 := NB422_426.out; have hcz45_0 : w43.cell? ⟨gb426, 0, none⟩ = some (.int .i64 0) := (zc BK426.out 0).trans rfl; have hcz45_1 : w43.cell? ⟨gb426, 1, none⟩ = some (.int .i64 0) := (zc BK426.out 1).trans rfl; have hcz45_2 : w43.cell? ⟨gb426, 2, none⟩ = some (.slice none 0 0) := (zc BK426.out 2).trans rfl; have hfz45_0 := zf BK426.out 0; have hfz45_1 := zf BK426.out 1; have hfz45_2 := zf BK426.out 2))
             have n0_ : Aside0 ((((w43.setCell ⟨gb426, 0, none⟩ (.int .i64 ((rd_T42 l0_3 x49_2).f0))).setCell ⟨gb426, 1, none⟩ (.int .i64 ((rd_T42 l0_3 x49_2).f1))).setCell ⟨gb426, 2, none⟩ (.slice A425_2 ((rd_T42 l0_3 x49_2).f2).length c425_2)).heap[gb422]? = some (.cells #[.int .i64 a0_0, .int .i64 a0_1, .slice A0_2 l0_2.length c0_2, .slice (some ad425) l0_3.length c0_3] 25 (0, 0))) := ⟨by refine zF ?_ NB422_426.out _; refine zF ?_ NB422_426.out _; refine zF ?_ NB422_426.out _; exact BK422.out⟩
             have n1_ : Aside0 ((((w43.setCell ⟨gb426, 0, none⟩ (.int .i64 ((rd_T42 l0_3 x49_2).f0))).setCell ⟨gb426, 1, none⟩ (.int .i64 ((rd_T42 l0_3 x49_2).f1))).setCell ⟨gb426, 2, none⟩ (.slice A425_2 ((rd_T42 l0_3 x49_2).f2).length c425_2)).heap[gb426]? = some (.cells #[.int .i64 ((rd_T42 l0_3 x49_2).f0), .int .i64 ((rd_T42 l0_3 x49_2).f1), .slice A425_2 ((rd_T42 l0_3 x49_2).f2).length c425_2] 42 (0, 0))) := ⟨by refine zP (cs := #[.int .i64 ((rd_T42 l0_3 x49_2).f0), .int .i64 ((rd_T42 l0_3 x49_2).f1), .slice none 0 0]) ?_ 2 _ rfl; refine zP (cs := #[.int .i64 ((rd_T42 l0_3 x49_2).f0), .int .i64 0, .slice none 0 0]) ?_ 1 _ rfl; refine zP (cs := #[.int .i64 0, .int .i64 0, .slice none 0 0]) ?_ 0 _ rfl; exact BK426.out⟩
             have n2_ : Aside0 (Below w.heap.size w (((w43.setCell ⟨gb426, 0, none⟩ (.int .i64 ((rd_T42 l0_3 x49_2).f0))).setCell ⟨gb426, 1, none⟩ (.int .i64 ((rd_T42 l0_3 x49_2).f1))).setCell ⟨gb426, 2, none⟩ (.slice A425_2 ((rd_T42 l0_3 x49_2).f2).length c425_2))) := ⟨by repeat (first | (with_reducible first | exact HB.out | apply zL | apply zN | apply zD | refine zJ ?_ GE422.out | refine zJ ?_ GE426.out) | exact HB.out)⟩
             (try clear BK422)
             (try clear BK426)
             (try clear HB)
             generalize (((w43.setCell ⟨gb426, 0, none⟩ (.int .i64 ((rd_T42 l0_3 x49_2).f0))).setCell ⟨gb426, 1, none⟩ (.int .i64 ((rd_T42 l0_3 x49_2).f1))).setCell ⟨gb426, 2, none⟩ (.slice A425_2 ((rd_T42 l0_3 x49_2).f2).length c425_2)) = w46 at n0_ n1_ n2_ ⊢
             have BK422 := n0_
             have BK426 := n1_
             have HB := n2_
             clear n0_ n1_ n2_
             have n0_ := zM (zd BK422.out)
             have n1_ := zM (zd BK426.out)
             have n2_ := zM (zD HB.out)
             clear BK422
             clear BK426
             clear HB
             have BK422 := n0_
             have BK426 := n1_
             have HB := n2_
             clear n0_ n1_ n2_
             refine start_ (n := 41) (S := fun w' => w'.cell? ⟨gb426, 0, none⟩ = some (.int .i64 ((rd_T42 l0_3 x49_2).f0)) ∧ w'.cell? ⟨gb426, 1, none⟩ = some (.int .i64 ((rd_T42 l0_3 x49_2).f1)) ∧ w'.cell? ⟨gb426, 2, none⟩ = some (.slice A425_2 ((rd_T42 l0_3 x49_2).f2).length c425_2) ∧ w'.cell? ⟨gb422, 0, none⟩ = some (.int .i64 a0_0) ∧ w'.cell? ⟨gb422, 1, none⟩ = some (.int .i64 a0_1) ∧ w'.cell? ⟨gb422, 2, none⟩ = some (.slice A0_2 l0_2.length c0_2) ∧ w'.cell? ⟨gb422, 3, none⟩ = some (.slice (some ad425) l0_3.length c0_3)) (ds := []) mq170 (by kernel_rfl) rfl rfl ⟨(zc BK426.out 0).trans rfl, (zc BK426.out 1).trans rfl, (zc BK426.out 2).trans rfl, (zc BK422.out 0).trans rfl, (zc BK422.out 1).trans rfl, (zc BK422.out 2).trans rfl, (zc BK422.out 3).trans rfl⟩ (fun hHeld => ?_); refine with_tabW lane_Right.tab7 lane_Right.bits7 (fun HT_ HW_ => ?_)
             generalize w46.drew = w47 at BK422 BK426 HB hHeld ⊢
             refine take_ (i := 0) (N := some 54) (v := ?_) (a' := ?_) mq171 rfl rfl (take_ofW HT_.out HW_.out (by kernel_rfl)) (fun _ _ _ h => h) (Or.inl ⟨by rfl, ?_⟩) hHeld ?_ ?_
             rotate_left
             ·rintro w' ⟨s0, s1, s2, s3, s4, s5, s6⟩
              go_simp
              with_reducible rfl
             rotate_left
             ·simp only [Act.put, zA, zZ, zS, i64_w, i32_w]
              rfl
             refine one_ (i := 1) (N := some 55) mq172 rfl rfl (one_of HT_.out (by kernel_rfl)) (by decide) (fun K hK => ?_)
             refine goes_ Try.func39 (by kernel_rfl) rfl #[.agg #[.int .i64 ((rd_T42 l0_3 x49_2).f0), .int .i64 ((rd_T42 l0_3 x49_2).f1), .slice A425_2 ((rd_T42 l0_3 x49_2).f2).length c425_2]] (by rfl) rfl rfl (by (try simp only [List.map_toArray, List.map_cons, List.map_nil]); first | done | rfl) ?_
             with_reducible refine (batch_May.calls k2 ((rd_T42 l0_3 x49_2).f0) ((rd_T42 l0_3 x49_2).f1) _ _ ((rd_T42 l0_3 x49_2).f2) true _ ?side1 ?side2 A32.out).mono ?_
             (case side1 => exact (zcb HR425_2.out HB.out))
             (case side2 => exact HC425_2.out)
             rintro e w48 ⟨rfl, hb⟩
             refine ⟨_, rfl, ?_⟩
             have n0_ := zM (zb (g := gb422) (o := .cells #[.int .i64 a0_0, .int .i64 a0_1, .slice A0_2 l0_2.length c0_2, .slice (some ad425) l0_3.length c0_3] 25 (0, 0)) (by exact BK422.out) hb)
             have n1_ := zM (zb (g := gb426) (o := .cells #[.int .i64 ((rd_T42 l0_3 x49_2).f0), .int .i64 ((rd_T42 l0_3 x49_2).f1), .slice A425_2 ((rd_T42 l0_3 x49_2).f2).length c425_2] 42 (0, 0)) (by exact BK426.out) hb)
             have n2_ := zM (zp HB.out hb)
             clear BK422
             clear BK426
             clear HB
             have BK422 := n0_
             have BK426 := n1_
             have HB := n2_
             clear n0_ n1_ n2_
             (try clear hb)
             (try clear hb2)
             (try clear hk)
             (try clear hi)
             refine hK.out _ _ ⟨(zc BK426.out 0).trans rfl, (zc BK426.out 1).trans rfl, (zc BK426.out 2).trans rfl, (zc BK422.out 0).trans rfl, (zc BK422.out 1).trans rfl, (zc BK422.out 2).trans rfl, (zc BK422.out 3).trans rfl⟩ (fun hHeld => ?_)
             clear hK K
             refine norm_ (a' := ?_) ?_ ?_
             rotate_left
             ·show Act.put _ (some 55) _ = _
              simp only [Act.put, zA, zZ, zS, i64_w, i32_w]
              rfl
             refine pure_ (i := 2) (N := some 56) (v := ?_) (a' := ?_) mq173 rfl rfl (any_of HT_.out (by kernel_rfl)) (fun _ _ _ h => h) (Or.inl ⟨by rfl, ?_⟩) ?_ ?_
             rotate_left
             ·intro w'
              go_simp
              with_reducible rfl
             rotate_left
             ·simp only [Act.put, zA, zZ, zS, i64_w, i32_w]
              rfl
             refine pure_ (i := 3) (N := some 57) (v := ?_) (a' := ?_) mq174 rfl rfl (any_of HT_.out (by kernel_rfl)) (fun _ _ _ h => h) (Or.inl ⟨by rfl, ?_⟩) ?_ ?_
             rotate_left
             ·intro w'
              go_simp
              with_reducible rfl
             rotate_left
             ·simp only [Act.put, zA, zZ, zS, i64_w, i32_w]
              rfl
             refine pure_ (i := 4) (N := some 58) (v := ?_) (a' := ?_) mq175 rfl rfl (any_of HT_.out (by kernel_rfl)) (fun _ _ _ h => h) (Or.inl ⟨by rfl, ?_⟩) ?_ ?_
             rotate_left
             ·intro w'
              go_simp
              with_reducible rfl
             rotate_left
             ·simp only [Act.put, zA, zZ, zS, i64_w, i32_w]
              rfl
             refine pure_ (i := 6) (N := some 60) (v := ?_) (a' := ?_) mq176 rfl rfl (any_of HT_.out (by kernel_rfl)) (fun _ _ _ h => h) (Or.inl ⟨by rfl, ?_⟩) ?_ ?_
             rotate_left
             ·intro w'
              go_simp
              with_reducible rfl
             rotate_left
             ·simp only [Act.put, zA, zZ, zS, i64_w, i32_w]
              rfl
             refine take_ (i := 5) (N := some 59) (v := ?_) (a' := ?_) mq177 rfl rfl (take_ofW HT_.out HW_.out (by kernel_rfl)) (fun _ _ _ h => h) (Or.inl ⟨by rfl, ?_⟩) hHeld ?_ ?_
             rotate_left
             ·rintro w' ⟨s0, s1, s2, s3, s4, s5, s6⟩
              go_simp
              with_reducible rfl
             rotate_left
             ·simp only [Act.put, zA, zZ, zS, i64_w, i32_w]
              rfl
             refine take_ (i := 7) (N := some 61) (v := ?_) (a' := ?_) mq178 rfl rfl (take_ofW HT_.out HW_.out (by kernel_rfl)) (fun _ _ _ h => h) (Or.inl ⟨by rfl, ?_⟩) hHeld ?_ ?_
             rotate_left
             ·rintro w' ⟨s0, s1, s2, s3, s4, s5, s6⟩
              go_simp
              with_reducible rfl
             rotate_left
             ·simp only [Act.put, zA, zZ, zS, i64_w, i32_w]
              rfl
             refine pure_ (i := 8) (N := some 62) (v := ?_) (a' := ?_) mq179 rfl rfl (any_of HT_.out (by kernel_rfl)) (fun _ _ _ h => h) (Or.inl ⟨by rfl, ?_⟩) ?_ ?_
             rotate_left
             ·intro w'
              go_simp
              with_reducible rfl
             rotate_left
             ·simp only [Act.put, zA, zZ, zS, i64_w, i32_w]
              rfl
             refine pure_ (i := 9) (N := some 63) (v := ?_) (a' := ?_) mq1710 rfl rfl (any_of HT_.out (by kernel_rfl)) (fun _ _ _ h => h) (Or.inl ⟨by rfl, ?_⟩) ?_ ?_
             rotate_left
             ·intro w'
              go_simp
              with_reducible rfl
             rotate_left
             ·simp only [Act.put, zA, zZ, zS, i64_w, i32_w]
              rfl
             refine pure_ (i := 10) (N := some 64) (v := ?_) (a' := ?_) mq1711 rfl rfl (any_of HT_.out (by kernel_rfl)) (fun _ _ _ h => h) (Or.inl ⟨by rfl, ?_⟩) ?_ ?_
             rotate_left
             ·intro w'
              go_simp
              with_reducible rfl
             rotate_left
             ·simp only [Act.put, zA, zZ, zS, i64_w, i32_w]
              rfl
             refine pure_ (i := 11) (N := some 65) (v := ?_) (a' := ?_) mq1712 rfl rfl (any_of HT_.out (by kernel_rfl)) (fun _ _ _ h => h) (Or.inl ⟨by rfl, ?_⟩) ?_ ?_
             rotate_left
             ·intro w'
              go_simp
              with_reducible rfl
             rotate_left
             ·simp only [Act.put, zA, zZ, zS, i64_w, i32_w]
              rfl
             refine pure_ (i := 13) (N := some 67) (v := ?_) (a' := ?_) mq1713 rfl rfl (any_of HT_.out (by kernel_rfl)) (fun _ _ _ h => h) (Or.inl ⟨by rfl, ?_⟩) ?_ ?_
             rotate_left
             ·intro w'
              go_simp
              with_reducible rfl
             rotate_left
             ·simp only [Act.put, zA, zZ, zS, i64_w, i32_w]
              rfl
             refine take_ (i := 12) (N := some 66) (v := ?_) (a' := ?_) mq1714 rfl rfl (take_ofW HT_.out HW_.out (by kernel_rfl)) (fun _ _ _ h => h) (Or.inl ⟨by rfl, ?_⟩) hHeld ?_ ?_
             rotate_left
             ·rintro w' ⟨s0, s1, s2, s3, s4, s5, s6⟩
              go_simp
              with_reducible rfl
             rotate_left
             ·simp only [Act.put, zA, zZ, zS, i64_w, i32_w]
              rfl
             refine take_ (i := 14) (N := some 68) (v := ?_) (a' := ?_) mq1715 rfl rfl (take_ofW HT_.out HW_.out (by kernel_rfl)) (fun _ _ _ h => h) (Or.inl ⟨by rfl, ?_⟩) hHeld ?_ ?_
             rotate_left
             ·rintro w' ⟨s0, s1, s2, s3, s4, s5, s6⟩
              go_simp
              with_reducible rfl
             rotate_left
             ·simp only [Act.put, zA, zZ, zS, i64_w, i32_w]
              rfl
             refine pure_ (i := 15) (N := some 69) (v := ?_) (a' := ?_) mq1716 rfl rfl (any_of HT_.out (by kernel_rfl)) (fun _ _ _ h => h) (Or.inl ⟨by rfl, ?_⟩) ?_ ?_
             rotate_left
             ·intro w'
              go_simp
              with_reducible rfl
             rotate_left
             ·simp only [Act.put, zA, zZ, zS, i64_w, i32_w]
              rfl
             refine pure_ (i := 16) (N := some 70) (v := ?_) (a' := ?_) mq1717 rfl rfl (any_of HT_.out (by kernel_rfl)) (fun _ _ _ h => h) (Or.inl ⟨by rfl, ?_⟩) ?_ ?_
             rotate_left
             ·intro w'
              go_simp
              with_reducible rfl
             rotate_left
             ·simp only [Act.put, zA, zZ, zS, i64_w, i32_w]
              rfl
             refine pure_ (i := 17) (N := some 71) (v := ?_) (a' := ?_) mq1718 rfl rfl (any_of HT_.out (by kernel_rfl)) (fun _ _ _ h => h) (Or.inl ⟨by rfl, ?_⟩) ?_ ?_
             rotate_left
             ·intro w'
              go_simp
              with_reducible rfl
             rotate_left
             ·simp only [Act.put, zA, zZ, zS, i64_w, i32_w]
              rfl
             refine pure_ (i := 18) (N := some 72) (v := ?_) (a' := ?_) mq1719 rfl rfl (any_of HT_.out (by kernel_rfl)) (fun _ _ _ h => h) (Or.inl ⟨by rfl, ?_⟩) ?_ ?_
             rotate_left
             ·intro w'
              go_simp
              with_reducible rfl
             rotate_left
             ·simp only [Act.put, zA, zZ, zS, i64_w, i32_w]
              rfl
             refine pure_ (i := 20) (N := some 74) (v := ?_) (a' := ?_) mq1742 rfl rfl (any_of HT_.out (by kernel_rfl)) (fun _ _ _ h => h) (Or.inl ⟨by rfl, ?_⟩) ?_ ?_
             rotate_left
             ·intro w'
              go_simp
              with_reducible rfl
             rotate_left
             ·simp only [Act.put, zA, zZ, zS, i64_w, i32_w]
              rfl
             refine take_ (i := 19) (N := some 73) (v := ?_) (a' := ?_) mq1721 rfl rfl (take_ofW HT_.out HW_.out (by kernel_rfl)) (fun _ _ _ h => h) (Or.inl ⟨by rfl, ?_⟩) hHeld ?_ ?_
             rotate_left
             ·rintro w' ⟨s0, s1, s2, s3, s4, s5, s6⟩
              go_simp
              with_reducible rfl
             rotate_left
             ·simp only [Act.put, zA, zZ, zS, i64_w, i32_w]
              rfl
             refine take_ (i := 21) (N := some 75) (v := ?_) (a' := ?_) mq1722 rfl rfl (take_ofW HT_.out HW_.out (by kernel_rfl)) (fun _ _ _ h => h) (Or.inl ⟨by rfl, ?_⟩) hHeld ?_ ?_
             rotate_left
             ·rintro w' ⟨s0, s1, s2, s3, s4, s5, s6⟩
              go_simp
              with_reducible rfl
             rotate_left
             ·simp only [Act.put, zA, zZ, zS, i64_w, i32_w]
              rfl
             refine pure_ (i := 22) (N := some 76) (v := ?_) (a' := ?_) mq1723 rfl rfl (any_of HT_.out (by kernel_rfl)) (fun _ _ _ h => h) (Or.inl ⟨by rfl, ?_⟩) ?_ ?_
             rotate_left
             ·intro w'
              go_simp
              with_reducible rfl
             rotate_left
             ·simp only [Act.put, zA, zZ, zS, i64_w, i32_w]
              rfl
             refine pure_ (i := 23) (N := some 77) (v := ?_) (a' := ?_) mq1724 rfl rfl (any_of HT_.out (by kernel_rfl)) (fun _ _ _ h => h) (Or.inl ⟨by rfl, ?_⟩) ?_ ?_
             rotate_left
             ·intro w'
              go_simp
              with_reducible rfl
             rotate_left
             ·simp only [Act.put, zA, zZ, zS, i64_w, i32_w]
              rfl
             refine pure_ (i := 24) (N := some 78) (v := ?_) (a' := ?_) mq1725 rfl rfl (any_of HT_.out (by kernel_rfl)) (fun _ _ _ h => h) (Or.inl ⟨by rfl, ?_⟩) ?_ ?_
             rotate_left
             ·intro w'
              go_simp
              with_reducible rfl
             rotate_left
             ·simp only [Act.put, zA, zZ, zS, i64_w, i32_w]
              rfl
             refine pure_ (i := 25) (N := some 79) (v := ?_) (a' := ?_) mq1726 rfl rfl (any_of HT_.out (by kernel_rfl)) (fun _ _ _ h => h) (Or.inl ⟨by rfl, ?_⟩) ?_ ?_
             rotate_left
             ·intro w'
              go_simp
              with_reducible rfl
             rotate_left
             ·simp only [Act.put, zA, zZ, zS, i64_w, i32_w]
              rfl
             refine pure_ (i := 26) (N := some 80) (v := undef) (a' := ?_) mq1727 rfl rfl (any_of HT_.out (by kernel_rfl)) (fun _ _ _ h => h) (Or.inr ⟨by rfl, rfl⟩) ?_ ?_
             rotate_left
             ·simp only [Act.put, zA, zZ, zS, i64_w, i32_w]
              rfl
             refine pure_ (i := 27) (N := some 81) (v := undef) (a' := ?_) mq1728 rfl rfl (any_of HT_.out (by kernel_rfl)) (fun _ _ _ h => h) (Or.inr ⟨by rfl, rfl⟩) ?_ ?_
             rotate_left
             ·simp only [Act.put, zA, zZ, zS, i64_w, i32_w]
              rfl
             refine pure_ (i := 28) (N := some 82) (v := undef) (a' := ?_) mq1729 rfl rfl (any_of HT_.out (by kernel_rfl)) (fun _ _ _ h => h) (Or.inr ⟨by rfl, rfl⟩) ?_ ?_
             rotate_left
             ·simp only [Act.put, zA, zZ, zS, i64_w, i32_w]
              rfl
             refine pure_ (i := 29) (N := some 83) (v := undef) (a' := ?_) mq1730 rfl rfl (any_of HT_.out (by kernel_rfl)) (fun _ _ _ h => h) (Or.inr ⟨by rfl, rfl⟩) ?_ ?_
             rotate_left
             ·simp only [Act.put, zA, zZ, zS, i64_w, i32_w]
              rfl
             refine pure_ (i := 30) (N := some 84) (v := undef) (a' := ?_) mq1731 rfl rfl (any_of HT_.out (by kernel_rfl)) (fun _ _ _ h => h) (Or.inr ⟨by rfl, rfl⟩) ?_ ?_
             rotate_left
             ·simp only [Act.put, zA, zZ, zS, i64_w, i32_w]
              rfl
             refine pure_ (i := 31) (N := some 85) (v := undef) (a' := ?_) mq1732 rfl rfl (any_of HT_.out (by kernel_rfl)) (fun _ _ _ h => h) (Or.inr ⟨by rfl, rfl⟩) ?_ ?_
             rotate_left
             ·simp only [Act.put, zA, zZ, zS, i64_w, i32_w]
              rfl
             refine pure_ (i := 32) (N := some 86) (v := undef) (a' := ?_) mq1733 rfl rfl (any_of HT_.out (by kernel_rfl)) (fun _ _ _ h => h) (Or.inr ⟨by rfl, rfl⟩) ?_ ?_
             rotate_left
             ·simp only [Act.put, zA, zZ, zS, i64_w, i32_w]
              rfl
             refine pure_ (i := 33) (N := some 87) (v := undef) (a' := ?_) mq1734 rfl rfl (any_of HT_.out (by kernel_rfl)) (fun _ _ _ h => h) (Or.inr ⟨by rfl, rfl⟩) ?_ ?_
             rotate_left
             ·simp only [Act.put, zA, zZ, zS, i64_w, i32_w]
              rfl
             refine pure_ (i := 34) (N := some 88) (v := undef) (a' := ?_) mq1735 rfl rfl (any_of HT_.out (by kernel_rfl)) (fun _ _ _ h => h) (Or.inr ⟨by rfl, rfl⟩) ?_ ?_
             rotate_left
             ·simp only [Act.put, zA, zZ, zS, i64_w, i32_w]
              rfl
             refine pure_ (i := 35) (N := some 89) (v := undef) (a' := ?_) mq1736 rfl rfl (any_of HT_.out (by kernel_rfl)) (fun _ _ _ h => h) (Or.inr ⟨by rfl, rfl⟩) ?_ ?_
             rotate_left
             ·simp only [Act.put, zA, zZ, zS, i64_w, i32_w]
              rfl
             refine pure_ (i := 36) (N := some 90) (v := undef) (a' := ?_) mq1737 rfl rfl (any_of HT_.out (by kernel_rfl)) (fun _ _ _ h => h) (Or.inr ⟨by rfl, rfl⟩) ?_ ?_
             rotate_left
             ·simp only [Act.put, zA, zZ, zS, i64_w, i32_w]
              rfl
             refine pure_ (i := 37) (N := some 91) (v := undef) (a' := ?_) mq1738 rfl rfl (any_of HT_.out (by kernel_rfl)) (fun _ _ _ h => h) (Or.inr ⟨by rfl, rfl⟩) ?_ ?_
             rotate_left
             ·simp only [Act.put, zA, zZ, zS, i64_w, i32_w]
              rfl
             refine pure_ (i := 38) (N := some 92) (v := undef) (a' := ?_) mq1739 rfl rfl (any_of HT_.out (by kernel_rfl)) (fun _ _ _ h => h) (Or.inr ⟨by rfl, rfl⟩) ?_ ?_
             rotate_left
             ·simp only [Act.put, zA, zZ, zS, i64_w, i32_w]
              rfl
             refine pure_ (i := 39) (N := some 93) (v := undef) (a' := ?_) mq1740 rfl rfl (any_of HT_.out (by kernel_rfl)) (fun _ _ _ h => h) (Or.inr ⟨by rfl, rfl⟩) ?_ ?_
             rotate_left
             ·simp only [Act.put, zA, zZ, zS, i64_w, i32_w]
              rfl
             refine pure_ (i := 40) (N := some 94) (v := ?_) (a' := ?_) mq1741 rfl rfl (any_of HT_.out (by kernel_rfl)) (fun _ _ _ h => h) (Or.inl ⟨by rfl, ?_⟩) ?_ ?_
             rotate_left
             ·intro w'
              go_simp
              with_reducible rfl
             rotate_left
             ·simp only [Act.put, zA, zZ, zS, i64_w, i32_w]
              rfl
             refine done_ (done_of HT_.out (by kernel_rfl)) ?_
             try go_wp2
             go_ret
             exact ⟨rfl, by repeat (first | (with_reducible first | exact HB.out | apply zL | apply zN | apply zD | refine zJ ?_ GE422.out | refine zJ ?_ GE426.out) | exact HB.out)⟩
            ·rw [if_neg c42] at H
             have c42b0 : decide (((rd_T42 l0_3 x49_2).f1) < (wrap64 (a0_1 - 8))) = false := decide_eq_false c42
             clear c42
             by_cases c49 : x49_2 > 0
             ·rw [if_pos c49] at H
              have c49b0 : decide (0 < x49_2) = true := decide_eq_true c49
              clear c49
              obtain ⟨ji50, hji50⟩ : ∃ j_ : Int, (wrap64 (x49_2 - 1)) = j_ := ⟨_, rfl⟩
              replace H : (if 0 ≤ (ji50) then (if (ji50) < (l0_3.length : Int) then (if ((rd_T42 l0_3 (ji50)).f1) ≥ ((rd_T42 l0_3 x49_2).f1) then (some false) else (lane_Right.l0 k2 l0_3 (l0_3.length : Int) (wrap64 (x49_2 + 1)) a0_0 a0_1 l0_2 l0_3)) else (none)) else (none)) = some r := by first | (rw [hji50] at H; exact H) | (simp only [hji50] at H ⊢; exact H)
              (try rw [hji50] at A32)
              have hji50w : (IntKind.i64.wrap (x49_2 - 1)) = ji50 := (i64_w _).trans hji50
              by_cases c51 : 0 ≤ (ji50)
              ·rw [if_pos c51] at H
               have c51b0 : decide (0 ≤ (ji50)) = true := decide_eq_true c51
               clear c51
               by_cases c52 : (ji50) < (l0_3.length : Int)
               ·rw [if_pos c52] at H
                have c52b0 : decide ((ji50) < (l0_3.length : Int)) = true := decide_eq_true c52
                clear c52
                by_cases c53 : ((rd_T42 l0_3 (ji50)).f1) ≥ ((rd_T42 l0_3 x49_2).f1)
                ·rw [if_pos c53] at H
                 have c53b0 : decide (((rd_T42 l0_3 x49_2).f1) ≤ ((rd_T42 l0_3 (ji50)).f1)) = true := decide_eq_true c53
                 clear c53
                 obtain rfl := Option.some.inj H
                 have p425 : 0 ≤ (x49_2 : Int) := zo (by assumption)
                 have q425 : x49_2 < (l0_3.length : Int) := zo (by assumption)
                 obtain ⟨ad425, A425_2, c425_2, e425, hx425_0, hx425_1, hx425_2, hl425_2, hi425_2⟩ := at_T42 HR0_3.out x49_2 p425 q425
                 cases e425
                 replace hx425_0 := (HB.out.cell (zW w _ hx425_0)).trans hx425_0
                 replace hx425_1 := (HB.out.cell (zW w _ hx425_1)).trans hx425_1
                 replace hx425_2 := (HB.out.cell (zW w _ hx425_2)).trans hx425_2
                 have HR425_2 := zM hi425_2
                 have HC425_2 := zM hl425_2
                 clear hi425_2 hl425_2
                 replace p425 := eq_true p425
                 replace q425 := eq_true q425
                 try go_wp2_with (first | ((with_reducible refine gate_dst (N := 5) rfl ?_); (try (refine gate_guard (by rfl) ?_; dsimp only)); refine box_event ?hg (N := 5) ?hd (cs := #[.int .i64 0, .int .i64 0, .slice none 0 0]) (t := 42) ?hr ?_; (case hd => rfl); (case hg => rfl); (case hr => go_simp); intro gb426 hg w54 hbox hb; have n0_ := zM (zb (g := gb422) (o := .cells #[.int .i64 a0_0, .int .i64 a0_1, .slice A0_2 l0_2.length c0_2, .slice (some ad425) l0_3.length c0_3] 25 (0, 0)) (by exact BK422.out) hb); have n1_ := zM (zp HB.out hb); have n2_ := zM (hbox); have n3_ := zM ((by rw [hg]; exact (zs HB.out) : w.heap.size ≤ gb426)); have n4_ := zM ((by rw [hg]; exact (zs HB.out) : w.heap.size ≤ gb426)); have n5_ := zM ((by rw [hg]; exact zt (blk_lt (g := gb422) (o := .cells #[.int .i64 a0_0, .int .i64 a0_1, .slice A0_2 l0_2.length c0_2, .slice (some ad425) l0_3.length c0_3] 25 (0, 0)) (by exact BK422.out)) : gb422 ≠ gb426)); have n6_ := zM ((by rw [hg]; exact Nat.ne_of_gt (blk_lt (g := gb422) (o := .cells #[.int .i64 a0_0, .int .i64 a0_1, .slice A0_2 l0_2.length c0_2, .slice (some ad425) l0_3.length c0_3] 25 (0, 0)) (by exact BK422.out)) : gb426 ≠ gb422)); clear BK422; clear HB; have BK422 := n0_; have HB := n1_; have BK426 := n2_; have GW426 := n3_; have GE426 := n4_; have NB422_426 := n5_; have NB426_422 := n6_; clear n0_ n1_ n2_ n3_ n4_ n5_ n6_; clear hb hbox hg; have hnb55 := NB426_422.out; have hnc55 := NB422_426.out; have hcz56_0 : w54.cell? ⟨gb426, 0, none⟩ = some (.int .i64 0) := (zc BK426.out 0).trans rfl; have hcz56_1 : w54.cell? ⟨gb426, 1, none⟩ = some (.int .i64 0) := (zc BK426.out 1).trans rfl; have hcz56_2 : w54.cell? ⟨gb426, 2, none⟩ = some (.slice none 0 0) := (zc BK426.out 2).trans rfl; have hfz56_0 := zf BK426.out 0; have hfz56_1 := zf BK426.out 1; have hfz56_2 := zf BK426.out 2))
                 have n0_ : Aside0 ((((w54.setCell ⟨gb426, 0, none⟩ (.int .i64 ((rd_T42 l0_3 x49_2).f0))).setCell ⟨gb426, 1, none⟩ (.int .i64 ((rd_T42 l0_3 x49_2).f1))).setCell ⟨gb426, 2, none⟩ (.slice A425_2 ((rd_T42 l0_3 x49_2).f2).length c425_2)).heap[gb422]? = some (.cells #[.int .i64 a0_0, .int .i64 a0_1, .slice A0_2 l0_2.length c0_2, .slice (some ad425) l0_3.length c0_3] 25 (0, 0))) := ⟨by refine zF ?_ NB422_426.out _; refine zF ?_ NB422_426.out _; refine zF ?_ NB422_426.out _; exact BK422.out⟩
                 have n1_ : Aside0 ((((w54.setCell ⟨gb426, 0, none⟩ (.int .i64 ((rd_T42 l0_3 x49_2).f0))).setCell ⟨gb426, 1, none⟩ (.int .i64 ((rd_T42 l0_3 x49_2).f1))).setCell ⟨gb426, 2, none⟩ (.slice A425_2 ((rd_T42 l0_3 x49_2).f2).length c425_2)).heap[gb426]? = some (.cells #[.int .i64 ((rd_T42 l0_3 x49_2).f0), .int .i64 ((rd_T42 l0_3 x49_2).f1), .slice A425_2 ((rd_T42 l0_3 x49_2).f2).length c425_2] 42 (0, 0))) := ⟨by refine zP (cs := #[.int .i64 ((rd_T42 l0_3 x49_2).f0), .int .i64 ((rd_T42 l0_3 x49_2).f1), .slice none 0 0]) ?_ 2 _ rfl; refine zP (cs := #[.int .i64 ((rd_T42 l0_3 x49_2).f0), .int .i64 0, .slice none 0 0]) ?_ 1 _ rfl; refine zP (cs := #[.int .i64 0, .int .i64 0, .slice none 0 0]) ?_ 0 _ rfl; exact BK426.out⟩
                 have n2_ : Aside0 (Below w.heap.size w (((w54.setCell ⟨gb426, 0, none⟩ (.int .i64 ((rd_T42 l0_3 x49_2).f0))).setCell ⟨gb426, 1, none⟩ (.int .i64 ((rd_T42 l0_3 x49_2).f1))).setCell ⟨gb426, 2, none⟩ (.slice A425_2 ((rd_T42 l0_3 x49_2).f2).length c425_2))) := ⟨by repeat (first | (with_reducible first | exact HB.out | apply zL | apply zN | apply zD | refine zJ ?_ GE422.out | refine zJ ?_ GE426.out) | exact HB.out)⟩
                 (try clear BK422)
                 (try clear BK426)
                 (try clear HB)
                 generalize (((w54.setCell ⟨gb426, 0, none⟩ (.int .i64 ((rd_T42 l0_3 x49_2).f0))).setCell ⟨gb426, 1, none⟩ (.int .i64 ((rd_T42 l0_3 x49_2).f1))).setCell ⟨gb426, 2, none⟩ (.slice A425_2 ((rd_T42 l0_3 x49_2).f2).length c425_2)) = w57 at n0_ n1_ n2_ ⊢
                 have BK422 := n0_
                 have BK426 := n1_
                 have HB := n2_
                 clear n0_ n1_ n2_
                 have n0_ := zM (zd BK422.out)
                 have n1_ := zM (zd BK426.out)
                 have n2_ := zM (zD HB.out)
                 clear BK422
                 clear BK426
                 clear HB
                 have BK422 := n0_
                 have BK426 := n1_
                 have HB := n2_
                 clear n0_ n1_ n2_
                 have p428 : 0 ≤ ((ji50) : Int) := zo (by assumption)
                 have q428 : (ji50) < (l0_3.length : Int) := zo (by assumption)
                 obtain ⟨ad428, A428_2, c428_2, e428, hx428_0, hx428_1, hx428_2, hl428_2, hi428_2⟩ := at_T42 HR0_3.out (ji50) p428 q428
                 have hw428_2 := hx428_2
                 have hw428_1 := hx428_1
                 have hw428_0 := hx428_0
                 obtain rfl : ad425 = ad428 := (by injection e428)
                 replace hx428_0 := (HB.out.cell (zW w _ hx428_0)).trans hx428_0
                 replace hx428_1 := (HB.out.cell (zW w _ hx428_1)).trans hx428_1
                 replace hx428_2 := (HB.out.cell (zW w _ hx428_2)).trans hx428_2
                 have HR428_2 := zM hi428_2
                 have HC428_2 := zM hl428_2
                 clear hi428_2 hl428_2
                 replace p428 := eq_true p428
                 replace q428 := eq_true q428
                 refine start_ (n := 41) (S := fun w' => w'.cell? ⟨gb426, 0, none⟩ = some (.int .i64 ((rd_T42 l0_3 x49_2).f0)) ∧ w'.cell? ⟨gb426, 1, none⟩ = some (.int .i64 ((rd_T42 l0_3 x49_2).f1)) ∧ w'.cell? ⟨gb426, 2, none⟩ = some (.slice A425_2 ((rd_T42 l0_3 x49_2).f2).length c425_2) ∧ w'.cell? ⟨gb422, 0, none⟩ = some (.int .i64 a0_0) ∧ w'.cell? ⟨gb422, 1, none⟩ = some (.int .i64 a0_1) ∧ w'.cell? ⟨gb422, 2, none⟩ = some (.slice A0_2 l0_2.length c0_2) ∧ w'.cell? ⟨gb422, 3, none⟩ = some (.slice (some ad425) l0_3.length c0_3) ∧ w'.cell? (ad425.add (((ji50)).toNat * 3)) = some (.int .i64 ((rd_T42 l0_3 (ji50)).f0)) ∧ w'.cell? ⟨(ad425.add (((ji50)).toNat * 3)).block, (ad425.add (((ji50)).toNat * 3)).off + 1, none⟩ = some (.int .i64 ((rd_T42 l0_3 (ji50)).f1)) ∧ w'.cell? ⟨(ad425.add (((ji50)).toNat * 3)).block, (ad425.add (((ji50)).toNat * 3)).off + 2, none⟩ = some (.slice A428_2 ((rd_T42 l0_3 (ji50)).f2).length c428_2)) (ds := []) mq170 (by kernel_rfl) rfl rfl ⟨(zc BK426.out 0).trans rfl, (zc BK426.out 1).trans rfl, (zc BK426.out 2).trans rfl, (zc BK422.out 0).trans rfl, (zc BK422.out 1).trans rfl, (zc BK422.out 2).trans rfl, (zc BK422.out 3).trans rfl, ((HB.out.cell (zW w _ hw428_0)).trans hw428_0), ((HB.out.cell (zW w _ hw428_1)).trans hw428_1), ((HB.out.cell (zW w _ hw428_2)).trans hw428_2)⟩ (fun hHeld => ?_); refine with_tabW lane_Right.tab7 lane_Right.bits7 (fun HT_ HW_ => ?_)
                 generalize w57.drew = w58 at BK422 BK426 HB HR428_2 hx428_0 hx428_1 hx428_2 hHeld ⊢
                 refine take_ (i := 0) (N := some 54) (v := ?_) (a' := ?_) mq171 rfl rfl (take_ofW HT_.out HW_.out (by kernel_rfl)) (fun _ _ _ h => h) (Or.inl ⟨by rfl, ?_⟩) hHeld ?_ ?_
                 rotate_left
                 ·rintro w' ⟨s0, s1, s2, s3, s4, s5, s6, s7, s8, s9⟩
                  go_simp
                  with_reducible rfl
                 rotate_left
                 ·simp only [Act.put, zA, zZ, zS, i64_w, i32_w]
                  rfl
                 refine one_ (i := 1) (N := some 55) mq172 rfl rfl (one_of HT_.out (by kernel_rfl)) (by decide) (fun K hK => ?_)
                 refine goes_ Try.func39 (by kernel_rfl) rfl #[.agg #[.int .i64 ((rd_T42 l0_3 x49_2).f0), .int .i64 ((rd_T42 l0_3 x49_2).f1), .slice A425_2 ((rd_T42 l0_3 x49_2).f2).length c425_2]] (by rfl) rfl rfl (by (try simp only [List.map_toArray, List.map_cons, List.map_nil]); first | done | rfl) ?_
                 with_reducible refine (batch_May.calls k2 ((rd_T42 l0_3 x49_2).f0) ((rd_T42 l0_3 x49_2).f1) _ _ ((rd_T42 l0_3 x49_2).f2) true _ ?side1 ?side2 A32.out).mono ?_
                 (case side1 => exact (zcb HR425_2.out HB.out))
                 (case side2 => exact HC425_2.out)
                 rintro e w59 ⟨rfl, hb⟩
                 refine ⟨_, rfl, ?_⟩
                 have n0_ := zM (zb (g := gb422) (o := .cells #[.int .i64 a0_0, .int .i64 a0_1, .slice A0_2 l0_2.length c0_2, .slice (some ad425) l0_3.length c0_3] 25 (0, 0)) (by exact BK422.out) hb)
                 have n1_ := zM (zb (g := gb426) (o := .cells #[.int .i64 ((rd_T42 l0_3 x49_2).f0), .int .i64 ((rd_T42 l0_3 x49_2).f1), .slice A425_2 ((rd_T42 l0_3 x49_2).f2).length c425_2] 42 (0, 0)) (by exact BK426.out) hb)
                 have n2_ := zM (zp HB.out hb)
                 clear BK422
                 clear BK426
                 clear HB
                 have BK422 := n0_
                 have BK426 := n1_
                 have HB := n2_
                 clear n0_ n1_ n2_
                 (try clear hb)
                 (try clear hb2)
                 (try clear hk)
                 (try clear hi)
                 refine hK.out _ _ ⟨(zc BK426.out 0).trans rfl, (zc BK426.out 1).trans rfl, (zc BK426.out 2).trans rfl, (zc BK422.out 0).trans rfl, (zc BK422.out 1).trans rfl, (zc BK422.out 2).trans rfl, (zc BK422.out 3).trans rfl, ((HB.out.cell (zW w _ hw428_0)).trans hw428_0), ((HB.out.cell (zW w _ hw428_1)).trans hw428_1), ((HB.out.cell (zW w _ hw428_2)).trans hw428_2)⟩ (fun hHeld => ?_)
                 clear hK K
                 refine norm_ (a' := ?_) ?_ ?_
                 rotate_left
                 ·show Act.put _ (some 55) _ = _
                  simp only [Act.put, zA, zZ, zS, i64_w, i32_w]
                  rfl
                 refine pure_ (i := 2) (N := some 56) (v := ?_) (a' := ?_) mq173 rfl rfl (any_of HT_.out (by kernel_rfl)) (fun _ _ _ h => h) (Or.inl ⟨by rfl, ?_⟩) ?_ ?_
                 rotate_left
                 ·intro w'
                  go_simp
                  with_reducible rfl
                 rotate_left
                 ·simp only [Act.put, zA, zZ, zS, i64_w, i32_w]
                  rfl
                 refine pure_ (i := 3) (N := some 57) (v := ?_) (a' := ?_) mq174 rfl rfl (any_of HT_.out (by kernel_rfl)) (fun _ _ _ h => h) (Or.inl ⟨by rfl, ?_⟩) ?_ ?_
                 rotate_left
                 ·intro w'
                  go_simp
                  with_reducible rfl
                 rotate_left
                 ·simp only [Act.put, zA, zZ, zS, i64_w, i32_w]
                  rfl
                 refine pure_ (i := 4) (N := some 58) (v := ?_) (a' := ?_) mq175 rfl rfl (any_of HT_.out (by kernel_rfl)) (fun _ _ _ h => h) (Or.inl ⟨by rfl, ?_⟩) ?_ ?_
                 rotate_left
                 ·intro w'
                  go_simp
                  with_reducible rfl
                 rotate_left
                 ·simp only [Act.put, zA, zZ, zS, i64_w, i32_w]
                  rfl
                 refine pure_ (i := 6) (N := some 60) (v := ?_) (a' := ?_) mq176 rfl rfl (any_of HT_.out (by kernel_rfl)) (fun _ _ _ h => h) (Or.inl ⟨by rfl, ?_⟩) ?_ ?_
                 rotate_left
                 ·intro w'
                  go_simp
                  with_reducible rfl
                 rotate_left
                 ·simp only [Act.put, zA, zZ, zS, i64_w, i32_w]
                  rfl
                 refine take_ (i := 5) (N := some 59) (v := ?_) (a' := ?_) mq177 rfl rfl (take_ofW HT_.out HW_.out (by kernel_rfl)) (fun _ _ _ h => h) (Or.inl ⟨by rfl, ?_⟩) hHeld ?_ ?_
                 rotate_left
                 ·rintro w' ⟨s0, s1, s2, s3, s4, s5, s6, s7, s8, s9⟩
                  go_simp
                  with_reducible rfl
                 rotate_left
                 ·simp only [Act.put, zA, zZ, zS, i64_w, i32_w]
                  rfl
                 refine take_ (i := 7) (N := some 61) (v := ?_) (a' := ?_) mq178 rfl rfl (take_ofW HT_.out HW_.out (by kernel_rfl)) (fun _ _ _ h => h) (Or.inl ⟨by rfl, ?_⟩) hHeld ?_ ?_
                 rotate_left
                 ·rintro w' ⟨s0, s1, s2, s3, s4, s5, s6, s7, s8, s9⟩
                  go_simp
                  with_reducible rfl
                 rotate_left
                 ·simp only [Act.put, zA, zZ, zS, i64_w, i32_w]
                  rfl
                 refine pure_ (i := 8) (N := some 62) (v := ?_) (a' := ?_) mq179 rfl rfl (any_of HT_.out (by kernel_rfl)) (fun _ _ _ h => h) (Or.inl ⟨by rfl, ?_⟩) ?_ ?_
                 rotate_left
                 ·intro w'
                  go_simp
                  with_reducible rfl
                 rotate_left
                 ·simp only [Act.put, zA, zZ, zS, i64_w, i32_w]
                  rfl
                 refine pure_ (i := 9) (N := some 63) (v := ?_) (a' := ?_) mq1710 rfl rfl (any_of HT_.out (by kernel_rfl)) (fun _ _ _ h => h) (Or.inl ⟨by rfl, ?_⟩) ?_ ?_
                 rotate_left
                 ·intro w'
                  go_simp
                  with_reducible rfl
                 rotate_left
                 ·simp only [Act.put, zA, zZ, zS, i64_w, i32_w]
                  rfl
                 refine pure_ (i := 10) (N := some 64) (v := ?_) (a' := ?_) mq1711 rfl rfl (any_of HT_.out (by kernel_rfl)) (fun _ _ _ h => h) (Or.inl ⟨by rfl, ?_⟩) ?_ ?_
                 rotate_left
                 ·intro w'
                  go_simp
                  with_reducible rfl
                 rotate_left
                 ·simp only [Act.put, zA, zZ, zS, i64_w, i32_w]
                  rfl
                 refine pure_ (i := 11) (N := some 65) (v := ?_) (a' := ?_) mq1712 rfl rfl (any_of HT_.out (by kernel_rfl)) (fun _ _ _ h => h) (Or.inl ⟨by rfl, ?_⟩) ?_ ?_
                 rotate_left
                 ·intro w'
                  go_simp
                  with_reducible rfl
                 rotate_left
                 ·simp only [Act.put, zA, zZ, zS, i64_w, i32_w]
                  rfl
                 refine pure_ (i := 13) (N := some 67) (v := ?_) (a' := ?_) mq1713 rfl rfl (any_of HT_.out (by kernel_rfl)) (fun _ _ _ h => h) (Or.inl ⟨by rfl, ?_⟩) ?_ ?_
                 rotate_left
                 ·intro w'
                  go_simp
                  with_reducible rfl
                 rotate_left
                 ·simp only [Act.put, zA, zZ, zS, i64_w, i32_w]
                  rfl
                 refine take_ (i := 12) (N := some 66) (v := ?_) (a' := ?_) mq1714 rfl rfl (take_ofW HT_.out HW_.out (by kernel_rfl)) (fun _ _ _ h => h) (Or.inl ⟨by rfl, ?_⟩) hHeld ?_ ?_
                 rotate_left
                 ·rintro w' ⟨s0, s1, s2, s3, s4, s5, s6, s7, s8, s9⟩
                  go_simp
                  with_reducible rfl
                 rotate_left
                 ·simp only [Act.put, zA, zZ, zS, i64_w, i32_w]
                  rfl
                 refine take_ (i := 14) (N := some 68) (v := ?_) (a' := ?_) mq1715 rfl rfl (take_ofW HT_.out HW_.out (by kernel_rfl)) (fun _ _ _ h => h) (Or.inl ⟨by rfl, ?_⟩) hHeld ?_ ?_
                 rotate_left
                 ·rintro w' ⟨s0, s1, s2, s3, s4, s5, s6, s7, s8, s9⟩
                  go_simp
                  with_reducible rfl
                 rotate_left
                 ·simp only [Act.put, zA, zZ, zS, i64_w, i32_w]
                  rfl
                 refine pure_ (i := 15) (N := some 69) (v := ?_) (a' := ?_) mq1716 rfl rfl (any_of HT_.out (by kernel_rfl)) (fun _ _ _ h => h) (Or.inl ⟨by rfl, ?_⟩) ?_ ?_
                 rotate_left
                 ·intro w'
                  go_simp
                  with_reducible rfl
                 rotate_left
                 ·simp only [Act.put, zA, zZ, zS, i64_w, i32_w]
                  rfl
                 refine pure_ (i := 16) (N := some 70) (v := ?_) (a' := ?_) mq1717 rfl rfl (any_of HT_.out (by kernel_rfl)) (fun _ _ _ h => h) (Or.inl ⟨by rfl, ?_⟩) ?_ ?_
                 rotate_left
                 ·intro w'
                  go_simp
                  with_reducible rfl
                 rotate_left
                 ·simp only [Act.put, zA, zZ, zS, i64_w, i32_w]
                  rfl
                 refine pure_ (i := 17) (N := some 71) (v := ?_) (a' := ?_) mq1718 rfl rfl (any_of HT_.out (by kernel_rfl)) (fun _ _ _ h => h) (Or.inl ⟨by rfl, ?_⟩) ?_ ?_
                 rotate_left
                 ·intro w'
                  go_simp
                  with_reducible rfl
                 rotate_left
                 ·simp only [Act.put, zA, zZ, zS, i64_w, i32_w]
                  rfl
                 refine pure_ (i := 18) (N := some 72) (v := ?_) (a' := ?_) mq1719 rfl rfl (any_of HT_.out (by kernel_rfl)) (fun _ _ _ h => h) (Or.inl ⟨by rfl, ?_⟩) ?_ ?_
                 rotate_left
                 ·intro w'
                  go_simp
                  with_reducible rfl
                 rotate_left
                 ·simp only [Act.put, zA, zZ, zS, i64_w, i32_w]
                  rfl
                 refine pure_ (i := 20) (N := some 74) (v := ?_) (a' := ?_) mq1742 rfl rfl (any_of HT_.out (by kernel_rfl)) (fun _ _ _ h => h) (Or.inl ⟨by rfl, ?_⟩) ?_ ?_
                 rotate_left
                 ·intro w'
                  go_simp
                  with_reducible rfl
                 rotate_left
                 ·simp only [Act.put, zA, zZ, zS, i64_w, i32_w]
                  rfl
                 refine take_ (i := 19) (N := some 73) (v := ?_) (a' := ?_) mq1721 rfl rfl (take_ofW HT_.out HW_.out (by kernel_rfl)) (fun _ _ _ h => h) (Or.inl ⟨by rfl, ?_⟩) hHeld ?_ ?_
                 rotate_left
                 ·rintro w' ⟨s0, s1, s2, s3, s4, s5, s6, s7, s8, s9⟩
                  go_simp
                  with_reducible rfl
                 rotate_left
                 ·simp only [Act.put, zA, zZ, zS, i64_w, i32_w]
                  rfl
                 refine take_ (i := 21) (N := some 75) (v := ?_) (a' := ?_) mq1722 rfl rfl (take_ofW HT_.out HW_.out (by kernel_rfl)) (fun _ _ _ h => h) (Or.inl ⟨by rfl, ?_⟩) hHeld ?_ ?_
                 rotate_left
                 ·rintro w' ⟨s0, s1, s2, s3, s4, s5, s6, s7, s8, s9⟩
                  go_simp
                  with_reducible rfl
                 rotate_left
                 ·simp only [Act.put, zA, zZ, zS, i64_w, i32_w]
                  rfl
                 refine pure_ (i := 22) (N := some 76) (v := ?_) (a' := ?_) mq1723 rfl rfl (any_of HT_.out (by kernel_rfl)) (fun _ _ _ h => h) (Or.inl ⟨by rfl, ?_⟩) ?_ ?_
                 rotate_left
                 ·intro w'
                  go_simp
                  with_reducible rfl
                 rotate_left
                 ·simp only [Act.put, zA, zZ, zS, i64_w, i32_w]
                  rfl
                 refine pure_ (i := 23) (N := some 77) (v := ?_) (a' := ?_) mq1724 rfl rfl (any_of HT_.out (by kernel_rfl)) (fun _ _ _ h => h) (Or.inl ⟨by rfl, ?_⟩) ?_ ?_
                 rotate_left
                 ·intro w'
                  go_simp
                  with_reducible rfl
                 rotate_left
                 ·simp only [Act.put, zA, zZ, zS, i64_w, i32_w]
                  rfl
                 refine pure_ (i := 24) (N := some 78) (v := ?_) (a' := ?_) mq1725 rfl rfl (any_of HT_.out (by kernel_rfl)) (fun _ _ _ h => h) (Or.inl ⟨by rfl, ?_⟩) ?_ ?_
                 rotate_left
                 ·intro w'
                  go_simp
                  with_reducible rfl
                 rotate_left
                 ·simp only [Act.put, zA, zZ, zS, i64_w, i32_w]
                  rfl
                 refine pure_ (i := 25) (N := some 79) (v := ?_) (a' := ?_) mq1726 rfl rfl (any_of HT_.out (by kernel_rfl)) (fun _ _ _ h => h) (Or.inl ⟨by rfl, ?_⟩) ?_ ?_
                 rotate_left
                 ·intro w'
                  go_simp
                  with_reducible rfl
                 rotate_left
                 ·simp only [Act.put, zA, zZ, zS, i64_w, i32_w]
                  rfl
                 refine pure_ (i := 26) (N := some 80) (v := ?_) (a' := ?_) mq1727 rfl rfl (any_of HT_.out (by kernel_rfl)) (fun _ _ _ h => h) (Or.inl ⟨by rfl, ?_⟩) ?_ ?_
                 rotate_left
                 ·intro w'
                  go_simp
                  with_reducible rfl
                 rotate_left
                 ·simp only [Act.put, zA, zZ, zS, i64_w, i32_w]
                  rfl
                 refine pure_ (i := 27) (N := some 81) (v := ?_) (a' := ?_) mq1728 rfl rfl (any_of HT_.out (by kernel_rfl)) (fun _ _ _ h => h) (Or.inl ⟨by rfl, ?_⟩) ?_ ?_
                 rotate_left
                 ·intro w'
                  go_simp
                  with_reducible rfl
                 rotate_left
                 ·simp only [Act.put, zA, zZ, zS, i64_w, i32_w]
                  rfl
                 refine pure_ (i := 28) (N := some 82) (v := ?_) (a' := ?_) mq1729 rfl rfl (any_of HT_.out (by kernel_rfl)) (fun _ _ _ h => h) (Or.inl ⟨by rfl, ?_⟩) ?_ ?_
                 rotate_left
                 ·intro w'
                  go_simp
                  with_reducible rfl
                 rotate_left
                 ·simp only [Act.put, zA, zZ, zS, i64_w, i32_w]
                  rfl
                 refine pure_ (i := 29) (N := some 83) (v := ?_) (a' := ?_) mq1730 rfl rfl (any_of HT_.out (by kernel_rfl)) (fun _ _ _ h => h) (Or.inl ⟨by rfl, ?_⟩) ?_ ?_
                 rotate_left
                 ·intro w'
                  go_simp
                  with_reducible rfl
                 rotate_left
                 ·simp only [Act.put, zA, zZ, zS, i64_w, i32_w]
                  rfl
                 refine pure_ (i := 31) (N := some 85) (v := ?_) (a' := ?_) mq1743 rfl rfl (any_of HT_.out (by kernel_rfl)) (fun _ _ _ h => h) (Or.inl ⟨by rfl, ?_⟩) ?_ ?_
                 rotate_left
                 ·intro w'
                  go_simp
                  with_reducible rfl
                 rotate_left
                 ·simp only [Act.put, zA, zZ, zS, i64_w, i32_w]
                  rfl
                 refine pure_ (i := 32) (N := some 86) (v := ?_) (a' := ?_) mq1744 rfl rfl (any_of HT_.out (by kernel_rfl)) (fun _ _ _ h => h) (Or.inl ⟨by rfl, ?_⟩) ?_ ?_
                 rotate_left
                 ·intro w'
                  go_simp
                  with_reducible rfl
                 rotate_left
                 ·simp only [Act.put, zA, zZ, zS, i64_w, i32_w]
                  rfl
                 refine pure_ (i := 36) (N := some 90) (v := ?_) (a' := ?_) mq1745 rfl rfl (any_of HT_.out (by kernel_rfl)) (fun _ _ _ h => h) (Or.inl ⟨by rfl, ?_⟩) ?_ ?_
                 rotate_left
                 ·intro w'
                  go_simp
                  with_reducible rfl
                 rotate_left
                 ·simp only [Act.put, zA, zZ, zS, i64_w, i32_w]
                  rfl
                 refine take_ (i := 30) (N := some 84) (v := ?_) (a' := ?_) mq1746 rfl rfl (take_ofW HT_.out HW_.out (by kernel_rfl)) (fun _ _ _ h => h) (Or.inl ⟨by rfl, ?_⟩) hHeld ?_ ?_
                 rotate_left
                 ·rintro w' ⟨s0, s1, s2, s3, s4, s5, s6, s7, s8, s9⟩
                  go_simp
                  with_reducible rfl
                 rotate_left
                 ·simp only [Act.put, zA, zZ, zS, i64_w, i32_w]
                  rfl
                 refine pure_ (i := 33) (N := some 87) (v := ?_) (a' := ?_) mq1747 rfl rfl (any_of HT_.out (by kernel_rfl)) (fun _ _ _ h => h) (Or.inl ⟨by rfl, ?_⟩) ?_ ?_
                 rotate_left
                 ·intro w'
                  go_simp
                  with_reducible rfl
                 rotate_left
                 ·simp only [Act.put, zA, zZ, zS, i64_w, i32_w]
                  rfl
                 refine pure_ (i := 34) (N := some 88) (v := ?_) (a' := ?_) mq1748 rfl rfl (any_of HT_.out (by kernel_rfl)) (fun _ _ _ h => h) (Or.inl ⟨by rfl, ?_⟩) ?_ ?_
                 rotate_left
                 ·intro w'
                  go_simp
                  with_reducible rfl
                 rotate_left
                 ·simp only [Act.put, zA, zZ, zS, i64_w, i32_w]
                  rfl
                 refine take_ (i := 35) (N := some 89) (v := ?_) (a' := ?_) mq1737 rfl rfl (take_ofW HT_.out HW_.out (by kernel_rfl)) (fun _ _ _ h => h) (Or.inl ⟨by rfl, ?_⟩) hHeld ?_ ?_
                 rotate_left
                 ·rintro w' ⟨s0, s1, s2, s3, s4, s5, s6, s7, s8, s9⟩
                  go_simp
                  with_reducible rfl
                 rotate_left
                 ·simp only [Act.put, zA, zZ, zS, i64_w, i32_w]
                  rfl
                 refine take_ (i := 37) (N := some 91) (v := ?_) (a' := ?_) mq1738 rfl rfl (take_ofW HT_.out HW_.out (by kernel_rfl)) (fun _ _ _ h => h) (Or.inl ⟨by rfl, ?_⟩) hHeld ?_ ?_
                 rotate_left
                 ·rintro w' ⟨s0, s1, s2, s3, s4, s5, s6, s7, s8, s9⟩
                  go_simp
                  with_reducible rfl
                 rotate_left
                 ·simp only [Act.put, zA, zZ, zS, i64_w, i32_w]
                  rfl
                 refine pure_ (i := 38) (N := some 92) (v := ?_) (a' := ?_) mq1739 rfl rfl (any_of HT_.out (by kernel_rfl)) (fun _ _ _ h => h) (Or.inl ⟨by rfl, ?_⟩) ?_ ?_
                 rotate_left
                 ·intro w'
                  go_simp
                  with_reducible rfl
                 rotate_left
                 ·simp only [Act.put, zA, zZ, zS, i64_w, i32_w]
                  rfl
                 refine pure_ (i := 39) (N := some 93) (v := ?_) (a' := ?_) mq1740 rfl rfl (any_of HT_.out (by kernel_rfl)) (fun _ _ _ h => h) (Or.inl ⟨by rfl, ?_⟩) ?_ ?_
                 rotate_left
                 ·intro w'
                  go_simp
                  with_reducible rfl
                 rotate_left
                 ·simp only [Act.put, zA, zZ, zS, i64_w, i32_w]
                  rfl
                 refine pure_ (i := 40) (N := some 94) (v := ?_) (a' := ?_) mq1741 rfl rfl (any_of HT_.out (by kernel_rfl)) (fun _ _ _ h => h) (Or.inl ⟨by rfl, ?_⟩) ?_ ?_
                 rotate_left
                 ·intro w'
                  go_simp
                  with_reducible rfl
                 rotate_left
                 ·simp only [Act.put, zA, zZ, zS, i64_w, i32_w]
                  rfl
                 refine done_ (done_of HT_.out (by kernel_rfl)) ?_
                 try go_wp2
                 go_ret
                 exact ⟨by first | rfl | (simp [errW_none, errW_some] <;> rfl) | (simp only [← hji50]; first | rfl | (simp [errW_none, errW_some] <;> rfl)) | (simp [*, errW_none, errW_some] <;> rfl), by repeat (first | (with_reducible first | exact HB.out | apply zL | apply zN | apply zD | refine zJ ?_ GE422.out | refine zJ ?_ GE426.out) | exact HB.out)⟩
                ·rw [if_neg c53] at H
                 have c53b0 : decide (((rd_T42 l0_3 x49_2).f1) ≤ ((rd_T42 l0_3 (ji50)).f1)) = false := decide_eq_false c53
                 clear c53
                 have H' := zM H
                 clear H
                 have p425 : 0 ≤ (x49_2 : Int) := zo (by assumption)
                 have q425 : x49_2 < (l0_3.length : Int) := zo (by assumption)
                 obtain ⟨ad425, A425_2, c425_2, e425, hx425_0, hx425_1, hx425_2, hl425_2, hi425_2⟩ := at_T42 HR0_3.out x49_2 p425 q425
                 cases e425
                 replace hx425_0 := (HB.out.cell (zW w _ hx425_0)).trans hx425_0
                 replace hx425_1 := (HB.out.cell (zW w _ hx425_1)).trans hx425_1
                 replace hx425_2 := (HB.out.cell (zW w _ hx425_2)).trans hx425_2
                 have HR425_2 := zM hi425_2
                 have HC425_2 := zM hl425_2
                 clear hi425_2 hl425_2
                 replace p425 := eq_true p425
                 replace q425 := eq_true q425
                 try go_wp2_with (first | ((with_reducible refine gate_dst (N := 5) rfl ?_); (try (refine gate_guard (by rfl) ?_; dsimp only)); refine box_event ?hg (N := 5) ?hd (cs := #[.int .i64 0, .int .i64 0, .slice none 0 0]) (t := 42) ?hr ?_; (case hd => rfl); (case hg => rfl); (case hr => go_simp); intro gb426 hg w60 hbox hb; have n0_ := zM (zb (g := gb422) (o := .cells #[.int .i64 a0_0, .int .i64 a0_1, .slice A0_2 l0_2.length c0_2, .slice (some ad425) l0_3.length c0_3] 25 (0, 0)) (by exact BK422.out) hb); have n1_ := zM (zp HB.out hb); have n2_ := zM (hbox); have n3_ := zM ((by rw [hg]; exact (zs HB.out) : w.heap.size ≤ gb426)); have n4_ := zM ((by rw [hg]; exact (zs HB.out) : w.heap.size ≤ gb426)); have n5_ := zM ((by rw [hg]; exact zt (blk_lt (g := gb422) (o := .cells #[.int .i64 a0_0, .int .i64 a0_1, .slice A0_2 l0_2.length c0_2, .slice (some ad425) l0_3.length c0_3] 25 (0, 0)) (by exact BK422.out)) : gb422 ≠ gb426)); have n6_ := zM ((by rw [hg]; exact Nat.ne_of_gt (blk_lt (g := gb422) (o := .cells #[.int .i64 a0_0, .int .i64 a0_1, .slice A0_2 l0_2.length c0_2, .slice (some ad425) l0_3.length c0_3] 25 (0, 0)) (by exact BK422.out)) : gb426 ≠ gb422)); clear BK422; clear HB; have BK422 := n0_; have HB := n1_; have BK426 := n2_; have GW426 := n3_; have GE426 := n4_; have NB422_426 := n5_; have NB426_422 := n6_; clear n0_ n1_ n2_ n3_ n4_ n5_ n6_; clear hb hbox hg; have hnb61 := NB426_422.out; have hnc61 := NB422_426.out; have hcz62_0 : w60.cell? ⟨gb426, 0, none⟩ = some (.int .i64 0) := (zc BK426.out 0).trans rfl; have hcz62_1 : w60.cell? ⟨gb426, 1, none⟩ = some (.int .i64 0) := (zc BK426.out 1).trans rfl; have hcz62_2 : w60.cell? ⟨gb426, 2, none⟩ = some (.slice none 0 0) := (zc BK426.out 2).trans rfl; have hfz62_0 := zf BK426.out 0; have hfz62_1 := zf BK426.out 1; have hfz62_2 := zf BK426.out 2))
                 have n0_ : Aside0 ((((w60.setCell ⟨gb426, 0, none⟩ (.int .i64 ((rd_T42 l0_3 x49_2).f0))).setCell ⟨gb426, 1, none⟩ (.int .i64 ((rd_T42 l0_3 x49_2).f1))).setCell ⟨gb426, 2, none⟩ (.slice A425_2 ((rd_T42 l0_3 x49_2).f2).length c425_2)).heap[gb422]? = some (.cells #[.int .i64 a0_0, .int .i64 a0_1, .slice A0_2 l0_2.length c0_2, .slice (some ad425) l0_3.length c0_3] 25 (0, 0))) := ⟨by refine zF ?_ NB422_426.out _; refine zF ?_ NB422_426.out _; refine zF ?_ NB422_426.out _; exact BK422.out⟩
                 have n1_ : Aside0 ((((w60.setCell ⟨gb426, 0, none⟩ (.int .i64 ((rd_T42 l0_3 x49_2).f0))).setCell ⟨gb426, 1, none⟩ (.int .i64 ((rd_T42 l0_3 x49_2).f1))).setCell ⟨gb426, 2, none⟩ (.slice A425_2 ((rd_T42 l0_3 x49_2).f2).length c425_2)).heap[gb426]? = some (.cells #[.int .i64 ((rd_T42 l0_3 x49_2).f0), .int .i64 ((rd_T42 l0_3 x49_2).f1), .slice A425_2 ((rd_T42 l0_3 x49_2).f2).length c425_2] 42 (0, 0))) := ⟨by refine zP (cs := #[.int .i64 ((rd_T42 l0_3 x49_2).f0), .int .i64 ((rd_T42 l0_3 x49_2).f1), .slice none 0 0]) ?_ 2 _ rfl; refine zP (cs := #[.int .i64 ((rd_T42 l0_3 x49_2).f0), .int .i64 0, .slice none 0 0]) ?_ 1 _ rfl; refine zP (cs := #[.int .i64 0, .int .i64 0, .slice none 0 0]) ?_ 0 _ rfl; exact BK426.out⟩
                 have n2_ : Aside0 (Below w.heap.size w (((w60.setCell ⟨gb426, 0, none⟩ (.int .i64 ((rd_T42 l0_3 x49_2).f0))).setCell ⟨gb426, 1, none⟩ (.int .i64 ((rd_T42 l0_3 x49_2).f1))).setCell ⟨gb426, 2, none⟩ (.slice A425_2 ((rd_T42 l0_3 x49_2).f2).length c425_2))) := ⟨by repeat (first | (with_reducible first | exact HB.out | apply zL | apply zN | apply zD | refine zJ ?_ GE422.out | refine zJ ?_ GE426.out) | exact HB.out)⟩
                 (try clear BK422)
                 (try clear BK426)
                 (try clear HB)
                 generalize (((w60.setCell ⟨gb426, 0, none⟩ (.int .i64 ((rd_T42 l0_3 x49_2).f0))).setCell ⟨gb426, 1, none⟩ (.int .i64 ((rd_T42 l0_3 x49_2).f1))).setCell ⟨gb426, 2, none⟩ (.slice A425_2 ((rd_T42 l0_3 x49_2).f2).length c425_2)) = w63 at n0_ n1_ n2_ ⊢
                 have BK422 := n0_
                 have BK426 := n1_
                 have HB := n2_
                 clear n0_ n1_ n2_
                 have n0_ := zM (zd BK422.out)
                 have n1_ := zM (zd BK426.out)
                 have n2_ := zM (zD HB.out)
                 clear BK422
                 clear BK426
                 clear HB
                 have BK422 := n0_
                 have BK426 := n1_
                 have HB := n2_
                 clear n0_ n1_ n2_
                 have p428 : 0 ≤ ((ji50) : Int) := zo (by assumption)
                 have q428 : (ji50) < (l0_3.length : Int) := zo (by assumption)
                 obtain ⟨ad428, A428_2, c428_2, e428, hx428_0, hx428_1, hx428_2, hl428_2, hi428_2⟩ := at_T42 HR0_3.out (ji50) p428 q428
                 have hw428_2 := hx428_2
                 have hw428_1 := hx428_1
                 have hw428_0 := hx428_0
                 obtain rfl : ad425 = ad428 := (by injection e428)
                 replace hx428_0 := (HB.out.cell (zW w _ hx428_0)).trans hx428_0
                 replace hx428_1 := (HB.out.cell (zW w _ hx428_1)).trans hx428_1
                 replace hx428_2 := (HB.out.cell (zW w _ hx428_2)).trans hx428_2
                 have HR428_2 := zM hi428_2
                 have HC428_2 := zM hl428_2
                 clear hi428_2 hl428_2
                 replace p428 := eq_true p428
                 replace q428 := eq_true q428
                 refine start_ (n := 41) (S := fun w' => w'.cell? ⟨gb426, 0, none⟩ = some (.int .i64 ((rd_T42 l0_3 x49_2).f0)) ∧ w'.cell? ⟨gb426, 1, none⟩ = some (.int .i64 ((rd_T42 l0_3 x49_2).f1)) ∧ w'.cell? ⟨gb426, 2, none⟩ = some (.slice A425_2 ((rd_T42 l0_3 x49_2).f2).length c425_2) ∧ w'.cell? ⟨gb422, 0, none⟩ = some (.int .i64 a0_0) ∧ w'.cell? ⟨gb422, 1, none⟩ = some (.int .i64 a0_1) ∧ w'.cell? ⟨gb422, 2, none⟩ = some (.slice A0_2 l0_2.length c0_2) ∧ w'.cell? ⟨gb422, 3, none⟩ = some (.slice (some ad425) l0_3.length c0_3) ∧ w'.cell? (ad425.add (((ji50)).toNat * 3)) = some (.int .i64 ((rd_T42 l0_3 (ji50)).f0)) ∧ w'.cell? ⟨(ad425.add (((ji50)).toNat * 3)).block, (ad425.add (((ji50)).toNat * 3)).off + 1, none⟩ = some (.int .i64 ((rd_T42 l0_3 (ji50)).f1)) ∧ w'.cell? ⟨(ad425.add (((ji50)).toNat * 3)).block, (ad425.add (((ji50)).toNat * 3)).off + 2, none⟩ = some (.slice A428_2 ((rd_T42 l0_3 (ji50)).f2).length c428_2)) (ds := []) mq170 (by kernel_rfl) rfl rfl ⟨(zc BK426.out 0).trans rfl, (zc BK426.out 1).trans rfl, (zc BK426.out 2).trans rfl, (zc BK422.out 0).trans rfl, (zc BK422.out 1).trans rfl, (zc BK422.out 2).trans rfl, (zc BK422.out 3).trans rfl, ((HB.out.cell (zW w _ hw428_0)).trans hw428_0), ((HB.out.cell (zW w _ hw428_1)).trans hw428_1), ((HB.out.cell (zW w _ hw428_2)).trans hw428_2)⟩ (fun hHeld => ?_); refine with_tabW lane_Right.tab7 lane_Right.bits7 (fun HT_ HW_ => ?_)
                 generalize w63.drew = w64 at BK422 BK426 HB HR428_2 hx428_0 hx428_1 hx428_2 hHeld ⊢
                 refine take_ (i := 0) (N := some 54) (v := ?_) (a' := ?_) mq171 rfl rfl (take_ofW HT_.out HW_.out (by kernel_rfl)) (fun _ _ _ h => h) (Or.inl ⟨by rfl, ?_⟩) hHeld ?_ ?_
                 rotate_left
                 ·rintro w' ⟨s0, s1, s2, s3, s4, s5, s6, s7, s8, s9⟩
                  go_simp
                  with_reducible rfl
                 rotate_left
                 ·simp only [Act.put, zA, zZ, zS, i64_w, i32_w]
                  rfl
                 refine one_ (i := 1) (N := some 55) mq172 rfl rfl (one_of HT_.out (by kernel_rfl)) (by decide) (fun K hK => ?_)
                 refine goes_ Try.func39 (by kernel_rfl) rfl #[.agg #[.int .i64 ((rd_T42 l0_3 x49_2).f0), .int .i64 ((rd_T42 l0_3 x49_2).f1), .slice A425_2 ((rd_T42 l0_3 x49_2).f2).length c425_2]] (by rfl) rfl rfl (by (try simp only [List.map_toArray, List.map_cons, List.map_nil]); first | done | rfl) ?_
                 with_reducible refine (batch_May.calls k2 ((rd_T42 l0_3 x49_2).f0) ((rd_T42 l0_3 x49_2).f1) _ _ ((rd_T42 l0_3 x49_2).f2) true _ ?side1 ?side2 A32.out).mono ?_
                 (case side1 => exact (zcb HR425_2.out HB.out))
                 (case side2 => exact HC425_2.out)
                 rintro e w65 ⟨rfl, hb⟩
                 refine ⟨_, rfl, ?_⟩
                 have n0_ := zM (zb (g := gb422) (o := .cells #[.int .i64 a0_0, .int .i64 a0_1, .slice A0_2 l0_2.length c0_2, .slice (some ad425) l0_3.length c0_3] 25 (0, 0)) (by exact BK422.out) hb)
                 have n1_ := zM (zb (g := gb426) (o := .cells #[.int .i64 ((rd_T42 l0_3 x49_2).f0), .int .i64 ((rd_T42 l0_3 x49_2).f1), .slice A425_2 ((rd_T42 l0_3 x49_2).f2).length c425_2] 42 (0, 0)) (by exact BK426.out) hb)
                 have n2_ := zM (zp HB.out hb)
                 clear BK422
                 clear BK426
                 clear HB
                 have BK422 := n0_
                 have BK426 := n1_
                 have HB := n2_
                 clear n0_ n1_ n2_
                 (try clear hb)
                 (try clear hb2)
                 (try clear hk)
                 (try clear hi)
                 refine hK.out _ _ ⟨(zc BK426.out 0).trans rfl, (zc BK426.out 1).trans rfl, (zc BK426.out 2).trans rfl, (zc BK422.out 0).trans rfl, (zc BK422.out 1).trans rfl, (zc BK422.out 2).trans rfl, (zc BK422.out 3).trans rfl, ((HB.out.cell (zW w _ hw428_0)).trans hw428_0), ((HB.out.cell (zW w _ hw428_1)).trans hw428_1), ((HB.out.cell (zW w _ hw428_2)).trans hw428_2)⟩ (fun hHeld => ?_)
                 clear hK K
                 refine norm_ (a' := ?_) ?_ ?_
                 rotate_left
                 ·show Act.put _ (some 55) _ = _
                  simp only [Act.put, zA, zZ, zS, i64_w, i32_w]
                  rfl
                 refine pure_ (i := 2) (N := some 56) (v := ?_) (a' := ?_) mq173 rfl rfl (any_of HT_.out (by kernel_rfl)) (fun _ _ _ h => h) (Or.inl ⟨by rfl, ?_⟩) ?_ ?_
                 rotate_left
                 ·intro w'
                  go_simp
                  with_reducible rfl
                 rotate_left
                 ·simp only [Act.put, zA, zZ, zS, i64_w, i32_w]
                  rfl
                 refine pure_ (i := 3) (N := some 57) (v := ?_) (a' := ?_) mq174 rfl rfl (any_of HT_.out (by kernel_rfl)) (fun _ _ _ h => h) (Or.inl ⟨by rfl, ?_⟩) ?_ ?_
                 rotate_left
                 ·intro w'
                  go_simp
                  with_reducible rfl
                 rotate_left
                 ·simp only [Act.put, zA, zZ, zS, i64_w, i32_w]
                  rfl
                 refine pure_ (i := 4) (N := some 58) (v := ?_) (a' := ?_) mq175 rfl rfl (any_of HT_.out (by kernel_rfl)) (fun _ _ _ h => h) (Or.inl ⟨by rfl, ?_⟩) ?_ ?_
                 rotate_left
                 ·intro w'
                  go_simp
                  with_reducible rfl
                 rotate_left
                 ·simp only [Act.put, zA, zZ, zS, i64_w, i32_w]
                  rfl
                 refine pure_ (i := 6) (N := some 60) (v := ?_) (a' := ?_) mq176 rfl rfl (any_of HT_.out (by kernel_rfl)) (fun _ _ _ h => h) (Or.inl ⟨by rfl, ?_⟩) ?_ ?_
                 rotate_left
                 ·intro w'
                  go_simp
                  with_reducible rfl
                 rotate_left
                 ·simp only [Act.put, zA, zZ, zS, i64_w, i32_w]
                  rfl
                 refine take_ (i := 5) (N := some 59) (v := ?_) (a' := ?_) mq177 rfl rfl (take_ofW HT_.out HW_.out (by kernel_rfl)) (fun _ _ _ h => h) (Or.inl ⟨by rfl, ?_⟩) hHeld ?_ ?_
                 rotate_left
                 ·rintro w' ⟨s0, s1, s2, s3, s4, s5, s6, s7, s8, s9⟩
                  go_simp
                  with_reducible rfl
                 rotate_left
                 ·simp only [Act.put, zA, zZ, zS, i64_w, i32_w]
                  rfl
                 refine take_ (i := 7) (N := some 61) (v := ?_) (a' := ?_) mq178 rfl rfl (take_ofW HT_.out HW_.out (by kernel_rfl)) (fun _ _ _ h => h) (Or.inl ⟨by rfl, ?_⟩) hHeld ?_ ?_
                 rotate_left
                 ·rintro w' ⟨s0, s1, s2, s3, s4, s5, s6, s7, s8, s9⟩
                  go_simp
                  with_reducible rfl
                 rotate_left
                 ·simp only [Act.put, zA, zZ, zS, i64_w, i32_w]
                  rfl
                 refine pure_ (i := 8) (N := some 62) (v := ?_) (a' := ?_) mq179 rfl rfl (any_of HT_.out (by kernel_rfl)) (fun _ _ _ h => h) (Or.inl ⟨by rfl, ?_⟩) ?_ ?_
                 rotate_left
                 ·intro w'
                  go_simp
                  with_reducible rfl
                 rotate_left
                 ·simp only [Act.put, zA, zZ, zS, i64_w, i32_w]
                  rfl
                 refine pure_ (i := 9) (N := some 63) (v := ?_) (a' := ?_) mq1710 rfl rfl (any_of HT_.out (by kernel_rfl)) (fun _ _ _ h => h) (Or.inl ⟨by rfl, ?_⟩) ?_ ?_
                 rotate_left
                 ·intro w'
                  go_simp
                  with_reducible rfl
                 rotate_left
                 ·simp only [Act.put, zA, zZ, zS, i64_w, i32_w]
                  rfl
                 refine pure_ (i := 10) (N := some 64) (v := ?_) (a' := ?_) mq1711 rfl rfl (any_of HT_.out (by kernel_rfl)) (fun _ _ _ h => h) (Or.inl ⟨by rfl, ?_⟩) ?_ ?_
                 rotate_left
                 ·intro w'
                  go_simp
                  with_reducible rfl
                 rotate_left
                 ·simp only [Act.put, zA, zZ, zS, i64_w, i32_w]
                  rfl
                 refine pure_ (i := 11) (N := some 65) (v := ?_) (a' := ?_) mq1712 rfl rfl (any_of HT_.out (by kernel_rfl)) (fun _ _ _ h => h) (Or.inl ⟨by rfl, ?_⟩) ?_ ?_
                 rotate_left
                 ·intro w'
                  go_simp
                  with_reducible rfl
                 rotate_left
                 ·simp only [Act.put, zA, zZ, zS, i64_w, i32_w]
                  rfl
                 refine pure_ (i := 13) (N := some 67) (v := ?_) (a' := ?_) mq1713 rfl rfl (any_of HT_.out (by kernel_rfl)) (fun _ _ _ h => h) (Or.inl ⟨by rfl, ?_⟩) ?_ ?_
                 rotate_left
                 ·intro w'
                  go_simp
                  with_reducible rfl
                 rotate_left
                 ·simp only [Act.put, zA, zZ, zS, i64_w, i32_w]
                  rfl
                 refine take_ (i := 12) (N := some 66) (v := ?_) (a' := ?_) mq1714 rfl rfl (take_ofW HT_.out HW_.out (by kernel_rfl)) (fun _ _ _ h => h) (Or.inl ⟨by rfl, ?_⟩) hHeld ?_ ?_
                 rotate_left
                 ·rintro w' ⟨s0, s1, s2, s3, s4, s5, s6, s7, s8, s9⟩
                  go_simp
                  with_reducible rfl
                 rotate_left
                 ·simp only [Act.put, zA, zZ, zS, i64_w, i32_w]
                  rfl
                 refine take_ (i := 14) (N := some 68) (v := ?_) (a' := ?_) mq1715 rfl rfl (take_ofW HT_.out HW_.out (by kernel_rfl)) (fun _ _ _ h => h) (Or.inl ⟨by rfl, ?_⟩) hHeld ?_ ?_
                 rotate_left
                 ·rintro w' ⟨s0, s1, s2, s3, s4, s5, s6, s7, s8, s9⟩
                  go_simp
                  with_reducible rfl
                 rotate_left
                 ·simp only [Act.put, zA, zZ, zS, i64_w, i32_w]
                  rfl
                 refine pure_ (i := 15) (N := some 69) (v := ?_) (a' := ?_) mq1716 rfl rfl (any_of HT_.out (by kernel_rfl)) (fun _ _ _ h => h) (Or.inl ⟨by rfl, ?_⟩) ?_ ?_
                 rotate_left
                 ·intro w'
                  go_simp
                  with_reducible rfl
                 rotate_left
                 ·simp only [Act.put, zA, zZ, zS, i64_w, i32_w]
                  rfl
                 refine pure_ (i := 16) (N := some 70) (v := ?_) (a' := ?_) mq1717 rfl rfl (any_of HT_.out (by kernel_rfl)) (fun _ _ _ h => h) (Or.inl ⟨by rfl, ?_⟩) ?_ ?_
                 rotate_left
                 ·intro w'
                  go_simp
                  with_reducible rfl
                 rotate_left
                 ·simp only [Act.put, zA, zZ, zS, i64_w, i32_w]
                  rfl
                 refine pure_ (i := 17) (N := some 71) (v := ?_) (a' := ?_) mq1718 rfl rfl (any_of HT_.out (by kernel_rfl)) (fun _ _ _ h => h) (Or.inl ⟨by rfl, ?_⟩) ?_ ?_
                 rotate_left
                 ·intro w'
                  go_simp
                  with_reducible rfl
                 rotate_left
                 ·simp only [Act.put, zA, zZ, zS, i64_w, i32_w]
                  rfl
                 refine pure_ (i := 18) (N := some 72) (v := ?_) (a' := ?_) mq1719 rfl rfl (any_of HT_.out (by kernel_rfl)) (fun _ _ _ h => h) (Or.inl ⟨by rfl, ?_⟩) ?_ ?_
                 rotate_left
                 ·intro w'
                  go_simp
                  with_reducible rfl
                 rotate_left
                 ·simp only [Act.put, zA, zZ, zS, i64_w, i32_w]
                  rfl
                 refine pure_ (i := 20) (N := some 74) (v := ?_) (a' := ?_) mq1742 rfl rfl (any_of HT_.out (by kernel_rfl)) (fun _ _ _ h => h) (Or.inl ⟨by rfl, ?_⟩) ?_ ?_
                 rotate_left
                 ·intro w'
                  go_simp
                  with_reducible rfl
                 rotate_left
                 ·simp only [Act.put, zA, zZ, zS, i64_w, i32_w]
                  rfl
                 refine take_ (i := 19) (N := some 73) (v := ?_) (a' := ?_) mq1721 rfl rfl (take_ofW HT_.out HW_.out (by kernel_rfl)) (fun _ _ _ h => h) (Or.inl ⟨by rfl, ?_⟩) hHeld ?_ ?_
                 rotate_left
                 ·rintro w' ⟨s0, s1, s2, s3, s4, s5, s6, s7, s8, s9⟩
                  go_simp
                  with_reducible rfl
                 rotate_left
                 ·simp only [Act.put, zA, zZ, zS, i64_w, i32_w]
                  rfl
                 refine take_ (i := 21) (N := some 75) (v := ?_) (a' := ?_) mq1722 rfl rfl (take_ofW HT_.out HW_.out (by kernel_rfl)) (fun _ _ _ h => h) (Or.inl ⟨by rfl, ?_⟩) hHeld ?_ ?_
                 rotate_left
                 ·rintro w' ⟨s0, s1, s2, s3, s4, s5, s6, s7, s8, s9⟩
                  go_simp
                  with_reducible rfl
                 rotate_left
                 ·simp only [Act.put, zA, zZ, zS, i64_w, i32_w]
                  rfl
                 refine pure_ (i := 22) (N := some 76) (v := ?_) (a' := ?_) mq1723 rfl rfl (any_of HT_.out (by kernel_rfl)) (fun _ _ _ h => h) (Or.inl ⟨by rfl, ?_⟩) ?_ ?_
                 rotate_left
                 ·intro w'
                  go_simp
                  with_reducible rfl
                 rotate_left
                 ·simp only [Act.put, zA, zZ, zS, i64_w, i32_w]
                  rfl
                 refine pure_ (i := 23) (N := some 77) (v := ?_) (a' := ?_) mq1724 rfl rfl (any_of HT_.out (by kernel_rfl)) (fun _ _ _ h => h) (Or.inl ⟨by rfl, ?_⟩) ?_ ?_
                 rotate_left
                 ·intro w'
                  go_simp
                  with_reducible rfl
                 rotate_left
                 ·simp only [Act.put, zA, zZ, zS, i64_w, i32_w]
                  rfl
                 refine pure_ (i := 24) (N := some 78) (v := ?_) (a' := ?_) mq1725 rfl rfl (any_of HT_.out (by kernel_rfl)) (fun _ _ _ h => h) (Or.inl ⟨by rfl, ?_⟩) ?_ ?_
                 rotate_left
                 ·intro w'
                  go_simp
                  with_reducible rfl
                 rotate_left
                 ·simp only [Act.put, zA, zZ, zS, i64_w, i32_w]
                  rfl
                 refine pure_ (i := 25) (N := some 79) (v := ?_) (a' := ?_) mq1726 rfl rfl (any_of HT_.out (by kernel_rfl)) (fun _ _ _ h => h) (Or.inl ⟨by rfl, ?_⟩) ?_ ?_
                 rotate_left
                 ·intro w'
                  go_simp
                  with_reducible rfl
                 rotate_left
                 ·simp only [Act.put, zA, zZ, zS, i64_w, i32_w]
                  rfl
                 refine pure_ (i := 26) (N := some 80) (v := ?_) (a' := ?_) mq1727 rfl rfl (any_of HT_.out (by kernel_rfl)) (fun _ _ _ h => h) (Or.inl ⟨by rfl, ?_⟩) ?_ ?_
                 rotate_left
                 ·intro w'
                  go_simp
                  with_reducible rfl
                 rotate_left
                 ·simp only [Act.put, zA, zZ, zS, i64_w, i32_w]
                  rfl
                 refine pure_ (i := 27) (N := some 81) (v := ?_) (a' := ?_) mq1728 rfl rfl (any_of HT_.out (by kernel_rfl)) (fun _ _ _ h => h) (Or.inl ⟨by rfl, ?_⟩) ?_ ?_
                 rotate_left
                 ·intro w'
                  go_simp
                  with_reducible rfl
                 rotate_left
                 ·simp only [Act.put, zA, zZ, zS, i64_w, i32_w]
                  rfl
                 refine pure_ (i := 28) (N := some 82) (v := ?_) (a' := ?_) mq1729 rfl rfl (any_of HT_.out (by kernel_rfl)) (fun _ _ _ h => h) (Or.inl ⟨by rfl, ?_⟩) ?_ ?_
                 rotate_left
                 ·intro w'
                  go_simp
                  with_reducible rfl
                 rotate_left
                 ·simp only [Act.put, zA, zZ, zS, i64_w, i32_w]
                  rfl
                 refine pure_ (i := 29) (N := some 83) (v := ?_) (a' := ?_) mq1730 rfl rfl (any_of HT_.out (by kernel_rfl)) (fun _ _ _ h => h) (Or.inl ⟨by rfl, ?_⟩) ?_ ?_
                 rotate_left
                 ·intro w'
                  go_simp
                  with_reducible rfl
                 rotate_left
                 ·simp only [Act.put, zA, zZ, zS, i64_w, i32_w]
                  rfl
                 refine pure_ (i := 31) (N := some 85) (v := ?_) (a' := ?_) mq1743 rfl rfl (any_of HT_.out (by kernel_rfl)) (fun _ _ _ h => h) (Or.inl ⟨by rfl, ?_⟩) ?_ ?_
                 rotate_left
                 ·intro w'
                  go_simp
                  with_reducible rfl
                 rotate_left
                 ·simp only [Act.put, zA, zZ, zS, i64_w, i32_w]
                  rfl
                 refine pure_ (i := 32) (N := some 86) (v := ?_) (a' := ?_) mq1744 rfl rfl (any_of HT_.out (by kernel_rfl)) (fun _ _ _ h => h) (Or.inl ⟨by rfl, ?_⟩) ?_ ?_
                 rotate_left
                 ·intro w'
                  go_simp
                  with_reducible rfl
                 rotate_left
                 ·simp only [Act.put, zA, zZ, zS, i64_w, i32_w]
                  rfl
                 refine pure_ (i := 36) (N := some 90) (v := ?_) (a' := ?_) mq1745 rfl rfl (any_of HT_.out (by kernel_rfl)) (fun _ _ _ h => h) (Or.inl ⟨by rfl, ?_⟩) ?_ ?_
                 rotate_left
                 ·intro w'
                  go_simp
                  with_reducible rfl
                 rotate_left
                 ·simp only [Act.put, zA, zZ, zS, i64_w, i32_w]
                  rfl
                 refine take_ (i := 30) (N := some 84) (v := ?_) (a' := ?_) mq1746 rfl rfl (take_ofW HT_.out HW_.out (by kernel_rfl)) (fun _ _ _ h => h) (Or.inl ⟨by rfl, ?_⟩) hHeld ?_ ?_
                 rotate_left
                 ·rintro w' ⟨s0, s1, s2, s3, s4, s5, s6, s7, s8, s9⟩
                  go_simp
                  with_reducible rfl
                 rotate_left
                 ·simp only [Act.put, zA, zZ, zS, i64_w, i32_w]
                  rfl
                 refine pure_ (i := 33) (N := some 87) (v := ?_) (a' := ?_) mq1747 rfl rfl (any_of HT_.out (by kernel_rfl)) (fun _ _ _ h => h) (Or.inl ⟨by rfl, ?_⟩) ?_ ?_
                 rotate_left
                 ·intro w'
                  go_simp
                  with_reducible rfl
                 rotate_left
                 ·simp only [Act.put, zA, zZ, zS, i64_w, i32_w]
                  rfl
                 refine pure_ (i := 34) (N := some 88) (v := ?_) (a' := ?_) mq1748 rfl rfl (any_of HT_.out (by kernel_rfl)) (fun _ _ _ h => h) (Or.inl ⟨by rfl, ?_⟩) ?_ ?_
                 rotate_left
                 ·intro w'
                  go_simp
                  with_reducible rfl
                 rotate_left
                 ·simp only [Act.put, zA, zZ, zS, i64_w, i32_w]
                  rfl
                 refine take_ (i := 35) (N := some 89) (v := ?_) (a' := ?_) mq1737 rfl rfl (take_ofW HT_.out HW_.out (by kernel_rfl)) (fun _ _ _ h => h) (Or.inl ⟨by rfl, ?_⟩) hHeld ?_ ?_
                 rotate_left
                 ·rintro w' ⟨s0, s1, s2, s3, s4, s5, s6, s7, s8, s9⟩
                  go_simp
                  with_reducible rfl
                 rotate_left
                 ·simp only [Act.put, zA, zZ, zS, i64_w, i32_w]
                  rfl
                 refine take_ (i := 37) (N := some 91) (v := ?_) (a' := ?_) mq1738 rfl rfl (take_ofW HT_.out HW_.out (by kernel_rfl)) (fun _ _ _ h => h) (Or.inl ⟨by rfl, ?_⟩) hHeld ?_ ?_
                 rotate_left
                 ·rintro w' ⟨s0, s1, s2, s3, s4, s5, s6, s7, s8, s9⟩
                  go_simp
                  with_reducible rfl
                 rotate_left
                 ·simp only [Act.put, zA, zZ, zS, i64_w, i32_w]
                  rfl
                 refine pure_ (i := 38) (N := some 92) (v := ?_) (a' := ?_) mq1739 rfl rfl (any_of HT_.out (by kernel_rfl)) (fun _ _ _ h => h) (Or.inl ⟨by rfl, ?_⟩) ?_ ?_
                 rotate_left
                 ·intro w'
                  go_simp
                  with_reducible rfl
                 rotate_left
                 ·simp only [Act.put, zA, zZ, zS, i64_w, i32_w]
                  rfl
                 refine pure_ (i := 39) (N := some 93) (v := ?_) (a' := ?_) mq1740 rfl rfl (any_of HT_.out (by kernel_rfl)) (fun _ _ _ h => h) (Or.inl ⟨by rfl, ?_⟩) ?_ ?_
                 rotate_left
                 ·intro w'
                  go_simp
                  with_reducible rfl
                 rotate_left
                 ·simp only [Act.put, zA, zZ, zS, i64_w, i32_w]
                  rfl
                 refine pure_ (i := 40) (N := some 94) (v := ?_) (a' := ?_) mq1741 rfl rfl (any_of HT_.out (by kernel_rfl)) (fun _ _ _ h => h) (Or.inl ⟨by rfl, ?_⟩) ?_ ?_
                 rotate_left
                 ·intro w'
                  go_simp
                  with_reducible rfl
                 rotate_left
                 ·simp only [Act.put, zA, zZ, zS, i64_w, i32_w]
                  rfl
                 refine done_ (done_of HT_.out (by kernel_rfl)) ?_
                 try go_wp2
                 go_roundg k2
                 case measure => have := HJ1.out; have := HK2.out; omega
                 case rel => exact ⟨(wrap64 (x49_2 + 1)), rfl, H', ⟨by have := HJ1.out; have := HK2.out; omega⟩, ⟨by exact BK422.out⟩, ⟨by repeat (first | (with_reducible first | exact HB.out | apply zL | apply zN | apply zD | refine zJ ?_ GE422.out | refine zJ ?_ GE426.out) | exact HB.out)⟩⟩
               ·rw [if_neg c52] at H
                exact absurd H (by simp)
              ·rw [if_neg c51] at H
               exact absurd H (by simp)
             ·rw [if_neg c49] at H
              have c49b0 : decide (0 < x49_2) = false := decide_eq_false c49
              clear c49
              have H' := zM H
              clear H
              have p425 : 0 ≤ (x49_2 : Int) := zo (by assumption)
              have q425 : x49_2 < (l0_3.length : Int) := zo (by assumption)
              obtain ⟨ad425, A425_2, c425_2, e425, hx425_0, hx425_1, hx425_2, hl425_2, hi425_2⟩ := at_T42 HR0_3.out x49_2 p425 q425
              cases e425
              replace hx425_0 := (HB.out.cell (zW w _ hx425_0)).trans hx425_0
              replace hx425_1 := (HB.out.cell (zW w _ hx425_1)).trans hx425_1
              replace hx425_2 := (HB.out.cell (zW w _ hx425_2)).trans hx425_2
              have HR425_2 := zM hi425_2
              have HC425_2 := zM hl425_2
              clear hi425_2 hl425_2
              replace p425 := eq_true p425
              replace q425 := eq_true q425
              try go_wp2_with (first | ((with_reducible refine gate_dst (N := 5) rfl ?_); (try (refine gate_guard (by rfl) ?_; dsimp only)); refine box_event ?hg (N := 5) ?hd (cs := #[.int .i64 0, .int .i64 0, .slice none 0 0]) (t := 42) ?hr ?_; (case hd => rfl); (case hg => rfl); (case hr => go_simp); intro gb426 hg w66 hbox hb; have n0_ := zM (zb (g := gb422) (o := .cells #[.int .i64 a0_0, .int .i64 a0_1, .slice A0_2 l0_2.length c0_2, .slice (some ad425) l0_3.length c0_3] 25 (0, 0)) (by exact BK422.out) hb); have n1_ := zM (zp HB.out hb); have n2_ := zM (hbox); have n3_ := zM ((by rw [hg]; exact (zs HB.out) : w.heap.size ≤ gb426)); have n4_ := zM ((by rw [hg]; exact (zs HB.out) : w.heap.size ≤ gb426)); have n5_ := zM ((by rw [hg]; exact zt (blk_lt (g := gb422) (o := .cells #[.int .i64 a0_0, .int .i64 a0_1, .slice A0_2 l0_2.length c0_2, .slice (some ad425) l0_3.length c0_3] 25 (0, 0)) (by exact BK422.out)) : gb422 ≠ gb426)); have n6_ := zM ((by rw [hg]; exact Nat.ne_of_gt (blk_lt (g := gb422) (o := .cells #[.int .i64 a0_0, .int .i64 a0_1, .slice A0_2 l0_2.length c0_2, .slice (some ad425) l0_3.length c0_3] 25 (0, 0)) (by exact BK422.out)) : gb426 ≠ gb422)); clear BK422; clear HB; have BK422 := n0_; have HB := n1_; have BK426 := n2_; have GW426 := n3_; have GE426 := n4_; have NB422_426 := n5_; have NB426_422 := n6_; clear n0_ n1_ n2_ n3_ n4_ n5_ n6_; clear hb hbox hg; have hnb67 := NB426_422.out; have hnc67 := NB422_426.out; have hcz68_0 : w66.cell? ⟨gb426, 0, none⟩ = some (.int .i64 0) := (zc BK426.out 0).trans rfl; have hcz68_1 : w66.cell? ⟨gb426, 1, none⟩ = some (.int .i64 0) := (zc BK426.out 1).trans rfl; have hcz68_2 : w66.cell? ⟨gb426, 2, none⟩ = some (.slice none 0 0) := (zc BK426.out 2).trans rfl; have hfz68_0 := zf BK426.out 0; have hfz68_1 := zf BK426.out 1; have hfz68_2 := zf BK426.out 2))
              have n0_ : Aside0 ((((w66.setCell ⟨gb426, 0, none⟩ (.int .i64 ((rd_T42 l0_3 x49_2).f0))).setCell ⟨gb426, 1, none⟩ (.int .i64 ((rd_T42 l0_3 x49_2).f1))).setCell ⟨gb426, 2, none⟩ (.slice A425_2 ((rd_T42 l0_3 x49_2).f2).length c425_2)).heap[gb422]? = some (.cells #[.int .i64 a0_0, .int .i64 a0_1, .slice A0_2 l0_2.length c0_2, .slice (some ad425) l0_3.length c0_3] 25 (0, 0))) := ⟨by refine zF ?_ NB422_426.out _; refine zF ?_ NB422_426.out _; refine zF ?_ NB422_426.out _; exact BK422.out⟩
              have n1_ : Aside0 ((((w66.setCell ⟨gb426, 0, none⟩ (.int .i64 ((rd_T42 l0_3 x49_2).f0))).setCell ⟨gb426, 1, none⟩ (.int .i64 ((rd_T42 l0_3 x49_2).f1))).setCell ⟨gb426, 2, none⟩ (.slice A425_2 ((rd_T42 l0_3 x49_2).f2).length c425_2)).heap[gb426]? = some (.cells #[.int .i64 ((rd_T42 l0_3 x49_2).f0), .int .i64 ((rd_T42 l0_3 x49_2).f1), .slice A425_2 ((rd_T42 l0_3 x49_2).f2).length c425_2] 42 (0, 0))) := ⟨by refine zP (cs := #[.int .i64 ((rd_T42 l0_3 x49_2).f0), .int .i64 ((rd_T42 l0_3 x49_2).f1), .slice none 0 0]) ?_ 2 _ rfl; refine zP (cs := #[.int .i64 ((rd_T42 l0_3 x49_2).f0), .int .i64 0, .slice none 0 0]) ?_ 1 _ rfl; refine zP (cs := #[.int .i64 0, .int .i64 0, .slice none 0 0]) ?_ 0 _ rfl; exact BK426.out⟩
              have n2_ : Aside0 (Below w.heap.size w (((w66.setCell ⟨gb426, 0, none⟩ (.int .i64 ((rd_T42 l0_3 x49_2).f0))).setCell ⟨gb426, 1, none⟩ (.int .i64 ((rd_T42 l0_3 x49_2).f1))).setCell ⟨gb426, 2, none⟩ (.slice A425_2 ((rd_T42 l0_3 x49_2).f2).length c425_2))) := ⟨by repeat (first | (with_reducible first | exact HB.out | apply zL | apply zN | apply zD | refine zJ ?_ GE422.out | refine zJ ?_ GE426.out) | exact HB.out)⟩
              (try clear BK422)
              (try clear BK426)
              (try clear HB)
              generalize (((w66.setCell ⟨gb426, 0, none⟩ (.int .i64 ((rd_T42 l0_3 x49_2).f0))).setCell ⟨gb426, 1, none⟩ (.int .i64 ((rd_T42 l0_3 x49_2).f1))).setCell ⟨gb426, 2, none⟩ (.slice A425_2 ((rd_T42 l0_3 x49_2).f2).length c425_2)) = w69 at n0_ n1_ n2_ ⊢
              have BK422 := n0_
              have BK426 := n1_
              have HB := n2_
              clear n0_ n1_ n2_
              have n0_ := zM (zd BK422.out)
              have n1_ := zM (zd BK426.out)
              have n2_ := zM (zD HB.out)
              clear BK422
              clear BK426
              clear HB
              have BK422 := n0_
              have BK426 := n1_
              have HB := n2_
              clear n0_ n1_ n2_
              refine start_ (n := 41) (S := fun w' => w'.cell? ⟨gb426, 0, none⟩ = some (.int .i64 ((rd_T42 l0_3 x49_2).f0)) ∧ w'.cell? ⟨gb426, 1, none⟩ = some (.int .i64 ((rd_T42 l0_3 x49_2).f1)) ∧ w'.cell? ⟨gb426, 2, none⟩ = some (.slice A425_2 ((rd_T42 l0_3 x49_2).f2).length c425_2) ∧ w'.cell? ⟨gb422, 0, none⟩ = some (.int .i64 a0_0) ∧ w'.cell? ⟨gb422, 1, none⟩ = some (.int .i64 a0_1) ∧ w'.cell? ⟨gb422, 2, none⟩ = some (.slice A0_2 l0_2.length c0_2) ∧ w'.cell? ⟨gb422, 3, none⟩ = some (.slice (some ad425) l0_3.length c0_3)) (ds := []) mq170 (by kernel_rfl) rfl rfl ⟨(zc BK426.out 0).trans rfl, (zc BK426.out 1).trans rfl, (zc BK426.out 2).trans rfl, (zc BK422.out 0).trans rfl, (zc BK422.out 1).trans rfl, (zc BK422.out 2).trans rfl, (zc BK422.out 3).trans rfl⟩ (fun hHeld => ?_); refine with_tabW lane_Right.tab7 lane_Right.bits7 (fun HT_ HW_ => ?_)
              generalize w69.drew = w70 at BK422 BK426 HB hHeld ⊢
              refine take_ (i := 0) (N := some 54) (v := ?_) (a' := ?_) mq171 rfl rfl (take_ofW HT_.out HW_.out (by kernel_rfl)) (fun _ _ _ h => h) (Or.inl ⟨by rfl, ?_⟩) hHeld ?_ ?_
              rotate_left
              ·rintro w' ⟨s0, s1, s2, s3, s4, s5, s6⟩
               go_simp
               with_reducible rfl
              rotate_left
              ·simp only [Act.put, zA, zZ, zS, i64_w, i32_w]
               rfl
              refine one_ (i := 1) (N := some 55) mq172 rfl rfl (one_of HT_.out (by kernel_rfl)) (by decide) (fun K hK => ?_)
              refine goes_ Try.func39 (by kernel_rfl) rfl #[.agg #[.int .i64 ((rd_T42 l0_3 x49_2).f0), .int .i64 ((rd_T42 l0_3 x49_2).f1), .slice A425_2 ((rd_T42 l0_3 x49_2).f2).length c425_2]] (by rfl) rfl rfl (by (try simp only [List.map_toArray, List.map_cons, List.map_nil]); first | done | rfl) ?_
              with_reducible refine (batch_May.calls k2 ((rd_T42 l0_3 x49_2).f0) ((rd_T42 l0_3 x49_2).f1) _ _ ((rd_T42 l0_3 x49_2).f2) true _ ?side1 ?side2 A32.out).mono ?_
              (case side1 => exact (zcb HR425_2.out HB.out))
              (case side2 => exact HC425_2.out)
              rintro e w71 ⟨rfl, hb⟩
              refine ⟨_, rfl, ?_⟩
              have n0_ := zM (zb (g := gb422) (o := .cells #[.int .i64 a0_0, .int .i64 a0_1, .slice A0_2 l0_2.length c0_2, .slice (some ad425) l0_3.length c0_3] 25 (0, 0)) (by exact BK422.out) hb)
              have n1_ := zM (zb (g := gb426) (o := .cells #[.int .i64 ((rd_T42 l0_3 x49_2).f0), .int .i64 ((rd_T42 l0_3 x49_2).f1), .slice A425_2 ((rd_T42 l0_3 x49_2).f2).length c425_2] 42 (0, 0)) (by exact BK426.out) hb)
              have n2_ := zM (zp HB.out hb)
              clear BK422
              clear BK426
              clear HB
              have BK422 := n0_
              have BK426 := n1_
              have HB := n2_
              clear n0_ n1_ n2_
              (try clear hb)
              (try clear hb2)
              (try clear hk)
              (try clear hi)
              refine hK.out _ _ ⟨(zc BK426.out 0).trans rfl, (zc BK426.out 1).trans rfl, (zc BK426.out 2).trans rfl, (zc BK422.out 0).trans rfl, (zc BK422.out 1).trans rfl, (zc BK422.out 2).trans rfl, (zc BK422.out 3).trans rfl⟩ (fun hHeld => ?_)
              clear hK K
              refine norm_ (a' := ?_) ?_ ?_
              rotate_left
              ·show Act.put _ (some 55) _ = _
               simp only [Act.put, zA, zZ, zS, i64_w, i32_w]
               rfl
              refine pure_ (i := 2) (N := some 56) (v := ?_) (a' := ?_) mq173 rfl rfl (any_of HT_.out (by kernel_rfl)) (fun _ _ _ h => h) (Or.inl ⟨by rfl, ?_⟩) ?_ ?_
              rotate_left
              ·intro w'
               go_simp
               with_reducible rfl
              rotate_left
              ·simp only [Act.put, zA, zZ, zS, i64_w, i32_w]
               rfl
              refine pure_ (i := 3) (N := some 57) (v := ?_) (a' := ?_) mq174 rfl rfl (any_of HT_.out (by kernel_rfl)) (fun _ _ _ h => h) (Or.inl ⟨by rfl, ?_⟩) ?_ ?_
              rotate_left
              ·intro w'
               go_simp
               with_reducible rfl
              rotate_left
              ·simp only [Act.put, zA, zZ, zS, i64_w, i32_w]
               rfl
              refine pure_ (i := 4) (N := some 58) (v := ?_) (a' := ?_) mq175 rfl rfl (any_of HT_.out (by kernel_rfl)) (fun _ _ _ h => h) (Or.inl ⟨by rfl, ?_⟩) ?_ ?_
              rotate_left
              ·intro w'
               go_simp
               with_reducible rfl
              rotate_left
              ·simp only [Act.put, zA, zZ, zS, i64_w, i32_w]
               rfl
              refine pure_ (i := 6) (N := some 60) (v := ?_) (a' := ?_) mq176 rfl rfl (any_of HT_.out (by kernel_rfl)) (fun _ _ _ h => h) (Or.inl ⟨by rfl, ?_⟩) ?_ ?_
              rotate_left
              ·intro w'
               go_simp
               with_reducible rfl
              rotate_left
              ·simp only [Act.put, zA, zZ, zS, i64_w, i32_w]
               rfl
              refine take_ (i := 5) (N := some 59) (v := ?_) (a' := ?_) mq177 rfl rfl (take_ofW HT_.out HW_.out (by kernel_rfl)) (fun _ _ _ h => h) (Or.inl ⟨by rfl, ?_⟩) hHeld ?_ ?_
              rotate_left
              ·rintro w' ⟨s0, s1, s2, s3, s4, s5, s6⟩
               go_simp
               with_reducible rfl
              rotate_left
              ·simp only [Act.put, zA, zZ, zS, i64_w, i32_w]
               rfl
              refine take_ (i := 7) (N := some 61) (v := ?_) (a' := ?_) mq178 rfl rfl (take_ofW HT_.out HW_.out (by kernel_rfl)) (fun _ _ _ h => h) (Or.inl ⟨by rfl, ?_⟩) hHeld ?_ ?_
              rotate_left
              ·rintro w' ⟨s0, s1, s2, s3, s4, s5, s6⟩
               go_simp
               with_reducible rfl
              rotate_left
              ·simp only [Act.put, zA, zZ, zS, i64_w, i32_w]
               rfl
              refine pure_ (i := 8) (N := some 62) (v := ?_) (a' := ?_) mq179 rfl rfl (any_of HT_.out (by kernel_rfl)) (fun _ _ _ h => h) (Or.inl ⟨by rfl, ?_⟩) ?_ ?_
              rotate_left
              ·intro w'
               go_simp
               with_reducible rfl
              rotate_left
              ·simp only [Act.put, zA, zZ, zS, i64_w, i32_w]
               rfl
              refine pure_ (i := 9) (N := some 63) (v := ?_) (a' := ?_) mq1710 rfl rfl (any_of HT_.out (by kernel_rfl)) (fun _ _ _ h => h) (Or.inl ⟨by rfl, ?_⟩) ?_ ?_
              rotate_left
              ·intro w'
               go_simp
               with_reducible rfl
              rotate_left
              ·simp only [Act.put, zA, zZ, zS, i64_w, i32_w]
               rfl
              refine pure_ (i := 10) (N := some 64) (v := ?_) (a' := ?_) mq1711 rfl rfl (any_of HT_.out (by kernel_rfl)) (fun _ _ _ h => h) (Or.inl ⟨by rfl, ?_⟩) ?_ ?_
              rotate_left
              ·intro w'
               go_simp
               with_reducible rfl
              rotate_left
              ·simp only [Act.put, zA, zZ, zS, i64_w, i32_w]
               rfl
              refine pure_ (i := 11) (N := some 65) (v := ?_) (a' := ?_) mq1712 rfl rfl (any_of HT_.out (by kernel_rfl)) (fun _ _ _ h => h) (Or.inl ⟨by rfl, ?_⟩) ?_ ?_
              rotate_left
              ·intro w'
               go_simp
               with_reducible rfl
              rotate_left
              ·simp only [Act.put, zA, zZ, zS, i64_w, i32_w]
               rfl
              refine pure_ (i := 13) (N := some 67) (v := ?_) (a' := ?_) mq1713 rfl rfl (any_of HT_.out (by kernel_rfl)) (fun _ _ _ h => h) (Or.inl ⟨by rfl, ?_⟩) ?_ ?_
              rotate_left
              ·intro w'
               go_simp
               with_reducible rfl
              rotate_left
              ·simp only [Act.put, zA, zZ, zS, i64_w, i32_w]
               rfl
              refine take_ (i := 12) (N := some 66) (v := ?_) (a' := ?_) mq1714 rfl rfl (take_ofW HT_.out HW_.out (by kernel_rfl)) (fun _ _ _ h => h) (Or.inl ⟨by rfl, ?_⟩) hHeld ?_ ?_
              rotate_left
              ·rintro w' ⟨s0, s1, s2, s3, s4, s5, s6⟩
               go_simp
               with_reducible rfl
              rotate_left
              ·simp only [Act.put, zA, zZ, zS, i64_w, i32_w]
               rfl
              refine take_ (i := 14) (N := some 68) (v := ?_) (a' := ?_) mq1715 rfl rfl (take_ofW HT_.out HW_.out (by kernel_rfl)) (fun _ _ _ h => h) (Or.inl ⟨by rfl, ?_⟩) hHeld ?_ ?_
              rotate_left
              ·rintro w' ⟨s0, s1, s2, s3, s4, s5, s6⟩
               go_simp
               with_reducible rfl
              rotate_left
              ·simp only [Act.put, zA, zZ, zS, i64_w, i32_w]
               rfl
              refine pure_ (i := 15) (N := some 69) (v := ?_) (a' := ?_) mq1716 rfl rfl (any_of HT_.out (by kernel_rfl)) (fun _ _ _ h => h) (Or.inl ⟨by rfl, ?_⟩) ?_ ?_
              rotate_left
              ·intro w'
               go_simp
               with_reducible rfl
              rotate_left
              ·simp only [Act.put, zA, zZ, zS, i64_w, i32_w]
               rfl
              refine pure_ (i := 16) (N := some 70) (v := ?_) (a' := ?_) mq1717 rfl rfl (any_of HT_.out (by kernel_rfl)) (fun _ _ _ h => h) (Or.inl ⟨by rfl, ?_⟩) ?_ ?_
              rotate_left
              ·intro w'
               go_simp
               with_reducible rfl
              rotate_left
              ·simp only [Act.put, zA, zZ, zS, i64_w, i32_w]
               rfl
              refine pure_ (i := 17) (N := some 71) (v := ?_) (a' := ?_) mq1718 rfl rfl (any_of HT_.out (by kernel_rfl)) (fun _ _ _ h => h) (Or.inl ⟨by rfl, ?_⟩) ?_ ?_
              rotate_left
              ·intro w'
               go_simp
               with_reducible rfl
              rotate_left
              ·simp only [Act.put, zA, zZ, zS, i64_w, i32_w]
               rfl
              refine pure_ (i := 18) (N := some 72) (v := ?_) (a' := ?_) mq1719 rfl rfl (any_of HT_.out (by kernel_rfl)) (fun _ _ _ h => h) (Or.inl ⟨by rfl, ?_⟩) ?_ ?_
              rotate_left
              ·intro w'
               go_simp
               with_reducible rfl
              rotate_left
              ·simp only [Act.put, zA, zZ, zS, i64_w, i32_w]
               rfl
              refine pure_ (i := 20) (N := some 74) (v := ?_) (a' := ?_) mq1742 rfl rfl (any_of HT_.out (by kernel_rfl)) (fun _ _ _ h => h) (Or.inl ⟨by rfl, ?_⟩) ?_ ?_
              rotate_left
              ·intro w'
               go_simp
               with_reducible rfl
              rotate_left
              ·simp only [Act.put, zA, zZ, zS, i64_w, i32_w]
               rfl
              refine take_ (i := 19) (N := some 73) (v := ?_) (a' := ?_) mq1721 rfl rfl (take_ofW HT_.out HW_.out (by kernel_rfl)) (fun _ _ _ h => h) (Or.inl ⟨by rfl, ?_⟩) hHeld ?_ ?_
              rotate_left
              ·rintro w' ⟨s0, s1, s2, s3, s4, s5, s6⟩
               go_simp
               with_reducible rfl
              rotate_left
              ·simp only [Act.put, zA, zZ, zS, i64_w, i32_w]
               rfl
              refine take_ (i := 21) (N := some 75) (v := ?_) (a' := ?_) mq1722 rfl rfl (take_ofW HT_.out HW_.out (by kernel_rfl)) (fun _ _ _ h => h) (Or.inl ⟨by rfl, ?_⟩) hHeld ?_ ?_
              rotate_left
              ·rintro w' ⟨s0, s1, s2, s3, s4, s5, s6⟩
               go_simp
               with_reducible rfl
              rotate_left
              ·simp only [Act.put, zA, zZ, zS, i64_w, i32_w]
               rfl
              refine pure_ (i := 22) (N := some 76) (v := ?_) (a' := ?_) mq1723 rfl rfl (any_of HT_.out (by kernel_rfl)) (fun _ _ _ h => h) (Or.inl ⟨by rfl, ?_⟩) ?_ ?_
              rotate_left
              ·intro w'
               go_simp
               with_reducible rfl
              rotate_left
              ·simp only [Act.put, zA, zZ, zS, i64_w, i32_w]
               rfl
              refine pure_ (i := 23) (N := some 77) (v := ?_) (a' := ?_) mq1724 rfl rfl (any_of HT_.out (by kernel_rfl)) (fun _ _ _ h => h) (Or.inl ⟨by rfl, ?_⟩) ?_ ?_
              rotate_left
              ·intro w'
               go_simp
               with_reducible rfl
              rotate_left
              ·simp only [Act.put, zA, zZ, zS, i64_w, i32_w]
               rfl
              refine pure_ (i := 24) (N := some 78) (v := ?_) (a' := ?_) mq1725 rfl rfl (any_of HT_.out (by kernel_rfl)) (fun _ _ _ h => h) (Or.inl ⟨by rfl, ?_⟩) ?_ ?_
              rotate_left
              ·intro w'
               go_simp
               with_reducible rfl
              rotate_left
              ·simp only [Act.put, zA, zZ, zS, i64_w, i32_w]
               rfl
              refine pure_ (i := 25) (N := some 79) (v := ?_) (a' := ?_) mq1726 rfl rfl (any_of HT_.out (by kernel_rfl)) (fun _ _ _ h => h) (Or.inl ⟨by rfl, ?_⟩) ?_ ?_
              rotate_left
              ·intro w'
               go_simp
               with_reducible rfl
              rotate_left
              ·simp only [Act.put, zA, zZ, zS, i64_w, i32_w]
               rfl
              refine pure_ (i := 26) (N := some 80) (v := ?_) (a' := ?_) mq1727 rfl rfl (any_of HT_.out (by kernel_rfl)) (fun _ _ _ h => h) (Or.inl ⟨by rfl, ?_⟩) ?_ ?_
              rotate_left
              ·intro w'
               go_simp
               with_reducible rfl
              rotate_left
              ·simp only [Act.put, zA, zZ, zS, i64_w, i32_w]
               rfl
              refine pure_ (i := 27) (N := some 81) (v := ?_) (a' := ?_) mq1728 rfl rfl (any_of HT_.out (by kernel_rfl)) (fun _ _ _ h => h) (Or.inl ⟨by rfl, ?_⟩) ?_ ?_
              rotate_left
              ·intro w'
               go_simp
               with_reducible rfl
              rotate_left
              ·simp only [Act.put, zA, zZ, zS, i64_w, i32_w]
               rfl
              refine pure_ (i := 28) (N := some 82) (v := ?_) (a' := ?_) mq1729 rfl rfl (any_of HT_.out (by kernel_rfl)) (fun _ _ _ h => h) (Or.inl ⟨by rfl, ?_⟩) ?_ ?_
              rotate_left
              ·intro w'
               go_simp
               with_reducible rfl
              rotate_left
              ·simp only [Act.put, zA, zZ, zS, i64_w, i32_w]
               rfl
              refine pure_ (i := 29) (N := some 83) (v := undef) (a' := ?_) mq1730 rfl rfl (any_of HT_.out (by kernel_rfl)) (fun _ _ _ h => h) (Or.inr ⟨by rfl, rfl⟩) ?_ ?_
              rotate_left
              ·simp only [Act.put, zA, zZ, zS, i64_w, i32_w]
               rfl
              refine pure_ (i := 30) (N := some 84) (v := undef) (a' := ?_) mq1731 rfl rfl (any_of HT_.out (by kernel_rfl)) (fun _ _ _ h => h) (Or.inr ⟨by rfl, rfl⟩) ?_ ?_
              rotate_left
              ·simp only [Act.put, zA, zZ, zS, i64_w, i32_w]
               rfl
              refine pure_ (i := 31) (N := some 85) (v := undef) (a' := ?_) mq1732 rfl rfl (any_of HT_.out (by kernel_rfl)) (fun _ _ _ h => h) (Or.inr ⟨by rfl, rfl⟩) ?_ ?_
              rotate_left
              ·simp only [Act.put, zA, zZ, zS, i64_w, i32_w]
               rfl
              refine pure_ (i := 32) (N := some 86) (v := undef) (a' := ?_) mq1733 rfl rfl (any_of HT_.out (by kernel_rfl)) (fun _ _ _ h => h) (Or.inr ⟨by rfl, rfl⟩) ?_ ?_
              rotate_left
              ·simp only [Act.put, zA, zZ, zS, i64_w, i32_w]
               rfl
              refine pure_ (i := 33) (N := some 87) (v := undef) (a' := ?_) mq1734 rfl rfl (any_of HT_.out (by kernel_rfl)) (fun _ _ _ h => h) (Or.inr ⟨by rfl, rfl⟩) ?_ ?_
              rotate_left
              ·simp only [Act.put, zA, zZ, zS, i64_w, i32_w]
               rfl
              refine pure_ (i := 34) (N := some 88) (v := undef) (a' := ?_) mq1735 rfl rfl (any_of HT_.out (by kernel_rfl)) (fun _ _ _ h => h) (Or.inr ⟨by rfl, rfl⟩) ?_ ?_
              rotate_left
              ·simp only [Act.put, zA, zZ, zS, i64_w, i32_w]
               rfl
              refine pure_ (i := 35) (N := some 89) (v := undef) (a' := ?_) mq1736 rfl rfl (any_of HT_.out (by kernel_rfl)) (fun _ _ _ h => h) (Or.inr ⟨by rfl, rfl⟩) ?_ ?_
              rotate_left
              ·simp only [Act.put, zA, zZ, zS, i64_w, i32_w]
               rfl
              refine pure_ (i := 36) (N := some 90) (v := undef) (a' := ?_) mq1737 rfl rfl (any_of HT_.out (by kernel_rfl)) (fun _ _ _ h => h) (Or.inr ⟨by rfl, rfl⟩) ?_ ?_
              rotate_left
              ·simp only [Act.put, zA, zZ, zS, i64_w, i32_w]
               rfl
              refine pure_ (i := 37) (N := some 91) (v := undef) (a' := ?_) mq1738 rfl rfl (any_of HT_.out (by kernel_rfl)) (fun _ _ _ h => h) (Or.inr ⟨by rfl, rfl⟩) ?_ ?_
              rotate_left
              ·simp only [Act.put, zA, zZ, zS, i64_w, i32_w]
               rfl
              refine pure_ (i := 38) (N := some 92) (v := undef) (a' := ?_) mq1739 rfl rfl (any_of HT_.out (by kernel_rfl)) (fun _ _ _ h => h) (Or.inr ⟨by rfl, rfl⟩) ?_ ?_
              rotate_left
              ·simp only [Act.put, zA, zZ, zS, i64_w, i32_w]
               rfl
              refine pure_ (i := 39) (N := some 93) (v := ?_) (a' := ?_) mq1740 rfl rfl (any_of HT_.out (by kernel_rfl)) (fun _ _ _ h => h) (Or.inl ⟨by rfl, ?_⟩) ?_ ?_
              rotate_left
              ·intro w'
               go_simp
               with_reducible rfl
              rotate_left
              ·simp only [Act.put, zA, zZ, zS, i64_w, i32_w]
               rfl
              refine pure_ (i := 40) (N := some 94) (v := ?_) (a' := ?_) mq1741 rfl rfl (any_of HT_.out (by kernel_rfl)) (fun _ _ _ h => h) (Or.inl ⟨by rfl, ?_⟩) ?_ ?_
              rotate_left
              ·intro w'
               go_simp
               with_reducible rfl
              rotate_left
              ·simp only [Act.put, zA, zZ, zS, i64_w, i32_w]
               rfl
              refine done_ (done_of HT_.out (by kernel_rfl)) ?_
              try go_wp2
              go_roundg k2
              case measure => have := HJ1.out; have := HK2.out; omega
              case rel => exact ⟨(wrap64 (x49_2 + 1)), rfl, H', ⟨by have := HJ1.out; have := HK2.out; omega⟩, ⟨by exact BK422.out⟩, ⟨by repeat (first | (with_reducible first | exact HB.out | apply zL | apply zN | apply zD | refine zJ ?_ GE422.out | refine zJ ?_ GE426.out) | exact HB.out)⟩⟩
          ·rw [if_neg c34] at H
           have c34b0 : (((rd_T42 l0_3 x49_2).f0) == a0_0) = false := beq_eq_false_iff_ne.mpr c34
           have c34b1 : (((rd_T42 l0_3 x49_2).f0) != a0_0) = true := bne_iff_ne.mpr c34
           obtain rfl := Option.some.inj H
           have p425 : 0 ≤ (x49_2 : Int) := zo (by assumption)
           have q425 : x49_2 < (l0_3.length : Int) := zo (by assumption)
           obtain ⟨ad425, A425_2, c425_2, e425, hx425_0, hx425_1, hx425_2, hl425_2, hi425_2⟩ := at_T42 HR0_3.out x49_2 p425 q425
           cases e425
           replace hx425_0 := (HB.out.cell (zW w _ hx425_0)).trans hx425_0
           replace hx425_1 := (HB.out.cell (zW w _ hx425_1)).trans hx425_1
           replace hx425_2 := (HB.out.cell (zW w _ hx425_2)).trans hx425_2
           have HR425_2 := zM hi425_2
           have HC425_2 := zM hl425_2
           clear hi425_2 hl425_2
           replace p425 := eq_true p425
           replace q425 := eq_true q425
           try go_wp2_with (first | ((with_reducible refine gate_dst (N := 5) rfl ?_); (try (refine gate_guard (by rfl) ?_; dsimp only)); refine box_event ?hg (N := 5) ?hd (cs := #[.int .i64 0, .int .i64 0, .slice none 0 0]) (t := 42) ?hr ?_; (case hd => rfl); (case hg => rfl); (case hr => go_simp); intro gb426 hg w72 hbox hb; have n0_ := zM (zb (g := gb422) (o := .cells #[.int .i64 a0_0, .int .i64 a0_1, .slice A0_2 l0_2.length c0_2, .slice (some ad425) l0_3.length c0_3] 25 (0, 0)) (by exact BK422.out) hb); have n1_ := zM (zp HB.out hb); have n2_ := zM (hbox); have n3_ := zM ((by rw [hg]; exact (zs HB.out) : w.heap.size ≤ gb426)); have n4_ := zM ((by rw [hg]; exact (zs HB.out) : w.heap.size ≤ gb426)); have n5_ := zM ((by rw [hg]; exact zt (blk_lt (g := gb422) (o := .cells #[.int .i64 a0_0, .int .i64 a0_1, .slice A0_2 l0_2.length c0_2, .slice (some ad425) l0_3.length c0_3] 25 (0, 0)) (by exact BK422.out)) : gb422 ≠ gb426)); have n6_ := zM ((by rw [hg]; exact Nat.ne_of_gt (blk_lt (g := gb422) (o := .cells #[.int .i64 a0_0, .int .i64 a0_1, .slice A0_2 l0_2.length c0_2, .slice (some ad425) l0_3.length c0_3] 25 (0, 0)) (by exact BK422.out)) : gb426 ≠ gb422)); clear BK422; clear HB; have BK422 := n0_; have HB := n1_; have BK426 := n2_; have GW426 := n3_; have GE426 := n4_; have NB422_426 := n5_; have NB426_422 := n6_; clear n0_ n1_ n2_ n3_ n4_ n5_ n6_; clear hb hbox hg; have hnb73 := NB426_422.out; have hnc73 := NB422_426.out; have hcz74_0 : w72.cell? ⟨gb426, 0, none⟩ = some (.int .i64 0) := (zc BK426.out 0).trans rfl; have hcz74_1 : w72.cell? ⟨gb426, 1, none⟩ = some (.int .i64 0) := (zc BK426.out 1).trans rfl; have hcz74_2 : w72.cell? ⟨gb426, 2, none⟩ = some (.slice none 0 0) := (zc BK426.out 2).trans rfl; have hfz74_0 := zf BK426.out 0; have hfz74_1 := zf BK426.out 1; have hfz74_2 := zf BK426.out 2))
           have n0_ : Aside0 ((((w72.setCell ⟨gb426, 0, none⟩ (.int .i64 ((rd_T42 l0_3 x49_2).f0))).setCell ⟨gb426, 1, none⟩ (.int .i64 ((rd_T42 l0_3 x49_2).f1))).setCell ⟨gb426, 2, none⟩ (.slice A425_2 ((rd_T42 l0_3 x49_2).f2).length c425_2)).heap[gb422]? = some (.cells #[.int .i64 a0_0, .int .i64 a0_1, .slice A0_2 l0_2.length c0_2, .slice (some ad425) l0_3.length c0_3] 25 (0, 0))) := ⟨by refine zF ?_ NB422_426.out _; refine zF ?_ NB422_426.out _; refine zF ?_ NB422_426.out _; exact BK422.out⟩
           have n1_ : Aside0 ((((w72.setCell ⟨gb426, 0, none⟩ (.int .i64 ((rd_T42 l0_3 x49_2).f0))).setCell ⟨gb426, 1, none⟩ (.int .i64 ((rd_T42 l0_3 x49_2).f1))).setCell ⟨gb426, 2, none⟩ (.slice A425_2 ((rd_T42 l0_3 x49_2).f2).length c425_2)).heap[gb426]? = some (.cells #[.int .i64 ((rd_T42 l0_3 x49_2).f0), .int .i64 ((rd_T42 l0_3 x49_2).f1), .slice A425_2 ((rd_T42 l0_3 x49_2).f2).length c425_2] 42 (0, 0))) := ⟨by refine zP (cs := #[.int .i64 ((rd_T42 l0_3 x49_2).f0), .int .i64 ((rd_T42 l0_3 x49_2).f1), .slice none 0 0]) ?_ 2 _ rfl; refine zP (cs := #[.int .i64 ((rd_T42 l0_3 x49_2).f0), .int .i64 0, .slice none 0 0]) ?_ 1 _ rfl; refine zP (cs := #[.int .i64 0, .int .i64 0, .slice none 0 0]) ?_ 0 _ rfl; exact BK426.out⟩
           have n2_ : Aside0 (Below w.heap.size w (((w72.setCell ⟨gb426, 0, none⟩ (.int .i64 ((rd_T42 l0_3 x49_2).f0))).setCell ⟨gb426, 1, none⟩ (.int .i64 ((rd_T42 l0_3 x49_2).f1))).setCell ⟨gb426, 2, none⟩ (.slice A425_2 ((rd_T42 l0_3 x49_2).f2).length c425_2))) := ⟨by repeat (first | (with_reducible first | exact HB.out | apply zL | apply zN | apply zD | refine zJ ?_ GE422.out | refine zJ ?_ GE426.out) | exact HB.out)⟩
           (try clear BK422)
           (try clear BK426)
           (try clear HB)
           generalize (((w72.setCell ⟨gb426, 0, none⟩ (.int .i64 ((rd_T42 l0_3 x49_2).f0))).setCell ⟨gb426, 1, none⟩ (.int .i64 ((rd_T42 l0_3 x49_2).f1))).setCell ⟨gb426, 2, none⟩ (.slice A425_2 ((rd_T42 l0_3 x49_2).f2).length c425_2)) = w75 at n0_ n1_ n2_ ⊢
           have BK422 := n0_
           have BK426 := n1_
           have HB := n2_
           clear n0_ n1_ n2_
           have n0_ := zM (zd BK422.out)
           have n1_ := zM (zd BK426.out)
           have n2_ := zM (zD HB.out)
           clear BK422
           clear BK426
           clear HB
           have BK422 := n0_
           have BK426 := n1_
           have HB := n2_
           clear n0_ n1_ n2_
           refine start_ (n := 41) (S := fun w' => w'.cell? ⟨gb426, 0, none⟩ = some (.int .i64 ((rd_T42 l0_3 x49_2).f0)) ∧ w'.cell? ⟨gb426, 1, none⟩ = some (.int .i64 ((rd_T42 l0_3 x49_2).f1)) ∧ w'.cell? ⟨gb426, 2, none⟩ = some (.slice A425_2 ((rd_T42 l0_3 x49_2).f2).length c425_2) ∧ w'.cell? ⟨gb422, 0, none⟩ = some (.int .i64 a0_0) ∧ w'.cell? ⟨gb422, 1, none⟩ = some (.int .i64 a0_1) ∧ w'.cell? ⟨gb422, 2, none⟩ = some (.slice A0_2 l0_2.length c0_2) ∧ w'.cell? ⟨gb422, 3, none⟩ = some (.slice (some ad425) l0_3.length c0_3)) (ds := []) mq170 (by kernel_rfl) rfl rfl ⟨(zc BK426.out 0).trans rfl, (zc BK426.out 1).trans rfl, (zc BK426.out 2).trans rfl, (zc BK422.out 0).trans rfl, (zc BK422.out 1).trans rfl, (zc BK422.out 2).trans rfl, (zc BK422.out 3).trans rfl⟩ (fun hHeld => ?_); refine with_tabW lane_Right.tab7 lane_Right.bits7 (fun HT_ HW_ => ?_)
           generalize w75.drew = w76 at BK422 BK426 HB hHeld ⊢
           refine take_ (i := 0) (N := some 54) (v := ?_) (a' := ?_) mq171 rfl rfl (take_ofW HT_.out HW_.out (by kernel_rfl)) (fun _ _ _ h => h) (Or.inl ⟨by rfl, ?_⟩) hHeld ?_ ?_
           rotate_left
           ·rintro w' ⟨s0, s1, s2, s3, s4, s5, s6⟩
            go_simp
            with_reducible rfl
           rotate_left
           ·simp only [Act.put, zA, zZ, zS, i64_w, i32_w]
            rfl
           refine one_ (i := 1) (N := some 55) mq172 rfl rfl (one_of HT_.out (by kernel_rfl)) (by decide) (fun K hK => ?_)
           refine goes_ Try.func39 (by kernel_rfl) rfl #[.agg #[.int .i64 ((rd_T42 l0_3 x49_2).f0), .int .i64 ((rd_T42 l0_3 x49_2).f1), .slice A425_2 ((rd_T42 l0_3 x49_2).f2).length c425_2]] (by rfl) rfl rfl (by (try simp only [List.map_toArray, List.map_cons, List.map_nil]); first | done | rfl) ?_
           with_reducible refine (batch_May.calls k2 ((rd_T42 l0_3 x49_2).f0) ((rd_T42 l0_3 x49_2).f1) _ _ ((rd_T42 l0_3 x49_2).f2) true _ ?side1 ?side2 A32.out).mono ?_
           (case side1 => exact (zcb HR425_2.out HB.out))
           (case side2 => exact HC425_2.out)
           rintro e w77 ⟨rfl, hb⟩
           refine ⟨_, rfl, ?_⟩
           have n0_ := zM (zb (g := gb422) (o := .cells #[.int .i64 a0_0, .int .i64 a0_1, .slice A0_2 l0_2.length c0_2, .slice (some ad425) l0_3.length c0_3] 25 (0, 0)) (by exact BK422.out) hb)
           have n1_ := zM (zb (g := gb426) (o := .cells #[.int .i64 ((rd_T42 l0_3 x49_2).f0), .int .i64 ((rd_T42 l0_3 x49_2).f1), .slice A425_2 ((rd_T42 l0_3 x49_2).f2).length c425_2] 42 (0, 0)) (by exact BK426.out) hb)
           have n2_ := zM (zp HB.out hb)
           clear BK422
           clear BK426
           clear HB
           have BK422 := n0_
           have BK426 := n1_
           have HB := n2_
           clear n0_ n1_ n2_
           (try clear hb)
           (try clear hb2)
           (try clear hk)
           (try clear hi)
           refine hK.out _ _ ⟨(zc BK426.out 0).trans rfl, (zc BK426.out 1).trans rfl, (zc BK426.out 2).trans rfl, (zc BK422.out 0).trans rfl, (zc BK422.out 1).trans rfl, (zc BK422.out 2).trans rfl, (zc BK422.out 3).trans rfl⟩ (fun hHeld => ?_)
           clear hK K
           refine norm_ (a' := ?_) ?_ ?_
           rotate_left
           ·show Act.put _ (some 55) _ = _
            simp only [Act.put, zA, zZ, zS, i64_w, i32_w]
            rfl
           refine pure_ (i := 2) (N := some 56) (v := ?_) (a' := ?_) mq173 rfl rfl (any_of HT_.out (by kernel_rfl)) (fun _ _ _ h => h) (Or.inl ⟨by rfl, ?_⟩) ?_ ?_
           rotate_left
           ·intro w'
            go_simp
            with_reducible rfl
           rotate_left
           ·simp only [Act.put, zA, zZ, zS, i64_w, i32_w]
            rfl
           refine pure_ (i := 3) (N := some 57) (v := ?_) (a' := ?_) mq174 rfl rfl (any_of HT_.out (by kernel_rfl)) (fun _ _ _ h => h) (Or.inl ⟨by rfl, ?_⟩) ?_ ?_
           rotate_left
           ·intro w'
            go_simp
            with_reducible rfl
           rotate_left
           ·simp only [Act.put, zA, zZ, zS, i64_w, i32_w]
            rfl
           refine pure_ (i := 4) (N := some 58) (v := ?_) (a' := ?_) mq175 rfl rfl (any_of HT_.out (by kernel_rfl)) (fun _ _ _ h => h) (Or.inl ⟨by rfl, ?_⟩) ?_ ?_
           rotate_left
           ·intro w'
            go_simp
            with_reducible rfl
           rotate_left
           ·simp only [Act.put, zA, zZ, zS, i64_w, i32_w]
            rfl
           refine pure_ (i := 6) (N := some 60) (v := ?_) (a' := ?_) mq176 rfl rfl (any_of HT_.out (by kernel_rfl)) (fun _ _ _ h => h) (Or.inl ⟨by rfl, ?_⟩) ?_ ?_
           rotate_left
           ·intro w'
            go_simp
            with_reducible rfl
           rotate_left
           ·simp only [Act.put, zA, zZ, zS, i64_w, i32_w]
            rfl
           refine take_ (i := 5) (N := some 59) (v := ?_) (a' := ?_) mq177 rfl rfl (take_ofW HT_.out HW_.out (by kernel_rfl)) (fun _ _ _ h => h) (Or.inl ⟨by rfl, ?_⟩) hHeld ?_ ?_
           rotate_left
           ·rintro w' ⟨s0, s1, s2, s3, s4, s5, s6⟩
            go_simp
            with_reducible rfl
           rotate_left
           ·simp only [Act.put, zA, zZ, zS, i64_w, i32_w]
            rfl
           refine take_ (i := 7) (N := some 61) (v := ?_) (a' := ?_) mq178 rfl rfl (take_ofW HT_.out HW_.out (by kernel_rfl)) (fun _ _ _ h => h) (Or.inl ⟨by rfl, ?_⟩) hHeld ?_ ?_
           rotate_left
           ·rintro w' ⟨s0, s1, s2, s3, s4, s5, s6⟩
            go_simp
            with_reducible rfl
           rotate_left
           ·simp only [Act.put, zA, zZ, zS, i64_w, i32_w]
            rfl
           refine pure_ (i := 8) (N := some 62) (v := ?_) (a' := ?_) mq179 rfl rfl (any_of HT_.out (by kernel_rfl)) (fun _ _ _ h => h) (Or.inl ⟨by rfl, ?_⟩) ?_ ?_
           rotate_left
           ·intro w'
            go_simp
            with_reducible rfl
           rotate_left
           ·simp only [Act.put, zA, zZ, zS, i64_w, i32_w]
            rfl
           refine pure_ (i := 9) (N := some 63) (v := ?_) (a' := ?_) mq1710 rfl rfl (any_of HT_.out (by kernel_rfl)) (fun _ _ _ h => h) (Or.inl ⟨by rfl, ?_⟩) ?_ ?_
           rotate_left
           ·intro w'
            go_simp
            with_reducible rfl
           rotate_left
           ·simp only [Act.put, zA, zZ, zS, i64_w, i32_w]
            rfl
           refine pure_ (i := 10) (N := some 64) (v := ?_) (a' := ?_) mq1711 rfl rfl (any_of HT_.out (by kernel_rfl)) (fun _ _ _ h => h) (Or.inl ⟨by rfl, ?_⟩) ?_ ?_
           rotate_left
           ·intro w'
            go_simp
            with_reducible rfl
           rotate_left
           ·simp only [Act.put, zA, zZ, zS, i64_w, i32_w]
            rfl
           refine pure_ (i := 11) (N := some 65) (v := undef) (a' := ?_) mq1712 rfl rfl (any_of HT_.out (by kernel_rfl)) (fun _ _ _ h => h) (Or.inr ⟨by rfl, rfl⟩) ?_ ?_
           rotate_left
           ·simp only [Act.put, zA, zZ, zS, i64_w, i32_w]
            rfl
           refine pure_ (i := 12) (N := some 66) (v := undef) (a' := ?_) mq1749 rfl rfl (any_of HT_.out (by kernel_rfl)) (fun _ _ _ h => h) (Or.inr ⟨by rfl, rfl⟩) ?_ ?_
           rotate_left
           ·simp only [Act.put, zA, zZ, zS, i64_w, i32_w]
            rfl
           refine pure_ (i := 13) (N := some 67) (v := undef) (a' := ?_) mq1714 rfl rfl (any_of HT_.out (by kernel_rfl)) (fun _ _ _ h => h) (Or.inr ⟨by rfl, rfl⟩) ?_ ?_
           rotate_left
           ·simp only [Act.put, zA, zZ, zS, i64_w, i32_w]
            rfl
           refine pure_ (i := 14) (N := some 68) (v := undef) (a' := ?_) mq1715 rfl rfl (any_of HT_.out (by kernel_rfl)) (fun _ _ _ h => h) (Or.inr ⟨by rfl, rfl⟩) ?_ ?_
           rotate_left
           ·simp only [Act.put, zA, zZ, zS, i64_w, i32_w]
            rfl
           refine pure_ (i := 15) (N := some 69) (v := undef) (a' := ?_) mq1716 rfl rfl (any_of HT_.out (by kernel_rfl)) (fun _ _ _ h => h) (Or.inr ⟨by rfl, rfl⟩) ?_ ?_
           rotate_left
           ·simp only [Act.put, zA, zZ, zS, i64_w, i32_w]
            rfl
           refine pure_ (i := 16) (N := some 70) (v := ?_) (a' := ?_) mq1717 rfl rfl (any_of HT_.out (by kernel_rfl)) (fun _ _ _ h => h) (Or.inl ⟨by rfl, ?_⟩) ?_ ?_
           rotate_left
           ·intro w'
            go_simp
            with_reducible rfl
           rotate_left
           ·simp only [Act.put, zA, zZ, zS, i64_w, i32_w]
            rfl
           refine pure_ (i := 17) (N := some 71) (v := ?_) (a' := ?_) mq1718 rfl rfl (any_of HT_.out (by kernel_rfl)) (fun _ _ _ h => h) (Or.inl ⟨by rfl, ?_⟩) ?_ ?_
           rotate_left
           ·intro w'
            go_simp
            with_reducible rfl
           rotate_left
           ·simp only [Act.put, zA, zZ, zS, i64_w, i32_w]
            rfl
           refine pure_ (i := 18) (N := some 72) (v := undef) (a' := ?_) mq1719 rfl rfl (any_of HT_.out (by kernel_rfl)) (fun _ _ _ h => h) (Or.inr ⟨by rfl, rfl⟩) ?_ ?_
           rotate_left
           ·simp only [Act.put, zA, zZ, zS, i64_w, i32_w]
            rfl
           refine pure_ (i := 19) (N := some 73) (v := undef) (a' := ?_) mq1720 rfl rfl (any_of HT_.out (by kernel_rfl)) (fun _ _ _ h => h) (Or.inr ⟨by rfl, rfl⟩) ?_ ?_
           rotate_left
           ·simp only [Act.put, zA, zZ, zS, i64_w, i32_w]
            rfl
           refine pure_ (i := 20) (N := some 74) (v := undef) (a' := ?_) mq1721 rfl rfl (any_of HT_.out (by kernel_rfl)) (fun _ _ _ h => h) (Or.inr ⟨by rfl, rfl⟩) ?_ ?_
           rotate_left
           ·simp only [Act.put, zA, zZ, zS, i64_w, i32_w]
            rfl
           refine pure_ (i := 21) (N := some 75) (v := undef) (a' := ?_) mq1722 rfl rfl (any_of HT_.out (by kernel_rfl)) (fun _ _ _ h => h) (Or.inr ⟨by rfl, rfl⟩) ?_ ?_
           rotate_left
           ·simp only [Act.put, zA, zZ, zS, i64_w, i32_w]
            rfl
           refine pure_ (i := 22) (N := some 76) (v := undef) (a' := ?_) mq1723 rfl rfl (any_of HT_.out (by kernel_rfl)) (fun _ _ _ h => h) (Or.inr ⟨by rfl, rfl⟩) ?_ ?_
           rotate_left
           ·simp only [Act.put, zA, zZ, zS, i64_w, i32_w]
            rfl
           refine pure_ (i := 23) (N := some 77) (v := undef) (a' := ?_) mq1724 rfl rfl (any_of HT_.out (by kernel_rfl)) (fun _ _ _ h => h) (Or.inr ⟨by rfl, rfl⟩) ?_ ?_
           rotate_left
           ·simp only [Act.put, zA, zZ, zS, i64_w, i32_w]
            rfl
           refine pure_ (i := 24) (N := some 78) (v := ?_) (a' := ?_) mq1725 rfl rfl (any_of HT_.out (by kernel_rfl)) (fun _ _ _ h => h) (Or.inl ⟨by rfl, ?_⟩) ?_ ?_
           rotate_left
           ·intro w'
            go_simp
            with_reducible rfl
           rotate_left
           ·simp only [Act.put, zA, zZ, zS, i64_w, i32_w]
            rfl
           refine pure_ (i := 25) (N := some 79) (v := ?_) (a' := ?_) mq1726 rfl rfl (any_of HT_.out (by kernel_rfl)) (fun _ _ _ h => h) (Or.inl ⟨by rfl, ?_⟩) ?_ ?_
           rotate_left
           ·intro w'
            go_simp
            with_reducible rfl
           rotate_left
           ·simp only [Act.put, zA, zZ, zS, i64_w, i32_w]
            rfl
           refine pure_ (i := 26) (N := some 80) (v := undef) (a' := ?_) mq1727 rfl rfl (any_of HT_.out (by kernel_rfl)) (fun _ _ _ h => h) (Or.inr ⟨by rfl, rfl⟩) ?_ ?_
           rotate_left
           ·simp only [Act.put, zA, zZ, zS, i64_w, i32_w]
            rfl
           refine pure_ (i := 27) (N := some 81) (v := undef) (a' := ?_) mq1728 rfl rfl (any_of HT_.out (by kernel_rfl)) (fun _ _ _ h => h) (Or.inr ⟨by rfl, rfl⟩) ?_ ?_
           rotate_left
           ·simp only [Act.put, zA, zZ, zS, i64_w, i32_w]
            rfl
           refine pure_ (i := 28) (N := some 82) (v := undef) (a' := ?_) mq1729 rfl rfl (any_of HT_.out (by kernel_rfl)) (fun _ _ _ h => h) (Or.inr ⟨by rfl, rfl⟩) ?_ ?_
           rotate_left
           ·simp only [Act.put, zA, zZ, zS, i64_w, i32_w]
            rfl
           refine pure_ (i := 29) (N := some 83) (v := undef) (a' := ?_) mq1730 rfl rfl (any_of HT_.out (by kernel_rfl)) (fun _ _ _ h => h) (Or.inr ⟨by rfl, rfl⟩) ?_ ?_
           rotate_left
           ·simp only [Act.put, zA, zZ, zS, i64_w, i32_w]
            rfl
           refine pure_ (i := 30) (N := some 84) (v := undef) (a' := ?_) mq1731 rfl rfl (any_of HT_.out (by kernel_rfl)) (fun _ _ _ h => h) (Or.inr ⟨by rfl, rfl⟩) ?_ ?_
           rotate_left
           ·simp only [Act.put, zA, zZ, zS, i64_w, i32_w]
            rfl
           refine pure_ (i := 31) (N := some 85) (v := undef) (a' := ?_) mq1732 rfl rfl (any_of HT_.out (by kernel_rfl)) (fun _ _ _ h => h) (Or.inr ⟨by rfl, rfl⟩) ?_ ?_
           rotate_left
           ·simp only [Act.put, zA, zZ, zS, i64_w, i32_w]
            rfl
           refine pure_ (i := 32) (N := some 86) (v := undef) (a' := ?_) mq1733 rfl rfl (any_of HT_.out (by kernel_rfl)) (fun _ _ _ h => h) (Or.inr ⟨by rfl, rfl⟩) ?_ ?_
           rotate_left
           ·simp only [Act.put, zA, zZ, zS, i64_w, i32_w]
            rfl
           refine pure_ (i := 33) (N := some 87) (v := undef) (a' := ?_) mq1734 rfl rfl (any_of HT_.out (by kernel_rfl)) (fun _ _ _ h => h) (Or.inr ⟨by rfl, rfl⟩) ?_ ?_
           rotate_left
           ·simp only [Act.put, zA, zZ, zS, i64_w, i32_w]
            rfl
           refine pure_ (i := 34) (N := some 88) (v := undef) (a' := ?_) mq1735 rfl rfl (any_of HT_.out (by kernel_rfl)) (fun _ _ _ h => h) (Or.inr ⟨by rfl, rfl⟩) ?_ ?_
           rotate_left
           ·simp only [Act.put, zA, zZ, zS, i64_w, i32_w]
            rfl
           refine pure_ (i := 35) (N := some 89) (v := undef) (a' := ?_) mq1736 rfl rfl (any_of HT_.out (by kernel_rfl)) (fun _ _ _ h => h) (Or.inr ⟨by rfl, rfl⟩) ?_ ?_
           rotate_left
           ·simp only [Act.put, zA, zZ, zS, i64_w, i32_w]
            rfl
           refine pure_ (i := 36) (N := some 90) (v := undef) (a' := ?_) mq1737 rfl rfl (any_of HT_.out (by kernel_rfl)) (fun _ _ _ h => h) (Or.inr ⟨by rfl, rfl⟩) ?_ ?_
           rotate_left
           ·simp only [Act.put, zA, zZ, zS, i64_w, i32_w]
            rfl
           refine pure_ (i := 37) (N := some 91) (v := undef) (a' := ?_) mq1738 rfl rfl (any_of HT_.out (by kernel_rfl)) (fun _ _ _ h => h) (Or.inr ⟨by rfl, rfl⟩) ?_ ?_
           rotate_left
           ·simp only [Act.put, zA, zZ, zS, i64_w, i32_w]
            rfl
           refine pure_ (i := 38) (N := some 92) (v := undef) (a' := ?_) mq1739 rfl rfl (any_of HT_.out (by kernel_rfl)) (fun _ _ _ h => h) (Or.inr ⟨by rfl, rfl⟩) ?_ ?_
           rotate_left
           ·simp only [Act.put, zA, zZ, zS, i64_w, i32_w]
            rfl
           refine pure_ (i := 39) (N := some 93) (v := undef) (a' := ?_) mq1740 rfl rfl (any_of HT_.out (by kernel_rfl)) (fun _ _ _ h => h) (Or.inr ⟨by rfl, rfl⟩) ?_ ?_
           rotate_left
           ·simp only [Act.put, zA, zZ, zS, i64_w, i32_w]
            rfl
           refine pure_ (i := 40) (N := some 94) (v := ?_) (a' := ?_) mq1741 rfl rfl (any_of HT_.out (by kernel_rfl)) (fun _ _ _ h => h) (Or.inl ⟨by rfl, ?_⟩) ?_ ?_
           rotate_left
           ·intro w'
            go_simp
            with_reducible rfl
           rotate_left
           ·simp only [Act.put, zA, zZ, zS, i64_w, i32_w]
            rfl
           refine done_ (done_of HT_.out (by kernel_rfl)) ?_
           try go_wp2
           go_ret
           exact ⟨rfl, by repeat (first | (with_reducible first | exact HB.out | apply zL | apply zN | apply zD | refine zJ ?_ GE422.out | refine zJ ?_ GE426.out) | exact HB.out)⟩
         ·replace c33 := Bool.eq_false_iff.mpr c33
          subst c33
          have H1 : (some false) = some r := by rw [if_neg (show ¬ (false = true) by decide)] at H; exact H
          clear H
          have H := H1
          clear H1
          obtain rfl := Option.some.inj H
          have p425 : 0 ≤ (x49_2 : Int) := zo (by assumption)
          have q425 : x49_2 < (l0_3.length : Int) := zo (by assumption)
          obtain ⟨ad425, A425_2, c425_2, e425, hx425_0, hx425_1, hx425_2, hl425_2, hi425_2⟩ := at_T42 HR0_3.out x49_2 p425 q425
          cases e425
          replace hx425_0 := (HB.out.cell (zW w _ hx425_0)).trans hx425_0
          replace hx425_1 := (HB.out.cell (zW w _ hx425_1)).trans hx425_1
          replace hx425_2 := (HB.out.cell (zW w _ hx425_2)).trans hx425_2
          have HR425_2 := zM hi425_2
          have HC425_2 := zM hl425_2
          clear hi425_2 hl425_2
          replace p425 := eq_true p425
          replace q425 := eq_true q425
          try go_wp2_with (first | ((with_reducible refine gate_dst (N := 5) rfl ?_); (try (refine gate_guard (by rfl) ?_; dsimp only)); refine box_event ?hg (N := 5) ?hd (cs := #[.int .i64 0, .int .i64 0, .slice none 0 0]) (t := 42) ?hr ?_; (case hd => rfl); (case hg => rfl); (case hr => go_simp); intro gb426 hg w78 hbox hb; have n0_ := zM (zb (g := gb422) (o := .cells #[.int .i64 a0_0, .int .i64 a0_1, .slice A0_2 l0_2.length c0_2, .slice (some ad425) l0_3.length c0_3] 25 (0, 0)) (by exact BK422.out) hb); have n1_ := zM (zp HB.out hb); have n2_ := zM (hbox); have n3_ := zM ((by rw [hg]; exact (zs HB.out) : w.heap.size ≤ gb426)); have n4_ := zM ((by rw [hg]; exact (zs HB.out) : w.heap.size ≤ gb426)); have n5_ := zM ((by rw [hg]; exact zt (blk_lt (g := gb422) (o := .cells #[.int .i64 a0_0, .int .i64 a0_1, .slice A0_2 l0_2.length c0_2, .slice (some ad425) l0_3.length c0_3] 25 (0, 0)) (by exact BK422.out)) : gb422 ≠ gb426)); have n6_ := zM ((by rw [hg]; exact Nat.ne_of_gt (blk_lt (g := gb422) (o := .cells #[.int .i64 a0_0, .int .i64 a0_1, .slice A0_2 l0_2.length c0_2, .slice (some ad425) l0_3.length c0_3] 25 (0, 0)) (by exact BK422.out)) : gb426 ≠ gb422)); clear BK422; clear HB; have BK422 := n0_; have HB := n1_; have BK426 := n2_; have GW426 := n3_; have GE426 := n4_; have NB422_426 := n5_; have NB426_422 := n6_; clear n0_ n1_ n2_ n3_ n4_ n5_ n6_; clear hb hbox hg; have hnb79 := NB426_422.out; have hnc79 := NB422_426.out; have hcz80_0 : w78.cell? ⟨gb426, 0, none⟩ = some (.int .i64 0) := (zc BK426.out 0).trans rfl; have hcz80_1 : w78.cell? ⟨gb426, 1, none⟩ = some (.int .i64 0) := (zc BK426.out 1).trans rfl; have hcz80_2 : w78.cell? ⟨gb426, 2, none⟩ = some (.slice none 0 0) := (zc BK426.out 2).trans rfl; have hfz80_0 := zf BK426.out 0; have hfz80_1 := zf BK426.out 1; have hfz80_2 := zf BK426.out 2))
          have n0_ : Aside0 ((((w78.setCell ⟨gb426, 0, none⟩ (.int .i64 ((rd_T42 l0_3 x49_2).f0))).setCell ⟨gb426, 1, none⟩ (.int .i64 ((rd_T42 l0_3 x49_2).f1))).setCell ⟨gb426, 2, none⟩ (.slice A425_2 ((rd_T42 l0_3 x49_2).f2).length c425_2)).heap[gb422]? = some (.cells #[.int .i64 a0_0, .int .i64 a0_1, .slice A0_2 l0_2.length c0_2, .slice (some ad425) l0_3.length c0_3] 25 (0, 0))) := ⟨by refine zF ?_ NB422_426.out _; refine zF ?_ NB422_426.out _; refine zF ?_ NB422_426.out _; exact BK422.out⟩
          have n1_ : Aside0 ((((w78.setCell ⟨gb426, 0, none⟩ (.int .i64 ((rd_T42 l0_3 x49_2).f0))).setCell ⟨gb426, 1, none⟩ (.int .i64 ((rd_T42 l0_3 x49_2).f1))).setCell ⟨gb426, 2, none⟩ (.slice A425_2 ((rd_T42 l0_3 x49_2).f2).length c425_2)).heap[gb426]? = some (.cells #[.int .i64 ((rd_T42 l0_3 x49_2).f0), .int .i64 ((rd_T42 l0_3 x49_2).f1), .slice A425_2 ((rd_T42 l0_3 x49_2).f2).length c425_2] 42 (0, 0))) := ⟨by refine zP (cs := #[.int .i64 ((rd_T42 l0_3 x49_2).f0), .int .i64 ((rd_T42 l0_3 x49_2).f1), .slice none 0 0]) ?_ 2 _ rfl; refine zP (cs := #[.int .i64 ((rd_T42 l0_3 x49_2).f0), .int .i64 0, .slice none 0 0]) ?_ 1 _ rfl; refine zP (cs := #[.int .i64 0, .int .i64 0, .slice none 0 0]) ?_ 0 _ rfl; exact BK426.out⟩
          have n2_ : Aside0 (Below w.heap.size w (((w78.setCell ⟨gb426, 0, none⟩ (.int .i64 ((rd_T42 l0_3 x49_2).f0))).setCell ⟨gb426, 1, none⟩ (.int .i64 ((rd_T42 l0_3 x49_2).f1))).setCell ⟨gb426, 2, none⟩ (.slice A425_2 ((rd_T42 l0_3 x49_2).f2).length c425_2))) := ⟨by repeat (first | (with_reducible first | exact HB.out | apply zL | apply zN | apply zD | refine zJ ?_ GE422.out | refine zJ ?_ GE426.out) | exact HB.out)⟩
          (try clear BK422)
          (try clear BK426)
          (try clear HB)
          generalize (((w78.setCell ⟨gb426, 0, none⟩ (.int .i64 ((rd_T42 l0_3 x49_2).f0))).setCell ⟨gb426, 1, none⟩ (.int .i64 ((rd_T42 l0_3 x49_2).f1))).setCell ⟨gb426, 2, none⟩ (.slice A425_2 ((rd_T42 l0_3 x49_2).f2).length c425_2)) = w81 at n0_ n1_ n2_ ⊢
          have BK422 := n0_
          have BK426 := n1_
          have HB := n2_
          clear n0_ n1_ n2_
          have n0_ := zM (zd BK422.out)
          have n1_ := zM (zd BK426.out)
          have n2_ := zM (zD HB.out)
          clear BK422
          clear BK426
          clear HB
          have BK422 := n0_
          have BK426 := n1_
          have HB := n2_
          clear n0_ n1_ n2_
          refine start_ (n := 41) (S := fun w' => w'.cell? ⟨gb426, 0, none⟩ = some (.int .i64 ((rd_T42 l0_3 x49_2).f0)) ∧ w'.cell? ⟨gb426, 1, none⟩ = some (.int .i64 ((rd_T42 l0_3 x49_2).f1)) ∧ w'.cell? ⟨gb426, 2, none⟩ = some (.slice A425_2 ((rd_T42 l0_3 x49_2).f2).length c425_2)) (ds := []) mq170 (by kernel_rfl) rfl rfl ⟨(zc BK426.out 0).trans rfl, (zc BK426.out 1).trans rfl, (zc BK426.out 2).trans rfl⟩ (fun hHeld => ?_); refine with_tabW lane_Right.tab7 lane_Right.bits7 (fun HT_ HW_ => ?_)
          generalize w81.drew = w82 at BK422 BK426 HB hHeld ⊢
          refine take_ (i := 0) (N := some 54) (v := ?_) (a' := ?_) mq171 rfl rfl (take_ofW HT_.out HW_.out (by kernel_rfl)) (fun _ _ _ h => h) (Or.inl ⟨by rfl, ?_⟩) hHeld ?_ ?_
          rotate_left
          ·rintro w' ⟨s0, s1, s2⟩
           go_simp
           with_reducible rfl
          rotate_left
          ·simp only [Act.put, zA, zZ, zS, i64_w, i32_w]
           rfl
          refine one_ (i := 1) (N := some 55) mq172 rfl rfl (one_of HT_.out (by kernel_rfl)) (by decide) (fun K hK => ?_)
          refine goes_ Try.func39 (by kernel_rfl) rfl #[.agg #[.int .i64 ((rd_T42 l0_3 x49_2).f0), .int .i64 ((rd_T42 l0_3 x49_2).f1), .slice A425_2 ((rd_T42 l0_3 x49_2).f2).length c425_2]] (by rfl) rfl rfl (by (try simp only [List.map_toArray, List.map_cons, List.map_nil]); first | done | rfl) ?_
          with_reducible refine (batch_May.calls k2 ((rd_T42 l0_3 x49_2).f0) ((rd_T42 l0_3 x49_2).f1) _ _ ((rd_T42 l0_3 x49_2).f2) false _ ?side1 ?side2 A32.out).mono ?_
          (case side1 => exact (zcb HR425_2.out HB.out))
          (case side2 => exact HC425_2.out)
          rintro e w83 ⟨rfl, hb⟩
          refine ⟨_, rfl, ?_⟩
          have n0_ := zM (zb (g := gb422) (o := .cells #[.int .i64 a0_0, .int .i64 a0_1, .slice A0_2 l0_2.length c0_2, .slice (some ad425) l0_3.length c0_3] 25 (0, 0)) (by exact BK422.out) hb)
          have n1_ := zM (zb (g := gb426) (o := .cells #[.int .i64 ((rd_T42 l0_3 x49_2).f0), .int .i64 ((rd_T42 l0_3 x49_2).f1), .slice A425_2 ((rd_T42 l0_3 x49_2).f2).length c425_2] 42 (0, 0)) (by exact BK426.out) hb)
          have n2_ := zM (zp HB.out hb)
          clear BK422
          clear BK426
          clear HB
          have BK422 := n0_
          have BK426 := n1_
          have HB := n2_
          clear n0_ n1_ n2_
          (try clear hb)
          (try clear hb2)
          (try clear hk)
          (try clear hi)
          refine hK.out _ _ ⟨(zc BK426.out 0).trans rfl, (zc BK426.out 1).trans rfl, (zc BK426.out 2).trans rfl⟩ (fun hHeld => ?_)
          clear hK K
          refine norm_ (a' := ?_) ?_ ?_
          rotate_left
          ·show Act.put _ (some 55) _ = _
           simp only [Act.put, zA, zZ, zS, i64_w, i32_w]
           rfl
          refine pure_ (i := 2) (N := some 56) (v := ?_) (a' := ?_) mq173 rfl rfl (any_of HT_.out (by kernel_rfl)) (fun _ _ _ h => h) (Or.inl ⟨by rfl, ?_⟩) ?_ ?_
          rotate_left
          ·intro w'
           go_simp
           with_reducible rfl
          rotate_left
          ·simp only [Act.put, zA, zZ, zS, i64_w, i32_w]
           rfl
          refine pure_ (i := 3) (N := some 57) (v := ?_) (a' := ?_) mq174 rfl rfl (any_of HT_.out (by kernel_rfl)) (fun _ _ _ h => h) (Or.inl ⟨by rfl, ?_⟩) ?_ ?_
          rotate_left
          ·intro w'
           go_simp
           with_reducible rfl
          rotate_left
          ·simp only [Act.put, zA, zZ, zS, i64_w, i32_w]
           rfl
          refine pure_ (i := 4) (N := some 58) (v := undef) (a' := ?_) mq175 rfl rfl (any_of HT_.out (by kernel_rfl)) (fun _ _ _ h => h) (Or.inr ⟨by rfl, rfl⟩) ?_ ?_
          rotate_left
          ·simp only [Act.put, zA, zZ, zS, i64_w, i32_w]
           rfl
          refine pure_ (i := 5) (N := some 59) (v := undef) (a' := ?_) #[true, true, true, true, true, true, false, false, false, false, false, false, false, false, false, false, false, false, false, false, false, false, false, false, false, false, false, false, false, false, false, false, false, false, false, false, false, false, false, false, false] rfl rfl (any_of HT_.out (by kernel_rfl)) (fun _ _ _ h => h) (Or.inr ⟨by rfl, rfl⟩) ?_ ?_
          rotate_left
          ·simp only [Act.put, zA, zZ, zS, i64_w, i32_w]
           rfl
          refine pure_ (i := 6) (N := some 60) (v := undef) (a' := ?_) mq177 rfl rfl (any_of HT_.out (by kernel_rfl)) (fun _ _ _ h => h) (Or.inr ⟨by rfl, rfl⟩) ?_ ?_
          rotate_left
          ·simp only [Act.put, zA, zZ, zS, i64_w, i32_w]
           rfl
          refine pure_ (i := 7) (N := some 61) (v := undef) (a' := ?_) mq178 rfl rfl (any_of HT_.out (by kernel_rfl)) (fun _ _ _ h => h) (Or.inr ⟨by rfl, rfl⟩) ?_ ?_
          rotate_left
          ·simp only [Act.put, zA, zZ, zS, i64_w, i32_w]
           rfl
          refine pure_ (i := 8) (N := some 62) (v := undef) (a' := ?_) mq179 rfl rfl (any_of HT_.out (by kernel_rfl)) (fun _ _ _ h => h) (Or.inr ⟨by rfl, rfl⟩) ?_ ?_
          rotate_left
          ·simp only [Act.put, zA, zZ, zS, i64_w, i32_w]
           rfl
          refine pure_ (i := 9) (N := some 63) (v := ?_) (a' := ?_) mq1710 rfl rfl (any_of HT_.out (by kernel_rfl)) (fun _ _ _ h => h) (Or.inl ⟨by rfl, ?_⟩) ?_ ?_
          rotate_left
          ·intro w'
           go_simp
           with_reducible rfl
          rotate_left
          ·simp only [Act.put, zA, zZ, zS, i64_w, i32_w]
           rfl
          refine pure_ (i := 10) (N := some 64) (v := ?_) (a' := ?_) mq1711 rfl rfl (any_of HT_.out (by kernel_rfl)) (fun _ _ _ h => h) (Or.inl ⟨by rfl, ?_⟩) ?_ ?_
          rotate_left
          ·intro w'
           go_simp
           with_reducible rfl
          rotate_left
          ·simp only [Act.put, zA, zZ, zS, i64_w, i32_w]
           rfl
          refine pure_ (i := 11) (N := some 65) (v := undef) (a' := ?_) mq1712 rfl rfl (any_of HT_.out (by kernel_rfl)) (fun _ _ _ h => h) (Or.inr ⟨by rfl, rfl⟩) ?_ ?_
          rotate_left
          ·simp only [Act.put, zA, zZ, zS, i64_w, i32_w]
           rfl
          refine pure_ (i := 12) (N := some 66) (v := undef) (a' := ?_) mq1749 rfl rfl (any_of HT_.out (by kernel_rfl)) (fun _ _ _ h => h) (Or.inr ⟨by rfl, rfl⟩) ?_ ?_
          rotate_left
          ·simp only [Act.put, zA, zZ, zS, i64_w, i32_w]
           rfl
          refine pure_ (i := 13) (N := some 67) (v := undef) (a' := ?_) mq1714 rfl rfl (any_of HT_.out (by kernel_rfl)) (fun _ _ _ h => h) (Or.inr ⟨by rfl, rfl⟩) ?_ ?_
          rotate_left
          ·simp only [Act.put, zA, zZ, zS, i64_w, i32_w]
           rfl
          refine pure_ (i := 14) (N := some 68) (v := undef) (a' := ?_) mq1715 rfl rfl (any_of HT_.out (by kernel_rfl)) (fun _ _ _ h => h) (Or.inr ⟨by rfl, rfl⟩) ?_ ?_
          rotate_left
          ·simp only [Act.put, zA, zZ, zS, i64_w, i32_w]
           rfl
          refine pure_ (i := 15) (N := some 69) (v := undef) (a' := ?_) mq1716 rfl rfl (any_of HT_.out (by kernel_rfl)) (fun _ _ _ h => h) (Or.inr ⟨by rfl, rfl⟩) ?_ ?_
          rotate_left
          ·simp only [Act.put, zA, zZ, zS, i64_w, i32_w]
           rfl
          refine pure_ (i := 16) (N := some 70) (v := ?_) (a' := ?_) mq1717 rfl rfl (any_of HT_.out (by kernel_rfl)) (fun _ _ _ h => h) (Or.inl ⟨by rfl, ?_⟩) ?_ ?_
          rotate_left
          ·intro w'
           go_simp
           with_reducible rfl
          rotate_left
          ·simp only [Act.put, zA, zZ, zS, i64_w, i32_w]
           rfl
          refine pure_ (i := 17) (N := some 71) (v := ?_) (a' := ?_) mq1718 rfl rfl (any_of HT_.out (by kernel_rfl)) (fun _ _ _ h => h) (Or.inl ⟨by rfl, ?_⟩) ?_ ?_
          rotate_left
          ·intro w'
           go_simp
           with_reducible rfl
          rotate_left
          ·simp only [Act.put, zA, zZ, zS, i64_w, i32_w]
           rfl
          refine pure_ (i := 18) (N := some 72) (v := undef) (a' := ?_) mq1719 rfl rfl (any_of HT_.out (by kernel_rfl)) (fun _ _ _ h => h) (Or.inr ⟨by rfl, rfl⟩) ?_ ?_
          rotate_left
          ·simp only [Act.put, zA, zZ, zS, i64_w, i32_w]
           rfl
          refine pure_ (i := 19) (N := some 73) (v := undef) (a' := ?_) mq1720 rfl rfl (any_of HT_.out (by kernel_rfl)) (fun _ _ _ h => h) (Or.inr ⟨by rfl, rfl⟩) ?_ ?_
          rotate_left
          ·simp only [Act.put, zA, zZ, zS, i64_w, i32_w]
           rfl
          refine pure_ (i := 20) (N := some 74) (v := undef) (a' := ?_) mq1721 rfl rfl (any_of HT_.out (by kernel_rfl)) (fun _ _ _ h => h) (Or.inr ⟨by rfl, rfl⟩) ?_ ?_
          rotate_left
          ·simp only [Act.put, zA, zZ, zS, i64_w, i32_w]
           rfl
          refine pure_ (i := 21) (N := some 75) (v := undef) (a' := ?_) mq1722 rfl rfl (any_of HT_.out (by kernel_rfl)) (fun _ _ _ h => h) (Or.inr ⟨by rfl, rfl⟩) ?_ ?_
          rotate_left
          ·simp only [Act.put, zA, zZ, zS, i64_w, i32_w]
           rfl
          refine pure_ (i := 22) (N := some 76) (v := undef) (a' := ?_) mq1723 rfl rfl (any_of HT_.out (by kernel_rfl)) (fun _ _ _ h => h) (Or.inr ⟨by rfl, rfl⟩) ?_ ?_
          rotate_left
          ·simp only [Act.put, zA, zZ, zS, i64_w, i32_w]
           rfl
          refine pure_ (i := 23) (N := some 77) (v := undef) (a' := ?_) mq1724 rfl rfl (any_of HT_.out (by kernel_rfl)) (fun _ _ _ h => h) (Or.inr ⟨by rfl, rfl⟩) ?_ ?_
          rotate_left
          ·simp only [Act.put, zA, zZ, zS, i64_w, i32_w]
           rfl
          refine pure_ (i := 24) (N := some 78) (v := ?_) (a' := ?_) mq1725 rfl rfl (any_of HT_.out (by kernel_rfl)) (fun _ _ _ h => h) (Or.inl ⟨by rfl, ?_⟩) ?_ ?_
          rotate_left
          ·intro w'
           go_simp
           with_reducible rfl
          rotate_left
          ·simp only [Act.put, zA, zZ, zS, i64_w, i32_w]
           rfl
          refine pure_ (i := 25) (N := some 79) (v := ?_) (a' := ?_) mq1726 rfl rfl (any_of HT_.out (by kernel_rfl)) (fun _ _ _ h => h) (Or.inl ⟨by rfl, ?_⟩) ?_ ?_
          rotate_left
          ·intro w'
           go_simp
           with_reducible rfl
          rotate_left
          ·simp only [Act.put, zA, zZ, zS, i64_w, i32_w]
           rfl
          refine pure_ (i := 26) (N := some 80) (v := undef) (a' := ?_) mq1727 rfl rfl (any_of HT_.out (by kernel_rfl)) (fun _ _ _ h => h) (Or.inr ⟨by rfl, rfl⟩) ?_ ?_
          rotate_left
          ·simp only [Act.put, zA, zZ, zS, i64_w, i32_w]
           rfl
          refine pure_ (i := 27) (N := some 81) (v := undef) (a' := ?_) mq1728 rfl rfl (any_of HT_.out (by kernel_rfl)) (fun _ _ _ h => h) (Or.inr ⟨by rfl, rfl⟩) ?_ ?_
          rotate_left
          ·simp only [Act.put, zA, zZ, zS, i64_w, i32_w]
           rfl
          refine pure_ (i := 28) (N := some 82) (v := undef) (a' := ?_) mq1729 rfl rfl (any_of HT_.out (by kernel_rfl)) (fun _ _ _ h => h) (Or.inr ⟨by rfl, rfl⟩) ?_ ?_
          rotate_left
          ·simp only [Act.put, zA, zZ, zS, i64_w, i32_w]
           rfl
          refine pure_ (i := 29) (N := some 83) (v := undef) (a' := ?_) mq1730 rfl rfl (any_of HT_.out (by kernel_rfl)) (fun _ _ _ h => h) (Or.inr ⟨by rfl, rfl⟩) ?_ ?_
          rotate_left
          ·simp only [Act.put, zA, zZ, zS, i64_w, i32_w]
           rfl
          refine pure_ (i := 30) (N := some 84) (v := undef) (a' := ?_) mq1731 rfl rfl (any_of HT_.out (by kernel_rfl)) (fun _ _ _ h => h) (Or.inr ⟨by rfl, rfl⟩) ?_ ?_
          rotate_left
          ·simp only [Act.put, zA, zZ, zS, i64_w, i32_w]
           rfl
          refine pure_ (i := 31) (N := some 85) (v := undef) (a' := ?_) mq1732 rfl rfl (any_of HT_.out (by kernel_rfl)) (fun _ _ _ h => h) (Or.inr ⟨by rfl, rfl⟩) ?_ ?_
          rotate_left
          ·simp only [Act.put, zA, zZ, zS, i64_w, i32_w]
           rfl
          refine pure_ (i := 32) (N := some 86) (v := undef) (a' := ?_) mq1733 rfl rfl (any_of HT_.out (by kernel_rfl)) (fun _ _ _ h => h) (Or.inr ⟨by rfl, rfl⟩) ?_ ?_
          rotate_left
          ·simp only [Act.put, zA, zZ, zS, i64_w, i32_w]
           rfl
          refine pure_ (i := 33) (N := some 87) (v := undef) (a' := ?_) mq1734 rfl rfl (any_of HT_.out (by kernel_rfl)) (fun _ _ _ h => h) (Or.inr ⟨by rfl, rfl⟩) ?_ ?_
          rotate_left
          ·simp only [Act.put, zA, zZ, zS, i64_w, i32_w]
           rfl
          refine pure_ (i := 34) (N := some 88) (v := undef) (a' := ?_) mq1735 rfl rfl (any_of HT_.out (by kernel_rfl)) (fun _ _ _ h => h) (Or.inr ⟨by rfl, rfl⟩) ?_ ?_
          rotate_left
          ·simp only [Act.put, zA, zZ, zS, i64_w, i32_w]
           rfl
          refine pure_ (i := 35) (N := some 89) (v := undef) (a' := ?_) mq1736 rfl rfl (any_of HT_.out (by kernel_rfl)) (fun _ _ _ h => h) (Or.inr ⟨by rfl, rfl⟩) ?_ ?_
          rotate_left
          ·simp only [Act.put, zA, zZ, zS, i64_w, i32_w]
           rfl
          refine pure_ (i := 36) (N := some 90) (v := undef) (a' := ?_) mq1737 rfl rfl (any_of HT_.out (by kernel_rfl)) (fun _ _ _ h => h) (Or.inr ⟨by rfl, rfl⟩) ?_ ?_
          rotate_left
          ·simp only [Act.put, zA, zZ, zS, i64_w, i32_w]
           rfl
          refine pure_ (i := 37) (N := some 91) (v := undef) (a' := ?_) mq1738 rfl rfl (any_of HT_.out (by kernel_rfl)) (fun _ _ _ h => h) (Or.inr ⟨by rfl, rfl⟩) ?_ ?_
          rotate_left
          ·simp only [Act.put, zA, zZ, zS, i64_w, i32_w]
           rfl
          refine pure_ (i := 38) (N := some 92) (v := undef) (a' := ?_) mq1739 rfl rfl (any_of HT_.out (by kernel_rfl)) (fun _ _ _ h => h) (Or.inr ⟨by rfl, rfl⟩) ?_ ?_
          rotate_left
          ·simp only [Act.put, zA, zZ, zS, i64_w, i32_w]
           rfl
          refine pure_ (i := 39) (N := some 93) (v := undef) (a' := ?_) mq1740 rfl rfl (any_of HT_.out (by kernel_rfl)) (fun _ _ _ h => h) (Or.inr ⟨by rfl, rfl⟩) ?_ ?_
          rotate_left
          ·simp only [Act.put, zA, zZ, zS, i64_w, i32_w]
           rfl
          refine pure_ (i := 40) (N := some 94) (v := ?_) (a' := ?_) mq1741 rfl rfl (any_of HT_.out (by kernel_rfl)) (fun _ _ _ h => h) (Or.inl ⟨by rfl, ?_⟩) ?_ ?_
          rotate_left
          ·intro w'
           go_simp
           with_reducible rfl
          rotate_left
          ·simp only [Act.put, zA, zZ, zS, i64_w, i32_w]
           rfl
          refine done_ (done_of HT_.out (by kernel_rfl)) ?_
          try go_wp2
          go_ret
          exact ⟨rfl, by repeat (first | (with_reducible first | exact HB.out | apply zL | apply zN | apply zD | refine zJ ?_ GE422.out | refine zJ ?_ GE426.out) | exact HB.out)⟩
        ·rw [if_neg c31] at H
         exact absurd H (by simp)
       ·rw [if_neg c30] at H
        exact absurd H (by simp)
      ·rw [if_neg c29] at H
       have c29b0 : decide (x49_2 < (l0_3.length : Int)) = false := decide_eq_false c29
       clear c29
       obtain rfl := Option.some.inj H
       go_wp2
       go_ret
       exact ⟨rfl, by repeat (first | (with_reducible first | exact HB.out | apply zL | apply zN | apply zD | refine zJ ?_ GE422.out) | exact HB.out)⟩

end Go.Proofs.Ytldpaoaiapedjaa.Q
