/- What Go functions of this seat come to, as plain Lean functions, and the proof that each call does so, in whatever memory; its conditions stand in each theorem. Written by a program of this session (wip/gen), out of the print of the loaded translation. -/
import Derived.Test.YtldpaoaiapedjaaQ0
import Derived.Test.YtldpaoaiapedjaaQ4
import Derived.Test.YtldpaoaiapedjaaQ5
import Derived.Test.YtldpaoaiapedjaaQ7
import Derived.Test.YtldpaoaiapedjaaQ10
import Derived.Test.YtldpaoaiapedjaaE2
import Derived.Test.YtldpaoaiapedjaaE3
namespace Go.Proofs.Ytldpaoaiapedjaa.Q
open Go.RowKit Go.Proofs.YtldpaoaiapedjaaW.PrintWords Go.Proofs.YtldpaoaiapedjaaW.PrintLast Go.Proofs.YtldpaoaiapedjaaW.PrintMore
attribute [local go_sem] max2_int min2_int max_two min_two max_three min_three max_four min_four   -- for this text's walks alone
set_option linter.unusedVariables false
set_option linter.unusedSimpArgs false

/-! ### L16_LaneKeeps: function 5 -/
mutual
def L16_LaneKeeps.l0 : Nat → List (S38) → Bool → List ByteArray → List (S42) → Int → Int → Int → List ByteArray → List (S42) → Option (Bool)
  | 0, _, _, _, _, _, _, _, _, _ => none
  | k + 1, x1, x5, x8, x9, x10, x240000, x240001, x240002, x240003 => if x10 < (x1.length : Int) then (if 0 ≤ x10 then (if ((rd_T38 x1 x10).f0) = 1 then ((lane_Submit.f x240000 x240001 x240002 x240003 ((rd_T38 x1 x10).f2)).bind fun bt245 => (if bt245.2.2.2.2 = 0 then (if x8.length < 8796093022208 then (L16_LaneKeeps.j1 k x1 x5 (x8 ++ [(rd_T38 x1 x10).f2]) x9 x10 bt245.1 bt245.2.1 bt245.2.2.1 bt245.2.2.2.1) else (none)) else (L16_LaneKeeps.j1 k x1 x5 x8 x9 x10 bt245.1 bt245.2.1 bt245.2.2.1 bt245.2.2.2.1))) else (if ((rd_T38 x1 x10).f0) = 2 then ((lane_Seal.f x240000 x240001 x240002 x240003).bind fun bt259 => (L16_LaneKeeps.j1 k x1 x5 x8 x9 x10 bt259.1 bt259.2.1 bt259.2.2.1 bt259.2.2.2.1)) else (if ((rd_T38 x1 x10).f0) = 3 then (if ((rd_T38 x1 x10).f1) ≥ 0 then (if ((rd_T38 x1 x10).f1) < (x240003.length : Int) then (if 0 ≤ ((rd_T38 x1 x10).f1) then ((lane_Ordered.f x240000 x240001 x240002 x240003 ((rd_T42 x240003 ((rd_T38 x1 x10).f1)).f1)).bind fun bt272 => (L16_LaneKeeps.j1 k x1 x5 x8 x9 x10 bt272.1 bt272.2.1 bt272.2.2.1 bt272.2.2.2)) else (none)) else (L16_LaneKeeps.j1 k x1 x5 x8 x9 x10 x240000 x240001 x240002 x240003)) else (L16_LaneKeeps.j1 k x1 x5 x8 x9 x10 x240000 x240001 x240002 x240003)) else (L16_LaneKeeps.j1 k x1 x5 x8 x9 x10 x240000 x240001 x240002 x240003)))) else (none)) else (L16_LaneKeeps.l2 k x5 x8 x9 ([] : List ByteArray) 0 x240000 x240001 x240002 x240003)
def L16_LaneKeeps.j1 : Nat → List (S38) → Bool → List ByteArray → List (S42) → Int → Int → Int → List ByteArray → List (S42) → Option (Bool)
  | 0, _, _, _, _, _, _, _, _, _ => none
  | k + 1, x1, x5, x8, x9, x10, x240000, x240001, x240002, x240003 => L16_LaneKeeps.l1 k x1 x5 x8 x9 x10 0 x240000 x240001 x240002 x240003
def L16_LaneKeeps.l1 : Nat → List (S38) → Bool → List ByteArray → List (S42) → Int → Int → Int → Int → List ByteArray → List (S42) → Option (Bool)
  | 0, _, _, _, _, _, _, _, _, _, _ => none
  | k + 1, x1, x5, x8, x9, x10, x13, x240000, x240001, x240002, x240003 => if x13 < (x240003.length : Int) then (if 0 ≤ x13 then (if ((rd_T42 x240003 x13).f1) > (x9.length : Int) then (if x9.length < 3518437208883 then (L16_LaneKeeps.l1 k x1 x5 x8 (x9 ++ [(⟨(rd_T42 x240003 x13).f0, (rd_T42 x240003 x13).f1, (rd_T42 x240003 x13).f2⟩ : S42)]) x10 (wrap64 (x13 + 1)) x240000 x240001 x240002 x240003) else (none)) else (L16_LaneKeeps.l1 k x1 x5 x8 x9 x10 (wrap64 (x13 + 1)) x240000 x240001 x240002 x240003)) else (none)) else ((R16_Right.f k x240000 x240001 x240002 x240003).bind fun t285 => (if t285 = true then (if x240001 = (wrap64 ((x9.length : Int) + 1)) then (L16_LaneKeeps.l0 k x1 x5 x8 x9 (wrap64 (x10 + 1)) x240000 x240001 x240002 x240003) else (some false)) else (some false)))
def L16_LaneKeeps.l2 : Nat → Bool → List ByteArray → List (S42) → List ByteArray → Int → Int → Int → List ByteArray → List (S42) → Option (Bool)
  | 0, _, _, _, _, _, _, _, _, _ => none
  | k + 1, x5, x8, x9, x15, x16, x240000, x240001, x240002, x240003 => if x16 < (x9.length : Int) then (if 0 ≤ x16 then (if ((rd_T42 x9 x16).f1) = (wrap64 (x16 + 1)) then (if x15.length + ((rd_T42 x9 x16).f2).length < 8796093022208 then (L16_LaneKeeps.l2 k x5 x8 x9 (x15 ++ ((rd_T42 x9 x16).f2)) (wrap64 (x16 + 1)) x240000 x240001 x240002 x240003) else (none)) else (some false)) else (none)) else (if x15.length + x240002.length < 8796093022208 then (if x5 = true then ((R01_Same.f k (x15 ++ x240002) x8).bind fun t294 => (some t294)) else (some false)) else (none))
end
def L16_LaneKeeps.f (k : Nat) (a0 : Int) (l1 : List (S38)) : Option (Bool) := (L16_shown.f).bind fun t229 => ((lane_New.f a0).bind fun bt230 => (if bt230.2.2.2.2 = 0 then (L16_LaneKeeps.l0 k l1 t229 ([] : List ByteArray) (([] : List (S42))) 0 bt230.1 bt230.2.1 bt230.2.2.1 bt230.2.2.2.1) else (if t229 = true then (if a0 < 1 then (some true) else (some (decide (a0 > 64)))) else (some false))))
theorem L16_LaneKeeps.mono_l : ∀ k, (∀ y0 y1 y2 y3 y4 y5 y6 y7 y8, LeO (L16_LaneKeeps.l0 k y0 y1 y2 y3 y4 y5 y6 y7 y8) (L16_LaneKeeps.l0 (k + 1) y0 y1 y2 y3 y4 y5 y6 y7 y8)) ∧ (∀ y0 y1 y2 y3 y4 y5 y6 y7 y8, LeO (L16_LaneKeeps.j1 k y0 y1 y2 y3 y4 y5 y6 y7 y8) (L16_LaneKeeps.j1 (k + 1) y0 y1 y2 y3 y4 y5 y6 y7 y8)) ∧ (∀ y0 y1 y2 y3 y4 y5 y6 y7 y8 y9, LeO (L16_LaneKeeps.l1 k y0 y1 y2 y3 y4 y5 y6 y7 y8 y9) (L16_LaneKeeps.l1 (k + 1) y0 y1 y2 y3 y4 y5 y6 y7 y8 y9)) ∧ (∀ y0 y1 y2 y3 y4 y5 y6 y7 y8, LeO (L16_LaneKeeps.l2 k y0 y1 y2 y3 y4 y5 y6 y7 y8) (L16_LaneKeeps.l2 (k + 1) y0 y1 y2 y3 y4 y5 y6 y7 y8))
  | 0 => ⟨fun _ _ _ _ _ _ _ _ _ r h => by simp [L16_LaneKeeps.l0] at h, fun _ _ _ _ _ _ _ _ _ r h => by simp [L16_LaneKeeps.j1] at h, fun _ _ _ _ _ _ _ _ _ _ r h => by simp [L16_LaneKeeps.l1] at h, fun _ _ _ _ _ _ _ _ _ r h => by simp [L16_LaneKeeps.l2] at h⟩
  | k + 1 => by
    obtain ⟨ih0, ih1, ih2, ih3⟩ := L16_LaneKeeps.mono_l k
    refine ⟨?_, ?_, ?_, ?_⟩
    · intro y0 y1 y2 y3 y4 y5 y6 y7 y8
      unfold L16_LaneKeeps.l0
      repeat' first
      | (with_reducible exact ih0 _ _ _ _ _ _ _ _ _)
      | (with_reducible exact ih1 _ _ _ _ _ _ _ _ _)
      | (with_reducible exact ih2 _ _ _ _ _ _ _ _ _ _)
      | (with_reducible exact ih3 _ _ _ _ _ _ _ _ _)
      | (with_reducible exact R01_Same.mono _ _ _)
      | (with_reducible exact R16_Right.mono _ _ _ _ _)
      | (with_reducible exact LeO.refl _)
      | (with_reducible exact LeO.none _)
      | (with_reducible refine LeO.ite ?_ ?_)
      | (with_reducible refine LeO.bind ?_ (fun _ => ?_))
      | exact ih0 _ _ _ _ _ _ _ _ _
      | exact ih1 _ _ _ _ _ _ _ _ _
      | exact ih2 _ _ _ _ _ _ _ _ _ _
      | exact ih3 _ _ _ _ _ _ _ _ _
      | exact R01_Same.mono _ _ _
      | exact R16_Right.mono _ _ _ _ _
      | exact LeO.none _
      | refine LeO.ite ?_ ?_
      | refine LeO.bind ?_ (fun _ => ?_)
    · intro y0 y1 y2 y3 y4 y5 y6 y7 y8
      unfold L16_LaneKeeps.j1
      repeat' first
      | (with_reducible exact ih0 _ _ _ _ _ _ _ _ _)
      | (with_reducible exact ih1 _ _ _ _ _ _ _ _ _)
      | (with_reducible exact ih2 _ _ _ _ _ _ _ _ _ _)
      | (with_reducible exact ih3 _ _ _ _ _ _ _ _ _)
      | (with_reducible exact R01_Same.mono _ _ _)
      | (with_reducible exact R16_Right.mono _ _ _ _ _)
      | (with_reducible exact LeO.refl _)
      | (with_reducible exact LeO.none _)
      | (with_reducible refine LeO.ite ?_ ?_)
      | (with_reducible refine LeO.bind ?_ (fun _ => ?_))
      | exact ih0 _ _ _ _ _ _ _ _ _
      | exact ih1 _ _ _ _ _ _ _ _ _
      | exact ih2 _ _ _ _ _ _ _ _ _ _
      | exact ih3 _ _ _ _ _ _ _ _ _
      | exact R01_Same.mono _ _ _
      | exact R16_Right.mono _ _ _ _ _
      | exact LeO.none _
      | refine LeO.ite ?_ ?_
      | refine LeO.bind ?_ (fun _ => ?_)
    · intro y0 y1 y2 y3 y4 y5 y6 y7 y8 y9
      unfold L16_LaneKeeps.l1
      repeat' first
      | (with_reducible exact ih0 _ _ _ _ _ _ _ _ _)
      | (with_reducible exact ih1 _ _ _ _ _ _ _ _ _)
      | (with_reducible exact ih2 _ _ _ _ _ _ _ _ _ _)
      | (with_reducible exact ih3 _ _ _ _ _ _ _ _ _)
      | (with_reducible exact R01_Same.mono _ _ _)
      | (with_reducible exact R16_Right.mono _ _ _ _ _)
      | (with_reducible exact LeO.refl _)
      | (with_reducible exact LeO.none _)
      | (with_reducible refine LeO.ite ?_ ?_)
      | (with_reducible refine LeO.bind ?_ (fun _ => ?_))
      | exact ih0 _ _ _ _ _ _ _ _ _
      | exact ih1 _ _ _ _ _ _ _ _ _
      | exact ih2 _ _ _ _ _ _ _ _ _ _
      | exact ih3 _ _ _ _ _ _ _ _ _
      | exact R01_Same.mono _ _ _
      | exact R16_Right.mono _ _ _ _ _
      | exact LeO.none _
      | refine LeO.ite ?_ ?_
      | refine LeO.bind ?_ (fun _ => ?_)
    · intro y0 y1 y2 y3 y4 y5 y6 y7 y8
      unfold L16_LaneKeeps.l2
      repeat' first
      | (with_reducible exact ih0 _ _ _ _ _ _ _ _ _)
      | (with_reducible exact ih1 _ _ _ _ _ _ _ _ _)
      | (with_reducible exact ih2 _ _ _ _ _ _ _ _ _ _)
      | (with_reducible exact ih3 _ _ _ _ _ _ _ _ _)
      | (with_reducible exact R01_Same.mono _ _ _)
      | (with_reducible exact R16_Right.mono _ _ _ _ _)
      | (with_reducible exact LeO.refl _)
      | (with_reducible exact LeO.none _)
      | (with_reducible refine LeO.ite ?_ ?_)
      | (with_reducible refine LeO.bind ?_ (fun _ => ?_))
      | exact ih0 _ _ _ _ _ _ _ _ _
      | exact ih1 _ _ _ _ _ _ _ _ _
      | exact ih2 _ _ _ _ _ _ _ _ _ _
      | exact ih3 _ _ _ _ _ _ _ _ _
      | exact R01_Same.mono _ _ _
      | exact R16_Right.mono _ _ _ _ _
      | exact LeO.none _
      | refine LeO.ite ?_ ?_
      | refine LeO.bind ?_ (fun _ => ?_)
theorem L16_LaneKeeps.mono : ∀ a0 a1 k, LeO (L16_LaneKeeps.f k a0 a1) (L16_LaneKeeps.f (k + 1) a0 a1) := by
  intro a0 a1 k
  obtain ⟨ih0, ih1, ih2, ih3⟩ := L16_LaneKeeps.mono_l k
  unfold L16_LaneKeeps.f
  repeat' first
      | (with_reducible exact ih0 _ _ _ _ _ _ _ _ _)
      | (with_reducible exact ih1 _ _ _ _ _ _ _ _ _)
      | (with_reducible exact ih2 _ _ _ _ _ _ _ _ _ _)
      | (with_reducible exact ih3 _ _ _ _ _ _ _ _ _)
      | (with_reducible exact R01_Same.mono _ _ _)
      | (with_reducible exact R16_Right.mono _ _ _ _ _)
      | (with_reducible exact LeO.refl _)
      | (with_reducible exact LeO.none _)
      | (with_reducible refine LeO.ite ?_ ?_)
      | (with_reducible refine LeO.bind ?_ (fun _ => ?_))
      | exact ih0 _ _ _ _ _ _ _ _ _
      | exact ih1 _ _ _ _ _ _ _ _ _
      | exact ih2 _ _ _ _ _ _ _ _ _ _
      | exact ih3 _ _ _ _ _ _ _ _ _
      | exact R01_Same.mono _ _ _
      | exact R16_Right.mono _ _ _ _ _
      | exact LeO.none _
      | refine LeO.ite ?_ ?_
      | refine LeO.bind ?_ (fun _ => ?_)
def L16_LaneKeeps.T12 : Bool × List (List Nat × List Nat) := (true, [([], []), ([], []), ([], []), ([1, 2], [1, 2]), ([3], [3]), ([4], [4]), ([0, 5], [0, 5]), ([6], [6]), ([7], [7]), ([7], [7]), ([], []), ([10, 8, 6, 0, 1, 2, 3, 4, 5, 6, 7, 8, 10], [8, 10]), ([9, 11, 0, 1, 2, 3, 4, 5, 6, 7, 8, 9, 10, 11], [9])])
def L16_LaneKeeps.B12 : List Nat := [0, 0, 0, 6, 14, 30, 63, 127, 255, 255, 0, 1535, 4095]
theorem L16_LaneKeeps.tab12 : rtab .any (opsOf Try.f5 12) = L16_LaneKeeps.T12 := by kernel_rfl
theorem L16_LaneKeeps.bits12 : waitsOk L16_LaneKeeps.T12.2 L16_LaneKeeps.B12 = true := by kernel_rfl
def L16_LaneKeeps.T19 : Bool × List (List Nat × List Nat) := (true, [([], []), ([], []), ([0, 1], [0, 1]), ([2], [2]), ([3], [3]), ([4], [4]), ([5], [5]), ([6], [6]), ([6], [6]), ([7, 8, 6], [6, 7, 8]), ([9, 6], [6, 9]), ([10, 6], [6, 10]), ([6], [6]), ([12, 6], [6, 12]), ([13, 6], [6, 13]), ([11, 14, 6], [6, 11, 14]), ([6, 15], [6, 15])])
def L16_LaneKeeps.B19 : List Nat := [0, 0, 3, 7, 15, 31, 63, 127, 127, 511, 1023, 2047, 127, 4223, 12415, 32767, 65535]
theorem L16_LaneKeeps.tab19 : rtab .any (opsOf Try.f5 19) = L16_LaneKeeps.T19 := by kernel_rfl
theorem L16_LaneKeeps.bits19 : waitsOk L16_LaneKeeps.T19.2 L16_LaneKeeps.B19 = true := by kernel_rfl
def L16_LaneKeeps.T20 : Bool × List (List Nat × List Nat) := (true, [([], []), ([], []), ([1], [1]), ([], []), ([], []), ([3, 4], [3, 4]), ([5], [5]), ([6], [6]), ([2, 7], [2, 7]), ([8], [8]), ([9], [9]), ([0, 10], [0, 10]), ([11, 11, 0, 1, 2, 3, 4, 5, 6, 7, 8, 9, 10, 11], [11])])
def L16_LaneKeeps.B20 : List Nat := [0, 0, 2, 0, 0, 24, 56, 120, 254, 510, 1022, 2047, 4095]
theorem L16_LaneKeeps.tab20 : rtab .any (opsOf Try.f5 20) = L16_LaneKeeps.T20 := by kernel_rfl
theorem L16_LaneKeeps.bits20 : waitsOk L16_LaneKeeps.T20.2 L16_LaneKeeps.B20 = true := by kernel_rfl
end Go.Proofs.Ytldpaoaiapedjaa.Q
