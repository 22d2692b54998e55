/- What Go functions of this seat come to, as plain Lean functions, and the proof that each call does so, in whatever memory; its conditions stand in each theorem. Written by a program of this session (wip/gen), out of the print of the loaded translation. -/
import Derived.Test.YtldpaoaiapedjaaQ0
import Derived.Test.YtldpaoaiapedjaaQ3
namespace Go.Proofs.Ytldpaoaiapedjaa.Q
open Go.RowKit Go.Proofs.YtldpaoaiapedjaaW.PrintWords Go.Proofs.YtldpaoaiapedjaaW.PrintLast Go.Proofs.YtldpaoaiapedjaaW.PrintMore
attribute [local go_sem] max2_int min2_int max_two min_two max_three min_three max_four min_four   -- for this text's walks alone
set_option linter.unusedVariables false
set_option linter.unusedSimpArgs false
-- shrunk

/-! ### R16_Right: function 10 -/
mutual
def R16_Right.j0 : Nat → Bool → Int → Int → List ByteArray → List (S42) → Option (Bool)
 | 0, _, _, _, _, _ => none
 | k + 1, x31, x121000, x121001, x121002, x121003 => if x31 = true then (some false) else (R16_Right.l0 k 0 x121000 x121001 x121002 x121003)
def R16_Right.l0 : Nat → Int → Int → Int → List ByteArray → List (S42) → Option (Bool)
 | 0, _, _, _, _, _ => none
 | k + 1, x3, x121000, x121001, x121002, x121003 => if x3 < (x121002.length : Int) then (if 0 ≤ x3 then (if ((rdOf ByteArray.empty x121002 x3).size : Int) < 1 then (some false) else (if ((rdOf ByteArray.empty x121002 x3).size : Int) > 48 then (some false) else (R16_Right.l0 k (wrap64 (x3 + 1)) x121000 x121001 x121002 x121003))) else (none)) else ((R16_Left.f x121000 x121001 x121002 x121003).bind fun t123 => (if (x121002.length : Int) = 4 then (R16_Right.j2 k t123 x121000 x121001 x121002 x121003) else (R16_Right.j2 k false x121000 x121001 x121002 x121003)))
def R16_Right.j2 : Nat → Bool → Int → Int → List ByteArray → List (S42) → Option (Bool)
 | 0, _, _, _, _, _ => none
 | k + 1, x63, x121000, x121001, x121002, x121003 => if x63 = true then (some false) else (R16_Right.l1 k 0 x121000 x121001 x121002 x121003)
def R16_Right.l1 : Nat → Int → Int → Int → List ByteArray → List (S42) → Option (Bool)
 | 0, _, _, _, _, _ => none
 | k + 1, x5, x121000, x121001, x121002, x121003 => if x5 < (x121003.length : Int) then (if 0 ≤ x5 then ((R07_May.f k ((rd_T42 x121003 x5).f0) ((rd_T42 x121003 x5).f1) ((rd_T42 x121003 x5).f2)).bind fun t126 => (if t126 = true then (if ((rd_T42 x121003 x5).f0) = x121000 then (if ((rd_T42 x121003 x5).f1) ≥ x121001 then (some false) else (if ((rd_T42 x121003 x5).f1) < (wrap64 (x121001 - 8)) then (some false) else (if x5 > 0 then (if 0 ≤ (wrap64 (x5 - 1)) then (if (wrap64 (x5 - 1)) < (x121003.length : Int) then (if ((rd_T42 x121003 (wrap64 (x5 - 1))).f1) ≥ ((rd_T42 x121003 x5).f1) then (some false) else (R16_Right.l1 k (wrap64 (x5 + 1)) x121000 x121001 x121002 x121003)) else (none)) else (none)) else (R16_Right.l1 k (wrap64 (x5 + 1)) x121000 x121001 x121002 x121003)))) else (some false)) else (some false))) else (none)) else (some true)
end
def R16_Right.f (k : Nat) (a0_0 : Int) (a0_1 : Int) (l0_2 : List ByteArray) (l0_3 : List (S42)) : Option (Bool) := if a0_0 < 1 then (R16_Right.j0 k true a0_0 a0_1 l0_2 l0_3) else (if a0_0 > 64 then (R16_Right.j0 k true a0_0 a0_1 l0_2 l0_3) else (if a0_1 < 1 then (R16_Right.j0 k true a0_0 a0_1 l0_2 l0_3) else (if a0_1 > 1073741825 then (R16_Right.j0 k true a0_0 a0_1 l0_2 l0_3) else (R16_Right.j0 k (decide ((l0_2.length : Int) > 4)) a0_0 a0_1 l0_2 l0_3))))
theorem R16_Right.mono_l : ∀ k, (∀ y0 y1 y2 y3 y4, LeO (R16_Right.j0 k y0 y1 y2 y3 y4) (R16_Right.j0 (k + 1) y0 y1 y2 y3 y4)) ∧ (∀ y0 y1 y2 y3 y4, LeO (R16_Right.l0 k y0 y1 y2 y3 y4) (R16_Right.l0 (k + 1) y0 y1 y2 y3 y4)) ∧ (∀ y0 y1 y2 y3 y4, LeO (R16_Right.j2 k y0 y1 y2 y3 y4) (R16_Right.j2 (k + 1) y0 y1 y2 y3 y4)) ∧ (∀ y0 y1 y2 y3 y4, LeO (R16_Right.l1 k y0 y1 y2 y3 y4) (R16_Right.l1 (k + 1) y0 y1 y2 y3 y4))
 | 0 => ⟨fun _ _ _ _ _ r h => by simp [R16_Right.j0] at h, fun _ _ _ _ _ r h => by simp [R16_Right.l0] at h, fun _ _ _ _ _ r h => by simp [R16_Right.j2] at h, fun _ _ _ _ _ r h => by simp [R16_Right.l1] at h⟩
 | k + 1 => by
  obtain ⟨ih0, ih1, ih2, ih3⟩ := R16_Right.mono_l k
  refine ⟨?_, ?_, ?_, ?_⟩
  ·intro y0 y1 y2 y3 y4
   unfold R16_Right.j0
   repeat' first
   | (with_reducible exact ih0 _ _ _ _ _)
   | (with_reducible exact ih1 _ _ _ _ _)
   | (with_reducible exact ih2 _ _ _ _ _)
   | (with_reducible exact ih3 _ _ _ _ _)
   | (with_reducible exact R07_May.mono _ _ _ _)
   | (with_reducible exact LeO.refl _)
   | (with_reducible exact LeO.none _)
   | (with_reducible refine LeO.ite ?_ ?_)
   | (with_reducible refine LeO.bind ?_ (fun _ => ?_))
   | exact ih0 _ _ _ _ _
   | exact ih1 _ _ _ _ _
   | exact ih2 _ _ _ _ _
   | exact ih3 _ _ _ _ _
   | exact R07_May.mono _ _ _ _
   | exact LeO.none _
   | refine LeO.ite ?_ ?_
   | refine LeO.bind ?_ (fun _ => ?_)
  ·intro y0 y1 y2 y3 y4
   unfold R16_Right.l0
   repeat' first
   | (with_reducible exact ih0 _ _ _ _ _)
   | (with_reducible exact ih1 _ _ _ _ _)
   | (with_reducible exact ih2 _ _ _ _ _)
   | (with_reducible exact ih3 _ _ _ _ _)
   | (with_reducible exact R07_May.mono _ _ _ _)
   | (with_reducible exact LeO.refl _)
   | (with_reducible exact LeO.none _)
   | (with_reducible refine LeO.ite ?_ ?_)
   | (with_reducible refine LeO.bind ?_ (fun _ => ?_))
   | exact ih0 _ _ _ _ _
   | exact ih1 _ _ _ _ _
   | exact ih2 _ _ _ _ _
   | exact ih3 _ _ _ _ _
   | exact R07_May.mono _ _ _ _
   | exact LeO.none _
   | refine LeO.ite ?_ ?_
   | refine LeO.bind ?_ (fun _ => ?_)
  ·intro y0 y1 y2 y3 y4
   unfold R16_Right.j2
   repeat' first
   | (with_reducible exact ih0 _ _ _ _ _)
   | (with_reducible exact ih1 _ _ _ _ _)
   | (with_reducible exact ih2 _ _ _ _ _)
   | (with_reducible exact ih3 _ _ _ _ _)
   | (with_reducible exact R07_May.mono _ _ _ _)
   | (with_reducible exact LeO.refl _)
   | (with_reducible exact LeO.none _)
   | (with_reducible refine LeO.ite ?_ ?_)
   | (with_reducible refine LeO.bind ?_ (fun _ => ?_))
   | exact ih0 _ _ _ _ _
   | exact ih1 _ _ _ _ _
   | exact ih2 _ _ _ _ _
   | exact ih3 _ _ _ _ _
   | exact R07_May.mono _ _ _ _
   | exact LeO.none _
   | refine LeO.ite ?_ ?_
   | refine LeO.bind ?_ (fun _ => ?_)
  ·intro y0 y1 y2 y3 y4
   unfold R16_Right.l1
   repeat' first
   | (with_reducible exact ih0 _ _ _ _ _)
   | (with_reducible exact ih1 _ _ _ _ _)
   | (with_reducible exact ih2 _ _ _ _ _)
   | (with_reducible exact ih3 _ _ _ _ _)
   | (with_reducible exact R07_May.mono _ _ _ _)
   | (with_reducible exact LeO.refl _)
   | (with_reducible exact LeO.none _)
   | (with_reducible refine LeO.ite ?_ ?_)
   | (with_reducible refine LeO.bind ?_ (fun _ => ?_))
   | exact ih0 _ _ _ _ _
   | exact ih1 _ _ _ _ _
   | exact ih2 _ _ _ _ _
   | exact ih3 _ _ _ _ _
   | exact R07_May.mono _ _ _ _
   | exact LeO.none _
   | refine LeO.ite ?_ ?_
   | refine LeO.bind ?_ (fun _ => ?_)
theorem R16_Right.mono : ∀ a0 a1 a2 a3 k, LeO (R16_Right.f k a0 a1 a2 a3) (R16_Right.f (k + 1) a0 a1 a2 a3) := by
 intro a0 a1 a2 a3 k
 obtain ⟨ih0, ih1, ih2, ih3⟩ := R16_Right.mono_l k
 unfold R16_Right.f
 repeat' first
   | (with_reducible exact ih0 _ _ _ _ _)
   | (with_reducible exact ih1 _ _ _ _ _)
   | (with_reducible exact ih2 _ _ _ _ _)
   | (with_reducible exact ih3 _ _ _ _ _)
   | (with_reducible exact R07_May.mono _ _ _ _)
   | (with_reducible exact LeO.refl _)
   | (with_reducible exact LeO.none _)
   | (with_reducible refine LeO.ite ?_ ?_)
   | (with_reducible refine LeO.bind ?_ (fun _ => ?_))
   | exact ih0 _ _ _ _ _
   | exact ih1 _ _ _ _ _
   | exact ih2 _ _ _ _ _
   | exact ih3 _ _ _ _ _
   | exact R07_May.mono _ _ _ _
   | exact LeO.none _
   | refine LeO.ite ?_ ?_
   | refine LeO.bind ?_ (fun _ => ?_)
set_option maxHeartbeats 8000000 in
set_option maxRecDepth 100000 in
theorem R16_Right.calls (k : Nat) (a0_0 : Int) (a0_1 : Int) (A0_2 : Option Addr) (c0_2 : Nat) (l0_2 : List ByteArray) (A0_3 : Option Addr) (c0_3 : Nat) (l0_3 : List (S42)) (r : Bool) (w : World) (hr0_2 : Kd.C Kd.string w A0_2 l0_2.length l0_2) (hc0_2 : l0_2.length ≤ c0_2) (hr0_3 : Kd.C k42 w A0_3 l0_3.length l0_3) (hc0_3 : l0_3.length ≤ c0_3) (h : R16_Right.f k a0_0 a0_1 l0_2 l0_3 = some r) :
  Calls Try.prog 10 #[.agg #[.int .i64 a0_0, .int .i64 a0_1, .slice A0_2 l0_2.length c0_2, .slice A0_3 l0_3.length c0_3]] w fun e w' => e = .returned (.bool r) ∧ Below w.heap.size w w' := by
 have hu25 := Try.underlying25
 have hu42 := Try.underlying42
 have HR0_2 := zM hr0_2
 have HC0_2 := zM hc0_2
 clear hr0_2 hc0_2
 have HR0_3 := zM hr0_3
 have HC0_3 := zM hc0_3
 clear hr0_3 hc0_3
 have HB := zM (Below.refl w.heap.size w)
 have H : (if a0_0 < 1 then (R16_Right.j0 k true a0_0 a0_1 l0_2 l0_3) else (if a0_0 > 64 then (R16_Right.j0 k true a0_0 a0_1 l0_2 l0_3) else (if a0_1 < 1 then (R16_Right.j0 k true a0_0 a0_1 l0_2 l0_3) else (if a0_1 > 1073741825 then (R16_Right.j0 k true a0_0 a0_1 l0_2 l0_3) else (R16_Right.j0 k (decide ((l0_2.length : Int) > 4)) a0_0 a0_1 l0_2 l0_3))))) = some r := h
 clear h
 have HC2 := zM H
 clear H
 go_enter Try.func10, Try.ntmps10
 go_upto_region 1 with (first | ((with_reducible refine gate_dst (N := 1) rfl ?_); (try (refine gate_guard (by rfl) ?_; dsimp only)); refine box_event ?hg (N := 1) ?hd (cs := #[.int .i64 a0_0, .int .i64 a0_1, .slice A0_2 l0_2.length c0_2, .slice A0_3 l0_3.length c0_3]) (t := 25) ?hr ?_; (case hd => rfl); (case hg => rfl); (case hr => go_simp); intro gb120 hg w3 hbox hb; have n0_ := zM (zp HB.out hb); have n1_ := zM (hbox); have n2_ := zM ((by rw [hg]; exact (zs HB.out) : w.heap.size ≤ gb120)); have n3_ := zM ((by rw [hg]; exact (zs HB.out) : w.heap.size ≤ gb120)); clear HB; have HB := n0_; have BK120 := n1_; have GW120 := n2_; have GE120 := n3_; clear n0_ n1_ n2_ n3_; clear hb hbox hg))
 repeat (go_quiet (first | ((with_reducible refine gate_dst (N := 1) rfl ?_); (try (refine gate_guard (by rfl) ?_; dsimp only)); refine box_event ?hg (N := 1) ?hd (cs := #[.int .i64 a0_0, .int .i64 a0_1, .slice A0_2 l0_2.length c0_2, .slice A0_3 l0_3.length c0_3]) (t := 25) ?hr ?_; (case hd => rfl); (case hg => rfl); (case hr => go_simp); intro gb120 hg w3 hbox hb; have n0_ := zM (zp HB.out hb); have n1_ := zM (hbox); have n2_ := zM ((by rw [hg]; exact (zs HB.out) : w.heap.size ≤ gb120)); have n3_ := zM ((by rw [hg]; exact (zs HB.out) : w.heap.size ≤ gb120)); clear HB; have HB := n0_; have BK120 := n1_; have GW120 := n2_; have GE120 := n3_; clear n0_ n1_ n2_ n3_; clear hb hbox hg)); go_upto_region 1 with (first | ((with_reducible refine gate_dst (N := 1) rfl ?_); (try (refine gate_guard (by rfl) ?_; dsimp only)); refine box_event ?hg (N := 1) ?hd (cs := #[.int .i64 a0_0, .int .i64 a0_1, .slice A0_2 l0_2.length c0_2, .slice A0_3 l0_3.length c0_3]) (t := 25) ?hr ?_; (case hd => rfl); (case hg => rfl); (case hr => go_simp); intro gb120 hg w3 hbox hb; have n0_ := zM (zp HB.out hb); have n1_ := zM (hbox); have n2_ := zM ((by rw [hg]; exact (zs HB.out) : w.heap.size ≤ gb120)); have n3_ := zM ((by rw [hg]; exact (zs HB.out) : w.heap.size ≤ gb120)); clear HB; have HB := n0_; have BK120 := n1_; have GW120 := n2_; have GE120 := n3_; clear n0_ n1_ n2_ n3_; clear hb hbox hg)))
 (try simp only [Act.put, zA, zZ, zS])
 go_cut [31] (fun v31 wc => ∃ (kq : Nat) (x31_1 : Bool), v31 = .bool x31_1 ∧ Aside0 (R16_Right.j0 kq x31_1 a0_0 a0_1 l0_2 l0_3 = some r) ∧ Aside0 (kq ≤ k) ∧ Aside0 (wc.heap[gb120]? = some (.cells #[.int .i64 a0_0, .int .i64 a0_1, (.slice A0_2 l0_2.length c0_2), (.slice A0_3 l0_3.length c0_3)] 25 (0, 0))) ∧ Aside0 (Below w.heap.size w wc))
 case first =>
  have H := HC2.out
  clear HC2
  by_cases c4 : a0_0 < 1
  ·rw [if_pos c4] at H
   have c4b0 : decide (a0_0 < 1) = true := decide_eq_true c4
   clear c4
   (first | rw [c4b0] | (simp only [i64_w, i32_w]; rw [c4b0]) | skip)
   have H' := zM H
   clear H
   have hcz5_0 : w3.cell? ⟨gb120, 0, none⟩ = some (.int .i64 a0_0) := (zc BK120.out 0).trans rfl
   have hcz5_1 : w3.cell? ⟨gb120, 1, none⟩ = some (.int .i64 a0_1) := (zc BK120.out 1).trans rfl
   have hcz5_2 : w3.cell? ⟨gb120, 2, none⟩ = some (.slice A0_2 l0_2.length c0_2) := (zc BK120.out 2).trans rfl
   have hcz5_3 : w3.cell? ⟨gb120, 3, none⟩ = some (.slice A0_3 l0_3.length c0_3) := (zc BK120.out 3).trans rfl
   have hfz5_0 := zf BK120.out 0
   have hfz5_1 := zf BK120.out 1
   have hfz5_2 := zf BK120.out 2
   have hfz5_3 := zf BK120.out 3
   go_wp2
   repeat (go_quiet (fail); try go_wp2)
   go_meet
   case rel => exact ⟨_, (true), rfl, H', ⟨by first | omega | exact Nat.le_refl _⟩, ⟨by exact BK120.out⟩, ⟨by repeat (first | (with_reducible first | exact HB.out | apply zL | apply zN | apply zD | refine zJ ?_ GE120.out) | exact HB.out)⟩⟩
  ·rw [if_neg c4] at H
   have c4b0 : decide (a0_0 < 1) = false := decide_eq_false c4
   clear c4
   (first | rw [c4b0] | (simp only [i64_w, i32_w]; rw [c4b0]) | skip)
   by_cases c6 : a0_0 > 64
   ·rw [if_pos c6] at H
    have c6b0 : decide (64 < a0_0) = true := decide_eq_true c6
    clear c6
    have H' := zM H
    clear H
    have hcz7_0 : w3.cell? ⟨gb120, 0, none⟩ = some (.int .i64 a0_0) := (zc BK120.out 0).trans rfl
    have hcz7_1 : w3.cell? ⟨gb120, 1, none⟩ = some (.int .i64 a0_1) := (zc BK120.out 1).trans rfl
    have hcz7_2 : w3.cell? ⟨gb120, 2, none⟩ = some (.slice A0_2 l0_2.length c0_2) := (zc BK120.out 2).trans rfl
    have hcz7_3 : w3.cell? ⟨gb120, 3, none⟩ = some (.slice A0_3 l0_3.length c0_3) := (zc BK120.out 3).trans rfl
    have hfz7_0 := zf BK120.out 0
    have hfz7_1 := zf BK120.out 1
    have hfz7_2 := zf BK120.out 2
    have hfz7_3 := zf BK120.out 3
    go_wp2
    repeat (go_quiet (fail); try go_wp2)
    go_meet
    case rel => exact ⟨_, (true), rfl, H', ⟨by first | omega | exact Nat.le_refl _⟩, ⟨by exact BK120.out⟩, ⟨by repeat (first | (with_reducible first | exact HB.out | apply zL | apply zN | apply zD | refine zJ ?_ GE120.out) | exact HB.out)⟩⟩
   ·rw [if_neg c6] at H
    have c6b0 : decide (64 < a0_0) = false := decide_eq_false c6
    clear c6
    by_cases c8 : a0_1 < 1
    ·rw [if_pos c8] at H
     have c8b0 : decide (a0_1 < 1) = true := decide_eq_true c8
     clear c8
     have H' := zM H
     clear H
     have hcz9_0 : w3.cell? ⟨gb120, 0, none⟩ = some (.int .i64 a0_0) := (zc BK120.out 0).trans rfl
     have hcz9_1 : w3.cell? ⟨gb120, 1, none⟩ = some (.int .i64 a0_1) := (zc BK120.out 1).trans rfl
     have hcz9_2 : w3.cell? ⟨gb120, 2, none⟩ = some (.slice A0_2 l0_2.length c0_2) := (zc BK120.out 2).trans rfl
     have hcz9_3 : w3.cell? ⟨gb120, 3, none⟩ = some (.slice A0_3 l0_3.length c0_3) := (zc BK120.out 3).trans rfl
     have hfz9_0 := zf BK120.out 0
     have hfz9_1 := zf BK120.out 1
     have hfz9_2 := zf BK120.out 2
     have hfz9_3 := zf BK120.out 3
     go_wp2
     repeat (go_quiet (fail); try go_wp2)
     go_meet
     case rel => exact ⟨_, (true), rfl, H', ⟨by first | omega | exact Nat.le_refl _⟩, ⟨by exact BK120.out⟩, ⟨by repeat (first | (with_reducible first | exact HB.out | apply zL | apply zN | apply zD | refine zJ ?_ GE120.out) | exact HB.out)⟩⟩
    ·rw [if_neg c8] at H
     have c8b0 : decide (a0_1 < 1) = false := decide_eq_false c8
     clear c8
     by_cases c10 : a0_1 > 1073741825
     ·rw [if_pos c10] at H
      have c10b0 : decide (1073741825 < a0_1) = true := decide_eq_true c10
      clear c10
      have H' := zM H
      clear H
      have hcz11_0 : w3.cell? ⟨gb120, 0, none⟩ = some (.int .i64 a0_0) := (zc BK120.out 0).trans rfl
      have hcz11_1 : w3.cell? ⟨gb120, 1, none⟩ = some (.int .i64 a0_1) := (zc BK120.out 1).trans rfl
      have hcz11_2 : w3.cell? ⟨gb120, 2, none⟩ = some (.slice A0_2 l0_2.length c0_2) := (zc BK120.out 2).trans rfl
      have hcz11_3 : w3.cell? ⟨gb120, 3, none⟩ = some (.slice A0_3 l0_3.length c0_3) := (zc BK120.out 3).trans rfl
      have hfz11_0 := zf BK120.out 0
      have hfz11_1 := zf BK120.out 1
      have hfz11_2 := zf BK120.out 2
      have hfz11_3 := zf BK120.out 3
      go_wp2
      repeat (go_quiet (fail); try go_wp2)
      go_meet
      case rel => exact ⟨_, (true), rfl, H', ⟨by first | omega | exact Nat.le_refl _⟩, ⟨by exact BK120.out⟩, ⟨by repeat (first | (with_reducible first | exact HB.out | apply zL | apply zN | apply zD | refine zJ ?_ GE120.out) | exact HB.out)⟩⟩
     ·rw [if_neg c10] at H
      have c10b0 : decide (1073741825 < a0_1) = false := decide_eq_false c10
      clear c10
      have H' := zM H
      clear H
      have hcz12_0 : w3.cell? ⟨gb120, 0, none⟩ = some (.int .i64 a0_0) := (zc BK120.out 0).trans rfl
      have hcz12_1 : w3.cell? ⟨gb120, 1, none⟩ = some (.int .i64 a0_1) := (zc BK120.out 1).trans rfl
      have hcz12_2 : w3.cell? ⟨gb120, 2, none⟩ = some (.slice A0_2 l0_2.length c0_2) := (zc BK120.out 2).trans rfl
      have hcz12_3 : w3.cell? ⟨gb120, 3, none⟩ = some (.slice A0_3 l0_3.length c0_3) := (zc BK120.out 3).trans rfl
      have hfz12_0 := zf BK120.out 0
      have hfz12_1 := zf BK120.out 1
      have hfz12_2 := zf BK120.out 2
      have hfz12_3 := zf BK120.out 3
      go_wp2
      repeat (go_quiet (fail); try go_wp2)
      go_meet
      case rel => exact ⟨_, (decide ((l0_2.length : Int) > 4)), rfl, H', ⟨by first | omega | exact Nat.le_refl _⟩, ⟨by exact BK120.out⟩, ⟨by repeat (first | (with_reducible first | exact HB.out | apply zL | apply zN | apply zD | refine zJ ?_ GE120.out) | exact HB.out)⟩⟩
 case rest =>
  clear HC2
  obtain ⟨kq, x31_1, rfl, HA, HJ1, BK120, HB⟩ := hcut
  cases kq with
  | zero => exact absurd HA.out (by simp [R16_Right.j0])
  | succ kj1 =>
   have H := HA.out
   clear HA
   simp only [R16_Right.j0] at H
   by_cases c13 : x31_1 = true
   ·subst c13
    have H1 : (some false) = some r := by rw [if_pos rfl] at H; exact H
    clear H
    have H := H1
    clear H1
    obtain rfl := Option.some.inj H
    go_wp2
    repeat (go_quiet (fail); try go_wp2)
    go_ret
    exact ⟨rfl, by repeat (first | (with_reducible first | exact HB.out | apply zL | apply zN | apply zD | refine zJ ?_ GE120.out) | exact HB.out)⟩
   ·replace c13 := Bool.eq_false_iff.mpr c13
    subst c13
    have H1 : (R16_Right.l0 kj1 0 a0_0 a0_1 l0_2 l0_3) = some r := by rw [if_neg (show ¬ (false = true) by decide)] at H; exact H
    clear H
    have H := H1
    clear H1
    have H' := zM H
    clear H
    go_wp2
    repeat (go_quiet (fail); try go_wp2)
    go_loopg [3] kj1 (fun kq v3 w' => ∃ (x3_2 : Int), v3 = .int .i64 x3_2 ∧ Aside0 (R16_Right.l0 kq x3_2 a0_0 a0_1 l0_2 l0_3 = some r) ∧ Aside0 (kq ≤ kj1) ∧ Aside0 (w'.heap[gb120]? = some (.cells #[.int .i64 a0_0, .int .i64 a0_1, (.slice A0_2 l0_2.length c0_2), (.slice A0_3 l0_3.length c0_3)] 25 (0, 0))) ∧ Aside0 (Below w.heap.size w w'))
    case atStart => exact ⟨(0), rfl, H', ⟨Nat.le_refl _⟩, ⟨by exact BK120.out⟩, ⟨by repeat (first | (with_reducible first | exact HB.out | apply zL | apply zN | apply zD | refine zJ ?_ GE120.out) | exact HB.out)⟩⟩
    case round =>
     clear H'
     obtain ⟨x3_2, rfl, HA, HK2, BK120, HB⟩ := hrel
     cases gk with
     | zero => exact absurd HA.out (by simp [R16_Right.l0])
     | succ k2 =>
      have H := HA.out
      clear HA
      simp only [R16_Right.l0] at H
      by_cases c14 : x3_2 < (l0_2.length : Int)
      ·rw [if_pos c14] at H
       have c14b0 : decide (x3_2 < (l0_2.length : Int)) = true := decide_eq_true c14
       clear c14
       by_cases c15 : 0 ≤ x3_2
       ·rw [if_pos c15] at H
        have c15b0 : decide (0 ≤ x3_2) = true := decide_eq_true c15
        clear c15
        by_cases c16 : ((rdOf ByteArray.empty l0_2 x3_2).size : Int) < 1
        ·rw [if_pos c16] at H
         have c16b0 : decide (((rdOf ByteArray.empty l0_2 x3_2).size : Int) < 1) = true := decide_eq_true c16
         have c16b1 : decide ((rdOf ByteArray.empty l0_2 x3_2).size < 1) = true := decide_eq_true (by omega)
         clear c16
         obtain rfl := Option.some.inj H
         have hcz17_0 : wr.cell? ⟨gb120, 0, none⟩ = some (.int .i64 a0_0) := (zc BK120.out 0).trans rfl
         have hcz17_1 : wr.cell? ⟨gb120, 1, none⟩ = some (.int .i64 a0_1) := (zc BK120.out 1).trans rfl
         have hcz17_2 : wr.cell? ⟨gb120, 2, none⟩ = some (.slice A0_2 l0_2.length c0_2) := (zc BK120.out 2).trans rfl
         have hcz17_3 : wr.cell? ⟨gb120, 3, none⟩ = some (.slice A0_3 l0_3.length c0_3) := (zc BK120.out 3).trans rfl
         have hfz17_0 := zf BK120.out 0
         have hfz17_1 := zf BK120.out 1
         have hfz17_2 := zf BK120.out 2
         have hfz17_3 := zf BK120.out 3
         have p121 : 0 ≤ (x3_2 : Int) := zo (by assumption)
         have q121 : x3_2 < (l0_2.length : Int) := zo (by assumption)
         obtain ⟨ad121, e121, hx121_0⟩ := Kd.at_string HR0_2.out x3_2 p121 q121
         cases e121
         replace hx121_0 := (HB.out.cell (zW w _ hx121_0)).trans hx121_0
         replace p121 := eq_true p121
         replace q121 := eq_true q121
         go_wp2
         repeat (go_quiet (fail); try go_wp2)
         go_ret
         exact ⟨rfl, by repeat (first | (with_reducible first | exact HB.out | apply zL | apply zN | apply zD | refine zJ ?_ GE120.out) | exact HB.out)⟩
        ·rw [if_neg c16] at H
         have c16b0 : decide (((rdOf ByteArray.empty l0_2 x3_2).size : Int) < 1) = false := decide_eq_false c16
         have c16b1 : decide ((rdOf ByteArray.empty l0_2 x3_2).size < 1) = false := decide_eq_false (by omega)
         clear c16
         by_cases c18 : ((rdOf ByteArray.empty l0_2 x3_2).size : Int) > 48
         ·rw [if_pos c18] at H
          have c18b0 : decide (48 < ((rdOf ByteArray.empty l0_2 x3_2).size : Int)) = true := decide_eq_true c18
          have c18b1 : decide (48 < (rdOf ByteArray.empty l0_2 x3_2).size) = true := decide_eq_true (by omega)
          clear c18
          obtain rfl := Option.some.inj H
          have hcz19_0 : wr.cell? ⟨gb120, 0, none⟩ = some (.int .i64 a0_0) := (zc BK120.out 0).trans rfl
          have hcz19_1 : wr.cell? ⟨gb120, 1, none⟩ = some (.int .i64 a0_1) := (zc BK120.out 1).trans rfl
          have hcz19_2 : wr.cell? ⟨gb120, 2, none⟩ = some (.slice A0_2 l0_2.length c0_2) := (zc BK120.out 2).trans rfl
          have hcz19_3 : wr.cell? ⟨gb120, 3, none⟩ = some (.slice A0_3 l0_3.length c0_3) := (zc BK120.out 3).trans rfl
          have hfz19_0 := zf BK120.out 0
          have hfz19_1 := zf BK120.out 1
          have hfz19_2 := zf BK120.out 2
          have hfz19_3 := zf BK120.out 3
          have p121 : 0 ≤ (x3_2 : Int) := zo (by assumption)
          have q121 : x3_2 < (l0_2.length : Int) := zo (by assumption)
          obtain ⟨ad121, e121, hx121_0⟩ := Kd.at_string HR0_2.out x3_2 p121 q121
          cases e121
          replace hx121_0 := (HB.out.cell (zW w _ hx121_0)).trans hx121_0
          replace p121 := eq_true p121
          replace q121 := eq_true q121
          have p122 : 0 ≤ (x3_2 : Int) := zo (by assumption)
          have q122 : x3_2 < (l0_2.length : Int) := zo (by assumption)
          obtain ⟨ad122, e122, hx122_0⟩ := Kd.at_string HR0_2.out x3_2 p122 q122
          obtain rfl : ad121 = ad122 := (by injection e122)
          replace hx122_0 := (HB.out.cell (zW w _ hx122_0)).trans hx122_0
          replace p122 := eq_true p122
          replace q122 := eq_true q122
          go_wp2
          repeat (go_quiet (fail); try go_wp2)
          go_ret
          exact ⟨rfl, by repeat (first | (with_reducible first | exact HB.out | apply zL | apply zN | apply zD | refine zJ ?_ GE120.out) | exact HB.out)⟩
         ·rw [if_neg c18] at H
          have c18b0 : decide (48 < ((rdOf ByteArray.empty l0_2 x3_2).size : Int)) = false := decide_eq_false c18
          have c18b1 : decide (48 < (rdOf ByteArray.empty l0_2 x3_2).size) = false := decide_eq_false (by omega)
          clear c18
          have H' := zM H
          clear H
          have hcz20_0 : wr.cell? ⟨gb120, 0, none⟩ = some (.int .i64 a0_0) := (zc BK120.out 0).trans rfl
          have hcz20_1 : wr.cell? ⟨gb120, 1, none⟩ = some (.int .i64 a0_1) := (zc BK120.out 1).trans rfl
          have hcz20_2 : wr.cell? ⟨gb120, 2, none⟩ = some (.slice A0_2 l0_2.length c0_2) := (zc BK120.out 2).trans rfl
          have hcz20_3 : wr.cell? ⟨gb120, 3, none⟩ = some (.slice A0_3 l0_3.length c0_3) := (zc BK120.out 3).trans rfl
          have hfz20_0 := zf BK120.out 0
          have hfz20_1 := zf BK120.out 1
          have hfz20_2 := zf BK120.out 2
          have hfz20_3 := zf BK120.out 3
          have p121 : 0 ≤ (x3_2 : Int) := zo (by assumption)
          have q121 : x3_2 < (l0_2.length : Int) := zo (by assumption)
          obtain ⟨ad121, e121, hx121_0⟩ := Kd.at_string HR0_2.out x3_2 p121 q121
          cases e121
          replace hx121_0 := (HB.out.cell (zW w _ hx121_0)).trans hx121_0
          replace p121 := eq_true p121
          replace q121 := eq_true q121
          have p122 : 0 ≤ (x3_2 : Int) := zo (by assumption)
          have q122 : x3_2 < (l0_2.length : Int) := zo (by assumption)
          obtain ⟨ad122, e122, hx122_0⟩ := Kd.at_string HR0_2.out x3_2 p122 q122
          obtain rfl : ad121 = ad122 := (by injection e122)
          replace hx122_0 := (HB.out.cell (zW w _ hx122_0)).trans hx122_0
          replace p122 := eq_true p122
          replace q122 := eq_true q122
          go_wp2
          repeat (go_quiet (fail); try go_wp2)
          go_roundg k2
          case measure => have := HJ1.out; have := HK2.out; omega
          case rel => exact ⟨(wrap64 (x3_2 + 1)), rfl, H', ⟨by have := HJ1.out; have := HK2.out; omega⟩, ⟨by exact BK120.out⟩, ⟨by repeat (first | (with_reducible first | exact HB.out | apply zL | apply zN | apply zD | refine zJ ?_ GE120.out) | exact HB.out)⟩⟩
       ·rw [if_neg c15] at H
        exact absurd H (by simp)
      ·rw [if_neg c14] at H
       have c14b0 : decide (x3_2 < (l0_2.length : Int)) = false := decide_eq_false c14
       clear c14
       replace H := Option.bind_eq_some_iff.mp H
       obtain ⟨t123, A210, H⟩ := H
       replace H : (if (l0_2.length : Int) = 4 then (R16_Right.j2 k2 t123 a0_0 a0_1 l0_2 l0_3) else (R16_Right.j2 k2 false a0_0 a0_1 l0_2 l0_3)) = some r := H
       have A21 := zM A210
       clear A210
       have HC22 := zM H
       clear H
       have hcz23_0 : wr.cell? ⟨gb120, 0, none⟩ = some (.int .i64 a0_0) := (zc BK120.out 0).trans rfl
       have hcz23_1 : wr.cell? ⟨gb120, 1, none⟩ = some (.int .i64 a0_1) := (zc BK120.out 1).trans rfl
       have hcz23_2 : wr.cell? ⟨gb120, 2, none⟩ = some (.slice A0_2 l0_2.length c0_2) := (zc BK120.out 2).trans rfl
       have hcz23_3 : wr.cell? ⟨gb120, 3, none⟩ = some (.slice A0_3 l0_3.length c0_3) := (zc BK120.out 3).trans rfl
       have hfz23_0 := zf BK120.out 0
       have hfz23_1 := zf BK120.out 1
       have hfz23_2 := zf BK120.out 2
       have hfz23_3 := zf BK120.out 3
       go_upto_region 9 with (first | (go_at_call 12; (with_reducible refine (R16_Left.calls a0_0 a0_1 _ _ l0_2 _ _ l0_3 t123 _ ?side1 ?side2 ?side3 ?side4 A21.out).mono ?_); (case side1 => exact (zcb HR0_2.out HB.out)); (case side2 => exact HC0_2.out); (case side3 => exact (zcb HR0_3.out HB.out)); (case side4 => exact HC0_3.out); rintro e w24 ⟨rfl, hb⟩; have n0_ := zM (zb (g := gb120) (o := .cells #[.int .i64 a0_0, .int .i64 a0_1, .slice A0_2 l0_2.length c0_2, .slice A0_3 l0_3.length c0_3] 25 (0, 0)) (by exact BK120.out) hb); have n1_ := zM (zp HB.out hb); clear BK120; clear HB; have BK120 := n0_; have HB := n1_; clear n0_ n1_))
       repeat (go_quiet (first | (go_at_call 12; (with_reducible refine (R16_Left.calls a0_0 a0_1 _ _ l0_2 _ _ l0_3 t123 _ ?side1 ?side2 ?side3 ?side4 A21.out).mono ?_); (case side1 => exact (zcb HR0_2.out HB.out)); (case side2 => exact HC0_2.out); (case side3 => exact (zcb HR0_3.out HB.out)); (case side4 => exact HC0_3.out); rintro e w24 ⟨rfl, hb⟩; have n0_ := zM (zb (g := gb120) (o := .cells #[.int .i64 a0_0, .int .i64 a0_1, .slice A0_2 l0_2.length c0_2, .slice A0_3 l0_3.length c0_3] 25 (0, 0)) (by exact BK120.out) hb); have n1_ := zM (zp HB.out hb); clear BK120; clear HB; have BK120 := n0_; have HB := n1_; clear n0_ n1_)); go_upto_region 9 with (first | (go_at_call 12; (with_reducible refine (R16_Left.calls a0_0 a0_1 _ _ l0_2 _ _ l0_3 t123 _ ?side1 ?side2 ?side3 ?side4 A21.out).mono ?_); (case side1 => exact (zcb HR0_2.out HB.out)); (case side2 => exact HC0_2.out); (case side3 => exact (zcb HR0_3.out HB.out)); (case side4 => exact HC0_3.out); rintro e w24 ⟨rfl, hb⟩; have n0_ := zM (zb (g := gb120) (o := .cells #[.int .i64 a0_0, .int .i64 a0_1, .slice A0_2 l0_2.length c0_2, .slice A0_3 l0_3.length c0_3] 25 (0, 0)) (by exact BK120.out) hb); have n1_ := zM (zp HB.out hb); clear BK120; clear HB; have BK120 := n0_; have HB := n1_; clear n0_ n1_)))
       (try simp only [Act.put, zA, zZ, zS])
       go_cut [63] (fun v63 wc => ∃ (kq : Nat) (x63_21 : Bool), v63 = .bool x63_21 ∧ Aside0 (R16_Right.j2 kq x63_21 a0_0 a0_1 l0_2 l0_3 = some r) ∧ Aside0 (kq ≤ k2) ∧ Aside0 (wc.heap[gb120]? = some (.cells #[.int .i64 a0_0, .int .i64 a0_1, (.slice A0_2 l0_2.length c0_2), (.slice A0_3 l0_3.length c0_3)] 25 (0, 0))) ∧ Aside0 (Below w.heap.size w wc))
       case first =>
        have H := HC22.out
        clear HC22
        by_cases c25 : (l0_2.length : Int) = 4
        ·rw [if_pos c25] at H
         have c25b0 : ((l0_2.length : Int) == 4) = true := beq_iff_eq.mpr c25
         have c25b1 : ((l0_2.length : Int) != 4) = false := bne_eq_false_iff_eq.mpr c25
         clear c25
         (first | rw [c25b0] | (simp only [i64_w, i32_w]; rw [c25b0]) | skip)
         have H' := zM H
         clear H
         have hcz26_0 : w24.cell? ⟨gb120, 0, none⟩ = some (.int .i64 a0_0) := (zc BK120.out 0).trans rfl
         have hcz26_1 : w24.cell? ⟨gb120, 1, none⟩ = some (.int .i64 a0_1) := (zc BK120.out 1).trans rfl
         have hcz26_2 : w24.cell? ⟨gb120, 2, none⟩ = some (.slice A0_2 l0_2.length c0_2) := (zc BK120.out 2).trans rfl
         have hcz26_3 : w24.cell? ⟨gb120, 3, none⟩ = some (.slice A0_3 l0_3.length c0_3) := (zc BK120.out 3).trans rfl
         have hfz26_0 := zf BK120.out 0
         have hfz26_1 := zf BK120.out 1
         have hfz26_2 := zf BK120.out 2
         have hfz26_3 := zf BK120.out 3
         go_wp2
         repeat (go_quiet (fail); try go_wp2)
         go_meet
         case rel => exact ⟨_, (t123), rfl, H', ⟨by have := HJ1.out; have := HK2.out; first | omega | exact Nat.le_refl _⟩, ⟨by exact BK120.out⟩, ⟨by repeat (first | (with_reducible first | exact HB.out | apply zL | apply zN | apply zD | refine zJ ?_ GE120.out) | exact HB.out)⟩⟩
        ·rw [if_neg c25] at H
         have c25b0 : ((l0_2.length : Int) == 4) = false := beq_eq_false_iff_ne.mpr c25
         have c25b1 : ((l0_2.length : Int) != 4) = true := bne_iff_ne.mpr c25
         (first | rw [c25b0] | (simp only [i64_w, i32_w]; rw [c25b0]) | skip)
         have H' := zM H
         clear H
         have hcz27_0 : w24.cell? ⟨gb120, 0, none⟩ = some (.int .i64 a0_0) := (zc BK120.out 0).trans rfl
         have hcz27_1 : w24.cell? ⟨gb120, 1, none⟩ = some (.int .i64 a0_1) := (zc BK120.out 1).trans rfl
         have hcz27_2 : w24.cell? ⟨gb120, 2, none⟩ = some (.slice A0_2 l0_2.length c0_2) := (zc BK120.out 2).trans rfl
         have hcz27_3 : w24.cell? ⟨gb120, 3, none⟩ = some (.slice A0_3 l0_3.length c0_3) := (zc BK120.out 3).trans rfl
         have hfz27_0 := zf BK120.out 0
         have hfz27_1 := zf BK120.out 1
         have hfz27_2 := zf BK120.out 2
         have hfz27_3 := zf BK120.out 3
         go_wp2
         repeat (go_quiet (fail); try go_wp2)
         go_meet
         case rel => exact ⟨_, (false), rfl, H', ⟨by have := HJ1.out; have := HK2.out; first | omega | exact Nat.le_refl _⟩, ⟨by exact BK120.out⟩, ⟨by repeat (first | (with_reducible first | exact HB.out | apply zL | apply zN | apply zD | refine zJ ?_ GE120.out) | exact HB.out)⟩⟩
       case rest =>
        clear HC22
        obtain ⟨kq, x63_21, rfl, HA, HJ21, BK120, HB⟩ := hcut
        cases kq with
        | zero => exact absurd HA.out (by simp [R16_Right.j2])
        | succ kj21 =>
         have H := HA.out
         clear HA
         simp only [R16_Right.j2] at H
         by_cases c28 : x63_21 = true
         ·subst c28
          have H1 : (some false) = some r := by rw [if_pos rfl] at H; exact H
          clear H
          have H := H1
          clear H1
          obtain rfl := Option.some.inj H
          go_wp2
          repeat (go_quiet (fail); try go_wp2)
          go_ret
          exact ⟨rfl, by repeat (first | (with_reducible first | exact HB.out | apply zL | apply zN | apply zD | refine zJ ?_ GE120.out) | exact HB.out)⟩
         ·replace c28 := Bool.eq_false_iff.mpr c28
          subst c28
          have H1 : (R16_Right.l1 kj21 0 a0_0 a0_1 l0_2 l0_3) = some r := by rw [if_neg (show ¬ (false = true) by decide)] at H; exact H
          clear H
          have H := H1
          clear H1
          have H' := zM H
          clear H
          go_wp2
          repeat (go_quiet (fail); try go_wp2)
          go_loopg [5] kj21 (fun kq v5 w' => ∃ (x5_4 : Int), v5 = .int .i64 x5_4 ∧ Aside0 (R16_Right.l1 kq x5_4 a0_0 a0_1 l0_2 l0_3 = some r) ∧ Aside0 (kq ≤ kj21) ∧ Aside0 (w'.heap[gb120]? = some (.cells #[.int .i64 a0_0, .int .i64 a0_1, (.slice A0_2 l0_2.length c0_2), (.slice A0_3 l0_3.length c0_3)] 25 (0, 0))) ∧ Aside0 (Below w.heap.size w w'))
          case atStart => exact ⟨(0), rfl, H', ⟨Nat.le_refl _⟩, ⟨by exact BK120.out⟩, ⟨by repeat (first | (with_reducible first | exact HB.out | apply zL | apply zN | apply zD | refine zJ ?_ GE120.out) | exact HB.out)⟩⟩
          case round =>
           clear H'
           obtain ⟨x5_4, rfl, HA, HK4, BK120, HB⟩ := hrel
           cases gk with
           | zero => exact absurd HA.out (by simp [R16_Right.l1])
           | succ k4 =>
            have H := HA.out
            clear HA
            simp only [R16_Right.l1] at H
            by_cases c29 : x5_4 < (l0_3.length : Int)
            ·rw [if_pos c29] at H
             have c29b0 : decide (x5_4 < (l0_3.length : Int)) = true := decide_eq_true c29
             clear c29
             by_cases c30 : 0 ≤ x5_4
             ·rw [if_pos c30] at H
              have c30b0 : decide (0 ≤ x5_4) = true := decide_eq_true c30
              clear c30
              replace H := Option.bind_eq_some_iff.mp H
              obtain ⟨t126, A310, H⟩ := H
              replace H : (if t126 = true then (if ((rd_T42 l0_3 x5_4).f0) = a0_0 then (if ((rd_T42 l0_3 x5_4).f1) ≥ a0_1 then (some false) else (if ((rd_T42 l0_3 x5_4).f1) < (wrap64 (a0_1 - 8)) then (some false) else (if x5_4 > 0 then (if 0 ≤ (wrap64 (x5_4 - 1)) then (if (wrap64 (x5_4 - 1)) < (l0_3.length : Int) then (if ((rd_T42 l0_3 (wrap64 (x5_4 - 1))).f1) ≥ ((rd_T42 l0_3 x5_4).f1) then (some false) else (R16_Right.l1 k4 (wrap64 (x5_4 + 1)) a0_0 a0_1 l0_2 l0_3)) else (none)) else (none)) else (R16_Right.l1 k4 (wrap64 (x5_4 + 1)) a0_0 a0_1 l0_2 l0_3)))) else (some false)) else (some false)) = some r := H
              have A31 := zM A310
              clear A310
              by_cases c32 : t126 = true
              ·subst c32
               have H1 : (if ((rd_T42 l0_3 x5_4).f0) = a0_0 then (if ((rd_T42 l0_3 x5_4).f1) ≥ a0_1 then (some false) else (if ((rd_T42 l0_3 x5_4).f1) < (wrap64 (a0_1 - 8)) then (some false) else (if x5_4 > 0 then (if 0 ≤ (wrap64 (x5_4 - 1)) then (if (wrap64 (x5_4 - 1)) < (l0_3.length : Int) then (if ((rd_T42 l0_3 (wrap64 (x5_4 - 1))).f1) ≥ ((rd_T42 l0_3 x5_4).f1) then (some false) else (R16_Right.l1 k4 (wrap64 (x5_4 + 1)) a0_0 a0_1 l0_2 l0_3)) else (none)) else (none)) else (R16_Right.l1 k4 (wrap64 (x5_4 + 1)) a0_0 a0_1 l0_2 l0_3)))) else (some false)) = some r := by rw [if_pos rfl] at H; exact H
               clear H
               have H := H1
               clear H1
               by_cases c33 : ((rd_T42 l0_3 x5_4).f0) = a0_0
               ·rw [if_pos c33] at H
                have c33b0 : (((rd_T42 l0_3 x5_4).f0) == a0_0) = true := beq_iff_eq.mpr c33
                have c33b1 : (((rd_T42 l0_3 x5_4).f0) != a0_0) = false := bne_eq_false_iff_eq.mpr c33
                clear c33
                by_cases c34 : ((rd_T42 l0_3 x5_4).f1) ≥ a0_1
                ·rw [if_pos c34] at H
                 have c34b0 : decide (a0_1 ≤ ((rd_T42 l0_3 x5_4).f1)) = true := decide_eq_true c34
                 clear c34
                 obtain rfl := Option.some.inj H
                 have hcz35_0 : wr.cell? ⟨gb120, 0, none⟩ = some (.int .i64 a0_0) := (zc BK120.out 0).trans rfl
                 have hcz35_1 : wr.cell? ⟨gb120, 1, none⟩ = some (.int .i64 a0_1) := (zc BK120.out 1).trans rfl
                 have hcz35_2 : wr.cell? ⟨gb120, 2, none⟩ = some (.slice A0_2 l0_2.length c0_2) := (zc BK120.out 2).trans rfl
                 have hcz35_3 : wr.cell? ⟨gb120, 3, none⟩ = some (.slice A0_3 l0_3.length c0_3) := (zc BK120.out 3).trans rfl
                 have hfz35_0 := zf BK120.out 0
                 have hfz35_1 := zf BK120.out 1
                 have hfz35_2 := zf BK120.out 2
                 have hfz35_3 := zf BK120.out 3
                 have p124 : 0 ≤ (x5_4 : Int) := zo (by assumption)
                 have q124 : x5_4 < (l0_3.length : Int) := zo (by assumption)
                 obtain ⟨ad124, A124_2, c124_2, e124, hx124_0, hx124_1, hx124_2, hl124_2, hi124_2⟩ := at_T42 HR0_3.out x5_4 p124 q124
                 cases e124
                 replace hx124_0 := (HB.out.cell (zW w _ hx124_0)).trans hx124_0
                 replace hx124_1 := (HB.out.cell (zW w _ hx124_1)).trans hx124_1
                 replace hx124_2 := (HB.out.cell (zW w _ hx124_2)).trans hx124_2
                 have HR124_2 := zM hi124_2
                 have HC124_2 := zM hl124_2
                 clear hi124_2 hl124_2
                 replace p124 := eq_true p124
                 replace q124 := eq_true q124
                 go_wp2_with (first | ((with_reducible refine gate_dst (N := 6) rfl ?_); (try (refine gate_guard (by rfl) ?_; dsimp only)); refine box_event ?hg (N := 6) ?hd (cs := #[.int .i64 0, .int .i64 0, .slice none 0 0]) (t := 42) ?hr ?_; (case hd => rfl); (case hg => rfl); (case hr => go_simp); intro gb125 hg w36 hbox hb; have n0_ := zM (zb (g := gb120) (o := .cells #[.int .i64 a0_0, .int .i64 a0_1, .slice A0_2 l0_2.length c0_2, .slice (some ad124) l0_3.length c0_3] 25 (0, 0)) (by exact BK120.out) hb); have n1_ := zM (zp (by repeat (first | (with_reducible first | exact HB.out | apply zL | apply zN | apply zD | refine zJ ?_ GE120.out) | exact HB.out)) hb); have n2_ := zM (hbox); have n3_ := zM ((by rw [hg]; exact (zs (by repeat (first | (with_reducible first | exact HB.out | apply zL | apply zN | apply zD | refine zJ ?_ GE120.out) | exact HB.out))) : w.heap.size ≤ gb125)); have n4_ := zM ((by rw [hg]; exact (zs (by repeat (first | (with_reducible first | exact HB.out | apply zL | apply zN | apply zD | refine zJ ?_ GE120.out) | exact HB.out))) : w.heap.size ≤ gb125)); have n5_ := zM ((by rw [hg]; exact zt (blk_lt (g := gb120) (o := .cells #[.int .i64 a0_0, .int .i64 a0_1, .slice A0_2 l0_2.length c0_2, .slice (some ad124) l0_3.length c0_3] 25 (0, 0)) (by exact BK120.out)) : gb120 ≠ gb125)); have n6_ := zM ((by rw [hg]; exact Nat.ne_of_gt (blk_lt (g := gb120) (o := .cells #[.int .i64 a0_0, .int .i64 a0_1, .slice A0_2 l0_2.length c0_2, .slice (some ad124) l0_3.length c0_3] 25 (0, 0)) (by exact BK120.out)) : gb125 ≠ gb120)); clear BK120; clear HB; have BK120 := n0_; have HB := n1_; have BK125 := n2_; have GW125 := n3_; have GE125 := n4_; have NB120_125 := n5_; have NB125_120 := n6_; clear n0_ n1_ n2_ n3_ n4_ n5_ n6_; clear hb hbox hg; have hnb37 := NB125_120.out; have hnc37 := NB120_125.out; have hcz38_0 : w36.cell? ⟨gb125, 0, none⟩ = some (.int .i64 0) := (zc BK125.out 0).trans rfl; have hcz38_1 : w36.cell? ⟨gb125, 1, none⟩ = some (.int .i64 0) := (zc BK125.out 1).trans rfl; have hcz38_2 : w36.cell? ⟨gb125, 2, none⟩ = some (.slice none 0 0) := (zc BK125.out 2).trans rfl; have hfz38_0 := zf BK125.out 0; have hfz38_1 := zf BK125.out 1; have hfz38_2 := zf BK125.out 2) | (go_at_call 29; (with_reducible refine (R07_May.calls k4 ((rd_T42 l0_3 x5_4).f0) ((rd_T42 l0_3 x5_4).f1) _ _ ((rd_T42 l0_3 x5_4).f2) true _ ?side1 ?side2 A31.out).mono ?_); (case side1 => exact zcb HR124_2.out (by repeat (first | (with_reducible first | exact HB.out | apply zL | apply zN | apply zD | refine zJ ?_ GE120.out | refine zJ ?_ GE125.out) | exact HB.out))); (case side2 => exact HC124_2.out); rintro e w39 ⟨rfl, hb⟩; have n0_ := zM (zb (g := gb120) (o := .cells #[.int .i64 a0_0, .int .i64 a0_1, .slice A0_2 l0_2.length c0_2, .slice (some ad124) l0_3.length c0_3] 25 (0, 0)) (by refine zF ?_ NB120_125.out _; refine zF ?_ NB120_125.out _; refine zF ?_ NB120_125.out _; exact BK120.out) hb); have n1_ := zM (zb (g := gb125) (o := .cells #[.int .i64 ((rd_T42 l0_3 x5_4).f0), .int .i64 ((rd_T42 l0_3 x5_4).f1), .slice A124_2 ((rd_T42 l0_3 x5_4).f2).length c124_2] 42 (0, 0)) (by refine zP (cs := #[.int .i64 ((rd_T42 l0_3 x5_4).f0), .int .i64 ((rd_T42 l0_3 x5_4).f1), .slice none 0 0]) ?_ 2 _ rfl; refine zP (cs := #[.int .i64 ((rd_T42 l0_3 x5_4).f0), .int .i64 0, .slice none 0 0]) ?_ 1 _ rfl; refine zP (cs := #[.int .i64 0, .int .i64 0, .slice none 0 0]) ?_ 0 _ rfl; exact BK125.out) hb); have n2_ := zM (zp (by repeat (first | (with_reducible first | exact HB.out | apply zL | apply zN | apply zD | refine zJ ?_ GE120.out | refine zJ ?_ GE125.out) | exact HB.out)) hb); clear BK120; clear BK125; clear HB; have BK120 := n0_; have BK125 := n1_; have HB := n2_; clear n0_ n1_ n2_; have hcz40_0 : w39.cell? ⟨gb125, 0, none⟩ = some (.int .i64 ((rd_T42 l0_3 x5_4).f0)) := (zc BK125.out 0).trans rfl; have hcz40_1 : w39.cell? ⟨gb125, 1, none⟩ = some (.int .i64 ((rd_T42 l0_3 x5_4).f1)) := (zc BK125.out 1).trans rfl; have hcz40_2 : w39.cell? ⟨gb125, 2, none⟩ = some (.slice A124_2 ((rd_T42 l0_3 x5_4).f2).length c124_2) := (zc BK125.out 2).trans rfl; have hfz40_0 := zf BK125.out 0; have hfz40_1 := zf BK125.out 1; have hfz40_2 := zf BK125.out 2; have hcz41_0 : w39.cell? ⟨gb120, 0, none⟩ = some (.int .i64 a0_0) := (zc BK120.out 0).trans rfl; have hcz41_1 : w39.cell? ⟨gb120, 1, none⟩ = some (.int .i64 a0_1) := (zc BK120.out 1).trans rfl; have hcz41_2 : w39.cell? ⟨gb120, 2, none⟩ = some (.slice A0_2 l0_2.length c0_2) := (zc BK120.out 2).trans rfl; have hcz41_3 : w39.cell? ⟨gb120, 3, none⟩ = some (.slice (some ad124) l0_3.length c0_3) := (zc BK120.out 3).trans rfl; have hfz41_0 := zf BK120.out 0; have hfz41_1 := zf BK120.out 1; have hfz41_2 := zf BK120.out 2; have hfz41_3 := zf BK120.out 3))
                 repeat (go_quiet (first | ((with_reducible refine gate_dst (N := 6) rfl ?_); (try (refine gate_guard (by rfl) ?_; dsimp only)); refine box_event ?hg (N := 6) ?hd (cs := #[.int .i64 0, .int .i64 0, .slice none 0 0]) (t := 42) ?hr ?_; (case hd => rfl); (case hg => rfl); (case hr => go_simp); intro gb125 hg w36 hbox hb; have n0_ := zM (zb (g := gb120) (o := .cells #[.int .i64 a0_0, .int .i64 a0_1, .slice A0_2 l0_2.length c0_2, .slice (some ad124) l0_3.length c0_3] 25 (0, 0)) (by exact BK120.out) hb); have n1_ := zM (zp (by repeat (first | (with_reducible first | exact HB.out | apply zL | apply zN | apply zD | refine zJ ?_ GE120.out) | exact HB.out)) hb); have n2_ := zM (hbox); have n3_ := zM ((by rw [hg]; exact (zs (by repeat (first | (with_reducible first | exact HB.out | apply zL | apply zN | apply zD | refine zJ ?_ GE120.out) | exact HB.out))) : w.heap.size ≤ gb125)); have n4_ := zM ((by rw [hg]; exact (zs (by repeat (first | (with_reducible first | exact HB.out | apply zL | apply zN | apply zD | refine zJ ?_ GE120.out) | exact HB.out))) : w.heap.size ≤ gb125)); have n5_ := zM ((by rw [hg]; exact zt (blk_lt (g := gb120) (o := .cells #[.int .i64 a0_0, .int .i64 a0_1, .slice A0_2 l0_2.length c0_2, .slice (some ad124) l0_3.length c0_3] 25 (0, 0)) (by exact BK120.out)) : gb120 ≠ gb125)); have n6_ := zM ((by rw [hg]; exact Nat.ne_of_gt (blk_lt (g := gb120) (o := .cells #[.int .i64 a0_0, .int .i64 a0_1, .slice A0_2 l0_2.length c0_2, .slice (some ad124) l0_3.length c0_3] 25 (0, 0)) (by exact BK120.out)) : gb125 ≠ gb120)); clear BK120; clear HB; have BK120 := n0_; have HB := n1_; have BK125 := n2_; have GW125 := n3_; have GE125 := n4_; have NB120_125 := n5_; have NB125_120 := n6_; clear n0_ n1_ n2_ n3_ n4_ n5_ n6_; clear hb hbox hg; have hnb37 := NB125_120.out; have hnc37 := NB120_125.out; have hcz38_0 : w36.cell? ⟨gb125, 0, none⟩ = some (.int .i64 0) := (zc BK125.out 0).trans rfl; have hcz38_1 : w36.cell? ⟨gb125, 1, none⟩ = some (.int .i64 0) := (zc BK125.out 1).trans rfl; have hcz38_2 : w36.cell? ⟨gb125, 2, none⟩ = some (.slice none 0 0) := (zc BK125.out 2).trans rfl; have hfz38_0 := zf BK125.out 0; have hfz38_1 := zf BK125.out 1; have hfz38_2 := zf BK125.out 2) | (go_at_call 29; (with_reducible refine (R07_May.calls k4 ((rd_T42 l0_3 x5_4).f0) ((rd_T42 l0_3 x5_4).f1) _ _ ((rd_T42 l0_3 x5_4).f2) true _ ?side1 ?side2 A31.out).mono ?_); (case side1 => exact zcb HR124_2.out (by repeat (first | (with_reducible first | exact HB.out | apply zL | apply zN | apply zD | refine zJ ?_ GE120.out | refine zJ ?_ GE125.out) | exact HB.out))); (case side2 => exact HC124_2.out); rintro e w39 ⟨rfl, hb⟩; have n0_ := zM (zb (g := gb120) (o := .cells #[.int .i64 a0_0, .int .i64 a0_1, .slice A0_2 l0_2.length c0_2, .slice (some ad124) l0_3.length c0_3] 25 (0, 0)) (by refine zF ?_ NB120_125.out _; refine zF ?_ NB120_125.out _; refine zF ?_ NB120_125.out _; exact BK120.out) hb); have n1_ := zM (zb (g := gb125) (o := .cells #[.int .i64 ((rd_T42 l0_3 x5_4).f0), .int .i64 ((rd_T42 l0_3 x5_4).f1), .slice A124_2 ((rd_T42 l0_3 x5_4).f2).length c124_2] 42 (0, 0)) (by refine zP (cs := #[.int .i64 ((rd_T42 l0_3 x5_4).f0), .int .i64 ((rd_T42 l0_3 x5_4).f1), .slice none 0 0]) ?_ 2 _ rfl; refine zP (cs := #[.int .i64 ((rd_T42 l0_3 x5_4).f0), .int .i64 0, .slice none 0 0]) ?_ 1 _ rfl; refine zP (cs := #[.int .i64 0, .int .i64 0, .slice none 0 0]) ?_ 0 _ rfl; exact BK125.out) hb); have n2_ := zM (zp (by repeat (first | (with_reducible first | exact HB.out | apply zL | apply zN | apply zD | refine zJ ?_ GE120.out | refine zJ ?_ GE125.out) | exact HB.out)) hb); clear BK120; clear BK125; clear HB; have BK120 := n0_; have BK125 := n1_; have HB := n2_; clear n0_ n1_ n2_; have hcz40_0 : w39.cell? ⟨gb125, 0, none⟩ = some (.int .i64 ((rd_T42 l0_3 x5_4).f0)) := (zc BK125.out 0).trans rfl; have hcz40_1 : w39.cell? ⟨gb125, 1, none⟩ = some (.int .i64 ((rd_T42 l0_3 x5_4).f1)) := (zc BK125.out 1).trans rfl; have hcz40_2 : w39.cell? ⟨gb125, 2, none⟩ = some (.slice A124_2 ((rd_T42 l0_3 x5_4).f2).length c124_2) := (zc BK125.out 2).trans rfl; have hfz40_0 := zf BK125.out 0; have hfz40_1 := zf BK125.out 1; have hfz40_2 := zf BK125.out 2; have hcz41_0 : w39.cell? ⟨gb120, 0, none⟩ = some (.int .i64 a0_0) := (zc BK120.out 0).trans rfl; have hcz41_1 : w39.cell? ⟨gb120, 1, none⟩ = some (.int .i64 a0_1) := (zc BK120.out 1).trans rfl; have hcz41_2 : w39.cell? ⟨gb120, 2, none⟩ = some (.slice A0_2 l0_2.length c0_2) := (zc BK120.out 2).trans rfl; have hcz41_3 : w39.cell? ⟨gb120, 3, none⟩ = some (.slice (some ad124) l0_3.length c0_3) := (zc BK120.out 3).trans rfl; have hfz41_0 := zf BK120.out 0; have hfz41_1 := zf BK120.out 1; have hfz41_2 := zf BK120.out 2; have hfz41_3 := zf BK120.out 3)); try go_wp2_with (first | ((with_reducible refine gate_dst (N := 6) rfl ?_); (try (refine gate_guard (by rfl) ?_; dsimp only)); refine box_event ?hg (N := 6) ?hd (cs := #[.int .i64 0, .int .i64 0, .slice none 0 0]) (t := 42) ?hr ?_; (case hd => rfl); (case hg => rfl); (case hr => go_simp); intro gb125 hg w36 hbox hb; have n0_ := zM (zb (g := gb120) (o := .cells #[.int .i64 a0_0, .int .i64 a0_1, .slice A0_2 l0_2.length c0_2, .slice (some ad124) l0_3.length c0_3] 25 (0, 0)) (by exact BK120.out) hb); have n1_ := zM (zp (by repeat (first | (with_reducible first | exact HB.out | apply zL | apply zN | apply zD | refine zJ ?_ GE120.out) | exact HB.out)) hb); have n2_ := zM (hbox); have n3_ := zM ((by rw [hg]; exact (zs (by repeat (first | (with_reducible first | exact HB.out | apply zL | apply zN | apply zD | refine zJ ?_ GE120.out) | exact HB.out))) : w.heap.size ≤ gb125)); have n4_ := zM ((by rw [hg]; exact (zs (by repeat (first | (with_reducible first | exact HB.out | apply zL | apply zN | apply zD | refine zJ ?_ GE120.out) | exact HB.out))) : w.heap.size ≤ gb125)); have n5_ := zM ((by rw [hg]; exact zt (blk_lt (g := gb120) (o := .cells #[.int .i64 a0_0, .int .i64 a0_1, .slice A0_2 l0_2.length c0_2, .slice (some ad124) l0_3.length c0_3] 25 (0, 0)) (by exact BK120.out)) : gb120 ≠ gb125)); have n6_ := zM ((by rw [hg]; exact Nat.ne_of_gt (blk_lt (g := gb120) (o := .cells #[.int .i64 a0_0, .int .i64 a0_1, .slice A0_2 l0_2.length c0_2, .slice (some ad124) l0_3.length c0_3] 25 (0, 0)) (by exact BK120.out)) : gb125 ≠ gb120)); clear BK120; clear HB; have BK120 := n0_; have HB := n1_; have BK125 := n2_; have GW125 := n3_; have GE125 := n4_; have NB120_125 := n5_; have NB125_120 := n6_; clear n0_ n1_ n2_ n3_ n4_ n5_ n6_; clear hb hbox hg; have hnb37 := NB125_120.out; have hnc37 := NB120_125.out; have hcz38_0 : w36.cell? ⟨gb125, 0, none⟩ = some (.int .i64 0) := (zc BK125.out 0).trans rfl; have hcz38_1 : w36.cell? ⟨gb125, 1, none⟩ = some (.int .i64 0) := (zc BK125.out 1).trans rfl; have hcz38_2 : w36.cell? ⟨gb125, 2, none⟩ = some (.slice none 0 0) := (zc BK125.out 2).trans rfl; have hfz38_0 := zf BK125.out 0; have hfz38_1 := zf BK125.out 1; have hfz38_2 := zf BK125.out 2) | (go_at_call 29; (with_reducible refine (R07_May.calls k4 ((rd_T42 l0_3 x5_4).f0) ((rd_T42 l0_3 x5_4).f1) _ _ ((rd_T42 l0_3 x5_4).f2) true _ ?side1 ?side2 A31.out).mono ?_); (case side1 => exact zcb HR124_2.out (by repeat (first | (with_reducible first | exact HB.out | apply zL | apply zN | apply zD | refine zJ ?_ GE120.out | refine zJ ?_ GE125.out) | exact HB.out))); (case side2 => exact HC124_2.out); rintro e w39 ⟨rfl, hb⟩; have n0_ := zM (zb (g := gb120) (o := .cells #[.int .i64 a0_0, .int .i64 a0_1, .slice A0_2 l0_2.length c0_2, .slice (some ad124) l0_3.length c0_3] 25 (0, 0)) (by refine zF ?_ NB120_125.out _; refine zF ?_ NB120_125.out _; refine zF ?_ NB120_125.out _; exact BK120.out) hb); have n1_ := zM (zb (g := gb125) (o := .cells #[.int .i64 ((rd_T42 l0_3 x5_4).f0), .int .i64 ((rd_T42 l0_3 x5_4).f1), .slice A124_2 ((rd_T42 l0_3 x5_4).f2).length c124_2] 42 (0, 0)) (by refine zP (cs := #[.int .i64 ((rd_T42 l0_3 x5_4).f0), .int .i64 ((rd_T42 l0_3 x5_4).f1), .slice none 0 0]) ?_ 2 _ rfl; refine zP (cs := #[.int .i64 ((rd_T42 l0_3 x5_4).f0), .int .i64 0, .slice none 0 0]) ?_ 1 _ rfl; refine zP (cs := #[.int .i64 0, .int .i64 0, .slice none 0 0]) ?_ 0 _ rfl; exact BK125.out) hb); have n2_ := zM (zp (by repeat (first | (with_reducible first | exact HB.out | apply zL | apply zN | apply zD | refine zJ ?_ GE120.out | refine zJ ?_ GE125.out) | exact HB.out)) hb); clear BK120; clear BK125; clear HB; have BK120 := n0_; have BK125 := n1_; have HB := n2_; clear n0_ n1_ n2_; have hcz40_0 : w39.cell? ⟨gb125, 0, none⟩ = some (.int .i64 ((rd_T42 l0_3 x5_4).f0)) := (zc BK125.out 0).trans rfl; have hcz40_1 : w39.cell? ⟨gb125, 1, none⟩ = some (.int .i64 ((rd_T42 l0_3 x5_4).f1)) := (zc BK125.out 1).trans rfl; have hcz40_2 : w39.cell? ⟨gb125, 2, none⟩ = some (.slice A124_2 ((rd_T42 l0_3 x5_4).f2).length c124_2) := (zc BK125.out 2).trans rfl; have hfz40_0 := zf BK125.out 0; have hfz40_1 := zf BK125.out 1; have hfz40_2 := zf BK125.out 2; have hcz41_0 : w39.cell? ⟨gb120, 0, none⟩ = some (.int .i64 a0_0) := (zc BK120.out 0).trans rfl; have hcz41_1 : w39.cell? ⟨gb120, 1, none⟩ = some (.int .i64 a0_1) := (zc BK120.out 1).trans rfl; have hcz41_2 : w39.cell? ⟨gb120, 2, none⟩ = some (.slice A0_2 l0_2.length c0_2) := (zc BK120.out 2).trans rfl; have hcz41_3 : w39.cell? ⟨gb120, 3, none⟩ = some (.slice (some ad124) l0_3.length c0_3) := (zc BK120.out 3).trans rfl; have hfz41_0 := zf BK120.out 0; have hfz41_1 := zf BK120.out 1; have hfz41_2 := zf BK120.out 2; have hfz41_3 := zf BK120.out 3)))
                 go_ret
                 exact ⟨rfl, by repeat (first | (with_reducible first | exact HB.out | apply zL | apply zN | apply zD | refine zJ ?_ GE120.out | refine zJ ?_ GE125.out) | exact HB.out)⟩
                ·rw [if_neg c34] at H
                 have c34b0 : decide (a0_1 ≤ ((rd_T42 l0_3 x5_4).f1)) = false := decide_eq_false c34
                 clear c34
                 by_cases c42 : ((rd_T42 l0_3 x5_4).f1) < (wrap64 (a0_1 - 8))
                 ·rw [if_pos c42] at H
                  have c42b0 : decide (((rd_T42 l0_3 x5_4).f1) < (wrap64 (a0_1 - 8))) = true := decide_eq_true c42
                  clear c42
                  obtain rfl := Option.some.inj H
                  have hcz43_0 : wr.cell? ⟨gb120, 0, none⟩ = some (.int .i64 a0_0) := (zc BK120.out 0).trans rfl
                  have hcz43_1 : wr.cell? ⟨gb120, 1, none⟩ = some (.int .i64 a0_1) := (zc BK120.out 1).trans rfl
                  have hcz43_2 : wr.cell? ⟨gb120, 2, none⟩ = some (.slice A0_2 l0_2.length c0_2) := (zc BK120.out 2).trans rfl
                  have hcz43_3 : wr.cell? ⟨gb120, 3, none⟩ = some (.slice A0_3 l0_3.length c0_3) := (zc BK120.out 3).trans rfl
                  have hfz43_0 := zf BK120.out 0
                  have hfz43_1 := zf BK120.out 1
                  have hfz43_2 := zf BK120.out 2
                  have hfz43_3 := zf BK120.out 3
                  have p124 : 0 ≤ (x5_4 : Int) := zo (by assumption)
                  have q124 : x5_4 < (l0_3.length : Int) := zo (by assumption)
                  obtain ⟨ad124, A124_2, c124_2, e124, hx124_0, hx124_1, hx124_2, hl124_2, hi124_2⟩ := at_T42 HR0_3.out x5_4 p124 q124
                  cases e124
                  replace hx124_0 := (HB.out.cell (zW w _ hx124_0)).trans hx124_0
                  replace hx124_1 := (HB.out.cell (zW w _ hx124_1)).trans hx124_1
                  replace hx124_2 := (HB.out.cell (zW w _ hx124_2)).trans hx124_2
                  have HR124_2 := zM hi124_2
                  have HC124_2 := zM hl124_2
                  clear hi124_2 hl124_2
                  replace p124 := eq_true p124
                  replace q124 := eq_true q124
                  go_wp2_with (first | ((with_reducible refine gate_dst (N := 6) rfl ?_); (try (refine gate_guard (by rfl) ?_; dsimp only)); refine box_event ?hg (N := 6) ?hd (cs := #[.int .i64 0, .int .i64 0, .slice none 0 0]) (t := 42) ?hr ?_; (case hd => rfl); (case hg => rfl); (case hr => go_simp); intro gb125 hg w44 hbox hb; have n0_ := zM (zb (g := gb120) (o := .cells #[.int .i64 a0_0, .int .i64 a0_1, .slice A0_2 l0_2.length c0_2, .slice (some ad124) l0_3.length c0_3] 25 (0, 0)) (by exact BK120.out) hb); have n1_ := zM (zp (by repeat (first | (with_reducible first | exact HB.out | apply zL | apply zN | apply zD | refine zJ ?_ GE120.out) | exact HB.out)) hb); have n2_ := zM (hbox); have n3_ := zM ((by rw [hg]; exact (zs (by repeat (first | (with_reducible first | exact HB.out | apply zL | apply zN | apply zD | refine zJ ?_ GE120.out) | exact HB.out))) : w.heap.size ≤ gb125)); have n4_ := zM ((by rw [hg]; exact (zs (by repeat (first | (with_reducible first | exact HB.out | apply zL | apply zN | apply zD | refine zJ ?_ GE120.out) | exact HB.out))) : w.heap.size ≤ gb125)); have n5_ := zM ((by rw [hg]; exact zt (blk_lt (g := gb120) (o := .cells #[.int .i64 a0_0, .int .i64 a0_1, .slice A0_2 l0_2.length c0_2, .slice (some ad124) l0_3.length c0_3] 25 (0, 0)) (by exact BK120.out)) : gb120 ≠ gb125)); have n6_ := zM ((by rw [hg]; exact Nat.ne_of_gt (blk_lt (g := gb120) (o := .cells #[.int .i64 a0_0, .int .i64 a0_1, .slice A0_2 l0_2.length c0_2, .slice (some ad124) l0_3.length c0_3] 25 (0, 0)) (by exact BK120.out)) : gb125 ≠ gb120)); clear BK120; clear HB; have BK120 := n0_; have HB := n1_; have BK125 := n2_; have GW125 := n3_; have GE125 := n4_; have NB120_125 := n5_; have NB125_120 := n6_; clear n0_ n1_ n2_ n3_ n4_ n5_ n6_; clear hb hbox hg; have hnb45 := NB125_120.out; have hnc45 := NB120_125.out; have hcz46_0 : w44.cell? ⟨gb125, 0, none⟩ = some (.int .i64 0) := (zc BK125.out 0).trans rfl; have hcz46_1 : w44.cell? ⟨gb125, 1, none⟩ = some (.int .i64 0) := (zc BK125.out 1).trans rfl; have hcz46_2 : w44.cell? ⟨gb125, 2, none⟩ = some (.slice none 0 0) := (zc BK125.out 2).trans rfl; have hfz46_0 := zf BK125.out 0; have hfz46_1 := zf BK125.out 1; have hfz46_2 := zf BK125.out 2) | (go_at_call 29; (with_reducible refine (R07_May.calls k4 ((rd_T42 l0_3 x5_4).f0) ((rd_T42 l0_3 x5_4).f1) _ _ ((rd_T42 l0_3 x5_4).f2) true _ ?side1 ?side2 A31.out).mono ?_); (case side1 => exact zcb HR124_2.out (by repeat (first | (with_reducible first | exact HB.out | apply zL | apply zN | apply zD | refine zJ ?_ GE120.out | refine zJ ?_ GE125.out) | exact HB.out))); (case side2 => exact HC124_2.out); rintro e w47 ⟨rfl, hb⟩; have n0_ := zM (zb (g := gb120) (o := .cells #[.int .i64 a0_0, .int .i64 a0_1, .slice A0_2 l0_2.length c0_2, .slice (some ad124) l0_3.length c0_3] 25 (0, 0)) (by refine zF ?_ NB120_125.out _; refine zF ?_ NB120_125.out _; refine zF ?_ NB120_125.out _; exact BK120.out) hb); have n1_ := zM (zb (g := gb125) (o := .cells #[.int .i64 ((rd_T42 l0_3 x5_4).f0), .int .i64 ((rd_T42 l0_3 x5_4).f1), .slice A124_2 ((rd_T42 l0_3 x5_4).f2).length c124_2] 42 (0, 0)) (by refine zP (cs := #[.int .i64 ((rd_T42 l0_3 x5_4).f0), .int .i64 ((rd_T42 l0_3 x5_4).f1), .slice none 0 0]) ?_ 2 _ rfl; refine zP (cs := #[.int .i64 ((rd_T42 l0_3 x5_4).f0), .int .i64 0, .slice none 0 0]) ?_ 1 _ rfl; refine zP (cs := #[.int .i64 0, .int .i64 0, .slice none 0 0]) ?_ 0 _ rfl; exact BK125.out) hb); have n2_ := zM (zp (by repeat (first | (with_reducible first | exact HB.out | apply zL | apply zN | apply zD | refine zJ ?_ GE120.out | refine zJ ?_ GE125.out) | exact HB.out)) hb); clear BK120; clear BK125; clear HB; have BK120 := n0_; have BK125 := n1_; have HB := n2_; clear n0_ n1_ n2_; have hcz48_0 : w47.cell? ⟨gb125, 0, none⟩ = some (.int .i64 ((rd_T42 l0_3 x5_4).f0)) := (zc BK125.out 0).trans rfl; have hcz48_1 : w47.cell? ⟨gb125, 1, none⟩ = some (.int .i64 ((rd_T42 l0_3 x5_4).f1)) := (zc BK125.out 1).trans rfl; have hcz48_2 : w47.cell? ⟨gb125, 2, none⟩ = some (.slice A124_2 ((rd_T42 l0_3 x5_4).f2).length c124_2) := (zc BK125.out 2).trans rfl; have hfz48_0 := zf BK125.out 0; have hfz48_1 := zf BK125.out 1; have hfz48_2 := zf BK125.out 2; have hcz49_0 : w47.cell? ⟨gb120, 0, none⟩ = some (.int .i64 a0_0) := (zc BK120.out 0).trans rfl; have hcz49_1 : w47.cell? ⟨gb120, 1, none⟩ = some (.int .i64 a0_1) := (zc BK120.out 1).trans rfl; have hcz49_2 : w47.cell? ⟨gb120, 2, none⟩ = some (.slice A0_2 l0_2.length c0_2) := (zc BK120.out 2).trans rfl; have hcz49_3 : w47.cell? ⟨gb120, 3, none⟩ = some (.slice (some ad124) l0_3.length c0_3) := (zc BK120.out 3).trans rfl; have hfz49_0 := zf BK120.out 0; have hfz49_1 := zf BK120.out 1; have hfz49_2 := zf BK120.out 2; have hfz49_3 := zf BK120.out 3))
                  repeat (go_quiet (first | ((with_reducible refine gate_dst (N := 6) rfl ?_); (try (refine gate_guard (by rfl) ?_; dsimp only)); refine box_event ?hg (N := 6) ?hd (cs := #[.int .i64 0, .int .i64 0, .slice none 0 0]) (t := 42) ?hr ?_; (case hd => rfl); (case hg => rfl); (case hr => go_simp); intro gb125 hg w44 hbox hb; have n0_ := zM (zb (g := gb120) (o := .cells #[.int .i64 a0_0, .int .i64 a0_1, .slice A0_2 l0_2.length c0_2, .slice (some ad124) l0_3.length c0_3] 25 (0, 0)) (by exact BK120.out) hb); have n1_ := zM (zp (by repeat (first | (with_reducible first | exact HB.out | apply zL | apply zN | apply zD | refine zJ ?_ GE120.out) | exact HB.out)) hb); have n2_ := zM (hbox); have n3_ := zM ((by rw [hg]; exact (zs (by repeat (first | (with_reducible first | exact HB.out | apply zL | apply zN | apply zD | refine zJ ?_ GE120.out) | exact HB.out))) : w.heap.size ≤ gb125)); have n4_ := zM ((by rw [hg]; exact (zs (by repeat (first | (with_reducible first | exact HB.out | apply zL | apply zN | apply zD | refine zJ ?_ GE120.out) | exact HB.out))) : w.heap.size ≤ gb125)); have n5_ := zM ((by rw [hg]; exact zt (blk_lt (g := gb120) (o := .cells #[.int .i64 a0_0, .int .i64 a0_1, .slice A0_2 l0_2.length c0_2, .slice (some ad124) l0_3.length c0_3] 25 (0, 0)) (by exact BK120.out)) : gb120 ≠ gb125)); have n6_ := zM ((by rw [hg]; exact Nat.ne_of_gt (blk_lt (g := gb120) (o := .cells #[.int .i64 a0_0, .int .i64 a0_1, .slice A0_2 l0_2.length c0_2, .slice (some ad124) l0_3.length c0_3] 25 (0, 0)) (by exact BK120.out)) : gb125 ≠ gb120)); clear BK120; clear HB; have BK120 := n0_; have HB := n1_; have BK125 := n2_; have GW125 := n3_; have GE125 := n4_; have NB120_125 := n5_; have NB125_120 := n6_; clear n0_ n1_ n2_ n3_ n4_ n5_ n6_; clear hb hbox hg; have hnb45 := NB125_120.out; have hnc45 := NB120_125.out; have hcz46_0 : w44.cell? ⟨gb125, 0, none⟩ = some (.int .i64 0) := (zc BK125.out 0).trans rfl; have hcz46_1 : w44.cell? ⟨gb125, 1, none⟩ = some (.int .i64 0) := (zc BK125.out 1).trans rfl; have hcz46_2 : w44.cell? ⟨gb125, 2, none⟩ = some (.slice none 0 0) := (zc BK125.out 2).trans rfl; have hfz46_0 := zf BK125.out 0; have hfz46_1 := zf BK125.out 1; have hfz46_2 := zf BK125.out 2) | (go_at_call 29; (with_reducible refine (R07_May.calls k4 ((rd_T42 l0_3 x5_4).f0) ((rd_T42 l0_3 x5_4).f1) _ _ ((rd_T42 l0_3 x5_4).f2) true _ ?side1 ?side2 A31.out).mono ?_); (case side1 => exact zcb HR124_2.out (by repeat (first | (with_reducible first | exact HB.out | apply zL | apply zN | apply zD | refine zJ ?_ GE120.out | refine zJ ?_ GE125.out) | exact HB.out))); (case side2 => exact HC124_2.out); rintro e w47 ⟨rfl, hb⟩; have n0_ := zM (zb (g := gb120) (o := .cells #[.int .i64 a0_0, .int .i64 a0_1, .slice A0_2 l0_2.length c0_2, .slice (some ad124) l0_3.length c0_3] 25 (0, 0)) (by refine zF ?_ NB120_125.out _; refine zF ?_ NB120_125.out _; refine zF ?_ NB120_125.out _; exact BK120.out) hb); have n1_ := zM (zb (g := gb125) (o := .cells #[.int .i64 ((rd_T42 l0_3 x5_4).f0), .int .i64 ((rd_T42 l0_3 x5_4).f1), .slice A124_2 ((rd_T42 l0_3 x5_4).f2).length c124_2] 42 (0, 0)) (by refine zP (cs := #[.int .i64 ((rd_T42 l0_3 x5_4).f0), .int .i64 ((rd_T42 l0_3 x5_4).f1), .slice none 0 0]) ?_ 2 _ rfl; refine zP (cs := #[.int .i64 ((rd_T42 l0_3 x5_4).f0), .int .i64 0, .slice none 0 0]) ?_ 1 _ rfl; refine zP (cs := #[.int .i64 0, .int .i64 0, .slice none 0 0]) ?_ 0 _ rfl; exact BK125.out) hb); have n2_ := zM (zp (by repeat (first | (with_reducible first | exact HB.out | apply zL | apply zN | apply zD | refine zJ ?_ GE120.out | refine zJ ?_ GE125.out) | exact HB.out)) hb); clear BK120; clear BK125; clear HB; have BK120 := n0_; have BK125 := n1_; have HB := n2_; clear n0_ n1_ n2_; have hcz48_0 : w47.cell? ⟨gb125, 0, none⟩ = some (.int .i64 ((rd_T42 l0_3 x5_4).f0)) := (zc BK125.out 0).trans rfl; have hcz48_1 : w47.cell? ⟨gb125, 1, none⟩ = some (.int .i64 ((rd_T42 l0_3 x5_4).f1)) := (zc BK125.out 1).trans rfl; have hcz48_2 : w47.cell? ⟨gb125, 2, none⟩ = some (.slice A124_2 ((rd_T42 l0_3 x5_4).f2).length c124_2) := (zc BK125.out 2).trans rfl; have hfz48_0 := zf BK125.out 0; have hfz48_1 := zf BK125.out 1; have hfz48_2 := zf BK125.out 2; have hcz49_0 : w47.cell? ⟨gb120, 0, none⟩ = some (.int .i64 a0_0) := (zc BK120.out 0).trans rfl; have hcz49_1 : w47.cell? ⟨gb120, 1, none⟩ = some (.int .i64 a0_1) := (zc BK120.out 1).trans rfl; have hcz49_2 : w47.cell? ⟨gb120, 2, none⟩ = some (.slice A0_2 l0_2.length c0_2) := (zc BK120.out 2).trans rfl; have hcz49_3 : w47.cell? ⟨gb120, 3, none⟩ = some (.slice (some ad124) l0_3.length c0_3) := (zc BK120.out 3).trans rfl; have hfz49_0 := zf BK120.out 0; have hfz49_1 := zf BK120.out 1; have hfz49_2 := zf BK120.out 2; have hfz49_3 := zf BK120.out 3)); try go_wp2_with (first | ((with_reducible refine gate_dst (N := 6) rfl ?_); (try (refine gate_guard (by rfl) ?_; dsimp only)); refine box_event ?hg (N := 6) ?hd (cs := #[.int .i64 0, .int .i64 0, .slice none 0 0]) (t := 42) ?hr ?_; (case hd => rfl); (case hg => rfl); (case hr => go_simp); intro gb125 hg w44 hbox hb; have n0_ := zM (zb (g := gb120) (o := .cells #[.int .i64 a0_0, .int .i64 a0_1, .slice A0_2 l0_2.length c0_2, .slice (some ad124) l0_3.length c0_3] 25 (0, 0)) (by exact BK120.out) hb); have n1_ := zM (zp (by repeat (first | (with_reducible first | exact HB.out | apply zL | apply zN | apply zD | refine zJ ?_ GE120.out) | exact HB.out)) hb); have n2_ := zM (hbox); have n3_ := zM ((by rw [hg]; exact (zs (by repeat (first | (with_reducible first | exact HB.out | apply zL | apply zN | apply zD | refine zJ ?_ GE120.out) | exact HB.out))) : w.heap.size ≤ gb125)); have n4_ := zM ((by rw [hg]; exact (zs (by repeat (first | (with_reducible first | exact HB.out | apply zL | apply zN | apply zD | refine zJ ?_ GE120.out) | exact HB.out))) : w.heap.size ≤ gb125)); have n5_ := zM ((by rw [hg]; exact zt (blk_lt (g := gb120) (o := .cells #[.int .i64 a0_0, .int .i64 a0_1, .slice A0_2 l0_2.length c0_2, .slice (some ad124) l0_3.length c0_3] 25 (0, 0)) (by exact BK120.out)) : gb120 ≠ gb125)); have n6_ := zM ((by rw [hg]; exact Nat.ne_of_gt (blk_lt (g := gb120) (o := .cells #[.int .i64 a0_0, .int .i64 a0_1, .slice A0_2 l0_2.length c0_2, .slice (some ad124) l0_3.length c0_3] 25 (0, 0)) (by exact BK120.out)) : gb125 ≠ gb120)); clear BK120; clear HB; have BK120 := n0_; have HB := n1_; have BK125 := n2_; have GW125 := n3_; have GE125 := n4_; have NB120_125 := n5_; have NB125_120 := n6_; clear n0_ n1_ n2_ n3_ n4_ n5_ n6_; clear hb hbox hg; have hnb45 := NB125_120.out; have hnc45 := NB120_125.out; have hcz46_0 : w44.cell? ⟨gb125, 0, none⟩ = some (.int .i64 0) := (zc BK125.out 0).trans rfl; have hcz46_1 : w44.cell? ⟨gb125, 1, none⟩ = some (.int .i64 0) := (zc BK125.out 1).trans rfl; have hcz46_2 : w44.cell? ⟨gb125, 2, none⟩ = some (.slice none 0 0) := (zc BK125.out 2).trans rfl; have hfz46_0 := zf BK125.out 0; have hfz46_1 := zf BK125.out 1; have hfz46_2 := zf BK125.out 2) | (go_at_call 29; (with_reducible refine (R07_May.calls k4 ((rd_T42 l0_3 x5_4).f0) ((rd_T42 l0_3 x5_4).f1) _ _ ((rd_T42 l0_3 x5_4).f2) true _ ?side1 ?side2 A31.out).mono ?_); (case side1 => exact zcb HR124_2.out (by repeat (first | (with_reducible first | exact HB.out | apply zL | apply zN | apply zD | refine zJ ?_ GE120.out | refine zJ ?_ GE125.out) | exact HB.out))); (case side2 => exact HC124_2.out); rintro e w47 ⟨rfl, hb⟩; have n0_ := zM (zb (g := gb120) (o := .cells #[.int .i64 a0_0, .int .i64 a0_1, .slice A0_2 l0_2.length c0_2, .slice (some ad124) l0_3.length c0_3] 25 (0, 0)) (by refine zF ?_ NB120_125.out _; refine zF ?_ NB120_125.out _; refine zF ?_ NB120_125.out _; exact BK120.out) hb); have n1_ := zM (zb (g := gb125) (o := .cells #[.int .i64 ((rd_T42 l0_3 x5_4).f0), .int .i64 ((rd_T42 l0_3 x5_4).f1), .slice A124_2 ((rd_T42 l0_3 x5_4).f2).length c124_2] 42 (0, 0)) (by refine zP (cs := #[.int .i64 ((rd_T42 l0_3 x5_4).f0), .int .i64 ((rd_T42 l0_3 x5_4).f1), .slice none 0 0]) ?_ 2 _ rfl; refine zP (cs := #[.int .i64 ((rd_T42 l0_3 x5_4).f0), .int .i64 0, .slice none 0 0]) ?_ 1 _ rfl; refine zP (cs := #[.int .i64 0, .int .i64 0, .slice none 0 0]) ?_ 0 _ rfl; exact BK125.out) hb); have n2_ := zM (zp (by repeat (first | (with_reducible first | exact HB.out | apply zL | apply zN | apply zD | refine zJ ?_ GE120.out | refine zJ ?_ GE125.out) | exact HB.out)) hb); clear BK120; clear BK125; clear HB; have BK120 := n0_; have BK125 := n1_; have HB := n2_; clear n0_ n1_ n2_; have hcz48_0 : w47.cell? ⟨gb125, 0, none⟩ = some (.int .i64 ((rd_T42 l0_3 x5_4).f0)) := (zc BK125.out 0).trans rfl; have hcz48_1 : w47.cell? ⟨gb125, 1, none⟩ = some (.int .i64 ((rd_T42 l0_3 x5_4).f1)) := (zc BK125.out 1).trans rfl; have hcz48_2 : w47.cell? ⟨gb125, 2, none⟩ = some (.slice A124_2 ((rd_T42 l0_3 x5_4).f2).length c124_2) := (zc BK125.out 2).trans rfl; have hfz48_0 := zf BK125.out 0; have hfz48_1 := zf BK125.out 1; have hfz48_2 := zf BK125.out 2; have hcz49_0 : w47.cell? ⟨gb120, 0, none⟩ = some (.int .i64 a0_0) := (zc BK120.out 0).trans rfl; have hcz49_1 : w47.cell? ⟨gb120, 1, none⟩ = some (.int .i64 a0_1) := (zc BK120.out 1).trans rfl; have hcz49_2 : w47.cell? ⟨gb120, 2, none⟩ = some (.slice A0_2 l0_2.length c0_2) := (zc BK120.out 2).trans rfl; have hcz49_3 : w47.cell? ⟨gb120, 3, none⟩ = some (.slice (some ad124) l0_3.length c0_3) := (zc BK120.out 3).trans rfl; have hfz49_0 := zf BK120.out 0; have hfz49_1 := zf BK120.out 1; have hfz49_2 := zf BK120.out 2; have hfz49_3 := zf BK120.out 3)))
                  go_ret
                  exact ⟨rfl, by repeat (first | (with_reducible first | exact HB.out | apply zL | apply zN | apply zD | refine zJ ?_ GE120.out | refine zJ ?_ GE125.out) | exact HB.out)⟩
                 ·rw [if_neg c42] at H
                  have c42b0 : decide (((rd_T42 l0_3 x5_4).f1) < (wrap64 (a0_1 - 8))) = false := decide_eq_false c42
                  clear c42
                  by_cases c50 : x5_4 > 0
                  ·rw [if_pos c50] at H
                   have c50b0 : decide (0 < x5_4) = true := decide_eq_true c50
                   clear c50
                   obtain ⟨ji51, hji51⟩ : ∃ j_ : Int, (wrap64 (x5_4 - 1)) = j_ := ⟨_, rfl⟩
                   replace H : (if 0 ≤ (ji51) then (if (ji51) < (l0_3.length : Int) then (if ((rd_T42 l0_3 (ji51)).f1) ≥ ((rd_T42 l0_3 x5_4).f1) then (some false) else (R16_Right.l1 k4 (wrap64 (x5_4 + 1)) a0_0 a0_1 l0_2 l0_3)) else (none)) else (none)) = some r := by first | (rw [hji51] at H; exact H) | (simp only [hji51] at H ⊢; exact H)
                   (try rw [hji51] at A31)
                   have hji51w : (IntKind.i64.wrap (x5_4 - 1)) = ji51 := (i64_w _).trans hji51
                   by_cases c52 : 0 ≤ (ji51)
                   ·rw [if_pos c52] at H
                    have c52b0 : decide (0 ≤ (ji51)) = true := decide_eq_true c52
                    clear c52
                    by_cases c53 : (ji51) < (l0_3.length : Int)
                    ·rw [if_pos c53] at H
                     have c53b0 : decide ((ji51) < (l0_3.length : Int)) = true := decide_eq_true c53
                     clear c53
                     by_cases c54 : ((rd_T42 l0_3 (ji51)).f1) ≥ ((rd_T42 l0_3 x5_4).f1)
                     ·rw [if_pos c54] at H
                      have c54b0 : decide (((rd_T42 l0_3 x5_4).f1) ≤ ((rd_T42 l0_3 (ji51)).f1)) = true := decide_eq_true c54
                      clear c54
                      obtain rfl := Option.some.inj H
                      have hcz55_0 : wr.cell? ⟨gb120, 0, none⟩ = some (.int .i64 a0_0) := (zc BK120.out 0).trans rfl
                      have hcz55_1 : wr.cell? ⟨gb120, 1, none⟩ = some (.int .i64 a0_1) := (zc BK120.out 1).trans rfl
                      have hcz55_2 : wr.cell? ⟨gb120, 2, none⟩ = some (.slice A0_2 l0_2.length c0_2) := (zc BK120.out 2).trans rfl
                      have hcz55_3 : wr.cell? ⟨gb120, 3, none⟩ = some (.slice A0_3 l0_3.length c0_3) := (zc BK120.out 3).trans rfl
                      have hfz55_0 := zf BK120.out 0
                      have hfz55_1 := zf BK120.out 1
                      have hfz55_2 := zf BK120.out 2
                      have hfz55_3 := zf BK120.out 3
                      have p124 : 0 ≤ (x5_4 : Int) := zo (by assumption)
                      have q124 : x5_4 < (l0_3.length : Int) := zo (by assumption)
                      obtain ⟨ad124, A124_2, c124_2, e124, hx124_0, hx124_1, hx124_2, hl124_2, hi124_2⟩ := at_T42 HR0_3.out x5_4 p124 q124
                      cases e124
                      replace hx124_0 := (HB.out.cell (zW w _ hx124_0)).trans hx124_0
                      replace hx124_1 := (HB.out.cell (zW w _ hx124_1)).trans hx124_1
                      replace hx124_2 := (HB.out.cell (zW w _ hx124_2)).trans hx124_2
                      have HR124_2 := zM hi124_2
                      have HC124_2 := zM hl124_2
                      clear hi124_2 hl124_2
                      replace p124 := eq_true p124
                      replace q124 := eq_true q124
                      go_wp2_with (first | ((with_reducible refine gate_dst (N := 6) rfl ?_); (try (refine gate_guard (by rfl) ?_; dsimp only)); refine box_event ?hg (N := 6) ?hd (cs := #[.int .i64 0, .int .i64 0, .slice none 0 0]) (t := 42) ?hr ?_; (case hd => rfl); (case hg => rfl); (case hr => go_simp); intro gb125 hg w56 hbox hb; have n0_ := zM (zb (g := gb120) (o := .cells #[.int .i64 a0_0, .int .i64 a0_1, .slice A0_2 l0_2.length c0_2, .slice (some ad124) l0_3.length c0_3] 25 (0, 0)) (by exact BK120.out) hb); have n1_ := zM (zp (by repeat (first | (with_reducible first | exact HB.out | apply zL | apply zN | apply zD | refine zJ ?_ GE120.out) | exact HB.out)) hb); have n2_ := zM (hbox); have n3_ := zM ((by rw [hg]; exact (zs (by repeat (first | (with_reducible first | exact HB.out | apply zL | apply zN | apply zD | refine zJ ?_ GE120.out) | exact HB.out))) : w.heap.size ≤ gb125)); have n4_ := zM ((by rw [hg]; exact (zs (by repeat (first | (with_reducible first | exact HB.out | apply zL | apply zN | apply zD | refine zJ ?_ GE120.out) | exact HB.out))) : w.heap.size ≤ gb125)); have n5_ := zM ((by rw [hg]; exact zt (blk_lt (g := gb120) (o := .cells #[.int .i64 a0_0, .int .i64 a0_1, .slice A0_2 l0_2.length c0_2, .slice (some ad124) l0_3.length c0_3] 25 (0, 0)) (by exact BK120.out)) : gb120 ≠ gb125)); have n6_ := zM ((by rw [hg]; exact Nat.ne_of_gt (blk_lt (g := gb120) (o := .cells #[.int .i64 a0_0, .int .i64 a0_1, .slice A0_2 l0_2.length c0_2, .slice (some ad124) l0_3.length c0_3] 25 (0, 0)) (by exact BK120.out)) : gb125 ≠ gb120)); clear BK120; clear HB; have BK120 := n0_; have HB := n1_; have BK125 := n2_; have GW125 := n3_; have GE125 := n4_; have NB120_125 := n5_; have NB125_120 := n6_; clear n0_ n1_ n2_ n3_ n4_ n5_ n6_; clear hb hbox hg; have hnb57 := NB125_120.out; have hnc57 := NB120_125.out; have hcz58_0 : w56.cell? ⟨gb125, 0, none⟩ = some (.int .i64 0) := (zc BK125.out 0).trans rfl; have hcz58_1 : w56.cell? ⟨gb125, 1, none⟩ = some (.int .i64 0) := (zc BK125.out 1).trans rfl; have hcz58_2 : w56.cell? ⟨gb125, 2, none⟩ = some (.slice none 0 0) := (zc BK125.out 2).trans rfl; have hfz58_0 := zf BK125.out 0; have hfz58_1 := zf BK125.out 1; have hfz58_2 := zf BK125.out 2) | (go_at_call 29; (with_reducible refine (R07_May.calls k4 ((rd_T42 l0_3 x5_4).f0) ((rd_T42 l0_3 x5_4).f1) _ _ ((rd_T42 l0_3 x5_4).f2) true _ ?side1 ?side2 A31.out).mono ?_); (case side1 => exact zcb HR124_2.out (by repeat (first | (with_reducible first | exact HB.out | apply zL | apply zN | apply zD | refine zJ ?_ GE120.out | refine zJ ?_ GE125.out) | exact HB.out))); (case side2 => exact HC124_2.out); rintro e w59 ⟨rfl, hb⟩; have n0_ := zM (zb (g := gb120) (o := .cells #[.int .i64 a0_0, .int .i64 a0_1, .slice A0_2 l0_2.length c0_2, .slice (some ad124) l0_3.length c0_3] 25 (0, 0)) (by refine zF ?_ NB120_125.out _; refine zF ?_ NB120_125.out _; refine zF ?_ NB120_125.out _; exact BK120.out) hb); have n1_ := zM (zb (g := gb125) (o := .cells #[.int .i64 ((rd_T42 l0_3 x5_4).f0), .int .i64 ((rd_T42 l0_3 x5_4).f1), .slice A124_2 ((rd_T42 l0_3 x5_4).f2).length c124_2] 42 (0, 0)) (by refine zP (cs := #[.int .i64 ((rd_T42 l0_3 x5_4).f0), .int .i64 ((rd_T42 l0_3 x5_4).f1), .slice none 0 0]) ?_ 2 _ rfl; refine zP (cs := #[.int .i64 ((rd_T42 l0_3 x5_4).f0), .int .i64 0, .slice none 0 0]) ?_ 1 _ rfl; refine zP (cs := #[.int .i64 0, .int .i64 0, .slice none 0 0]) ?_ 0 _ rfl; exact BK125.out) hb); have n2_ := zM (zp (by repeat (first | (with_reducible first | exact HB.out | apply zL | apply zN | apply zD | refine zJ ?_ GE120.out | refine zJ ?_ GE125.out) | exact HB.out)) hb); clear BK120; clear BK125; clear HB; have BK120 := n0_; have BK125 := n1_; have HB := n2_; clear n0_ n1_ n2_; have hcz60_0 : w59.cell? ⟨gb125, 0, none⟩ = some (.int .i64 ((rd_T42 l0_3 x5_4).f0)) := (zc BK125.out 0).trans rfl; have hcz60_1 : w59.cell? ⟨gb125, 1, none⟩ = some (.int .i64 ((rd_T42 l0_3 x5_4).f1)) := (zc BK125.out 1).trans rfl; have hcz60_2 : w59.cell? ⟨gb125, 2, none⟩ = some (.slice A124_2 ((rd_T42 l0_3 x5_4).f2).length c124_2) := (zc BK125.out 2).trans rfl; have hfz60_0 := zf BK125.out 0; have hfz60_1 := zf BK125.out 1; have hfz60_2 := zf BK125.out 2; have hcz61_0 : w59.cell? ⟨gb120, 0, none⟩ = some (.int .i64 a0_0) := (zc BK120.out 0).trans rfl; have hcz61_1 : w59.cell? ⟨gb120, 1, none⟩ = some (.int .i64 a0_1) := (zc BK120.out 1).trans rfl; have hcz61_2 : w59.cell? ⟨gb120, 2, none⟩ = some (.slice A0_2 l0_2.length c0_2) := (zc BK120.out 2).trans rfl; have hcz61_3 : w59.cell? ⟨gb120, 3, none⟩ = some (.slice (some ad124) l0_3.length c0_3) := (zc BK120.out 3).trans rfl; have hfz61_0 := zf BK120.out 0; have hfz61_1 := zf BK120.out 1; have hfz61_2 := zf BK120.out 2; have hfz61_3 := zf BK120.out 3; have p127 : 0 ≤ ((ji51) : Int) := zo (by assumption); have q127 : (ji51) < (l0_3.length : Int) := zo (by assumption); obtain ⟨ad127, A127_2, c127_2, e127, hx127_0, hx127_1, hx127_2, hl127_2, hi127_2⟩ := at_T42 HR0_3.out (ji51) p127 q127; obtain rfl : ad124 = ad127 := (by injection e127); replace hx127_0 := (HB.out.cell (zW w _ hx127_0)).trans hx127_0; replace hx127_1 := (HB.out.cell (zW w _ hx127_1)).trans hx127_1; replace hx127_2 := (HB.out.cell (zW w _ hx127_2)).trans hx127_2; have HR127_2 := zM hi127_2; have HC127_2 := zM hl127_2; clear hi127_2 hl127_2; replace p127 := eq_true p127; replace q127 := eq_true q127))
                      repeat (go_quiet (first | ((with_reducible refine gate_dst (N := 6) rfl ?_); (try (refine gate_guard (by rfl) ?_; dsimp only)); refine box_event ?hg (N := 6) ?hd (cs := #[.int .i64 0, .int .i64 0, .slice none 0 0]) (t := 42) ?hr ?_; (case hd => rfl); (case hg => rfl); (case hr => go_simp); intro gb125 hg w56 hbox hb; have n0_ := zM (zb (g := gb120) (o := .cells #[.int .i64 a0_0, .int .i64 a0_1, .slice A0_2 l0_2.length c0_2, .slice (some ad124) l0_3.length c0_3] 25 (0, 0)) (by exact BK120.out) hb); have n1_ := zM (zp (by repeat (first | (with_reducible first | exact HB.out | apply zL | apply zN | apply zD | refine zJ ?_ GE120.out) | exact HB.out)) hb); have n2_ := zM (hbox); have n3_ := zM ((by rw [hg]; exact (zs (by repeat (first | (with_reducible first | exact HB.out | apply zL | apply zN | apply zD | refine zJ ?_ GE120.out) | exact HB.out))) : w.heap.size ≤ gb125)); have n4_ := zM ((by rw [hg]; exact (zs (by repeat (first | (with_reducible first | exact HB.out | apply zL | apply zN | apply zD | refine zJ ?_ GE120.out) | exact HB.out))) : w.heap.size ≤ gb125)); have n5_ := zM ((by rw [hg]; exact zt (blk_lt (g := gb120) (o := .cells #[.int .i64 a0_0, .int .i64 a0_1, .slice A0_2 l0_2.length c0_2, .slice (some ad124) l0_3.length c0_3] 25 (0, 0)) (by exact BK120.out)) : gb120 ≠ gb125)); have n6_ := zM ((by rw [hg]; exact Nat.ne_of_gt (blk_lt (g := gb120) (o := .cells #[.int .i64 a0_0, .int .i64 a0_1, .slice A0_2 l0_2.length c0_2, .slice (some ad124) l0_3.length c0_3] 25 (0, 0)) (by exact BK120.out)) : gb125 ≠ gb120)); clear BK120; clear HB; have BK120 := n0_; have HB := n1_; have BK125 := n2_; have GW125 := n3_; have GE125 := n4_; have NB120_125 := n5_; have NB125_120 := n6_; clear n0_ n1_ n2_ n3_ n4_ n5_ n6_; clear hb hbox hg; have hnb57 := NB125_120.out; have hnc57 := NB120_125.out; have hcz58_0 : w56.cell? ⟨gb125, 0, none⟩ = some (.int .i64 0) := (zc BK125.out 0).trans rfl; have hcz58_1 : w56.cell? ⟨gb125, 1, none⟩ = some (.int .i64 0) := (zc BK125.out 1).trans rfl; have hcz58_2 : w56.cell? ⟨gb125, 2, none⟩ = some (.slice none 0 0) := (zc BK125.out 2).trans rfl; have hfz58_0 := zf BK125.out 0; have hfz58_1 := zf BK125.out 1; have hfz58_2 := zf BK125.out 2) | (go_at_call 29; (with_reducible refine (R07_May.calls k4 ((rd_T42 l0_3 x5_4).f0) ((rd_T42 l0_3 x5_4).f1) _ _ ((rd_T42 l0_3 x5_4).f2) true _ ?side1 ?side2 A31.out).mono ?_); (case side1 => exact zcb HR124_2.out (by repeat (first | (with_reducible first | exact HB.out | apply zL | apply zN | apply zD | refine zJ ?_ GE120.out | refine zJ ?_ GE125.out) | exact HB.out))); (case side2 => exact HC124_2.out); rintro e w59 ⟨rfl, hb⟩; have n0_ := zM (zb (g := gb120) (o := .cells #[.int .i64 a0_0, .int .i64 a0_1, .slice A0_2 l0_2.length c0_2, .slice (some ad124) l0_3.length c0_3] 25 (0, 0)) (by refine zF ?_ NB120_125.out _; refine zF ?_ NB120_125.out _; refine zF ?_ NB120_125.out _; exact BK120.out) hb); have n1_ := zM (zb (g := gb125) (o := .cells #[.int .i64 ((rd_T42 l0_3 x5_4).f0), .int .i64 ((rd_T42 l0_3 x5_4).f1), .slice A124_2 ((rd_T42 l0_3 x5_4).f2).length c124_2] 42 (0, 0)) (by refine zP (cs := #[.int .i64 ((rd_T42 l0_3 x5_4).f0), .int .i64 ((rd_T42 l0_3 x5_4).f1), .slice none 0 0]) ?_ 2 _ rfl; refine zP (cs := #[.int .i64 ((rd_T42 l0_3 x5_4).f0), .int .i64 0, .slice none 0 0]) ?_ 1 _ rfl; refine zP (cs := #[.int .i64 0, .int .i64 0, .slice none 0 0]) ?_ 0 _ rfl; exact BK125.out) hb); have n2_ := zM (zp (by repeat (first | (with_reducible first | exact HB.out | apply zL | apply zN | apply zD | refine zJ ?_ GE120.out | refine zJ ?_ GE125.out) | exact HB.out)) hb); clear BK120; clear BK125; clear HB; have BK120 := n0_; have BK125 := n1_; have HB := n2_; clear n0_ n1_ n2_; have hcz60_0 : w59.cell? ⟨gb125, 0, none⟩ = some (.int .i64 ((rd_T42 l0_3 x5_4).f0)) := (zc BK125.out 0).trans rfl; have hcz60_1 : w59.cell? ⟨gb125, 1, none⟩ = some (.int .i64 ((rd_T42 l0_3 x5_4).f1)) := (zc BK125.out 1).trans rfl; have hcz60_2 : w59.cell? ⟨gb125, 2, none⟩ = some (.slice A124_2 ((rd_T42 l0_3 x5_4).f2).length c124_2) := (zc BK125.out 2).trans rfl; have hfz60_0 := zf BK125.out 0; have hfz60_1 := zf BK125.out 1; have hfz60_2 := zf BK125.out 2; have hcz61_0 : w59.cell? ⟨gb120, 0, none⟩ = some (.int .i64 a0_0) := (zc BK120.out 0).trans rfl; have hcz61_1 : w59.cell? ⟨gb120, 1, none⟩ = some (.int .i64 a0_1) := (zc BK120.out 1).trans rfl; have hcz61_2 : w59.cell? ⟨gb120, 2, none⟩ = some (.slice A0_2 l0_2.length c0_2) := (zc BK120.out 2).trans rfl; have hcz61_3 : w59.cell? ⟨gb120, 3, none⟩ = some (.slice (some ad124) l0_3.length c0_3) := (zc BK120.out 3).trans rfl; have hfz61_0 := zf BK120.out 0; have hfz61_1 := zf BK120.out 1; have hfz61_2 := zf BK120.out 2; have hfz61_3 := zf BK120.out 3; have p127 : 0 ≤ ((ji51) : Int) := zo (by assumption); have q127 : (ji51) < (l0_3.length : Int) := zo (by assumption); obtain ⟨ad127, A127_2, c127_2, e127, hx127_0, hx127_1, hx127_2, hl127_2, hi127_2⟩ := at_T42 HR0_3.out (ji51) p127 q127; obtain rfl : ad124 = ad127 := (by injection e127); replace hx127_0 := (HB.out.cell (zW w _ hx127_0)).trans hx127_0; replace hx127_1 := (HB.out.cell (zW w _ hx127_1)).trans hx127_1; replace hx127_2 := (HB.out.cell (zW w _ hx127_2)).trans hx127_2; have HR127_2 := zM hi127_2; have HC127_2 := zM hl127_2; clear hi127_2 hl127_2; replace p127 := eq_true p127; replace q127 := eq_true q127)); try go_wp2_with (first | ((with_reducible refine gate_dst (N := 6) rfl ?_); (try (refine gate_guard (by rfl) ?_; dsimp only)); refine box_event ?hg (N := 6) ?hd (cs := #[.int .i64 0, .int .i64 0, .slice none 0 0]) (t := 42) ?hr ?_; (case hd => rfl); (case hg => rfl); (case hr => go_simp); intro gb125 hg w56 hbox hb; have n0_ := zM (zb (g := gb120) (o := .cells #[.int .i64 a0_0, .int .i64 a0_1, .slice A0_2 l0_2.length c0_2, .slice (some ad124) l0_3.length c0_3] 25 (0, 0)) (by exact BK120.out) hb); have n1_ := zM (zp (by repeat (first | (with_reducible first | exact HB.out | apply zL | apply zN | apply zD | refine zJ ?_ GE120.out) | exact HB.out)) hb); have n2_ := zM (hbox); have n3_ := zM ((by rw [hg]; exact (zs (by repeat (first | (with_reducible first | exact HB.out | apply zL | apply zN | apply zD | refine zJ ?_ GE120.out) | exact HB.out))) : w.heap.size ≤ gb125)); have n4_ := zM ((by rw [hg]; exact (zs (by repeat (first | (with_reducible first | exact HB.out | apply zL | apply zN | apply zD | refine zJ ?_ GE120.out) | exact HB.out))) : w.heap.size ≤ gb125)); have n5_ := zM ((by rw [hg]; exact zt (blk_lt (g := gb120) (o := .cells #[.int .i64 a0_0, .int .i64 a0_1, .slice A0_2 l0_2.length c0_2, .slice (some ad124) l0_3.length c0_3] 25 (0, 0)) (by exact BK120.out)) : gb120 ≠ gb125)); have n6_ := zM ((by rw [hg]; exact Nat.ne_of_gt (blk_lt (g := gb120) (o := .cells #[.int .i64 a0_0, .int .i64 a0_1, .slice A0_2 l0_2.length c0_2, .slice (some ad124) l0_3.length c0_3] 25 (0, 0)) (by exact BK120.out)) : gb125 ≠ gb120)); clear BK120; clear HB; have BK120 := n0_; have HB := n1_; have BK125 := n2_; have GW125 := n3_; have GE125 := n4_; have NB120_125 := n5_; have NB125_120 := n6_; clear n0_ n1_ n2_ n3_ n4_ n5_ n6_; clear hb hbox hg; have hnb57 := NB125_120.out; have hnc57 := NB120_125.out; have hcz58_0 : w56.cell? ⟨gb125, 0, none⟩ = some (.int .i64 0) := (zc BK125.out 0).trans rfl; have hcz58_1 : w56.cell? ⟨gb125, 1, none⟩ = some (.int .i64 0) := (zc BK125.out 1).trans rfl; have hcz58_2 : w56.cell? ⟨gb125, 2, none⟩ = some (.slice none 0 0) := (zc BK125.out 2).trans rfl; have hfz58_0 := zf BK125.out 0; have hfz58_1 := zf BK125.out 1; have hfz58_2 := zf BK125.out 2) | (go_at_call 29; (with_reducible refine (R07_May.calls k4 ((rd_T42 l0_3 x5_4).f0) ((rd_T42 l0_3 x5_4).f1) _ _ ((rd_T42 l0_3 x5_4).f2) true _ ?side1 ?side2 A31.out).mono ?_); (case side1 => exact zcb HR124_2.out (by repeat (first | (with_reducible first | exact HB.out | apply zL | apply zN | apply zD | refine zJ ?_ GE120.out | refine zJ ?_ GE125.out) | exact HB.out))); (case side2 => exact HC124_2.out); rintro e w59 ⟨rfl, hb⟩; have n0_ := zM (zb (g := gb120) (o := .cells #[.int .i64 a0_0, .int .i64 a0_1, .slice A0_2 l0_2.length c0_2, .slice (some ad124) l0_3.length c0_3] 25 (0, 0)) (by refine zF ?_ NB120_125.out _; refine zF ?_ NB120_125.out _; refine zF ?_ NB120_125.out _; exact BK120.out) hb); have n1_ := zM (zb (g := gb125) (o := .cells #[.int .i64 ((rd_T42 l0_3 x5_4).f0), .int .i64 ((rd_T42 l0_3 x5_4).f1), .slice A124_2 ((rd_T42 l0_3 x5_4).f2).length c124_2] 42 (0, 0)) (by refine zP (cs := #[.int .i64 ((rd_T42 l0_3 x5_4).f0), .int .i64 ((rd_T42 l0_3 x5_4).f1), .slice none 0 0]) ?_ 2 _ rfl; refine zP (cs := #[.int .i64 ((rd_T42 l0_3 x5_4).f0), .int .i64 0, .slice none 0 0]) ?_ 1 _ rfl; refine zP (cs := #[.int .i64 0, .int .i64 0, .slice none 0 0]) ?_ 0 _ rfl; exact BK125.out) hb); have n2_ := zM (zp (by repeat (first | (with_reducible first | exact HB.out | apply zL | apply zN | apply zD | refine zJ ?_ GE120.out | refine zJ ?_ GE125.out) | exact HB.out)) hb); clear BK120; clear BK125; clear HB; have BK120 := n0_; have BK125 := n1_; have HB := n2_; clear n0_ n1_ n2_; have hcz60_0 : w59.cell? ⟨gb125, 0, none⟩ = some (.int .i64 ((rd_T42 l0_3 x5_4).f0)) := (zc BK125.out 0).trans rfl; have hcz60_1 : w59.cell? ⟨gb125, 1, none⟩ = some (.int .i64 ((rd_T42 l0_3 x5_4).f1)) := (zc BK125.out 1).trans rfl; have hcz60_2 : w59.cell? ⟨gb125, 2, none⟩ = some (.slice A124_2 ((rd_T42 l0_3 x5_4).f2).length c124_2) := (zc BK125.out 2).trans rfl; have hfz60_0 := zf BK125.out 0; have hfz60_1 := zf BK125.out 1; have hfz60_2 := zf BK125.out 2; have hcz61_0 : w59.cell? ⟨gb120, 0, none⟩ = some (.int .i64 a0_0) := (zc BK120.out 0).trans rfl; have hcz61_1 : w59.cell? ⟨gb120, 1, none⟩ = some (.int .i64 a0_1) := (zc BK120.out 1).trans rfl; have hcz61_2 : w59.cell? ⟨gb120, 2, none⟩ = some (.slice A0_2 l0_2.length c0_2) := (zc BK120.out 2).trans rfl; have hcz61_3 : w59.cell? ⟨gb120, 3, none⟩ = some (.slice (some ad124) l0_3.length c0_3) := (zc BK120.out 3).trans rfl; have hfz61_0 := zf BK120.out 0; have hfz61_1 := zf BK120.out 1; have hfz61_2 := zf BK120.out 2; have hfz61_3 := zf BK120.out 3; have p127 : 0 ≤ ((ji51) : Int) := zo (by assumption); have q127 : (ji51) < (l0_3.length : Int) := zo (by assumption); obtain ⟨ad127, A127_2, c127_2, e127, hx127_0, hx127_1, hx127_2, hl127_2, hi127_2⟩ := at_T42 HR0_3.out (ji51) p127 q127; obtain rfl : ad124 = ad127 := (by injection e127); replace hx127_0 := (HB.out.cell (zW w _ hx127_0)).trans hx127_0; replace hx127_1 := (HB.out.cell (zW w _ hx127_1)).trans hx127_1; replace hx127_2 := (HB.out.cell (zW w _ hx127_2)).trans hx127_2; have HR127_2 := zM hi127_2; have HC127_2 := zM hl127_2; clear hi127_2 hl127_2; replace p127 := eq_true p127; replace q127 := eq_true q127)))
                      go_ret
                      exact ⟨by first | rfl | (simp [errW_none, errW_some] <;> rfl) | (simp only [← hji51]; first | rfl | (simp [errW_none, errW_some] <;> rfl)) | (simp [*, errW_none, errW_some] <;> rfl), by repeat (first | (with_reducible first | exact HB.out | apply zL | apply zN | apply zD | refine zJ ?_ GE120.out | refine zJ ?_ GE125.out) | exact HB.out)⟩
                     ·rw [if_neg c54] at H
                      have c54b0 : decide (((rd_T42 l0_3 x5_4).f1) ≤ ((rd_T42 l0_3 (ji51)).f1)) = false := decide_eq_false c54
                      clear c54
                      have H' := zM H
                      clear H
                      have hcz62_0 : wr.cell? ⟨gb120, 0, none⟩ = some (.int .i64 a0_0) := (zc BK120.out 0).trans rfl
                      have hcz62_1 : wr.cell? ⟨gb120, 1, none⟩ = some (.int .i64 a0_1) := (zc BK120.out 1).trans rfl
                      have hcz62_2 : wr.cell? ⟨gb120, 2, none⟩ = some (.slice A0_2 l0_2.length c0_2) := (zc BK120.out 2).trans rfl
                      have hcz62_3 : wr.cell? ⟨gb120, 3, none⟩ = some (.slice A0_3 l0_3.length c0_3) := (zc BK120.out 3).trans rfl
                      have hfz62_0 := zf BK120.out 0
                      have hfz62_1 := zf BK120.out 1
                      have hfz62_2 := zf BK120.out 2
                      have hfz62_3 := zf BK120.out 3
                      have p124 : 0 ≤ (x5_4 : Int) := zo (by assumption)
                      have q124 : x5_4 < (l0_3.length : Int) := zo (by assumption)
                      obtain ⟨ad124, A124_2, c124_2, e124, hx124_0, hx124_1, hx124_2, hl124_2, hi124_2⟩ := at_T42 HR0_3.out x5_4 p124 q124
                      cases e124
                      replace hx124_0 := (HB.out.cell (zW w _ hx124_0)).trans hx124_0
                      replace hx124_1 := (HB.out.cell (zW w _ hx124_1)).trans hx124_1
                      replace hx124_2 := (HB.out.cell (zW w _ hx124_2)).trans hx124_2
                      have HR124_2 := zM hi124_2
                      have HC124_2 := zM hl124_2
                      clear hi124_2 hl124_2
                      replace p124 := eq_true p124
                      replace q124 := eq_true q124
                      go_wp2_with (first | ((with_reducible refine gate_dst (N := 6) rfl ?_); (try (refine gate_guard (by rfl) ?_; dsimp only)); refine box_event ?hg (N := 6) ?hd (cs := #[.int .i64 0, .int .i64 0, .slice none 0 0]) (t := 42) ?hr ?_; (case hd => rfl); (case hg => rfl); (case hr => go_simp); intro gb125 hg w63 hbox hb; have n0_ := zM (zb (g := gb120) (o := .cells #[.int .i64 a0_0, .int .i64 a0_1, .slice A0_2 l0_2.length c0_2, .slice (some ad124) l0_3.length c0_3] 25 (0, 0)) (by exact BK120.out) hb); have n1_ := zM (zp (by repeat (first | (with_reducible first | exact HB.out | apply zL | apply zN | apply zD | refine zJ ?_ GE120.out) | exact HB.out)) hb); have n2_ := zM (hbox); have n3_ := zM ((by rw [hg]; exact (zs (by repeat (first | (with_reducible first | exact HB.out | apply zL | apply zN | apply zD | refine zJ ?_ GE120.out) | exact HB.out))) : w.heap.size ≤ gb125)); have n4_ := zM ((by rw [hg]; exact (zs (by repeat (first | (with_reducible first | exact HB.out | apply zL | apply zN | apply zD | refine zJ ?_ GE120.out) | exact HB.out))) : w.heap.size ≤ gb125)); have n5_ := zM ((by rw [hg]; exact zt (blk_lt (g := gb120) (o := .cells #[.int .i64 a0_0, .int .i64 a0_1, .slice A0_2 l0_2.length c0_2, .slice (some ad124) l0_3.length c0_3] 25 (0, 0)) (by exact BK120.out)) : gb120 ≠ gb125)); have n6_ := zM ((by rw [hg]; exact Nat.ne_of_gt (blk_lt (g := gb120) (o := .cells #[.int .i64 a0_0, .int .i64 a0_1, .slice A0_2 l0_2.length c0_2, .slice (some ad124) l0_3.length c0_3] 25 (0, 0)) (by exact BK120.out)) : gb125 ≠ gb120)); clear BK120; clear HB; have BK120 := n0_; have HB := n1_; have BK125 := n2_; have GW125 := n3_; have GE125 := n4_; have NB120_125 := n5_; have NB125_120 := n6_; clear n0_ n1_ n2_ n3_ n4_ n5_ n6_; clear hb hbox hg; have hnb64 := NB125_120.out; have hnc64 := NB120_125.out; have hcz65_0 : w63.cell? ⟨gb125, 0, none⟩ = some (.int .i64 0) := (zc BK125.out 0).trans rfl; have hcz65_1 : w63.cell? ⟨gb125, 1, none⟩ = some (.int .i64 0) := (zc BK125.out 1).trans rfl; have hcz65_2 : w63.cell? ⟨gb125, 2, none⟩ = some (.slice none 0 0) := (zc BK125.out 2).trans rfl; have hfz65_0 := zf BK125.out 0; have hfz65_1 := zf BK125.out 1; have hfz65_2 := zf BK125.out 2) | (go_at_call 29; (with_reducible refine (R07_May.calls k4 ((rd_T42 l0_3 x5_4).f0) ((rd_T42 l0_3 x5_4).f1) _ _ ((rd_T42 l0_3 x5_4).f2) true _ ?side1 ?side2 A31.out).mono ?_); (case side1 => exact zcb HR124_2.out (by repeat (first | (with_reducible first | exact HB.out | apply zL | apply zN | apply zD | refine zJ ?_ GE120.out | refine zJ ?_ GE125.out) | exact HB.out))); (case side2 => exact HC124_2.out); rintro e w66 ⟨rfl, hb⟩; have n0_ := zM (zb (g := gb120) (o := .cells #[.int .i64 a0_0, .int .i64 a0_1, .slice A0_2 l0_2.length c0_2, .slice (some ad124) l0_3.length c0_3] 25 (0, 0)) (by refine zF ?_ NB120_125.out _; refine zF ?_ NB120_125.out _; refine zF ?_ NB120_125.out _; exact BK120.out) hb); have n1_ := zM (zb (g := gb125) (o := .cells #[.int .i64 ((rd_T42 l0_3 x5_4).f0), .int .i64 ((rd_T42 l0_3 x5_4).f1), .slice A124_2 ((rd_T42 l0_3 x5_4).f2).length c124_2] 42 (0, 0)) (by refine zP (cs := #[.int .i64 ((rd_T42 l0_3 x5_4).f0), .int .i64 ((rd_T42 l0_3 x5_4).f1), .slice none 0 0]) ?_ 2 _ rfl; refine zP (cs := #[.int .i64 ((rd_T42 l0_3 x5_4).f0), .int .i64 0, .slice none 0 0]) ?_ 1 _ rfl; refine zP (cs := #[.int .i64 0, .int .i64 0, .slice none 0 0]) ?_ 0 _ rfl; exact BK125.out) hb); have n2_ := zM (zp (by repeat (first | (with_reducible first | exact HB.out | apply zL | apply zN | apply zD | refine zJ ?_ GE120.out | refine zJ ?_ GE125.out) | exact HB.out)) hb); clear BK120; clear BK125; clear HB; have BK120 := n0_; have BK125 := n1_; have HB := n2_; clear n0_ n1_ n2_; have hcz67_0 : w66.cell? ⟨gb125, 0, none⟩ = some (.int .i64 ((rd_T42 l0_3 x5_4).f0)) := (zc BK125.out 0).trans rfl; have hcz67_1 : w66.cell? ⟨gb125, 1, none⟩ = some (.int .i64 ((rd_T42 l0_3 x5_4).f1)) := (zc BK125.out 1).trans rfl; have hcz67_2 : w66.cell? ⟨gb125, 2, none⟩ = some (.slice A124_2 ((rd_T42 l0_3 x5_4).f2).length c124_2) := (zc BK125.out 2).trans rfl; have hfz67_0 := zf BK125.out 0; have hfz67_1 := zf BK125.out 1; have hfz67_2 := zf BK125.out 2; have hcz68_0 : w66.cell? ⟨gb120, 0, none⟩ = some (.int .i64 a0_0) := (zc BK120.out 0).trans rfl; have hcz68_1 : w66.cell? ⟨gb120, 1, none⟩ = some (.int .i64 a0_1) := (zc BK120.out 1).trans rfl; have hcz68_2 : w66.cell? ⟨gb120, 2, none⟩ = some (.slice A0_2 l0_2.length c0_2) := (zc BK120.out 2).trans rfl; have hcz68_3 : w66.cell? ⟨gb120, 3, none⟩ = some (.slice (some ad124) l0_3.length c0_3) := (zc BK120.out 3).trans rfl; have hfz68_0 := zf BK120.out 0; have hfz68_1 := zf BK120.out 1; have hfz68_2 := zf BK120.out 2; have hfz68_3 := zf BK120.out 3; have p127 : 0 ≤ ((ji51) : Int) := zo (by assumption); have q127 : (ji51) < (l0_3.length : Int) := zo (by assumption); obtain ⟨ad127, A127_2, c127_2, e127, hx127_0, hx127_1, hx127_2, hl127_2, hi127_2⟩ := at_T42 HR0_3.out (ji51) p127 q127; obtain rfl : ad124 = ad127 := (by injection e127); replace hx127_0 := (HB.out.cell (zW w _ hx127_0)).trans hx127_0; replace hx127_1 := (HB.out.cell (zW w _ hx127_1)).trans hx127_1; replace hx127_2 := (HB.out.cell (zW w _ hx127_2)).trans hx127_2; have HR127_2 := zM hi127_2; have HC127_2 := zM hl127_2; clear hi127_2 hl127_2; replace p127 := eq_true p127; replace q127 := eq_true q127))
                      repeat (go_quiet (first | ((with_reducible refine gate_dst (N := 6) rfl ?_); (try (refine gate_guard (by rfl) ?_; dsimp only)); refine box_event ?hg (N := 6) ?hd (cs := #[.int .i64 0, .int .i64 0, .slice none 0 0]) (t := 42) ?hr ?_; (case hd => rfl); (case hg => rfl); (case hr => go_simp); intro gb125 hg w63 hbox hb; have n0_ := zM (zb (g := gb120) (o := .cells #[.int .i64 a0_0, .int .i64 a0_1, .slice A0_2 l0_2.length c0_2, .slice (some ad124) l0_3.length c0_3] 25 (0, 0)) (by exact BK120.out) hb); have n1_ := zM (zp (by repeat (first | (with_reducible first | exact HB.out | apply zL | apply zN | apply zD | refine zJ ?_ GE120.out) | exact HB.out)) hb); have n2_ := zM (hbox); have n3_ := zM ((by rw [hg]; exact (zs (by repeat (first | (with_reducible first | exact HB.out | apply zL | apply zN | apply zD | refine zJ ?_ GE120.out) | exact HB.out))) : w.heap.size ≤ gb125)); have n4_ := zM ((by rw [hg]; exact (zs (by repeat (first | (with_reducible first | exact HB.out | apply zL | apply zN | apply zD | refine zJ ?_ GE120.out) | exact HB.out))) : w.heap.size ≤ gb125)); have n5_ := zM ((by rw [hg]; exact zt (blk_lt (g := gb120) (o := .cells #[.int .i64 a0_0, .int .i64 a0_1, .slice A0_2 l0_2.length c0_2, .slice (some ad124) l0_3.length c0_3] 25 (0, 0)) (by exact BK120.out)) : gb120 ≠ gb125)); have n6_ := zM ((by rw [hg]; exact Nat.ne_of_gt (blk_lt (g := gb120) (o := .cells #[.int .i64 a0_0, .int .i64 a0_1, .slice A0_2 l0_2.length c0_2, .slice (some ad124) l0_3.length c0_3] 25 (0, 0)) (by exact BK120.out)) : gb125 ≠ gb120)); clear BK120; clear HB; have BK120 := n0_; have HB := n1_; have BK125 := n2_; have GW125 := n3_; have GE125 := n4_; have NB120_125 := n5_; have NB125_120 := n6_; clear n0_ n1_ n2_ n3_ n4_ n5_ n6_; clear hb hbox hg; have hnb64 := NB125_120.out; have hnc64 := NB120_125.out; have hcz65_0 : w63.cell? ⟨gb125, 0, none⟩ = some (.int .i64 0) := (zc BK125.out 0).trans rfl; have hcz65_1 : w63.cell? ⟨gb125, 1, none⟩ = some (.int .i64 0) := (zc BK125.out 1).trans rfl; have hcz65_2 : w63.cell? ⟨gb125, 2, none⟩ = some (.slice none 0 0) := (zc BK125.out 2).trans rfl; have hfz65_0 := zf BK125.out 0; have hfz65_1 := zf BK125.out 1; have hfz65_2 := zf BK125.out 2) | (go_at_call 29; (with_reducible refine (R07_May.calls k4 ((rd_T42 l0_3 x5_4).f0) ((rd_T42 l0_3 x5_4).f1) _ _ ((rd_T42 l0_3 x5_4).f2) true _ ?side1 ?side2 A31.out).mono ?_); (case side1 => exact zcb HR124_2.out (by repeat (first | (with_reducible first | exact HB.out | apply zL | apply zN | apply zD | refine zJ ?_ GE120.out | refine zJ ?_ GE125.out) | exact HB.out))); (case side2 => exact HC124_2.out); rintro e w66 ⟨rfl, hb⟩; have n0_ := zM (zb (g := gb120) (o := .cells #[.int .i64 a0_0, .int .i64 a0_1, .slice A0_2 l0_2.length c0_2, .slice (some ad124) l0_3.length c0_3] 25 (0, 0)) (by refine zF ?_ NB120_125.out _; refine zF ?_ NB120_125.out _; refine zF ?_ NB120_125.out _; exact BK120.out) hb); have n1_ := zM (zb (g := gb125) (o := .cells #[.int .i64 ((rd_T42 l0_3 x5_4).f0), .int .i64 ((rd_T42 l0_3 x5_4).f1), .slice A124_2 ((rd_T42 l0_3 x5_4).f2).length c124_2] 42 (0, 0)) (by refine zP (cs := #[.int .i64 ((rd_T42 l0_3 x5_4).f0), .int .i64 ((rd_T42 l0_3 x5_4).f1), .slice none 0 0]) ?_ 2 _ rfl; refine zP (cs := #[.int .i64 ((rd_T42 l0_3 x5_4).f0), .int .i64 0, .slice none 0 0]) ?_ 1 _ rfl; refine zP (cs := #[.int .i64 0, .int .i64 0, .slice none 0 0]) ?_ 0 _ rfl; exact BK125.out) hb); have n2_ := zM (zp (by repeat (first | (with_reducible first | exact HB.out | apply zL | apply zN | apply zD | refine zJ ?_ GE120.out | refine zJ ?_ GE125.out) | exact HB.out)) hb); clear BK120; clear BK125; clear HB; have BK120 := n0_; have BK125 := n1_; have HB := n2_; clear n0_ n1_ n2_; have hcz67_0 : w66.cell? ⟨gb125, 0, none⟩ = some (.int .i64 ((rd_T42 l0_3 x5_4).f0)) := (zc BK125.out 0).trans rfl; have hcz67_1 : w66.cell? ⟨gb125, 1, none⟩ = some (.int .i64 ((rd_T42 l0_3 x5_4).f1)) := (zc BK125.out 1).trans rfl; have hcz67_2 : w66.cell? ⟨gb125, 2, none⟩ = some (.slice A124_2 ((rd_T42 l0_3 x5_4).f2).length c124_2) := (zc BK125.out 2).trans rfl; have hfz67_0 := zf BK125.out 0; have hfz67_1 := zf BK125.out 1; have hfz67_2 := zf BK125.out 2; have hcz68_0 : w66.cell? ⟨gb120, 0, none⟩ = some (.int .i64 a0_0) := (zc BK120.out 0).trans rfl; have hcz68_1 : w66.cell? ⟨gb120, 1, none⟩ = some (.int .i64 a0_1) := (zc BK120.out 1).trans rfl; have hcz68_2 : w66.cell? ⟨gb120, 2, none⟩ = some (.slice A0_2 l0_2.length c0_2) := (zc BK120.out 2).trans rfl; have hcz68_3 : w66.cell? ⟨gb120, 3, none⟩ = some (.slice (some ad124) l0_3.length c0_3) := (zc BK120.out 3).trans rfl; have hfz68_0 := zf BK120.out 0; have hfz68_1 := zf BK120.out 1; have hfz68_2 := zf BK120.out 2; have hfz68_3 := zf BK120.out 3; have p127 : 0 ≤ ((ji51) : Int) := zo (by assumption); have q127 : (ji51) < (l0_3.length : Int) := zo (by assumption); obtain ⟨ad127, A127_2, c127_2, e127, hx127_0, hx127_1, hx127_2, hl127_2, hi127_2⟩ := at_T42 HR0_3.out (ji51) p127 q127; obtain rfl : ad124 = ad127 := (by injection e127); replace hx127_0 := (HB.out.cell (zW w _ hx127_0)).trans hx127_0; replace hx127_1 := (HB.out.cell (zW w _ hx127_1)).trans hx127_1; replace hx127_2 := (HB.out.cell (zW w _ hx127_2)).trans hx127_2; have HR127_2 := zM hi127_2; have HC127_2 := zM hl127_2; clear hi127_2 hl127_2; replace p127 := eq_true p127; replace q127 := eq_true q127)); try go_wp2_with (first | ((with_reducible refine gate_dst (N := 6) rfl ?_); (try (refine gate_guard (by rfl) ?_; dsimp only)); refine box_event ?hg (N := 6) ?hd (cs := #[.int .i64 0, .int .i64 0, .slice none 0 0]) (t := 42) ?hr ?_; (case hd => rfl); (case hg => rfl); (case hr => go_simp); intro gb125 hg w63 hbox hb; have n0_ := zM (zb (g := gb120) (o := .cells #[.int .i64 a0_0, .int .i64 a0_1, .slice A0_2 l0_2.length c0_2, .slice (some ad124) l0_3.length c0_3] 25 (0, 0)) (by exact BK120.out) hb); have n1_ := zM (zp (by repeat (first | (with_reducible first | exact HB.out | apply zL | apply zN | apply zD | refine zJ ?_ GE120.out) | exact HB.out)) hb); have n2_ := zM (hbox); have n3_ := zM ((by rw [hg]; exact (zs (by repeat (first | (with_reducible first | exact HB.out | apply zL | apply zN | apply zD | refine zJ ?_ GE120.out) | exact HB.out))) : w.heap.size ≤ gb125)); have n4_ := zM ((by rw [hg]; exact (zs (by repeat (first | (with_reducible first | exact HB.out | apply zL | apply zN | apply zD | refine zJ ?_ GE120.out) | exact HB.out))) : w.heap.size ≤ gb125)); have n5_ := zM ((by rw [hg]; exact zt (blk_lt (g := gb120) (o := .cells #[.int .i64 a0_0, .int .i64 a0_1, .slice A0_2 l0_2.length c0_2, .slice (some ad124) l0_3.length c0_3] 25 (0, 0)) (by exact BK120.out)) : gb120 ≠ gb125)); have n6_ := zM ((by rw [hg]; exact Nat.ne_of_gt (blk_lt (g := gb120) (o := .cells #[.int .i64 a0_0, .int .i64 a0_1, .slice A0_2 l0_2.length c0_2, .slice (some ad124) l0_3.length c0_3] 25 (0, 0)) (by exact BK120.out)) : gb125 ≠ gb120)); clear BK120; clear HB; have BK120 := n0_; have HB := n1_; have BK125 := n2_; have GW125 := n3_; have GE125 := n4_; have NB120_125 := n5_; have NB125_120 := n6_; clear n0_ n1_ n2_ n3_ n4_ n5_ n6_; clear hb hbox hg; have hnb64 := NB125_120.out; have hnc64 := NB120_125.out; have hcz65_0 : w63.cell? ⟨gb125, 0, none⟩ = some (.int .i64 0) := (zc BK125.out 0).trans rfl; have hcz65_1 : w63.cell? ⟨gb125, 1, none⟩ = some (.int .i64 0) := (zc BK125.out 1).trans rfl; have hcz65_2 : w63.cell? ⟨gb125, 2, none⟩ = some (.slice none 0 0) := (zc BK125.out 2).trans rfl; have hfz65_0 := zf BK125.out 0; have hfz65_1 := zf BK125.out 1; have hfz65_2 := zf BK125.out 2) | (go_at_call 29; (with_reducible refine (R07_May.calls k4 ((rd_T42 l0_3 x5_4).f0) ((rd_T42 l0_3 x5_4).f1) _ _ ((rd_T42 l0_3 x5_4).f2) true _ ?side1 ?side2 A31.out).mono ?_); (case side1 => exact zcb HR124_2.out (by repeat (first | (with_reducible first | exact HB.out | apply zL | apply zN | apply zD | refine zJ ?_ GE120.out | refine zJ ?_ GE125.out) | exact HB.out))); (case side2 => exact HC124_2.out); rintro e w66 ⟨rfl, hb⟩; have n0_ := zM (zb (g := gb120) (o := .cells #[.int .i64 a0_0, .int .i64 a0_1, .slice A0_2 l0_2.length c0_2, .slice (some ad124) l0_3.length c0_3] 25 (0, 0)) (by refine zF ?_ NB120_125.out _; refine zF ?_ NB120_125.out _; refine zF ?_ NB120_125.out _; exact BK120.out) hb); have n1_ := zM (zb (g := gb125) (o := .cells #[.int .i64 ((rd_T42 l0_3 x5_4).f0), .int .i64 ((rd_T42 l0_3 x5_4).f1), .slice A124_2 ((rd_T42 l0_3 x5_4).f2).length c124_2] 42 (0, 0)) (by refine zP (cs := #[.int .i64 ((rd_T42 l0_3 x5_4).f0), .int .i64 ((rd_T42 l0_3 x5_4).f1), .slice none 0 0]) ?_ 2 _ rfl; refine zP (cs := #[.int .i64 ((rd_T42 l0_3 x5_4).f0), .int .i64 0, .slice none 0 0]) ?_ 1 _ rfl; refine zP (cs := #[.int .i64 0, .int .i64 0, .slice none 0 0]) ?_ 0 _ rfl; exact BK125.out) hb); have n2_ := zM (zp (by repeat (first | (with_reducible first | exact HB.out | apply zL | apply zN | apply zD | refine zJ ?_ GE120.out | refine zJ ?_ GE125.out) | exact HB.out)) hb); clear BK120; clear BK125; clear HB; have BK120 := n0_; have BK125 := n1_; have HB := n2_; clear n0_ n1_ n2_; have hcz67_0 : w66.cell? ⟨gb125, 0, none⟩ = some (.int .i64 ((rd_T42 l0_3 x5_4).f0)) := (zc BK125.out 0).trans rfl; have hcz67_1 : w66.cell? ⟨gb125, 1, none⟩ = some (.int .i64 ((rd_T42 l0_3 x5_4).f1)) := (zc BK125.out 1).trans rfl; have hcz67_2 : w66.cell? ⟨gb125, 2, none⟩ = some (.slice A124_2 ((rd_T42 l0_3 x5_4).f2).length c124_2) := (zc BK125.out 2).trans rfl; have hfz67_0 := zf BK125.out 0; have hfz67_1 := zf BK125.out 1; have hfz67_2 := zf BK125.out 2; have hcz68_0 : w66.cell? ⟨gb120, 0, none⟩ = some (.int .i64 a0_0) := (zc BK120.out 0).trans rfl; have hcz68_1 : w66.cell? ⟨gb120, 1, none⟩ = some (.int .i64 a0_1) := (zc BK120.out 1).trans rfl; have hcz68_2 : w66.cell? ⟨gb120, 2, none⟩ = some (.slice A0_2 l0_2.length c0_2) := (zc BK120.out 2).trans rfl; have hcz68_3 : w66.cell? ⟨gb120, 3, none⟩ = some (.slice (some ad124) l0_3.length c0_3) := (zc BK120.out 3).trans rfl; have hfz68_0 := zf BK120.out 0; have hfz68_1 := zf BK120.out 1; have hfz68_2 := zf BK120.out 2; have hfz68_3 := zf BK120.out 3; have p127 : 0 ≤ ((ji51) : Int) := zo (by assumption); have q127 : (ji51) < (l0_3.length : Int) := zo (by assumption); obtain ⟨ad127, A127_2, c127_2, e127, hx127_0, hx127_1, hx127_2, hl127_2, hi127_2⟩ := at_T42 HR0_3.out (ji51) p127 q127; obtain rfl : ad124 = ad127 := (by injection e127); replace hx127_0 := (HB.out.cell (zW w _ hx127_0)).trans hx127_0; replace hx127_1 := (HB.out.cell (zW w _ hx127_1)).trans hx127_1; replace hx127_2 := (HB.out.cell (zW w _ hx127_2)).trans hx127_2; have HR127_2 := zM hi127_2; have HC127_2 := zM hl127_2; clear hi127_2 hl127_2; replace p127 := eq_true p127; replace q127 := eq_true q127)))
                      go_roundg k4
                      case measure => have := HJ1.out; have := HK2.out; have := HJ21.out; have := HK4.out; omega
                      case rel => exact ⟨(wrap64 (x5_4 + 1)), rfl, H', ⟨by have := HJ1.out; have := HK2.out; have := HJ21.out; have := HK4.out; omega⟩, ⟨by exact BK120.out⟩, ⟨by repeat (first | (with_reducible first | exact HB.out | apply zL | apply zN | apply zD | refine zJ ?_ GE120.out | refine zJ ?_ GE125.out) | exact HB.out)⟩⟩
                    ·rw [if_neg c53] at H
                     exact absurd H (by simp)
                   ·rw [if_neg c52] at H
                    exact absurd H (by simp)
                  ·rw [if_neg c50] at H
                   have c50b0 : decide (0 < x5_4) = false := decide_eq_false c50
                   clear c50
                   have H' := zM H
                   clear H
                   have hcz69_0 : wr.cell? ⟨gb120, 0, none⟩ = some (.int .i64 a0_0) := (zc BK120.out 0).trans rfl
                   have hcz69_1 : wr.cell? ⟨gb120, 1, none⟩ = some (.int .i64 a0_1) := (zc BK120.out 1).trans rfl
                   have hcz69_2 : wr.cell? ⟨gb120, 2, none⟩ = some (.slice A0_2 l0_2.length c0_2) := (zc BK120.out 2).trans rfl
                   have hcz69_3 : wr.cell? ⟨gb120, 3, none⟩ = some (.slice A0_3 l0_3.length c0_3) := (zc BK120.out 3).trans rfl
                   have hfz69_0 := zf BK120.out 0
                   have hfz69_1 := zf BK120.out 1
                   have hfz69_2 := zf BK120.out 2
                   have hfz69_3 := zf BK120.out 3
                   have p124 : 0 ≤ (x5_4 : Int) := zo (by assumption)
                   have q124 : x5_4 < (l0_3.length : Int) := zo (by assumption)
                   obtain ⟨ad124, A124_2, c124_2, e124, hx124_0, hx124_1, hx124_2, hl124_2, hi124_2⟩ := at_T42 HR0_3.out x5_4 p124 q124
                   cases e124
                   replace hx124_0 := (HB.out.cell (zW w _ hx124_0)).trans hx124_0
                   replace hx124_1 := (HB.out.cell (zW w _ hx124_1)).trans hx124_1
                   replace hx124_2 := (HB.out.cell (zW w _ hx124_2)).trans hx124_2
                   have HR124_2 := zM hi124_2
                   have HC124_2 := zM hl124_2
                   clear hi124_2 hl124_2
                   replace p124 := eq_true p124
                   replace q124 := eq_true q124
                   go_wp2_with (first | ((with_reducible refine gate_dst (N := 6) rfl ?_); (try (refine gate_guard (by rfl) ?_; dsimp only)); refine box_event ?hg (N := 6) ?hd (cs := #[.int .i64 0, .int .i64 0, .slice none 0 0]) (t := 42) ?hr ?_; (case hd => rfl); (case hg => rfl); (case hr => go_simp); intro gb125 hg w70 hbox hb; have n0_ := zM (zb (g := gb120) (o := .cells #[.int .i64 a0_0, .int .i64 a0_1, .slice A0_2 l0_2.length c0_2, .slice (some ad124) l0_3.length c0_3] 25 (0, 0)) (by exact BK120.out) hb); have n1_ := zM (zp (by repeat (first | (with_reducible first | exact HB.out | apply zL | apply zN | apply zD | refine zJ ?_ GE120.out) | exact HB.out)) hb); have n2_ := zM (hbox); have n3_ := zM ((by rw [hg]; exact (zs (by repeat (first | (with_reducible first | exact HB.out | apply zL | apply zN | apply zD | refine zJ ?_ GE120.out) | exact HB.out))) : w.heap.size ≤ gb125)); have n4_ := zM ((by rw [hg]; exact (zs (by repeat (first | (with_reducible first | exact HB.out | apply zL | apply zN | apply zD | refine zJ ?_ GE120.out) | exact HB.out))) : w.heap.size ≤ gb125)); have n5_ := zM ((by rw [hg]; exact zt (blk_lt (g := gb120) (o := .cells #[.int .i64 a0_0, .int .i64 a0_1, .slice A0_2 l0_2.length c0_2, .slice (some ad124) l0_3.length c0_3] 25 (0, 0)) (by exact BK120.out)) : gb120 ≠ gb125)); have n6_ := zM ((by rw [hg]; exact Nat.ne_of_gt (blk_lt (g := gb120) (o := .cells #[.int .i64 a0_0, .int .i64 a0_1, .slice A0_2 l0_2.length c0_2, .slice (some ad124) l0_3.length c0_3] 25 (0, 0)) (by exact BK120.out)) : gb125 ≠ gb120)); clear BK120; clear HB; have BK120 := n0_; have HB := n1_; have BK125 := n2_; have GW125 := n3_; have GE125 := n4_; have NB120_125 := n5_; have NB125_120 := n6_; clear n0_ n1_ n2_ n3_ n4_ n5_ n6_; clear hb hbox hg; have hnb71 := NB125_120.out; have hnc71 := NB120_125.out; have hcz72_0 : w70.cell? ⟨gb125, 0, none⟩ = some (.int .i64 0) := (zc BK125.out 0).trans rfl; have hcz72_1 : w70.cell? ⟨gb125, 1, none⟩ = some (.int .i64 0) := (zc BK125.out 1).trans rfl; have hcz72_2 : w70.cell? ⟨gb125, 2, none⟩ = some (.slice none 0 0) := (zc BK125.out 2).trans rfl; have hfz72_0 := zf BK125.out 0; have hfz72_1 := zf BK125.out 1; have hfz72_2 := zf BK125.out 2) | (go_at_call 29; (with_reducible refine (R07_May.calls k4 ((rd_T42 l0_3 x5_4).f0) ((rd_T42 l0_3 x5_4).f1) _ _ ((rd_T42 l0_3 x5_4).f2) true _ ?side1 ?side2 A31.out).mono ?_); (case side1 => exact zcb HR124_2.out (by repeat (first | (with_reducible first | exact HB.out | apply zL | apply zN | apply zD | refine zJ ?_ GE120.out | refine zJ ?_ GE125.out) | exact HB.out))); (case side2 => exact HC124_2.out); rintro e w73 ⟨rfl, hb⟩; have n0_ := zM (zb (g := gb120) (o := .cells #[.int .i64 a0_0, .int .i64 a0_1, .slice A0_2 l0_2.length c0_2, .slice (some ad124) l0_3.length c0_3] 25 (0, 0)) (by refine zF ?_ NB120_125.out _; refine zF ?_ NB120_125.out _; refine zF ?_ NB120_125.out _; exact BK120.out) hb); have n1_ := zM (zb (g := gb125) (o := .cells #[.int .i64 ((rd_T42 l0_3 x5_4).f0), .int .i64 ((rd_T42 l0_3 x5_4).f1), .slice A124_2 ((rd_T42 l0_3 x5_4).f2).length c124_2] 42 (0, 0)) (by refine zP (cs := #[.int .i64 ((rd_T42 l0_3 x5_4).f0), .int .i64 ((rd_T42 l0_3 x5_4).f1), .slice none 0 0]) ?_ 2 _ rfl; refine zP (cs := #[.int .i64 ((rd_T42 l0_3 x5_4).f0), .int .i64 0, .slice none 0 0]) ?_ 1 _ rfl; refine zP (cs := #[.int .i64 0, .int .i64 0, .slice none 0 0]) ?_ 0 _ rfl; exact BK125.out) hb); have n2_ := zM (zp (by repeat (first | (with_reducible first | exact HB.out | apply zL | apply zN | apply zD | refine zJ ?_ GE120.out | refine zJ ?_ GE125.out) | exact HB.out)) hb); clear BK120; clear BK125; clear HB; have BK120 := n0_; have BK125 := n1_; have HB := n2_; clear n0_ n1_ n2_; have hcz74_0 : w73.cell? ⟨gb125, 0, none⟩ = some (.int .i64 ((rd_T42 l0_3 x5_4).f0)) := (zc BK125.out 0).trans rfl; have hcz74_1 : w73.cell? ⟨gb125, 1, none⟩ = some (.int .i64 ((rd_T42 l0_3 x5_4).f1)) := (zc BK125.out 1).trans rfl; have hcz74_2 : w73.cell? ⟨gb125, 2, none⟩ = some (.slice A124_2 ((rd_T42 l0_3 x5_4).f2).length c124_2) := (zc BK125.out 2).trans rfl; have hfz74_0 := zf BK125.out 0; have hfz74_1 := zf BK125.out 1; have hfz74_2 := zf BK125.out 2; have hcz75_0 : w73.cell? ⟨gb120, 0, none⟩ = some (.int .i64 a0_0) := (zc BK120.out 0).trans rfl; have hcz75_1 : w73.cell? ⟨gb120, 1, none⟩ = some (.int .i64 a0_1) := (zc BK120.out 1).trans rfl; have hcz75_2 : w73.cell? ⟨gb120, 2, none⟩ = some (.slice A0_2 l0_2.length c0_2) := (zc BK120.out 2).trans rfl; have hcz75_3 : w73.cell? ⟨gb120, 3, none⟩ = some (.slice (some ad124) l0_3.length c0_3) := (zc BK120.out 3).trans rfl; have hfz75_0 := zf BK120.out 0; have hfz75_1 := zf BK120.out 1; have hfz75_2 := zf BK120.out 2; have hfz75_3 := zf BK120.out 3))
                   repeat (go_quiet (first | ((with_reducible refine gate_dst (N := 6) rfl ?_); (try (refine gate_guard (by rfl) ?_; dsimp only)); refine box_event ?hg (N := 6) ?hd (cs := #[.int .i64 0, .int .i64 0, .slice none 0 0]) (t := 42) ?hr ?_; (case hd => rfl); (case hg => rfl); (case hr => go_simp); intro gb125 hg w70 hbox hb; have n0_ := zM (zb (g := gb120) (o := .cells #[.int .i64 a0_0, .int .i64 a0_1, .slice A0_2 l0_2.length c0_2, .slice (some ad124) l0_3.length c0_3] 25 (0, 0)) (by exact BK120.out) hb); have n1_ := zM (zp (by repeat (first | (with_reducible first | exact HB.out | apply zL | apply zN | apply zD | refine zJ ?_ GE120.out) | exact HB.out)) hb); have n2_ := zM (hbox); have n3_ := zM ((by rw [hg]; exact (zs (by repeat (first | (with_reducible first | exact HB.out | apply zL | apply zN | apply zD | refine zJ ?_ GE120.out) | exact HB.out))) : w.heap.size ≤ gb125)); have n4_ := zM ((by rw [hg]; exact (zs (by repeat (first | (with_reducible first | exact HB.out | apply zL | apply zN | apply zD | refine zJ ?_ GE120.out) | exact HB.out))) : w.heap.size ≤ gb125)); have n5_ := zM ((by rw [hg]; exact zt (blk_lt (g := gb120) (o := .cells #[.int .i64 a0_0, .int .i64 a0_1, .slice A0_2 l0_2.length c0_2, .slice (some ad124) l0_3.length c0_3] 25 (0, 0)) (by exact BK120.out)) : gb120 ≠ gb125)); have n6_ := zM ((by rw [hg]; exact Nat.ne_of_gt (blk_lt (g := gb120) (o := .cells #[.int .i64 a0_0, .int .i64 a0_1, .slice A0_2 l0_2.length c0_2, .slice (some ad124) l0_3.length c0_3] 25 (0, 0)) (by exact BK120.out)) : gb125 ≠ gb120)); clear BK120; clear HB; have BK120 := n0_; have HB := n1_; have BK125 := n2_; have GW125 := n3_; have GE125 := n4_; have NB120_125 := n5_; have NB125_120 := n6_; clear n0_ n1_ n2_ n3_ n4_ n5_ n6_; clear hb hbox hg; have hnb71 := NB125_120.out; have hnc71 := NB120_125.out; have hcz72_0 : w70.cell? ⟨gb125, 0, none⟩ = some (.int .i64 0) := (zc BK125.out 0).trans rfl; have hcz72_1 : w70.cell? ⟨gb125, 1, none⟩ = some (.int .i64 0) := (zc BK125.out 1).trans rfl; have hcz72_2 : w70.cell? ⟨gb125, 2, none⟩ = some (.slice none 0 0) := (zc BK125.out 2).trans rfl; have hfz72_0 := zf BK125.out 0; have hfz72_1 := zf BK125.out 1; have hfz72_2 := zf BK125.out 2) | (go_at_call 29; (with_reducible refine (R07_May.calls k4 ((rd_T42 l0_3 x5_4).f0) ((rd_T42 l0_3 x5_4).f1) _ _ ((rd_T42 l0_3 x5_4).f2) true _ ?side1 ?side2 A31.out).mono ?_); (case side1 => exact zcb HR124_2.out (by repeat (first | (with_reducible first | exact HB.out | apply zL | apply zN | apply zD | refine zJ ?_ GE120.out | refine zJ ?_ GE125.out) | exact HB.out))); (case side2 => exact HC124_2.out); rintro e w73 ⟨rfl, hb⟩; have n0_ := zM (zb (g := gb120) (o := .cells #[.int .i64 a0_0, .int .i64 a0_1, .slice A0_2 l0_2.length c0_2, .slice (some ad124) l0_3.length c0_3] 25 (0, 0)) (by refine zF ?_ NB120_125.out _; refine zF ?_ NB120_125.out _; refine zF ?_ NB120_125.out _; exact BK120.out) hb); have n1_ := zM (zb (g := gb125) (o := .cells #[.int .i64 ((rd_T42 l0_3 x5_4).f0), .int .i64 ((rd_T42 l0_3 x5_4).f1), .slice A124_2 ((rd_T42 l0_3 x5_4).f2).length c124_2] 42 (0, 0)) (by refine zP (cs := #[.int .i64 ((rd_T42 l0_3 x5_4).f0), .int .i64 ((rd_T42 l0_3 x5_4).f1), .slice none 0 0]) ?_ 2 _ rfl; refine zP (cs := #[.int .i64 ((rd_T42 l0_3 x5_4).f0), .int .i64 0, .slice none 0 0]) ?_ 1 _ rfl; refine zP (cs := #[.int .i64 0, .int .i64 0, .slice none 0 0]) ?_ 0 _ rfl; exact BK125.out) hb); have n2_ := zM (zp (by repeat (first | (with_reducible first | exact HB.out | apply zL | apply zN | apply zD | refine zJ ?_ GE120.out | refine zJ ?_ GE125.out) | exact HB.out)) hb); clear BK120; clear BK125; clear HB; have BK120 := n0_; have BK125 := n1_; have HB := n2_; clear n0_ n1_ n2_; have hcz74_0 : w73.cell? ⟨gb125, 0, none⟩ = some (.int .i64 ((rd_T42 l0_3 x5_4).f0)) := (zc BK125.out 0).trans rfl; have hcz74_1 : w73.cell? ⟨gb125, 1, none⟩ = some (.int .i64 ((rd_T42 l0_3 x5_4).f1)) := (zc BK125.out 1).trans rfl; have hcz74_2 : w73.cell? ⟨gb125, 2, none⟩ = some (.slice A124_2 ((rd_T42 l0_3 x5_4).f2).length c124_2) := (zc BK125.out 2).trans rfl; have hfz74_0 := zf BK125.out 0; have hfz74_1 := zf BK125.out 1; have hfz74_2 := zf BK125.out 2; have hcz75_0 : w73.cell? ⟨gb120, 0, none⟩ = some (.int .i64 a0_0) := (zc BK120.out 0).trans rfl; have hcz75_1 : w73.cell? ⟨gb120, 1, none⟩ = some (.int .i64 a0_1) := (zc BK120.out 1).trans rfl; have hcz75_2 : w73.cell? ⟨gb120, 2, none⟩ = some (.slice A0_2 l0_2.length c0_2) := (zc BK120.out 2).trans rfl; have hcz75_3 : w73.cell? ⟨gb120, 3, none⟩ = some (.slice (some ad124) l0_3.length c0_3) := (zc BK120.out 3).trans rfl; have hfz75_0 := zf BK120.out 0; have hfz75_1 := zf BK120.out 1; have hfz75_2 := zf BK120.out 2; have hfz75_3 := zf BK120.out 3)); try go_wp2_with (first | ((with_reducible refine gate_dst (N := 6) rfl ?_); (try (refine gate_guard (by rfl) ?_; dsimp only)); refine box_event ?hg (N := 6) ?hd (cs := #[.int .i64 0, .int .i64 0, .slice none 0 0]) (t := 42) ?hr ?_; (case hd => rfl); (case hg => rfl); (case hr => go_simp); intro gb125 hg w70 hbox hb; have n0_ := zM (zb (g := gb120) (o := .cells #[.int .i64 a0_0, .int .i64 a0_1, .slice A0_2 l0_2.length c0_2, .slice (some ad124) l0_3.length c0_3] 25 (0, 0)) (by exact BK120.out) hb); have n1_ := zM (zp (by repeat (first | (with_reducible first | exact HB.out | apply zL | apply zN | apply zD | refine zJ ?_ GE120.out) | exact HB.out)) hb); have n2_ := zM (hbox); have n3_ := zM ((by rw [hg]; exact (zs (by repeat (first | (with_reducible first | exact HB.out | apply zL | apply zN | apply zD | refine zJ ?_ GE120.out) | exact HB.out))) : w.heap.size ≤ gb125)); have n4_ := zM ((by rw [hg]; exact (zs (by repeat (first | (with_reducible first | exact HB.out | apply zL | apply zN | apply zD | refine zJ ?_ GE120.out) | exact HB.out))) : w.heap.size ≤ gb125)); have n5_ := zM ((by rw [hg]; exact zt (blk_lt (g := gb120) (o := .cells #[.int .i64 a0_0, .int .i64 a0_1, .slice A0_2 l0_2.length c0_2, .slice (some ad124) l0_3.length c0_3] 25 (0, 0)) (by exact BK120.out)) : gb120 ≠ gb125)); have n6_ := zM ((by rw [hg]; exact Nat.ne_of_gt (blk_lt (g := gb120) (o := .cells #[.int .i64 a0_0, .int .i64 a0_1, .slice A0_2 l0_2.length c0_2, .slice (some ad124) l0_3.length c0_3] 25 (0, 0)) (by exact BK120.out)) : gb125 ≠ gb120)); clear BK120; clear HB; have BK120 := n0_; have HB := n1_; have BK125 := n2_; have GW125 := n3_; have GE125 := n4_; have NB120_125 := n5_; have NB125_120 := n6_; clear n0_ n1_ n2_ n3_ n4_ n5_ n6_; clear hb hbox hg; have hnb71 := NB125_120.out; have hnc71 := NB120_125.out; have hcz72_0 : w70.cell? ⟨gb125, 0, none⟩ = some (.int .i64 0) := (zc BK125.out 0).trans rfl; have hcz72_1 : w70.cell? ⟨gb125, 1, none⟩ = some (.int .i64 0) := (zc BK125.out 1).trans rfl; have hcz72_2 : w70.cell? ⟨gb125, 2, none⟩ = some (.slice none 0 0) := (zc BK125.out 2).trans rfl; have hfz72_0 := zf BK125.out 0; have hfz72_1 := zf BK125.out 1; have hfz72_2 := zf BK125.out 2) | (go_at_call 29; (with_reducible refine (R07_May.calls k4 ((rd_T42 l0_3 x5_4).f0) ((rd_T42 l0_3 x5_4).f1) _ _ ((rd_T42 l0_3 x5_4).f2) true _ ?side1 ?side2 A31.out).mono ?_); (case side1 => exact zcb HR124_2.out (by repeat (first | (with_reducible first | exact HB.out | apply zL | apply zN | apply zD | refine zJ ?_ GE120.out | refine zJ ?_ GE125.out) | exact HB.out))); (case side2 => exact HC124_2.out); rintro e w73 ⟨rfl, hb⟩; have n0_ := zM (zb (g := gb120) (o := .cells #[.int .i64 a0_0, .int .i64 a0_1, .slice A0_2 l0_2.length c0_2, .slice (some ad124) l0_3.length c0_3] 25 (0, 0)) (by refine zF ?_ NB120_125.out _; refine zF ?_ NB120_125.out _; refine zF ?_ NB120_125.out _; exact BK120.out) hb); have n1_ := zM (zb (g := gb125) (o := .cells #[.int .i64 ((rd_T42 l0_3 x5_4).f0), .int .i64 ((rd_T42 l0_3 x5_4).f1), .slice A124_2 ((rd_T42 l0_3 x5_4).f2).length c124_2] 42 (0, 0)) (by refine zP (cs := #[.int .i64 ((rd_T42 l0_3 x5_4).f0), .int .i64 ((rd_T42 l0_3 x5_4).f1), .slice none 0 0]) ?_ 2 _ rfl; refine zP (cs := #[.int .i64 ((rd_T42 l0_3 x5_4).f0), .int .i64 0, .slice none 0 0]) ?_ 1 _ rfl; refine zP (cs := #[.int .i64 0, .int .i64 0, .slice none 0 0]) ?_ 0 _ rfl; exact BK125.out) hb); have n2_ := zM (zp (by repeat (first | (with_reducible first | exact HB.out | apply zL | apply zN | apply zD | refine zJ ?_ GE120.out | refine zJ ?_ GE125.out) | exact HB.out)) hb); clear BK120; clear BK125; clear HB; have BK120 := n0_; have BK125 := n1_; have HB := n2_; clear n0_ n1_ n2_; have hcz74_0 : w73.cell? ⟨gb125, 0, none⟩ = some (.int .i64 ((rd_T42 l0_3 x5_4).f0)) := (zc BK125.out 0).trans rfl; have hcz74_1 : w73.cell? ⟨gb125, 1, none⟩ = some (.int .i64 ((rd_T42 l0_3 x5_4).f1)) := (zc BK125.out 1).trans rfl; have hcz74_2 : w73.cell? ⟨gb125, 2, none⟩ = some (.slice A124_2 ((rd_T42 l0_3 x5_4).f2).length c124_2) := (zc BK125.out 2).trans rfl; have hfz74_0 := zf BK125.out 0; have hfz74_1 := zf BK125.out 1; have hfz74_2 := zf BK125.out 2; have hcz75_0 : w73.cell? ⟨gb120, 0, none⟩ = some (.int .i64 a0_0) := (zc BK120.out 0).trans rfl; have hcz75_1 : w73.cell? ⟨gb120, 1, none⟩ = some (.int .i64 a0_1) := (zc BK120.out 1).trans rfl; have hcz75_2 : w73.cell? ⟨gb120, 2, none⟩ = some (.slice A0_2 l0_2.length c0_2) := (zc BK120.out 2).trans rfl; have hcz75_3 : w73.cell? ⟨gb120, 3, none⟩ = some (.slice (some ad124) l0_3.length c0_3) := (zc BK120.out 3).trans rfl; have hfz75_0 := zf BK120.out 0; have hfz75_1 := zf BK120.out 1; have hfz75_2 := zf BK120.out 2; have hfz75_3 := zf BK120.out 3)))
                   go_roundg k4
                   case measure => have := HJ1.out; have := HK2.out; have := HJ21.out; have := HK4.out; omega
                   case rel => exact ⟨(wrap64 (x5_4 + 1)), rfl, H', ⟨by have := HJ1.out; have := HK2.out; have := HJ21.out; have := HK4.out; omega⟩, ⟨by exact BK120.out⟩, ⟨by repeat (first | (with_reducible first | exact HB.out | apply zL | apply zN | apply zD | refine zJ ?_ GE120.out | refine zJ ?_ GE125.out) | exact HB.out)⟩⟩
               ·rw [if_neg c33] at H
                have c33b0 : (((rd_T42 l0_3 x5_4).f0) == a0_0) = false := beq_eq_false_iff_ne.mpr c33
                have c33b1 : (((rd_T42 l0_3 x5_4).f0) != a0_0) = true := bne_iff_ne.mpr c33
                obtain rfl := Option.some.inj H
                have hcz76_0 : wr.cell? ⟨gb120, 0, none⟩ = some (.int .i64 a0_0) := (zc BK120.out 0).trans rfl
                have hcz76_1 : wr.cell? ⟨gb120, 1, none⟩ = some (.int .i64 a0_1) := (zc BK120.out 1).trans rfl
                have hcz76_2 : wr.cell? ⟨gb120, 2, none⟩ = some (.slice A0_2 l0_2.length c0_2) := (zc BK120.out 2).trans rfl
                have hcz76_3 : wr.cell? ⟨gb120, 3, none⟩ = some (.slice A0_3 l0_3.length c0_3) := (zc BK120.out 3).trans rfl
                have hfz76_0 := zf BK120.out 0
                have hfz76_1 := zf BK120.out 1
                have hfz76_2 := zf BK120.out 2
                have hfz76_3 := zf BK120.out 3
                have p124 : 0 ≤ (x5_4 : Int) := zo (by assumption)
                have q124 : x5_4 < (l0_3.length : Int) := zo (by assumption)
                obtain ⟨ad124, A124_2, c124_2, e124, hx124_0, hx124_1, hx124_2, hl124_2, hi124_2⟩ := at_T42 HR0_3.out x5_4 p124 q124
                cases e124
                replace hx124_0 := (HB.out.cell (zW w _ hx124_0)).trans hx124_0
                replace hx124_1 := (HB.out.cell (zW w _ hx124_1)).trans hx124_1
                replace hx124_2 := (HB.out.cell (zW w _ hx124_2)).trans hx124_2
                have HR124_2 := zM hi124_2
                have HC124_2 := zM hl124_2
                clear hi124_2 hl124_2
                replace p124 := eq_true p124
                replace q124 := eq_true q124
                go_wp2_with (first | ((with_reducible refine gate_dst (N := 6) rfl ?_); (try (refine gate_guard (by rfl) ?_; dsimp only)); refine box_event ?hg (N := 6) ?hd (cs := #[.int .i64 0, .int .i64 0, .slice none 0 0]) (t := 42) ?hr ?_; (case hd => rfl); (case hg => rfl); (case hr => go_simp); intro gb125 hg w77 hbox hb; have n0_ := zM (zb (g := gb120) (o := .cells #[.int .i64 a0_0, .int .i64 a0_1, .slice A0_2 l0_2.length c0_2, .slice (some ad124) l0_3.length c0_3] 25 (0, 0)) (by exact BK120.out) hb); have n1_ := zM (zp (by repeat (first | (with_reducible first | exact HB.out | apply zL | apply zN | apply zD | refine zJ ?_ GE120.out) | exact HB.out)) hb); have n2_ := zM (hbox); have n3_ := zM ((by rw [hg]; exact (zs (by repeat (first | (with_reducible first | exact HB.out | apply zL | apply zN | apply zD | refine zJ ?_ GE120.out) | exact HB.out))) : w.heap.size ≤ gb125)); have n4_ := zM ((by rw [hg]; exact (zs (by repeat (first | (with_reducible first | exact HB.out | apply zL | apply zN | apply zD | refine zJ ?_ GE120.out) | exact HB.out))) : w.heap.size ≤ gb125)); have n5_ := zM ((by rw [hg]; exact zt (blk_lt (g := gb120) (o := .cells #[.int .i64 a0_0, .int .i64 a0_1, .slice A0_2 l0_2.length c0_2, .slice (some ad124) l0_3.length c0_3] 25 (0, 0)) (by exact BK120.out)) : gb120 ≠ gb125)); have n6_ := zM ((by rw [hg]; exact Nat.ne_of_gt (blk_lt (g := gb120) (o := .cells #[.int .i64 a0_0, .int .i64 a0_1, .slice A0_2 l0_2.length c0_2, .slice (some ad124) l0_3.length c0_3] 25 (0, 0)) (by exact BK120.out)) : gb125 ≠ gb120)); clear BK120; clear HB; have BK120 := n0_; have HB := n1_; have BK125 := n2_; have GW125 := n3_; have GE125 := n4_; have NB120_125 := n5_; have NB125_120 := n6_; clear n0_ n1_ n2_ n3_ n4_ n5_ n6_; clear hb hbox hg; have hnb78 := NB125_120.out; have hnc78 := NB120_125.out; have hcz79_0 : w77.cell? ⟨gb125, 0, none⟩ = some (.int .i64 0) := (zc BK125.out 0).trans rfl; have hcz79_1 : w77.cell? ⟨gb125, 1, none⟩ = some (.int .i64 0) := (zc BK125.out 1).trans rfl; have hcz79_2 : w77.cell? ⟨gb125, 2, none⟩ = some (.slice none 0 0) := (zc BK125.out 2).trans rfl; have hfz79_0 := zf BK125.out 0; have hfz79_1 := zf BK125.out 1; have hfz79_2 := zf BK125.out 2) | (go_at_call 29; (with_reducible refine (R07_May.calls k4 ((rd_T42 l0_3 x5_4).f0) ((rd_T42 l0_3 x5_4).f1) _ _ ((rd_T42 l0_3 x5_4).f2) true _ ?side1 ?side2 A31.out).mono ?_); (case side1 => exact zcb HR124_2.out (by repeat (first | (with_reducible first | exact HB.out | apply zL | apply zN | apply zD | refine zJ ?_ GE120.out | refine zJ ?_ GE125.out) | exact HB.out))); (case side2 => exact HC124_2.out); rintro e w80 ⟨rfl, hb⟩; have n0_ := zM (zb (g := gb120) (o := .cells #[.int .i64 a0_0, .int .i64 a0_1, .slice A0_2 l0_2.length c0_2, .slice (some ad124) l0_3.length c0_3] 25 (0, 0)) (by refine zF ?_ NB120_125.out _; refine zF ?_ NB120_125.out _; refine zF ?_ NB120_125.out _; exact BK120.out) hb); have n1_ := zM (zb (g := gb125) (o := .cells #[.int .i64 ((rd_T42 l0_3 x5_4).f0), .int .i64 ((rd_T42 l0_3 x5_4).f1), .slice A124_2 ((rd_T42 l0_3 x5_4).f2).length c124_2] 42 (0, 0)) (by refine zP (cs := #[.int .i64 ((rd_T42 l0_3 x5_4).f0), .int .i64 ((rd_T42 l0_3 x5_4).f1), .slice none 0 0]) ?_ 2 _ rfl; refine zP (cs := #[.int .i64 ((rd_T42 l0_3 x5_4).f0), .int .i64 0, .slice none 0 0]) ?_ 1 _ rfl; refine zP (cs := #[.int .i64 0, .int .i64 0, .slice none 0 0]) ?_ 0 _ rfl; exact BK125.out) hb); have n2_ := zM (zp (by repeat (first | (with_reducible first | exact HB.out | apply zL | apply zN | apply zD | refine zJ ?_ GE120.out | refine zJ ?_ GE125.out) | exact HB.out)) hb); clear BK120; clear BK125; clear HB; have BK120 := n0_; have BK125 := n1_; have HB := n2_; clear n0_ n1_ n2_; have hcz81_0 : w80.cell? ⟨gb125, 0, none⟩ = some (.int .i64 ((rd_T42 l0_3 x5_4).f0)) := (zc BK125.out 0).trans rfl; have hcz81_1 : w80.cell? ⟨gb125, 1, none⟩ = some (.int .i64 ((rd_T42 l0_3 x5_4).f1)) := (zc BK125.out 1).trans rfl; have hcz81_2 : w80.cell? ⟨gb125, 2, none⟩ = some (.slice A124_2 ((rd_T42 l0_3 x5_4).f2).length c124_2) := (zc BK125.out 2).trans rfl; have hfz81_0 := zf BK125.out 0; have hfz81_1 := zf BK125.out 1; have hfz81_2 := zf BK125.out 2; have hcz82_0 : w80.cell? ⟨gb120, 0, none⟩ = some (.int .i64 a0_0) := (zc BK120.out 0).trans rfl; have hcz82_1 : w80.cell? ⟨gb120, 1, none⟩ = some (.int .i64 a0_1) := (zc BK120.out 1).trans rfl; have hcz82_2 : w80.cell? ⟨gb120, 2, none⟩ = some (.slice A0_2 l0_2.length c0_2) := (zc BK120.out 2).trans rfl; have hcz82_3 : w80.cell? ⟨gb120, 3, none⟩ = some (.slice (some ad124) l0_3.length c0_3) := (zc BK120.out 3).trans rfl; have hfz82_0 := zf BK120.out 0; have hfz82_1 := zf BK120.out 1; have hfz82_2 := zf BK120.out 2; have hfz82_3 := zf BK120.out 3))
                repeat (go_quiet (first | ((with_reducible refine gate_dst (N := 6) rfl ?_); (try (refine gate_guard (by rfl) ?_; dsimp only)); refine box_event ?hg (N := 6) ?hd (cs := #[.int .i64 0, .int .i64 0, .slice none 0 0]) (t := 42) ?hr ?_; (case hd => rfl); (case hg => rfl); (case hr => go_simp); intro gb125 hg w77 hbox hb; have n0_ := zM (zb (g := gb120) (o := .cells #[.int .i64 a0_0, .int .i64 a0_1, .slice A0_2 l0_2.length c0_2, .slice (some ad124) l0_3.length c0_3] 25 (0, 0)) (by exact BK120.out) hb); have n1_ := zM (zp (by repeat (first | (with_reducible first | exact HB.out | apply zL | apply zN | apply zD | refine zJ ?_ GE120.out) | exact HB.out)) hb); have n2_ := zM (hbox); have n3_ := zM ((by rw [hg]; exact (zs (by repeat (first | (with_reducible first | exact HB.out | apply zL | apply zN | apply zD | refine zJ ?_ GE120.out) | exact HB.out))) : w.heap.size ≤ gb125)); have n4_ := zM ((by rw [hg]; exact (zs (by repeat (first | (with_reducible first | exact HB.out | apply zL | apply zN | apply zD | refine zJ ?_ GE120.out) | exact HB.out))) : w.heap.size ≤ gb125)); have n5_ := zM ((by rw [hg]; exact zt (blk_lt (g := gb120) (o := .cells #[.int .i64 a0_0, .int .i64 a0_1, .slice A0_2 l0_2.length c0_2, .slice (some ad124) l0_3.length c0_3] 25 (0, 0)) (by exact BK120.out)) : gb120 ≠ gb125)); have n6_ := zM ((by rw [hg]; exact Nat.ne_of_gt (blk_lt (g := gb120) (o := .cells #[.int .i64 a0_0, .int .i64 a0_1, .slice A0_2 l0_2.length c0_2, .slice (some ad124) l0_3.length c0_3] 25 (0, 0)) (by exact BK120.out)) : gb125 ≠ gb120)); clear BK120; clear HB; have BK120 := n0_; have HB := n1_; have BK125 := n2_; have GW125 := n3_; have GE125 := n4_; have NB120_125 := n5_; have NB125_120 := n6_; clear n0_ n1_ n2_ n3_ n4_ n5_ n6_; clear hb hbox hg; have hnb78 := NB125_120.out; have hnc78 := NB120_125.out; have hcz79_0 : w77.cell? ⟨gb125, 0, none⟩ = some (.int .i64 0) := (zc BK125.out 0).trans rfl; have hcz79_1 : w77.cell? ⟨gb125, 1, none⟩ = some (.int .i64 0) := (zc BK125.out 1).trans rfl; have hcz79_2 : w77.cell? ⟨gb125, 2, none⟩ = some (.slice none 0 0) := (zc BK125.out 2).trans rfl; have hfz79_0 := zf BK125.out 0; have hfz79_1 := zf BK125.out 1; have hfz79_2 := zf BK125.out 2) | (go_at_call 29; (with_reducible refine (R07_May.calls k4 ((rd_T42 l0_3 x5_4).f0) ((rd_T42 l0_3 x5_4).f1) _ _ ((rd_T42 l0_3 x5_4).f2) true _ ?side1 ?side2 A31.out).mono ?_); (case side1 => exact zcb HR124_2.out (by repeat (first | (with_reducible first | exact HB.out | apply zL | apply zN | apply zD | refine zJ ?_ GE120.out | refine zJ ?_ GE125.out) | exact HB.out))); (case side2 => exact HC124_2.out); rintro e w80 ⟨rfl, hb⟩; have n0_ := zM (zb (g := gb120) (o := .cells #[.int .i64 a0_0, .int .i64 a0_1, .slice A0_2 l0_2.length c0_2, .slice (some ad124) l0_3.length c0_3] 25 (0, 0)) (by refine zF ?_ NB120_125.out _; refine zF ?_ NB120_125.out _; refine zF ?_ NB120_125.out _; exact BK120.out) hb); have n1_ := zM (zb (g := gb125) (o := .cells #[.int .i64 ((rd_T42 l0_3 x5_4).f0), .int .i64 ((rd_T42 l0_3 x5_4).f1), .slice A124_2 ((rd_T42 l0_3 x5_4).f2).length c124_2] 42 (0, 0)) (by refine zP (cs := #[.int .i64 ((rd_T42 l0_3 x5_4).f0), .int .i64 ((rd_T42 l0_3 x5_4).f1), .slice none 0 0]) ?_ 2 _ rfl; refine zP (cs := #[.int .i64 ((rd_T42 l0_3 x5_4).f0), .int .i64 0, .slice none 0 0]) ?_ 1 _ rfl; refine zP (cs := #[.int .i64 0, .int .i64 0, .slice none 0 0]) ?_ 0 _ rfl; exact BK125.out) hb); have n2_ := zM (zp (by repeat (first | (with_reducible first | exact HB.out | apply zL | apply zN | apply zD | refine zJ ?_ GE120.out | refine zJ ?_ GE125.out) | exact HB.out)) hb); clear BK120; clear BK125; clear HB; have BK120 := n0_; have BK125 := n1_; have HB := n2_; clear n0_ n1_ n2_; have hcz81_0 : w80.cell? ⟨gb125, 0, none⟩ = some (.int .i64 ((rd_T42 l0_3 x5_4).f0)) := (zc BK125.out 0).trans rfl; have hcz81_1 : w80.cell? ⟨gb125, 1, none⟩ = some (.int .i64 ((rd_T42 l0_3 x5_4).f1)) := (zc BK125.out 1).trans rfl; have hcz81_2 : w80.cell? ⟨gb125, 2, none⟩ = some (.slice A124_2 ((rd_T42 l0_3 x5_4).f2).length c124_2) := (zc BK125.out 2).trans rfl; have hfz81_0 := zf BK125.out 0; have hfz81_1 := zf BK125.out 1; have hfz81_2 := zf BK125.out 2; have hcz82_0 : w80.cell? ⟨gb120, 0, none⟩ = some (.int .i64 a0_0) := (zc BK120.out 0).trans rfl; have hcz82_1 : w80.cell? ⟨gb120, 1, none⟩ = some (.int .i64 a0_1) := (zc BK120.out 1).trans rfl; have hcz82_2 : w80.cell? ⟨gb120, 2, none⟩ = some (.slice A0_2 l0_2.length c0_2) := (zc BK120.out 2).trans rfl; have hcz82_3 : w80.cell? ⟨gb120, 3, none⟩ = some (.slice (some ad124) l0_3.length c0_3) := (zc BK120.out 3).trans rfl; have hfz82_0 := zf BK120.out 0; have hfz82_1 := zf BK120.out 1; have hfz82_2 := zf BK120.out 2; have hfz82_3 := zf BK120.out 3)); try go_wp2_with (first | ((with_reducible refine gate_dst (N := 6) rfl ?_); (try (refine gate_guard (by rfl) ?_; dsimp only)); refine box_event ?hg (N := 6) ?hd (cs := #[.int .i64 0, .int .i64 0, .slice none 0 0]) (t := 42) ?hr ?_; (case hd => rfl); (case hg => rfl); (case hr => go_simp); intro gb125 hg w77 hbox hb; have n0_ := zM (zb (g := gb120) (o := .cells #[.int .i64 a0_0, .int .i64 a0_1, .slice A0_2 l0_2.length c0_2, .slice (some ad124) l0_3.length c0_3] 25 (0, 0)) (by exact BK120.out) hb); have n1_ := zM (zp (by repeat (first | (with_reducible first | exact HB.out | apply zL | apply zN | apply zD | refine zJ ?_ GE120.out) | exact HB.out)) hb); have n2_ := zM (hbox); have n3_ := zM ((by rw [hg]; exact (zs (by repeat (first | (with_reducible first | exact HB.out | apply zL | apply zN | apply zD | refine zJ ?_ GE120.out) | exact HB.out))) : w.heap.size ≤ gb125)); have n4_ := zM ((by rw [hg]; exact (zs (by repeat (first | (with_reducible first | exact HB.out | apply zL | apply zN | apply zD | refine zJ ?_ GE120.out) | exact HB.out))) : w.heap.size ≤ gb125)); have n5_ := zM ((by rw [hg]; exact zt (blk_lt (g := gb120) (o := .cells #[.int .i64 a0_0, .int .i64 a0_1, .slice A0_2 l0_2.length c0_2, .slice (some ad124) l0_3.length c0_3] 25 (0, 0)) (by exact BK120.out)) : gb120 ≠ gb125)); have n6_ := zM ((by rw [hg]; exact Nat.ne_of_gt (blk_lt (g := gb120) (o := .cells #[.int .i64 a0_0, .int .i64 a0_1, .slice A0_2 l0_2.length c0_2, .slice (some ad124) l0_3.length c0_3] 25 (0, 0)) (by exact BK120.out)) : gb125 ≠ gb120)); clear BK120; clear HB; have BK120 := n0_; have HB := n1_; have BK125 := n2_; have GW125 := n3_; have GE125 := n4_; have NB120_125 := n5_; have NB125_120 := n6_; clear n0_ n1_ n2_ n3_ n4_ n5_ n6_; clear hb hbox hg; have hnb78 := NB125_120.out; have hnc78 := NB120_125.out; have hcz79_0 : w77.cell? ⟨gb125, 0, none⟩ = some (.int .i64 0) := (zc BK125.out 0).trans rfl; have hcz79_1 : w77.cell? ⟨gb125, 1, none⟩ = some (.int .i64 0) := (zc BK125.out 1).trans rfl; have hcz79_2 : w77.cell? ⟨gb125, 2, none⟩ = some (.slice none 0 0) := (zc BK125.out 2).trans rfl; have hfz79_0 := zf BK125.out 0; have hfz79_1 := zf BK125.out 1; have hfz79_2 := zf BK125.out 2) | (go_at_call 29; (with_reducible refine (R07_May.calls k4 ((rd_T42 l0_3 x5_4).f0) ((rd_T42 l0_3 x5_4).f1) _ _ ((rd_T42 l0_3 x5_4).f2) true _ ?side1 ?side2 A31.out).mono ?_); (case side1 => exact zcb HR124_2.out (by repeat (first | (with_reducible first | exact HB.out | apply zL | apply zN | apply zD | refine zJ ?_ GE120.out | refine zJ ?_ GE125.out) | exact HB.out))); (case side2 => exact HC124_2.out); rintro e w80 ⟨rfl, hb⟩; have n0_ := zM (zb (g := gb120) (o := .cells #[.int .i64 a0_0, .int .i64 a0_1, .slice A0_2 l0_2.length c0_2, .slice (some ad124) l0_3.length c0_3] 25 (0, 0)) (by refine zF ?_ NB120_125.out _; refine zF ?_ NB120_125.out _; refine zF ?_ NB120_125.out _; exact BK120.out) hb); have n1_ := zM (zb (g := gb125) (o := .cells #[.int .i64 ((rd_T42 l0_3 x5_4).f0), .int .i64 ((rd_T42 l0_3 x5_4).f1), .slice A124_2 ((rd_T42 l0_3 x5_4).f2).length c124_2] 42 (0, 0)) (by refine zP (cs := #[.int .i64 ((rd_T42 l0_3 x5_4).f0), .int .i64 ((rd_T42 l0_3 x5_4).f1), .slice none 0 0]) ?_ 2 _ rfl; refine zP (cs := #[.int .i64 ((rd_T42 l0_3 x5_4).f0), .int .i64 0, .slice none 0 0]) ?_ 1 _ rfl; refine zP (cs := #[.int .i64 0, .int .i64 0, .slice none 0 0]) ?_ 0 _ rfl; exact BK125.out) hb); have n2_ := zM (zp (by repeat (first | (with_reducible first | exact HB.out | apply zL | apply zN | apply zD | refine zJ ?_ GE120.out | refine zJ ?_ GE125.out) | exact HB.out)) hb); clear BK120; clear BK125; clear HB; have BK120 := n0_; have BK125 := n1_; have HB := n2_; clear n0_ n1_ n2_; have hcz81_0 : w80.cell? ⟨gb125, 0, none⟩ = some (.int .i64 ((rd_T42 l0_3 x5_4).f0)) := (zc BK125.out 0).trans rfl; have hcz81_1 : w80.cell? ⟨gb125, 1, none⟩ = some (.int .i64 ((rd_T42 l0_3 x5_4).f1)) := (zc BK125.out 1).trans rfl; have hcz81_2 : w80.cell? ⟨gb125, 2, none⟩ = some (.slice A124_2 ((rd_T42 l0_3 x5_4).f2).length c124_2) := (zc BK125.out 2).trans rfl; have hfz81_0 := zf BK125.out 0; have hfz81_1 := zf BK125.out 1; have hfz81_2 := zf BK125.out 2; have hcz82_0 : w80.cell? ⟨gb120, 0, none⟩ = some (.int .i64 a0_0) := (zc BK120.out 0).trans rfl; have hcz82_1 : w80.cell? ⟨gb120, 1, none⟩ = some (.int .i64 a0_1) := (zc BK120.out 1).trans rfl; have hcz82_2 : w80.cell? ⟨gb120, 2, none⟩ = some (.slice A0_2 l0_2.length c0_2) := (zc BK120.out 2).trans rfl; have hcz82_3 : w80.cell? ⟨gb120, 3, none⟩ = some (.slice (some ad124) l0_3.length c0_3) := (zc BK120.out 3).trans rfl; have hfz82_0 := zf BK120.out 0; have hfz82_1 := zf BK120.out 1; have hfz82_2 := zf BK120.out 2; have hfz82_3 := zf BK120.out 3)))
                go_ret
                exact ⟨rfl, by repeat (first | (with_reducible first | exact HB.out | apply zL | apply zN | apply zD | refine zJ ?_ GE120.out | refine zJ ?_ GE125.out) | exact HB.out)⟩
              ·replace c32 := Bool.eq_false_iff.mpr c32
               subst c32
               have H1 : (some false) = some r := by rw [if_neg (show ¬ (false = true) by decide)] at H; exact H
               clear H
               have H := H1
               clear H1
               obtain rfl := Option.some.inj H
               have hcz83_0 : wr.cell? ⟨gb120, 0, none⟩ = some (.int .i64 a0_0) := (zc BK120.out 0).trans rfl
               have hcz83_1 : wr.cell? ⟨gb120, 1, none⟩ = some (.int .i64 a0_1) := (zc BK120.out 1).trans rfl
               have hcz83_2 : wr.cell? ⟨gb120, 2, none⟩ = some (.slice A0_2 l0_2.length c0_2) := (zc BK120.out 2).trans rfl
               have hcz83_3 : wr.cell? ⟨gb120, 3, none⟩ = some (.slice A0_3 l0_3.length c0_3) := (zc BK120.out 3).trans rfl
               have hfz83_0 := zf BK120.out 0
               have hfz83_1 := zf BK120.out 1
               have hfz83_2 := zf BK120.out 2
               have hfz83_3 := zf BK120.out 3
               have p124 : 0 ≤ (x5_4 : Int) := zo (by assumption)
               have q124 : x5_4 < (l0_3.length : Int) := zo (by assumption)
               obtain ⟨ad124, A124_2, c124_2, e124, hx124_0, hx124_1, hx124_2, hl124_2, hi124_2⟩ := at_T42 HR0_3.out x5_4 p124 q124
               cases e124
               replace hx124_0 := (HB.out.cell (zW w _ hx124_0)).trans hx124_0
               replace hx124_1 := (HB.out.cell (zW w _ hx124_1)).trans hx124_1
               replace hx124_2 := (HB.out.cell (zW w _ hx124_2)).trans hx124_2
               have HR124_2 := zM hi124_2
               have HC124_2 := zM hl124_2
               clear hi124_2 hl124_2
               replace p124 := eq_true p124
               replace q124 := eq_true q124
               go_wp2_with (first | ((with_reducible refine gate_dst (N := 6) rfl ?_); (try (refine gate_guard (by rfl) ?_; dsimp only)); refine box_event ?hg (N := 6) ?hd (cs := #[.int .i64 0, .int .i64 0, .slice none 0 0]) (t := 42) ?hr ?_; (case hd => rfl); (case hg => rfl); (case hr => go_simp); intro gb125 hg w84 hbox hb; have n0_ := zM (zb (g := gb120) (o := .cells #[.int .i64 a0_0, .int .i64 a0_1, .slice A0_2 l0_2.length c0_2, .slice (some ad124) l0_3.length c0_3] 25 (0, 0)) (by exact BK120.out) hb); have n1_ := zM (zp (by repeat (first | (with_reducible first | exact HB.out | apply zL | apply zN | apply zD | refine zJ ?_ GE120.out) | exact HB.out)) hb); have n2_ := zM (hbox); have n3_ := zM ((by rw [hg]; exact (zs (by repeat (first | (with_reducible first | exact HB.out | apply zL | apply zN | apply zD | refine zJ ?_ GE120.out) | exact HB.out))) : w.heap.size ≤ gb125)); have n4_ := zM ((by rw [hg]; exact (zs (by repeat (first | (with_reducible first | exact HB.out | apply zL | apply zN | apply zD | refine zJ ?_ GE120.out) | exact HB.out))) : w.heap.size ≤ gb125)); have n5_ := zM ((by rw [hg]; exact zt (blk_lt (g := gb120) (o := .cells #[.int .i64 a0_0, .int .i64 a0_1, .slice A0_2 l0_2.length c0_2, .slice (some ad124) l0_3.length c0_3] 25 (0, 0)) (by exact BK120.out)) : gb120 ≠ gb125)); have n6_ := zM ((by rw [hg]; exact Nat.ne_of_gt (blk_lt (g := gb120) (o := .cells #[.int .i64 a0_0, .int .i64 a0_1, .slice A0_2 l0_2.length c0_2, .slice (some ad124) l0_3.length c0_3] 25 (0, 0)) (by exact BK120.out)) : gb125 ≠ gb120)); clear BK120; clear HB; have BK120 := n0_; have HB := n1_; have BK125 := n2_; have GW125 := n3_; have GE125 := n4_; have NB120_125 := n5_; have NB125_120 := n6_; clear n0_ n1_ n2_ n3_ n4_ n5_ n6_; clear hb hbox hg; have hnb85 := NB125_120.out; have hnc85 := NB120_125.out; have hcz86_0 : w84.cell? ⟨gb125, 0, none⟩ = some (.int .i64 0) := (zc BK125.out 0).trans rfl; have hcz86_1 : w84.cell? ⟨gb125, 1, none⟩ = some (.int .i64 0) := (zc BK125.out 1).trans rfl; have hcz86_2 : w84.cell? ⟨gb125, 2, none⟩ = some (.slice none 0 0) := (zc BK125.out 2).trans rfl; have hfz86_0 := zf BK125.out 0; have hfz86_1 := zf BK125.out 1; have hfz86_2 := zf BK125.out 2) | (go_at_call 29; (with_reducible refine (R07_May.calls k4 ((rd_T42 l0_3 x5_4).f0) ((rd_T42 l0_3 x5_4).f1) _ _ ((rd_T42 l0_3 x5_4).f2) false _ ?side1 ?side2 A31.out).mono ?_); (case side1 => exact zcb HR124_2.out (by repeat (first | (with_reducible first | exact HB.out | apply zL | apply zN | apply zD | refine zJ ?_ GE120.out | refine zJ ?_ GE125.out) | exact HB.out))); (case side2 => exact HC124_2.out); rintro e w87 ⟨rfl, hb⟩; have n0_ := zM (zb (g := gb120) (o := .cells #[.int .i64 a0_0, .int .i64 a0_1, .slice A0_2 l0_2.length c0_2, .slice (some ad124) l0_3.length c0_3] 25 (0, 0)) (by refine zF ?_ NB120_125.out _; refine zF ?_ NB120_125.out _; refine zF ?_ NB120_125.out _; exact BK120.out) hb); have n1_ := zM (zb (g := gb125) (o := .cells #[.int .i64 ((rd_T42 l0_3 x5_4).f0), .int .i64 ((rd_T42 l0_3 x5_4).f1), .slice A124_2 ((rd_T42 l0_3 x5_4).f2).length c124_2] 42 (0, 0)) (by refine zP (cs := #[.int .i64 ((rd_T42 l0_3 x5_4).f0), .int .i64 ((rd_T42 l0_3 x5_4).f1), .slice none 0 0]) ?_ 2 _ rfl; refine zP (cs := #[.int .i64 ((rd_T42 l0_3 x5_4).f0), .int .i64 0, .slice none 0 0]) ?_ 1 _ rfl; refine zP (cs := #[.int .i64 0, .int .i64 0, .slice none 0 0]) ?_ 0 _ rfl; exact BK125.out) hb); have n2_ := zM (zp (by repeat (first | (with_reducible first | exact HB.out | apply zL | apply zN | apply zD | refine zJ ?_ GE120.out | refine zJ ?_ GE125.out) | exact HB.out)) hb); clear BK120; clear BK125; clear HB; have BK120 := n0_; have BK125 := n1_; have HB := n2_; clear n0_ n1_ n2_))
               repeat (go_quiet (first | ((with_reducible refine gate_dst (N := 6) rfl ?_); (try (refine gate_guard (by rfl) ?_; dsimp only)); refine box_event ?hg (N := 6) ?hd (cs := #[.int .i64 0, .int .i64 0, .slice none 0 0]) (t := 42) ?hr ?_; (case hd => rfl); (case hg => rfl); (case hr => go_simp); intro gb125 hg w84 hbox hb; have n0_ := zM (zb (g := gb120) (o := .cells #[.int .i64 a0_0, .int .i64 a0_1, .slice A0_2 l0_2.length c0_2, .slice (some ad124) l0_3.length c0_3] 25 (0, 0)) (by exact BK120.out) hb); have n1_ := zM (zp (by repeat (first | (with_reducible first | exact HB.out | apply zL | apply zN | apply zD | refine zJ ?_ GE120.out) | exact HB.out)) hb); have n2_ := zM (hbox); have n3_ := zM ((by rw [hg]; exact (zs (by repeat (first | (with_reducible first | exact HB.out | apply zL | apply zN | apply zD | refine zJ ?_ GE120.out) | exact HB.out))) : w.heap.size ≤ gb125)); have n4_ := zM ((by rw [hg]; exact (zs (by repeat (first | (with_reducible first | exact HB.out | apply zL | apply zN | apply zD | refine zJ ?_ GE120.out) | exact HB.out))) : w.heap.size ≤ gb125)); have n5_ := zM ((by rw [hg]; exact zt (blk_lt (g := gb120) (o := .cells #[.int .i64 a0_0, .int .i64 a0_1, .slice A0_2 l0_2.length c0_2, .slice (some ad124) l0_3.length c0_3] 25 (0, 0)) (by exact BK120.out)) : gb120 ≠ gb125)); have n6_ := zM ((by rw [hg]; exact Nat.ne_of_gt (blk_lt (g := gb120) (o := .cells #[.int .i64 a0_0, .int .i64 a0_1, .slice A0_2 l0_2.length c0_2, .slice (some ad124) l0_3.length c0_3] 25 (0, 0)) (by exact BK120.out)) : gb125 ≠ gb120)); clear BK120; clear HB; have BK120 := n0_; have HB := n1_; have BK125 := n2_; have GW125 := n3_; have GE125 := n4_; have NB120_125 := n5_; have NB125_120 := n6_; clear n0_ n1_ n2_ n3_ n4_ n5_ n6_; clear hb hbox hg; have hnb85 := NB125_120.out; have hnc85 := NB120_125.out; have hcz86_0 : w84.cell? ⟨gb125, 0, none⟩ = some (.int .i64 0) := (zc BK125.out 0).trans rfl; have hcz86_1 : w84.cell? ⟨gb125, 1, none⟩ = some (.int .i64 0) := (zc BK125.out 1).trans rfl; have hcz86_2 : w84.cell? ⟨gb125, 2, none⟩ = some (.slice none 0 0) := (zc BK125.out 2).trans rfl; have hfz86_0 := zf BK125.out 0; have hfz86_1 := zf BK125.out 1; have hfz86_2 := zf BK125.out 2) | (go_at_call 29; (with_reducible refine (R07_May.calls k4 ((rd_T42 l0_3 x5_4).f0) ((rd_T42 l0_3 x5_4).f1) _ _ ((rd_T42 l0_3 x5_4).f2) false _ ?side1 ?side2 A31.out).mono ?_); (case side1 => exact zcb HR124_2.out (by repeat (first | (with_reducible first | exact HB.out | apply zL | apply zN | apply zD | refine zJ ?_ GE120.out | refine zJ ?_ GE125.out) | exact HB.out))); (case side2 => exact HC124_2.out); rintro e w87 ⟨rfl, hb⟩; have n0_ := zM (zb (g := gb120) (o := .cells #[.int .i64 a0_0, .int .i64 a0_1, .slice A0_2 l0_2.length c0_2, .slice (some ad124) l0_3.length c0_3] 25 (0, 0)) (by refine zF ?_ NB120_125.out _; refine zF ?_ NB120_125.out _; refine zF ?_ NB120_125.out _; exact BK120.out) hb); have n1_ := zM (zb (g := gb125) (o := .cells #[.int .i64 ((rd_T42 l0_3 x5_4).f0), .int .i64 ((rd_T42 l0_3 x5_4).f1), .slice A124_2 ((rd_T42 l0_3 x5_4).f2).length c124_2] 42 (0, 0)) (by refine zP (cs := #[.int .i64 ((rd_T42 l0_3 x5_4).f0), .int .i64 ((rd_T42 l0_3 x5_4).f1), .slice none 0 0]) ?_ 2 _ rfl; refine zP (cs := #[.int .i64 ((rd_T42 l0_3 x5_4).f0), .int .i64 0, .slice none 0 0]) ?_ 1 _ rfl; refine zP (cs := #[.int .i64 0, .int .i64 0, .slice none 0 0]) ?_ 0 _ rfl; exact BK125.out) hb); have n2_ := zM (zp (by repeat (first | (with_reducible first | exact HB.out | apply zL | apply zN | apply zD | refine zJ ?_ GE120.out | refine zJ ?_ GE125.out) | exact HB.out)) hb); clear BK120; clear BK125; clear HB; have BK120 := n0_; have BK125 := n1_; have HB := n2_; clear n0_ n1_ n2_)); try go_wp2_with (first | ((with_reducible refine gate_dst (N := 6) rfl ?_); (try (refine gate_guard (by rfl) ?_; dsimp only)); refine box_event ?hg (N := 6) ?hd (cs := #[.int .i64 0, .int .i64 0, .slice none 0 0]) (t := 42) ?hr ?_; (case hd => rfl); (case hg => rfl); (case hr => go_simp); intro gb125 hg w84 hbox hb; have n0_ := zM (zb (g := gb120) (o := .cells #[.int .i64 a0_0, .int .i64 a0_1, .slice A0_2 l0_2.length c0_2, .slice (some ad124) l0_3.length c0_3] 25 (0, 0)) (by exact BK120.out) hb); have n1_ := zM (zp (by repeat (first | (with_reducible first | exact HB.out | apply zL | apply zN | apply zD | refine zJ ?_ GE120.out) | exact HB.out)) hb); have n2_ := zM (hbox); have n3_ := zM ((by rw [hg]; exact (zs (by repeat (first | (with_reducible first | exact HB.out | apply zL | apply zN | apply zD | refine zJ ?_ GE120.out) | exact HB.out))) : w.heap.size ≤ gb125)); have n4_ := zM ((by rw [hg]; exact (zs (by repeat (first | (with_reducible first | exact HB.out | apply zL | apply zN | apply zD | refine zJ ?_ GE120.out) | exact HB.out))) : w.heap.size ≤ gb125)); have n5_ := zM ((by rw [hg]; exact zt (blk_lt (g := gb120) (o := .cells #[.int .i64 a0_0, .int .i64 a0_1, .slice A0_2 l0_2.length c0_2, .slice (some ad124) l0_3.length c0_3] 25 (0, 0)) (by exact BK120.out)) : gb120 ≠ gb125)); have n6_ := zM ((by rw [hg]; exact Nat.ne_of_gt (blk_lt (g := gb120) (o := .cells #[.int .i64 a0_0, .int .i64 a0_1, .slice A0_2 l0_2.length c0_2, .slice (some ad124) l0_3.length c0_3] 25 (0, 0)) (by exact BK120.out)) : gb125 ≠ gb120)); clear BK120; clear HB; have BK120 := n0_; have HB := n1_; have BK125 := n2_; have GW125 := n3_; have GE125 := n4_; have NB120_125 := n5_; have NB125_120 := n6_; clear n0_ n1_ n2_ n3_ n4_ n5_ n6_; clear hb hbox hg; have hnb85 := NB125_120.out; have hnc85 := NB120_125.out; have hcz86_0 : w84.cell? ⟨gb125, 0, none⟩ = some (.int .i64 0) := (zc BK125.out 0).trans rfl; have hcz86_1 : w84.cell? ⟨gb125, 1, none⟩ = some (.int .i64 0) := (zc BK125.out 1).trans rfl; have hcz86_2 : w84.cell? ⟨gb125, 2, none⟩ = some (.slice none 0 0) := (zc BK125.out 2).trans rfl; have hfz86_0 := zf BK125.out 0; have hfz86_1 := zf BK125.out 1; have hfz86_2 := zf BK125.out 2) | (go_at_call 29; (with_reducible refine (R07_May.calls k4 ((rd_T42 l0_3 x5_4).f0) ((rd_T42 l0_3 x5_4).f1) _ _ ((rd_T42 l0_3 x5_4).f2) false _ ?side1 ?side2 A31.out).mono ?_); (case side1 => exact zcb HR124_2.out (by repeat (first | (with_reducible first | exact HB.out | apply zL | apply zN | apply zD | refine zJ ?_ GE120.out | refine zJ ?_ GE125.out) | exact HB.out))); (case side2 => exact HC124_2.out); rintro e w87 ⟨rfl, hb⟩; have n0_ := zM (zb (g := gb120) (o := .cells #[.int .i64 a0_0, .int .i64 a0_1, .slice A0_2 l0_2.length c0_2, .slice (some ad124) l0_3.length c0_3] 25 (0, 0)) (by refine zF ?_ NB120_125.out _; refine zF ?_ NB120_125.out _; refine zF ?_ NB120_125.out _; exact BK120.out) hb); have n1_ := zM (zb (g := gb125) (o := .cells #[.int .i64 ((rd_T42 l0_3 x5_4).f0), .int .i64 ((rd_T42 l0_3 x5_4).f1), .slice A124_2 ((rd_T42 l0_3 x5_4).f2).length c124_2] 42 (0, 0)) (by refine zP (cs := #[.int .i64 ((rd_T42 l0_3 x5_4).f0), .int .i64 ((rd_T42 l0_3 x5_4).f1), .slice none 0 0]) ?_ 2 _ rfl; refine zP (cs := #[.int .i64 ((rd_T42 l0_3 x5_4).f0), .int .i64 0, .slice none 0 0]) ?_ 1 _ rfl; refine zP (cs := #[.int .i64 0, .int .i64 0, .slice none 0 0]) ?_ 0 _ rfl; exact BK125.out) hb); have n2_ := zM (zp (by repeat (first | (with_reducible first | exact HB.out | apply zL | apply zN | apply zD | refine zJ ?_ GE120.out | refine zJ ?_ GE125.out) | exact HB.out)) hb); clear BK120; clear BK125; clear HB; have BK120 := n0_; have BK125 := n1_; have HB := n2_; clear n0_ n1_ n2_)))
               go_ret
               exact ⟨rfl, by repeat (first | (with_reducible first | exact HB.out | apply zL | apply zN | apply zD | refine zJ ?_ GE120.out | refine zJ ?_ GE125.out) | exact HB.out)⟩
             ·rw [if_neg c30] at H
              exact absurd H (by simp)
            ·rw [if_neg c29] at H
             have c29b0 : decide (x5_4 < (l0_3.length : Int)) = false := decide_eq_false c29
             clear c29
             obtain rfl := Option.some.inj H
             have hcz88_0 : wr.cell? ⟨gb120, 0, none⟩ = some (.int .i64 a0_0) := (zc BK120.out 0).trans rfl
             have hcz88_1 : wr.cell? ⟨gb120, 1, none⟩ = some (.int .i64 a0_1) := (zc BK120.out 1).trans rfl
             have hcz88_2 : wr.cell? ⟨gb120, 2, none⟩ = some (.slice A0_2 l0_2.length c0_2) := (zc BK120.out 2).trans rfl
             have hcz88_3 : wr.cell? ⟨gb120, 3, none⟩ = some (.slice A0_3 l0_3.length c0_3) := (zc BK120.out 3).trans rfl
             have hfz88_0 := zf BK120.out 0
             have hfz88_1 := zf BK120.out 1
             have hfz88_2 := zf BK120.out 2
             have hfz88_3 := zf BK120.out 3
             go_wp2
             repeat (go_quiet (fail); try go_wp2)
             go_ret
             exact ⟨rfl, by repeat (first | (with_reducible first | exact HB.out | apply zL | apply zN | apply zD | refine zJ ?_ GE120.out) | exact HB.out)⟩

end Go.Proofs.Ytldpaoaiapedjaa.Q
