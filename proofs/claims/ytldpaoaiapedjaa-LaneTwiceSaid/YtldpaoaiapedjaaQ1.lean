/- What Go functions of this seat come to, as plain Lean functions, and the proof that each call does so, in whatever memory; its conditions stand in each theorem. Written by a program of this session (wip/gen), out of the print of the loaded translation. -/
import Derived.Test.YtldpaoaiapedjaaQ0
namespace Go.Proofs.Ytldpaoaiapedjaa.Q
open Go.RowKit Go.Proofs.YtldpaoaiapedjaaW.PrintWords Go.Proofs.YtldpaoaiapedjaaW.PrintLast Go.Proofs.YtldpaoaiapedjaaW.PrintMore
attribute [local go_sem] max2_int min2_int max_two min_two max_three min_three max_four min_four   -- for this text's walks alone
set_option linter.unusedVariables false
set_option linter.unusedSimpArgs false
-- shrunk

/-! ### equalS: function 44 -/
def equalS.l0 : Nat → List ByteArray → List ByteArray → Int → Int → Option (Bool)
 | 0, _, _, _, _ => none
 | k + 1, x0, x1, x12, x13 => if x13 < x12 then (if 0 ≤ x13 then (if x13 < (x0.length : Int) then (if x13 < (x1.length : Int) then (if (rdOf ByteArray.empty x0 x13).toList = (rdOf ByteArray.empty x1 x13).toList then (equalS.l0 k x0 x1 x12 (wrap64 (x13 + 1))) else (some false)) else (none)) else (none)) else (none)) else (some true)
def equalS.f (k : Nat) (l0 : List ByteArray) (l1 : List ByteArray) : Option (Bool) := if (l0.length : Int) = (l1.length : Int) then (equalS.l0 k l0 l1 (l0.length : Int) 0) else (some false)
theorem equalS.mono_l : ∀ k, (∀ y0 y1 y2 y3, LeO (equalS.l0 k y0 y1 y2 y3) (equalS.l0 (k + 1) y0 y1 y2 y3))
 | 0 => fun _ _ _ _ r h => by simp [equalS.l0] at h
 | k + 1 => by
  have ih0 := equalS.mono_l k
  ·intro y0 y1 y2 y3
   unfold equalS.l0
   repeat' first
   | (with_reducible exact ih0 _ _ _ _)
   | (with_reducible exact LeO.refl _)
   | (with_reducible exact LeO.none _)
   | (with_reducible refine LeO.ite ?_ ?_)
   | (with_reducible refine LeO.bind ?_ (fun _ => ?_))
   | exact ih0 _ _ _ _
   | exact LeO.none _
   | refine LeO.ite ?_ ?_
   | refine LeO.bind ?_ (fun _ => ?_)
theorem equalS.mono : ∀ a0 a1 k, LeO (equalS.f k a0 a1) (equalS.f (k + 1) a0 a1) := by
 intro a0 a1 k
 have ih0 := equalS.mono_l k
 unfold equalS.f
 repeat' first
   | (with_reducible exact ih0 _ _ _ _)
   | (with_reducible exact LeO.refl _)
   | (with_reducible exact LeO.none _)
   | (with_reducible refine LeO.ite ?_ ?_)
   | (with_reducible refine LeO.bind ?_ (fun _ => ?_))
   | exact ih0 _ _ _ _
   | exact LeO.none _
   | refine LeO.ite ?_ ?_
   | refine LeO.bind ?_ (fun _ => ?_)
set_option maxHeartbeats 8000000 in
set_option maxRecDepth 100000 in
theorem equalS.calls (k : Nat) (A0 : Option Addr) (c0 : Nat) (l0 : List ByteArray) (A1 : Option Addr) (c1 : Nat) (l1 : List ByteArray) (r : Bool) (w : World) (hr0 : Kd.C Kd.string w A0 l0.length l0) (hc0 : l0.length ≤ c0) (hr1 : Kd.C Kd.string w A1 l1.length l1) (hc1 : l1.length ≤ c1) (h : equalS.f k l0 l1 = some r) :
  Calls Try.prog 44 #[.slice A0 l0.length c0, .slice A1 l1.length c1] w fun e w' => e = .returned (.bool r) ∧ Drawn0 w w' := by
 have HR0 := zM hr0
 have HC0 := zM hc0
 clear hr0 hc0
 have HR1 := zM hr1
 have HC1 := zM hc1
 clear hr1 hc1
 have H : (if (l0.length : Int) = (l1.length : Int) then (equalS.l0 k l0 l1 (l0.length : Int) 0) else (some false)) = some r := h
 clear h
 by_cases c3 : (l0.length : Int) = (l1.length : Int)
 ·rw [if_pos c3] at H
  have c3b0 : ((l0.length : Int) == (l1.length : Int)) = true := beq_iff_eq.mpr c3
  have c3b1 : ((l0.length : Int) != (l1.length : Int)) = false := bne_eq_false_iff_eq.mpr c3
  have c3b2 : (l0.length == l1.length) = true := by first | simpa using c3 | (simp at c3 ⊢; omega)
  clear c3
  have H' := zM H
  clear H
  go_enter Try.func44, Try.ntmps44
  go_wp2
  repeat (go_quiet (fail); try go_wp2)
  go_loopg [13] k (fun kq v13 w' => ∃ (x13_1 : Int), v13 = .int .i64 x13_1 ∧ Aside0 (equalS.l0 kq l0 l1 (l0.length : Int) x13_1 = some r) ∧ Aside0 (kq ≤ k) ∧ Drawn0 w w')
  case atStart => exact ⟨(0), rfl, H', ⟨Nat.le_refl _⟩, by repeat (first | exact Drawn0.refl _ | apply Drawn0.step)⟩
  case round =>
   clear H'
   obtain ⟨x13_1, rfl, HA, HK1, ⟨m1, rfl⟩⟩ := hrel
   cases gk with
   | zero => exact absurd HA.out (by simp [equalS.l0])
   | succ k1 =>
    have H := HA.out
    clear HA
    simp only [equalS.l0] at H
    by_cases c4 : x13_1 < (l0.length : Int)
    ·rw [if_pos c4] at H
     have c4b0 : decide (x13_1 < (l0.length : Int)) = true := decide_eq_true c4
     clear c4
     by_cases c5 : 0 ≤ x13_1
     ·rw [if_pos c5] at H
      have c5b0 : decide (0 ≤ x13_1) = true := decide_eq_true c5
      clear c5
      by_cases c6 : x13_1 < (l0.length : Int)
      ·rw [if_pos c6] at H
       have c6b0 : decide (x13_1 < (l0.length : Int)) = true := decide_eq_true c6
       clear c6
       by_cases c7 : x13_1 < (l1.length : Int)
       ·rw [if_pos c7] at H
        have c7b0 : decide (x13_1 < (l1.length : Int)) = true := decide_eq_true c7
        clear c7
        by_cases c8 : (rdOf ByteArray.empty l0 x13_1).toList = (rdOf ByteArray.empty l1 x13_1).toList
        ·rw [if_pos c8] at H
         have c8b0 : ((rdOf ByteArray.empty l0 x13_1).toList == (rdOf ByteArray.empty l1 x13_1).toList) = true := beq_iff_eq.mpr c8
         have c8b1 : ((rdOf ByteArray.empty l0 x13_1).toList != (rdOf ByteArray.empty l1 x13_1).toList) = false := bne_eq_false_iff_eq.mpr c8
         clear c8
         have H' := zM H
         clear H
         have p101 : 0 ≤ (x13_1 : Int) := zo (by assumption)
         have q101 : x13_1 < (l0.length : Int) := zo (by assumption)
         obtain ⟨ad101, e101, hx101_0⟩ := Kd.at_string HR0.out x13_1 p101 q101
         cases e101
         replace p101 := eq_true p101
         replace q101 := eq_true q101
         have p102 : 0 ≤ (x13_1 : Int) := zo (by assumption)
         have q102 : x13_1 < (l1.length : Int) := zo (by assumption)
         obtain ⟨ad102, e102, hx102_0⟩ := Kd.at_string HR1.out x13_1 p102 q102
         cases e102
         replace p102 := eq_true p102
         replace q102 := eq_true q102
         go_wp2
         repeat (go_quiet (fail); try go_wp2)
         go_roundg k1
         case measure => have := HK1.out; omega
         case rel => exact ⟨(wrap64 (x13_1 + 1)), rfl, H', ⟨by have := HK1.out; omega⟩, by repeat (first | exact Drawn0.refl _ | apply Drawn0.step)⟩
        ·rw [if_neg c8] at H
         have c8b0 : ((rdOf ByteArray.empty l0 x13_1).toList == (rdOf ByteArray.empty l1 x13_1).toList) = false := beq_eq_false_iff_ne.mpr c8
         have c8b1 : ((rdOf ByteArray.empty l0 x13_1).toList != (rdOf ByteArray.empty l1 x13_1).toList) = true := bne_iff_ne.mpr c8
         obtain rfl := Option.some.inj H
         have p101 : 0 ≤ (x13_1 : Int) := zo (by assumption)
         have q101 : x13_1 < (l0.length : Int) := zo (by assumption)
         obtain ⟨ad101, e101, hx101_0⟩ := Kd.at_string HR0.out x13_1 p101 q101
         cases e101
         replace p101 := eq_true p101
         replace q101 := eq_true q101
         have p102 : 0 ≤ (x13_1 : Int) := zo (by assumption)
         have q102 : x13_1 < (l1.length : Int) := zo (by assumption)
         obtain ⟨ad102, e102, hx102_0⟩ := Kd.at_string HR1.out x13_1 p102 q102
         cases e102
         replace p102 := eq_true p102
         replace q102 := eq_true q102
         go_wp2
         repeat (go_quiet (fail); try go_wp2)
         go_ret
         exact ⟨by first | rfl | (simp; done) | (simp [*]; done), by repeat (first | exact Drawn0.refl _ | apply Drawn0.step)⟩
       ·rw [if_neg c7] at H
        exact absurd H (by simp)
      ·rw [if_neg c6] at H
       exact absurd H (by simp)
     ·rw [if_neg c5] at H
      exact absurd H (by simp)
    ·rw [if_neg c4] at H
     have c4b0 : decide (x13_1 < (l0.length : Int)) = false := decide_eq_false c4
     clear c4
     obtain rfl := Option.some.inj H
     go_wp2
     repeat (go_quiet (fail); try go_wp2)
     go_ret
     exact ⟨by first | rfl | (simp; done) | (simp [*]; done), by repeat (first | exact Drawn0.refl _ | apply Drawn0.step)⟩
 ·rw [if_neg c3] at H
  have c3b0 : ((l0.length : Int) == (l1.length : Int)) = false := beq_eq_false_iff_ne.mpr c3
  have c3b1 : ((l0.length : Int) != (l1.length : Int)) = true := bne_iff_ne.mpr c3
  have c3b2 : (l0.length == l1.length) = false := by first | simpa using c3 | (simp at c3 ⊢; omega)
  obtain rfl := Option.some.inj H
  go_enter Try.func44, Try.ntmps44
  go_wp2
  repeat (go_quiet (fail); try go_wp2)
  go_ret
  exact ⟨by first | rfl | (simp; done) | (simp [*]; done), by repeat (first | exact Drawn0.refl _ | apply Drawn0.step)⟩

/-! ### batch_Same: function 46 -/
def batch_Same.f (k : Nat) (a0_0 : Int) (a0_1 : Int) (l0_2 : List ByteArray) (a1_0 : Int) (a1_1 : Int) (l1_2 : List ByteArray) : Option (Bool) := if a0_0 = a1_0 then (if a0_1 = a1_1 then ((equalS.f k l0_2 l1_2).bind fun t105 => (some t105)) else (some false)) else (some false)
theorem batch_Same.mono : ∀ a0 a1 a2 a3 a4 a5 k, LeO (batch_Same.f k a0 a1 a2 a3 a4 a5) (batch_Same.f (k + 1) a0 a1 a2 a3 a4 a5) := by
 intro a0 a1 a2 a3 a4 a5 k
 unfold batch_Same.f
 repeat' first
   | (with_reducible exact equalS.mono _ _ _)
   | (with_reducible exact LeO.refl _)
   | (with_reducible exact LeO.none _)
   | (with_reducible refine LeO.ite ?_ ?_)
   | (with_reducible refine LeO.bind ?_ (fun _ => ?_))
   | exact equalS.mono _ _ _
   | exact LeO.none _
   | refine LeO.ite ?_ ?_
   | refine LeO.bind ?_ (fun _ => ?_)
set_option maxHeartbeats 8000000 in
set_option maxRecDepth 100000 in
theorem batch_Same.calls (k : Nat) (a0_0 : Int) (a0_1 : Int) (A0_2 : Option Addr) (c0_2 : Nat) (l0_2 : List ByteArray) (a1_0 : Int) (a1_1 : Int) (A1_2 : Option Addr) (c1_2 : Nat) (l1_2 : List ByteArray) (r : Bool) (w : World) (hr0_2 : Kd.C Kd.string w A0_2 l0_2.length l0_2) (hc0_2 : l0_2.length ≤ c0_2) (hr1_2 : Kd.C Kd.string w A1_2 l1_2.length l1_2) (hc1_2 : l1_2.length ≤ c1_2) (h : batch_Same.f k a0_0 a0_1 l0_2 a1_0 a1_1 l1_2 = some r) :
  Calls Try.prog 46 #[.agg #[.int .i64 a0_0, .int .i64 a0_1, .slice A0_2 l0_2.length c0_2], .agg #[.int .i64 a1_0, .int .i64 a1_1, .slice A1_2 l1_2.length c1_2]] w fun e w' => e = .returned (.bool r) ∧ Below w.heap.size w w' := by
 have hu42 := Try.underlying42
 have HR0_2 := zM hr0_2
 have HC0_2 := zM hc0_2
 clear hr0_2 hc0_2
 have HR1_2 := zM hr1_2
 have HC1_2 := zM hc1_2
 clear hr1_2 hc1_2
 have HB := zM (Below.refl w.heap.size w)
 have H : (if a0_0 = a1_0 then (if a0_1 = a1_1 then ((equalS.f k l0_2 l1_2).bind fun t105 => (some t105)) else (some false)) else (some false)) = some r := h
 clear h
 by_cases c3 : a0_0 = a1_0
 ·rw [if_pos c3] at H
  have c3b0 : (a0_0 == a1_0) = true := beq_iff_eq.mpr c3
  have c3b1 : (a0_0 != a1_0) = false := bne_eq_false_iff_eq.mpr c3
  clear c3
  by_cases c4 : a0_1 = a1_1
  ·rw [if_pos c4] at H
   have c4b0 : (a0_1 == a1_1) = true := beq_iff_eq.mpr c4
   have c4b1 : (a0_1 != a1_1) = false := bne_eq_false_iff_eq.mpr c4
   clear c4
   replace H := Option.bind_eq_some_iff.mp H
   obtain ⟨t105, A50, H⟩ := H
   replace H : (some t105) = some r := H
   have A5 := zM A50
   clear A50
   obtain rfl := Option.some.inj H
   go_enter Try.func46, Try.ntmps46
   go_wp2_with (first | ((with_reducible refine gate_dst (N := 2) rfl ?_); refine box_event ?hg (N := 2) ?hd (cs := #[.int .i64 a0_0, .int .i64 a0_1, .slice A0_2 l0_2.length c0_2]) (t := 42) ?hr ?_; (case hd => rfl); (case hg => rfl); (case hr => go_simp); intro gb103 hg w6 hbox hb; have n0_ := zM (zp HB.out hb); have n1_ := zM (hbox); have n2_ := zM ((by rw [hg]; exact (zs HB.out) : w.heap.size ≤ gb103)); have n3_ := zM ((by rw [hg]; exact (zs HB.out) : w.heap.size ≤ gb103)); clear HB; have HB := n0_; have BK103 := n1_; have GW103 := n2_; have GE103 := n3_; clear n0_ n1_ n2_ n3_; clear hb hbox hg) | ((with_reducible refine gate_dst (N := 3) rfl ?_); refine box_event ?hg (N := 3) ?hd (cs := #[.int .i64 a1_0, .int .i64 a1_1, .slice A1_2 l1_2.length c1_2]) (t := 42) ?hr ?_; (case hd => rfl); (case hg => rfl); (case hr => go_simp); intro gb104 hg w7 hbox hb; have n0_ := zM (zb (g := gb103) (o := .cells #[.int .i64 a0_0, .int .i64 a0_1, .slice A0_2 l0_2.length c0_2] 42 (0, 0)) (by exact BK103.out) hb); have n1_ := zM (zp HB.out hb); have n2_ := zM (hbox); have n3_ := zM ((by rw [hg]; exact (zs HB.out) : w.heap.size ≤ gb104)); have n4_ := zM ((by rw [hg]; exact (zs HB.out) : w.heap.size ≤ gb104)); have n5_ := zM ((by rw [hg]; exact zt (blk_lt (g := gb103) (o := .cells #[.int .i64 a0_0, .int .i64 a0_1, .slice A0_2 l0_2.length c0_2] 42 (0, 0)) (by exact BK103.out)) : gb103 ≠ gb104)); have n6_ := zM ((by rw [hg]; exact Nat.ne_of_gt (blk_lt (g := gb103) (o := .cells #[.int .i64 a0_0, .int .i64 a0_1, .slice A0_2 l0_2.length c0_2] 42 (0, 0)) (by exact BK103.out)) : gb104 ≠ gb103)); clear BK103; clear HB; have BK103 := n0_; have HB := n1_; have BK104 := n2_; have GW104 := n3_; have GE104 := n4_; have NB103_104 := n5_; have NB104_103 := n6_; clear n0_ n1_ n2_ n3_ n4_ n5_ n6_; clear hb hbox hg; have hnb8 := NB103_104.out; have hnc8 := NB104_103.out; have hcz9_0 : w7.cell? ⟨gb103, 0, none⟩ = some (.int .i64 a0_0) := (zc BK103.out 0).trans rfl; have hcz9_1 : w7.cell? ⟨gb103, 1, none⟩ = some (.int .i64 a0_1) := (zc BK103.out 1).trans rfl; have hcz9_2 : w7.cell? ⟨gb103, 2, none⟩ = some (.slice A0_2 l0_2.length c0_2) := (zc BK103.out 2).trans rfl; have hfz9_0 := zf BK103.out 0; have hfz9_1 := zf BK103.out 1; have hfz9_2 := zf BK103.out 2; have hcz10_0 : w7.cell? ⟨gb104, 0, none⟩ = some (.int .i64 a1_0) := (zc BK104.out 0).trans rfl; have hcz10_1 : w7.cell? ⟨gb104, 1, none⟩ = some (.int .i64 a1_1) := (zc BK104.out 1).trans rfl; have hcz10_2 : w7.cell? ⟨gb104, 2, none⟩ = some (.slice A1_2 l1_2.length c1_2) := (zc BK104.out 2).trans rfl; have hfz10_0 := zf BK104.out 0; have hfz10_1 := zf BK104.out 1; have hfz10_2 := zf BK104.out 2) | (go_at_call 44; (with_reducible refine (equalS.calls k _ _ l0_2 _ _ l1_2 t105 _ ?side1 ?side2 ?side3 ?side4 A5.out).mono ?_); (case side1 => exact (zcb HR0_2.out HB.out)); (case side2 => exact HC0_2.out); (case side3 => exact (zcb HR1_2.out HB.out)); (case side4 => exact HC1_2.out); rintro e w' ⟨rfl, ⟨nd, rfl⟩⟩))
   go_ret
   exact ⟨rfl, by repeat (first | (with_reducible first | exact HB.out | apply zL | apply zN | apply zD | refine zJ ?_ GE103.out | refine zJ ?_ GE104.out) | exact HB.out)⟩
  ·rw [if_neg c4] at H
   have c4b0 : (a0_1 == a1_1) = false := beq_eq_false_iff_ne.mpr c4
   have c4b1 : (a0_1 != a1_1) = true := bne_iff_ne.mpr c4
   obtain rfl := Option.some.inj H
   go_enter Try.func46, Try.ntmps46
   go_wp2_with (first | ((with_reducible refine gate_dst (N := 2) rfl ?_); refine box_event ?hg (N := 2) ?hd (cs := #[.int .i64 a0_0, .int .i64 a0_1, .slice A0_2 l0_2.length c0_2]) (t := 42) ?hr ?_; (case hd => rfl); (case hg => rfl); (case hr => go_simp); intro gb103 hg w11 hbox hb; have n0_ := zM (zp HB.out hb); have n1_ := zM (hbox); have n2_ := zM ((by rw [hg]; exact (zs HB.out) : w.heap.size ≤ gb103)); have n3_ := zM ((by rw [hg]; exact (zs HB.out) : w.heap.size ≤ gb103)); clear HB; have HB := n0_; have BK103 := n1_; have GW103 := n2_; have GE103 := n3_; clear n0_ n1_ n2_ n3_; clear hb hbox hg) | ((with_reducible refine gate_dst (N := 3) rfl ?_); refine box_event ?hg (N := 3) ?hd (cs := #[.int .i64 a1_0, .int .i64 a1_1, .slice A1_2 l1_2.length c1_2]) (t := 42) ?hr ?_; (case hd => rfl); (case hg => rfl); (case hr => go_simp); intro gb104 hg w12 hbox hb; have n0_ := zM (zb (g := gb103) (o := .cells #[.int .i64 a0_0, .int .i64 a0_1, .slice A0_2 l0_2.length c0_2] 42 (0, 0)) (by exact BK103.out) hb); have n1_ := zM (zp HB.out hb); have n2_ := zM (hbox); have n3_ := zM ((by rw [hg]; exact (zs HB.out) : w.heap.size ≤ gb104)); have n4_ := zM ((by rw [hg]; exact (zs HB.out) : w.heap.size ≤ gb104)); have n5_ := zM ((by rw [hg]; exact zt (blk_lt (g := gb103) (o := .cells #[.int .i64 a0_0, .int .i64 a0_1, .slice A0_2 l0_2.length c0_2] 42 (0, 0)) (by exact BK103.out)) : gb103 ≠ gb104)); have n6_ := zM ((by rw [hg]; exact Nat.ne_of_gt (blk_lt (g := gb103) (o := .cells #[.int .i64 a0_0, .int .i64 a0_1, .slice A0_2 l0_2.length c0_2] 42 (0, 0)) (by exact BK103.out)) : gb104 ≠ gb103)); clear BK103; clear HB; have BK103 := n0_; have HB := n1_; have BK104 := n2_; have GW104 := n3_; have GE104 := n4_; have NB103_104 := n5_; have NB104_103 := n6_; clear n0_ n1_ n2_ n3_ n4_ n5_ n6_; clear hb hbox hg; have hnb13 := NB103_104.out; have hnc13 := NB104_103.out; have hcz14_0 : w12.cell? ⟨gb103, 0, none⟩ = some (.int .i64 a0_0) := (zc BK103.out 0).trans rfl; have hcz14_1 : w12.cell? ⟨gb103, 1, none⟩ = some (.int .i64 a0_1) := (zc BK103.out 1).trans rfl; have hcz14_2 : w12.cell? ⟨gb103, 2, none⟩ = some (.slice A0_2 l0_2.length c0_2) := (zc BK103.out 2).trans rfl; have hfz14_0 := zf BK103.out 0; have hfz14_1 := zf BK103.out 1; have hfz14_2 := zf BK103.out 2; have hcz15_0 : w12.cell? ⟨gb104, 0, none⟩ = some (.int .i64 a1_0) := (zc BK104.out 0).trans rfl; have hcz15_1 : w12.cell? ⟨gb104, 1, none⟩ = some (.int .i64 a1_1) := (zc BK104.out 1).trans rfl; have hcz15_2 : w12.cell? ⟨gb104, 2, none⟩ = some (.slice A1_2 l1_2.length c1_2) := (zc BK104.out 2).trans rfl; have hfz15_0 := zf BK104.out 0; have hfz15_1 := zf BK104.out 1; have hfz15_2 := zf BK104.out 2))
   go_ret
   exact ⟨rfl, by repeat (first | (with_reducible first | exact HB.out | apply zL | apply zN | apply zD | refine zJ ?_ GE103.out | refine zJ ?_ GE104.out) | exact HB.out)⟩
 ·rw [if_neg c3] at H
  have c3b0 : (a0_0 == a1_0) = false := beq_eq_false_iff_ne.mpr c3
  have c3b1 : (a0_0 != a1_0) = true := bne_iff_ne.mpr c3
  obtain rfl := Option.some.inj H
  go_enter Try.func46, Try.ntmps46
  go_wp2_with (first | ((with_reducible refine gate_dst (N := 2) rfl ?_); refine box_event ?hg (N := 2) ?hd (cs := #[.int .i64 a0_0, .int .i64 a0_1, .slice A0_2 l0_2.length c0_2]) (t := 42) ?hr ?_; (case hd => rfl); (case hg => rfl); (case hr => go_simp); intro gb103 hg w16 hbox hb; have n0_ := zM (zp HB.out hb); have n1_ := zM (hbox); have n2_ := zM ((by rw [hg]; exact (zs HB.out) : w.heap.size ≤ gb103)); have n3_ := zM ((by rw [hg]; exact (zs HB.out) : w.heap.size ≤ gb103)); clear HB; have HB := n0_; have BK103 := n1_; have GW103 := n2_; have GE103 := n3_; clear n0_ n1_ n2_ n3_; clear hb hbox hg) | ((with_reducible refine gate_dst (N := 3) rfl ?_); refine box_event ?hg (N := 3) ?hd (cs := #[.int .i64 a1_0, .int .i64 a1_1, .slice A1_2 l1_2.length c1_2]) (t := 42) ?hr ?_; (case hd => rfl); (case hg => rfl); (case hr => go_simp); intro gb104 hg w17 hbox hb; have n0_ := zM (zb (g := gb103) (o := .cells #[.int .i64 a0_0, .int .i64 a0_1, .slice A0_2 l0_2.length c0_2] 42 (0, 0)) (by exact BK103.out) hb); have n1_ := zM (zp HB.out hb); have n2_ := zM (hbox); have n3_ := zM ((by rw [hg]; exact (zs HB.out) : w.heap.size ≤ gb104)); have n4_ := zM ((by rw [hg]; exact (zs HB.out) : w.heap.size ≤ gb104)); have n5_ := zM ((by rw [hg]; exact zt (blk_lt (g := gb103) (o := .cells #[.int .i64 a0_0, .int .i64 a0_1, .slice A0_2 l0_2.length c0_2] 42 (0, 0)) (by exact BK103.out)) : gb103 ≠ gb104)); have n6_ := zM ((by rw [hg]; exact Nat.ne_of_gt (blk_lt (g := gb103) (o := .cells #[.int .i64 a0_0, .int .i64 a0_1, .slice A0_2 l0_2.length c0_2] 42 (0, 0)) (by exact BK103.out)) : gb104 ≠ gb103)); clear BK103; clear HB; have BK103 := n0_; have HB := n1_; have BK104 := n2_; have GW104 := n3_; have GE104 := n4_; have NB103_104 := n5_; have NB104_103 := n6_; clear n0_ n1_ n2_ n3_ n4_ n5_ n6_; clear hb hbox hg; have hnb18 := NB103_104.out; have hnc18 := NB104_103.out; have hcz19_0 : w17.cell? ⟨gb103, 0, none⟩ = some (.int .i64 a0_0) := (zc BK103.out 0).trans rfl; have hcz19_1 : w17.cell? ⟨gb103, 1, none⟩ = some (.int .i64 a0_1) := (zc BK103.out 1).trans rfl; have hcz19_2 : w17.cell? ⟨gb103, 2, none⟩ = some (.slice A0_2 l0_2.length c0_2) := (zc BK103.out 2).trans rfl; have hfz19_0 := zf BK103.out 0; have hfz19_1 := zf BK103.out 1; have hfz19_2 := zf BK103.out 2; have hcz20_0 : w17.cell? ⟨gb104, 0, none⟩ = some (.int .i64 a1_0) := (zc BK104.out 0).trans rfl; have hcz20_1 : w17.cell? ⟨gb104, 1, none⟩ = some (.int .i64 a1_1) := (zc BK104.out 1).trans rfl; have hcz20_2 : w17.cell? ⟨gb104, 2, none⟩ = some (.slice A1_2 l1_2.length c1_2) := (zc BK104.out 2).trans rfl; have hfz20_0 := zf BK104.out 0; have hfz20_1 := zf BK104.out 1; have hfz20_2 := zf BK104.out 2))
  go_ret
  exact ⟨rfl, by repeat (first | (with_reducible first | exact HB.out | apply zL | apply zN | apply zD | refine zJ ?_ GE103.out | refine zJ ?_ GE104.out) | exact HB.out)⟩

/-! ### equalB: function 45 -/
def equalB.l0 : Nat → List (S42) → List (S42) → Int → Int → Option (Bool)
 | 0, _, _, _, _ => none
 | k + 1, x1, x15, x16, x17 => if x17 < x16 then (if 0 ≤ x17 then (if x17 < (x15.length : Int) then (if x17 < (x1.length : Int) then ((batch_Same.f k ((rd_T42 x15 x17).f0) ((rd_T42 x15 x17).f1) ((rd_T42 x15 x17).f2) ((rd_T42 x1 x17).f0) ((rd_T42 x1 x17).f1) ((rd_T42 x1 x17).f2)).bind fun t110 => (if t110 = true then (equalB.l0 k x1 x15 x16 (wrap64 (x17 + 1))) else (some false))) else (none)) else (none)) else (none)) else (some true)
def equalB.f (k : Nat) (l0 : List (S42)) (l1 : List (S42)) : Option (Bool) := if (l0.length : Int) = (l1.length : Int) then (equalB.l0 k l1 l0 (l0.length : Int) 0) else (some false)
theorem equalB.mono_l : ∀ k, (∀ y0 y1 y2 y3, LeO (equalB.l0 k y0 y1 y2 y3) (equalB.l0 (k + 1) y0 y1 y2 y3))
 | 0 => fun _ _ _ _ r h => by simp [equalB.l0] at h
 | k + 1 => by
  have ih0 := equalB.mono_l k
  ·intro y0 y1 y2 y3
   unfold equalB.l0
   repeat' first
   | (with_reducible exact ih0 _ _ _ _)
   | (with_reducible exact batch_Same.mono _ _ _ _ _ _ _)
   | (with_reducible exact LeO.refl _)
   | (with_reducible exact LeO.none _)
   | (with_reducible refine LeO.ite ?_ ?_)
   | (with_reducible refine LeO.bind ?_ (fun _ => ?_))
   | exact ih0 _ _ _ _
   | exact batch_Same.mono _ _ _ _ _ _ _
   | exact LeO.none _
   | refine LeO.ite ?_ ?_
   | refine LeO.bind ?_ (fun _ => ?_)
theorem equalB.mono : ∀ a0 a1 k, LeO (equalB.f k a0 a1) (equalB.f (k + 1) a0 a1) := by
 intro a0 a1 k
 have ih0 := equalB.mono_l k
 unfold equalB.f
 repeat' first
   | (with_reducible exact ih0 _ _ _ _)
   | (with_reducible exact batch_Same.mono _ _ _ _ _ _ _)
   | (with_reducible exact LeO.refl _)
   | (with_reducible exact LeO.none _)
   | (with_reducible refine LeO.ite ?_ ?_)
   | (with_reducible refine LeO.bind ?_ (fun _ => ?_))
   | exact ih0 _ _ _ _
   | exact batch_Same.mono _ _ _ _ _ _ _
   | exact LeO.none _
   | refine LeO.ite ?_ ?_
   | refine LeO.bind ?_ (fun _ => ?_)
set_option maxHeartbeats 8000000 in
set_option maxRecDepth 100000 in
theorem equalB.calls (k : Nat) (A0 : Option Addr) (c0 : Nat) (l0 : List (S42)) (A1 : Option Addr) (c1 : Nat) (l1 : List (S42)) (r : Bool) (w : World) (hr0 : Kd.C k42 w A0 l0.length l0) (hc0 : l0.length ≤ c0) (hr1 : Kd.C k42 w A1 l1.length l1) (hc1 : l1.length ≤ c1) (h : equalB.f k l0 l1 = some r) :
  Calls Try.prog 45 #[.slice A0 l0.length c0, .slice A1 l1.length c1, .func (.func 46) #[] #[]] w fun e w' => e = .returned (.bool r) ∧ Below w.heap.size w w' := by
 have hu42 := Try.underlying42
 have HR0 := zM hr0
 have HC0 := zM hc0
 clear hr0 hc0
 have HR1 := zM hr1
 have HC1 := zM hc1
 clear hr1 hc1
 have HB := zM (Below.refl w.heap.size w)
 have H : (if (l0.length : Int) = (l1.length : Int) then (equalB.l0 k l1 l0 (l0.length : Int) 0) else (some false)) = some r := h
 clear h
 by_cases c3 : (l0.length : Int) = (l1.length : Int)
 ·rw [if_pos c3] at H
  have c3b0 : ((l0.length : Int) == (l1.length : Int)) = true := beq_iff_eq.mpr c3
  have c3b1 : ((l0.length : Int) != (l1.length : Int)) = false := bne_eq_false_iff_eq.mpr c3
  have c3b2 : (l0.length == l1.length) = true := by first | simpa using c3 | (simp at c3 ⊢; omega)
  clear c3
  have H' := zM H
  clear H
  go_enter Try.func45, Try.ntmps45
  go_wp2
  go_loopg [17] k (fun kq v17 w' => ∃ (x17_1 : Int), v17 = .int .i64 x17_1 ∧ Aside0 (equalB.l0 kq l1 l0 (l0.length : Int) x17_1 = some r) ∧ Aside0 (kq ≤ k) ∧ Aside0 (Below w.heap.size w w'))
  case atStart => exact ⟨(0), rfl, H', ⟨Nat.le_refl _⟩, ⟨by repeat (first | (with_reducible first | exact HB.out | apply zL | apply zN | apply zD) | exact HB.out)⟩⟩
  case round =>
   clear H'
   obtain ⟨x17_1, rfl, HA, HK1, HB⟩ := hrel
   cases gk with
   | zero => exact absurd HA.out (by simp [equalB.l0])
   | succ k1 =>
    have H := HA.out
    clear HA
    simp only [equalB.l0] at H
    by_cases c4 : x17_1 < (l0.length : Int)
    ·rw [if_pos c4] at H
     have c4b0 : decide (x17_1 < (l0.length : Int)) = true := decide_eq_true c4
     clear c4
     by_cases c5 : 0 ≤ x17_1
     ·rw [if_pos c5] at H
      have c5b0 : decide (0 ≤ x17_1) = true := decide_eq_true c5
      clear c5
      by_cases c6 : x17_1 < (l0.length : Int)
      ·rw [if_pos c6] at H
       have c6b0 : decide (x17_1 < (l0.length : Int)) = true := decide_eq_true c6
       clear c6
       by_cases c7 : x17_1 < (l1.length : Int)
       ·rw [if_pos c7] at H
        have c7b0 : decide (x17_1 < (l1.length : Int)) = true := decide_eq_true c7
        clear c7
        replace H := Option.bind_eq_some_iff.mp H
        obtain ⟨t110, A80, H⟩ := H
        replace H : (if t110 = true then (equalB.l0 k1 l1 l0 (l0.length : Int) (wrap64 (x17_1 + 1))) else (some false)) = some r := H
        have A8 := zM A80
        clear A80
        by_cases c9 : t110 = true
        ·subst c9
         have H1 : (equalB.l0 k1 l1 l0 (l0.length : Int) (wrap64 (x17_1 + 1))) = some r := by rw [if_pos rfl] at H; exact H
         clear H
         have H := H1
         clear H1
         have H' := zM H
         clear H
         have p106 : 0 ≤ (x17_1 : Int) := zo (by assumption)
         have q106 : x17_1 < (l0.length : Int) := zo (by assumption)
         obtain ⟨ad106, A106_2, c106_2, e106, hx106_0, hx106_1, hx106_2, hl106_2, hi106_2⟩ := at_T42 HR0.out x17_1 p106 q106
         cases e106
         replace hx106_0 := (HB.out.cell (zW w _ hx106_0)).trans hx106_0
         replace hx106_1 := (HB.out.cell (zW w _ hx106_1)).trans hx106_1
         replace hx106_2 := (HB.out.cell (zW w _ hx106_2)).trans hx106_2
         have HR106_2 := zM hi106_2
         have HC106_2 := zM hl106_2
         clear hi106_2 hl106_2
         replace p106 := eq_true p106
         replace q106 := eq_true q106
         go_wp2_with (first | ((with_reducible refine gate_dst (N := 8) rfl ?_); refine box_event ?hg (N := 8) ?hd (cs := #[.int .i64 0, .int .i64 0, .slice none 0 0]) (t := 42) ?hr ?_; (case hd => rfl); (case hg => rfl); (case hr => first | (go_simp; done) | (go_simp; rfl)); intro gb107 hg w10 hbox hb; have n0_ := zM (zp (by repeat (first | (with_reducible first | exact HB.out | apply zL | apply zN | apply zD) | exact HB.out)) hb); have n1_ := zM (hbox); have n2_ := zM ((by rw [hg]; exact (zs (by repeat (first | (with_reducible first | exact HB.out | apply zL | apply zN | apply zD) | exact HB.out))) : w.heap.size ≤ gb107)); have n3_ := zM ((by rw [hg]; exact (zs (by repeat (first | (with_reducible first | exact HB.out | apply zL | apply zN | apply zD) | exact HB.out))) : w.heap.size ≤ gb107)); clear HB; have HB := n0_; have BK107 := n1_; have GW107 := n2_; have GE107 := n3_; clear n0_ n1_ n2_ n3_; clear hb hbox hg; have hcz11_0 : w10.cell? ⟨gb107, 0, none⟩ = some (.int .i64 0) := (zc BK107.out 0).trans rfl; have hcz11_1 : w10.cell? ⟨gb107, 1, none⟩ = some (.int .i64 0) := (zc BK107.out 1).trans rfl; have hcz11_2 : w10.cell? ⟨gb107, 2, none⟩ = some (.slice none 0 0) := (zc BK107.out 2).trans rfl; have hfz11_0 := zf BK107.out 0; have hfz11_1 := zf BK107.out 1; have hfz11_2 := zf BK107.out 2; have p108 : 0 ≤ (x17_1 : Int) := zo (by first | (with_reducible assumption) | assumption); have q108 : x17_1 < (l1.length : Int) := zo (by first | (with_reducible assumption) | assumption); obtain ⟨ad108, A108_2, c108_2, e108, hx108_0, hx108_1, hx108_2, hl108_2, hi108_2⟩ := at_T42 HR1.out x17_1 p108 q108; cases e108; have hn108_0 : ad108.block ≠ gb107 := zt (zl (by have := zW _ _ hx108_0; first | rwa [add_block] at this | exact this) GW107.out); have hn108_1 : ad108.block ≠ gb107 := zt (zl (by have := zW _ _ hx108_0; first | rwa [add_block] at this | exact this) GW107.out); have hn108_2 : ad108.block ≠ gb107 := zt (zl (by have := zW _ _ hx108_0; first | rwa [add_block] at this | exact this) GW107.out); replace hx108_0 := (HB.out.cell (zW w _ hx108_0)).trans hx108_0; replace hx108_1 := (HB.out.cell (zW w _ hx108_1)).trans hx108_1; replace hx108_2 := (HB.out.cell (zW w _ hx108_2)).trans hx108_2; have HR108_2 := zM hi108_2; have HC108_2 := zM hl108_2; clear hi108_2 hl108_2; replace hx108_0 := (cell_far (p := ⟨gb107, 0, none⟩) (by first | (rw [add_block]; exact hn108_0) | (show (Addr.add _ _).block ≠ _; rw [add_block]; exact hn108_0) | exact hn108_0) (.int .i64 ((rd_T42 l0 x17_1).f0))).trans hx108_0; replace hx108_1 := (cell_far (p := ⟨gb107, 0, none⟩) (by first | (rw [add_block]; exact hn108_0) | (show (Addr.add _ _).block ≠ _; rw [add_block]; exact hn108_0) | exact hn108_0) (.int .i64 ((rd_T42 l0 x17_1).f0))).trans hx108_1; replace hx108_2 := (cell_far (p := ⟨gb107, 0, none⟩) (by first | (rw [add_block]; exact hn108_0) | (show (Addr.add _ _).block ≠ _; rw [add_block]; exact hn108_0) | exact hn108_0) (.int .i64 ((rd_T42 l0 x17_1).f0))).trans hx108_2; replace hx108_0 := (cell_far (p := ⟨gb107, 1, none⟩) (by first | (rw [add_block]; exact hn108_1) | (show (Addr.add _ _).block ≠ _; rw [add_block]; exact hn108_1) | exact hn108_1) (.int .i64 ((rd_T42 l0 x17_1).f1))).trans hx108_0; replace hx108_1 := (cell_far (p := ⟨gb107, 1, none⟩) (by first | (rw [add_block]; exact hn108_1) | (show (Addr.add _ _).block ≠ _; rw [add_block]; exact hn108_1) | exact hn108_1) (.int .i64 ((rd_T42 l0 x17_1).f1))).trans hx108_1; replace hx108_2 := (cell_far (p := ⟨gb107, 1, none⟩) (by first | (rw [add_block]; exact hn108_1) | (show (Addr.add _ _).block ≠ _; rw [add_block]; exact hn108_1) | exact hn108_1) (.int .i64 ((rd_T42 l0 x17_1).f1))).trans hx108_2; replace hx108_0 := (cell_far (p := ⟨gb107, 2, none⟩) (by first | (rw [add_block]; exact hn108_2) | (show (Addr.add _ _).block ≠ _; rw [add_block]; exact hn108_2) | exact hn108_2) (.slice A106_2 ((rd_T42 l0 x17_1).f2).length c106_2)).trans hx108_0; replace hx108_1 := (cell_far (p := ⟨gb107, 2, none⟩) (by first | (rw [add_block]; exact hn108_2) | (show (Addr.add _ _).block ≠ _; rw [add_block]; exact hn108_2) | exact hn108_2) (.slice A106_2 ((rd_T42 l0 x17_1).f2).length c106_2)).trans hx108_1; replace hx108_2 := (cell_far (p := ⟨gb107, 2, none⟩) (by first | (rw [add_block]; exact hn108_2) | (show (Addr.add _ _).block ≠ _; rw [add_block]; exact hn108_2) | exact hn108_2) (.slice A106_2 ((rd_T42 l0 x17_1).f2).length c106_2)).trans hx108_2; clear hn108_0; clear hn108_1; clear hn108_2; replace p108 := eq_true p108; replace q108 := eq_true q108) | ((with_reducible refine gate_dst (N := 9) rfl ?_); refine box_event ?hg (N := 9) ?hd (cs := #[.int .i64 0, .int .i64 0, .slice none 0 0]) (t := 42) ?hr ?_; (case hd => rfl); (case hg => rfl); (case hr => first | (go_simp; done) | (go_simp; rfl)); intro gb109 hg w12 hbox hb; have n0_ := zM (zb (g := gb107) (o := .cells #[.int .i64 ((rd_T42 l0 x17_1).f0), .int .i64 ((rd_T42 l0 x17_1).f1), .slice A106_2 ((rd_T42 l0 x17_1).f2).length c106_2] 42 (0, 0)) (by (with_reducible repeat (first | refine zn ?_ _ | refine zd ?_ | refine za ?_ _)); refine zP (cs := #[.int .i64 ((rd_T42 l0 x17_1).f0), .int .i64 ((rd_T42 l0 x17_1).f1), .slice none 0 0]) ?_ 2 _ rfl; (with_reducible repeat (first | refine zn ?_ _ | refine zd ?_ | refine za ?_ _)); refine zP (cs := #[.int .i64 ((rd_T42 l0 x17_1).f0), .int .i64 0, .slice none 0 0]) ?_ 1 _ rfl; (with_reducible repeat (first | refine zn ?_ _ | refine zd ?_ | refine za ?_ _)); refine zP (cs := #[.int .i64 0, .int .i64 0, .slice none 0 0]) ?_ 0 _ rfl; (with_reducible repeat (first | refine zn ?_ _ | refine zd ?_ | refine za ?_ _)); exact BK107.out) hb); have n1_ := zM (zp (by repeat (first | (with_reducible first | exact HB.out | apply zL | apply zN | apply zD | refine zJ ?_ GE107.out) | exact HB.out)) hb); have n2_ := zM (hbox); have n3_ := zM ((by rw [hg]; exact (zs (by repeat (first | (with_reducible first | exact HB.out | apply zL | apply zN | apply zD | refine zJ ?_ GE107.out) | exact HB.out))) : w.heap.size ≤ gb109)); have n4_ := zM ((by rw [hg]; exact (zs (by repeat (first | (with_reducible first | exact HB.out | apply zL | apply zN | apply zD | refine zJ ?_ GE107.out) | exact HB.out))) : w.heap.size ≤ gb109)); have n5_ := zM ((by rw [hg]; exact zt (blk_lt (g := gb107) (o := .cells #[.int .i64 ((rd_T42 l0 x17_1).f0), .int .i64 ((rd_T42 l0 x17_1).f1), .slice A106_2 ((rd_T42 l0 x17_1).f2).length c106_2] 42 (0, 0)) (by (with_reducible repeat (first | refine zn ?_ _ | refine zd ?_ | refine za ?_ _)); refine zP (cs := #[.int .i64 ((rd_T42 l0 x17_1).f0), .int .i64 ((rd_T42 l0 x17_1).f1), .slice none 0 0]) ?_ 2 _ rfl; (with_reducible repeat (first | refine zn ?_ _ | refine zd ?_ | refine za ?_ _)); refine zP (cs := #[.int .i64 ((rd_T42 l0 x17_1).f0), .int .i64 0, .slice none 0 0]) ?_ 1 _ rfl; (with_reducible repeat (first | refine zn ?_ _ | refine zd ?_ | refine za ?_ _)); refine zP (cs := #[.int .i64 0, .int .i64 0, .slice none 0 0]) ?_ 0 _ rfl; (with_reducible repeat (first | refine zn ?_ _ | refine zd ?_ | refine za ?_ _)); exact BK107.out)) : gb107 ≠ gb109)); have n6_ := zM ((by rw [hg]; exact Nat.ne_of_gt (blk_lt (g := gb107) (o := .cells #[.int .i64 ((rd_T42 l0 x17_1).f0), .int .i64 ((rd_T42 l0 x17_1).f1), .slice A106_2 ((rd_T42 l0 x17_1).f2).length c106_2] 42 (0, 0)) (by (with_reducible repeat (first | refine zn ?_ _ | refine zd ?_ | refine za ?_ _)); refine zP (cs := #[.int .i64 ((rd_T42 l0 x17_1).f0), .int .i64 ((rd_T42 l0 x17_1).f1), .slice none 0 0]) ?_ 2 _ rfl; (with_reducible repeat (first | refine zn ?_ _ | refine zd ?_ | refine za ?_ _)); refine zP (cs := #[.int .i64 ((rd_T42 l0 x17_1).f0), .int .i64 0, .slice none 0 0]) ?_ 1 _ rfl; (with_reducible repeat (first | refine zn ?_ _ | refine zd ?_ | refine za ?_ _)); refine zP (cs := #[.int .i64 0, .int .i64 0, .slice none 0 0]) ?_ 0 _ rfl; (with_reducible repeat (first | refine zn ?_ _ | refine zd ?_ | refine za ?_ _)); exact BK107.out)) : gb109 ≠ gb107)); clear BK107; clear HB; have BK107 := n0_; have HB := n1_; have BK109 := n2_; have GW109 := n3_; have GE109 := n4_; have NB107_109 := n5_; have NB109_107 := n6_; clear n0_ n1_ n2_ n3_ n4_ n5_ n6_; clear hb hbox hg; have hnb13 := NB109_107.out; have hnc13 := NB107_109.out; have hcz14_0 : w12.cell? ⟨gb109, 0, none⟩ = some (.int .i64 0) := (zc BK109.out 0).trans rfl; have hcz14_1 : w12.cell? ⟨gb109, 1, none⟩ = some (.int .i64 0) := (zc BK109.out 1).trans rfl; have hcz14_2 : w12.cell? ⟨gb109, 2, none⟩ = some (.slice none 0 0) := (zc BK109.out 2).trans rfl; have hfz14_0 := zf BK109.out 0; have hfz14_1 := zf BK109.out 1; have hfz14_2 := zf BK109.out 2; have hcz15_0 : w12.cell? ⟨gb107, 0, none⟩ = some (.int .i64 ((rd_T42 l0 x17_1).f0)) := (zc BK107.out 0).trans rfl; have hcz15_1 : w12.cell? ⟨gb107, 1, none⟩ = some (.int .i64 ((rd_T42 l0 x17_1).f1)) := (zc BK107.out 1).trans rfl; have hcz15_2 : w12.cell? ⟨gb107, 2, none⟩ = some (.slice A106_2 ((rd_T42 l0 x17_1).f2).length c106_2) := (zc BK107.out 2).trans rfl; have hfz15_0 := zf BK107.out 0; have hfz15_1 := zf BK107.out 1; have hfz15_2 := zf BK107.out 2))
         (with_reducible refine (batch_Same.calls k1 ((rd_T42 l0 x17_1).f0) ((rd_T42 l0 x17_1).f1) _ _ ((rd_T42 l0 x17_1).f2) ((rd_T42 l1 x17_1).f0) ((rd_T42 l1 x17_1).f1) _ _ ((rd_T42 l1 x17_1).f2) true _ ?side1 ?side2 ?side3 ?side4 A8.out).mono ?_); (case side1 => exact zcb HR106_2.out (by repeat (first | (with_reducible first | exact HB.out | apply zL | apply zN | apply zD | refine zJ ?_ GE107.out | refine zJ ?_ GE109.out) | exact HB.out))); (case side2 => exact HC106_2.out); (case side3 => exact zcb HR108_2.out (by repeat (first | (with_reducible first | exact HB.out | apply zL | apply zN | apply zD | refine zJ ?_ GE107.out | refine zJ ?_ GE109.out) | exact HB.out))); (case side4 => exact HC108_2.out); rintro e w16 ⟨rfl, hb⟩; have n0_ := zM (zb (g := gb107) (o := .cells #[.int .i64 ((rd_T42 l0 x17_1).f0), .int .i64 ((rd_T42 l0 x17_1).f1), .slice A106_2 ((rd_T42 l0 x17_1).f2).length c106_2] 42 (0, 0)) (by (with_reducible repeat (first | refine zn ?_ _ | refine zd ?_ | refine za ?_ _)); refine zF ?_ NB107_109.out _; (with_reducible repeat (first | refine zn ?_ _ | refine zd ?_ | refine za ?_ _)); refine zF ?_ NB107_109.out _; (with_reducible repeat (first | refine zn ?_ _ | refine zd ?_ | refine za ?_ _)); refine zF ?_ NB107_109.out _; (with_reducible repeat (first | refine zn ?_ _ | refine zd ?_ | refine za ?_ _)); exact BK107.out) hb); have n1_ := zM (zb (g := gb109) (o := .cells #[.int .i64 ((rd_T42 l1 x17_1).f0), .int .i64 ((rd_T42 l1 x17_1).f1), .slice A108_2 ((rd_T42 l1 x17_1).f2).length c108_2] 42 (0, 0)) (by (with_reducible repeat (first | refine zn ?_ _ | refine zd ?_ | refine za ?_ _)); refine zP (cs := #[.int .i64 ((rd_T42 l1 x17_1).f0), .int .i64 ((rd_T42 l1 x17_1).f1), .slice none 0 0]) ?_ 2 _ rfl; (with_reducible repeat (first | refine zn ?_ _ | refine zd ?_ | refine za ?_ _)); refine zP (cs := #[.int .i64 ((rd_T42 l1 x17_1).f0), .int .i64 0, .slice none 0 0]) ?_ 1 _ rfl; (with_reducible repeat (first | refine zn ?_ _ | refine zd ?_ | refine za ?_ _)); refine zP (cs := #[.int .i64 0, .int .i64 0, .slice none 0 0]) ?_ 0 _ rfl; (with_reducible repeat (first | refine zn ?_ _ | refine zd ?_ | refine za ?_ _)); exact BK109.out) hb); have n2_ := zM (zp (by repeat (first | (with_reducible first | exact HB.out | apply zL | apply zN | apply zD | refine zJ ?_ GE107.out | refine zJ ?_ GE109.out) | exact HB.out)) hb); clear BK107; clear BK109; clear HB; have BK107 := n0_; have BK109 := n1_; have HB := n2_; clear n0_ n1_ n2_; (try clear hb); (try clear hb2); (try clear hk); (try clear hi)
         dsimp only
         go_wp2
         go_roundg k1
         case measure => have := HK1.out; omega
         case rel => exact ⟨(wrap64 (x17_1 + 1)), rfl, H', ⟨by have := HK1.out; omega⟩, ⟨by repeat (first | (with_reducible first | exact HB.out | apply zL | apply zN | apply zD | refine zJ ?_ GE107.out | refine zJ ?_ GE109.out) | exact HB.out)⟩⟩
        ·replace c9 := Bool.eq_false_iff.mpr c9
         subst c9
         have H1 : (some false) = some r := by rw [if_neg (show ¬ (false = true) by decide)] at H; exact H
         clear H
         have H := H1
         clear H1
         obtain rfl := Option.some.inj H
         have p106 : 0 ≤ (x17_1 : Int) := zo (by assumption)
         have q106 : x17_1 < (l0.length : Int) := zo (by assumption)
         obtain ⟨ad106, A106_2, c106_2, e106, hx106_0, hx106_1, hx106_2, hl106_2, hi106_2⟩ := at_T42 HR0.out x17_1 p106 q106
         cases e106
         replace hx106_0 := (HB.out.cell (zW w _ hx106_0)).trans hx106_0
         replace hx106_1 := (HB.out.cell (zW w _ hx106_1)).trans hx106_1
         replace hx106_2 := (HB.out.cell (zW w _ hx106_2)).trans hx106_2
         have HR106_2 := zM hi106_2
         have HC106_2 := zM hl106_2
         clear hi106_2 hl106_2
         replace p106 := eq_true p106
         replace q106 := eq_true q106
         go_wp2_with (first | ((with_reducible refine gate_dst (N := 8) rfl ?_); refine box_event ?hg (N := 8) ?hd (cs := #[.int .i64 0, .int .i64 0, .slice none 0 0]) (t := 42) ?hr ?_; (case hd => rfl); (case hg => rfl); (case hr => first | (go_simp; done) | (go_simp; rfl)); intro gb107 hg w17 hbox hb; have n0_ := zM (zp (by repeat (first | (with_reducible first | exact HB.out | apply zL | apply zN | apply zD) | exact HB.out)) hb); have n1_ := zM (hbox); have n2_ := zM ((by rw [hg]; exact (zs (by repeat (first | (with_reducible first | exact HB.out | apply zL | apply zN | apply zD) | exact HB.out))) : w.heap.size ≤ gb107)); have n3_ := zM ((by rw [hg]; exact (zs (by repeat (first | (with_reducible first | exact HB.out | apply zL | apply zN | apply zD) | exact HB.out))) : w.heap.size ≤ gb107)); clear HB; have HB := n0_; have BK107 := n1_; have GW107 := n2_; have GE107 := n3_; clear n0_ n1_ n2_ n3_; clear hb hbox hg; have hcz18_0 : w17.cell? ⟨gb107, 0, none⟩ = some (.int .i64 0) := (zc BK107.out 0).trans rfl; have hcz18_1 : w17.cell? ⟨gb107, 1, none⟩ = some (.int .i64 0) := (zc BK107.out 1).trans rfl; have hcz18_2 : w17.cell? ⟨gb107, 2, none⟩ = some (.slice none 0 0) := (zc BK107.out 2).trans rfl; have hfz18_0 := zf BK107.out 0; have hfz18_1 := zf BK107.out 1; have hfz18_2 := zf BK107.out 2; have p108 : 0 ≤ (x17_1 : Int) := zo (by first | (with_reducible assumption) | assumption); have q108 : x17_1 < (l1.length : Int) := zo (by first | (with_reducible assumption) | assumption); obtain ⟨ad108, A108_2, c108_2, e108, hx108_0, hx108_1, hx108_2, hl108_2, hi108_2⟩ := at_T42 HR1.out x17_1 p108 q108; cases e108; have hn108_0 : ad108.block ≠ gb107 := zt (zl (by have := zW _ _ hx108_0; first | rwa [add_block] at this | exact this) GW107.out); have hn108_1 : ad108.block ≠ gb107 := zt (zl (by have := zW _ _ hx108_0; first | rwa [add_block] at this | exact this) GW107.out); have hn108_2 : ad108.block ≠ gb107 := zt (zl (by have := zW _ _ hx108_0; first | rwa [add_block] at this | exact this) GW107.out); replace hx108_0 := (HB.out.cell (zW w _ hx108_0)).trans hx108_0; replace hx108_1 := (HB.out.cell (zW w _ hx108_1)).trans hx108_1; replace hx108_2 := (HB.out.cell (zW w _ hx108_2)).trans hx108_2; have HR108_2 := zM hi108_2; have HC108_2 := zM hl108_2; clear hi108_2 hl108_2; replace hx108_0 := (cell_far (p := ⟨gb107, 0, none⟩) (by first | (rw [add_block]; exact hn108_0) | (show (Addr.add _ _).block ≠ _; rw [add_block]; exact hn108_0) | exact hn108_0) (.int .i64 ((rd_T42 l0 x17_1).f0))).trans hx108_0; replace hx108_1 := (cell_far (p := ⟨gb107, 0, none⟩) (by first | (rw [add_block]; exact hn108_0) | (show (Addr.add _ _).block ≠ _; rw [add_block]; exact hn108_0) | exact hn108_0) (.int .i64 ((rd_T42 l0 x17_1).f0))).trans hx108_1; replace hx108_2 := (cell_far (p := ⟨gb107, 0, none⟩) (by first | (rw [add_block]; exact hn108_0) | (show (Addr.add _ _).block ≠ _; rw [add_block]; exact hn108_0) | exact hn108_0) (.int .i64 ((rd_T42 l0 x17_1).f0))).trans hx108_2; replace hx108_0 := (cell_far (p := ⟨gb107, 1, none⟩) (by first | (rw [add_block]; exact hn108_1) | (show (Addr.add _ _).block ≠ _; rw [add_block]; exact hn108_1) | exact hn108_1) (.int .i64 ((rd_T42 l0 x17_1).f1))).trans hx108_0; replace hx108_1 := (cell_far (p := ⟨gb107, 1, none⟩) (by first | (rw [add_block]; exact hn108_1) | (show (Addr.add _ _).block ≠ _; rw [add_block]; exact hn108_1) | exact hn108_1) (.int .i64 ((rd_T42 l0 x17_1).f1))).trans hx108_1; replace hx108_2 := (cell_far (p := ⟨gb107, 1, none⟩) (by first | (rw [add_block]; exact hn108_1) | (show (Addr.add _ _).block ≠ _; rw [add_block]; exact hn108_1) | exact hn108_1) (.int .i64 ((rd_T42 l0 x17_1).f1))).trans hx108_2; replace hx108_0 := (cell_far (p := ⟨gb107, 2, none⟩) (by first | (rw [add_block]; exact hn108_2) | (show (Addr.add _ _).block ≠ _; rw [add_block]; exact hn108_2) | exact hn108_2) (.slice A106_2 ((rd_T42 l0 x17_1).f2).length c106_2)).trans hx108_0; replace hx108_1 := (cell_far (p := ⟨gb107, 2, none⟩) (by first | (rw [add_block]; exact hn108_2) | (show (Addr.add _ _).block ≠ _; rw [add_block]; exact hn108_2) | exact hn108_2) (.slice A106_2 ((rd_T42 l0 x17_1).f2).length c106_2)).trans hx108_1; replace hx108_2 := (cell_far (p := ⟨gb107, 2, none⟩) (by first | (rw [add_block]; exact hn108_2) | (show (Addr.add _ _).block ≠ _; rw [add_block]; exact hn108_2) | exact hn108_2) (.slice A106_2 ((rd_T42 l0 x17_1).f2).length c106_2)).trans hx108_2; clear hn108_0; clear hn108_1; clear hn108_2; replace p108 := eq_true p108; replace q108 := eq_true q108) | ((with_reducible refine gate_dst (N := 9) rfl ?_); refine box_event ?hg (N := 9) ?hd (cs := #[.int .i64 0, .int .i64 0, .slice none 0 0]) (t := 42) ?hr ?_; (case hd => rfl); (case hg => rfl); (case hr => first | (go_simp; done) | (go_simp; rfl)); intro gb109 hg w19 hbox hb; have n0_ := zM (zb (g := gb107) (o := .cells #[.int .i64 ((rd_T42 l0 x17_1).f0), .int .i64 ((rd_T42 l0 x17_1).f1), .slice A106_2 ((rd_T42 l0 x17_1).f2).length c106_2] 42 (0, 0)) (by (with_reducible repeat (first | refine zn ?_ _ | refine zd ?_ | refine za ?_ _)); refine zP (cs := #[.int .i64 ((rd_T42 l0 x17_1).f0), .int .i64 ((rd_T42 l0 x17_1).f1), .slice none 0 0]) ?_ 2 _ rfl; (with_reducible repeat (first | refine zn ?_ _ | refine zd ?_ | refine za ?_ _)); refine zP (cs := #[.int .i64 ((rd_T42 l0 x17_1).f0), .int .i64 0, .slice none 0 0]) ?_ 1 _ rfl; (with_reducible repeat (first | refine zn ?_ _ | refine zd ?_ | refine za ?_ _)); refine zP (cs := #[.int .i64 0, .int .i64 0, .slice none 0 0]) ?_ 0 _ rfl; (with_reducible repeat (first | refine zn ?_ _ | refine zd ?_ | refine za ?_ _)); exact BK107.out) hb); have n1_ := zM (zp (by repeat (first | (with_reducible first | exact HB.out | apply zL | apply zN | apply zD | refine zJ ?_ GE107.out) | exact HB.out)) hb); have n2_ := zM (hbox); have n3_ := zM ((by rw [hg]; exact (zs (by repeat (first | (with_reducible first | exact HB.out | apply zL | apply zN | apply zD | refine zJ ?_ GE107.out) | exact HB.out))) : w.heap.size ≤ gb109)); have n4_ := zM ((by rw [hg]; exact (zs (by repeat (first | (with_reducible first | exact HB.out | apply zL | apply zN | apply zD | refine zJ ?_ GE107.out) | exact HB.out))) : w.heap.size ≤ gb109)); have n5_ := zM ((by rw [hg]; exact zt (blk_lt (g := gb107) (o := .cells #[.int .i64 ((rd_T42 l0 x17_1).f0), .int .i64 ((rd_T42 l0 x17_1).f1), .slice A106_2 ((rd_T42 l0 x17_1).f2).length c106_2] 42 (0, 0)) (by (with_reducible repeat (first | refine zn ?_ _ | refine zd ?_ | refine za ?_ _)); refine zP (cs := #[.int .i64 ((rd_T42 l0 x17_1).f0), .int .i64 ((rd_T42 l0 x17_1).f1), .slice none 0 0]) ?_ 2 _ rfl; (with_reducible repeat (first | refine zn ?_ _ | refine zd ?_ | refine za ?_ _)); refine zP (cs := #[.int .i64 ((rd_T42 l0 x17_1).f0), .int .i64 0, .slice none 0 0]) ?_ 1 _ rfl; (with_reducible repeat (first | refine zn ?_ _ | refine zd ?_ | refine za ?_ _)); refine zP (cs := #[.int .i64 0, .int .i64 0, .slice none 0 0]) ?_ 0 _ rfl; (with_reducible repeat (first | refine zn ?_ _ | refine zd ?_ | refine za ?_ _)); exact BK107.out)) : gb107 ≠ gb109)); have n6_ := zM ((by rw [hg]; exact Nat.ne_of_gt (blk_lt (g := gb107) (o := .cells #[.int .i64 ((rd_T42 l0 x17_1).f0), .int .i64 ((rd_T42 l0 x17_1).f1), .slice A106_2 ((rd_T42 l0 x17_1).f2).length c106_2] 42 (0, 0)) (by (with_reducible repeat (first | refine zn ?_ _ | refine zd ?_ | refine za ?_ _)); refine zP (cs := #[.int .i64 ((rd_T42 l0 x17_1).f0), .int .i64 ((rd_T42 l0 x17_1).f1), .slice none 0 0]) ?_ 2 _ rfl; (with_reducible repeat (first | refine zn ?_ _ | refine zd ?_ | refine za ?_ _)); refine zP (cs := #[.int .i64 ((rd_T42 l0 x17_1).f0), .int .i64 0, .slice none 0 0]) ?_ 1 _ rfl; (with_reducible repeat (first | refine zn ?_ _ | refine zd ?_ | refine za ?_ _)); refine zP (cs := #[.int .i64 0, .int .i64 0, .slice none 0 0]) ?_ 0 _ rfl; (with_reducible repeat (first | refine zn ?_ _ | refine zd ?_ | refine za ?_ _)); exact BK107.out)) : gb109 ≠ gb107)); clear BK107; clear HB; have BK107 := n0_; have HB := n1_; have BK109 := n2_; have GW109 := n3_; have GE109 := n4_; have NB107_109 := n5_; have NB109_107 := n6_; clear n0_ n1_ n2_ n3_ n4_ n5_ n6_; clear hb hbox hg; have hnb20 := NB109_107.out; have hnc20 := NB107_109.out; have hcz21_0 : w19.cell? ⟨gb109, 0, none⟩ = some (.int .i64 0) := (zc BK109.out 0).trans rfl; have hcz21_1 : w19.cell? ⟨gb109, 1, none⟩ = some (.int .i64 0) := (zc BK109.out 1).trans rfl; have hcz21_2 : w19.cell? ⟨gb109, 2, none⟩ = some (.slice none 0 0) := (zc BK109.out 2).trans rfl; have hfz21_0 := zf BK109.out 0; have hfz21_1 := zf BK109.out 1; have hfz21_2 := zf BK109.out 2; have hcz22_0 : w19.cell? ⟨gb107, 0, none⟩ = some (.int .i64 ((rd_T42 l0 x17_1).f0)) := (zc BK107.out 0).trans rfl; have hcz22_1 : w19.cell? ⟨gb107, 1, none⟩ = some (.int .i64 ((rd_T42 l0 x17_1).f1)) := (zc BK107.out 1).trans rfl; have hcz22_2 : w19.cell? ⟨gb107, 2, none⟩ = some (.slice A106_2 ((rd_T42 l0 x17_1).f2).length c106_2) := (zc BK107.out 2).trans rfl; have hfz22_0 := zf BK107.out 0; have hfz22_1 := zf BK107.out 1; have hfz22_2 := zf BK107.out 2))
         (with_reducible refine (batch_Same.calls k1 ((rd_T42 l0 x17_1).f0) ((rd_T42 l0 x17_1).f1) _ _ ((rd_T42 l0 x17_1).f2) ((rd_T42 l1 x17_1).f0) ((rd_T42 l1 x17_1).f1) _ _ ((rd_T42 l1 x17_1).f2) false _ ?side1 ?side2 ?side3 ?side4 A8.out).mono ?_); (case side1 => exact zcb HR106_2.out (by repeat (first | (with_reducible first | exact HB.out | apply zL | apply zN | apply zD | refine zJ ?_ GE107.out | refine zJ ?_ GE109.out) | exact HB.out))); (case side2 => exact HC106_2.out); (case side3 => exact zcb HR108_2.out (by repeat (first | (with_reducible first | exact HB.out | apply zL | apply zN | apply zD | refine zJ ?_ GE107.out | refine zJ ?_ GE109.out) | exact HB.out))); (case side4 => exact HC108_2.out); rintro e w23 ⟨rfl, hb⟩; have n0_ := zM (zb (g := gb107) (o := .cells #[.int .i64 ((rd_T42 l0 x17_1).f0), .int .i64 ((rd_T42 l0 x17_1).f1), .slice A106_2 ((rd_T42 l0 x17_1).f2).length c106_2] 42 (0, 0)) (by (with_reducible repeat (first | refine zn ?_ _ | refine zd ?_ | refine za ?_ _)); refine zF ?_ NB107_109.out _; (with_reducible repeat (first | refine zn ?_ _ | refine zd ?_ | refine za ?_ _)); refine zF ?_ NB107_109.out _; (with_reducible repeat (first | refine zn ?_ _ | refine zd ?_ | refine za ?_ _)); refine zF ?_ NB107_109.out _; (with_reducible repeat (first | refine zn ?_ _ | refine zd ?_ | refine za ?_ _)); exact BK107.out) hb); have n1_ := zM (zb (g := gb109) (o := .cells #[.int .i64 ((rd_T42 l1 x17_1).f0), .int .i64 ((rd_T42 l1 x17_1).f1), .slice A108_2 ((rd_T42 l1 x17_1).f2).length c108_2] 42 (0, 0)) (by (with_reducible repeat (first | refine zn ?_ _ | refine zd ?_ | refine za ?_ _)); refine zP (cs := #[.int .i64 ((rd_T42 l1 x17_1).f0), .int .i64 ((rd_T42 l1 x17_1).f1), .slice none 0 0]) ?_ 2 _ rfl; (with_reducible repeat (first | refine zn ?_ _ | refine zd ?_ | refine za ?_ _)); refine zP (cs := #[.int .i64 ((rd_T42 l1 x17_1).f0), .int .i64 0, .slice none 0 0]) ?_ 1 _ rfl; (with_reducible repeat (first | refine zn ?_ _ | refine zd ?_ | refine za ?_ _)); refine zP (cs := #[.int .i64 0, .int .i64 0, .slice none 0 0]) ?_ 0 _ rfl; (with_reducible repeat (first | refine zn ?_ _ | refine zd ?_ | refine za ?_ _)); exact BK109.out) hb); have n2_ := zM (zp (by repeat (first | (with_reducible first | exact HB.out | apply zL | apply zN | apply zD | refine zJ ?_ GE107.out | refine zJ ?_ GE109.out) | exact HB.out)) hb); clear BK107; clear BK109; clear HB; have BK107 := n0_; have BK109 := n1_; have HB := n2_; clear n0_ n1_ n2_; (try clear hb); (try clear hb2); (try clear hk); (try clear hi)
         dsimp only
         go_wp2
         go_ret
         exact ⟨rfl, by repeat (first | (with_reducible first | exact HB.out | apply zL | apply zN | apply zD | refine zJ ?_ GE107.out | refine zJ ?_ GE109.out) | exact HB.out)⟩
       ·rw [if_neg c7] at H
        exact absurd H (by simp)
      ·rw [if_neg c6] at H
       exact absurd H (by simp)
     ·rw [if_neg c5] at H
      exact absurd H (by simp)
    ·rw [if_neg c4] at H
     have c4b0 : decide (x17_1 < (l0.length : Int)) = false := decide_eq_false c4
     clear c4
     obtain rfl := Option.some.inj H
     go_wp2
     go_ret
     exact ⟨rfl, by repeat (first | (with_reducible first | exact HB.out | apply zL | apply zN | apply zD) | exact HB.out)⟩
 ·rw [if_neg c3] at H
  have c3b0 : ((l0.length : Int) == (l1.length : Int)) = false := beq_eq_false_iff_ne.mpr c3
  have c3b1 : ((l0.length : Int) != (l1.length : Int)) = true := bne_iff_ne.mpr c3
  have c3b2 : (l0.length == l1.length) = false := by first | simpa using c3 | (simp at c3 ⊢; omega)
  obtain rfl := Option.some.inj H
  go_enter Try.func45, Try.ntmps45
  go_wp2
  go_ret
  exact ⟨rfl, by repeat (first | (with_reducible first | exact HB.out | apply zL | apply zN | apply zD) | exact HB.out)⟩

end Go.Proofs.Ytldpaoaiapedjaa.Q
