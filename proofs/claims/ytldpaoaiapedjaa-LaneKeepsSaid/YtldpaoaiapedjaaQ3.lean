/- What Go functions of this seat come to, as plain Lean functions, and the proof that each call does so, in whatever memory; its conditions stand in each theorem. Written by a program of this session (wip/gen), out of the print of the loaded translation. -/
import Derived.Test.YtldpaoaiapedjaaQ0
namespace Go.Proofs.Ytldpaoaiapedjaa.Q
open Go.RowKit Go.Proofs.YtldpaoaiapedjaaW.PrintWords Go.Proofs.YtldpaoaiapedjaaW.PrintLast Go.Proofs.YtldpaoaiapedjaaW.PrintMore
attribute [local go_sem] max2_int min2_int max_two min_two max_three min_three max_four min_four   -- for this text's walks alone
set_option linter.unusedVariables false
set_option linter.unusedSimpArgs false
-- shrunk

-- by hand: function 9 (L16_shown)

/-! ### R16_Left: function 12 -/
def R16_Left.f (a0_0 : Int) (a0_1 : Int) (l0_2 : List ByteArray) (l0_3 : List (S42)) : Option (Bool) := if a0_1 > 1073741824 then (some false) else (if (l0_3.length : Int) = 0 then (some true) else (if 0 < (l0_3.length : Int) then (some (decide ((wrap64 (a0_1 - 8)) < ((rd_T42 l0_3 0).f1)))) else (none)))
set_option maxHeartbeats 8000000 in
set_option maxRecDepth 100000 in
theorem R16_Left.calls (a0_0 : Int) (a0_1 : Int) (A0_2 : Option Addr) (c0_2 : Nat) (l0_2 : List ByteArray) (A0_3 : Option Addr) (c0_3 : Nat) (l0_3 : List (S42)) (r : Bool) (w : World) (hr0_2 : Kd.C Kd.string w A0_2 l0_2.length l0_2) (hc0_2 : l0_2.length ≤ c0_2) (hr0_3 : Kd.C k42 w A0_3 l0_3.length l0_3) (hc0_3 : l0_3.length ≤ c0_3) (h : R16_Left.f a0_0 a0_1 l0_2 l0_3 = some r) :
  Calls Try.prog 12 #[.agg #[.int .i64 a0_0, .int .i64 a0_1, .slice A0_2 l0_2.length c0_2, .slice A0_3 l0_3.length c0_3]] w fun e w' => e = .returned (.bool r) ∧ Below w.heap.size w w' := by
 have hu25 := Try.underlying25
 have HR0_2 := zM hr0_2
 have HC0_2 := zM hc0_2
 clear hr0_2 hc0_2
 have HR0_3 := zM hr0_3
 have HC0_3 := zM hc0_3
 clear hr0_3 hc0_3
 have HB := zM (Below.refl w.heap.size w)
 have H : (if a0_1 > 1073741824 then (some false) else (if (l0_3.length : Int) = 0 then (some true) else (if 0 < (l0_3.length : Int) then (some (decide ((wrap64 (a0_1 - 8)) < ((rd_T42 l0_3 0).f1)))) else (none)))) = some r := h
 clear h
 by_cases c2 : a0_1 > 1073741824
 ·rw [if_pos c2] at H
  have c2b0 : decide (1073741824 < a0_1) = true := decide_eq_true c2
  clear c2
  obtain rfl := Option.some.inj H
  go_enter Try.func12, Try.ntmps12
  go_wp2_with (first | ((with_reducible refine gate_dst (N := 1) rfl ?_); refine box_event ?hg (N := 1) ?hd (cs := #[.int .i64 a0_0, .int .i64 a0_1, .slice A0_2 l0_2.length c0_2, .slice A0_3 l0_3.length c0_3]) (t := 25) ?hr ?_; (case hd => rfl); (case hg => rfl); (case hr => go_simp); intro gb115 hg w3 hbox hb; have n0_ := zM (zp HB.out hb); have n1_ := zM (hbox); have n2_ := zM ((by rw [hg]; exact (zs HB.out) : w.heap.size ≤ gb115)); have n3_ := zM ((by rw [hg]; exact (zs HB.out) : w.heap.size ≤ gb115)); clear HB; have HB := n0_; have BK115 := n1_; have GW115 := n2_; have GE115 := n3_; clear n0_ n1_ n2_ n3_; clear hb hbox hg; have hcz4_0 : w3.cell? ⟨gb115, 0, none⟩ = some (.int .i64 a0_0) := (zc BK115.out 0).trans rfl; have hcz4_1 : w3.cell? ⟨gb115, 1, none⟩ = some (.int .i64 a0_1) := (zc BK115.out 1).trans rfl; have hcz4_2 : w3.cell? ⟨gb115, 2, none⟩ = some (.slice A0_2 l0_2.length c0_2) := (zc BK115.out 2).trans rfl; have hcz4_3 : w3.cell? ⟨gb115, 3, none⟩ = some (.slice A0_3 l0_3.length c0_3) := (zc BK115.out 3).trans rfl; have hfz4_0 := zf BK115.out 0; have hfz4_1 := zf BK115.out 1; have hfz4_2 := zf BK115.out 2; have hfz4_3 := zf BK115.out 3))
  repeat (go_quiet (first | ((with_reducible refine gate_dst (N := 1) rfl ?_); refine box_event ?hg (N := 1) ?hd (cs := #[.int .i64 a0_0, .int .i64 a0_1, .slice A0_2 l0_2.length c0_2, .slice A0_3 l0_3.length c0_3]) (t := 25) ?hr ?_; (case hd => rfl); (case hg => rfl); (case hr => go_simp); intro gb115 hg w3 hbox hb; have n0_ := zM (zp HB.out hb); have n1_ := zM (hbox); have n2_ := zM ((by rw [hg]; exact (zs HB.out) : w.heap.size ≤ gb115)); have n3_ := zM ((by rw [hg]; exact (zs HB.out) : w.heap.size ≤ gb115)); clear HB; have HB := n0_; have BK115 := n1_; have GW115 := n2_; have GE115 := n3_; clear n0_ n1_ n2_ n3_; clear hb hbox hg; have hcz4_0 : w3.cell? ⟨gb115, 0, none⟩ = some (.int .i64 a0_0) := (zc BK115.out 0).trans rfl; have hcz4_1 : w3.cell? ⟨gb115, 1, none⟩ = some (.int .i64 a0_1) := (zc BK115.out 1).trans rfl; have hcz4_2 : w3.cell? ⟨gb115, 2, none⟩ = some (.slice A0_2 l0_2.length c0_2) := (zc BK115.out 2).trans rfl; have hcz4_3 : w3.cell? ⟨gb115, 3, none⟩ = some (.slice A0_3 l0_3.length c0_3) := (zc BK115.out 3).trans rfl; have hfz4_0 := zf BK115.out 0; have hfz4_1 := zf BK115.out 1; have hfz4_2 := zf BK115.out 2; have hfz4_3 := zf BK115.out 3)); try go_wp2_with (first | ((with_reducible refine gate_dst (N := 1) rfl ?_); refine box_event ?hg (N := 1) ?hd (cs := #[.int .i64 a0_0, .int .i64 a0_1, .slice A0_2 l0_2.length c0_2, .slice A0_3 l0_3.length c0_3]) (t := 25) ?hr ?_; (case hd => rfl); (case hg => rfl); (case hr => go_simp); intro gb115 hg w3 hbox hb; have n0_ := zM (zp HB.out hb); have n1_ := zM (hbox); have n2_ := zM ((by rw [hg]; exact (zs HB.out) : w.heap.size ≤ gb115)); have n3_ := zM ((by rw [hg]; exact (zs HB.out) : w.heap.size ≤ gb115)); clear HB; have HB := n0_; have BK115 := n1_; have GW115 := n2_; have GE115 := n3_; clear n0_ n1_ n2_ n3_; clear hb hbox hg; have hcz4_0 : w3.cell? ⟨gb115, 0, none⟩ = some (.int .i64 a0_0) := (zc BK115.out 0).trans rfl; have hcz4_1 : w3.cell? ⟨gb115, 1, none⟩ = some (.int .i64 a0_1) := (zc BK115.out 1).trans rfl; have hcz4_2 : w3.cell? ⟨gb115, 2, none⟩ = some (.slice A0_2 l0_2.length c0_2) := (zc BK115.out 2).trans rfl; have hcz4_3 : w3.cell? ⟨gb115, 3, none⟩ = some (.slice A0_3 l0_3.length c0_3) := (zc BK115.out 3).trans rfl; have hfz4_0 := zf BK115.out 0; have hfz4_1 := zf BK115.out 1; have hfz4_2 := zf BK115.out 2; have hfz4_3 := zf BK115.out 3)))
  go_ret
  exact ⟨rfl, by repeat (first | (with_reducible first | exact HB.out | apply zL | apply zN | apply zD | refine zJ ?_ GE115.out) | exact HB.out)⟩
 ·rw [if_neg c2] at H
  have c2b0 : decide (1073741824 < a0_1) = false := decide_eq_false c2
  clear c2
  by_cases c5 : (l0_3.length : Int) = 0
  ·rw [if_pos c5] at H
   have c5b0 : ((l0_3.length : Int) == 0) = true := beq_iff_eq.mpr c5
   have c5b1 : ((l0_3.length : Int) != 0) = false := bne_eq_false_iff_eq.mpr c5
   clear c5
   obtain rfl := Option.some.inj H
   go_enter Try.func12, Try.ntmps12
   go_wp2_with (first | ((with_reducible refine gate_dst (N := 1) rfl ?_); refine box_event ?hg (N := 1) ?hd (cs := #[.int .i64 a0_0, .int .i64 a0_1, .slice A0_2 l0_2.length c0_2, .slice A0_3 l0_3.length c0_3]) (t := 25) ?hr ?_; (case hd => rfl); (case hg => rfl); (case hr => go_simp); intro gb115 hg w6 hbox hb; have n0_ := zM (zp HB.out hb); have n1_ := zM (hbox); have n2_ := zM ((by rw [hg]; exact (zs HB.out) : w.heap.size ≤ gb115)); have n3_ := zM ((by rw [hg]; exact (zs HB.out) : w.heap.size ≤ gb115)); clear HB; have HB := n0_; have BK115 := n1_; have GW115 := n2_; have GE115 := n3_; clear n0_ n1_ n2_ n3_; clear hb hbox hg; have hcz7_0 : w6.cell? ⟨gb115, 0, none⟩ = some (.int .i64 a0_0) := (zc BK115.out 0).trans rfl; have hcz7_1 : w6.cell? ⟨gb115, 1, none⟩ = some (.int .i64 a0_1) := (zc BK115.out 1).trans rfl; have hcz7_2 : w6.cell? ⟨gb115, 2, none⟩ = some (.slice A0_2 l0_2.length c0_2) := (zc BK115.out 2).trans rfl; have hcz7_3 : w6.cell? ⟨gb115, 3, none⟩ = some (.slice A0_3 l0_3.length c0_3) := (zc BK115.out 3).trans rfl; have hfz7_0 := zf BK115.out 0; have hfz7_1 := zf BK115.out 1; have hfz7_2 := zf BK115.out 2; have hfz7_3 := zf BK115.out 3))
   repeat (go_quiet (first | ((with_reducible refine gate_dst (N := 1) rfl ?_); refine box_event ?hg (N := 1) ?hd (cs := #[.int .i64 a0_0, .int .i64 a0_1, .slice A0_2 l0_2.length c0_2, .slice A0_3 l0_3.length c0_3]) (t := 25) ?hr ?_; (case hd => rfl); (case hg => rfl); (case hr => go_simp); intro gb115 hg w6 hbox hb; have n0_ := zM (zp HB.out hb); have n1_ := zM (hbox); have n2_ := zM ((by rw [hg]; exact (zs HB.out) : w.heap.size ≤ gb115)); have n3_ := zM ((by rw [hg]; exact (zs HB.out) : w.heap.size ≤ gb115)); clear HB; have HB := n0_; have BK115 := n1_; have GW115 := n2_; have GE115 := n3_; clear n0_ n1_ n2_ n3_; clear hb hbox hg; have hcz7_0 : w6.cell? ⟨gb115, 0, none⟩ = some (.int .i64 a0_0) := (zc BK115.out 0).trans rfl; have hcz7_1 : w6.cell? ⟨gb115, 1, none⟩ = some (.int .i64 a0_1) := (zc BK115.out 1).trans rfl; have hcz7_2 : w6.cell? ⟨gb115, 2, none⟩ = some (.slice A0_2 l0_2.length c0_2) := (zc BK115.out 2).trans rfl; have hcz7_3 : w6.cell? ⟨gb115, 3, none⟩ = some (.slice A0_3 l0_3.length c0_3) := (zc BK115.out 3).trans rfl; have hfz7_0 := zf BK115.out 0; have hfz7_1 := zf BK115.out 1; have hfz7_2 := zf BK115.out 2; have hfz7_3 := zf BK115.out 3)); try go_wp2_with (first | ((with_reducible refine gate_dst (N := 1) rfl ?_); refine box_event ?hg (N := 1) ?hd (cs := #[.int .i64 a0_0, .int .i64 a0_1, .slice A0_2 l0_2.length c0_2, .slice A0_3 l0_3.length c0_3]) (t := 25) ?hr ?_; (case hd => rfl); (case hg => rfl); (case hr => go_simp); intro gb115 hg w6 hbox hb; have n0_ := zM (zp HB.out hb); have n1_ := zM (hbox); have n2_ := zM ((by rw [hg]; exact (zs HB.out) : w.heap.size ≤ gb115)); have n3_ := zM ((by rw [hg]; exact (zs HB.out) : w.heap.size ≤ gb115)); clear HB; have HB := n0_; have BK115 := n1_; have GW115 := n2_; have GE115 := n3_; clear n0_ n1_ n2_ n3_; clear hb hbox hg; have hcz7_0 : w6.cell? ⟨gb115, 0, none⟩ = some (.int .i64 a0_0) := (zc BK115.out 0).trans rfl; have hcz7_1 : w6.cell? ⟨gb115, 1, none⟩ = some (.int .i64 a0_1) := (zc BK115.out 1).trans rfl; have hcz7_2 : w6.cell? ⟨gb115, 2, none⟩ = some (.slice A0_2 l0_2.length c0_2) := (zc BK115.out 2).trans rfl; have hcz7_3 : w6.cell? ⟨gb115, 3, none⟩ = some (.slice A0_3 l0_3.length c0_3) := (zc BK115.out 3).trans rfl; have hfz7_0 := zf BK115.out 0; have hfz7_1 := zf BK115.out 1; have hfz7_2 := zf BK115.out 2; have hfz7_3 := zf BK115.out 3)))
   go_ret
   exact ⟨rfl, by repeat (first | (with_reducible first | exact HB.out | apply zL | apply zN | apply zD | refine zJ ?_ GE115.out) | exact HB.out)⟩
  ·rw [if_neg c5] at H
   have c5b0 : ((l0_3.length : Int) == 0) = false := beq_eq_false_iff_ne.mpr c5
   have c5b1 : ((l0_3.length : Int) != 0) = true := bne_iff_ne.mpr c5
   have c5b2 : ¬ (l0_3 = []) := fun h_ => c5 (by rw [h_]; rfl)
   by_cases c8 : 0 < (l0_3.length : Int)
   ·rw [if_pos c8] at H
    have c8b0 : decide (0 < (l0_3.length : Int)) = true := decide_eq_true c8
    have c8b1 : decide (0 < l0_3.length) = true := decide_eq_true (by omega)
    clear c8
    obtain rfl := Option.some.inj H
    go_enter Try.func12, Try.ntmps12
    go_wp2_with (first | ((with_reducible refine gate_dst (N := 1) rfl ?_); refine box_event ?hg (N := 1) ?hd (cs := #[.int .i64 a0_0, .int .i64 a0_1, .slice A0_2 l0_2.length c0_2, .slice A0_3 l0_3.length c0_3]) (t := 25) ?hr ?_; (case hd => rfl); (case hg => rfl); (case hr => go_simp); intro gb115 hg w9 hbox hb; have n0_ := zM (zp HB.out hb); have n1_ := zM (hbox); have n2_ := zM ((by rw [hg]; exact (zs HB.out) : w.heap.size ≤ gb115)); have n3_ := zM ((by rw [hg]; exact (zs HB.out) : w.heap.size ≤ gb115)); clear HB; have HB := n0_; have BK115 := n1_; have GW115 := n2_; have GE115 := n3_; clear n0_ n1_ n2_ n3_; clear hb hbox hg; have hcz10_0 : w9.cell? ⟨gb115, 0, none⟩ = some (.int .i64 a0_0) := (zc BK115.out 0).trans rfl; have hcz10_1 : w9.cell? ⟨gb115, 1, none⟩ = some (.int .i64 a0_1) := (zc BK115.out 1).trans rfl; have hcz10_2 : w9.cell? ⟨gb115, 2, none⟩ = some (.slice A0_2 l0_2.length c0_2) := (zc BK115.out 2).trans rfl; have hcz10_3 : w9.cell? ⟨gb115, 3, none⟩ = some (.slice A0_3 l0_3.length c0_3) := (zc BK115.out 3).trans rfl; have hfz10_0 := zf BK115.out 0; have hfz10_1 := zf BK115.out 1; have hfz10_2 := zf BK115.out 2; have hfz10_3 := zf BK115.out 3; have p116 : 0 ≤ (0 : Int) := (by omega); have q116 : 0 < (l0_3.length : Int) := zo (by assumption); obtain ⟨ad116, A116_2, c116_2, e116, hx116_0, hx116_1, hx116_2, hl116_2, hi116_2⟩ := at_T42 HR0_3.out 0 p116 q116; cases e116; have qi116 : (0 < l0_3.length) = True := eq_true (by omega); (try rw [show ((0 : Int)).toNat = 0 from rfl] at hx116_0); (try rw [show 0 * 3 = 0 from rfl] at hx116_0); (try rw [Addr.add_zero'] at hx116_0); (try rw [show ((0 : Int)).toNat = 0 from rfl] at hx116_1); (try rw [show 0 * 3 = 0 from rfl] at hx116_1); (try rw [Addr.add_zero'] at hx116_1); (try rw [show ((0 : Int)).toNat = 0 from rfl] at hx116_2); (try rw [show 0 * 3 = 0 from rfl] at hx116_2); (try rw [Addr.add_zero'] at hx116_2); replace hx116_0 := (HB.out.cell (zW w _ hx116_0)).trans hx116_0; replace hx116_1 := (HB.out.cell (zW w _ hx116_1)).trans hx116_1; replace hx116_2 := (HB.out.cell (zW w _ hx116_2)).trans hx116_2; have HR116_2 := zM hi116_2; have HC116_2 := zM hl116_2; clear hi116_2 hl116_2; replace p116 := eq_true p116; replace q116 := eq_true q116))
    repeat (go_quiet (first | ((with_reducible refine gate_dst (N := 1) rfl ?_); refine box_event ?hg (N := 1) ?hd (cs := #[.int .i64 a0_0, .int .i64 a0_1, .slice A0_2 l0_2.length c0_2, .slice A0_3 l0_3.length c0_3]) (t := 25) ?hr ?_; (case hd => rfl); (case hg => rfl); (case hr => go_simp); intro gb115 hg w9 hbox hb; have n0_ := zM (zp HB.out hb); have n1_ := zM (hbox); have n2_ := zM ((by rw [hg]; exact (zs HB.out) : w.heap.size ≤ gb115)); have n3_ := zM ((by rw [hg]; exact (zs HB.out) : w.heap.size ≤ gb115)); clear HB; have HB := n0_; have BK115 := n1_; have GW115 := n2_; have GE115 := n3_; clear n0_ n1_ n2_ n3_; clear hb hbox hg; have hcz10_0 : w9.cell? ⟨gb115, 0, none⟩ = some (.int .i64 a0_0) := (zc BK115.out 0).trans rfl; have hcz10_1 : w9.cell? ⟨gb115, 1, none⟩ = some (.int .i64 a0_1) := (zc BK115.out 1).trans rfl; have hcz10_2 : w9.cell? ⟨gb115, 2, none⟩ = some (.slice A0_2 l0_2.length c0_2) := (zc BK115.out 2).trans rfl; have hcz10_3 : w9.cell? ⟨gb115, 3, none⟩ = some (.slice A0_3 l0_3.length c0_3) := (zc BK115.out 3).trans rfl; have hfz10_0 := zf BK115.out 0; have hfz10_1 := zf BK115.out 1; have hfz10_2 := zf BK115.out 2; have hfz10_3 := zf BK115.out 3; have p116 : 0 ≤ (0 : Int) := (by omega); have q116 : 0 < (l0_3.length : Int) := zo (by assumption); obtain ⟨ad116, A116_2, c116_2, e116, hx116_0, hx116_1, hx116_2, hl116_2, hi116_2⟩ := at_T42 HR0_3.out 0 p116 q116; cases e116; have qi116 : (0 < l0_3.length) = True := eq_true (by omega); (try rw [show ((0 : Int)).toNat = 0 from rfl] at hx116_0); (try rw [show 0 * 3 = 0 from rfl] at hx116_0); (try rw [Addr.add_zero'] at hx116_0); (try rw [show ((0 : Int)).toNat = 0 from rfl] at hx116_1); (try rw [show 0 * 3 = 0 from rfl] at hx116_1); (try rw [Addr.add_zero'] at hx116_1); (try rw [show ((0 : Int)).toNat = 0 from rfl] at hx116_2); (try rw [show 0 * 3 = 0 from rfl] at hx116_2); (try rw [Addr.add_zero'] at hx116_2); replace hx116_0 := (HB.out.cell (zW w _ hx116_0)).trans hx116_0; replace hx116_1 := (HB.out.cell (zW w _ hx116_1)).trans hx116_1; replace hx116_2 := (HB.out.cell (zW w _ hx116_2)).trans hx116_2; have HR116_2 := zM hi116_2; have HC116_2 := zM hl116_2; clear hi116_2 hl116_2; replace p116 := eq_true p116; replace q116 := eq_true q116)); try go_wp2_with (first | ((with_reducible refine gate_dst (N := 1) rfl ?_); refine box_event ?hg (N := 1) ?hd (cs := #[.int .i64 a0_0, .int .i64 a0_1, .slice A0_2 l0_2.length c0_2, .slice A0_3 l0_3.length c0_3]) (t := 25) ?hr ?_; (case hd => rfl); (case hg => rfl); (case hr => go_simp); intro gb115 hg w9 hbox hb; have n0_ := zM (zp HB.out hb); have n1_ := zM (hbox); have n2_ := zM ((by rw [hg]; exact (zs HB.out) : w.heap.size ≤ gb115)); have n3_ := zM ((by rw [hg]; exact (zs HB.out) : w.heap.size ≤ gb115)); clear HB; have HB := n0_; have BK115 := n1_; have GW115 := n2_; have GE115 := n3_; clear n0_ n1_ n2_ n3_; clear hb hbox hg; have hcz10_0 : w9.cell? ⟨gb115, 0, none⟩ = some (.int .i64 a0_0) := (zc BK115.out 0).trans rfl; have hcz10_1 : w9.cell? ⟨gb115, 1, none⟩ = some (.int .i64 a0_1) := (zc BK115.out 1).trans rfl; have hcz10_2 : w9.cell? ⟨gb115, 2, none⟩ = some (.slice A0_2 l0_2.length c0_2) := (zc BK115.out 2).trans rfl; have hcz10_3 : w9.cell? ⟨gb115, 3, none⟩ = some (.slice A0_3 l0_3.length c0_3) := (zc BK115.out 3).trans rfl; have hfz10_0 := zf BK115.out 0; have hfz10_1 := zf BK115.out 1; have hfz10_2 := zf BK115.out 2; have hfz10_3 := zf BK115.out 3; have p116 : 0 ≤ (0 : Int) := (by omega); have q116 : 0 < (l0_3.length : Int) := zo (by assumption); obtain ⟨ad116, A116_2, c116_2, e116, hx116_0, hx116_1, hx116_2, hl116_2, hi116_2⟩ := at_T42 HR0_3.out 0 p116 q116; cases e116; have qi116 : (0 < l0_3.length) = True := eq_true (by omega); (try rw [show ((0 : Int)).toNat = 0 from rfl] at hx116_0); (try rw [show 0 * 3 = 0 from rfl] at hx116_0); (try rw [Addr.add_zero'] at hx116_0); (try rw [show ((0 : Int)).toNat = 0 from rfl] at hx116_1); (try rw [show 0 * 3 = 0 from rfl] at hx116_1); (try rw [Addr.add_zero'] at hx116_1); (try rw [show ((0 : Int)).toNat = 0 from rfl] at hx116_2); (try rw [show 0 * 3 = 0 from rfl] at hx116_2); (try rw [Addr.add_zero'] at hx116_2); replace hx116_0 := (HB.out.cell (zW w _ hx116_0)).trans hx116_0; replace hx116_1 := (HB.out.cell (zW w _ hx116_1)).trans hx116_1; replace hx116_2 := (HB.out.cell (zW w _ hx116_2)).trans hx116_2; have HR116_2 := zM hi116_2; have HC116_2 := zM hl116_2; clear hi116_2 hl116_2; replace p116 := eq_true p116; replace q116 := eq_true q116)))
    go_ret
    exact ⟨rfl, by repeat (first | (with_reducible first | exact HB.out | apply zL | apply zN | apply zD | refine zJ ?_ GE115.out) | exact HB.out)⟩
   ·rw [if_neg c8] at H
    exact absurd H (by simp)

/-! ### R07_May: function 29 -/
mutual
def R07_May.j0 : Nat → Bool → Int → Int → List ByteArray → Option (Bool)
 | 0, _, _, _, _ => none
 | k + 1, x33, x118000, x118001, x118002 => if x33 = true then (some false) else (R07_May.l0 k 0 x118000 x118001 x118002)
def R07_May.l0 : Nat → Int → Int → Int → List ByteArray → Option (Bool)
 | 0, _, _, _, _ => none
 | k + 1, x3, x118000, x118001, x118002 => if x3 < (x118002.length : Int) then (if 0 ≤ x3 then (if ((rdOf ByteArray.empty x118002 x3).size : Int) < 1 then (some false) else (if ((rdOf ByteArray.empty x118002 x3).size : Int) > 48 then (some false) else (R07_May.l0 k (wrap64 (x3 + 1)) x118000 x118001 x118002))) else (none)) else (some true)
end
def R07_May.f (k : Nat) (a0_0 : Int) (a0_1 : Int) (l0_2 : List ByteArray) : Option (Bool) := if a0_0 < 1 then (R07_May.j0 k true a0_0 a0_1 l0_2) else (if a0_0 > 64 then (R07_May.j0 k true a0_0 a0_1 l0_2) else (if a0_1 < 1 then (R07_May.j0 k true a0_0 a0_1 l0_2) else (if a0_1 > 1073741824 then (R07_May.j0 k true a0_0 a0_1 l0_2) else (if (l0_2.length : Int) < 1 then (R07_May.j0 k true a0_0 a0_1 l0_2) else (R07_May.j0 k (decide ((l0_2.length : Int) > 4)) a0_0 a0_1 l0_2)))))
theorem R07_May.mono_l : ∀ k, (∀ y0 y1 y2 y3, LeO (R07_May.j0 k y0 y1 y2 y3) (R07_May.j0 (k + 1) y0 y1 y2 y3)) ∧ (∀ y0 y1 y2 y3, LeO (R07_May.l0 k y0 y1 y2 y3) (R07_May.l0 (k + 1) y0 y1 y2 y3))
 | 0 => ⟨fun _ _ _ _ r h => by simp [R07_May.j0] at h, fun _ _ _ _ r h => by simp [R07_May.l0] at h⟩
 | k + 1 => by
  obtain ⟨ih0, ih1⟩ := R07_May.mono_l k
  refine ⟨?_, ?_⟩
  ·intro y0 y1 y2 y3
   unfold R07_May.j0
   repeat' first
   | (with_reducible exact ih0 _ _ _ _)
   | (with_reducible exact ih1 _ _ _ _)
   | (with_reducible exact LeO.refl _)
   | (with_reducible exact LeO.none _)
   | (with_reducible refine LeO.ite ?_ ?_)
   | (with_reducible refine LeO.bind ?_ (fun _ => ?_))
   | exact ih0 _ _ _ _
   | exact ih1 _ _ _ _
   | exact LeO.none _
   | refine LeO.ite ?_ ?_
   | refine LeO.bind ?_ (fun _ => ?_)
  ·intro y0 y1 y2 y3
   unfold R07_May.l0
   repeat' first
   | (with_reducible exact ih0 _ _ _ _)
   | (with_reducible exact ih1 _ _ _ _)
   | (with_reducible exact LeO.refl _)
   | (with_reducible exact LeO.none _)
   | (with_reducible refine LeO.ite ?_ ?_)
   | (with_reducible refine LeO.bind ?_ (fun _ => ?_))
   | exact ih0 _ _ _ _
   | exact ih1 _ _ _ _
   | exact LeO.none _
   | refine LeO.ite ?_ ?_
   | refine LeO.bind ?_ (fun _ => ?_)
theorem R07_May.mono : ∀ a0 a1 a2 k, LeO (R07_May.f k a0 a1 a2) (R07_May.f (k + 1) a0 a1 a2) := by
 intro a0 a1 a2 k
 obtain ⟨ih0, ih1⟩ := R07_May.mono_l k
 unfold R07_May.f
 repeat' first
   | (with_reducible exact ih0 _ _ _ _)
   | (with_reducible exact ih1 _ _ _ _)
   | (with_reducible exact LeO.refl _)
   | (with_reducible exact LeO.none _)
   | (with_reducible refine LeO.ite ?_ ?_)
   | (with_reducible refine LeO.bind ?_ (fun _ => ?_))
   | exact ih0 _ _ _ _
   | exact ih1 _ _ _ _
   | exact LeO.none _
   | refine LeO.ite ?_ ?_
   | refine LeO.bind ?_ (fun _ => ?_)
set_option maxHeartbeats 8000000 in
set_option maxRecDepth 100000 in
theorem R07_May.calls (k : Nat) (a0_0 : Int) (a0_1 : Int) (A0_2 : Option Addr) (c0_2 : Nat) (l0_2 : List ByteArray) (r : Bool) (w : World) (hr0_2 : Kd.C Kd.string w A0_2 l0_2.length l0_2) (hc0_2 : l0_2.length ≤ c0_2) (h : R07_May.f k a0_0 a0_1 l0_2 = some r) :
  Calls Try.prog 29 #[.agg #[.int .i64 a0_0, .int .i64 a0_1, .slice A0_2 l0_2.length c0_2]] w fun e w' => e = .returned (.bool r) ∧ Below w.heap.size w w' := by
 have hu42 := Try.underlying42
 have HR0_2 := zM hr0_2
 have HC0_2 := zM hc0_2
 clear hr0_2 hc0_2
 have HB := zM (Below.refl w.heap.size w)
 have H : (if a0_0 < 1 then (R07_May.j0 k true a0_0 a0_1 l0_2) else (if a0_0 > 64 then (R07_May.j0 k true a0_0 a0_1 l0_2) else (if a0_1 < 1 then (R07_May.j0 k true a0_0 a0_1 l0_2) else (if a0_1 > 1073741824 then (R07_May.j0 k true a0_0 a0_1 l0_2) else (if (l0_2.length : Int) < 1 then (R07_May.j0 k true a0_0 a0_1 l0_2) else (R07_May.j0 k (decide ((l0_2.length : Int) > 4)) a0_0 a0_1 l0_2)))))) = some r := h
 clear h
 have HC2 := zM H
 clear H
 go_enter Try.func29, Try.ntmps29
 go_upto_region 1 with (first | ((with_reducible refine gate_dst (N := 1) rfl ?_); (try (refine gate_guard (by rfl) ?_; dsimp only)); refine box_event ?hg (N := 1) ?hd (cs := #[.int .i64 a0_0, .int .i64 a0_1, .slice A0_2 l0_2.length c0_2]) (t := 42) ?hr ?_; (case hd => rfl); (case hg => rfl); (case hr => go_simp); intro gb117 hg w3 hbox hb; have n0_ := zM (zp HB.out hb); have n1_ := zM (hbox); have n2_ := zM ((by rw [hg]; exact (zs HB.out) : w.heap.size ≤ gb117)); have n3_ := zM ((by rw [hg]; exact (zs HB.out) : w.heap.size ≤ gb117)); clear HB; have HB := n0_; have BK117 := n1_; have GW117 := n2_; have GE117 := n3_; clear n0_ n1_ n2_ n3_; clear hb hbox hg))
 (try simp only [Act.put, zA, zZ, zS])
 go_cut [33] (fun v33 wc => ∃ (kq : Nat) (x33_1 : Bool), v33 = .bool x33_1 ∧ Aside0 (R07_May.j0 kq x33_1 a0_0 a0_1 l0_2 = some r) ∧ Aside0 (kq ≤ k) ∧ Aside0 (wc.heap[gb117]? = some (.cells #[.int .i64 a0_0, .int .i64 a0_1, (.slice A0_2 l0_2.length c0_2)] 42 (0, 0))) ∧ Aside0 (Below w.heap.size w wc))
 case first =>
  have H := HC2.out
  clear HC2
  by_cases c4 : a0_0 < 1
  ·rw [if_pos c4] at H
   have c4b0 : decide (a0_0 < 1) = true := decide_eq_true c4
   clear c4
   (first | rw [c4b0] | (simp only [i64_w, i32_w]; rw [c4b0]) | skip)
   have H' := zM H
   clear H
   have hcz5_0 : w3.cell? ⟨gb117, 0, none⟩ = some (.int .i64 a0_0) := (zc BK117.out 0).trans rfl
   have hcz5_1 : w3.cell? ⟨gb117, 1, none⟩ = some (.int .i64 a0_1) := (zc BK117.out 1).trans rfl
   have hcz5_2 : w3.cell? ⟨gb117, 2, none⟩ = some (.slice A0_2 l0_2.length c0_2) := (zc BK117.out 2).trans rfl
   have hfz5_0 := zf BK117.out 0
   have hfz5_1 := zf BK117.out 1
   have hfz5_2 := zf BK117.out 2
   go_wp2
   go_meet
   case rel => exact ⟨_, (true), rfl, H', ⟨by first | omega | exact Nat.le_refl _⟩, ⟨by exact BK117.out⟩, ⟨by repeat (first | (with_reducible first | exact HB.out | apply zL | apply zN | apply zD | refine zJ ?_ GE117.out) | exact HB.out)⟩⟩
  ·rw [if_neg c4] at H
   have c4b0 : decide (a0_0 < 1) = false := decide_eq_false c4
   clear c4
   (first | rw [c4b0] | (simp only [i64_w, i32_w]; rw [c4b0]) | skip)
   by_cases c6 : a0_0 > 64
   ·rw [if_pos c6] at H
    have c6b0 : decide (64 < a0_0) = true := decide_eq_true c6
    clear c6
    have H' := zM H
    clear H
    have hcz7_0 : w3.cell? ⟨gb117, 0, none⟩ = some (.int .i64 a0_0) := (zc BK117.out 0).trans rfl
    have hcz7_1 : w3.cell? ⟨gb117, 1, none⟩ = some (.int .i64 a0_1) := (zc BK117.out 1).trans rfl
    have hcz7_2 : w3.cell? ⟨gb117, 2, none⟩ = some (.slice A0_2 l0_2.length c0_2) := (zc BK117.out 2).trans rfl
    have hfz7_0 := zf BK117.out 0
    have hfz7_1 := zf BK117.out 1
    have hfz7_2 := zf BK117.out 2
    go_wp2
    go_meet
    case rel => exact ⟨_, (true), rfl, H', ⟨by first | omega | exact Nat.le_refl _⟩, ⟨by exact BK117.out⟩, ⟨by repeat (first | (with_reducible first | exact HB.out | apply zL | apply zN | apply zD | refine zJ ?_ GE117.out) | exact HB.out)⟩⟩
   ·rw [if_neg c6] at H
    have c6b0 : decide (64 < a0_0) = false := decide_eq_false c6
    clear c6
    by_cases c8 : a0_1 < 1
    ·rw [if_pos c8] at H
     have c8b0 : decide (a0_1 < 1) = true := decide_eq_true c8
     clear c8
     have H' := zM H
     clear H
     have hcz9_0 : w3.cell? ⟨gb117, 0, none⟩ = some (.int .i64 a0_0) := (zc BK117.out 0).trans rfl
     have hcz9_1 : w3.cell? ⟨gb117, 1, none⟩ = some (.int .i64 a0_1) := (zc BK117.out 1).trans rfl
     have hcz9_2 : w3.cell? ⟨gb117, 2, none⟩ = some (.slice A0_2 l0_2.length c0_2) := (zc BK117.out 2).trans rfl
     have hfz9_0 := zf BK117.out 0
     have hfz9_1 := zf BK117.out 1
     have hfz9_2 := zf BK117.out 2
     go_wp2
     go_meet
     case rel => exact ⟨_, (true), rfl, H', ⟨by first | omega | exact Nat.le_refl _⟩, ⟨by exact BK117.out⟩, ⟨by repeat (first | (with_reducible first | exact HB.out | apply zL | apply zN | apply zD | refine zJ ?_ GE117.out) | exact HB.out)⟩⟩
    ·rw [if_neg c8] at H
     have c8b0 : decide (a0_1 < 1) = false := decide_eq_false c8
     clear c8
     by_cases c10 : a0_1 > 1073741824
     ·rw [if_pos c10] at H
      have c10b0 : decide (1073741824 < a0_1) = true := decide_eq_true c10
      clear c10
      have H' := zM H
      clear H
      have hcz11_0 : w3.cell? ⟨gb117, 0, none⟩ = some (.int .i64 a0_0) := (zc BK117.out 0).trans rfl
      have hcz11_1 : w3.cell? ⟨gb117, 1, none⟩ = some (.int .i64 a0_1) := (zc BK117.out 1).trans rfl
      have hcz11_2 : w3.cell? ⟨gb117, 2, none⟩ = some (.slice A0_2 l0_2.length c0_2) := (zc BK117.out 2).trans rfl
      have hfz11_0 := zf BK117.out 0
      have hfz11_1 := zf BK117.out 1
      have hfz11_2 := zf BK117.out 2
      go_wp2
      go_meet
      case rel => exact ⟨_, (true), rfl, H', ⟨by first | omega | exact Nat.le_refl _⟩, ⟨by exact BK117.out⟩, ⟨by repeat (first | (with_reducible first | exact HB.out | apply zL | apply zN | apply zD | refine zJ ?_ GE117.out) | exact HB.out)⟩⟩
     ·rw [if_neg c10] at H
      have c10b0 : decide (1073741824 < a0_1) = false := decide_eq_false c10
      clear c10
      by_cases c12 : (l0_2.length : Int) < 1
      ·rw [if_pos c12] at H
       have c12b0 : decide ((l0_2.length : Int) < 1) = true := decide_eq_true c12
       have c12b1 : decide (l0_2.length < 1) = true := decide_eq_true (by omega)
       clear c12
       have H' := zM H
       clear H
       have hcz13_0 : w3.cell? ⟨gb117, 0, none⟩ = some (.int .i64 a0_0) := (zc BK117.out 0).trans rfl
       have hcz13_1 : w3.cell? ⟨gb117, 1, none⟩ = some (.int .i64 a0_1) := (zc BK117.out 1).trans rfl
       have hcz13_2 : w3.cell? ⟨gb117, 2, none⟩ = some (.slice A0_2 l0_2.length c0_2) := (zc BK117.out 2).trans rfl
       have hfz13_0 := zf BK117.out 0
       have hfz13_1 := zf BK117.out 1
       have hfz13_2 := zf BK117.out 2
       go_wp2
       go_meet
       case rel => exact ⟨_, (true), rfl, H', ⟨by first | omega | exact Nat.le_refl _⟩, ⟨by exact BK117.out⟩, ⟨by repeat (first | (with_reducible first | exact HB.out | apply zL | apply zN | apply zD | refine zJ ?_ GE117.out) | exact HB.out)⟩⟩
      ·rw [if_neg c12] at H
       have c12b0 : decide ((l0_2.length : Int) < 1) = false := decide_eq_false c12
       have c12b1 : decide (l0_2.length < 1) = false := decide_eq_false (by omega)
       clear c12
       have H' := zM H
       clear H
       have hcz14_0 : w3.cell? ⟨gb117, 0, none⟩ = some (.int .i64 a0_0) := (zc BK117.out 0).trans rfl
       have hcz14_1 : w3.cell? ⟨gb117, 1, none⟩ = some (.int .i64 a0_1) := (zc BK117.out 1).trans rfl
       have hcz14_2 : w3.cell? ⟨gb117, 2, none⟩ = some (.slice A0_2 l0_2.length c0_2) := (zc BK117.out 2).trans rfl
       have hfz14_0 := zf BK117.out 0
       have hfz14_1 := zf BK117.out 1
       have hfz14_2 := zf BK117.out 2
       go_wp2
       go_meet
       case rel => exact ⟨_, (decide ((l0_2.length : Int) > 4)), rfl, H', ⟨by first | omega | exact Nat.le_refl _⟩, ⟨by exact BK117.out⟩, ⟨by repeat (first | (with_reducible first | exact HB.out | apply zL | apply zN | apply zD | refine zJ ?_ GE117.out) | exact HB.out)⟩⟩
 case rest =>
  clear HC2
  obtain ⟨kq, x33_1, rfl, HA, HJ1, BK117, HB⟩ := hcut
  cases kq with
  | zero => exact absurd HA.out (by simp [R07_May.j0])
  | succ kj1 =>
   have H := HA.out
   clear HA
   simp only [R07_May.j0] at H
   by_cases c15 : x33_1 = true
   ·subst c15
    have H1 : (some false) = some r := by rw [if_pos rfl] at H; exact H
    clear H
    have H := H1
    clear H1
    obtain rfl := Option.some.inj H
    go_wp2
    go_ret
    exact ⟨rfl, by repeat (first | (with_reducible first | exact HB.out | apply zL | apply zN | apply zD | refine zJ ?_ GE117.out) | exact HB.out)⟩
   ·replace c15 := Bool.eq_false_iff.mpr c15
    subst c15
    have H1 : (R07_May.l0 kj1 0 a0_0 a0_1 l0_2) = some r := by rw [if_neg (show ¬ (false = true) by decide)] at H; exact H
    clear H
    have H := H1
    clear H1
    have H' := zM H
    clear H
    go_wp2
    go_loopg [3] kj1 (fun kq v3 w' => ∃ (x3_2 : Int), v3 = .int .i64 x3_2 ∧ Aside0 (R07_May.l0 kq x3_2 a0_0 a0_1 l0_2 = some r) ∧ Aside0 (kq ≤ kj1) ∧ Aside0 (w'.heap[gb117]? = some (.cells #[.int .i64 a0_0, .int .i64 a0_1, (.slice A0_2 l0_2.length c0_2)] 42 (0, 0))) ∧ Aside0 (Below w.heap.size w w'))
    case atStart => exact ⟨(0), rfl, H', ⟨Nat.le_refl _⟩, ⟨by exact BK117.out⟩, ⟨by repeat (first | (with_reducible first | exact HB.out | apply zL | apply zN | apply zD | refine zJ ?_ GE117.out) | exact HB.out)⟩⟩
    case round =>
     clear H'
     obtain ⟨x3_2, rfl, HA, HK2, BK117, HB⟩ := hrel
     cases gk with
     | zero => exact absurd HA.out (by simp [R07_May.l0])
     | succ k2 =>
      have H := HA.out
      clear HA
      simp only [R07_May.l0] at H
      by_cases c16 : x3_2 < (l0_2.length : Int)
      ·rw [if_pos c16] at H
       have c16b0 : decide (x3_2 < (l0_2.length : Int)) = true := decide_eq_true c16
       clear c16
       by_cases c17 : 0 ≤ x3_2
       ·rw [if_pos c17] at H
        have c17b0 : decide (0 ≤ x3_2) = true := decide_eq_true c17
        clear c17
        by_cases c18 : ((rdOf ByteArray.empty l0_2 x3_2).size : Int) < 1
        ·rw [if_pos c18] at H
         have c18b0 : decide (((rdOf ByteArray.empty l0_2 x3_2).size : Int) < 1) = true := decide_eq_true c18
         have c18b1 : decide ((rdOf ByteArray.empty l0_2 x3_2).size < 1) = true := decide_eq_true (by omega)
         clear c18
         obtain rfl := Option.some.inj H
         have hcz19_0 : wr.cell? ⟨gb117, 0, none⟩ = some (.int .i64 a0_0) := (zc BK117.out 0).trans rfl
         have hcz19_1 : wr.cell? ⟨gb117, 1, none⟩ = some (.int .i64 a0_1) := (zc BK117.out 1).trans rfl
         have hcz19_2 : wr.cell? ⟨gb117, 2, none⟩ = some (.slice A0_2 l0_2.length c0_2) := (zc BK117.out 2).trans rfl
         have hfz19_0 := zf BK117.out 0
         have hfz19_1 := zf BK117.out 1
         have hfz19_2 := zf BK117.out 2
         have p118 : 0 ≤ (x3_2 : Int) := zo (by assumption)
         have q118 : x3_2 < (l0_2.length : Int) := zo (by assumption)
         obtain ⟨ad118, e118, hx118_0⟩ := Kd.at_string HR0_2.out x3_2 p118 q118
         cases e118
         replace hx118_0 := (HB.out.cell (zW w _ hx118_0)).trans hx118_0
         replace p118 := eq_true p118
         replace q118 := eq_true q118
         go_wp2
         go_ret
         exact ⟨rfl, by repeat (first | (with_reducible first | exact HB.out | apply zL | apply zN | apply zD | refine zJ ?_ GE117.out) | exact HB.out)⟩
        ·rw [if_neg c18] at H
         have c18b0 : decide (((rdOf ByteArray.empty l0_2 x3_2).size : Int) < 1) = false := decide_eq_false c18
         have c18b1 : decide ((rdOf ByteArray.empty l0_2 x3_2).size < 1) = false := decide_eq_false (by omega)
         clear c18
         by_cases c20 : ((rdOf ByteArray.empty l0_2 x3_2).size : Int) > 48
         ·rw [if_pos c20] at H
          have c20b0 : decide (48 < ((rdOf ByteArray.empty l0_2 x3_2).size : Int)) = true := decide_eq_true c20
          have c20b1 : decide (48 < (rdOf ByteArray.empty l0_2 x3_2).size) = true := decide_eq_true (by omega)
          clear c20
          obtain rfl := Option.some.inj H
          have hcz21_0 : wr.cell? ⟨gb117, 0, none⟩ = some (.int .i64 a0_0) := (zc BK117.out 0).trans rfl
          have hcz21_1 : wr.cell? ⟨gb117, 1, none⟩ = some (.int .i64 a0_1) := (zc BK117.out 1).trans rfl
          have hcz21_2 : wr.cell? ⟨gb117, 2, none⟩ = some (.slice A0_2 l0_2.length c0_2) := (zc BK117.out 2).trans rfl
          have hfz21_0 := zf BK117.out 0
          have hfz21_1 := zf BK117.out 1
          have hfz21_2 := zf BK117.out 2
          have p118 : 0 ≤ (x3_2 : Int) := zo (by assumption)
          have q118 : x3_2 < (l0_2.length : Int) := zo (by assumption)
          obtain ⟨ad118, e118, hx118_0⟩ := Kd.at_string HR0_2.out x3_2 p118 q118
          cases e118
          replace hx118_0 := (HB.out.cell (zW w _ hx118_0)).trans hx118_0
          replace p118 := eq_true p118
          replace q118 := eq_true q118
          have p119 : 0 ≤ (x3_2 : Int) := zo (by assumption)
          have q119 : x3_2 < (l0_2.length : Int) := zo (by assumption)
          obtain ⟨ad119, e119, hx119_0⟩ := Kd.at_string HR0_2.out x3_2 p119 q119
          obtain rfl : ad118 = ad119 := (by injection e119)
          replace hx119_0 := (HB.out.cell (zW w _ hx119_0)).trans hx119_0
          replace p119 := eq_true p119
          replace q119 := eq_true q119
          go_wp2
          go_ret
          exact ⟨rfl, by repeat (first | (with_reducible first | exact HB.out | apply zL | apply zN | apply zD | refine zJ ?_ GE117.out) | exact HB.out)⟩
         ·rw [if_neg c20] at H
          have c20b0 : decide (48 < ((rdOf ByteArray.empty l0_2 x3_2).size : Int)) = false := decide_eq_false c20
          have c20b1 : decide (48 < (rdOf ByteArray.empty l0_2 x3_2).size) = false := decide_eq_false (by omega)
          clear c20
          have H' := zM H
          clear H
          have hcz22_0 : wr.cell? ⟨gb117, 0, none⟩ = some (.int .i64 a0_0) := (zc BK117.out 0).trans rfl
          have hcz22_1 : wr.cell? ⟨gb117, 1, none⟩ = some (.int .i64 a0_1) := (zc BK117.out 1).trans rfl
          have hcz22_2 : wr.cell? ⟨gb117, 2, none⟩ = some (.slice A0_2 l0_2.length c0_2) := (zc BK117.out 2).trans rfl
          have hfz22_0 := zf BK117.out 0
          have hfz22_1 := zf BK117.out 1
          have hfz22_2 := zf BK117.out 2
          have p118 : 0 ≤ (x3_2 : Int) := zo (by assumption)
          have q118 : x3_2 < (l0_2.length : Int) := zo (by assumption)
          obtain ⟨ad118, e118, hx118_0⟩ := Kd.at_string HR0_2.out x3_2 p118 q118
          cases e118
          replace hx118_0 := (HB.out.cell (zW w _ hx118_0)).trans hx118_0
          replace p118 := eq_true p118
          replace q118 := eq_true q118
          have p119 : 0 ≤ (x3_2 : Int) := zo (by assumption)
          have q119 : x3_2 < (l0_2.length : Int) := zo (by assumption)
          obtain ⟨ad119, e119, hx119_0⟩ := Kd.at_string HR0_2.out x3_2 p119 q119
          obtain rfl : ad118 = ad119 := (by injection e119)
          replace hx119_0 := (HB.out.cell (zW w _ hx119_0)).trans hx119_0
          replace p119 := eq_true p119
          replace q119 := eq_true q119
          go_wp2
          go_roundg k2
          case measure => have := HJ1.out; have := HK2.out; omega
          case rel => exact ⟨(wrap64 (x3_2 + 1)), rfl, H', ⟨by have := HJ1.out; have := HK2.out; omega⟩, ⟨by exact BK117.out⟩, ⟨by repeat (first | (with_reducible first | exact HB.out | apply zL | apply zN | apply zD | refine zJ ?_ GE117.out) | exact HB.out)⟩⟩
       ·rw [if_neg c17] at H
        exact absurd H (by simp)
      ·rw [if_neg c16] at H
       have c16b0 : decide (x3_2 < (l0_2.length : Int)) = false := decide_eq_false c16
       clear c16
       obtain rfl := Option.some.inj H
       have hcz23_0 : wr.cell? ⟨gb117, 0, none⟩ = some (.int .i64 a0_0) := (zc BK117.out 0).trans rfl
       have hcz23_1 : wr.cell? ⟨gb117, 1, none⟩ = some (.int .i64 a0_1) := (zc BK117.out 1).trans rfl
       have hcz23_2 : wr.cell? ⟨gb117, 2, none⟩ = some (.slice A0_2 l0_2.length c0_2) := (zc BK117.out 2).trans rfl
       have hfz23_0 := zf BK117.out 0
       have hfz23_1 := zf BK117.out 1
       have hfz23_2 := zf BK117.out 2
       go_wp2
       go_ret
       exact ⟨rfl, by repeat (first | (with_reducible first | exact HB.out | apply zL | apply zN | apply zD | refine zJ ?_ GE117.out) | exact HB.out)⟩

end Go.Proofs.Ytldpaoaiapedjaa.Q
