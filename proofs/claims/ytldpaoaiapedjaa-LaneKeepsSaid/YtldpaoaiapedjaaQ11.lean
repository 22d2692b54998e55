/- What Go functions of this seat come to, as plain Lean functions, and the proof that each call does so, in whatever memory; its conditions stand in each theorem. Written by a program of this session (wip/gen), out of the print of the loaded translation. -/
import Derived.Test.YtldpaoaiapedjaaU
import Derived.Test.YtldpaoaiapedjaaQ0
import Derived.Test.YtldpaoaiapedjaaQ4
import Derived.Test.YtldpaoaiapedjaaQ5
import Derived.Test.YtldpaoaiapedjaaQ7
import Derived.Test.YtldpaoaiapedjaaQ10
import Derived.Test.YtldpaoaiapedjaaE2
import Derived.Test.YtldpaoaiapedjaaE3
namespace Go.Proofs.Ytldpaoaiapedjaa.Q
open Go.RowKit Go.Proofs.YtldpaoaiapedjaaW.PrintWords Go.Proofs.YtldpaoaiapedjaaW.PrintLast Go.Proofs.YtldpaoaiapedjaaW.PrintMore
attribute [local go_sem] max2_int min2_int max_two min_two max_three min_three max_four min_four   -- for this text's walks alone
set_option linter.unusedVariables false
set_option linter.unusedSimpArgs false
-- shrunk
def mq110 : Array Bool := #[false, false, false, false, false, false, false, false, false, false, false, false, false]
def mq111 : Array Bool := #[false, true, false, false, false, false, false, false, false, false, false, false, false]
def mq112 : Array Bool := #[false, true, true, false, false, false, false, false, false, false, false, false, false]
def mq113 : Array Bool := #[false, true, true, true, false, false, false, false, false, false, false, false, false]
def mq114 : Array Bool := #[false, true, true, true, true, false, false, false, false, false, false, false, false]
def mq115 : Array Bool := #[true, true, true, true, true, false, false, false, false, false, false, false, false]
def mq116 : Array Bool := #[true, true, true, true, true, true, false, false, false, false, false, false, false]
def mq117 : Array Bool := #[true, true, true, true, true, true, true, true, true, true, true, false, false]
def mq118 : Array Bool := #[true, true, true, true, true, true, true, false, false, false, false, false, false]
def mq119 : Array Bool := #[true, true, true, true, true, true, false, false, false, false, true, false, false]
def mq1110 : Array Bool := #[true, true, true, true, true, true, true, true, false, false, false, false, false]
def mq1111 : Array Bool := #[true, true, true, true, true, true, true, true, true, false, false, false, false]
def mq1112 : Array Bool := #[true, true, true, true, true, true, true, true, true, true, false, false, false]
def mq1113 : Array Bool := #[true, true, true, true, true, true, true, false, false, false, true, false, false]
def mq1114 : Array Bool := #[true, true, true, true, true, true, true, true, false, false, true, false, false]
def mq1115 : Array Bool := #[true, true, true, true, true, true, true, true, true, false, true, false, false]
def mq1116 : Array Bool := #[true, true, true, true, true, true, true, true, true, true, true, true, false]
def mq1117 : Array Bool := #[true, true, true, true, true, true, true, true, true, true, true, true, true]
def mq1118 : Array Bool := #[false, false, false, false, false, false, false, false, false, false, false, false, false, false, false, false, false]
def mq1119 : Array Bool := #[true, false, false, false, false, false, false, false, false, false, false, false, false, false, false, false, false]
def mq1120 : Array Bool := #[true, true, false, false, false, false, false, false, false, false, false, false, false, false, false, false, false]
def mq1121 : Array Bool := #[true, true, true, false, false, false, false, false, false, false, false, false, false, false, false, false, false]
def mq1122 : Array Bool := #[true, true, true, true, false, false, false, false, false, false, false, false, false, false, false, false, false]
def mq1123 : Array Bool := #[true, true, true, true, true, false, false, false, false, false, false, false, false, false, false, false, false]
def mq1124 : Array Bool := #[true, true, true, true, true, true, false, false, false, false, false, false, false, false, false, false, false]
def mq1125 : Array Bool := #[true, true, true, true, true, true, true, false, false, false, false, false, false, false, false, false, false]
def mq1126 : Array Bool := #[true, true, true, true, true, true, true, true, false, false, false, false, false, false, false, false, false]
def mq1127 : Array Bool := #[true, true, true, true, true, true, true, true, true, false, false, false, false, false, false, false, false]
def mq1128 : Array Bool := #[true, true, true, true, true, true, true, true, true, true, false, false, false, false, false, false, false]
def mq1129 : Array Bool := #[true, true, true, true, true, true, true, true, true, true, true, false, false, false, false, false, false]
def mq1130 : Array Bool := #[true, true, true, true, true, true, true, true, true, true, true, false, true, false, false, false, false]
def mq1131 : Array Bool := #[true, true, true, true, true, true, true, true, true, true, true, true, true, false, false, false, false]
def mq1132 : Array Bool := #[true, true, true, true, true, true, true, true, true, true, true, true, true, true, false, false, false]
def mq1133 : Array Bool := #[true, true, true, true, true, true, true, true, true, true, true, true, true, true, true, false, false]
def mq1134 : Array Bool := #[true, true, true, true, true, true, true, true, true, true, true, true, true, true, true, true, false]
def mq1135 : Array Bool := #[true, true, true, true, true, true, true, true, true, true, true, true, true, true, true, true, true]

set_option maxHeartbeats 8000000 in
set_option maxRecDepth 100000 in
theorem L16_LaneKeeps.calls (k : Nat) (a0 : Int) (A1 : Option Addr) (c1 : Nat) (l1 : List (S38)) (r : Bool) (w : World) (hr1 : Kd.C k38 w A1 l1.length l1) (hc1 : l1.length ≤ c1) (hrt : r = true) (h : L16_LaneKeeps.f k a0 l1 = some r) :
  Calls Try.prog 5 #[.int .i64 a0, .slice A1 l1.length c1] w fun e w' => e = .returned (.bool r) ∧ Below w.heap.size w w' := by
 have hu25 := Try.underlying25
 have hu42 := Try.underlying42
 have HR1 := zM hr1
 have HC1 := zM hc1
 clear hr1 hc1
 have HRT := zM hrt
 clear hrt
 have HB := zM (Below.refl w.heap.size w)
 have H : ((L16_shown.f).bind fun t229 => ((lane_New.f a0).bind fun bt230 => (if bt230.2.2.2.2 = 0 then (L16_LaneKeeps.l0 k l1 t229 ([] : List ByteArray) (([] : List (S42))) 0 bt230.1 bt230.2.1 bt230.2.2.1 bt230.2.2.2.1) else (if t229 = true then (if a0 < 1 then (some true) else (some (decide (a0 > 64)))) else (some false))))) = some r := h
 clear h
 replace H := Option.bind_eq_some_iff.mp H
 obtain ⟨t229, A30, H⟩ := H
 replace H : ((lane_New.f a0).bind fun bt230 => (if bt230.2.2.2.2 = 0 then (L16_LaneKeeps.l0 k l1 t229 ([] : List ByteArray) (([] : List (S42))) 0 bt230.1 bt230.2.1 bt230.2.2.1 bt230.2.2.2.1) else (if t229 = true then (if a0 < 1 then (some true) else (some (decide (a0 > 64)))) else (some false)))) = some r := H
 have A3 := zM A30
 clear A30
 replace H := Option.bind_eq_some_iff.mp H
 obtain ⟨⟨t230, t231, t232, t235, t238⟩, A40, H⟩ := H
 replace H : (if t238 = 0 then (L16_LaneKeeps.l0 k l1 t229 ([] : List ByteArray) (([] : List (S42))) 0 t230 t231 t232 t235) else (if t229 = true then (if a0 < 1 then (some true) else (some (decide (a0 > 64)))) else (some false))) = some r := H
 have A4 := zM A40
 clear A40
 by_cases c5 : t238 = 0
 ·rw [if_pos c5] at H
  have c5b0 : (t238 == 0) = true := beq_iff_eq.mpr c5
  have c5b1 : (t238 != 0) = false := bne_eq_false_iff_eq.mpr c5
  clear c5
  obtain ⟨y240, hy240⟩ : ∃ y_ : List (S42), y_ = (([] : List (S42))) := ⟨_, rfl⟩
  replace H : (L16_LaneKeeps.l0 k l1 t229 ([] : List ByteArray) y240 0 t230 t231 t232 t235) = some r := by first | (rw [hy240]; with_reducible exact H) | (have H2_ := (Option.bind_some _ _).symm.trans H; rw [hy240]; with_reducible exact H2_) | (have H2_ := (Option.bind_some _ _).symm.trans H; with_reducible exact H2_) | with_reducible exact H | (rw [hy240]; exact H) | exact H
  have Ny240 := zM hy240
  clear hy240
  have H' := zM H
  clear H
  go_enter Try.func5, Try.ntmps5
  go_wp2_with (first | ((with_reducible refine gate_callee (f := 9) rfl ?_); refine goesL_ (some 17) rfl rfl Try.func9 (by kernel_rfl) rfl #[] rfl (by (try simp only [List.map_toArray, List.map_cons, List.map_nil]); first | done | rfl | (simp only [List.length_drop, List.length_take]; rfl)) ?_; (with_reducible refine (L16_shown.calls  t229 _ A3.out).mono ?_); rintro e w6 ⟨rfl, hb⟩; refine ⟨_, rfl, ?_⟩; have n0_ := zM (zp (by repeat (first | (with_reducible first | exact HB.out | apply zL | apply zN | apply zD) | exact HB.out)) hb); clear HB; have HB := n0_; clear n0_; (try clear hb); (try clear hb2); (try clear hk); (try clear hi)) | ((with_reducible refine gate_callee (f := 15) rfl ?_); refine goesL_ (some 20) rfl rfl Try.func15 (by kernel_rfl) rfl #[.int .i64 a0] rfl (by (try simp only [List.map_toArray, List.map_cons, List.map_nil]); first | done | rfl | (simp only [List.length_drop, List.length_take]; rfl)) ?_; (with_reducible refine (lane_New.calls a0 t230 t231 t232 t235 t238 _ A4.out).mono ?_); rintro e w7 ⟨v233, v236, rfl, ho0, ho1, hb⟩; refine ⟨_, rfl, ?_⟩; have n0_ := zM (Kd.R_lower ho0 (zs (by repeat (first | (with_reducible first | exact HB.out | apply zL | apply zN | apply zD) | exact HB.out)))); have n1_ := zM (Kd.N_lower (znm (ok' := fun k_ => some k_ ≠ (v233 : Value).ownBlock) (Kd.S_N (Kd.S_bound ho1)) (fun k_ hk_ => hk_.1)) (zs (by repeat (first | (with_reducible first | exact HB.out | apply zL | apply zN | apply zD) | exact HB.out)))); have n2_ := zM (zp (by repeat (first | (with_reducible first | exact HB.out | apply zL | apply zN | apply zD) | exact HB.out)) hb); clear HB; have HO234 := n0_; have HO237 := n1_; have HB := n2_; clear n0_ n1_ n2_; (try clear hb); (try clear hb2); (try clear hk); (try clear hi); (try clear ho0); (try clear ho1)) | ((with_reducible refine gate_dst (N := 6) rfl ?_); (try (refine gate_guard (by rfl) ?_; dsimp only)); refine box_event ?hg (N := 6) ?hd (cs := #[.int .i64 0, .int .i64 0, .slice none 0 0, .slice none 0 0]) (t := 25) ?hr ?_; (case hd => rfl); (case hg => rfl); (case hr => first | (go_simp; done) | (go_simp; rfl)); intro gb239 hg w8 hbox hb; have n0_ := zM (Kd.R_below (by (with_reducible repeat (first | apply zra | apply zrn | apply zrd)); exact HO234.out) hb); have n1_ := zM (Kd.N_below (Kd.N_elderB (by (with_reducible repeat (first | apply zna | apply znn | apply znd)); exact HO237.out) gb239 (zq hg.symm)) hb); have n2_ := zM (zp (by repeat (first | (with_reducible first | exact HB.out | apply zL | apply zN | apply zD) | exact HB.out)) hb); have n3_ := zM (hbox); have n4_ := zM ((by rw [hg]; exact (zs (by repeat (first | (with_reducible first | exact HB.out | apply zL | apply zN | apply zD) | exact HB.out))) : w.heap.size ≤ gb239)); have n5_ := zM ((by rw [hg]; exact (zs (by repeat (first | (with_reducible first | exact HB.out | apply zL | apply zN | apply zD) | exact HB.out))) : w.heap.size ≤ gb239)); clear HO234; clear HO237; clear HB; have HO234 := n0_; have HO237 := n1_; have HB := n2_; have BK239 := n3_; have GW239 := n4_; have GE239 := n5_; clear n0_ n1_ n2_ n3_ n4_ n5_; clear hb hbox hg; have hcz9_0 : w8.cell? ⟨gb239, 0, none⟩ = some (.int .i64 0) := (zc BK239.out 0).trans rfl; have hcz9_1 : w8.cell? ⟨gb239, 1, none⟩ = some (.int .i64 0) := (zc BK239.out 1).trans rfl; have hcz9_2 : w8.cell? ⟨gb239, 2, none⟩ = some (.slice none 0 0) := (zc BK239.out 2).trans rfl; have hcz9_3 : w8.cell? ⟨gb239, 3, none⟩ = some (.slice none 0 0) := (zc BK239.out 3).trans rfl; have hfz9_0 := zf BK239.out 0; have hfz9_1 := zf BK239.out 1; have hfz9_2 := zf BK239.out 2; have hfz9_3 := zf BK239.out 3; obtain ⟨Ao10, co10, eo10⟩ := Kd.R_slice HO234.out; subst eo10; obtain ⟨Ao11, co11, eo11⟩ := Kd.N_slice HO237.out; subst eo11) | ((with_reducible refine gate_dst (N := 34) rfl ?_); (try (refine gate_guard (by rfl) ?_; dsimp only)); refine Kd.N_lit k42 _ 42 ?hg (N' := 34) ?hd (xs := ([] : List (S42))) (inner := []) (ok := (fun k_ => some k_ ≠ (.slice Ao10 t232.length co10 : Value).ownBlock ∧ some k_ ≠ (.slice Ao11 t235.length co11 : Value).ownBlock ∧ k_ ≠ gb239)) (okp := (fun k_ => some k_ ≠ (.slice Ao10 t232.length co10 : Value).ownBlock ∧ some k_ ≠ (.slice Ao11 t235.length co11 : Value).ownBlock ∧ k_ ≠ gb239)) ?hr ?hp (fun _ hk => hk) ((show ∀ k_, w8.heap.size ≤ k_ → (fun k_ => some k_ ≠ (.slice Ao10 t232.length co10 : Value).ownBlock ∧ some k_ ≠ (.slice Ao11 t235.length co11 : Value).ownBlock ∧ k_ ≠ gb239) k_ from fun k_ hk => ⟨Kd.fresh' (Kd.R_lt HO234.out) k_ hk, Kd.fresh' (Kd.N_lt HO237.out) k_ hk, Kd.freshB (g := gb239) (o := .cells #[.int .i64 0, .int .i64 0, .slice none 0 0, .slice none 0 0] 25 (0, 0)) BK239.out k_ hk⟩) _ (zq (by simp))) (Below.refl _ _) (Nat.le_refl _) (by simp) ?_; (case hd => rfl); (case hg => rfl); (case hr => first | (go_simp; done) | (go_simp; rfl)); (case hp => exact (Reps.none _ _)); intro v241 w12 ho13 hb hg_ hnew_; clear hg_ hnew_; (first | rw [← Ny240.out] at ho13 | (simp only [Int.reduceToNat] at ho13; rw [← Ny240.out] at ho13)); have n0_ := zM (Kd.R_below (by (with_reducible repeat (first | apply zra | apply zrn | apply zrd)); exact (zrm (zrf (p := ⟨gb239, 3, none⟩) (zrf (p := ⟨gb239, 2, none⟩) (zrf (p := ⟨gb239, 1, none⟩) (zrf (p := ⟨gb239, 0, none⟩) (Kd.R_types HO234.out BK239.out (by decide)) (fun _ hk => hk.2) (.int .i64 t230)) (fun _ hk => hk.2) (.int .i64 t231)) (fun _ hk => hk.2) (.slice Ao10 t232.length co10)) (fun _ hk => hk.2) (.slice Ao11 t235.length co11)) (fun _ h_ => h_.1))) hb); have n1_ := zM (Kd.N_elder' (by (with_reducible repeat (first | apply zna | apply znn | apply znd)); exact (znm (znf (p := ⟨gb239, 3, none⟩) (znf (p := ⟨gb239, 2, none⟩) (znf (p := ⟨gb239, 1, none⟩) (znf (p := ⟨gb239, 0, none⟩) (znm HO237.out (fun k_ hk => (⟨hk, hk.2⟩ : _ ∧ k_ ≠ gb239))) (fun _ hk => hk.2) (.int .i64 t230)) (fun _ hk => hk.2) (.int .i64 t231)) (fun _ hk => hk.2) (.slice Ao10 t232.length co10)) (fun _ hk => hk.2) (.slice Ao11 t235.length co11)) (fun _ h_ => h_.1))) (Kd.N_base ho13) hb); have n2_ := zM (Kd.N_lower ho13 (zs (by repeat (first | (with_reducible first | exact HB.out | apply zL | apply zN | apply zD | refine zJ ?_ GE239.out) | exact HB.out)))); have n3_ := zM (zb (g := gb239) (o := .cells #[.int .i64 t230, .int .i64 t231, .slice Ao10 t232.length co10, .slice Ao11 t235.length co11] 25 (0, 0)) (by (with_reducible repeat (first | refine zn ?_ _ | refine zd ?_ | refine za ?_ _)); refine zP (cs := #[.int .i64 t230, .int .i64 t231, .slice Ao10 t232.length co10, .slice none 0 0]) ?_ 3 _ rfl; (with_reducible repeat (first | refine zn ?_ _ | refine zd ?_ | refine za ?_ _)); refine zP (cs := #[.int .i64 t230, .int .i64 t231, .slice none 0 0, .slice none 0 0]) ?_ 2 _ rfl; (with_reducible repeat (first | refine zn ?_ _ | refine zd ?_ | refine za ?_ _)); refine zP (cs := #[.int .i64 t230, .int .i64 0, .slice none 0 0, .slice none 0 0]) ?_ 1 _ rfl; (with_reducible repeat (first | refine zn ?_ _ | refine zd ?_ | refine za ?_ _)); refine zP (cs := #[.int .i64 0, .int .i64 0, .slice none 0 0, .slice none 0 0]) ?_ 0 _ rfl; (with_reducible repeat (first | refine zn ?_ _ | refine zd ?_ | refine za ?_ _)); exact BK239.out) hb); have n4_ := zM (zp (by repeat (first | (with_reducible first | exact HB.out | apply zL | apply zN | apply zD | refine zJ ?_ GE239.out) | exact HB.out)) hb); clear HO234; clear HO237; clear BK239; clear HB; have HO234 := n0_; have HO237 := n1_; have HO242 := n2_; have BK239 := n3_; have HB := n4_; clear n0_ n1_ n2_ n3_ n4_; clear hb ho13))
  go_loopg [8, 9, 10] k (fun kq v8 v9 v10 w' => ∃ (x8_1 : List ByteArray) (x9_1 : List (S42)) (x10_1 : Int) (x240000_1 : Int) (x240001_1 : Int) (x240002_1 : List ByteArray) (x240003_1 : List (S42)) (u240002 : Value) (u240003 : Value), v10 = .int .i64 x10_1 ∧ Aside0 (L16_LaneKeeps.l0 kq l1 t229 x8_1 x9_1 x10_1 x240000_1 x240001_1 x240002_1 x240003_1 = some r) ∧ Aside0 (kq ≤ k) ∧ Aside0 (Kd.R Kd.string 9 w' w.heap.size (fun _ => True) v8 x8_1) ∧ Aside0 (Kd.N k42 42 w' w.heap.size (fun k_ => some k_ ≠ (v8 : Value).ownBlock ∧ k_ ≠ gb239) v9 x9_1) ∧ Aside0 (Kd.V Kd.string 9 w' w.heap.size (fun k_ => some k_ ≠ (v8 : Value).ownBlock ∧ some k_ ≠ (v9 : Value).ownBlock ∧ k_ ≠ gb239) u240002 x240002_1) ∧ Aside0 (Kd.V k42 42 w' w.heap.size (fun k_ => some k_ ≠ (v8 : Value).ownBlock ∧ some k_ ≠ (v9 : Value).ownBlock ∧ k_ ≠ gb239) u240003 x240003_1) ∧ Aside0 (w'.heap[gb239]? = some (.cells #[.int .i64 x240000_1, .int .i64 x240001_1, u240002, u240003] 25 (0, 0))) ∧ Aside0 (Below w.heap.size w w'))
  case atStart => exact ⟨(([] : List ByteArray)), (y240), (0), (t230), (t231), (t232), (t235), (.slice Ao10 t232.length co10), (.slice Ao11 t235.length co11), (by first | rfl | (simp; done) | (simp [*]; done)), H', ⟨Nat.le_refl _⟩, ⟨by first | exact Kd.R_nil _ _ _ _ _ | exact Kd.N_nil _ _ _ _ _ | exact Kd.V_nil _ _ _ _ _ | exact Kd.Q_nil _ _ _ _ _ | exact Kd.S_nil _ _ _ _ _⟩, ⟨by (with_reducible repeat (first | apply zna | apply znn | apply znd)); exact znm HO242.out (fun _ hk => ⟨(by simp [Value.ownBlock]), hk.2.2⟩)⟩, ⟨Kd.R_V (by (with_reducible repeat (first | apply zra | apply zrn | apply zrd)); exact zrm (Kd.R_types (Kd.R_apart' HO234.out (Kd.N_typed HO242.out) (by decide)) BK239.out (by decide)) (fun _ hk => ⟨(by simp [Value.ownBlock]), ⟨hk.1.2, hk.2⟩⟩))⟩, ⟨Kd.N_V (by (with_reducible repeat (first | apply zna | apply znn | apply znd)); exact znm HO237.out (fun _ hk => ⟨(by simp [Value.ownBlock]), ⟨hk.2, hk.1.2⟩⟩))⟩, ⟨by (with_reducible repeat (first | refine zn ?_ _ | refine zd ?_ | refine za ?_ _)); exact BK239.out⟩, ⟨by repeat (first | (with_reducible first | exact HB.out | apply zL | apply zN | apply zD | refine zJ ?_ GE239.out) | exact HB.out)⟩⟩
  case round =>
   clear H'
   try clear c1
   try clear p2
   try clear c5
   try clear c5b0
   try clear c5b1
   try clear c9
   try clear hcz9_0
   try clear hcz9_1
   try clear hcz9_2
   try clear hcz9_3
   try clear hfz9_0
   try clear hfz9_1
   try clear hfz9_2
   try clear hfz9_3
   obtain ⟨x8_1, x9_1, x10_1, x240000_1, x240001_1, x240002_1, x240003_1, u240002, u240003, rfl, HA, HK1, HO_8, HO_9, HO_240002, HO_240003, BK239, HB⟩ := hrel
   cases gk with
   | zero => exact absurd HA.out (by simp [L16_LaneKeeps.l0])
   | succ k1 =>
    have H := HA.out
    clear HA
    simp only [L16_LaneKeeps.l0] at H
    by_cases c14 : x10_1 < (l1.length : Int)
    ·rw [if_pos c14] at H
     have c14b0 : decide (x10_1 < (l1.length : Int)) = true := decide_eq_true c14
     clear c14
     by_cases c15 : 0 ≤ x10_1
     ·rw [if_pos c15] at H
      have c15b0 : decide (0 ≤ x10_1) = true := decide_eq_true c15
      clear c15
      have HC16 := zM H
      clear H
      have p243 : 0 ≤ (x10_1 : Int) := zo (by first | (with_reducible assumption) | assumption)
      have q243 : x10_1 < (l1.length : Int) := zo (by first | (with_reducible assumption) | assumption)
      obtain ⟨ad243, e243, hx243_0, hx243_1, hx243_2⟩ := at_T38 HR1.out x10_1 p243 q243
      cases e243
      replace hx243_0 := (HB.out.cell (zW w _ hx243_0)).trans hx243_0
      replace hx243_1 := (HB.out.cell (zW w _ hx243_1)).trans hx243_1
      replace hx243_2 := (HB.out.cell (zW w _ hx243_2)).trans hx243_2
      replace p243 := eq_true p243
      replace q243 := eq_true q243
      go_upto_block 2 with (fail)
      go_cut [8] (fun v8 wc => ∃ (kq : Nat) (x8_15 : List ByteArray) (x240000_15 : Int) (x240001_15 : Int) (x240002_15 : List ByteArray) (x240003_15 : List (S42)) (u240002 : Value) (u240003 : Value), Aside0 (L16_LaneKeeps.j1 kq l1 t229 x8_15 x9_1 x10_1 x240000_15 x240001_15 x240002_15 x240003_15 = some r) ∧ Aside0 (kq ≤ k1) ∧ Aside0 (Kd.R Kd.string 9 wc w.heap.size (fun _ => True) v8 x8_15) ∧ Aside0 (Kd.N k42 42 wc w.heap.size (fun k_ => some k_ ≠ (v8 : Value).ownBlock ∧ k_ ≠ gb239) u9 x9_1) ∧ Aside0 (Kd.V Kd.string 9 wc w.heap.size (fun k_ => some k_ ≠ (v8 : Value).ownBlock ∧ some k_ ≠ (u9 : Value).ownBlock ∧ k_ ≠ gb239) u240002 x240002_15) ∧ Aside0 (Kd.V k42 42 wc w.heap.size (fun k_ => some k_ ≠ (v8 : Value).ownBlock ∧ some k_ ≠ (u9 : Value).ownBlock ∧ k_ ≠ gb239) u240003 x240003_15) ∧ Aside0 (wc.heap[gb239]? = some (.cells #[.int .i64 x240000_15, .int .i64 x240001_15, u240002, u240003] 25 (0, 0))) ∧ Aside0 (Below w.heap.size w wc))
      case first =>
       have H := HC16.out
       clear HC16
       by_cases c17 : ((rd_T38 l1 x10_1).f0) = 1
       ·rw [if_pos c17] at H
        have c17b0 : (((rd_T38 l1 x10_1).f0) == 1) = true := beq_iff_eq.mpr c17
        have c17b1 : (((rd_T38 l1 x10_1).f0) != 1) = false := bne_eq_false_iff_eq.mpr c17
        clear c17
        (first | rw [c17b0] | (simp only [i64_w, i32_w]; rw [c17b0]) | skip)
        replace H := Option.bind_eq_some_iff.mp H
        obtain ⟨⟨t245, t246, t247, t250, t253⟩, A180, H⟩ := H
        replace H : (if t253 = 0 then (if x8_1.length < 8796093022208 then (L16_LaneKeeps.j1 k1 l1 t229 (x8_1 ++ [(rd_T38 l1 x10_1).f2]) x9_1 x10_1 t245 t246 t247 t250) else (none)) else (L16_LaneKeeps.j1 k1 l1 t229 x8_1 x9_1 x10_1 t245 t246 t247 t250)) = some r := H
        have A18 := zM A180
        clear A180
        by_cases c19 : t253 = 0
        ·rw [if_pos c19] at H
         have c19b0 : (t253 == 0) = true := beq_iff_eq.mpr c19
         have c19b1 : (t253 != 0) = false := bne_eq_false_iff_eq.mpr c19
         clear c19
         by_cases c20 : x8_1.length < 8796093022208
         ·rw [if_pos c20] at H
          have LMc20 := zM c20
          clear c20
          obtain ⟨y256, hy256⟩ : ∃ y_ : List ByteArray, y_ = (x8_1 ++ [(rd_T38 l1 x10_1).f2]) := ⟨_, rfl⟩
          replace H : (L16_LaneKeeps.j1 k1 l1 t229 y256 x9_1 x10_1 t245 t246 t247 t250) = some r := by first | (rw [hy256]; with_reducible exact H) | (have H2_ := (Option.bind_some _ _).symm.trans H; rw [hy256]; with_reducible exact H2_) | (have H2_ := (Option.bind_some _ _).symm.trans H; with_reducible exact H2_) | with_reducible exact H | (rw [hy256]; exact H) | exact H
          have Ny256 := zM hy256
          clear hy256
          have H' := zM H
          clear H
          obtain ⟨Ao21, co21, eo21⟩ := Kd.V_slice HO_240002.out
          subst eo21
          obtain ⟨Ao22, co22, eo22⟩ := Kd.V_slice HO_240003.out
          subst eo22
          try go_wp2
          have n0_ := zM (zrd HO_8.out)
          have n1_ := zM (znd HO_9.out)
          have n2_ := zM (zvd HO_240002.out)
          have n3_ := zM (zvd HO_240003.out)
          have n4_ := zM (zd BK239.out)
          have n5_ := zM (zD HB.out)
          clear HO_8
          clear HO_9
          clear HO_240002
          clear HO_240003
          clear BK239
          clear HB
          have HO_8 := n0_
          have HO_9 := n1_
          have HO_240002 := n2_
          have HO_240003 := n3_
          have BK239 := n4_
          have HB := n5_
          clear n0_ n1_ n2_ n3_ n4_ n5_
          have p244 : 0 ≤ (x10_1 : Int) := zo (by first | (with_reducible assumption) | assumption)
          have q244 : x10_1 < (l1.length : Int) := zo (by first | (with_reducible assumption) | assumption)
          obtain ⟨ad244, e244, hx244_0, hx244_1, hx244_2⟩ := at_T38 HR1.out x10_1 p244 q244
          have hw244_2 := hx244_2
          have hw244_1 := hx244_1
          have hw244_0 := hx244_0
          obtain rfl : ad243 = ad244 := (by injection e244)
          replace hx244_0 := (HB.out.cell (zW w _ hx244_0)).trans hx244_0
          replace hx244_1 := (HB.out.cell (zW w _ hx244_1)).trans hx244_1
          replace hx244_2 := (HB.out.cell (zW w _ hx244_2)).trans hx244_2
          replace p244 := eq_true p244
          replace q244 := eq_true q244
          refine start_ (n := 13) (S := fun w' => w'.cell? ⟨gb239, 0, none⟩ = some (.int .i64 x240000_1) ∧ w'.cell? ⟨gb239, 1, none⟩ = some (.int .i64 x240001_1) ∧ w'.cell? ⟨gb239, 2, none⟩ = some (.slice Ao21 x240002_1.length co21) ∧ w'.cell? ⟨gb239, 3, none⟩ = some (.slice Ao22 x240003_1.length co22) ∧ w'.cell? (ad243.add ((x10_1).toNat * 3)) = some (.int .i64 ((rd_T38 l1 x10_1).f0)) ∧ w'.cell? ⟨(ad243.add ((x10_1).toNat * 3)).block, (ad243.add ((x10_1).toNat * 3)).off + 1, none⟩ = some (.int .i64 ((rd_T38 l1 x10_1).f1)) ∧ w'.cell? ⟨(ad243.add ((x10_1).toNat * 3)).block, (ad243.add ((x10_1).toNat * 3)).off + 2, none⟩ = some (.string ((rd_T38 l1 x10_1).f2))) (ds := []) mq110 (by kernel_rfl) rfl rfl ⟨(zc BK239.out 0).trans rfl, (zc BK239.out 1).trans rfl, (zc BK239.out 2).trans rfl, (zc BK239.out 3).trans rfl, ((HB.out.cell (zW w _ hw244_0)).trans hw244_0), ((HB.out.cell (zW w _ hw244_1)).trans hw244_1), ((HB.out.cell (zW w _ hw244_2)).trans hw244_2)⟩ (fun hHeld => ?_); refine with_tabW L16_LaneKeeps.tab12 L16_LaneKeeps.bits12 (fun HT_ HW_ => ?_)
          generalize wr.drew = w23 at HO_8 HO_9 HO_240002 HO_240003 BK239 HB hx244_0 hx244_1 hx244_2 hHeld ⊢
          refine pure_ (i := 1) (N := some 50) (v := ?_) (a' := ?_) mq111 rfl rfl (any_of HT_.out (by kernel_rfl)) (fun _ _ _ h => h) (Or.inl ⟨by rfl, ?_⟩) ?_ ?_
          rotate_left
          ·intro w'
           go_simp
           with_reducible rfl
          rotate_left
          ·simp only [Act.put, zA, zZ, zS, i64_w, i32_w]
           rfl
          refine pure_ (i := 2) (N := some 51) (v := ?_) (a' := ?_) mq112 rfl rfl (any_of HT_.out (by kernel_rfl)) (fun _ _ _ h => h) (Or.inl ⟨by rfl, ?_⟩) ?_ ?_
          rotate_left
          ·intro w'
           go_simp
           with_reducible rfl
          rotate_left
          ·simp only [Act.put, zA, zZ, zS, i64_w, i32_w]
           rfl
          refine pure_ (i := 3) (N := some 52) (v := ?_) (a' := ?_) mq113 rfl rfl (any_of HT_.out (by kernel_rfl)) (fun _ _ _ h => h) (Or.inl ⟨by rfl, ?_⟩) ?_ ?_
          rotate_left
          ·intro w'
           go_simp
           with_reducible rfl
          rotate_left
          ·simp only [Act.put, zA, zZ, zS, i64_w, i32_w]
           rfl
          refine pure_ (i := 4) (N := some 53) (v := ?_) (a' := ?_) mq114 rfl rfl (any_of HT_.out (by kernel_rfl)) (fun _ _ _ h => h) (Or.inl ⟨by rfl, ?_⟩) ?_ ?_
          rotate_left
          ·intro w'
           go_simp
           with_reducible rfl
          rotate_left
          ·simp only [Act.put, zA, zZ, zS, i64_w, i32_w]
           rfl
          refine take_ (i := 0) (N := some 49) (v := ?_) (a' := ?_) mq115 rfl rfl (take_ofW HT_.out HW_.out (by kernel_rfl)) (fun _ _ _ h => h) (Or.inl ⟨by rfl, ?_⟩) hHeld ?_ ?_
          rotate_left
          ·rintro w' ⟨s0, s1, s2, s3, s4, s5, s6⟩
           go_simp
           with_reducible rfl
          rotate_left
          ·simp only [Act.put, zA, zZ, zS, i64_w, i32_w]
           rfl
          refine take_ (i := 5) (N := some 54) (v := ?_) (a' := ?_) mq116 rfl rfl (take_ofW HT_.out HW_.out (by kernel_rfl)) (fun _ _ _ h => h) (Or.inl ⟨by rfl, ?_⟩) hHeld ?_ ?_
          rotate_left
          ·rintro w' ⟨s0, s1, s2, s3, s4, s5, s6⟩
           go_simp
           with_reducible rfl
          rotate_left
          ·simp only [Act.put, zA, zZ, zS, i64_w, i32_w]
           rfl
          refine join_ (σ := Value × Value × Nat) 2 mq117 (fun s_ => [(55, .tuple #[.agg #[.int .i64 t245, .int .i64 t246, s_.1, s_.2.1], .int .i64 t253]), (11, .pointer (some ⟨s_.2.2, 0, none⟩)), (48, .tuple #[.agg #[.int .i64 t245, .int .i64 t246, s_.1, s_.2.1], .int .i64 t253]), (56, .agg #[.int .i64 t245, .int .i64 t246, s_.1, s_.2.1]), (57, .int .i64 t253)]) (fun s_ w' => (w'.cell? ⟨gb239, 0, none⟩ = some (.int .i64 x240000_1) ∧ w'.cell? ⟨gb239, 1, none⟩ = some (.int .i64 x240001_1) ∧ w'.cell? ⟨gb239, 2, none⟩ = some (.slice Ao21 x240002_1.length co21) ∧ w'.cell? ⟨gb239, 3, none⟩ = some (.slice Ao22 x240003_1.length co22) ∧ w'.cell? (ad243.add ((x10_1).toNat * 3)) = some (.int .i64 ((rd_T38 l1 x10_1).f0)) ∧ w'.cell? ⟨(ad243.add ((x10_1).toNat * 3)).block, (ad243.add ((x10_1).toNat * 3)).off + 1, none⟩ = some (.int .i64 ((rd_T38 l1 x10_1).f1)) ∧ w'.cell? ⟨(ad243.add ((x10_1).toNat * 3)).block, (ad243.add ((x10_1).toNat * 3)).off + 2, none⟩ = some (.string ((rd_T38 l1 x10_1).f2))) ∧ (Kd.V Kd.string 9 w' w.heap.size (fun k_ => some k_ ≠ (u8 : Value).ownBlock ∧ some k_ ≠ (u9 : Value).ownBlock ∧ k_ ≠ gb239 ∧ k_ ≠ s_.2.2) s_.1 t247) ∧ (Kd.V k42 42 w' w.heap.size (fun k_ => some k_ ≠ (u8 : Value).ownBlock ∧ some k_ ≠ (u9 : Value).ownBlock ∧ k_ ≠ gb239 ∧ k_ ≠ s_.2.2) s_.2.1 t250) ∧ (Kd.V Kd.string 9 w' w.heap.size (fun k_ => some k_ ≠ (u8 : Value).ownBlock ∧ some k_ ≠ (u9 : Value).ownBlock ∧ k_ ≠ gb239 ∧ k_ ≠ s_.2.2) (.slice Ao21 x240002_1.length co21) x240002_1) ∧ (Kd.V k42 42 w' w.heap.size (fun k_ => some k_ ≠ (u8 : Value).ownBlock ∧ some k_ ≠ (u9 : Value).ownBlock ∧ k_ ≠ gb239 ∧ k_ ≠ s_.2.2) (.slice Ao22 x240003_1.length co22) x240003_1) ∧ (Kd.R Kd.string 9 w' w.heap.size (fun _ => True) u8 x8_1) ∧ (Kd.N k42 42 w' w.heap.size (fun k_ => some k_ ≠ (u8 : Value).ownBlock ∧ k_ ≠ gb239 ∧ k_ ≠ s_.2.2) u9 x9_1) ∧ (w'.heap[gb239]? = some (.cells #[.int .i64 x240000_1, .int .i64 x240001_1, .slice Ao21 x240002_1.length co21, .slice Ao22 x240003_1.length co22] 25 (0, 0))) ∧ (w'.heap[s_.2.2]? = some (.cells #[.int .i64 0, .int .i64 0, .slice none 0 0, .slice none 0 0] 25 (0, 0))) ∧ (w.heap.size ≤ s_.2.2) ∧ (w.heap.size ≤ s_.2.2) ∧ (gb239 ≠ s_.2.2) ∧ (s_.2.2 ≠ gb239) ∧ (Below w.heap.size w w')) ?_ ?_
          rotate_left
          ·intro hCont
           refine two_ (i := 6) (j := 10) (Ni := some 55) (Nj := some 11) mq118 mq119 rfl rfl rfl rfl (two_of HT_.out (by kernel_rfl)) (by decide) (by decide) (fun K hK => ?_) (fun K hK => ?_)
           ·skip
            refine goes_ Try.func11 (by kernel_rfl) rfl #[.agg #[.int .i64 x240000_1, .int .i64 x240001_1, .slice Ao21 x240002_1.length co21, .slice Ao22 x240003_1.length co22], .string ((rd_T38 l1 x10_1).f2)] (by rfl) rfl rfl (by (try simp only [List.map_toArray, List.map_cons, List.map_nil]); first | done | rfl | (simp only [List.length_drop, List.length_take]; rfl)) ?_
            with_reducible refine (lane_Submit.calls x240000_1 x240001_1 (fun k_ => (some k_ ≠ (u8 : Value).ownBlock ∧ (some k_ ≠ (u9 : Value).ownBlock ∧ k_ ≠ gb239))) _ _ x240002_1 (fun k_ => (some k_ ≠ (u8 : Value).ownBlock ∧ (some k_ ≠ (u9 : Value).ownBlock ∧ k_ ≠ gb239))) _ _ x240003_1 ((rd_T38 l1 x10_1).f2) t245 t246 t247 t250 t253 _ ?side1 ?side2 A18.out).mono ?_
            (case side1 => exact HO_240002.out)
            (case side2 => exact HO_240003.out)
            rintro e w24 ⟨v248, v251, rfl, ho0, ho1, hb⟩
            refine ⟨_, rfl, ?_⟩
            have n0_ := zM (Kd.R_below (by (with_reducible repeat (first | apply zra | apply zrn | apply zrd)); exact HO_8.out) hb)
            have n1_ := zM (Kd.N_below (by (with_reducible repeat (first | apply zna | apply znn | apply znd)); exact HO_9.out) hb)
            have n2_ := zM (zvb (by (with_reducible repeat (first | apply zva | apply zvn | apply zvd)); exact HO_240002.out) hb)
            have n3_ := zM (zvb (by (with_reducible repeat (first | apply zva | apply zvn | apply zvd)); exact HO_240003.out) hb)
            have n4_ := zM (Kd.V_lower (zvm (ok' := fun k_ => some k_ ≠ (u8 : Value).ownBlock ∧ some k_ ≠ (u9 : Value).ownBlock ∧ k_ ≠ gb239) ho0 (fun k_ hk_ => ⟨Or.elim hk_ (fun hs_ => Or.elim hs_ (fun hs_ => hs_.1) (fun hs_ => hs_.1)) (fun hn_ => (Kd.fresh' (Kd.R_lt (by (with_reducible repeat (first | apply zra | apply zrn | apply zrd)); exact HO_8.out)) k_ hn_)), Or.elim hk_ (fun hs_ => Or.elim hs_ (fun hs_ => hs_.2.1) (fun hs_ => hs_.2.1)) (fun hn_ => (Kd.fresh' (Kd.N_lt (by (with_reducible repeat (first | apply zna | apply znn | apply znd)); exact HO_9.out)) k_ hn_)), Or.elim hk_ (fun hs_ => Or.elim hs_ (fun hs_ => hs_.2.2) (fun hs_ => hs_.2.2)) (fun hn_ => (Kd.freshB (g := gb239) (o := .cells #[.int .i64 x240000_1, .int .i64 x240001_1, .slice Ao21 x240002_1.length co21, .slice Ao22 x240003_1.length co22] 25 (0, 0)) (by (with_reducible repeat (first | refine zn ?_ _ | refine zd ?_ | refine za ?_ _)); exact BK239.out) k_ hn_))⟩)) (zs (by repeat (first | (with_reducible first | exact HB.out | apply zL | apply zN | apply zD | refine zJ ?_ GE239.out) | exact HB.out))))
            have n5_ := zM (Kd.V_lower (zvm (ok' := fun k_ => some k_ ≠ (u8 : Value).ownBlock ∧ some k_ ≠ (u9 : Value).ownBlock ∧ k_ ≠ gb239) ho1 (fun k_ hk_ => ⟨Or.elim hk_ (fun hs_ => Or.elim hs_ (fun hs_ => hs_.1) (fun hs_ => hs_.1)) (fun hn_ => (Kd.fresh' (Kd.R_lt (by (with_reducible repeat (first | apply zra | apply zrn | apply zrd)); exact HO_8.out)) k_ hn_)), Or.elim hk_ (fun hs_ => Or.elim hs_ (fun hs_ => hs_.2.1) (fun hs_ => hs_.2.1)) (fun hn_ => (Kd.fresh' (Kd.N_lt (by (with_reducible repeat (first | apply zna | apply znn | apply znd)); exact HO_9.out)) k_ hn_)), Or.elim hk_ (fun hs_ => Or.elim hs_ (fun hs_ => hs_.2.2) (fun hs_ => hs_.2.2)) (fun hn_ => (Kd.freshB (g := gb239) (o := .cells #[.int .i64 x240000_1, .int .i64 x240001_1, .slice Ao21 x240002_1.length co21, .slice Ao22 x240003_1.length co22] 25 (0, 0)) (by (with_reducible repeat (first | refine zn ?_ _ | refine zd ?_ | refine za ?_ _)); exact BK239.out) k_ hn_))⟩)) (zs (by repeat (first | (with_reducible first | exact HB.out | apply zL | apply zN | apply zD | refine zJ ?_ GE239.out) | exact HB.out))))
            have n6_ := zM (zb (g := gb239) (o := .cells #[.int .i64 x240000_1, .int .i64 x240001_1, .slice Ao21 x240002_1.length co21, .slice Ao22 x240003_1.length co22] 25 (0, 0)) (by (with_reducible repeat (first | refine zn ?_ _ | refine zd ?_ | refine za ?_ _)); exact BK239.out) hb)
            have n7_ := zM (zp (by repeat (first | (with_reducible first | exact HB.out | apply zL | apply zN | apply zD | refine zJ ?_ GE239.out) | exact HB.out)) hb)
            clear HO_8
            clear HO_9
            clear HO_240002
            clear HO_240003
            clear BK239
            clear HB
            have HO_8 := n0_
            have HO_9 := n1_
            have HO_240002 := n2_
            have HO_240003 := n3_
            have HO249 := n4_
            have HO252 := n5_
            have BK239 := n6_
            have HB := n7_
            clear n0_ n1_ n2_ n3_ n4_ n5_ n6_ n7_
            (try clear hb)
            (try clear hb2)
            (try clear hk)
            (try clear hi)
            (try clear ho0)
            (try clear ho1)
            refine hK.out _ _ ⟨(zc BK239.out 0).trans rfl, (zc BK239.out 1).trans rfl, (zc BK239.out 2).trans rfl, (zc BK239.out 3).trans rfl, ((HB.out.cell (zW w _ hw244_0)).trans hw244_0), ((HB.out.cell (zW w _ hw244_1)).trans hw244_1), ((HB.out.cell (zW w _ hw244_2)).trans hw244_2)⟩ (fun hHeld => ?_)
            clear hK K
            refine norm_ (a' := ?_) ?_ ?_
            rotate_left
            ·show Act.put _ (some 55) _ = _
             simp only [Act.put, zA, zZ, zS, i64_w, i32_w]
             rfl
            refine pure_ (i := 7) (N := some 48) (v := ?_) (a' := ?_) mq1110 rfl rfl (any_of HT_.out (by kernel_rfl)) (fun _ _ _ h => h) (Or.inl ⟨by rfl, ?_⟩) ?_ ?_
            rotate_left
            ·intro w'
             go_simp
             with_reducible rfl
            rotate_left
            ·simp only [Act.put, zA, zZ, zS, i64_w, i32_w]
             rfl
            refine pure_ (i := 8) (N := some 56) (v := ?_) (a' := ?_) mq1111 rfl rfl (any_of HT_.out (by kernel_rfl)) (fun _ _ _ h => h) (Or.inl ⟨by rfl, ?_⟩) ?_ ?_
            rotate_left
            ·intro w'
             go_simp
             with_reducible rfl
            rotate_left
            ·simp only [Act.put, zA, zZ, zS, i64_w, i32_w]
             rfl
            refine pure_ (i := 9) (N := some 57) (v := ?_) (a' := ?_) mq1112 rfl rfl (any_of HT_.out (by kernel_rfl)) (fun _ _ _ h => h) (Or.inl ⟨by rfl, ?_⟩) ?_ ?_
            rotate_left
            ·intro w'
             go_simp
             with_reducible rfl
            rotate_left
            ·simp only [Act.put, zA, zZ, zS, i64_w, i32_w]
             rfl
            refine one_ (i := 10) (N := some 11) mq117 rfl rfl (one_of HT_.out (by kernel_rfl)) (by decide) (fun K hK => ?_)
            refine box_step ?hg (N := 11) ?hd (cs := #[.int .i64 0, .int .i64 0, .slice none 0 0, .slice none 0 0]) (t := 25) ?hr ?_; (case hd => rfl); (case hg => rfl); (case hr => first | (go_simp; done) | (go_simp; rfl))
            intro gb254 hg w25 hbox hb
            have n0_ := zM (Kd.R_below (by (with_reducible repeat (first | apply zra | apply zrn | apply zrd)); exact HO_8.out) hb)
            have n1_ := zM (Kd.N_below (Kd.N_elderB (by (with_reducible repeat (first | apply zna | apply znn | apply znd)); exact HO_9.out) gb254 (zq hg.symm)) hb)
            have n2_ := zM (zvb (zve (by (with_reducible repeat (first | apply zva | apply zvn | apply zvd)); exact HO_240002.out) gb254 (zq hg.symm)) hb)
            have n3_ := zM (zvb (zve (by (with_reducible repeat (first | apply zva | apply zvn | apply zvd)); exact HO_240003.out) gb254 (zq hg.symm)) hb)
            have n4_ := zM (zvb (zve (by (with_reducible repeat (first | apply zva | apply zvn | apply zvd)); exact HO249.out) gb254 (zq hg.symm)) hb)
            have n5_ := zM (zvb (zve (by (with_reducible repeat (first | apply zva | apply zvn | apply zvd)); exact HO252.out) gb254 (zq hg.symm)) hb)
            have n6_ := zM (zb (g := gb239) (o := .cells #[.int .i64 x240000_1, .int .i64 x240001_1, .slice Ao21 x240002_1.length co21, .slice Ao22 x240003_1.length co22] 25 (0, 0)) (by (with_reducible repeat (first | refine zn ?_ _ | refine zd ?_ | refine za ?_ _)); exact BK239.out) hb)
            have n7_ := zM (zp (by repeat (first | (with_reducible first | exact HB.out | apply zL | apply zN | apply zD | refine zJ ?_ GE239.out) | exact HB.out)) hb)
            have n8_ := zM (hbox)
            have n9_ := zM ((by rw [hg]; exact (zs (by repeat (first | (with_reducible first | exact HB.out | apply zL | apply zN | apply zD | refine zJ ?_ GE239.out) | exact HB.out))) : w.heap.size ≤ gb254))
            have n10_ := zM ((by rw [hg]; exact (zs (by repeat (first | (with_reducible first | exact HB.out | apply zL | apply zN | apply zD | refine zJ ?_ GE239.out) | exact HB.out))) : w.heap.size ≤ gb254))
            have n11_ := zM ((by rw [hg]; exact zt (blk_lt (g := gb239) (o := .cells #[.int .i64 x240000_1, .int .i64 x240001_1, .slice Ao21 x240002_1.length co21, .slice Ao22 x240003_1.length co22] 25 (0, 0)) (by (with_reducible repeat (first | refine zn ?_ _ | refine zd ?_ | refine za ?_ _)); exact BK239.out)) : gb239 ≠ gb254))
            have n12_ := zM ((by rw [hg]; exact Nat.ne_of_gt (blk_lt (g := gb239) (o := .cells #[.int .i64 x240000_1, .int .i64 x240001_1, .slice Ao21 x240002_1.length co21, .slice Ao22 x240003_1.length co22] 25 (0, 0)) (by (with_reducible repeat (first | refine zn ?_ _ | refine zd ?_ | refine za ?_ _)); exact BK239.out)) : gb254 ≠ gb239))
            clear HO_8
            clear HO_9
            clear HO_240002
            clear HO_240003
            clear HO249
            clear HO252
            clear BK239
            clear HB
            have HO_8 := n0_
            have HO_9 := n1_
            have HO_240002 := n2_
            have HO_240003 := n3_
            have HO249 := n4_
            have HO252 := n5_
            have BK239 := n6_
            have HB := n7_
            have BK254 := n8_
            have GW254 := n9_
            have GE254 := n10_
            have NB239_254 := n11_
            have NB254_239 := n12_
            clear n0_ n1_ n2_ n3_ n4_ n5_ n6_ n7_ n8_ n9_ n10_ n11_ n12_
            clear hb hbox hg
            refine hK.out _ _ ⟨(zc BK239.out 0).trans rfl, (zc BK239.out 1).trans rfl, (zc BK239.out 2).trans rfl, (zc BK239.out 3).trans rfl, ((HB.out.cell (zW w _ hw244_0)).trans hw244_0), ((HB.out.cell (zW w _ hw244_1)).trans hw244_1), ((HB.out.cell (zW w _ hw244_2)).trans hw244_2)⟩ (fun hHeld => ?_)
            clear hK K
            refine norm_ (a' := ?_) ?_ ?_
            rotate_left
            ·show Act.put _ (some 11) _ = _
             simp only [Act.put, zA, zZ, zS, i64_w, i32_w]
             rfl
            exact norm_ (by simp only [putAll, Act.put, zA, zZ, zS]) (hCont (v248, v251, gb254) _ ⟨hHeld, (by (with_reducible repeat (first | apply zva | apply zvn | apply zvd)); exact zvm HO249.out (fun _ hk => ⟨hk.1.1, ⟨hk.1.2.1, ⟨hk.1.2.2, hk.2⟩⟩⟩)), (by (with_reducible repeat (first | apply zva | apply zvn | apply zvd)); exact zvm HO252.out (fun _ hk => ⟨hk.1.1, ⟨hk.1.2.1, ⟨hk.1.2.2, hk.2⟩⟩⟩)), (by (with_reducible repeat (first | apply zva | apply zvn | apply zvd)); exact zvm HO_240002.out (fun _ hk => ⟨hk.1.1, ⟨hk.1.2.1, ⟨hk.1.2.2, hk.2⟩⟩⟩)), (by (with_reducible repeat (first | apply zva | apply zvn | apply zvd)); exact zvm HO_240003.out (fun _ hk => ⟨hk.1.1, ⟨hk.1.2.1, ⟨hk.1.2.2, hk.2⟩⟩⟩)), (by (with_reducible repeat (first | apply zra | apply zrn | apply zrd)); exact HO_8.out), (by (with_reducible repeat (first | apply zna | apply znn | apply znd)); exact znm HO_9.out (fun _ hk => ⟨hk.1.1, ⟨hk.1.2, hk.2⟩⟩)), (by (with_reducible repeat (first | refine zn ?_ _ | refine zd ?_ | refine za ?_ _)); exact BK239.out), (by (with_reducible repeat (first | refine zn ?_ _ | refine zd ?_ | refine za ?_ _)); exact BK254.out), GW254.out, GE254.out, NB239_254.out, NB254_239.out, (by repeat (first | (with_reducible first | exact HB.out | apply zL | apply zN | apply zD | refine zJ ?_ GE239.out | refine zJ ?_ GE254.out) | exact HB.out))⟩)
           ·skip
            refine box_step ?hg (N := 11) ?hd (cs := #[.int .i64 0, .int .i64 0, .slice none 0 0, .slice none 0 0]) (t := 25) ?hr ?_; (case hd => rfl); (case hg => rfl); (case hr => first | (go_simp; done) | (go_simp; rfl))
            intro gb254 hg w24 hbox hb
            have n0_ := zM (Kd.R_below (by (with_reducible repeat (first | apply zra | apply zrn | apply zrd)); exact HO_8.out) hb)
            have n1_ := zM (Kd.N_below (Kd.N_elderB (by (with_reducible repeat (first | apply zna | apply znn | apply znd)); exact HO_9.out) gb254 (zq hg.symm)) hb)
            have n2_ := zM (zvb (zve (by (with_reducible repeat (first | apply zva | apply zvn | apply zvd)); exact HO_240002.out) gb254 (zq hg.symm)) hb)
            have n3_ := zM (zvb (zve (by (with_reducible repeat (first | apply zva | apply zvn | apply zvd)); exact HO_240003.out) gb254 (zq hg.symm)) hb)
            have n4_ := zM (zb (g := gb239) (o := .cells #[.int .i64 x240000_1, .int .i64 x240001_1, .slice Ao21 x240002_1.length co21, .slice Ao22 x240003_1.length co22] 25 (0, 0)) (by (with_reducible repeat (first | refine zn ?_ _ | refine zd ?_ | refine za ?_ _)); exact BK239.out) hb)
            have n5_ := zM (zp (by repeat (first | (with_reducible first | exact HB.out | apply zL | apply zN | apply zD | refine zJ ?_ GE239.out) | exact HB.out)) hb)
            have n6_ := zM (hbox)
            have n7_ := zM ((by rw [hg]; exact (zs (by repeat (first | (with_reducible first | exact HB.out | apply zL | apply zN | apply zD | refine zJ ?_ GE239.out) | exact HB.out))) : w.heap.size ≤ gb254))
            have n8_ := zM ((by rw [hg]; exact (zs (by repeat (first | (with_reducible first | exact HB.out | apply zL | apply zN | apply zD | refine zJ ?_ GE239.out) | exact HB.out))) : w.heap.size ≤ gb254))
            have n9_ := zM ((by rw [hg]; exact zt (blk_lt (g := gb239) (o := .cells #[.int .i64 x240000_1, .int .i64 x240001_1, .slice Ao21 x240002_1.length co21, .slice Ao22 x240003_1.length co22] 25 (0, 0)) (by (with_reducible repeat (first | refine zn ?_ _ | refine zd ?_ | refine za ?_ _)); exact BK239.out)) : gb239 ≠ gb254))
            have n10_ := zM ((by rw [hg]; exact Nat.ne_of_gt (blk_lt (g := gb239) (o := .cells #[.int .i64 x240000_1, .int .i64 x240001_1, .slice Ao21 x240002_1.length co21, .slice Ao22 x240003_1.length co22] 25 (0, 0)) (by (with_reducible repeat (first | refine zn ?_ _ | refine zd ?_ | refine za ?_ _)); exact BK239.out)) : gb254 ≠ gb239))
            clear HO_8
            clear HO_9
            clear HO_240002
            clear HO_240003
            clear BK239
            clear HB
            have HO_8 := n0_
            have HO_9 := n1_
            have HO_240002 := n2_
            have HO_240003 := n3_
            have BK239 := n4_
            have HB := n5_
            have BK254 := n6_
            have GW254 := n7_
            have GE254 := n8_
            have NB239_254 := n9_
            have NB254_239 := n10_
            clear n0_ n1_ n2_ n3_ n4_ n5_ n6_ n7_ n8_ n9_ n10_
            clear hb hbox hg
            refine hK.out _ _ ⟨(zc BK239.out 0).trans rfl, (zc BK239.out 1).trans rfl, (zc BK239.out 2).trans rfl, (zc BK239.out 3).trans rfl, ((HB.out.cell (zW w _ hw244_0)).trans hw244_0), ((HB.out.cell (zW w _ hw244_1)).trans hw244_1), ((HB.out.cell (zW w _ hw244_2)).trans hw244_2)⟩ (fun hHeld => ?_)
            clear hK K
            refine norm_ (a' := ?_) ?_ ?_
            rotate_left
            ·show Act.put _ (some 11) _ = _
             simp only [Act.put, zA, zZ, zS, i64_w, i32_w]
             rfl
            refine one_ (i := 6) (N := some 55) mq1113 rfl rfl (one_of HT_.out (by kernel_rfl)) (by decide) (fun K hK => ?_)
            refine goes_ Try.func11 (by kernel_rfl) rfl #[.agg #[.int .i64 x240000_1, .int .i64 x240001_1, .slice Ao21 x240002_1.length co21, .slice Ao22 x240003_1.length co22], .string ((rd_T38 l1 x10_1).f2)] (by rfl) rfl rfl (by (try simp only [List.map_toArray, List.map_cons, List.map_nil]); first | done | rfl | (simp only [List.length_drop, List.length_take]; rfl)) ?_
            with_reducible refine (lane_Submit.calls x240000_1 x240001_1 (fun k_ => ((some k_ ≠ (u8 : Value).ownBlock ∧ (some k_ ≠ (u9 : Value).ownBlock ∧ k_ ≠ gb239)) ∧ k_ ≠ gb254)) _ _ x240002_1 (fun k_ => ((some k_ ≠ (u8 : Value).ownBlock ∧ (some k_ ≠ (u9 : Value).ownBlock ∧ k_ ≠ gb239)) ∧ k_ ≠ gb254)) _ _ x240003_1 ((rd_T38 l1 x10_1).f2) t245 t246 t247 t250 t253 _ ?side1 ?side2 A18.out).mono ?_
            (case side1 => exact HO_240002.out)
            (case side2 => exact HO_240003.out)
            rintro e w25 ⟨v248, v251, rfl, ho0, ho1, hb⟩
            refine ⟨_, rfl, ?_⟩
            have n0_ := zM (Kd.R_below (by (with_reducible repeat (first | apply zra | apply zrn | apply zrd)); exact HO_8.out) hb)
            have n1_ := zM (Kd.N_below (by (with_reducible repeat (first | apply zna | apply znn | apply znd)); exact HO_9.out) hb)
            have n2_ := zM (zvb (by (with_reducible repeat (first | apply zva | apply zvn | apply zvd)); exact HO_240002.out) hb)
            have n3_ := zM (zvb (by (with_reducible repeat (first | apply zva | apply zvn | apply zvd)); exact HO_240003.out) hb)
            have n4_ := zM (Kd.V_lower (zvm (ok' := fun k_ => some k_ ≠ (u8 : Value).ownBlock ∧ some k_ ≠ (u9 : Value).ownBlock ∧ k_ ≠ gb239 ∧ k_ ≠ gb254) ho0 (fun k_ hk_ => ⟨Or.elim hk_ (fun hs_ => Or.elim hs_ (fun hs_ => hs_.1.1) (fun hs_ => hs_.1.1)) (fun hn_ => (Kd.fresh' (Kd.R_lt (by (with_reducible repeat (first | apply zra | apply zrn | apply zrd)); exact HO_8.out)) k_ hn_)), Or.elim hk_ (fun hs_ => Or.elim hs_ (fun hs_ => hs_.1.2.1) (fun hs_ => hs_.1.2.1)) (fun hn_ => (Kd.fresh' (Kd.N_lt (by (with_reducible repeat (first | apply zna | apply znn | apply znd)); exact HO_9.out)) k_ hn_)), Or.elim hk_ (fun hs_ => Or.elim hs_ (fun hs_ => hs_.1.2.2) (fun hs_ => hs_.1.2.2)) (fun hn_ => (Kd.freshB (g := gb239) (o := .cells #[.int .i64 x240000_1, .int .i64 x240001_1, .slice Ao21 x240002_1.length co21, .slice Ao22 x240003_1.length co22] 25 (0, 0)) (by (with_reducible repeat (first | refine zn ?_ _ | refine zd ?_ | refine za ?_ _)); exact BK239.out) k_ hn_)), Or.elim hk_ (fun hs_ => Or.elim hs_ (fun hs_ => hs_.2) (fun hs_ => hs_.2)) (fun hn_ => (Kd.freshB (g := gb254) (o := .cells #[.int .i64 0, .int .i64 0, .slice none 0 0, .slice none 0 0] 25 (0, 0)) (by (with_reducible repeat (first | refine zn ?_ _ | refine zd ?_ | refine za ?_ _)); exact BK254.out) k_ hn_))⟩)) (zs (by repeat (first | (with_reducible first | exact HB.out | apply zL | apply zN | apply zD | refine zJ ?_ GE239.out | refine zJ ?_ GE254.out) | exact HB.out))))
            have n5_ := zM (Kd.V_lower (zvm (ok' := fun k_ => some k_ ≠ (u8 : Value).ownBlock ∧ some k_ ≠ (u9 : Value).ownBlock ∧ k_ ≠ gb239 ∧ k_ ≠ gb254) ho1 (fun k_ hk_ => ⟨Or.elim hk_ (fun hs_ => Or.elim hs_ (fun hs_ => hs_.1.1) (fun hs_ => hs_.1.1)) (fun hn_ => (Kd.fresh' (Kd.R_lt (by (with_reducible repeat (first | apply zra | apply zrn | apply zrd)); exact HO_8.out)) k_ hn_)), Or.elim hk_ (fun hs_ => Or.elim hs_ (fun hs_ => hs_.1.2.1) (fun hs_ => hs_.1.2.1)) (fun hn_ => (Kd.fresh' (Kd.N_lt (by (with_reducible repeat (first | apply zna | apply znn | apply znd)); exact HO_9.out)) k_ hn_)), Or.elim hk_ (fun hs_ => Or.elim hs_ (fun hs_ => hs_.1.2.2) (fun hs_ => hs_.1.2.2)) (fun hn_ => (Kd.freshB (g := gb239) (o := .cells #[.int .i64 x240000_1, .int .i64 x240001_1, .slice Ao21 x240002_1.length co21, .slice Ao22 x240003_1.length co22] 25 (0, 0)) (by (with_reducible repeat (first | refine zn ?_ _ | refine zd ?_ | refine za ?_ _)); exact BK239.out) k_ hn_)), Or.elim hk_ (fun hs_ => Or.elim hs_ (fun hs_ => hs_.2) (fun hs_ => hs_.2)) (fun hn_ => (Kd.freshB (g := gb254) (o := .cells #[.int .i64 0, .int .i64 0, .slice none 0 0, .slice none 0 0] 25 (0, 0)) (by (with_reducible repeat (first | refine zn ?_ _ | refine zd ?_ | refine za ?_ _)); exact BK254.out) k_ hn_))⟩)) (zs (by repeat (first | (with_reducible first | exact HB.out | apply zL | apply zN | apply zD | refine zJ ?_ GE239.out | refine zJ ?_ GE254.out) | exact HB.out))))
            have n6_ := zM (zb (g := gb239) (o := .cells #[.int .i64 x240000_1, .int .i64 x240001_1, .slice Ao21 x240002_1.length co21, .slice Ao22 x240003_1.length co22] 25 (0, 0)) (by (with_reducible repeat (first | refine zn ?_ _ | refine zd ?_ | refine za ?_ _)); exact BK239.out) hb)
            have n7_ := zM (zb (g := gb254) (o := .cells #[.int .i64 0, .int .i64 0, .slice none 0 0, .slice none 0 0] 25 (0, 0)) (by (with_reducible repeat (first | refine zn ?_ _ | refine zd ?_ | refine za ?_ _)); exact BK254.out) hb)
            have n8_ := zM (zp (by repeat (first | (with_reducible first | exact HB.out | apply zL | apply zN | apply zD | refine zJ ?_ GE239.out | refine zJ ?_ GE254.out) | exact HB.out)) hb)
            clear HO_8
            clear HO_9
            clear HO_240002
            clear HO_240003
            clear BK239
            clear BK254
            clear HB
            have HO_8 := n0_
            have HO_9 := n1_
            have HO_240002 := n2_
            have HO_240003 := n3_
            have HO249 := n4_
            have HO252 := n5_
            have BK239 := n6_
            have BK254 := n7_
            have HB := n8_
            clear n0_ n1_ n2_ n3_ n4_ n5_ n6_ n7_ n8_
            (try clear hb)
            (try clear hb2)
            (try clear hk)
            (try clear hi)
            (try clear ho0)
            (try clear ho1)
            refine hK.out _ _ ⟨(zc BK239.out 0).trans rfl, (zc BK239.out 1).trans rfl, (zc BK239.out 2).trans rfl, (zc BK239.out 3).trans rfl, ((HB.out.cell (zW w _ hw244_0)).trans hw244_0), ((HB.out.cell (zW w _ hw244_1)).trans hw244_1), ((HB.out.cell (zW w _ hw244_2)).trans hw244_2)⟩ (fun hHeld => ?_)
            clear hK K
            refine norm_ (a' := ?_) ?_ ?_
            rotate_left
            ·show Act.put _ (some 55) _ = _
             simp only [Act.put, zA, zZ, zS, i64_w, i32_w]
             rfl
            refine pure_ (i := 7) (N := some 48) (v := ?_) (a' := ?_) mq1114 rfl rfl (any_of HT_.out (by kernel_rfl)) (fun _ _ _ h => h) (Or.inl ⟨by rfl, ?_⟩) ?_ ?_
            rotate_left
            ·intro w'
             go_simp
             with_reducible rfl
            rotate_left
            ·simp only [Act.put, zA, zZ, zS, i64_w, i32_w]
             rfl
            refine pure_ (i := 8) (N := some 56) (v := ?_) (a' := ?_) mq1115 rfl rfl (any_of HT_.out (by kernel_rfl)) (fun _ _ _ h => h) (Or.inl ⟨by rfl, ?_⟩) ?_ ?_
            rotate_left
            ·intro w'
             go_simp
             with_reducible rfl
            rotate_left
            ·simp only [Act.put, zA, zZ, zS, i64_w, i32_w]
             rfl
            refine pure_ (i := 9) (N := some 57) (v := ?_) (a' := ?_) mq117 rfl rfl (any_of HT_.out (by kernel_rfl)) (fun _ _ _ h => h) (Or.inl ⟨by rfl, ?_⟩) ?_ ?_
            rotate_left
            ·intro w'
             go_simp
             with_reducible rfl
            rotate_left
            ·simp only [Act.put, zA, zZ, zS, i64_w, i32_w]
             rfl
            exact norm_ (by simp only [putAll, Act.put, zA, zZ, zS]) (hCont (v248, v251, gb254) _ ⟨hHeld, (by (with_reducible repeat (first | apply zva | apply zvn | apply zvd)); exact HO249.out), (by (with_reducible repeat (first | apply zva | apply zvn | apply zvd)); exact HO252.out), (by (with_reducible repeat (first | apply zva | apply zvn | apply zvd)); exact zvm HO_240002.out (fun _ hk => ⟨hk.1.1, ⟨hk.1.2.1, ⟨hk.1.2.2, hk.2⟩⟩⟩)), (by (with_reducible repeat (first | apply zva | apply zvn | apply zvd)); exact zvm HO_240003.out (fun _ hk => ⟨hk.1.1, ⟨hk.1.2.1, ⟨hk.1.2.2, hk.2⟩⟩⟩)), (by (with_reducible repeat (first | apply zra | apply zrn | apply zrd)); exact HO_8.out), (by (with_reducible repeat (first | apply zna | apply znn | apply znd)); exact znm HO_9.out (fun _ hk => ⟨hk.1.1, ⟨hk.1.2, hk.2⟩⟩)), (by (with_reducible repeat (first | refine zn ?_ _ | refine zd ?_ | refine za ?_ _)); exact BK239.out), (by (with_reducible repeat (first | refine zn ?_ _ | refine zd ?_ | refine za ?_ _)); exact BK254.out), GW254.out, GE254.out, NB239_254.out, NB254_239.out, (by repeat (first | (with_reducible first | exact HB.out | apply zL | apply zN | apply zD | refine zJ ?_ GE239.out | refine zJ ?_ GE254.out) | exact HB.out))⟩)
          rintro ⟨v248, v251, gb254⟩ w26 ⟨hS_, h0_, h1_, h2_, h3_, h4_, h5_, h6_, h7_, h8_, h9_, h10_, h11_, h12_⟩
          have n0_ : Aside0 (Kd.V Kd.string 9 w26 w.heap.size (fun k_ => some k_ ≠ (u8 : Value).ownBlock ∧ some k_ ≠ (u9 : Value).ownBlock ∧ k_ ≠ gb239 ∧ k_ ≠ gb254) v248 t247) := ⟨h0_⟩
          have n1_ : Aside0 (Kd.V k42 42 w26 w.heap.size (fun k_ => some k_ ≠ (u8 : Value).ownBlock ∧ some k_ ≠ (u9 : Value).ownBlock ∧ k_ ≠ gb239 ∧ k_ ≠ gb254) v251 t250) := ⟨h1_⟩
          have n2_ : Aside0 (Kd.V Kd.string 9 w26 w.heap.size (fun k_ => some k_ ≠ (u8 : Value).ownBlock ∧ some k_ ≠ (u9 : Value).ownBlock ∧ k_ ≠ gb239 ∧ k_ ≠ gb254) (.slice Ao21 x240002_1.length co21) x240002_1) := ⟨h2_⟩
          have n3_ : Aside0 (Kd.V k42 42 w26 w.heap.size (fun k_ => some k_ ≠ (u8 : Value).ownBlock ∧ some k_ ≠ (u9 : Value).ownBlock ∧ k_ ≠ gb239 ∧ k_ ≠ gb254) (.slice Ao22 x240003_1.length co22) x240003_1) := ⟨h3_⟩
          have n4_ : Aside0 (Kd.R Kd.string 9 w26 w.heap.size (fun _ => True) u8 x8_1) := ⟨h4_⟩
          have n5_ : Aside0 (Kd.N k42 42 w26 w.heap.size (fun k_ => some k_ ≠ (u8 : Value).ownBlock ∧ k_ ≠ gb239 ∧ k_ ≠ gb254) u9 x9_1) := ⟨h5_⟩
          have n6_ : Aside0 (w26.heap[gb239]? = some (.cells #[.int .i64 x240000_1, .int .i64 x240001_1, .slice Ao21 x240002_1.length co21, .slice Ao22 x240003_1.length co22] 25 (0, 0))) := ⟨h6_⟩
          have n7_ : Aside0 (w26.heap[gb254]? = some (.cells #[.int .i64 0, .int .i64 0, .slice none 0 0, .slice none 0 0] 25 (0, 0))) := ⟨h7_⟩
          have n8_ : Aside0 (w.heap.size ≤ gb254) := ⟨h8_⟩
          have n9_ : Aside0 (w.heap.size ≤ gb254) := ⟨h9_⟩
          have n10_ : Aside0 (gb239 ≠ gb254) := ⟨h10_⟩
          have n11_ : Aside0 (gb254 ≠ gb239) := ⟨h11_⟩
          have n12_ : Aside0 (Below w.heap.size w w26) := ⟨h12_⟩
          clear HO_8
          clear HO_9
          clear HO_240002
          clear HO_240003
          clear BK239
          clear HB
          clear h0_ h1_ h2_ h3_ h4_ h5_ h6_ h7_ h8_ h9_ h10_ h11_ h12_
          have HO249 := n0_
          have HO252 := n1_
          have HO_240002 := n2_
          have HO_240003 := n3_
          have HO_8 := n4_
          have HO_9 := n5_
          have BK239 := n6_
          have BK254 := n7_
          have GW254 := n8_
          have GE254 := n9_
          have NB239_254 := n10_
          have NB254_239 := n11_
          have HB := n12_
          clear n0_ n1_ n2_ n3_ n4_ n5_ n6_ n7_ n8_ n9_ n10_ n11_ n12_
          have hHeld : w26.cell? ⟨gb239, 0, none⟩ = some (.int .i64 x240000_1) ∧ w26.cell? ⟨gb239, 1, none⟩ = some (.int .i64 x240001_1) ∧ w26.cell? ⟨gb239, 2, none⟩ = some (.slice Ao21 x240002_1.length co21) ∧ w26.cell? ⟨gb239, 3, none⟩ = some (.slice Ao22 x240003_1.length co22) ∧ w26.cell? (ad243.add ((x10_1).toNat * 3)) = some (.int .i64 ((rd_T38 l1 x10_1).f0)) ∧ w26.cell? ⟨(ad243.add ((x10_1).toNat * 3)).block, (ad243.add ((x10_1).toNat * 3)).off + 1, none⟩ = some (.int .i64 ((rd_T38 l1 x10_1).f1)) ∧ w26.cell? ⟨(ad243.add ((x10_1).toNat * 3)).block, (ad243.add ((x10_1).toNat * 3)).off + 2, none⟩ = some (.string ((rd_T38 l1 x10_1).f2)) := hS_
          obtain ⟨Ao29, co29, eo29⟩ := Kd.V_slice HO249.out
          (first | subst eo29 | (injection eo29 with f1_ f2_ f3_; have f4_ := f1_.symm; have f5_ := f3_.symm; clear f1_ f2_ f3_; subst f4_; subst f5_))
          obtain ⟨Ao31, co31, eo31⟩ := Kd.V_slice HO252.out
          (first | subst eo31 | (injection eo31 with f1_ f2_ f3_; have f4_ := f1_.symm; have f5_ := f3_.symm; clear f1_ f2_ f3_; subst f4_; subst f5_))
          refine norm_ (a' := ?_) ?_ ?_
          rotate_left
          ·simp only [putAll, Act.put, zA, zZ, zS]
           rfl
          refine one_ (i := 11) (N := none) mq1116 rfl rfl (one_of HT_.out (by kernel_rfl)) (by decide) (fun K hK => ?_)
          have hs27 : w26.cell? ⟨gb254, 0, none⟩ = some (.int .i64 0) := (zc BK254.out 0).trans rfl
          have hfs27 := zf BK254.out 0
          have hns27_0 := NB239_254.out
          have hms27_0 := NB254_239.out
          have hs28 : w26.cell? ⟨gb254, 1, none⟩ = some (.int .i64 0) := (zc BK254.out 1).trans rfl
          have hfs28 := zf BK254.out 1
          have hns28_0 := NB239_254.out
          have hms28_0 := NB254_239.out
          have hs30 : w26.cell? ⟨gb254, 2, none⟩ = some (.slice none 0 0) := (zc BK254.out 2).trans rfl
          have hfs30 := zf BK254.out 2
          have hns30_0 := NB239_254.out
          have hms30_0 := NB254_239.out
          have hs32 : w26.cell? ⟨gb254, 3, none⟩ = some (.slice none 0 0) := (zc BK254.out 3).trans rfl
          have hfs32 := zf BK254.out 3
          have hns32_0 := NB239_254.out
          have hms32_0 := NB254_239.out
          refine skip_ (w1 := ?_) (by rfl) rfl ?_ ?_
          rotate_left
          ·go_simp
           rfl
          refine hK.out _ _ ⟨((cell_far (p := ⟨gb254, _, none⟩) NB239_254.out _).trans (((cell_far (p := ⟨gb254, _, none⟩) NB239_254.out _).trans (((cell_far (p := ⟨gb254, _, none⟩) NB239_254.out _).trans (((cell_far (p := ⟨gb254, _, none⟩) NB239_254.out _).trans (hHeld.1)))))))), ((cell_far (p := ⟨gb254, _, none⟩) NB239_254.out _).trans (((cell_far (p := ⟨gb254, _, none⟩) NB239_254.out _).trans (((cell_far (p := ⟨gb254, _, none⟩) NB239_254.out _).trans (((cell_far (p := ⟨gb254, _, none⟩) NB239_254.out _).trans (hHeld.2.1)))))))), ((cell_far (p := ⟨gb254, _, none⟩) NB239_254.out _).trans (((cell_far (p := ⟨gb254, _, none⟩) NB239_254.out _).trans (((cell_far (p := ⟨gb254, _, none⟩) NB239_254.out _).trans (((cell_far (p := ⟨gb254, _, none⟩) NB239_254.out _).trans (hHeld.2.2.1)))))))), ((cell_far (p := ⟨gb254, _, none⟩) NB239_254.out _).trans (((cell_far (p := ⟨gb254, _, none⟩) NB239_254.out _).trans (((cell_far (p := ⟨gb254, _, none⟩) NB239_254.out _).trans (((cell_far (p := ⟨gb254, _, none⟩) NB239_254.out _).trans (hHeld.2.2.2.1)))))))), ((cell_far (p := ⟨gb254, _, none⟩) (by first | exact zt (zl (by have := zW _ _ hw244_0; first | rwa [add_block] at this | exact this) GW254.out) | (rw [add_block]; exact zt (zl (by have := zW _ _ hw244_0; first | rwa [add_block] at this | exact this) GW254.out)) | (show (Addr.add _ _).block ≠ _; rw [add_block]; exact zt (zl (by have := zW _ _ hw244_0; first | rwa [add_block] at this | exact this) GW254.out)) | (dsimp only; exact zt (zl (by have := zW _ _ hw244_0; first | rwa [add_block] at this | exact this) GW254.out))) _).trans (((cell_far (p := ⟨gb254, _, none⟩) (by first | exact zt (zl (by have := zW _ _ hw244_0; first | rwa [add_block] at this | exact this) GW254.out) | (rw [add_block]; exact zt (zl (by have := zW _ _ hw244_0; first | rwa [add_block] at this | exact this) GW254.out)) | (show (Addr.add _ _).block ≠ _; rw [add_block]; exact zt (zl (by have := zW _ _ hw244_0; first | rwa [add_block] at this | exact this) GW254.out)) | (dsimp only; exact zt (zl (by have := zW _ _ hw244_0; first | rwa [add_block] at this | exact this) GW254.out))) _).trans (((cell_far (p := ⟨gb254, _, none⟩) (by first | exact zt (zl (by have := zW _ _ hw244_0; first | rwa [add_block] at this | exact this) GW254.out) | (rw [add_block]; exact zt (zl (by have := zW _ _ hw244_0; first | rwa [add_block] at this | exact this) GW254.out)) | (show (Addr.add _ _).block ≠ _; rw [add_block]; exact zt (zl (by have := zW _ _ hw244_0; first | rwa [add_block] at this | exact this) GW254.out)) | (dsimp only; exact zt (zl (by have := zW _ _ hw244_0; first | rwa [add_block] at this | exact this) GW254.out))) _).trans (((cell_far (p := ⟨gb254, _, none⟩) (by first | exact zt (zl (by have := zW _ _ hw244_0; first | rwa [add_block] at this | exact this) GW254.out) | (rw [add_block]; exact zt (zl (by have := zW _ _ hw244_0; first | rwa [add_block] at this | exact this) GW254.out)) | (show (Addr.add _ _).block ≠ _; rw [add_block]; exact zt (zl (by have := zW _ _ hw244_0; first | rwa [add_block] at this | exact this) GW254.out)) | (dsimp only; exact zt (zl (by have := zW _ _ hw244_0; first | rwa [add_block] at this | exact this) GW254.out))) _).trans (hHeld.2.2.2.2.1)))))))), ((cell_far (p := ⟨gb254, _, none⟩) (by first | exact zt (zl (by have := zW _ _ hw244_1; first | rwa [add_block] at this | exact this) GW254.out) | (rw [add_block]; exact zt (zl (by have := zW _ _ hw244_1; first | rwa [add_block] at this | exact this) GW254.out)) | (show (Addr.add _ _).block ≠ _; rw [add_block]; exact zt (zl (by have := zW _ _ hw244_1; first | rwa [add_block] at this | exact this) GW254.out)) | (dsimp only; exact zt (zl (by have := zW _ _ hw244_1; first | rwa [add_block] at this | exact this) GW254.out))) _).trans (((cell_far (p := ⟨gb254, _, none⟩) (by first | exact zt (zl (by have := zW _ _ hw244_1; first | rwa [add_block] at this | exact this) GW254.out) | (rw [add_block]; exact zt (zl (by have := zW _ _ hw244_1; first | rwa [add_block] at this | exact this) GW254.out)) | (show (Addr.add _ _).block ≠ _; rw [add_block]; exact zt (zl (by have := zW _ _ hw244_1; first | rwa [add_block] at this | exact this) GW254.out)) | (dsimp only; exact zt (zl (by have := zW _ _ hw244_1; first | rwa [add_block] at this | exact this) GW254.out))) _).trans (((cell_far (p := ⟨gb254, _, none⟩) (by first | exact zt (zl (by have := zW _ _ hw244_1; first | rwa [add_block] at this | exact this) GW254.out) | (rw [add_block]; exact zt (zl (by have := zW _ _ hw244_1; first | rwa [add_block] at this | exact this) GW254.out)) | (show (Addr.add _ _).block ≠ _; rw [add_block]; exact zt (zl (by have := zW _ _ hw244_1; first | rwa [add_block] at this | exact this) GW254.out)) | (dsimp only; exact zt (zl (by have := zW _ _ hw244_1; first | rwa [add_block] at this | exact this) GW254.out))) _).trans (((cell_far (p := ⟨gb254, _, none⟩) (by first | exact zt (zl (by have := zW _ _ hw244_1; first | rwa [add_block] at this | exact this) GW254.out) | (rw [add_block]; exact zt (zl (by have := zW _ _ hw244_1; first | rwa [add_block] at this | exact this) GW254.out)) | (show (Addr.add _ _).block ≠ _; rw [add_block]; exact zt (zl (by have := zW _ _ hw244_1; first | rwa [add_block] at this | exact this) GW254.out)) | (dsimp only; exact zt (zl (by have := zW _ _ hw244_1; first | rwa [add_block] at this | exact this) GW254.out))) _).trans (hHeld.2.2.2.2.2.1)))))))), ((cell_far (p := ⟨gb254, _, none⟩) (by first | exact zt (zl (by have := zW _ _ hw244_2; first | rwa [add_block] at this | exact this) GW254.out) | (rw [add_block]; exact zt (zl (by have := zW _ _ hw244_2; first | rwa [add_block] at this | exact this) GW254.out)) | (show (Addr.add _ _).block ≠ _; rw [add_block]; exact zt (zl (by have := zW _ _ hw244_2; first | rwa [add_block] at this | exact this) GW254.out)) | (dsimp only; exact zt (zl (by have := zW _ _ hw244_2; first | rwa [add_block] at this | exact this) GW254.out))) _).trans (((cell_far (p := ⟨gb254, _, none⟩) (by first | exact zt (zl (by have := zW _ _ hw244_2; first | rwa [add_block] at this | exact this) GW254.out) | (rw [add_block]; exact zt (zl (by have := zW _ _ hw244_2; first | rwa [add_block] at this | exact this) GW254.out)) | (show (Addr.add _ _).block ≠ _; rw [add_block]; exact zt (zl (by have := zW _ _ hw244_2; first | rwa [add_block] at this | exact this) GW254.out)) | (dsimp only; exact zt (zl (by have := zW _ _ hw244_2; first | rwa [add_block] at this | exact this) GW254.out))) _).trans (((cell_far (p := ⟨gb254, _, none⟩) (by first | exact zt (zl (by have := zW _ _ hw244_2; first | rwa [add_block] at this | exact this) GW254.out) | (rw [add_block]; exact zt (zl (by have := zW _ _ hw244_2; first | rwa [add_block] at this | exact this) GW254.out)) | (show (Addr.add _ _).block ≠ _; rw [add_block]; exact zt (zl (by have := zW _ _ hw244_2; first | rwa [add_block] at this | exact this) GW254.out)) | (dsimp only; exact zt (zl (by have := zW _ _ hw244_2; first | rwa [add_block] at this | exact this) GW254.out))) _).trans (((cell_far (p := ⟨gb254, _, none⟩) (by first | exact zt (zl (by have := zW _ _ hw244_2; first | rwa [add_block] at this | exact this) GW254.out) | (rw [add_block]; exact zt (zl (by have := zW _ _ hw244_2; first | rwa [add_block] at this | exact this) GW254.out)) | (show (Addr.add _ _).block ≠ _; rw [add_block]; exact zt (zl (by have := zW _ _ hw244_2; first | rwa [add_block] at this | exact this) GW254.out)) | (dsimp only; exact zt (zl (by have := zW _ _ hw244_2; first | rwa [add_block] at this | exact this) GW254.out))) _).trans (hHeld.2.2.2.2.2.2))))))))⟩ (fun hHeld => ?_)
          clear hK K
          refine pure_ (i := 12) (N := some 12) (v := ?_) (a' := ?_) mq1117 rfl rfl (any_of HT_.out (by kernel_rfl)) (fun _ _ _ h => h) (Or.inl ⟨by rfl, ?_⟩) ?_ ?_
          rotate_left
          ·intro w'
           go_simp
           with_reducible rfl
          rotate_left
          ·simp only [Act.put, zA, zZ, zS, i64_w, i32_w]
           rfl
          refine done_ (done_of HT_.out (by kernel_rfl)) ?_
          have p255 : 0 ≤ (x10_1 : Int) := zo (by first | (with_reducible assumption) | assumption)
          have q255 : x10_1 < (l1.length : Int) := zo (by first | (with_reducible assumption) | assumption)
          obtain ⟨ad255, e255, hx255_0, hx255_1, hx255_2⟩ := at_T38 HR1.out x10_1 p255 q255
          obtain rfl : ad243 = ad255 := (by injection e255)
          have hn255_0 : ad243.block ≠ gb254 := zt (zl (by have := zW _ _ hx255_0; first | rwa [add_block] at this | exact this) GW254.out)
          have hn255_1 : ad243.block ≠ gb254 := zt (zl (by have := zW _ _ hx255_0; first | rwa [add_block] at this | exact this) GW254.out)
          have hn255_2 : ad243.block ≠ gb254 := zt (zl (by have := zW _ _ hx255_0; first | rwa [add_block] at this | exact this) GW254.out)
          have hn255_3 : ad243.block ≠ gb254 := zt (zl (by have := zW _ _ hx255_0; first | rwa [add_block] at this | exact this) GW254.out)
          replace hx255_0 := (HB.out.cell (zW w _ hx255_0)).trans hx255_0
          replace hx255_1 := (HB.out.cell (zW w _ hx255_1)).trans hx255_1
          replace hx255_2 := (HB.out.cell (zW w _ hx255_2)).trans hx255_2
          replace hx255_0 := (cell_far (p := ⟨gb254, 0, none⟩) (by first | (rw [add_block]; exact hn255_0) | (show (Addr.add _ _).block ≠ _; rw [add_block]; exact hn255_0) | exact hn255_0) (.int .i64 t245)).trans hx255_0
          replace hx255_1 := (cell_far (p := ⟨gb254, 0, none⟩) (by first | (rw [add_block]; exact hn255_0) | (show (Addr.add _ _).block ≠ _; rw [add_block]; exact hn255_0) | exact hn255_0) (.int .i64 t245)).trans hx255_1
          replace hx255_2 := (cell_far (p := ⟨gb254, 0, none⟩) (by first | (rw [add_block]; exact hn255_0) | (show (Addr.add _ _).block ≠ _; rw [add_block]; exact hn255_0) | exact hn255_0) (.int .i64 t245)).trans hx255_2
          replace hx255_0 := (cell_far (p := ⟨gb254, 1, none⟩) (by first | (rw [add_block]; exact hn255_1) | (show (Addr.add _ _).block ≠ _; rw [add_block]; exact hn255_1) | exact hn255_1) (.int .i64 t246)).trans hx255_0
          replace hx255_1 := (cell_far (p := ⟨gb254, 1, none⟩) (by first | (rw [add_block]; exact hn255_1) | (show (Addr.add _ _).block ≠ _; rw [add_block]; exact hn255_1) | exact hn255_1) (.int .i64 t246)).trans hx255_1
          replace hx255_2 := (cell_far (p := ⟨gb254, 1, none⟩) (by first | (rw [add_block]; exact hn255_1) | (show (Addr.add _ _).block ≠ _; rw [add_block]; exact hn255_1) | exact hn255_1) (.int .i64 t246)).trans hx255_2
          replace hx255_0 := (cell_far (p := ⟨gb254, 2, none⟩) (by first | (rw [add_block]; exact hn255_2) | (show (Addr.add _ _).block ≠ _; rw [add_block]; exact hn255_2) | exact hn255_2) (.slice Ao29 t247.length co29)).trans hx255_0
          replace hx255_1 := (cell_far (p := ⟨gb254, 2, none⟩) (by first | (rw [add_block]; exact hn255_2) | (show (Addr.add _ _).block ≠ _; rw [add_block]; exact hn255_2) | exact hn255_2) (.slice Ao29 t247.length co29)).trans hx255_1
          replace hx255_2 := (cell_far (p := ⟨gb254, 2, none⟩) (by first | (rw [add_block]; exact hn255_2) | (show (Addr.add _ _).block ≠ _; rw [add_block]; exact hn255_2) | exact hn255_2) (.slice Ao29 t247.length co29)).trans hx255_2
          replace hx255_0 := (cell_far (p := ⟨gb254, 3, none⟩) (by first | (rw [add_block]; exact hn255_3) | (show (Addr.add _ _).block ≠ _; rw [add_block]; exact hn255_3) | exact hn255_3) (.slice Ao31 t250.length co31)).trans hx255_0
          replace hx255_1 := (cell_far (p := ⟨gb254, 3, none⟩) (by first | (rw [add_block]; exact hn255_3) | (show (Addr.add _ _).block ≠ _; rw [add_block]; exact hn255_3) | exact hn255_3) (.slice Ao31 t250.length co31)).trans hx255_1
          replace hx255_2 := (cell_far (p := ⟨gb254, 3, none⟩) (by first | (rw [add_block]; exact hn255_3) | (show (Addr.add _ _).block ≠ _; rw [add_block]; exact hn255_3) | exact hn255_3) (.slice Ao31 t250.length co31)).trans hx255_2
          clear hn255_0
          clear hn255_1
          clear hn255_2
          clear hn255_3
          replace p255 := eq_true p255
          replace q255 := eq_true q255
          try go_wp2_with (first | ((with_reducible refine gate_builtin (b := .append) (xs := #[.tmp 60, .tmp 66]) rfl ?_); (try (refine gate_guard (by rfl) ?_; dsimp only)); at_builtin; refine Kd.R_append Kd.string (w0 := w) w.heap.size rfl (.tmp 60) (.tmp 66) 22 9 (.string ⟨#[]⟩) 16 rfl Try.underlying22 info9 rfl (by decide) (by omega) u8 x8_1 ((rd_T38 l1 x10_1).f2) [.string ((rd_T38 l1 x10_1).f2)] (fun _ => True) (fun _ => False) rfl (by first | (go_simp; done) | (go_simp; rfl)) ?aP (fun _ hk => hk.elim) ?aF ?aO ?aB ?aS ?aL ?_; (case aP => exact rfl); (case aB => exact (by repeat (first | (with_reducible first | exact HB.out | apply zL | apply zN | apply zD | refine zJ ?_ GE239.out | refine zJ ?_ GE254.out) | exact HB.out))); (case aF => exact (fun _ _ => trivial)); (case aO => exact (by (with_reducible repeat (first | apply zra | apply zrn | apply zrd)); exact zrm (zrf (p := ⟨gb254, 3, none⟩) (zrf (p := ⟨gb254, 2, none⟩) (zrf (p := ⟨gb254, 1, none⟩) (zrf (p := ⟨gb254, 0, none⟩) (Kd.R_types HO_8.out BK254.out (by decide)) (fun _ hk => hk.2) (.int .i64 t245)) (fun _ hk => hk.2) (.int .i64 t246)) (fun _ hk => hk.2) (.slice Ao29 t247.length co29)) (fun _ hk => hk.2) (.slice Ao31 t250.length co31)) (fun _ hk => trivial))); (case aS => exact (zs (by repeat (first | (with_reducible first | exact HB.out | apply zL | apply zN | apply zD | refine zJ ?_ GE239.out | refine zJ ?_ GE254.out) | exact HB.out)))); (case aL => have := LMc20.out; omega); intro v257 w33 ho hb hg hat; rw [← Ny256.out] at ho; have n0_ := zM (Kd.N_afterv (ok := (fun k_ => k_ ≠ gb239 ∧ k_ ≠ gb254)) (by (with_reducible repeat (first | apply zna | apply znn | apply znd)); exact znm (znf (p := ⟨gb254, 3, none⟩) (znf (p := ⟨gb254, 2, none⟩) (znf (p := ⟨gb254, 1, none⟩) (znf (p := ⟨gb254, 0, none⟩) (znm HO_9.out (fun k_ hk => (⟨hk, hk.2.2⟩ : _ ∧ k_ ≠ gb254))) (fun _ hk => hk.2) (.int .i64 t245)) (fun _ hk => hk.2) (.int .i64 t246)) (fun _ hk => hk.2) (.slice Ao29 t247.length co29)) (fun _ hk => hk.2) (.slice Ao31 t250.length co31)) (fun _ hk => ⟨⟨hk.1.2.1, hk.1.2.2⟩, hk.1.1⟩)) hg hat); have n1_ := zM (Kd.V_afterv (ok := (fun k_ => some k_ ≠ (u9 : Value).ownBlock ∧ k_ ≠ gb239 ∧ k_ ≠ gb254)) (by (with_reducible repeat (first | apply zva | apply zvn | apply zvd)); exact zvm (zvf (p := ⟨gb254, 3, none⟩) (zvf (p := ⟨gb254, 2, none⟩) (zvf (p := ⟨gb254, 1, none⟩) (zvf (p := ⟨gb254, 0, none⟩) (zvm HO_240002.out (fun k_ hk => (⟨hk, hk.2.2.2⟩ : _ ∧ k_ ≠ gb254))) (fun _ hk => hk.2) (.int .i64 t245)) (fun _ hk => hk.2) (.int .i64 t246)) (fun _ hk => hk.2) (.slice Ao29 t247.length co29)) (fun _ hk => hk.2) (.slice Ao31 t250.length co31)) (fun _ hk => ⟨⟨hk.1.2.1, ⟨hk.1.2.2.1, hk.1.2.2.2⟩⟩, hk.1.1⟩)) hg hat); have n2_ := zM (Kd.V_afterv (ok := (fun k_ => some k_ ≠ (u9 : Value).ownBlock ∧ k_ ≠ gb239 ∧ k_ ≠ gb254)) (by (with_reducible repeat (first | apply zva | apply zvn | apply zvd)); exact zvm (zvf (p := ⟨gb254, 3, none⟩) (zvf (p := ⟨gb254, 2, none⟩) (zvf (p := ⟨gb254, 1, none⟩) (zvf (p := ⟨gb254, 0, none⟩) (zvm HO_240003.out (fun k_ hk => (⟨hk, hk.2.2.2⟩ : _ ∧ k_ ≠ gb254))) (fun _ hk => hk.2) (.int .i64 t245)) (fun _ hk => hk.2) (.int .i64 t246)) (fun _ hk => hk.2) (.slice Ao29 t247.length co29)) (fun _ hk => hk.2) (.slice Ao31 t250.length co31)) (fun _ hk => ⟨⟨hk.1.2.1, ⟨hk.1.2.2.1, hk.1.2.2.2⟩⟩, hk.1.1⟩)) hg hat); have n3_ := zM (blk_grown (g := gb239) (o := .cells #[.int .i64 x240000_1, .int .i64 x240001_1, .slice Ao21 x240002_1.length co21, .slice Ao22 x240003_1.length co22] 25 (0, 0)) (by (with_reducible repeat (first | refine zn ?_ _ | refine zd ?_ | refine za ?_ _)); refine zF ?_ NB239_254.out _; (with_reducible repeat (first | refine zn ?_ _ | refine zd ?_ | refine za ?_ _)); refine zF ?_ NB239_254.out _; (with_reducible repeat (first | refine zn ?_ _ | refine zd ?_ | refine za ?_ _)); refine zF ?_ NB239_254.out _; (with_reducible repeat (first | refine zn ?_ _ | refine zd ?_ | refine za ?_ _)); refine zF ?_ NB239_254.out _; (with_reducible repeat (first | refine zn ?_ _ | refine zd ?_ | refine za ?_ _)); exact BK239.out) hg (Kd.R_ne HO_8.out BK239.out (by decide))); have n4_ := zM (Kd.V_afterv (ok := (fun k_ => some k_ ≠ (u9 : Value).ownBlock ∧ k_ ≠ gb239 ∧ k_ ≠ gb254)) (by (with_reducible repeat (first | apply zva | apply zvn | apply zvd)); exact zvm (zvf (p := ⟨gb254, 3, none⟩) (zvf (p := ⟨gb254, 2, none⟩) (zvf (p := ⟨gb254, 1, none⟩) (zvf (p := ⟨gb254, 0, none⟩) (zvm HO249.out (fun k_ hk => (⟨hk, hk.2.2.2⟩ : _ ∧ k_ ≠ gb254))) (fun _ hk => hk.2) (.int .i64 t245)) (fun _ hk => hk.2) (.int .i64 t246)) (fun _ hk => hk.2) (.slice Ao29 t247.length co29)) (fun _ hk => hk.2) (.slice Ao31 t250.length co31)) (fun _ hk => ⟨⟨hk.1.2.1, ⟨hk.1.2.2.1, hk.1.2.2.2⟩⟩, hk.1.1⟩)) hg hat); have n5_ := zM (Kd.V_afterv (ok := (fun k_ => some k_ ≠ (u9 : Value).ownBlock ∧ k_ ≠ gb239 ∧ k_ ≠ gb254)) (by (with_reducible repeat (first | apply zva | apply zvn | apply zvd)); exact zvm (zvf (p := ⟨gb254, 3, none⟩) (zvf (p := ⟨gb254, 2, none⟩) (zvf (p := ⟨gb254, 1, none⟩) (zvf (p := ⟨gb254, 0, none⟩) (zvm HO252.out (fun k_ hk => (⟨hk, hk.2.2.2⟩ : _ ∧ k_ ≠ gb254))) (fun _ hk => hk.2) (.int .i64 t245)) (fun _ hk => hk.2) (.int .i64 t246)) (fun _ hk => hk.2) (.slice Ao29 t247.length co29)) (fun _ hk => hk.2) (.slice Ao31 t250.length co31)) (fun _ hk => ⟨⟨hk.1.2.1, ⟨hk.1.2.2.1, hk.1.2.2.2⟩⟩, hk.1.1⟩)) hg hat); have n6_ := zM (blk_grown (g := gb254) (o := .cells #[.int .i64 t245, .int .i64 t246, .slice Ao29 t247.length co29, .slice Ao31 t250.length co31] 25 (0, 0)) (by (with_reducible repeat (first | refine zn ?_ _ | refine zd ?_ | refine za ?_ _)); refine zP (cs := #[.int .i64 t245, .int .i64 t246, .slice Ao29 t247.length co29, .slice none 0 0]) ?_ 3 _ rfl; (with_reducible repeat (first | refine zn ?_ _ | refine zd ?_ | refine za ?_ _)); refine zP (cs := #[.int .i64 t245, .int .i64 t246, .slice none 0 0, .slice none 0 0]) ?_ 2 _ rfl; (with_reducible repeat (first | refine zn ?_ _ | refine zd ?_ | refine za ?_ _)); refine zP (cs := #[.int .i64 t245, .int .i64 0, .slice none 0 0, .slice none 0 0]) ?_ 1 _ rfl; (with_reducible repeat (first | refine zn ?_ _ | refine zd ?_ | refine za ?_ _)); refine zP (cs := #[.int .i64 0, .int .i64 0, .slice none 0 0, .slice none 0 0]) ?_ 0 _ rfl; (with_reducible repeat (first | refine zn ?_ _ | refine zd ?_ | refine za ?_ _)); exact BK254.out) hg (Kd.R_ne HO_8.out BK254.out (by decide))); have n7_ := zM (hb); have n8_ := zM (ho); clear HO_9; clear HO_240002; clear HO_240003; clear BK239; clear HO249; clear HO252; clear BK254; clear HB; clear HO_8; have HO_9 := n0_; have HO_240002 := n1_; have HO_240003 := n2_; have BK239 := n3_; have HO249 := n4_; have HO252 := n5_; have BK254 := n6_; have HB := n7_; have HO258 := n8_; clear n0_ n1_ n2_ n3_ n4_ n5_ n6_ n7_ n8_; clear ho hb hg hat; have hnb34 := NB254_239.out; have hnc34 := NB239_254.out; have hcz35_0 : w33.cell? ⟨gb254, 0, none⟩ = some (.int .i64 t245) := (zc BK254.out 0).trans rfl; have hcz35_1 : w33.cell? ⟨gb254, 1, none⟩ = some (.int .i64 t246) := (zc BK254.out 1).trans rfl; have hcz35_2 : w33.cell? ⟨gb254, 2, none⟩ = some (.slice Ao29 t247.length co29) := (zc BK254.out 2).trans rfl; have hcz35_3 : w33.cell? ⟨gb254, 3, none⟩ = some (.slice Ao31 t250.length co31) := (zc BK254.out 3).trans rfl; have hfz35_0 := zf BK254.out 0; have hfz35_1 := zf BK254.out 1; have hfz35_2 := zf BK254.out 2; have hfz35_3 := zf BK254.out 3; have hcz36_0 : w33.cell? ⟨gb239, 0, none⟩ = some (.int .i64 x240000_1) := (zc BK239.out 0).trans rfl; have hcz36_1 : w33.cell? ⟨gb239, 1, none⟩ = some (.int .i64 x240001_1) := (zc BK239.out 1).trans rfl; have hcz36_2 : w33.cell? ⟨gb239, 2, none⟩ = some (.slice Ao21 x240002_1.length co21) := (zc BK239.out 2).trans rfl; have hcz36_3 : w33.cell? ⟨gb239, 3, none⟩ = some (.slice Ao22 x240003_1.length co22) := (zc BK239.out 3).trans rfl; have hfz36_0 := zf BK239.out 0; have hfz36_1 := zf BK239.out 1; have hfz36_2 := zf BK239.out 2; have hfz36_3 := zf BK239.out 3))
          go_meet
          case rel => exact ⟨_, (y256), (t245), (t246), (t247), (t250), (.slice Ao29 t247.length co29), (.slice Ao31 t250.length co31), H', ⟨by have := HK1.out; first | omega | exact Nat.le_refl _⟩, ⟨by (with_reducible repeat (first | apply zra | apply zrn | apply zrd)); exact zrm (zrf (p := ⟨gb239, 3, none⟩) (zrf (p := ⟨gb239, 2, none⟩) (zrf (p := ⟨gb239, 1, none⟩) (zrf (p := ⟨gb239, 0, none⟩) (Kd.R_types HO258.out BK239.out (by decide)) (fun _ hk => hk.2) (.int .i64 t245)) (fun _ hk => hk.2) (.int .i64 t246)) (fun _ hk => hk.2) (.slice Ao29 t247.length co29)) (fun _ hk => hk.2) (.slice Ao31 t250.length co31)) (fun _ hk => trivial)⟩, ⟨by (with_reducible repeat (first | apply zna | apply znn | apply znd)); exact znm (znf (p := ⟨gb239, 3, none⟩) (znf (p := ⟨gb239, 2, none⟩) (znf (p := ⟨gb239, 1, none⟩) (znf (p := ⟨gb239, 0, none⟩) (znm HO_9.out (fun k_ hk => (⟨hk, hk.1.1⟩ : _ ∧ k_ ≠ gb239))) (fun _ hk => hk.2) (.int .i64 t245)) (fun _ hk => hk.2) (.int .i64 t246)) (fun _ hk => hk.2) (.slice Ao29 t247.length co29)) (fun _ hk => hk.2) (.slice Ao31 t250.length co31)) (fun _ hk => ⟨hk.1.2, hk.1.1.1⟩)⟩, ⟨by (with_reducible repeat (first | apply zva | apply zvn | apply zvd)); exact zvm (zvf (p := ⟨gb239, 3, none⟩) (zvf (p := ⟨gb239, 2, none⟩) (zvf (p := ⟨gb239, 1, none⟩) (zvf (p := ⟨gb239, 0, none⟩) (zvm HO249.out (fun k_ hk => (⟨hk, hk.1.2.1⟩ : _ ∧ k_ ≠ gb239))) (fun _ hk => hk.2) (.int .i64 t245)) (fun _ hk => hk.2) (.int .i64 t246)) (fun _ hk => hk.2) (.slice Ao29 t247.length co29)) (fun _ hk => hk.2) (.slice Ao31 t250.length co31)) (fun _ hk => ⟨hk.1.2, ⟨hk.1.1.1, hk.1.1.2.1⟩⟩)⟩, ⟨by (with_reducible repeat (first | apply zva | apply zvn | apply zvd)); exact zvm (zvf (p := ⟨gb239, 3, none⟩) (zvf (p := ⟨gb239, 2, none⟩) (zvf (p := ⟨gb239, 1, none⟩) (zvf (p := ⟨gb239, 0, none⟩) (zvm HO252.out (fun k_ hk => (⟨hk, hk.1.2.1⟩ : _ ∧ k_ ≠ gb239))) (fun _ hk => hk.2) (.int .i64 t245)) (fun _ hk => hk.2) (.int .i64 t246)) (fun _ hk => hk.2) (.slice Ao29 t247.length co29)) (fun _ hk => hk.2) (.slice Ao31 t250.length co31)) (fun _ hk => ⟨hk.1.2, ⟨hk.1.1.1, hk.1.1.2.1⟩⟩)⟩, ⟨by (with_reducible repeat (first | refine zn ?_ _ | refine zd ?_ | refine za ?_ _)); refine zP (cs := #[.int .i64 t245, .int .i64 t246, .slice Ao29 t247.length co29, .slice Ao22 x240003_1.length co22]) ?_ 3 _ rfl; (with_reducible repeat (first | refine zn ?_ _ | refine zd ?_ | refine za ?_ _)); refine zP (cs := #[.int .i64 t245, .int .i64 t246, .slice Ao21 x240002_1.length co21, .slice Ao22 x240003_1.length co22]) ?_ 2 _ rfl; (with_reducible repeat (first | refine zn ?_ _ | refine zd ?_ | refine za ?_ _)); refine zP (cs := #[.int .i64 t245, .int .i64 x240001_1, .slice Ao21 x240002_1.length co21, .slice Ao22 x240003_1.length co22]) ?_ 1 _ rfl; (with_reducible repeat (first | refine zn ?_ _ | refine zd ?_ | refine za ?_ _)); refine zP (cs := #[.int .i64 x240000_1, .int .i64 x240001_1, .slice Ao21 x240002_1.length co21, .slice Ao22 x240003_1.length co22]) ?_ 0 _ rfl; (with_reducible repeat (first | refine zn ?_ _ | refine zd ?_ | refine za ?_ _)); exact BK239.out⟩, ⟨by repeat (first | (with_reducible first | exact HB.out | apply zL | apply zN | apply zD | refine zJ ?_ GE239.out | refine zJ ?_ GE254.out) | exact HB.out)⟩⟩
         ·rw [if_neg c20] at H
          exact absurd H (by simp)
        ·rw [if_neg c19] at H
         have c19b0 : (t253 == 0) = false := beq_eq_false_iff_ne.mpr c19
         have c19b1 : (t253 != 0) = true := bne_iff_ne.mpr c19
         have H' := zM H
         clear H
         obtain ⟨Ao37, co37, eo37⟩ := Kd.V_slice HO_240002.out
         subst eo37
         obtain ⟨Ao38, co38, eo38⟩ := Kd.V_slice HO_240003.out
         subst eo38
         try go_wp2
         have n0_ := zM (zrd HO_8.out)
         have n1_ := zM (znd HO_9.out)
         have n2_ := zM (zvd HO_240002.out)
         have n3_ := zM (zvd HO_240003.out)
         have n4_ := zM (zd BK239.out)
         have n5_ := zM (zD HB.out)
         clear HO_8
         clear HO_9
         clear HO_240002
         clear HO_240003
         clear BK239
         clear HB
         have HO_8 := n0_
         have HO_9 := n1_
         have HO_240002 := n2_
         have HO_240003 := n3_
         have BK239 := n4_
         have HB := n5_
         clear n0_ n1_ n2_ n3_ n4_ n5_
         have p244 : 0 ≤ (x10_1 : Int) := zo (by first | (with_reducible assumption) | assumption)
         have q244 : x10_1 < (l1.length : Int) := zo (by first | (with_reducible assumption) | assumption)
         obtain ⟨ad244, e244, hx244_0, hx244_1, hx244_2⟩ := at_T38 HR1.out x10_1 p244 q244
         have hw244_2 := hx244_2
         have hw244_1 := hx244_1
         have hw244_0 := hx244_0
         obtain rfl : ad243 = ad244 := (by injection e244)
         replace hx244_0 := (HB.out.cell (zW w _ hx244_0)).trans hx244_0
         replace hx244_1 := (HB.out.cell (zW w _ hx244_1)).trans hx244_1
         replace hx244_2 := (HB.out.cell (zW w _ hx244_2)).trans hx244_2
         replace p244 := eq_true p244
         replace q244 := eq_true q244
         refine start_ (n := 13) (S := fun w' => w'.cell? ⟨gb239, 0, none⟩ = some (.int .i64 x240000_1) ∧ w'.cell? ⟨gb239, 1, none⟩ = some (.int .i64 x240001_1) ∧ w'.cell? ⟨gb239, 2, none⟩ = some (.slice Ao37 x240002_1.length co37) ∧ w'.cell? ⟨gb239, 3, none⟩ = some (.slice Ao38 x240003_1.length co38) ∧ w'.cell? (ad243.add ((x10_1).toNat * 3)) = some (.int .i64 ((rd_T38 l1 x10_1).f0)) ∧ w'.cell? ⟨(ad243.add ((x10_1).toNat * 3)).block, (ad243.add ((x10_1).toNat * 3)).off + 1, none⟩ = some (.int .i64 ((rd_T38 l1 x10_1).f1)) ∧ w'.cell? ⟨(ad243.add ((x10_1).toNat * 3)).block, (ad243.add ((x10_1).toNat * 3)).off + 2, none⟩ = some (.string ((rd_T38 l1 x10_1).f2))) (ds := []) mq110 (by kernel_rfl) rfl rfl ⟨(zc BK239.out 0).trans rfl, (zc BK239.out 1).trans rfl, (zc BK239.out 2).trans rfl, (zc BK239.out 3).trans rfl, ((HB.out.cell (zW w _ hw244_0)).trans hw244_0), ((HB.out.cell (zW w _ hw244_1)).trans hw244_1), ((HB.out.cell (zW w _ hw244_2)).trans hw244_2)⟩ (fun hHeld => ?_); refine with_tabW L16_LaneKeeps.tab12 L16_LaneKeeps.bits12 (fun HT_ HW_ => ?_)
         generalize wr.drew = w39 at HO_8 HO_9 HO_240002 HO_240003 BK239 HB hx244_0 hx244_1 hx244_2 hHeld ⊢
         refine pure_ (i := 1) (N := some 50) (v := ?_) (a' := ?_) mq111 rfl rfl (any_of HT_.out (by kernel_rfl)) (fun _ _ _ h => h) (Or.inl ⟨by rfl, ?_⟩) ?_ ?_
         rotate_left
         ·intro w'
          go_simp
          with_reducible rfl
         rotate_left
         ·simp only [Act.put, zA, zZ, zS, i64_w, i32_w]
          rfl
         refine pure_ (i := 2) (N := some 51) (v := ?_) (a' := ?_) mq112 rfl rfl (any_of HT_.out (by kernel_rfl)) (fun _ _ _ h => h) (Or.inl ⟨by rfl, ?_⟩) ?_ ?_
         rotate_left
         ·intro w'
          go_simp
          with_reducible rfl
         rotate_left
         ·simp only [Act.put, zA, zZ, zS, i64_w, i32_w]
          rfl
         refine pure_ (i := 3) (N := some 52) (v := ?_) (a' := ?_) mq113 rfl rfl (any_of HT_.out (by kernel_rfl)) (fun _ _ _ h => h) (Or.inl ⟨by rfl, ?_⟩) ?_ ?_
         rotate_left
         ·intro w'
          go_simp
          with_reducible rfl
         rotate_left
         ·simp only [Act.put, zA, zZ, zS, i64_w, i32_w]
          rfl
         refine pure_ (i := 4) (N := some 53) (v := ?_) (a' := ?_) mq114 rfl rfl (any_of HT_.out (by kernel_rfl)) (fun _ _ _ h => h) (Or.inl ⟨by rfl, ?_⟩) ?_ ?_
         rotate_left
         ·intro w'
          go_simp
          with_reducible rfl
         rotate_left
         ·simp only [Act.put, zA, zZ, zS, i64_w, i32_w]
          rfl
         refine take_ (i := 0) (N := some 49) (v := ?_) (a' := ?_) mq115 rfl rfl (take_ofW HT_.out HW_.out (by kernel_rfl)) (fun _ _ _ h => h) (Or.inl ⟨by rfl, ?_⟩) hHeld ?_ ?_
         rotate_left
         ·rintro w' ⟨s0, s1, s2, s3, s4, s5, s6⟩
          go_simp
          with_reducible rfl
         rotate_left
         ·simp only [Act.put, zA, zZ, zS, i64_w, i32_w]
          rfl
         refine take_ (i := 5) (N := some 54) (v := ?_) (a' := ?_) mq116 rfl rfl (take_ofW HT_.out HW_.out (by kernel_rfl)) (fun _ _ _ h => h) (Or.inl ⟨by rfl, ?_⟩) hHeld ?_ ?_
         rotate_left
         ·rintro w' ⟨s0, s1, s2, s3, s4, s5, s6⟩
          go_simp
          with_reducible rfl
         rotate_left
         ·simp only [Act.put, zA, zZ, zS, i64_w, i32_w]
          rfl
         refine join_ (σ := Value × Value × Nat) 2 mq117 (fun s_ => [(55, .tuple #[.agg #[.int .i64 t245, .int .i64 t246, s_.1, s_.2.1], .int .i64 t253]), (11, .pointer (some ⟨s_.2.2, 0, none⟩)), (48, .tuple #[.agg #[.int .i64 t245, .int .i64 t246, s_.1, s_.2.1], .int .i64 t253]), (56, .agg #[.int .i64 t245, .int .i64 t246, s_.1, s_.2.1]), (57, .int .i64 t253)]) (fun s_ w' => (w'.cell? ⟨gb239, 0, none⟩ = some (.int .i64 x240000_1) ∧ w'.cell? ⟨gb239, 1, none⟩ = some (.int .i64 x240001_1) ∧ w'.cell? ⟨gb239, 2, none⟩ = some (.slice Ao37 x240002_1.length co37) ∧ w'.cell? ⟨gb239, 3, none⟩ = some (.slice Ao38 x240003_1.length co38) ∧ w'.cell? (ad243.add ((x10_1).toNat * 3)) = some (.int .i64 ((rd_T38 l1 x10_1).f0)) ∧ w'.cell? ⟨(ad243.add ((x10_1).toNat * 3)).block, (ad243.add ((x10_1).toNat * 3)).off + 1, none⟩ = some (.int .i64 ((rd_T38 l1 x10_1).f1)) ∧ w'.cell? ⟨(ad243.add ((x10_1).toNat * 3)).block, (ad243.add ((x10_1).toNat * 3)).off + 2, none⟩ = some (.string ((rd_T38 l1 x10_1).f2))) ∧ (Kd.V Kd.string 9 w' w.heap.size (fun k_ => some k_ ≠ (u8 : Value).ownBlock ∧ some k_ ≠ (u9 : Value).ownBlock ∧ k_ ≠ gb239 ∧ k_ ≠ s_.2.2) s_.1 t247) ∧ (Kd.V k42 42 w' w.heap.size (fun k_ => some k_ ≠ (u8 : Value).ownBlock ∧ some k_ ≠ (u9 : Value).ownBlock ∧ k_ ≠ gb239 ∧ k_ ≠ s_.2.2) s_.2.1 t250) ∧ (Kd.V Kd.string 9 w' w.heap.size (fun k_ => some k_ ≠ (u8 : Value).ownBlock ∧ some k_ ≠ (u9 : Value).ownBlock ∧ k_ ≠ gb239 ∧ k_ ≠ s_.2.2) (.slice Ao37 x240002_1.length co37) x240002_1) ∧ (Kd.V k42 42 w' w.heap.size (fun k_ => some k_ ≠ (u8 : Value).ownBlock ∧ some k_ ≠ (u9 : Value).ownBlock ∧ k_ ≠ gb239 ∧ k_ ≠ s_.2.2) (.slice Ao38 x240003_1.length co38) x240003_1) ∧ (Kd.R Kd.string 9 w' w.heap.size (fun _ => True) u8 x8_1) ∧ (Kd.N k42 42 w' w.heap.size (fun k_ => some k_ ≠ (u8 : Value).ownBlock ∧ k_ ≠ gb239 ∧ k_ ≠ s_.2.2) u9 x9_1) ∧ (w'.heap[gb239]? = some (.cells #[.int .i64 x240000_1, .int .i64 x240001_1, .slice Ao37 x240002_1.length co37, .slice Ao38 x240003_1.length co38] 25 (0, 0))) ∧ (w'.heap[s_.2.2]? = some (.cells #[.int .i64 0, .int .i64 0, .slice none 0 0, .slice none 0 0] 25 (0, 0))) ∧ (w.heap.size ≤ s_.2.2) ∧ (w.heap.size ≤ s_.2.2) ∧ (gb239 ≠ s_.2.2) ∧ (s_.2.2 ≠ gb239) ∧ (Below w.heap.size w w')) ?_ ?_
         rotate_left
         ·intro hCont
          refine two_ (i := 6) (j := 10) (Ni := some 55) (Nj := some 11) mq118 mq119 rfl rfl rfl rfl (two_of HT_.out (by kernel_rfl)) (by decide) (by decide) (fun K hK => ?_) (fun K hK => ?_)
          ·skip
           refine goes_ Try.func11 (by kernel_rfl) rfl #[.agg #[.int .i64 x240000_1, .int .i64 x240001_1, .slice Ao37 x240002_1.length co37, .slice Ao38 x240003_1.length co38], .string ((rd_T38 l1 x10_1).f2)] (by rfl) rfl rfl (by (try simp only [List.map_toArray, List.map_cons, List.map_nil]); first | done | rfl | (simp only [List.length_drop, List.length_take]; rfl)) ?_
           with_reducible refine (lane_Submit.calls x240000_1 x240001_1 (fun k_ => (some k_ ≠ (u8 : Value).ownBlock ∧ (some k_ ≠ (u9 : Value).ownBlock ∧ k_ ≠ gb239))) _ _ x240002_1 (fun k_ => (some k_ ≠ (u8 : Value).ownBlock ∧ (some k_ ≠ (u9 : Value).ownBlock ∧ k_ ≠ gb239))) _ _ x240003_1 ((rd_T38 l1 x10_1).f2) t245 t246 t247 t250 t253 _ ?side1 ?side2 A18.out).mono ?_
           (case side1 => exact HO_240002.out)
           (case side2 => exact HO_240003.out)
           rintro e w40 ⟨v248, v251, rfl, ho0, ho1, hb⟩
           refine ⟨_, rfl, ?_⟩
           have n0_ := zM (Kd.R_below (by (with_reducible repeat (first | apply zra | apply zrn | apply zrd)); exact HO_8.out) hb)
           have n1_ := zM (Kd.N_below (by (with_reducible repeat (first | apply zna | apply znn | apply znd)); exact HO_9.out) hb)
           have n2_ := zM (zvb (by (with_reducible repeat (first | apply zva | apply zvn | apply zvd)); exact HO_240002.out) hb)
           have n3_ := zM (zvb (by (with_reducible repeat (first | apply zva | apply zvn | apply zvd)); exact HO_240003.out) hb)
           have n4_ := zM (Kd.V_lower (zvm (ok' := fun k_ => some k_ ≠ (u8 : Value).ownBlock ∧ some k_ ≠ (u9 : Value).ownBlock ∧ k_ ≠ gb239) ho0 (fun k_ hk_ => ⟨Or.elim hk_ (fun hs_ => Or.elim hs_ (fun hs_ => hs_.1) (fun hs_ => hs_.1)) (fun hn_ => (Kd.fresh' (Kd.R_lt (by (with_reducible repeat (first | apply zra | apply zrn | apply zrd)); exact HO_8.out)) k_ hn_)), Or.elim hk_ (fun hs_ => Or.elim hs_ (fun hs_ => hs_.2.1) (fun hs_ => hs_.2.1)) (fun hn_ => (Kd.fresh' (Kd.N_lt (by (with_reducible repeat (first | apply zna | apply znn | apply znd)); exact HO_9.out)) k_ hn_)), Or.elim hk_ (fun hs_ => Or.elim hs_ (fun hs_ => hs_.2.2) (fun hs_ => hs_.2.2)) (fun hn_ => (Kd.freshB (g := gb239) (o := .cells #[.int .i64 x240000_1, .int .i64 x240001_1, .slice Ao37 x240002_1.length co37, .slice Ao38 x240003_1.length co38] 25 (0, 0)) (by (with_reducible repeat (first | refine zn ?_ _ | refine zd ?_ | refine za ?_ _)); exact BK239.out) k_ hn_))⟩)) (zs (by repeat (first | (with_reducible first | exact HB.out | apply zL | apply zN | apply zD | refine zJ ?_ GE239.out) | exact HB.out))))
           have n5_ := zM (Kd.V_lower (zvm (ok' := fun k_ => some k_ ≠ (u8 : Value).ownBlock ∧ some k_ ≠ (u9 : Value).ownBlock ∧ k_ ≠ gb239) ho1 (fun k_ hk_ => ⟨Or.elim hk_ (fun hs_ => Or.elim hs_ (fun hs_ => hs_.1) (fun hs_ => hs_.1)) (fun hn_ => (Kd.fresh' (Kd.R_lt (by (with_reducible repeat (first | apply zra | apply zrn | apply zrd)); exact HO_8.out)) k_ hn_)), Or.elim hk_ (fun hs_ => Or.elim hs_ (fun hs_ => hs_.2.1) (fun hs_ => hs_.2.1)) (fun hn_ => (Kd.fresh' (Kd.N_lt (by (with_reducible repeat (first | apply zna | apply znn | apply znd)); exact HO_9.out)) k_ hn_)), Or.elim hk_ (fun hs_ => Or.elim hs_ (fun hs_ => hs_.2.2) (fun hs_ => hs_.2.2)) (fun hn_ => (Kd.freshB (g := gb239) (o := .cells #[.int .i64 x240000_1, .int .i64 x240001_1, .slice Ao37 x240002_1.length co37, .slice Ao38 x240003_1.length co38] 25 (0, 0)) (by (with_reducible repeat (first | refine zn ?_ _ | refine zd ?_ | refine za ?_ _)); exact BK239.out) k_ hn_))⟩)) (zs (by repeat (first | (with_reducible first | exact HB.out | apply zL | apply zN | apply zD | refine zJ ?_ GE239.out) | exact HB.out))))
           have n6_ := zM (zb (g := gb239) (o := .cells #[.int .i64 x240000_1, .int .i64 x240001_1, .slice Ao37 x240002_1.length co37, .slice Ao38 x240003_1.length co38] 25 (0, 0)) (by (with_reducible repeat (first | refine zn ?_ _ | refine zd ?_ | refine za ?_ _)); exact BK239.out) hb)
           have n7_ := zM (zp (by repeat (first | (with_reducible first | exact HB.out | apply zL | apply zN | apply zD | refine zJ ?_ GE239.out) | exact HB.out)) hb)
           clear HO_8
           clear HO_9
           clear HO_240002
           clear HO_240003
           clear BK239
           clear HB
           have HO_8 := n0_
           have HO_9 := n1_
           have HO_240002 := n2_
           have HO_240003 := n3_
           have HO249 := n4_
           have HO252 := n5_
           have BK239 := n6_
           have HB := n7_
           clear n0_ n1_ n2_ n3_ n4_ n5_ n6_ n7_
           (try clear hb)
           (try clear hb2)
           (try clear hk)
           (try clear hi)
           (try clear ho0)
           (try clear ho1)
           refine hK.out _ _ ⟨(zc BK239.out 0).trans rfl, (zc BK239.out 1).trans rfl, (zc BK239.out 2).trans rfl, (zc BK239.out 3).trans rfl, ((HB.out.cell (zW w _ hw244_0)).trans hw244_0), ((HB.out.cell (zW w _ hw244_1)).trans hw244_1), ((HB.out.cell (zW w _ hw244_2)).trans hw244_2)⟩ (fun hHeld => ?_)
           clear hK K
           refine norm_ (a' := ?_) ?_ ?_
           rotate_left
           ·show Act.put _ (some 55) _ = _
            simp only [Act.put, zA, zZ, zS, i64_w, i32_w]
            rfl
           refine pure_ (i := 7) (N := some 48) (v := ?_) (a' := ?_) mq1110 rfl rfl (any_of HT_.out (by kernel_rfl)) (fun _ _ _ h => h) (Or.inl ⟨by rfl, ?_⟩) ?_ ?_
           rotate_left
           ·intro w'
            go_simp
            with_reducible rfl
           rotate_left
           ·simp only [Act.put, zA, zZ, zS, i64_w, i32_w]
            rfl
           refine pure_ (i := 8) (N := some 56) (v := ?_) (a' := ?_) mq1111 rfl rfl (any_of HT_.out (by kernel_rfl)) (fun _ _ _ h => h) (Or.inl ⟨by rfl, ?_⟩) ?_ ?_
           rotate_left
           ·intro w'
            go_simp
            with_reducible rfl
           rotate_left
           ·simp only [Act.put, zA, zZ, zS, i64_w, i32_w]
            rfl
           refine pure_ (i := 9) (N := some 57) (v := ?_) (a' := ?_) mq1112 rfl rfl (any_of HT_.out (by kernel_rfl)) (fun _ _ _ h => h) (Or.inl ⟨by rfl, ?_⟩) ?_ ?_
           rotate_left
           ·intro w'
            go_simp
            with_reducible rfl
           rotate_left
           ·simp only [Act.put, zA, zZ, zS, i64_w, i32_w]
            rfl
           refine one_ (i := 10) (N := some 11) mq117 rfl rfl (one_of HT_.out (by kernel_rfl)) (by decide) (fun K hK => ?_)
           refine box_step ?hg (N := 11) ?hd (cs := #[.int .i64 0, .int .i64 0, .slice none 0 0, .slice none 0 0]) (t := 25) ?hr ?_; (case hd => rfl); (case hg => rfl); (case hr => first | (go_simp; done) | (go_simp; rfl))
           intro gb254 hg w41 hbox hb
           have n0_ := zM (Kd.R_below (by (with_reducible repeat (first | apply zra | apply zrn | apply zrd)); exact HO_8.out) hb)
           have n1_ := zM (Kd.N_below (Kd.N_elderB (by (with_reducible repeat (first | apply zna | apply znn | apply znd)); exact HO_9.out) gb254 (zq hg.symm)) hb)
           have n2_ := zM (zvb (zve (by (with_reducible repeat (first | apply zva | apply zvn | apply zvd)); exact HO_240002.out) gb254 (zq hg.symm)) hb)
           have n3_ := zM (zvb (zve (by (with_reducible repeat (first | apply zva | apply zvn | apply zvd)); exact HO_240003.out) gb254 (zq hg.symm)) hb)
           have n4_ := zM (zvb (zve (by (with_reducible repeat (first | apply zva | apply zvn | apply zvd)); exact HO249.out) gb254 (zq hg.symm)) hb)
           have n5_ := zM (zvb (zve (by (with_reducible repeat (first | apply zva | apply zvn | apply zvd)); exact HO252.out) gb254 (zq hg.symm)) hb)
           have n6_ := zM (zb (g := gb239) (o := .cells #[.int .i64 x240000_1, .int .i64 x240001_1, .slice Ao37 x240002_1.length co37, .slice Ao38 x240003_1.length co38] 25 (0, 0)) (by (with_reducible repeat (first | refine zn ?_ _ | refine zd ?_ | refine za ?_ _)); exact BK239.out) hb)
           have n7_ := zM (zp (by repeat (first | (with_reducible first | exact HB.out | apply zL | apply zN | apply zD | refine zJ ?_ GE239.out) | exact HB.out)) hb)
           have n8_ := zM (hbox)
           have n9_ := zM ((by rw [hg]; exact (zs (by repeat (first | (with_reducible first | exact HB.out | apply zL | apply zN | apply zD | refine zJ ?_ GE239.out) | exact HB.out))) : w.heap.size ≤ gb254))
           have n10_ := zM ((by rw [hg]; exact (zs (by repeat (first | (with_reducible first | exact HB.out | apply zL | apply zN | apply zD | refine zJ ?_ GE239.out) | exact HB.out))) : w.heap.size ≤ gb254))
           have n11_ := zM ((by rw [hg]; exact zt (blk_lt (g := gb239) (o := .cells #[.int .i64 x240000_1, .int .i64 x240001_1, .slice Ao37 x240002_1.length co37, .slice Ao38 x240003_1.length co38] 25 (0, 0)) (by (with_reducible repeat (first | refine zn ?_ _ | refine zd ?_ | refine za ?_ _)); exact BK239.out)) : gb239 ≠ gb254))
           have n12_ := zM ((by rw [hg]; exact Nat.ne_of_gt (blk_lt (g := gb239) (o := .cells #[.int .i64 x240000_1, .int .i64 x240001_1, .slice Ao37 x240002_1.length co37, .slice Ao38 x240003_1.length co38] 25 (0, 0)) (by (with_reducible repeat (first | refine zn ?_ _ | refine zd ?_ | refine za ?_ _)); exact BK239.out)) : gb254 ≠ gb239))
           clear HO_8
           clear HO_9
           clear HO_240002
           clear HO_240003
           clear HO249
           clear HO252
           clear BK239
           clear HB
           have HO_8 := n0_
           have HO_9 := n1_
           have HO_240002 := n2_
           have HO_240003 := n3_
           have HO249 := n4_
           have HO252 := n5_
           have BK239 := n6_
           have HB := n7_
           have BK254 := n8_
           have GW254 := n9_
           have GE254 := n10_
           have NB239_254 := n11_
           have NB254_239 := n12_
           clear n0_ n1_ n2_ n3_ n4_ n5_ n6_ n7_ n8_ n9_ n10_ n11_ n12_
           clear hb hbox hg
           refine hK.out _ _ ⟨(zc BK239.out 0).trans rfl, (zc BK239.out 1).trans rfl, (zc BK239.out 2).trans rfl, (zc BK239.out 3).trans rfl, ((HB.out.cell (zW w _ hw244_0)).trans hw244_0), ((HB.out.cell (zW w _ hw244_1)).trans hw244_1), ((HB.out.cell (zW w _ hw244_2)).trans hw244_2)⟩ (fun hHeld => ?_)
           clear hK K
           refine norm_ (a' := ?_) ?_ ?_
           rotate_left
           ·show Act.put _ (some 11) _ = _
            simp only [Act.put, zA, zZ, zS, i64_w, i32_w]
            rfl
           exact norm_ (by simp only [putAll, Act.put, zA, zZ, zS]) (hCont (v248, v251, gb254) _ ⟨hHeld, (by (with_reducible repeat (first | apply zva | apply zvn | apply zvd)); exact zvm HO249.out (fun _ hk => ⟨hk.1.1, ⟨hk.1.2.1, ⟨hk.1.2.2, hk.2⟩⟩⟩)), (by (with_reducible repeat (first | apply zva | apply zvn | apply zvd)); exact zvm HO252.out (fun _ hk => ⟨hk.1.1, ⟨hk.1.2.1, ⟨hk.1.2.2, hk.2⟩⟩⟩)), (by (with_reducible repeat (first | apply zva | apply zvn | apply zvd)); exact zvm HO_240002.out (fun _ hk => ⟨hk.1.1, ⟨hk.1.2.1, ⟨hk.1.2.2, hk.2⟩⟩⟩)), (by (with_reducible repeat (first | apply zva | apply zvn | apply zvd)); exact zvm HO_240003.out (fun _ hk => ⟨hk.1.1, ⟨hk.1.2.1, ⟨hk.1.2.2, hk.2⟩⟩⟩)), (by (with_reducible repeat (first | apply zra | apply zrn | apply zrd)); exact HO_8.out), (by (with_reducible repeat (first | apply zna | apply znn | apply znd)); exact znm HO_9.out (fun _ hk => ⟨hk.1.1, ⟨hk.1.2, hk.2⟩⟩)), (by (with_reducible repeat (first | refine zn ?_ _ | refine zd ?_ | refine za ?_ _)); exact BK239.out), (by (with_reducible repeat (first | refine zn ?_ _ | refine zd ?_ | refine za ?_ _)); exact BK254.out), GW254.out, GE254.out, NB239_254.out, NB254_239.out, (by repeat (first | (with_reducible first | exact HB.out | apply zL | apply zN | apply zD | refine zJ ?_ GE239.out | refine zJ ?_ GE254.out) | exact HB.out))⟩)
          ·skip
           refine box_step ?hg (N := 11) ?hd (cs := #[.int .i64 0, .int .i64 0, .slice none 0 0, .slice none 0 0]) (t := 25) ?hr ?_; (case hd => rfl); (case hg => rfl); (case hr => first | (go_simp; done) | (go_simp; rfl))
           intro gb254 hg w40 hbox hb
           have n0_ := zM (Kd.R_below (by (with_reducible repeat (first | apply zra | apply zrn | apply zrd)); exact HO_8.out) hb)
           have n1_ := zM (Kd.N_below (Kd.N_elderB (by (with_reducible repeat (first | apply zna | apply znn | apply znd)); exact HO_9.out) gb254 (zq hg.symm)) hb)
           have n2_ := zM (zvb (zve (by (with_reducible repeat (first | apply zva | apply zvn | apply zvd)); exact HO_240002.out) gb254 (zq hg.symm)) hb)
           have n3_ := zM (zvb (zve (by (with_reducible repeat (first | apply zva | apply zvn | apply zvd)); exact HO_240003.out) gb254 (zq hg.symm)) hb)
           have n4_ := zM (zb (g := gb239) (o := .cells #[.int .i64 x240000_1, .int .i64 x240001_1, .slice Ao37 x240002_1.length co37, .slice Ao38 x240003_1.length co38] 25 (0, 0)) (by (with_reducible repeat (first | refine zn ?_ _ | refine zd ?_ | refine za ?_ _)); exact BK239.out) hb)
           have n5_ := zM (zp (by repeat (first | (with_reducible first | exact HB.out | apply zL | apply zN | apply zD | refine zJ ?_ GE239.out) | exact HB.out)) hb)
           have n6_ := zM (hbox)
           have n7_ := zM ((by rw [hg]; exact (zs (by repeat (first | (with_reducible first | exact HB.out | apply zL | apply zN | apply zD | refine zJ ?_ GE239.out) | exact HB.out))) : w.heap.size ≤ gb254))
           have n8_ := zM ((by rw [hg]; exact (zs (by repeat (first | (with_reducible first | exact HB.out | apply zL | apply zN | apply zD | refine zJ ?_ GE239.out) | exact HB.out))) : w.heap.size ≤ gb254))
           have n9_ := zM ((by rw [hg]; exact zt (blk_lt (g := gb239) (o := .cells #[.int .i64 x240000_1, .int .i64 x240001_1, .slice Ao37 x240002_1.length co37, .slice Ao38 x240003_1.length co38] 25 (0, 0)) (by (with_reducible repeat (first | refine zn ?_ _ | refine zd ?_ | refine za ?_ _)); exact BK239.out)) : gb239 ≠ gb254))
           have n10_ := zM ((by rw [hg]; exact Nat.ne_of_gt (blk_lt (g := gb239) (o := .cells #[.int .i64 x240000_1, .int .i64 x240001_1, .slice Ao37 x240002_1.length co37, .slice Ao38 x240003_1.length co38] 25 (0, 0)) (by (with_reducible repeat (first | refine zn ?_ _ | refine zd ?_ | refine za ?_ _)); exact BK239.out)) : gb254 ≠ gb239))
           clear HO_8
           clear HO_9
           clear HO_240002
           clear HO_240003
           clear BK239
           clear HB
           have HO_8 := n0_
           have HO_9 := n1_
           have HO_240002 := n2_
           have HO_240003 := n3_
           have BK239 := n4_
           have HB := n5_
           have BK254 := n6_
           have GW254 := n7_
           have GE254 := n8_
           have NB239_254 := n9_
           have NB254_239 := n10_
           clear n0_ n1_ n2_ n3_ n4_ n5_ n6_ n7_ n8_ n9_ n10_
           clear hb hbox hg
           refine hK.out _ _ ⟨(zc BK239.out 0).trans rfl, (zc BK239.out 1).trans rfl, (zc BK239.out 2).trans rfl, (zc BK239.out 3).trans rfl, ((HB.out.cell (zW w _ hw244_0)).trans hw244_0), ((HB.out.cell (zW w _ hw244_1)).trans hw244_1), ((HB.out.cell (zW w _ hw244_2)).trans hw244_2)⟩ (fun hHeld => ?_)
           clear hK K
           refine norm_ (a' := ?_) ?_ ?_
           rotate_left
           ·show Act.put _ (some 11) _ = _
            simp only [Act.put, zA, zZ, zS, i64_w, i32_w]
            rfl
           refine one_ (i := 6) (N := some 55) mq1113 rfl rfl (one_of HT_.out (by kernel_rfl)) (by decide) (fun K hK => ?_)
           refine goes_ Try.func11 (by kernel_rfl) rfl #[.agg #[.int .i64 x240000_1, .int .i64 x240001_1, .slice Ao37 x240002_1.length co37, .slice Ao38 x240003_1.length co38], .string ((rd_T38 l1 x10_1).f2)] (by rfl) rfl rfl (by (try simp only [List.map_toArray, List.map_cons, List.map_nil]); first | done | rfl | (simp only [List.length_drop, List.length_take]; rfl)) ?_
           with_reducible refine (lane_Submit.calls x240000_1 x240001_1 (fun k_ => ((some k_ ≠ (u8 : Value).ownBlock ∧ (some k_ ≠ (u9 : Value).ownBlock ∧ k_ ≠ gb239)) ∧ k_ ≠ gb254)) _ _ x240002_1 (fun k_ => ((some k_ ≠ (u8 : Value).ownBlock ∧ (some k_ ≠ (u9 : Value).ownBlock ∧ k_ ≠ gb239)) ∧ k_ ≠ gb254)) _ _ x240003_1 ((rd_T38 l1 x10_1).f2) t245 t246 t247 t250 t253 _ ?side1 ?side2 A18.out).mono ?_
           (case side1 => exact HO_240002.out)
           (case side2 => exact HO_240003.out)
           rintro e w41 ⟨v248, v251, rfl, ho0, ho1, hb⟩
           refine ⟨_, rfl, ?_⟩
           have n0_ := zM (Kd.R_below (by (with_reducible repeat (first | apply zra | apply zrn | apply zrd)); exact HO_8.out) hb)
           have n1_ := zM (Kd.N_below (by (with_reducible repeat (first | apply zna | apply znn | apply znd)); exact HO_9.out) hb)
           have n2_ := zM (zvb (by (with_reducible repeat (first | apply zva | apply zvn | apply zvd)); exact HO_240002.out) hb)
           have n3_ := zM (zvb (by (with_reducible repeat (first | apply zva | apply zvn | apply zvd)); exact HO_240003.out) hb)
           have n4_ := zM (Kd.V_lower (zvm (ok' := fun k_ => some k_ ≠ (u8 : Value).ownBlock ∧ some k_ ≠ (u9 : Value).ownBlock ∧ k_ ≠ gb239 ∧ k_ ≠ gb254) ho0 (fun k_ hk_ => ⟨Or.elim hk_ (fun hs_ => Or.elim hs_ (fun hs_ => hs_.1.1) (fun hs_ => hs_.1.1)) (fun hn_ => (Kd.fresh' (Kd.R_lt (by (with_reducible repeat (first | apply zra | apply zrn | apply zrd)); exact HO_8.out)) k_ hn_)), Or.elim hk_ (fun hs_ => Or.elim hs_ (fun hs_ => hs_.1.2.1) (fun hs_ => hs_.1.2.1)) (fun hn_ => (Kd.fresh' (Kd.N_lt (by (with_reducible repeat (first | apply zna | apply znn | apply znd)); exact HO_9.out)) k_ hn_)), Or.elim hk_ (fun hs_ => Or.elim hs_ (fun hs_ => hs_.1.2.2) (fun hs_ => hs_.1.2.2)) (fun hn_ => (Kd.freshB (g := gb239) (o := .cells #[.int .i64 x240000_1, .int .i64 x240001_1, .slice Ao37 x240002_1.length co37, .slice Ao38 x240003_1.length co38] 25 (0, 0)) (by (with_reducible repeat (first | refine zn ?_ _ | refine zd ?_ | refine za ?_ _)); exact BK239.out) k_ hn_)), Or.elim hk_ (fun hs_ => Or.elim hs_ (fun hs_ => hs_.2) (fun hs_ => hs_.2)) (fun hn_ => (Kd.freshB (g := gb254) (o := .cells #[.int .i64 0, .int .i64 0, .slice none 0 0, .slice none 0 0] 25 (0, 0)) (by (with_reducible repeat (first | refine zn ?_ _ | refine zd ?_ | refine za ?_ _)); exact BK254.out) k_ hn_))⟩)) (zs (by repeat (first | (with_reducible first | exact HB.out | apply zL | apply zN | apply zD | refine zJ ?_ GE239.out | refine zJ ?_ GE254.out) | exact HB.out))))
           have n5_ := zM (Kd.V_lower (zvm (ok' := fun k_ => some k_ ≠ (u8 : Value).ownBlock ∧ some k_ ≠ (u9 : Value).ownBlock ∧ k_ ≠ gb239 ∧ k_ ≠ gb254) ho1 (fun k_ hk_ => ⟨Or.elim hk_ (fun hs_ => Or.elim hs_ (fun hs_ => hs_.1.1) (fun hs_ => hs_.1.1)) (fun hn_ => (Kd.fresh' (Kd.R_lt (by (with_reducible repeat (first | apply zra | apply zrn | apply zrd)); exact HO_8.out)) k_ hn_)), Or.elim hk_ (fun hs_ => Or.elim hs_ (fun hs_ => hs_.1.2.1) (fun hs_ => hs_.1.2.1)) (fun hn_ => (Kd.fresh' (Kd.N_lt (by (with_reducible repeat (first | apply zna | apply znn | apply znd)); exact HO_9.out)) k_ hn_)), Or.elim hk_ (fun hs_ => Or.elim hs_ (fun hs_ => hs_.1.2.2) (fun hs_ => hs_.1.2.2)) (fun hn_ => (Kd.freshB (g := gb239) (o := .cells #[.int .i64 x240000_1, .int .i64 x240001_1, .slice Ao37 x240002_1.length co37, .slice Ao38 x240003_1.length co38] 25 (0, 0)) (by (with_reducible repeat (first | refine zn ?_ _ | refine zd ?_ | refine za ?_ _)); exact BK239.out) k_ hn_)), Or.elim hk_ (fun hs_ => Or.elim hs_ (fun hs_ => hs_.2) (fun hs_ => hs_.2)) (fun hn_ => (Kd.freshB (g := gb254) (o := .cells #[.int .i64 0, .int .i64 0, .slice none 0 0, .slice none 0 0] 25 (0, 0)) (by (with_reducible repeat (first | refine zn ?_ _ | refine zd ?_ | refine za ?_ _)); exact BK254.out) k_ hn_))⟩)) (zs (by repeat (first | (with_reducible first | exact HB.out | apply zL | apply zN | apply zD | refine zJ ?_ GE239.out | refine zJ ?_ GE254.out) | exact HB.out))))
           have n6_ := zM (zb (g := gb239) (o := .cells #[.int .i64 x240000_1, .int .i64 x240001_1, .slice Ao37 x240002_1.length co37, .slice Ao38 x240003_1.length co38] 25 (0, 0)) (by (with_reducible repeat (first | refine zn ?_ _ | refine zd ?_ | refine za ?_ _)); exact BK239.out) hb)
           have n7_ := zM (zb (g := gb254) (o := .cells #[.int .i64 0, .int .i64 0, .slice none 0 0, .slice none 0 0] 25 (0, 0)) (by (with_reducible repeat (first | refine zn ?_ _ | refine zd ?_ | refine za ?_ _)); exact BK254.out) hb)
           have n8_ := zM (zp (by repeat (first | (with_reducible first | exact HB.out | apply zL | apply zN | apply zD | refine zJ ?_ GE239.out | refine zJ ?_ GE254.out) | exact HB.out)) hb)
           clear HO_8
           clear HO_9
           clear HO_240002
           clear HO_240003
           clear BK239
           clear BK254
           clear HB
           have HO_8 := n0_
           have HO_9 := n1_
           have HO_240002 := n2_
           have HO_240003 := n3_
           have HO249 := n4_
           have HO252 := n5_
           have BK239 := n6_
           have BK254 := n7_
           have HB := n8_
           clear n0_ n1_ n2_ n3_ n4_ n5_ n6_ n7_ n8_
           (try clear hb)
           (try clear hb2)
           (try clear hk)
           (try clear hi)
           (try clear ho0)
           (try clear ho1)
           refine hK.out _ _ ⟨(zc BK239.out 0).trans rfl, (zc BK239.out 1).trans rfl, (zc BK239.out 2).trans rfl, (zc BK239.out 3).trans rfl, ((HB.out.cell (zW w _ hw244_0)).trans hw244_0), ((HB.out.cell (zW w _ hw244_1)).trans hw244_1), ((HB.out.cell (zW w _ hw244_2)).trans hw244_2)⟩ (fun hHeld => ?_)
           clear hK K
           refine norm_ (a' := ?_) ?_ ?_
           rotate_left
           ·show Act.put _ (some 55) _ = _
            simp only [Act.put, zA, zZ, zS, i64_w, i32_w]
            rfl
           refine pure_ (i := 7) (N := some 48) (v := ?_) (a' := ?_) mq1114 rfl rfl (any_of HT_.out (by kernel_rfl)) (fun _ _ _ h => h) (Or.inl ⟨by rfl, ?_⟩) ?_ ?_
           rotate_left
           ·intro w'
            go_simp
            with_reducible rfl
           rotate_left
           ·simp only [Act.put, zA, zZ, zS, i64_w, i32_w]
            rfl
           refine pure_ (i := 8) (N := some 56) (v := ?_) (a' := ?_) mq1115 rfl rfl (any_of HT_.out (by kernel_rfl)) (fun _ _ _ h => h) (Or.inl ⟨by rfl, ?_⟩) ?_ ?_
           rotate_left
           ·intro w'
            go_simp
            with_reducible rfl
           rotate_left
           ·simp only [Act.put, zA, zZ, zS, i64_w, i32_w]
            rfl
           refine pure_ (i := 9) (N := some 57) (v := ?_) (a' := ?_) mq117 rfl rfl (any_of HT_.out (by kernel_rfl)) (fun _ _ _ h => h) (Or.inl ⟨by rfl, ?_⟩) ?_ ?_
           rotate_left
           ·intro w'
            go_simp
            with_reducible rfl
           rotate_left
           ·simp only [Act.put, zA, zZ, zS, i64_w, i32_w]
            rfl
           exact norm_ (by simp only [putAll, Act.put, zA, zZ, zS]) (hCont (v248, v251, gb254) _ ⟨hHeld, (by (with_reducible repeat (first | apply zva | apply zvn | apply zvd)); exact HO249.out), (by (with_reducible repeat (first | apply zva | apply zvn | apply zvd)); exact HO252.out), (by (with_reducible repeat (first | apply zva | apply zvn | apply zvd)); exact zvm HO_240002.out (fun _ hk => ⟨hk.1.1, ⟨hk.1.2.1, ⟨hk.1.2.2, hk.2⟩⟩⟩)), (by (with_reducible repeat (first | apply zva | apply zvn | apply zvd)); exact zvm HO_240003.out (fun _ hk => ⟨hk.1.1, ⟨hk.1.2.1, ⟨hk.1.2.2, hk.2⟩⟩⟩)), (by (with_reducible repeat (first | apply zra | apply zrn | apply zrd)); exact HO_8.out), (by (with_reducible repeat (first | apply zna | apply znn | apply znd)); exact znm HO_9.out (fun _ hk => ⟨hk.1.1, ⟨hk.1.2, hk.2⟩⟩)), (by (with_reducible repeat (first | refine zn ?_ _ | refine zd ?_ | refine za ?_ _)); exact BK239.out), (by (with_reducible repeat (first | refine zn ?_ _ | refine zd ?_ | refine za ?_ _)); exact BK254.out), GW254.out, GE254.out, NB239_254.out, NB254_239.out, (by repeat (first | (with_reducible first | exact HB.out | apply zL | apply zN | apply zD | refine zJ ?_ GE239.out | refine zJ ?_ GE254.out) | exact HB.out))⟩)
         rintro ⟨v248, v251, gb254⟩ w42 ⟨hS_, h0_, h1_, h2_, h3_, h4_, h5_, h6_, h7_, h8_, h9_, h10_, h11_, h12_⟩
         have n0_ : Aside0 (Kd.V Kd.string 9 w42 w.heap.size (fun k_ => some k_ ≠ (u8 : Value).ownBlock ∧ some k_ ≠ (u9 : Value).ownBlock ∧ k_ ≠ gb239 ∧ k_ ≠ gb254) v248 t247) := ⟨h0_⟩
         have n1_ : Aside0 (Kd.V k42 42 w42 w.heap.size (fun k_ => some k_ ≠ (u8 : Value).ownBlock ∧ some k_ ≠ (u9 : Value).ownBlock ∧ k_ ≠ gb239 ∧ k_ ≠ gb254) v251 t250) := ⟨h1_⟩
         have n2_ : Aside0 (Kd.V Kd.string 9 w42 w.heap.size (fun k_ => some k_ ≠ (u8 : Value).ownBlock ∧ some k_ ≠ (u9 : Value).ownBlock ∧ k_ ≠ gb239 ∧ k_ ≠ gb254) (.slice Ao37 x240002_1.length co37) x240002_1) := ⟨h2_⟩
         have n3_ : Aside0 (Kd.V k42 42 w42 w.heap.size (fun k_ => some k_ ≠ (u8 : Value).ownBlock ∧ some k_ ≠ (u9 : Value).ownBlock ∧ k_ ≠ gb239 ∧ k_ ≠ gb254) (.slice Ao38 x240003_1.length co38) x240003_1) := ⟨h3_⟩
         have n4_ : Aside0 (Kd.R Kd.string 9 w42 w.heap.size (fun _ => True) u8 x8_1) := ⟨h4_⟩
         have n5_ : Aside0 (Kd.N k42 42 w42 w.heap.size (fun k_ => some k_ ≠ (u8 : Value).ownBlock ∧ k_ ≠ gb239 ∧ k_ ≠ gb254) u9 x9_1) := ⟨h5_⟩
         have n6_ : Aside0 (w42.heap[gb239]? = some (.cells #[.int .i64 x240000_1, .int .i64 x240001_1, .slice Ao37 x240002_1.length co37, .slice Ao38 x240003_1.length co38] 25 (0, 0))) := ⟨h6_⟩
         have n7_ : Aside0 (w42.heap[gb254]? = some (.cells #[.int .i64 0, .int .i64 0, .slice none 0 0, .slice none 0 0] 25 (0, 0))) := ⟨h7_⟩
         have n8_ : Aside0 (w.heap.size ≤ gb254) := ⟨h8_⟩
         have n9_ : Aside0 (w.heap.size ≤ gb254) := ⟨h9_⟩
         have n10_ : Aside0 (gb239 ≠ gb254) := ⟨h10_⟩
         have n11_ : Aside0 (gb254 ≠ gb239) := ⟨h11_⟩
         have n12_ : Aside0 (Below w.heap.size w w42) := ⟨h12_⟩
         clear HO_8
         clear HO_9
         clear HO_240002
         clear HO_240003
         clear BK239
         clear HB
         clear h0_ h1_ h2_ h3_ h4_ h5_ h6_ h7_ h8_ h9_ h10_ h11_ h12_
         have HO249 := n0_
         have HO252 := n1_
         have HO_240002 := n2_
         have HO_240003 := n3_
         have HO_8 := n4_
         have HO_9 := n5_
         have BK239 := n6_
         have BK254 := n7_
         have GW254 := n8_
         have GE254 := n9_
         have NB239_254 := n10_
         have NB254_239 := n11_
         have HB := n12_
         clear n0_ n1_ n2_ n3_ n4_ n5_ n6_ n7_ n8_ n9_ n10_ n11_ n12_
         have hHeld : w42.cell? ⟨gb239, 0, none⟩ = some (.int .i64 x240000_1) ∧ w42.cell? ⟨gb239, 1, none⟩ = some (.int .i64 x240001_1) ∧ w42.cell? ⟨gb239, 2, none⟩ = some (.slice Ao37 x240002_1.length co37) ∧ w42.cell? ⟨gb239, 3, none⟩ = some (.slice Ao38 x240003_1.length co38) ∧ w42.cell? (ad243.add ((x10_1).toNat * 3)) = some (.int .i64 ((rd_T38 l1 x10_1).f0)) ∧ w42.cell? ⟨(ad243.add ((x10_1).toNat * 3)).block, (ad243.add ((x10_1).toNat * 3)).off + 1, none⟩ = some (.int .i64 ((rd_T38 l1 x10_1).f1)) ∧ w42.cell? ⟨(ad243.add ((x10_1).toNat * 3)).block, (ad243.add ((x10_1).toNat * 3)).off + 2, none⟩ = some (.string ((rd_T38 l1 x10_1).f2)) := hS_
         obtain ⟨Ao45, co45, eo45⟩ := Kd.V_slice HO249.out
         (first | subst eo45 | (injection eo45 with f1_ f2_ f3_; have f4_ := f1_.symm; have f5_ := f3_.symm; clear f1_ f2_ f3_; subst f4_; subst f5_))
         obtain ⟨Ao47, co47, eo47⟩ := Kd.V_slice HO252.out
         (first | subst eo47 | (injection eo47 with f1_ f2_ f3_; have f4_ := f1_.symm; have f5_ := f3_.symm; clear f1_ f2_ f3_; subst f4_; subst f5_))
         refine norm_ (a' := ?_) ?_ ?_
         rotate_left
         ·simp only [putAll, Act.put, zA, zZ, zS]
          rfl
         refine one_ (i := 11) (N := none) mq1116 rfl rfl (one_of HT_.out (by kernel_rfl)) (by decide) (fun K hK => ?_)
         have hs43 : w42.cell? ⟨gb254, 0, none⟩ = some (.int .i64 0) := (zc BK254.out 0).trans rfl
         have hfs43 := zf BK254.out 0
         have hns43_0 := NB239_254.out
         have hms43_0 := NB254_239.out
         have hs44 : w42.cell? ⟨gb254, 1, none⟩ = some (.int .i64 0) := (zc BK254.out 1).trans rfl
         have hfs44 := zf BK254.out 1
         have hns44_0 := NB239_254.out
         have hms44_0 := NB254_239.out
         have hs46 : w42.cell? ⟨gb254, 2, none⟩ = some (.slice none 0 0) := (zc BK254.out 2).trans rfl
         have hfs46 := zf BK254.out 2
         have hns46_0 := NB239_254.out
         have hms46_0 := NB254_239.out
         have hs48 : w42.cell? ⟨gb254, 3, none⟩ = some (.slice none 0 0) := (zc BK254.out 3).trans rfl
         have hfs48 := zf BK254.out 3
         have hns48_0 := NB239_254.out
         have hms48_0 := NB254_239.out
         refine skip_ (w1 := ?_) (by rfl) rfl ?_ ?_
         rotate_left
         ·go_simp
          rfl
         refine hK.out _ _ ⟨((cell_far (p := ⟨gb254, _, none⟩) NB239_254.out _).trans (((cell_far (p := ⟨gb254, _, none⟩) NB239_254.out _).trans (((cell_far (p := ⟨gb254, _, none⟩) NB239_254.out _).trans (((cell_far (p := ⟨gb254, _, none⟩) NB239_254.out _).trans (hHeld.1)))))))), ((cell_far (p := ⟨gb254, _, none⟩) NB239_254.out _).trans (((cell_far (p := ⟨gb254, _, none⟩) NB239_254.out _).trans (((cell_far (p := ⟨gb254, _, none⟩) NB239_254.out _).trans (((cell_far (p := ⟨gb254, _, none⟩) NB239_254.out _).trans (hHeld.2.1)))))))), ((cell_far (p := ⟨gb254, _, none⟩) NB239_254.out _).trans (((cell_far (p := ⟨gb254, _, none⟩) NB239_254.out _).trans (((cell_far (p := ⟨gb254, _, none⟩) NB239_254.out _).trans (((cell_far (p := ⟨gb254, _, none⟩) NB239_254.out _).trans (hHeld.2.2.1)))))))), ((cell_far (p := ⟨gb254, _, none⟩) NB239_254.out _).trans (((cell_far (p := ⟨gb254, _, none⟩) NB239_254.out _).trans (((cell_far (p := ⟨gb254, _, none⟩) NB239_254.out _).trans (((cell_far (p := ⟨gb254, _, none⟩) NB239_254.out _).trans (hHeld.2.2.2.1)))))))), ((cell_far (p := ⟨gb254, _, none⟩) (by first | exact zt (zl (by have := zW _ _ hw244_0; first | rwa [add_block] at this | exact this) GW254.out) | (rw [add_block]; exact zt (zl (by have := zW _ _ hw244_0; first | rwa [add_block] at this | exact this) GW254.out)) | (show (Addr.add _ _).block ≠ _; rw [add_block]; exact zt (zl (by have := zW _ _ hw244_0; first | rwa [add_block] at this | exact this) GW254.out)) | (dsimp only; exact zt (zl (by have := zW _ _ hw244_0; first | rwa [add_block] at this | exact this) GW254.out))) _).trans (((cell_far (p := ⟨gb254, _, none⟩) (by first | exact zt (zl (by have := zW _ _ hw244_0; first | rwa [add_block] at this | exact this) GW254.out) | (rw [add_block]; exact zt (zl (by have := zW _ _ hw244_0; first | rwa [add_block] at this | exact this) GW254.out)) | (show (Addr.add _ _).block ≠ _; rw [add_block]; exact zt (zl (by have := zW _ _ hw244_0; first | rwa [add_block] at this | exact this) GW254.out)) | (dsimp only; exact zt (zl (by have := zW _ _ hw244_0; first | rwa [add_block] at this | exact this) GW254.out))) _).trans (((cell_far (p := ⟨gb254, _, none⟩) (by first | exact zt (zl (by have := zW _ _ hw244_0; first | rwa [add_block] at this | exact this) GW254.out) | (rw [add_block]; exact zt (zl (by have := zW _ _ hw244_0; first | rwa [add_block] at this | exact this) GW254.out)) | (show (Addr.add _ _).block ≠ _; rw [add_block]; exact zt (zl (by have := zW _ _ hw244_0; first | rwa [add_block] at this | exact this) GW254.out)) | (dsimp only; exact zt (zl (by have := zW _ _ hw244_0; first | rwa [add_block] at this | exact this) GW254.out))) _).trans (((cell_far (p := ⟨gb254, _, none⟩) (by first | exact zt (zl (by have := zW _ _ hw244_0; first | rwa [add_block] at this | exact this) GW254.out) | (rw [add_block]; exact zt (zl (by have := zW _ _ hw244_0; first | rwa [add_block] at this | exact this) GW254.out)) | (show (Addr.add _ _).block ≠ _; rw [add_block]; exact zt (zl (by have := zW _ _ hw244_0; first | rwa [add_block] at this | exact this) GW254.out)) | (dsimp only; exact zt (zl (by have := zW _ _ hw244_0; first | rwa [add_block] at this | exact this) GW254.out))) _).trans (hHeld.2.2.2.2.1)))))))), ((cell_far (p := ⟨gb254, _, none⟩) (by first | exact zt (zl (by have := zW _ _ hw244_1; first | rwa [add_block] at this | exact this) GW254.out) | (rw [add_block]; exact zt (zl (by have := zW _ _ hw244_1; first | rwa [add_block] at this | exact this) GW254.out)) | (show (Addr.add _ _).block ≠ _; rw [add_block]; exact zt (zl (by have := zW _ _ hw244_1; first | rwa [add_block] at this | exact this) GW254.out)) | (dsimp only; exact zt (zl (by have := zW _ _ hw244_1; first | rwa [add_block] at this | exact this) GW254.out))) _).trans (((cell_far (p := ⟨gb254, _, none⟩) (by first | exact zt (zl (by have := zW _ _ hw244_1; first | rwa [add_block] at this | exact this) GW254.out) | (rw [add_block]; exact zt (zl (by have := zW _ _ hw244_1; first | rwa [add_block] at this | exact this) GW254.out)) | (show (Addr.add _ _).block ≠ _; rw [add_block]; exact zt (zl (by have := zW _ _ hw244_1; first | rwa [add_block] at this | exact this) GW254.out)) | (dsimp only; exact zt (zl (by have := zW _ _ hw244_1; first | rwa [add_block] at this | exact this) GW254.out))) _).trans (((cell_far (p := ⟨gb254, _, none⟩) (by first | exact zt (zl (by have := zW _ _ hw244_1; first | rwa [add_block] at this | exact this) GW254.out) | (rw [add_block]; exact zt (zl (by have := zW _ _ hw244_1; first | rwa [add_block] at this | exact this) GW254.out)) | (show (Addr.add _ _).block ≠ _; rw [add_block]; exact zt (zl (by have := zW _ _ hw244_1; first | rwa [add_block] at this | exact this) GW254.out)) | (dsimp only; exact zt (zl (by have := zW _ _ hw244_1; first | rwa [add_block] at this | exact this) GW254.out))) _).trans (((cell_far (p := ⟨gb254, _, none⟩) (by first | exact zt (zl (by have := zW _ _ hw244_1; first | rwa [add_block] at this | exact this) GW254.out) | (rw [add_block]; exact zt (zl (by have := zW _ _ hw244_1; first | rwa [add_block] at this | exact this) GW254.out)) | (show (Addr.add _ _).block ≠ _; rw [add_block]; exact zt (zl (by have := zW _ _ hw244_1; first | rwa [add_block] at this | exact this) GW254.out)) | (dsimp only; exact zt (zl (by have := zW _ _ hw244_1; first | rwa [add_block] at this | exact this) GW254.out))) _).trans (hHeld.2.2.2.2.2.1)))))))), ((cell_far (p := ⟨gb254, _, none⟩) (by first | exact zt (zl (by have := zW _ _ hw244_2; first | rwa [add_block] at this | exact this) GW254.out) | (rw [add_block]; exact zt (zl (by have := zW _ _ hw244_2; first | rwa [add_block] at this | exact this) GW254.out)) | (show (Addr.add _ _).block ≠ _; rw [add_block]; exact zt (zl (by have := zW _ _ hw244_2; first | rwa [add_block] at this | exact this) GW254.out)) | (dsimp only; exact zt (zl (by have := zW _ _ hw244_2; first | rwa [add_block] at this | exact this) GW254.out))) _).trans (((cell_far (p := ⟨gb254, _, none⟩) (by first | exact zt (zl (by have := zW _ _ hw244_2; first | rwa [add_block] at this | exact this) GW254.out) | (rw [add_block]; exact zt (zl (by have := zW _ _ hw244_2; first | rwa [add_block] at this | exact this) GW254.out)) | (show (Addr.add _ _).block ≠ _; rw [add_block]; exact zt (zl (by have := zW _ _ hw244_2; first | rwa [add_block] at this | exact this) GW254.out)) | (dsimp only; exact zt (zl (by have := zW _ _ hw244_2; first | rwa [add_block] at this | exact this) GW254.out))) _).trans (((cell_far (p := ⟨gb254, _, none⟩) (by first | exact zt (zl (by have := zW _ _ hw244_2; first | rwa [add_block] at this | exact this) GW254.out) | (rw [add_block]; exact zt (zl (by have := zW _ _ hw244_2; first | rwa [add_block] at this | exact this) GW254.out)) | (show (Addr.add _ _).block ≠ _; rw [add_block]; exact zt (zl (by have := zW _ _ hw244_2; first | rwa [add_block] at this | exact this) GW254.out)) | (dsimp only; exact zt (zl (by have := zW _ _ hw244_2; first | rwa [add_block] at this | exact this) GW254.out))) _).trans (((cell_far (p := ⟨gb254, _, none⟩) (by first | exact zt (zl (by have := zW _ _ hw244_2; first | rwa [add_block] at this | exact this) GW254.out) | (rw [add_block]; exact zt (zl (by have := zW _ _ hw244_2; first | rwa [add_block] at this | exact this) GW254.out)) | (show (Addr.add _ _).block ≠ _; rw [add_block]; exact zt (zl (by have := zW _ _ hw244_2; first | rwa [add_block] at this | exact this) GW254.out)) | (dsimp only; exact zt (zl (by have := zW _ _ hw244_2; first | rwa [add_block] at this | exact this) GW254.out))) _).trans (hHeld.2.2.2.2.2.2))))))))⟩ (fun hHeld => ?_)
         clear hK K
         refine pure_ (i := 12) (N := some 12) (v := ?_) (a' := ?_) mq1117 rfl rfl (any_of HT_.out (by kernel_rfl)) (fun _ _ _ h => h) (Or.inl ⟨by rfl, ?_⟩) ?_ ?_
         rotate_left
         ·intro w'
          go_simp
          with_reducible rfl
         rotate_left
         ·simp only [Act.put, zA, zZ, zS, i64_w, i32_w]
          rfl
         refine done_ (done_of HT_.out (by kernel_rfl)) ?_
         have hnb49 := NB254_239.out
         have hnc49 := NB239_254.out
         have hcz50_0 : w42.cell? ⟨gb254, 0, none⟩ = some (.int .i64 0) := (zc BK254.out 0).trans rfl
         have hcz50_1 : w42.cell? ⟨gb254, 1, none⟩ = some (.int .i64 0) := (zc BK254.out 1).trans rfl
         have hcz50_2 : w42.cell? ⟨gb254, 2, none⟩ = some (.slice none 0 0) := (zc BK254.out 2).trans rfl
         have hcz50_3 : w42.cell? ⟨gb254, 3, none⟩ = some (.slice none 0 0) := (zc BK254.out 3).trans rfl
         have hfz50_0 := zf BK254.out 0
         have hfz50_1 := zf BK254.out 1
         have hfz50_2 := zf BK254.out 2
         have hfz50_3 := zf BK254.out 3
         have hcz51_0 : w42.cell? ⟨gb239, 0, none⟩ = some (.int .i64 x240000_1) := (zc BK239.out 0).trans rfl
         have hcz51_1 : w42.cell? ⟨gb239, 1, none⟩ = some (.int .i64 x240001_1) := (zc BK239.out 1).trans rfl
         have hcz51_2 : w42.cell? ⟨gb239, 2, none⟩ = some (.slice Ao37 x240002_1.length co37) := (zc BK239.out 2).trans rfl
         have hcz51_3 : w42.cell? ⟨gb239, 3, none⟩ = some (.slice Ao38 x240003_1.length co38) := (zc BK239.out 3).trans rfl
         have hfz51_0 := zf BK239.out 0
         have hfz51_1 := zf BK239.out 1
         have hfz51_2 := zf BK239.out 2
         have hfz51_3 := zf BK239.out 3
         try go_wp2
         go_meet
         case rel => exact ⟨_, (x8_1), (t245), (t246), (t247), (t250), (.slice Ao45 t247.length co45), (.slice Ao47 t250.length co47), H', ⟨by have := HK1.out; first | omega | exact Nat.le_refl _⟩, ⟨by (with_reducible repeat (first | apply zra | apply zrn | apply zrd)); exact zrm (zrf (p := ⟨gb239, 3, none⟩) (zrf (p := ⟨gb239, 2, none⟩) (zrf (p := ⟨gb239, 1, none⟩) (zrf (p := ⟨gb239, 0, none⟩) (zrf (p := ⟨gb254, 3, none⟩) (zrf (p := ⟨gb254, 2, none⟩) (zrf (p := ⟨gb254, 1, none⟩) (zrf (p := ⟨gb254, 0, none⟩) (Kd.R_types (Kd.R_types HO_8.out BK254.out (by decide)) BK239.out (by decide)) (fun _ hk => hk.1.2) (.int .i64 t245)) (fun _ hk => hk.1.2) (.int .i64 t246)) (fun _ hk => hk.1.2) (.slice Ao45 t247.length co45)) (fun _ hk => hk.1.2) (.slice Ao47 t250.length co47)) (fun _ hk => hk.2) (.int .i64 t245)) (fun _ hk => hk.2) (.int .i64 t246)) (fun _ hk => hk.2) (.slice Ao45 t247.length co45)) (fun _ hk => hk.2) (.slice Ao47 t250.length co47)) (fun _ hk => trivial)⟩, ⟨by (with_reducible repeat (first | apply zna | apply znn | apply znd)); exact znm (znf (p := ⟨gb239, 3, none⟩) (znf (p := ⟨gb239, 2, none⟩) (znf (p := ⟨gb239, 1, none⟩) (znf (p := ⟨gb239, 0, none⟩) (znf (p := ⟨gb254, 3, none⟩) (znf (p := ⟨gb254, 2, none⟩) (znf (p := ⟨gb254, 1, none⟩) (znf (p := ⟨gb254, 0, none⟩) (znm (znm HO_9.out (fun k_ hk => (⟨hk, hk.2.2⟩ : _ ∧ k_ ≠ gb254))) (fun k_ hk => (⟨hk, hk.1.2.1⟩ : _ ∧ k_ ≠ gb239))) (fun _ hk => hk.1.2) (.int .i64 t245)) (fun _ hk => hk.1.2) (.int .i64 t246)) (fun _ hk => hk.1.2) (.slice Ao45 t247.length co45)) (fun _ hk => hk.1.2) (.slice Ao47 t250.length co47)) (fun _ hk => hk.2) (.int .i64 t245)) (fun _ hk => hk.2) (.int .i64 t246)) (fun _ hk => hk.2) (.slice Ao45 t247.length co45)) (fun _ hk => hk.2) (.slice Ao47 t250.length co47)) (fun _ hk => ⟨hk.1.1.1, hk.1.1.2.1⟩)⟩, ⟨by (with_reducible repeat (first | apply zva | apply zvn | apply zvd)); exact zvm (zvf (p := ⟨gb239, 3, none⟩) (zvf (p := ⟨gb239, 2, none⟩) (zvf (p := ⟨gb239, 1, none⟩) (zvf (p := ⟨gb239, 0, none⟩) (zvf (p := ⟨gb254, 3, none⟩) (zvf (p := ⟨gb254, 2, none⟩) (zvf (p := ⟨gb254, 1, none⟩) (zvf (p := ⟨gb254, 0, none⟩) (zvm (zvm HO249.out (fun k_ hk => (⟨hk, hk.2.2.2⟩ : _ ∧ k_ ≠ gb254))) (fun k_ hk => (⟨hk, hk.1.2.2.1⟩ : _ ∧ k_ ≠ gb239))) (fun _ hk => hk.1.2) (.int .i64 t245)) (fun _ hk => hk.1.2) (.int .i64 t246)) (fun _ hk => hk.1.2) (.slice Ao45 t247.length co45)) (fun _ hk => hk.1.2) (.slice Ao47 t250.length co47)) (fun _ hk => hk.2) (.int .i64 t245)) (fun _ hk => hk.2) (.int .i64 t246)) (fun _ hk => hk.2) (.slice Ao45 t247.length co45)) (fun _ hk => hk.2) (.slice Ao47 t250.length co47)) (fun _ hk => ⟨hk.1.1.1, ⟨hk.1.1.2.1, hk.1.1.2.2.1⟩⟩)⟩, ⟨by (with_reducible repeat (first | apply zva | apply zvn | apply zvd)); exact zvm (zvf (p := ⟨gb239, 3, none⟩) (zvf (p := ⟨gb239, 2, none⟩) (zvf (p := ⟨gb239, 1, none⟩) (zvf (p := ⟨gb239, 0, none⟩) (zvf (p := ⟨gb254, 3, none⟩) (zvf (p := ⟨gb254, 2, none⟩) (zvf (p := ⟨gb254, 1, none⟩) (zvf (p := ⟨gb254, 0, none⟩) (zvm (zvm HO252.out (fun k_ hk => (⟨hk, hk.2.2.2⟩ : _ ∧ k_ ≠ gb254))) (fun k_ hk => (⟨hk, hk.1.2.2.1⟩ : _ ∧ k_ ≠ gb239))) (fun _ hk => hk.1.2) (.int .i64 t245)) (fun _ hk => hk.1.2) (.int .i64 t246)) (fun _ hk => hk.1.2) (.slice Ao45 t247.length co45)) (fun _ hk => hk.1.2) (.slice Ao47 t250.length co47)) (fun _ hk => hk.2) (.int .i64 t245)) (fun _ hk => hk.2) (.int .i64 t246)) (fun _ hk => hk.2) (.slice Ao45 t247.length co45)) (fun _ hk => hk.2) (.slice Ao47 t250.length co47)) (fun _ hk => ⟨hk.1.1.1, ⟨hk.1.1.2.1, hk.1.1.2.2.1⟩⟩)⟩, ⟨by (with_reducible repeat (first | refine zn ?_ _ | refine zd ?_ | refine za ?_ _)); refine zP (cs := #[.int .i64 t245, .int .i64 t246, .slice Ao45 t247.length co45, .slice Ao38 x240003_1.length co38]) ?_ 3 _ rfl; (with_reducible repeat (first | refine zn ?_ _ | refine zd ?_ | refine za ?_ _)); refine zP (cs := #[.int .i64 t245, .int .i64 t246, .slice Ao37 x240002_1.length co37, .slice Ao38 x240003_1.length co38]) ?_ 2 _ rfl; (with_reducible repeat (first | refine zn ?_ _ | refine zd ?_ | refine za ?_ _)); refine zP (cs := #[.int .i64 t245, .int .i64 x240001_1, .slice Ao37 x240002_1.length co37, .slice Ao38 x240003_1.length co38]) ?_ 1 _ rfl; (with_reducible repeat (first | refine zn ?_ _ | refine zd ?_ | refine za ?_ _)); refine zP (cs := #[.int .i64 x240000_1, .int .i64 x240001_1, .slice Ao37 x240002_1.length co37, .slice Ao38 x240003_1.length co38]) ?_ 0 _ rfl; (with_reducible repeat (first | refine zn ?_ _ | refine zd ?_ | refine za ?_ _)); refine zF ?_ NB239_254.out _; (with_reducible repeat (first | refine zn ?_ _ | refine zd ?_ | refine za ?_ _)); refine zF ?_ NB239_254.out _; (with_reducible repeat (first | refine zn ?_ _ | refine zd ?_ | refine za ?_ _)); refine zF ?_ NB239_254.out _; (with_reducible repeat (first | refine zn ?_ _ | refine zd ?_ | refine za ?_ _)); refine zF ?_ NB239_254.out _; (with_reducible repeat (first | refine zn ?_ _ | refine zd ?_ | refine za ?_ _)); exact BK239.out⟩, ⟨by repeat (first | (with_reducible first | exact HB.out | apply zL | apply zN | apply zD | refine zJ ?_ GE239.out | refine zJ ?_ GE254.out) | exact HB.out)⟩⟩
       ·rw [if_neg c17] at H
        have c17b0 : (((rd_T38 l1 x10_1).f0) == 1) = false := beq_eq_false_iff_ne.mpr c17
        have c17b1 : (((rd_T38 l1 x10_1).f0) != 1) = true := bne_iff_ne.mpr c17
        (first | rw [c17b0] | (simp only [i64_w, i32_w]; rw [c17b0]) | skip)
        by_cases c52 : ((rd_T38 l1 x10_1).f0) = 2
        ·rw [if_pos c52] at H
         have c52b0 : (((rd_T38 l1 x10_1).f0) == 2) = true := beq_iff_eq.mpr c52
         have c52b1 : (((rd_T38 l1 x10_1).f0) != 2) = false := bne_eq_false_iff_eq.mpr c52
         clear c52
         replace H := Option.bind_eq_some_iff.mp H
         obtain ⟨⟨t259, t260, t261, t264, t267⟩, A530, H⟩ := H
         replace H : (L16_LaneKeeps.j1 k1 l1 t229 x8_1 x9_1 x10_1 t259 t260 t261 t264) = some r := H
         have A53 := zM A530
         clear A530
         have H' := zM H
         clear H
         have hcz54_0 : wr.cell? ⟨gb239, 0, none⟩ = some (.int .i64 x240000_1) := (zc BK239.out 0).trans rfl
         have hcz54_1 : wr.cell? ⟨gb239, 1, none⟩ = some (.int .i64 x240001_1) := (zc BK239.out 1).trans rfl
         have hcz54_2 : wr.cell? ⟨gb239, 2, none⟩ = some (u240002) := (zc BK239.out 2).trans rfl
         have hcz54_3 : wr.cell? ⟨gb239, 3, none⟩ = some (u240003) := (zc BK239.out 3).trans rfl
         have hfz54_0 := zf BK239.out 0
         have hfz54_1 := zf BK239.out 1
         have hfz54_2 := zf BK239.out 2
         have hfz54_3 := zf BK239.out 3
         obtain ⟨Ao55, co55, eo55⟩ := Kd.V_slice HO_240002.out
         subst eo55
         obtain ⟨Ao56, co56, eo56⟩ := Kd.V_slice HO_240003.out
         subst eo56
         go_wp2_with (first | ((with_reducible refine gate_callee (f := 16) rfl ?_); refine goesL_ (some 73) rfl rfl Try.func16 (by kernel_rfl) rfl #[.agg #[.int .i64 x240000_1, .int .i64 x240001_1, .slice Ao55 x240002_1.length co55, .slice Ao56 x240003_1.length co56]] rfl (by (try simp only [List.map_toArray, List.map_cons, List.map_nil]); first | done | rfl | (simp only [List.length_drop, List.length_take]; rfl)) ?_; (with_reducible refine (lane_Seal.calls x240000_1 x240001_1 (fun k_ => (some k_ ≠ (u8 : Value).ownBlock ∧ (some k_ ≠ (u9 : Value).ownBlock ∧ k_ ≠ gb239))) _ _ x240002_1 (fun k_ => (some k_ ≠ (u8 : Value).ownBlock ∧ (some k_ ≠ (u9 : Value).ownBlock ∧ k_ ≠ gb239))) _ _ x240003_1 t259 t260 t261 t264 t267 _ ?side1 ?side2 A53.out).mono ?_); (case side1 => exact HO_240002.out); (case side2 => exact HO_240003.out); rintro e w57 ⟨v262, v265, rfl, ho0, ho1, hb⟩; refine ⟨_, rfl, ?_⟩; have n0_ := zM (Kd.R_below (by (with_reducible repeat (first | apply zra | apply zrn | apply zrd)); exact HO_8.out) hb); have n1_ := zM (Kd.N_below (by (with_reducible repeat (first | apply zna | apply znn | apply znd)); exact HO_9.out) hb); have n2_ := zM (zvb (by (with_reducible repeat (first | apply zva | apply zvn | apply zvd)); exact HO_240002.out) hb); have n3_ := zM (zvb (by (with_reducible repeat (first | apply zva | apply zvn | apply zvd)); exact HO_240003.out) hb); have n4_ := zM (Kd.V_lower (zvm (ok' := fun k_ => some k_ ≠ (u8 : Value).ownBlock ∧ some k_ ≠ (u9 : Value).ownBlock ∧ k_ ≠ gb239) ho0 (fun k_ hk_ => ⟨Or.elim hk_ (fun hs_ => Or.elim hs_ (fun hs_ => hs_.1) (fun hs_ => hs_.1)) (fun hn_ => (Kd.fresh' (Kd.R_lt (by (with_reducible repeat (first | apply zra | apply zrn | apply zrd)); exact HO_8.out)) k_ hn_)), Or.elim hk_ (fun hs_ => Or.elim hs_ (fun hs_ => hs_.2.1) (fun hs_ => hs_.2.1)) (fun hn_ => (Kd.fresh' (Kd.N_lt (by (with_reducible repeat (first | apply zna | apply znn | apply znd)); exact HO_9.out)) k_ hn_)), Or.elim hk_ (fun hs_ => Or.elim hs_ (fun hs_ => hs_.2.2) (fun hs_ => hs_.2.2)) (fun hn_ => (Kd.freshB (g := gb239) (o := .cells #[.int .i64 x240000_1, .int .i64 x240001_1, .slice Ao55 x240002_1.length co55, .slice Ao56 x240003_1.length co56] 25 (0, 0)) (by (with_reducible repeat (first | refine zn ?_ _ | refine zd ?_ | refine za ?_ _)); exact BK239.out) k_ hn_))⟩)) (zs (by repeat (first | (with_reducible first | exact HB.out | apply zL | apply zN | apply zD | refine zJ ?_ GE239.out) | exact HB.out)))); have n5_ := zM (Kd.V_lower (zvm (ok' := fun k_ => some k_ ≠ (u8 : Value).ownBlock ∧ some k_ ≠ (u9 : Value).ownBlock ∧ k_ ≠ gb239) ho1 (fun k_ hk_ => ⟨Or.elim hk_ (fun hs_ => Or.elim hs_ (fun hs_ => hs_.1) (fun hs_ => hs_.1)) (fun hn_ => (Kd.fresh' (Kd.R_lt (by (with_reducible repeat (first | apply zra | apply zrn | apply zrd)); exact HO_8.out)) k_ hn_)), Or.elim hk_ (fun hs_ => Or.elim hs_ (fun hs_ => hs_.2.1) (fun hs_ => hs_.2.1)) (fun hn_ => (Kd.fresh' (Kd.N_lt (by (with_reducible repeat (first | apply zna | apply znn | apply znd)); exact HO_9.out)) k_ hn_)), Or.elim hk_ (fun hs_ => Or.elim hs_ (fun hs_ => hs_.2.2) (fun hs_ => hs_.2.2)) (fun hn_ => (Kd.freshB (g := gb239) (o := .cells #[.int .i64 x240000_1, .int .i64 x240001_1, .slice Ao55 x240002_1.length co55, .slice Ao56 x240003_1.length co56] 25 (0, 0)) (by (with_reducible repeat (first | refine zn ?_ _ | refine zd ?_ | refine za ?_ _)); exact BK239.out) k_ hn_))⟩)) (zs (by repeat (first | (with_reducible first | exact HB.out | apply zL | apply zN | apply zD | refine zJ ?_ GE239.out) | exact HB.out)))); have n6_ := zM (zb (g := gb239) (o := .cells #[.int .i64 x240000_1, .int .i64 x240001_1, .slice Ao55 x240002_1.length co55, .slice Ao56 x240003_1.length co56] 25 (0, 0)) (by (with_reducible repeat (first | refine zn ?_ _ | refine zd ?_ | refine za ?_ _)); exact BK239.out) hb); have n7_ := zM (zp (by repeat (first | (with_reducible first | exact HB.out | apply zL | apply zN | apply zD | refine zJ ?_ GE239.out) | exact HB.out)) hb); clear HO_8; clear HO_9; clear HO_240002; clear HO_240003; clear BK239; clear HB; have HO_8 := n0_; have HO_9 := n1_; have HO_240002 := n2_; have HO_240003 := n3_; have HO263 := n4_; have HO266 := n5_; have BK239 := n6_; have HB := n7_; clear n0_ n1_ n2_ n3_ n4_ n5_ n6_ n7_; (try clear hb); (try clear hb2); (try clear hk); (try clear hi); (try clear ho0); (try clear ho1); have hcz58_0 : w57.cell? ⟨gb239, 0, none⟩ = some (.int .i64 x240000_1) := (zc BK239.out 0).trans rfl; have hcz58_1 : w57.cell? ⟨gb239, 1, none⟩ = some (.int .i64 x240001_1) := (zc BK239.out 1).trans rfl; have hcz58_2 : w57.cell? ⟨gb239, 2, none⟩ = some (.slice Ao55 x240002_1.length co55) := (zc BK239.out 2).trans rfl; have hcz58_3 : w57.cell? ⟨gb239, 3, none⟩ = some (.slice Ao56 x240003_1.length co56) := (zc BK239.out 3).trans rfl; have hfz58_0 := zf BK239.out 0; have hfz58_1 := zf BK239.out 1; have hfz58_2 := zf BK239.out 2; have hfz58_3 := zf BK239.out 3; obtain ⟨Ao59, co59, eo59⟩ := Kd.V_slice HO263.out; subst eo59; obtain ⟨Ao60, co60, eo60⟩ := Kd.V_slice HO266.out; subst eo60))
         go_meet
         case rel => exact ⟨_, (x8_1), (t259), (t260), (t261), (t264), (.slice Ao59 t261.length co59), (.slice Ao60 t264.length co60), H', ⟨by have := HK1.out; first | omega | exact Nat.le_refl _⟩, ⟨by (with_reducible repeat (first | apply zra | apply zrn | apply zrd)); exact zrm (zrf (p := ⟨gb239, 3, none⟩) (zrf (p := ⟨gb239, 2, none⟩) (zrf (p := ⟨gb239, 1, none⟩) (zrf (p := ⟨gb239, 0, none⟩) (Kd.R_types HO_8.out BK239.out (by decide)) (fun _ hk => hk.2) (.int .i64 t259)) (fun _ hk => hk.2) (.int .i64 t260)) (fun _ hk => hk.2) (.slice Ao59 t261.length co59)) (fun _ hk => hk.2) (.slice Ao60 t264.length co60)) (fun _ hk => trivial)⟩, ⟨by (with_reducible repeat (first | apply zna | apply znn | apply znd)); exact znm (znf (p := ⟨gb239, 3, none⟩) (znf (p := ⟨gb239, 2, none⟩) (znf (p := ⟨gb239, 1, none⟩) (znf (p := ⟨gb239, 0, none⟩) (znm HO_9.out (fun k_ hk => (⟨hk, hk.2⟩ : _ ∧ k_ ≠ gb239))) (fun _ hk => hk.2) (.int .i64 t259)) (fun _ hk => hk.2) (.int .i64 t260)) (fun _ hk => hk.2) (.slice Ao59 t261.length co59)) (fun _ hk => hk.2) (.slice Ao60 t264.length co60)) (fun _ hk => ⟨hk.1.1, hk.1.2⟩)⟩, ⟨by (with_reducible repeat (first | apply zva | apply zvn | apply zvd)); exact zvm (zvf (p := ⟨gb239, 3, none⟩) (zvf (p := ⟨gb239, 2, none⟩) (zvf (p := ⟨gb239, 1, none⟩) (zvf (p := ⟨gb239, 0, none⟩) (zvm HO263.out (fun k_ hk => (⟨hk, hk.2.2⟩ : _ ∧ k_ ≠ gb239))) (fun _ hk => hk.2) (.int .i64 t259)) (fun _ hk => hk.2) (.int .i64 t260)) (fun _ hk => hk.2) (.slice Ao59 t261.length co59)) (fun _ hk => hk.2) (.slice Ao60 t264.length co60)) (fun _ hk => ⟨hk.1.1, ⟨hk.1.2.1, hk.1.2.2⟩⟩)⟩, ⟨by (with_reducible repeat (first | apply zva | apply zvn | apply zvd)); exact zvm (zvf (p := ⟨gb239, 3, none⟩) (zvf (p := ⟨gb239, 2, none⟩) (zvf (p := ⟨gb239, 1, none⟩) (zvf (p := ⟨gb239, 0, none⟩) (zvm HO266.out (fun k_ hk => (⟨hk, hk.2.2⟩ : _ ∧ k_ ≠ gb239))) (fun _ hk => hk.2) (.int .i64 t259)) (fun _ hk => hk.2) (.int .i64 t260)) (fun _ hk => hk.2) (.slice Ao59 t261.length co59)) (fun _ hk => hk.2) (.slice Ao60 t264.length co60)) (fun _ hk => ⟨hk.1.1, ⟨hk.1.2.1, hk.1.2.2⟩⟩)⟩, ⟨by (with_reducible repeat (first | refine zn ?_ _ | refine zd ?_ | refine za ?_ _)); refine zP (cs := #[.int .i64 t259, .int .i64 t260, .slice Ao59 t261.length co59, .slice Ao56 x240003_1.length co56]) ?_ 3 _ rfl; (with_reducible repeat (first | refine zn ?_ _ | refine zd ?_ | refine za ?_ _)); refine zP (cs := #[.int .i64 t259, .int .i64 t260, .slice Ao55 x240002_1.length co55, .slice Ao56 x240003_1.length co56]) ?_ 2 _ rfl; (with_reducible repeat (first | refine zn ?_ _ | refine zd ?_ | refine za ?_ _)); refine zP (cs := #[.int .i64 t259, .int .i64 x240001_1, .slice Ao55 x240002_1.length co55, .slice Ao56 x240003_1.length co56]) ?_ 1 _ rfl; (with_reducible repeat (first | refine zn ?_ _ | refine zd ?_ | refine za ?_ _)); refine zP (cs := #[.int .i64 x240000_1, .int .i64 x240001_1, .slice Ao55 x240002_1.length co55, .slice Ao56 x240003_1.length co56]) ?_ 0 _ rfl; (with_reducible repeat (first | refine zn ?_ _ | refine zd ?_ | refine za ?_ _)); exact BK239.out⟩, ⟨by repeat (first | (with_reducible first | exact HB.out | apply zL | apply zN | apply zD | refine zJ ?_ GE239.out) | exact HB.out)⟩⟩
        ·rw [if_neg c52] at H
         have c52b0 : (((rd_T38 l1 x10_1).f0) == 2) = false := beq_eq_false_iff_ne.mpr c52
         have c52b1 : (((rd_T38 l1 x10_1).f0) != 2) = true := bne_iff_ne.mpr c52
         by_cases c61 : ((rd_T38 l1 x10_1).f0) = 3
         ·rw [if_pos c61] at H
          have c61b0 : (((rd_T38 l1 x10_1).f0) == 3) = true := beq_iff_eq.mpr c61
          have c61b1 : (((rd_T38 l1 x10_1).f0) != 3) = false := bne_eq_false_iff_eq.mpr c61
          clear c61
          by_cases c62 : ((rd_T38 l1 x10_1).f1) ≥ 0
          ·rw [if_pos c62] at H
           have c62b0 : decide (0 ≤ ((rd_T38 l1 x10_1).f1)) = true := decide_eq_true c62
           clear c62
           by_cases c63 : ((rd_T38 l1 x10_1).f1) < (x240003_1.length : Int)
           ·rw [if_pos c63] at H
            have c63b0 : decide (((rd_T38 l1 x10_1).f1) < (x240003_1.length : Int)) = true := decide_eq_true c63
            clear c63
            by_cases c64 : 0 ≤ ((rd_T38 l1 x10_1).f1)
            ·rw [if_pos c64] at H
             have c64b0 : decide (0 ≤ ((rd_T38 l1 x10_1).f1)) = true := decide_eq_true c64
             clear c64
             replace H := Option.bind_eq_some_iff.mp H
             obtain ⟨⟨t272, t273, t274, t277⟩, A650, H⟩ := H
             replace H : (L16_LaneKeeps.j1 k1 l1 t229 x8_1 x9_1 x10_1 t272 t273 t274 t277) = some r := H
             have A65 := zM A650
             clear A650
             have H' := zM H
             clear H
             try go_wp2
             have n0_ := zM (zrd HO_8.out)
             have n1_ := zM (znd HO_9.out)
             have n2_ := zM (zvd HO_240002.out)
             have n3_ := zM (zvd HO_240003.out)
             have n4_ := zM (zd BK239.out)
             have n5_ := zM (zD HB.out)
             clear HO_8
             clear HO_9
             clear HO_240002
             clear HO_240003
             clear BK239
             clear HB
             have HO_8 := n0_
             have HO_9 := n1_
             have HO_240002 := n2_
             have HO_240003 := n3_
             have BK239 := n4_
             have HB := n5_
             clear n0_ n1_ n2_ n3_ n4_ n5_
             have p268 : 0 ≤ (x10_1 : Int) := zo (by first | (with_reducible assumption) | assumption)
             have q268 : x10_1 < (l1.length : Int) := zo (by first | (with_reducible assumption) | assumption)
             obtain ⟨ad268, e268, hx268_0, hx268_1, hx268_2⟩ := at_T38 HR1.out x10_1 p268 q268
             have hw268_2 := hx268_2
             have hw268_1 := hx268_1
             have hw268_0 := hx268_0
             obtain rfl : ad243 = ad268 := (by injection e268)
             replace hx268_0 := (HB.out.cell (zW w _ hx268_0)).trans hx268_0
             replace hx268_1 := (HB.out.cell (zW w _ hx268_1)).trans hx268_1
             replace hx268_2 := (HB.out.cell (zW w _ hx268_2)).trans hx268_2
             replace p268 := eq_true p268
             replace q268 := eq_true q268
             have p269 : 0 ≤ (x10_1 : Int) := zo (by first | (with_reducible assumption) | assumption)
             have q269 : x10_1 < (l1.length : Int) := zo (by first | (with_reducible assumption) | assumption)
             obtain ⟨ad269, e269, hx269_0, hx269_1, hx269_2⟩ := at_T38 HR1.out x10_1 p269 q269
             have hw269_2 := hx269_2
             have hw269_1 := hx269_1
             have hw269_0 := hx269_0
             obtain rfl : ad243 = ad269 := (by injection e269)
             replace hx269_0 := (HB.out.cell (zW w _ hx269_0)).trans hx269_0
             replace hx269_1 := (HB.out.cell (zW w _ hx269_1)).trans hx269_1
             replace hx269_2 := (HB.out.cell (zW w _ hx269_2)).trans hx269_2
             replace p269 := eq_true p269
             replace q269 := eq_true q269
             obtain ⟨Ao67, co67, eo67⟩ := Kd.V_slice HO_240003.out
             (first | subst eo67 | (injection eo67 with f1_ f2_ f3_; have f4_ := f1_.symm; have f5_ := f3_.symm; clear f1_ f2_ f3_; subst f4_; subst f5_))
             refine start_ (n := 17) (S := fun w' => w'.cell? ⟨gb239, 0, none⟩ = some (.int .i64 x240000_1) ∧ w'.cell? ⟨gb239, 1, none⟩ = some (.int .i64 x240001_1) ∧ w'.cell? ⟨gb239, 2, none⟩ = some (u240002) ∧ w'.cell? ⟨gb239, 3, none⟩ = some (.slice Ao67 x240003_1.length co67) ∧ w'.cell? (ad243.add ((x10_1).toNat * 3)) = some (.int .i64 ((rd_T38 l1 x10_1).f0)) ∧ w'.cell? ⟨(ad243.add ((x10_1).toNat * 3)).block, (ad243.add ((x10_1).toNat * 3)).off + 1, none⟩ = some (.int .i64 ((rd_T38 l1 x10_1).f1)) ∧ w'.cell? ⟨(ad243.add ((x10_1).toNat * 3)).block, (ad243.add ((x10_1).toNat * 3)).off + 2, none⟩ = some (.string ((rd_T38 l1 x10_1).f2)) ∧ w'.cell? (ad243.add ((x10_1).toNat * 3)) = some (.int .i64 ((rd_T38 l1 x10_1).f0)) ∧ w'.cell? ⟨(ad243.add ((x10_1).toNat * 3)).block, (ad243.add ((x10_1).toNat * 3)).off + 1, none⟩ = some (.int .i64 ((rd_T38 l1 x10_1).f1)) ∧ w'.cell? ⟨(ad243.add ((x10_1).toNat * 3)).block, (ad243.add ((x10_1).toNat * 3)).off + 2, none⟩ = some (.string ((rd_T38 l1 x10_1).f2))) (ds := []) mq1118 (by kernel_rfl) rfl rfl ⟨(zc BK239.out 0).trans rfl, (zc BK239.out 1).trans rfl, (zc BK239.out 2).trans rfl, (zc BK239.out 3).trans rfl, ((HB.out.cell (zW w _ hw268_0)).trans hw268_0), ((HB.out.cell (zW w _ hw268_1)).trans hw268_1), ((HB.out.cell (zW w _ hw268_2)).trans hw268_2), ((HB.out.cell (zW w _ hw269_0)).trans hw269_0), ((HB.out.cell (zW w _ hw269_1)).trans hw269_1), ((HB.out.cell (zW w _ hw269_2)).trans hw269_2)⟩ (fun hHeld => ?_); refine with_tabW L16_LaneKeeps.tab19 L16_LaneKeeps.bits19 (fun HT_ HW_ => ?_)
             generalize wr.drew = w66 at HO_8 HO_9 HO_240002 HO_240003 BK239 HB hx268_0 hx268_1 hx268_2 hx269_0 hx269_1 hx269_2 hHeld ⊢
             refine pure_ (i := 0) (N := some 78) (v := ?_) (a' := ?_) mq1119 rfl rfl (any_of HT_.out (by kernel_rfl)) (fun _ _ _ h => h) (Or.inl ⟨by rfl, ?_⟩) ?_ ?_
             rotate_left
             ·intro w'
              go_simp
              with_reducible rfl
             rotate_left
             ·simp only [Act.put, zA, zZ, zS, i64_w, i32_w]
              rfl
             refine pure_ (i := 1) (N := some 79) (v := ?_) (a' := ?_) mq1120 rfl rfl (any_of HT_.out (by kernel_rfl)) (fun _ _ _ h => h) (Or.inl ⟨by rfl, ?_⟩) ?_ ?_
             rotate_left
             ·intro w'
              go_simp
              with_reducible rfl
             rotate_left
             ·simp only [Act.put, zA, zZ, zS, i64_w, i32_w]
              rfl
             refine pure_ (i := 2) (N := some 80) (v := ?_) (a' := ?_) mq1121 rfl rfl (any_of HT_.out (by kernel_rfl)) (fun _ _ _ h => h) (Or.inl ⟨by rfl, ?_⟩) ?_ ?_
             rotate_left
             ·intro w'
              go_simp
              with_reducible rfl
             rotate_left
             ·simp only [Act.put, zA, zZ, zS, i64_w, i32_w]
              rfl
             refine pure_ (i := 3) (N := some 81) (v := ?_) (a' := ?_) mq1122 rfl rfl (any_of HT_.out (by kernel_rfl)) (fun _ _ _ h => h) (Or.inl ⟨by rfl, ?_⟩) ?_ ?_
             rotate_left
             ·intro w'
              go_simp
              with_reducible rfl
             rotate_left
             ·simp only [Act.put, zA, zZ, zS, i64_w, i32_w]
              rfl
             refine take_ (i := 4) (N := some 82) (v := ?_) (a' := ?_) mq1123 rfl rfl (take_ofW HT_.out HW_.out (by kernel_rfl)) (fun _ _ _ h => h) (Or.inl ⟨by rfl, ?_⟩) hHeld ?_ ?_
             rotate_left
             ·rintro w' ⟨s0, s1, s2, s3, s4, s5, s6, s7, s8, s9⟩
              go_simp
              with_reducible rfl
             rotate_left
             ·simp only [Act.put, zA, zZ, zS, i64_w, i32_w]
              rfl
             refine pure_ (i := 5) (N := some 83) (v := ?_) (a' := ?_) mq1124 rfl rfl (any_of HT_.out (by kernel_rfl)) (fun _ _ _ h => h) (Or.inl ⟨by rfl, ?_⟩) ?_ ?_
             rotate_left
             ·intro w'
              go_simp
              with_reducible rfl
             rotate_left
             ·simp only [Act.put, zA, zZ, zS, i64_w, i32_w]
              rfl
             refine pure_ (i := 6) (N := some 84) (v := ?_) (a' := ?_) mq1125 rfl rfl (any_of HT_.out (by kernel_rfl)) (fun _ _ _ h => h) (Or.inl ⟨by rfl, ?_⟩) ?_ ?_
             rotate_left
             ·intro w'
              go_simp
              with_reducible rfl
             rotate_left
             ·simp only [Act.put, zA, zZ, zS, i64_w, i32_w]
              rfl
             refine pure_ (i := 7) (N := some 85) (v := ?_) (a' := ?_) mq1126 rfl rfl (any_of HT_.out (by kernel_rfl)) (fun _ _ _ h => h) (Or.inl ⟨by rfl, ?_⟩) ?_ ?_
             rotate_left
             ·intro w'
              go_simp
              with_reducible rfl
             rotate_left
             ·simp only [Act.put, zA, zZ, zS, i64_w, i32_w]
              rfl
             refine pure_ (i := 8) (N := some 86) (v := ?_) (a' := ?_) mq1127 rfl rfl (any_of HT_.out (by kernel_rfl)) (fun _ _ _ h => h) (Or.inl ⟨by rfl, ?_⟩) ?_ ?_
             rotate_left
             ·intro w'
              go_simp
              with_reducible rfl
             rotate_left
             ·simp only [Act.put, zA, zZ, zS, i64_w, i32_w]
              rfl
             refine pure_ (i := 9) (N := some 87) (v := ?_) (a' := ?_) mq1128 rfl rfl (any_of HT_.out (by kernel_rfl)) (fun _ _ _ h => h) (Or.inl ⟨by rfl, ?_⟩) ?_ ?_
             rotate_left
             ·intro w'
              go_simp
              with_reducible rfl
             rotate_left
             ·simp only [Act.put, zA, zZ, zS, i64_w, i32_w]
              rfl
             refine pure_ (i := 10) (N := some 88) (v := ?_) (a' := ?_) mq1129 rfl rfl (any_of HT_.out (by kernel_rfl)) (fun _ _ _ h => h) (Or.inl ⟨by rfl, ?_⟩) ?_ ?_
             rotate_left
             ·intro w'
              go_simp
              with_reducible rfl
             rotate_left
             ·simp only [Act.put, zA, zZ, zS, i64_w, i32_w]
              rfl
             refine pure_ (i := 12) (N := some 90) (v := ?_) (a' := ?_) mq1130 rfl rfl (any_of HT_.out (by kernel_rfl)) (fun _ _ _ h => h) (Or.inl ⟨by rfl, ?_⟩) ?_ ?_
             rotate_left
             ·intro w'
              go_simp
              with_reducible rfl
             rotate_left
             ·simp only [Act.put, zA, zZ, zS, i64_w, i32_w]
              rfl
             refine take_ (i := 11) (N := some 89) (v := ?_) (a' := ?_) mq1131 rfl rfl (take_ofW HT_.out HW_.out (by kernel_rfl)) (fun _ _ _ h => h) (Or.inl ⟨by rfl, ?_⟩) hHeld ?_ ?_
             rotate_left
             ·rintro w' ⟨s0, s1, s2, s3, s4, s5, s6, s7, s8, s9⟩
              go_simp
              with_reducible rfl
             rotate_left
             ·simp only [Act.put, zA, zZ, zS, i64_w, i32_w]
              rfl
             refine take_ (i := 13) (N := some 91) (v := ?_) (a' := ?_) mq1132 rfl rfl (take_ofW HT_.out HW_.out (by kernel_rfl)) (fun _ _ _ h => h) (Or.inl ⟨by rfl, ?_⟩) hHeld ?_ ?_
             rotate_left
             ·rintro w' ⟨s0, s1, s2, s3, s4, s5, s6, s7, s8, s9⟩
              go_simp
              with_reducible rfl
             rotate_left
             ·simp only [Act.put, zA, zZ, zS, i64_w, i32_w]
              rfl
             refine pure_ (i := 14) (N := some 92) (v := ?_) (a' := ?_) mq1133 rfl rfl (any_of HT_.out (by kernel_rfl)) (fun _ _ _ h => h) (Or.inl ⟨by rfl, ?_⟩) ?_ ?_
             rotate_left
             ·intro w'
              go_simp
              with_reducible rfl
             rotate_left
             ·simp only [Act.put, zA, zZ, zS, i64_w, i32_w]
              rfl
             refine pure_ (i := 15) (N := some 93) (v := ?_) (a' := ?_) mq1134 rfl rfl (any_of HT_.out (by kernel_rfl)) (fun _ _ _ h => h) (Or.inl ⟨by rfl, ?_⟩) ?_ ?_
             rotate_left
             ·intro w'
              go_simp
              with_reducible rfl
             rotate_left
             ·simp only [Act.put, zA, zZ, zS, i64_w, i32_w]
              rfl
             refine pure_ (i := 16) (N := some 94) (v := ?_) (a' := ?_) mq1135 rfl rfl (any_of HT_.out (by kernel_rfl)) (fun _ _ _ h => h) (Or.inl ⟨by rfl, ?_⟩) ?_ ?_
             rotate_left
             ·intro w'
              go_simp
              with_reducible rfl
             rotate_left
             ·simp only [Act.put, zA, zZ, zS, i64_w, i32_w]
              rfl
             refine done_ (done_of HT_.out (by kernel_rfl)) ?_
             try go_wp2
             have n0_ := zM (zrd HO_8.out)
             have n1_ := zM (znd HO_9.out)
             have n2_ := zM (zvd HO_240002.out)
             have n3_ := zM (zvd HO_240003.out)
             have n4_ := zM (zd BK239.out)
             have n5_ := zM (zD HB.out)
             clear HO_8
             clear HO_9
             clear HO_240002
             clear HO_240003
             clear BK239
             clear HB
             have HO_8 := n0_
             have HO_9 := n1_
             have HO_240002 := n2_
             have HO_240003 := n3_
             have BK239 := n4_
             have HB := n5_
             clear n0_ n1_ n2_ n3_ n4_ n5_
             have p270 : 0 ≤ (x10_1 : Int) := zo (by first | (with_reducible assumption) | assumption)
             have q270 : x10_1 < (l1.length : Int) := zo (by first | (with_reducible assumption) | assumption)
             obtain ⟨ad270, e270, hx270_0, hx270_1, hx270_2⟩ := at_T38 HR1.out x10_1 p270 q270
             have hw270_2 := hx270_2
             have hw270_1 := hx270_1
             have hw270_0 := hx270_0
             obtain rfl : ad243 = ad270 := (by injection e270)
             replace hx270_0 := (HB.out.cell (zW w _ hx270_0)).trans hx270_0
             replace hx270_1 := (HB.out.cell (zW w _ hx270_1)).trans hx270_1
             replace hx270_2 := (HB.out.cell (zW w _ hx270_2)).trans hx270_2
             replace p270 := eq_true p270
             replace q270 := eq_true q270
             have p271 : 0 ≤ (((rd_T38 l1 x10_1).f1) : Int) := zo (by first | (with_reducible assumption) | assumption)
             have q271 : ((rd_T38 l1 x10_1).f1) < (x240003_1.length : Int) := zo (by first | (with_reducible assumption) | assumption)
             obtain ⟨ad271, A271_2, c271_2, e271, hx271_0, hx271_1, hx271_2, hl271_2, hi271_2⟩ := at_T42 (Kd.V_reads' HO_240003.out).2.2 ((rd_T38 l1 x10_1).f1) p271 q271
             cases e271
             obtain ⟨ce271, hce271, hMe271, hcc271⟩ := Kd.V_get HO_240003.out z42 ((rd_T38 l1 x10_1).f1) p271 (by first | exact q271 | exact zo (by first | (with_reducible assumption) | assumption) | (have e_ := (Kd.V_reads' HO_240003.out).1; omega))
             obtain ⟨ua271_2, uc271_2, rfl, ul271_2, ge271_2⟩ := k42_openF hMe271
             have hv271_2 := hcc271 2 _ rfl
             rw [add_field _ _ 2 (by omega)] at hv271_2
             replace hv271_2 := Option.some.inj (hv271_2.symm.trans hx271_2)
             injection hv271_2 with hva_ hvn_ hvc_
             rw [hva_] at ge271_2
             rw [hvc_] at ul271_2
             have HL271_2 := zM (show Kd.V Kd.string 9 _ w.heap.size _ _ ((rd_T42 x240003_1 ((rd_T38 l1 x10_1).f1)).f2) from Kd.V_mk ul271_2 ge271_2)
             clear hva_ hvn_ hvc_ ge271_2 ul271_2
             clear hcc271 hce271
             have HR271_2 := zM hi271_2
             have HC271_2 := zM hl271_2
             clear hi271_2 hl271_2
             replace p271 := eq_true p271
             replace q271 := eq_true q271
             obtain ⟨Ao69, co69, eo69⟩ := Kd.V_slice HO_240002.out
             (first | subst eo69 | (injection eo69 with f1_ f2_ f3_; have f4_ := f1_.symm; have f5_ := f3_.symm; clear f1_ f2_ f3_; subst f4_; subst f5_))
             refine start_ (n := 13) (S := fun w' => w'.cell? ⟨gb239, 0, none⟩ = some (.int .i64 x240000_1) ∧ w'.cell? ⟨gb239, 1, none⟩ = some (.int .i64 x240001_1) ∧ w'.cell? ⟨gb239, 2, none⟩ = some (.slice Ao69 x240002_1.length co69) ∧ w'.cell? ⟨gb239, 3, none⟩ = some (.slice (some ad271) x240003_1.length co67) ∧ w'.cell? (ad243.add ((x10_1).toNat * 3)) = some (.int .i64 ((rd_T38 l1 x10_1).f0)) ∧ w'.cell? ⟨(ad243.add ((x10_1).toNat * 3)).block, (ad243.add ((x10_1).toNat * 3)).off + 1, none⟩ = some (.int .i64 ((rd_T38 l1 x10_1).f1)) ∧ w'.cell? ⟨(ad243.add ((x10_1).toNat * 3)).block, (ad243.add ((x10_1).toNat * 3)).off + 2, none⟩ = some (.string ((rd_T38 l1 x10_1).f2)) ∧ w'.cell? (ad271.add ((((rd_T38 l1 x10_1).f1)).toNat * 3)) = some (.int .i64 ((rd_T42 x240003_1 ((rd_T38 l1 x10_1).f1)).f0)) ∧ w'.cell? ⟨(ad271.add ((((rd_T38 l1 x10_1).f1)).toNat * 3)).block, (ad271.add ((((rd_T38 l1 x10_1).f1)).toNat * 3)).off + 1, none⟩ = some (.int .i64 ((rd_T42 x240003_1 ((rd_T38 l1 x10_1).f1)).f1)) ∧ w'.cell? ⟨(ad271.add ((((rd_T38 l1 x10_1).f1)).toNat * 3)).block, (ad271.add ((((rd_T38 l1 x10_1).f1)).toNat * 3)).off + 2, none⟩ = some (.slice A271_2 ((rd_T42 x240003_1 ((rd_T38 l1 x10_1).f1)).f2).length c271_2)) (ds := [12]) mq110 (by kernel_rfl) rfl rfl ⟨(zc BK239.out 0).trans rfl, (zc BK239.out 1).trans rfl, (zc BK239.out 2).trans rfl, (zc BK239.out 3).trans rfl, ((HB.out.cell (zW w _ hw270_0)).trans hw270_0), ((HB.out.cell (zW w _ hw270_1)).trans hw270_1), ((HB.out.cell (zW w _ hw270_2)).trans hw270_2), hx271_0, hx271_1, hx271_2⟩ (fun hHeld => ?_); refine with_tabW L16_LaneKeeps.tab20 L16_LaneKeeps.bits20 (fun HT_ HW_ => ?_)
             generalize w66.drew = w68 at HO_8 HO_9 HO_240002 HO_240003 BK239 HB HL271_2 HR271_2 hx270_0 hx270_1 hx270_2 hx271_0 hx271_1 hx271_2 hHeld ⊢
             refine pure_ (i := 1) (N := some 96) (v := ?_) (a' := ?_) mq111 rfl rfl (any_of HT_.out (by kernel_rfl)) (fun _ _ _ h => h) (Or.inl ⟨by rfl, ?_⟩) ?_ ?_
             rotate_left
             ·intro w'
              go_simp
              with_reducible rfl
             rotate_left
             ·simp only [Act.put, zA, zZ, zS, i64_w, i32_w]
              rfl
             refine pure_ (i := 3) (N := some 98) (v := ?_) (a' := ?_) #[false, true, false, true, false, false, false, false, false, false, false, false, false] rfl rfl (any_of HT_.out (by kernel_rfl)) (fun _ _ _ h => h) (Or.inl ⟨by rfl, ?_⟩) ?_ ?_
             rotate_left
             ·intro w'
              go_simp
              with_reducible rfl
             rotate_left
             ·simp only [Act.put, zA, zZ, zS, i64_w, i32_w]
              rfl
             refine pure_ (i := 4) (N := some 99) (v := ?_) (a' := ?_) #[false, true, false, true, true, false, false, false, false, false, false, false, false] rfl rfl (any_of HT_.out (by kernel_rfl)) (fun _ _ _ h => h) (Or.inl ⟨by rfl, ?_⟩) ?_ ?_
             rotate_left
             ·intro w'
              go_simp
              with_reducible rfl
             rotate_left
             ·simp only [Act.put, zA, zZ, zS, i64_w, i32_w]
              rfl
             refine pure_ (i := 5) (N := some 100) (v := ?_) (a' := ?_) #[false, true, false, true, true, true, false, false, false, false, false, false, false] rfl rfl (any_of HT_.out (by kernel_rfl)) (fun _ _ _ h => h) (Or.inl ⟨by rfl, ?_⟩) ?_ ?_
             rotate_left
             ·intro w'
              go_simp
              with_reducible rfl
             rotate_left
             ·simp only [Act.put, zA, zZ, zS, i64_w, i32_w]
              rfl
             refine pure_ (i := 6) (N := some 101) (v := ?_) (a' := ?_) #[false, true, false, true, true, true, true, false, false, false, false, false, false] rfl rfl (any_of HT_.out (by kernel_rfl)) (fun _ _ _ h => h) (Or.inl ⟨by rfl, ?_⟩) ?_ ?_
             rotate_left
             ·intro w'
              go_simp
              with_reducible rfl
             rotate_left
             ·simp only [Act.put, zA, zZ, zS, i64_w, i32_w]
              rfl
             refine take_ (i := 0) (N := some 95) (v := ?_) (a' := ?_) #[true, true, false, true, true, true, true, false, false, false, false, false, false] rfl rfl (take_ofW HT_.out HW_.out (by kernel_rfl)) (fun _ _ _ h => h) (Or.inl ⟨by rfl, ?_⟩) hHeld ?_ ?_
             rotate_left
             ·rintro w' ⟨s0, s1, s2, s3, s4, s5, s6, s7, s8, s9⟩
              go_simp
              with_reducible rfl
             rotate_left
             ·simp only [Act.put, zA, zZ, zS, i64_w, i32_w]
              rfl
             refine take_ (i := 2) (N := some 97) (v := ?_) (a' := ?_) mq118 rfl rfl (take_ofW HT_.out HW_.out (by kernel_rfl)) (fun _ _ _ h => h) (Or.inl ⟨by rfl, ?_⟩) hHeld ?_ ?_
             rotate_left
             ·rintro w' ⟨s0, s1, s2, s3, s4, s5, s6, s7, s8, s9⟩
              go_simp
              with_reducible rfl
             rotate_left
             ·simp only [Act.put, zA, zZ, zS, i64_w, i32_w]
              rfl
             refine take_ (i := 7) (N := some 102) (v := ?_) (a' := ?_) mq1110 rfl rfl (take_ofW HT_.out HW_.out (by kernel_rfl)) (fun _ _ _ h => h) (Or.inl ⟨by rfl, ?_⟩) hHeld ?_ ?_
             rotate_left
             ·rintro w' ⟨s0, s1, s2, s3, s4, s5, s6, s7, s8, s9⟩
              go_simp
              with_reducible rfl
             rotate_left
             ·simp only [Act.put, zA, zZ, zS, i64_w, i32_w]
              rfl
             refine pure_ (i := 8) (N := some 103) (v := ?_) (a' := ?_) mq1111 rfl rfl (any_of HT_.out (by kernel_rfl)) (fun _ _ _ h => h) (Or.inl ⟨by rfl, ?_⟩) ?_ ?_
             rotate_left
             ·intro w'
              go_simp
              with_reducible rfl
             rotate_left
             ·simp only [Act.put, zA, zZ, zS, i64_w, i32_w]
              rfl
             refine pure_ (i := 9) (N := some 104) (v := ?_) (a' := ?_) mq1112 rfl rfl (any_of HT_.out (by kernel_rfl)) (fun _ _ _ h => h) (Or.inl ⟨by rfl, ?_⟩) ?_ ?_
             rotate_left
             ·intro w'
              go_simp
              with_reducible rfl
             rotate_left
             ·simp only [Act.put, zA, zZ, zS, i64_w, i32_w]
              rfl
             refine take_ (i := 10) (N := some 105) (v := ?_) (a' := ?_) mq117 rfl rfl (take_ofW HT_.out HW_.out (by kernel_rfl)) (fun _ _ _ h => h) (Or.inl ⟨by rfl, ?_⟩) hHeld ?_ ?_
             rotate_left
             ·rintro w' ⟨s0, s1, s2, s3, s4, s5, s6, s7, s8, s9⟩
              go_simp
              with_reducible rfl
             rotate_left
             ·simp only [Act.put, zA, zZ, zS, i64_w, i32_w]
              rfl
             refine one_ (i := 11) (N := some 106) mq1116 rfl rfl (one_of HT_.out (by kernel_rfl)) (by decide) (fun K hK => ?_)
             refine goes_ Try.func17 (by kernel_rfl) rfl #[.agg #[.int .i64 x240000_1, .int .i64 x240001_1, .slice Ao69 x240002_1.length co69, .slice (some ad271) x240003_1.length co67], .int .i64 ((rd_T42 x240003_1 ((rd_T38 l1 x10_1).f1)).f1)] (by rfl) rfl rfl (by (try simp only [List.map_toArray, List.map_cons, List.map_nil]); first | done | rfl | (simp only [List.length_drop, List.length_take]; rfl)) ?_
             with_reducible refine (lane_Ordered.calls x240000_1 x240001_1 (fun k_ => (some k_ ≠ (u8 : Value).ownBlock ∧ (some k_ ≠ (u9 : Value).ownBlock ∧ k_ ≠ gb239))) _ _ x240002_1 (fun k_ => (some k_ ≠ (u8 : Value).ownBlock ∧ (some k_ ≠ (u9 : Value).ownBlock ∧ k_ ≠ gb239))) _ _ x240003_1 ((rd_T42 x240003_1 ((rd_T38 l1 x10_1).f1)).f1) t272 t273 t274 t277 _ ?side1 ?side2 A65.out).mono ?_
             (case side1 => exact HO_240002.out)
             (case side2 => exact HO_240003.out)
             rintro e w70 ⟨v275, v278, rfl, ho0, ho1, hb⟩
             have HS7_ := (hb.cell (zW _ _ (hHeld.2.2.2.2.2.2.2.1))).trans (hHeld.2.2.2.2.2.2.2.1)
             have HS8_ := (hb.cell (zW _ _ (hHeld.2.2.2.2.2.2.2.2.1))).trans (hHeld.2.2.2.2.2.2.2.2.1)
             have HS9_ := (hb.cell (zW _ _ (hHeld.2.2.2.2.2.2.2.2.2))).trans (hHeld.2.2.2.2.2.2.2.2.2)
             refine ⟨_, rfl, ?_⟩
             have n0_ := zM (Kd.R_below (by (with_reducible repeat (first | apply zra | apply zrn | apply zrd)); exact HO_8.out) hb)
             have n1_ := zM (Kd.N_below (by (with_reducible repeat (first | apply zna | apply znn | apply znd)); exact HO_9.out) hb)
             have n2_ := zM (zvb (by (with_reducible repeat (first | apply zva | apply zvn | apply zvd)); exact HO_240002.out) hb)
             have n3_ := zM (zvb (by (with_reducible repeat (first | apply zva | apply zvn | apply zvd)); exact HO_240003.out) hb)
             have n4_ := zM (zvb (by (with_reducible repeat (first | apply zva | apply zvn | apply zvd)); exact HL271_2.out) hb)
             have n5_ := zM (Kd.V_lower (zvm (ok' := fun k_ => some k_ ≠ (u8 : Value).ownBlock ∧ some k_ ≠ (u9 : Value).ownBlock ∧ k_ ≠ gb239) ho0 (fun k_ hk_ => ⟨Or.elim hk_ (fun hs_ => Or.elim hs_ (fun hs_ => hs_.1) (fun hs_ => hs_.1)) (fun hn_ => (Kd.fresh' (Kd.R_lt (by (with_reducible repeat (first | apply zra | apply zrn | apply zrd)); exact HO_8.out)) k_ hn_)), Or.elim hk_ (fun hs_ => Or.elim hs_ (fun hs_ => hs_.2.1) (fun hs_ => hs_.2.1)) (fun hn_ => (Kd.fresh' (Kd.N_lt (by (with_reducible repeat (first | apply zna | apply znn | apply znd)); exact HO_9.out)) k_ hn_)), Or.elim hk_ (fun hs_ => Or.elim hs_ (fun hs_ => hs_.2.2) (fun hs_ => hs_.2.2)) (fun hn_ => (Kd.freshB (g := gb239) (o := .cells #[.int .i64 x240000_1, .int .i64 x240001_1, .slice Ao69 x240002_1.length co69, .slice (some ad271) x240003_1.length co67] 25 (0, 0)) (by (with_reducible repeat (first | refine zn ?_ _ | refine zd ?_ | refine za ?_ _)); exact BK239.out) k_ hn_))⟩)) (zs (by repeat (first | (with_reducible first | exact HB.out | apply zL | apply zN | apply zD | refine zJ ?_ GE239.out) | exact HB.out))))
             have n6_ := zM (Kd.V_lower (zvm (ok' := fun k_ => some k_ ≠ (u8 : Value).ownBlock ∧ some k_ ≠ (u9 : Value).ownBlock ∧ k_ ≠ gb239) ho1 (fun k_ hk_ => ⟨Or.elim hk_ (fun hs_ => Or.elim hs_ (fun hs_ => hs_.1) (fun hs_ => hs_.1)) (fun hn_ => (Kd.fresh' (Kd.R_lt (by (with_reducible repeat (first | apply zra | apply zrn | apply zrd)); exact HO_8.out)) k_ hn_)), Or.elim hk_ (fun hs_ => Or.elim hs_ (fun hs_ => hs_.2.1) (fun hs_ => hs_.2.1)) (fun hn_ => (Kd.fresh' (Kd.N_lt (by (with_reducible repeat (first | apply zna | apply znn | apply znd)); exact HO_9.out)) k_ hn_)), Or.elim hk_ (fun hs_ => Or.elim hs_ (fun hs_ => hs_.2.2) (fun hs_ => hs_.2.2)) (fun hn_ => (Kd.freshB (g := gb239) (o := .cells #[.int .i64 x240000_1, .int .i64 x240001_1, .slice Ao69 x240002_1.length co69, .slice (some ad271) x240003_1.length co67] 25 (0, 0)) (by (with_reducible repeat (first | refine zn ?_ _ | refine zd ?_ | refine za ?_ _)); exact BK239.out) k_ hn_))⟩)) (zs (by repeat (first | (with_reducible first | exact HB.out | apply zL | apply zN | apply zD | refine zJ ?_ GE239.out) | exact HB.out))))
             have n7_ := zM (zb (g := gb239) (o := .cells #[.int .i64 x240000_1, .int .i64 x240001_1, .slice Ao69 x240002_1.length co69, .slice (some ad271) x240003_1.length co67] 25 (0, 0)) (by (with_reducible repeat (first | refine zn ?_ _ | refine zd ?_ | refine za ?_ _)); exact BK239.out) hb)
             have n8_ := zM (zcb (by repeat (first | (with_reducible exact HR271_2.out) | (with_reducible refine zca ?_ _) | (with_reducible refine zcn ?_ _) | (with_reducible refine zcd ?_) | exact HR271_2.out)) hb)
             have n9_ := zM (zp (by repeat (first | (with_reducible first | exact HB.out | apply zL | apply zN | apply zD | refine zJ ?_ GE239.out) | exact HB.out)) hb)
             clear HO_8
             clear HO_9
             clear HO_240002
             clear HO_240003
             clear HL271_2
             clear BK239
             clear HR271_2
             clear HB
             have HO_8 := n0_
             have HO_9 := n1_
             have HO_240002 := n2_
             have HO_240003 := n3_
             have HL271_2 := n4_
             have HO276 := n5_
             have HO279 := n6_
             have BK239 := n7_
             have HR271_2 := n8_
             have HB := n9_
             clear n0_ n1_ n2_ n3_ n4_ n5_ n6_ n7_ n8_ n9_
             (try clear hb)
             (try clear hb2)
             (try clear hk)
             (try clear hi)
             (try clear ho0)
             (try clear ho1)
             obtain ⟨Ao73, co73, eo73⟩ := Kd.V_slice HO276.out
             (first | subst eo73 | (injection eo73 with f1_ f2_ f3_; have f4_ := f1_.symm; have f5_ := f3_.symm; clear f1_ f2_ f3_; subst f4_; subst f5_))
             obtain ⟨Ao75, co75, eo75⟩ := Kd.V_slice HO279.out
             (first | subst eo75 | (injection eo75 with f1_ f2_ f3_; have f4_ := f1_.symm; have f5_ := f3_.symm; clear f1_ f2_ f3_; subst f4_; subst f5_))
             refine hK.out _ _ ⟨(zc BK239.out 0).trans rfl, (zc BK239.out 1).trans rfl, (zc BK239.out 2).trans rfl, (zc BK239.out 3).trans rfl, ((HB.out.cell (zW w _ hw270_0)).trans hw270_0), ((HB.out.cell (zW w _ hw270_1)).trans hw270_1), ((HB.out.cell (zW w _ hw270_2)).trans hw270_2), HS7_, HS8_, HS9_⟩ (fun hHeld => ?_)
             clear hK K
             refine norm_ (a' := ?_) ?_ ?_
             rotate_left
             ·show Act.put _ (some 106) _ = _
              simp only [Act.put, zA, zZ, zS, i64_w, i32_w]
              rfl
             refine last_ (i := 12) (N := none) mq1117 rfl rfl (one_of HT_.out (by kernel_rfl)) (by decide) (fun K hK => ?_)
             have hs71 : w70.cell? ⟨gb239, 0, none⟩ = some (.int .i64 x240000_1) := (zc BK239.out 0).trans rfl
             have hfs71 := zf BK239.out 0
             have hs72 : w70.cell? ⟨gb239, 1, none⟩ = some (.int .i64 x240001_1) := (zc BK239.out 1).trans rfl
             have hfs72 := zf BK239.out 1
             have hs74 : w70.cell? ⟨gb239, 2, none⟩ = some (.slice Ao69 x240002_1.length co69) := (zc BK239.out 2).trans rfl
             have hfs74 := zf BK239.out 2
             have hs76 : w70.cell? ⟨gb239, 3, none⟩ = some (.slice (some ad271) x240003_1.length co67) := (zc BK239.out 3).trans rfl
             have hfs76 := zf BK239.out 3
             refine skip_ (w1 := ?_) (by rfl) rfl ?_ ?_
             rotate_left
             ·go_simp
              rfl
             refine hK.out _ _ ?_
             clear hK K
             refine done_ (done_of HT_.out (by kernel_rfl)) ?_
             try go_wp2
             go_meet
             case rel => exact ⟨_, (x8_1), (t272), (t273), (t274), (t277), (.slice Ao73 t274.length co73), (.slice Ao75 t277.length co75), H', ⟨by have := HK1.out; first | omega | exact Nat.le_refl _⟩, ⟨by (with_reducible repeat (first | apply zra | apply zrn | apply zrd)); exact zrm (zrf (p := ⟨gb239, 3, none⟩) (zrf (p := ⟨gb239, 2, none⟩) (zrf (p := ⟨gb239, 1, none⟩) (zrf (p := ⟨gb239, 0, none⟩) (Kd.R_types HO_8.out BK239.out (by decide)) (fun _ hk => hk.2) (.int .i64 t272)) (fun _ hk => hk.2) (.int .i64 t273)) (fun _ hk => hk.2) (.slice Ao73 t274.length co73)) (fun _ hk => hk.2) (.slice Ao75 t277.length co75)) (fun _ hk => trivial)⟩, ⟨by (with_reducible repeat (first | apply zna | apply znn | apply znd)); exact znm (znf (p := ⟨gb239, 3, none⟩) (znf (p := ⟨gb239, 2, none⟩) (znf (p := ⟨gb239, 1, none⟩) (znf (p := ⟨gb239, 0, none⟩) (znm HO_9.out (fun k_ hk => (⟨hk, hk.2⟩ : _ ∧ k_ ≠ gb239))) (fun _ hk => hk.2) (.int .i64 t272)) (fun _ hk => hk.2) (.int .i64 t273)) (fun _ hk => hk.2) (.slice Ao73 t274.length co73)) (fun _ hk => hk.2) (.slice Ao75 t277.length co75)) (fun _ hk => ⟨hk.1.1, hk.1.2⟩)⟩, ⟨by (with_reducible repeat (first | apply zva | apply zvn | apply zvd)); exact zvm (zvf (p := ⟨gb239, 3, none⟩) (zvf (p := ⟨gb239, 2, none⟩) (zvf (p := ⟨gb239, 1, none⟩) (zvf (p := ⟨gb239, 0, none⟩) (zvm HO276.out (fun k_ hk => (⟨hk, hk.2.2⟩ : _ ∧ k_ ≠ gb239))) (fun _ hk => hk.2) (.int .i64 t272)) (fun _ hk => hk.2) (.int .i64 t273)) (fun _ hk => hk.2) (.slice Ao73 t274.length co73)) (fun _ hk => hk.2) (.slice Ao75 t277.length co75)) (fun _ hk => ⟨hk.1.1, ⟨hk.1.2.1, hk.1.2.2⟩⟩)⟩, ⟨by (with_reducible repeat (first | apply zva | apply zvn | apply zvd)); exact zvm (zvf (p := ⟨gb239, 3, none⟩) (zvf (p := ⟨gb239, 2, none⟩) (zvf (p := ⟨gb239, 1, none⟩) (zvf (p := ⟨gb239, 0, none⟩) (zvm HO279.out (fun k_ hk => (⟨hk, hk.2.2⟩ : _ ∧ k_ ≠ gb239))) (fun _ hk => hk.2) (.int .i64 t272)) (fun _ hk => hk.2) (.int .i64 t273)) (fun _ hk => hk.2) (.slice Ao73 t274.length co73)) (fun _ hk => hk.2) (.slice Ao75 t277.length co75)) (fun _ hk => ⟨hk.1.1, ⟨hk.1.2.1, hk.1.2.2⟩⟩)⟩, ⟨by (with_reducible repeat (first | refine zn ?_ _ | refine zd ?_ | refine za ?_ _)); refine zP (cs := #[.int .i64 t272, .int .i64 t273, .slice Ao73 t274.length co73, .slice (some ad271) x240003_1.length co67]) ?_ 3 _ rfl; (with_reducible repeat (first | refine zn ?_ _ | refine zd ?_ | refine za ?_ _)); refine zP (cs := #[.int .i64 t272, .int .i64 t273, .slice Ao69 x240002_1.length co69, .slice (some ad271) x240003_1.length co67]) ?_ 2 _ rfl; (with_reducible repeat (first | refine zn ?_ _ | refine zd ?_ | refine za ?_ _)); refine zP (cs := #[.int .i64 t272, .int .i64 x240001_1, .slice Ao69 x240002_1.length co69, .slice (some ad271) x240003_1.length co67]) ?_ 1 _ rfl; (with_reducible repeat (first | refine zn ?_ _ | refine zd ?_ | refine za ?_ _)); refine zP (cs := #[.int .i64 x240000_1, .int .i64 x240001_1, .slice Ao69 x240002_1.length co69, .slice (some ad271) x240003_1.length co67]) ?_ 0 _ rfl; (with_reducible repeat (first | refine zn ?_ _ | refine zd ?_ | refine za ?_ _)); exact BK239.out⟩, ⟨by repeat (first | (with_reducible first | exact HB.out | apply zL | apply zN | apply zD | refine zJ ?_ GE239.out) | exact HB.out)⟩⟩
            ·rw [if_neg c64] at H
             exact absurd H (by simp)
           ·rw [if_neg c63] at H
            have c63b0 : decide (((rd_T38 l1 x10_1).f1) < (x240003_1.length : Int)) = false := decide_eq_false c63
            clear c63
            have H' := zM H
            clear H
            try go_wp2
            have n0_ := zM (zrd HO_8.out)
            have n1_ := zM (znd HO_9.out)
            have n2_ := zM (zvd HO_240002.out)
            have n3_ := zM (zvd HO_240003.out)
            have n4_ := zM (zd BK239.out)
            have n5_ := zM (zD HB.out)
            clear HO_8
            clear HO_9
            clear HO_240002
            clear HO_240003
            clear BK239
            clear HB
            have HO_8 := n0_
            have HO_9 := n1_
            have HO_240002 := n2_
            have HO_240003 := n3_
            have BK239 := n4_
            have HB := n5_
            clear n0_ n1_ n2_ n3_ n4_ n5_
            have p268 : 0 ≤ (x10_1 : Int) := zo (by first | (with_reducible assumption) | assumption)
            have q268 : x10_1 < (l1.length : Int) := zo (by first | (with_reducible assumption) | assumption)
            obtain ⟨ad268, e268, hx268_0, hx268_1, hx268_2⟩ := at_T38 HR1.out x10_1 p268 q268
            have hw268_2 := hx268_2
            have hw268_1 := hx268_1
            have hw268_0 := hx268_0
            obtain rfl : ad243 = ad268 := (by injection e268)
            replace hx268_0 := (HB.out.cell (zW w _ hx268_0)).trans hx268_0
            replace hx268_1 := (HB.out.cell (zW w _ hx268_1)).trans hx268_1
            replace hx268_2 := (HB.out.cell (zW w _ hx268_2)).trans hx268_2
            replace p268 := eq_true p268
            replace q268 := eq_true q268
            have p269 : 0 ≤ (x10_1 : Int) := zo (by first | (with_reducible assumption) | assumption)
            have q269 : x10_1 < (l1.length : Int) := zo (by first | (with_reducible assumption) | assumption)
            obtain ⟨ad269, e269, hx269_0, hx269_1, hx269_2⟩ := at_T38 HR1.out x10_1 p269 q269
            have hw269_2 := hx269_2
            have hw269_1 := hx269_1
            have hw269_0 := hx269_0
            obtain rfl : ad243 = ad269 := (by injection e269)
            replace hx269_0 := (HB.out.cell (zW w _ hx269_0)).trans hx269_0
            replace hx269_1 := (HB.out.cell (zW w _ hx269_1)).trans hx269_1
            replace hx269_2 := (HB.out.cell (zW w _ hx269_2)).trans hx269_2
            replace p269 := eq_true p269
            replace q269 := eq_true q269
            obtain ⟨Ao78, co78, eo78⟩ := Kd.V_slice HO_240003.out
            (first | subst eo78 | (injection eo78 with f1_ f2_ f3_; have f4_ := f1_.symm; have f5_ := f3_.symm; clear f1_ f2_ f3_; subst f4_; subst f5_))
            refine start_ (n := 17) (S := fun w' => w'.cell? ⟨gb239, 0, none⟩ = some (.int .i64 x240000_1) ∧ w'.cell? ⟨gb239, 1, none⟩ = some (.int .i64 x240001_1) ∧ w'.cell? ⟨gb239, 2, none⟩ = some (u240002) ∧ w'.cell? ⟨gb239, 3, none⟩ = some (.slice Ao78 x240003_1.length co78) ∧ w'.cell? (ad243.add ((x10_1).toNat * 3)) = some (.int .i64 ((rd_T38 l1 x10_1).f0)) ∧ w'.cell? ⟨(ad243.add ((x10_1).toNat * 3)).block, (ad243.add ((x10_1).toNat * 3)).off + 1, none⟩ = some (.int .i64 ((rd_T38 l1 x10_1).f1)) ∧ w'.cell? ⟨(ad243.add ((x10_1).toNat * 3)).block, (ad243.add ((x10_1).toNat * 3)).off + 2, none⟩ = some (.string ((rd_T38 l1 x10_1).f2)) ∧ w'.cell? (ad243.add ((x10_1).toNat * 3)) = some (.int .i64 ((rd_T38 l1 x10_1).f0)) ∧ w'.cell? ⟨(ad243.add ((x10_1).toNat * 3)).block, (ad243.add ((x10_1).toNat * 3)).off + 1, none⟩ = some (.int .i64 ((rd_T38 l1 x10_1).f1)) ∧ w'.cell? ⟨(ad243.add ((x10_1).toNat * 3)).block, (ad243.add ((x10_1).toNat * 3)).off + 2, none⟩ = some (.string ((rd_T38 l1 x10_1).f2))) (ds := []) mq1118 (by kernel_rfl) rfl rfl ⟨(zc BK239.out 0).trans rfl, (zc BK239.out 1).trans rfl, (zc BK239.out 2).trans rfl, (zc BK239.out 3).trans rfl, ((HB.out.cell (zW w _ hw268_0)).trans hw268_0), ((HB.out.cell (zW w _ hw268_1)).trans hw268_1), ((HB.out.cell (zW w _ hw268_2)).trans hw268_2), ((HB.out.cell (zW w _ hw269_0)).trans hw269_0), ((HB.out.cell (zW w _ hw269_1)).trans hw269_1), ((HB.out.cell (zW w _ hw269_2)).trans hw269_2)⟩ (fun hHeld => ?_); refine with_tabW L16_LaneKeeps.tab19 L16_LaneKeeps.bits19 (fun HT_ HW_ => ?_)
            generalize wr.drew = w77 at HO_8 HO_9 HO_240002 HO_240003 BK239 HB hx268_0 hx268_1 hx268_2 hx269_0 hx269_1 hx269_2 hHeld ⊢
            refine pure_ (i := 0) (N := some 78) (v := ?_) (a' := ?_) mq1119 rfl rfl (any_of HT_.out (by kernel_rfl)) (fun _ _ _ h => h) (Or.inl ⟨by rfl, ?_⟩) ?_ ?_
            rotate_left
            ·intro w'
             go_simp
             with_reducible rfl
            rotate_left
            ·simp only [Act.put, zA, zZ, zS, i64_w, i32_w]
             rfl
            refine pure_ (i := 1) (N := some 79) (v := ?_) (a' := ?_) mq1120 rfl rfl (any_of HT_.out (by kernel_rfl)) (fun _ _ _ h => h) (Or.inl ⟨by rfl, ?_⟩) ?_ ?_
            rotate_left
            ·intro w'
             go_simp
             with_reducible rfl
            rotate_left
            ·simp only [Act.put, zA, zZ, zS, i64_w, i32_w]
             rfl
            refine pure_ (i := 2) (N := some 80) (v := ?_) (a' := ?_) mq1121 rfl rfl (any_of HT_.out (by kernel_rfl)) (fun _ _ _ h => h) (Or.inl ⟨by rfl, ?_⟩) ?_ ?_
            rotate_left
            ·intro w'
             go_simp
             with_reducible rfl
            rotate_left
            ·simp only [Act.put, zA, zZ, zS, i64_w, i32_w]
             rfl
            refine pure_ (i := 3) (N := some 81) (v := ?_) (a' := ?_) mq1122 rfl rfl (any_of HT_.out (by kernel_rfl)) (fun _ _ _ h => h) (Or.inl ⟨by rfl, ?_⟩) ?_ ?_
            rotate_left
            ·intro w'
             go_simp
             with_reducible rfl
            rotate_left
            ·simp only [Act.put, zA, zZ, zS, i64_w, i32_w]
             rfl
            refine take_ (i := 4) (N := some 82) (v := ?_) (a' := ?_) mq1123 rfl rfl (take_ofW HT_.out HW_.out (by kernel_rfl)) (fun _ _ _ h => h) (Or.inl ⟨by rfl, ?_⟩) hHeld ?_ ?_
            rotate_left
            ·rintro w' ⟨s0, s1, s2, s3, s4, s5, s6, s7, s8, s9⟩
             go_simp
             with_reducible rfl
            rotate_left
            ·simp only [Act.put, zA, zZ, zS, i64_w, i32_w]
             rfl
            refine pure_ (i := 5) (N := some 83) (v := ?_) (a' := ?_) mq1124 rfl rfl (any_of HT_.out (by kernel_rfl)) (fun _ _ _ h => h) (Or.inl ⟨by rfl, ?_⟩) ?_ ?_
            rotate_left
            ·intro w'
             go_simp
             with_reducible rfl
            rotate_left
            ·simp only [Act.put, zA, zZ, zS, i64_w, i32_w]
             rfl
            refine pure_ (i := 6) (N := some 84) (v := ?_) (a' := ?_) mq1125 rfl rfl (any_of HT_.out (by kernel_rfl)) (fun _ _ _ h => h) (Or.inl ⟨by rfl, ?_⟩) ?_ ?_
            rotate_left
            ·intro w'
             go_simp
             with_reducible rfl
            rotate_left
            ·simp only [Act.put, zA, zZ, zS, i64_w, i32_w]
             rfl
            refine pure_ (i := 7) (N := some 85) (v := ?_) (a' := ?_) mq1126 rfl rfl (any_of HT_.out (by kernel_rfl)) (fun _ _ _ h => h) (Or.inl ⟨by rfl, ?_⟩) ?_ ?_
            rotate_left
            ·intro w'
             go_simp
             with_reducible rfl
            rotate_left
            ·simp only [Act.put, zA, zZ, zS, i64_w, i32_w]
             rfl
            refine pure_ (i := 8) (N := some 86) (v := ?_) (a' := ?_) mq1127 rfl rfl (any_of HT_.out (by kernel_rfl)) (fun _ _ _ h => h) (Or.inl ⟨by rfl, ?_⟩) ?_ ?_
            rotate_left
            ·intro w'
             go_simp
             with_reducible rfl
            rotate_left
            ·simp only [Act.put, zA, zZ, zS, i64_w, i32_w]
             rfl
            refine pure_ (i := 9) (N := some 87) (v := ?_) (a' := ?_) mq1128 rfl rfl (any_of HT_.out (by kernel_rfl)) (fun _ _ _ h => h) (Or.inl ⟨by rfl, ?_⟩) ?_ ?_
            rotate_left
            ·intro w'
             go_simp
             with_reducible rfl
            rotate_left
            ·simp only [Act.put, zA, zZ, zS, i64_w, i32_w]
             rfl
            refine pure_ (i := 10) (N := some 88) (v := ?_) (a' := ?_) mq1129 rfl rfl (any_of HT_.out (by kernel_rfl)) (fun _ _ _ h => h) (Or.inl ⟨by rfl, ?_⟩) ?_ ?_
            rotate_left
            ·intro w'
             go_simp
             with_reducible rfl
            rotate_left
            ·simp only [Act.put, zA, zZ, zS, i64_w, i32_w]
             rfl
            refine pure_ (i := 12) (N := some 90) (v := ?_) (a' := ?_) mq1130 rfl rfl (any_of HT_.out (by kernel_rfl)) (fun _ _ _ h => h) (Or.inl ⟨by rfl, ?_⟩) ?_ ?_
            rotate_left
            ·intro w'
             go_simp
             with_reducible rfl
            rotate_left
            ·simp only [Act.put, zA, zZ, zS, i64_w, i32_w]
             rfl
            refine take_ (i := 11) (N := some 89) (v := ?_) (a' := ?_) mq1131 rfl rfl (take_ofW HT_.out HW_.out (by kernel_rfl)) (fun _ _ _ h => h) (Or.inl ⟨by rfl, ?_⟩) hHeld ?_ ?_
            rotate_left
            ·rintro w' ⟨s0, s1, s2, s3, s4, s5, s6, s7, s8, s9⟩
             go_simp
             with_reducible rfl
            rotate_left
            ·simp only [Act.put, zA, zZ, zS, i64_w, i32_w]
             rfl
            refine take_ (i := 13) (N := some 91) (v := ?_) (a' := ?_) mq1132 rfl rfl (take_ofW HT_.out HW_.out (by kernel_rfl)) (fun _ _ _ h => h) (Or.inl ⟨by rfl, ?_⟩) hHeld ?_ ?_
            rotate_left
            ·rintro w' ⟨s0, s1, s2, s3, s4, s5, s6, s7, s8, s9⟩
             go_simp
             with_reducible rfl
            rotate_left
            ·simp only [Act.put, zA, zZ, zS, i64_w, i32_w]
             rfl
            refine pure_ (i := 14) (N := some 92) (v := ?_) (a' := ?_) mq1133 rfl rfl (any_of HT_.out (by kernel_rfl)) (fun _ _ _ h => h) (Or.inl ⟨by rfl, ?_⟩) ?_ ?_
            rotate_left
            ·intro w'
             go_simp
             with_reducible rfl
            rotate_left
            ·simp only [Act.put, zA, zZ, zS, i64_w, i32_w]
             rfl
            refine pure_ (i := 15) (N := some 93) (v := ?_) (a' := ?_) mq1134 rfl rfl (any_of HT_.out (by kernel_rfl)) (fun _ _ _ h => h) (Or.inl ⟨by rfl, ?_⟩) ?_ ?_
            rotate_left
            ·intro w'
             go_simp
             with_reducible rfl
            rotate_left
            ·simp only [Act.put, zA, zZ, zS, i64_w, i32_w]
             rfl
            refine pure_ (i := 16) (N := some 94) (v := ?_) (a' := ?_) mq1135 rfl rfl (any_of HT_.out (by kernel_rfl)) (fun _ _ _ h => h) (Or.inl ⟨by rfl, ?_⟩) ?_ ?_
            rotate_left
            ·intro w'
             go_simp
             with_reducible rfl
            rotate_left
            ·simp only [Act.put, zA, zZ, zS, i64_w, i32_w]
             rfl
            refine done_ (done_of HT_.out (by kernel_rfl)) ?_
            try go_wp2
            go_meet
            case rel => exact ⟨_, (x8_1), (x240000_1), (x240001_1), (x240002_1), (x240003_1), (u240002), (.slice Ao78 x240003_1.length co78), H', ⟨by have := HK1.out; first | omega | exact Nat.le_refl _⟩, ⟨by (with_reducible repeat (first | apply zra | apply zrn | apply zrd)); exact HO_8.out⟩, ⟨by (with_reducible repeat (first | apply zna | apply znn | apply znd)); exact HO_9.out⟩, ⟨by (with_reducible repeat (first | apply zva | apply zvn | apply zvd)); exact HO_240002.out⟩, ⟨by (with_reducible repeat (first | apply zva | apply zvn | apply zvd)); exact HO_240003.out⟩, ⟨by (with_reducible repeat (first | refine zn ?_ _ | refine zd ?_ | refine za ?_ _)); exact BK239.out⟩, ⟨by repeat (first | (with_reducible first | exact HB.out | apply zL | apply zN | apply zD | refine zJ ?_ GE239.out) | exact HB.out)⟩⟩
          ·rw [if_neg c62] at H
           have c62b0 : decide (0 ≤ ((rd_T38 l1 x10_1).f1)) = false := decide_eq_false c62
           clear c62
           have H' := zM H
           clear H
           try go_wp2
           have n0_ := zM (zrd HO_8.out)
           have n1_ := zM (znd HO_9.out)
           have n2_ := zM (zvd HO_240002.out)
           have n3_ := zM (zvd HO_240003.out)
           have n4_ := zM (zd BK239.out)
           have n5_ := zM (zD HB.out)
           clear HO_8
           clear HO_9
           clear HO_240002
           clear HO_240003
           clear BK239
           clear HB
           have HO_8 := n0_
           have HO_9 := n1_
           have HO_240002 := n2_
           have HO_240003 := n3_
           have BK239 := n4_
           have HB := n5_
           clear n0_ n1_ n2_ n3_ n4_ n5_
           have p268 : 0 ≤ (x10_1 : Int) := zo (by first | (with_reducible assumption) | assumption)
           have q268 : x10_1 < (l1.length : Int) := zo (by first | (with_reducible assumption) | assumption)
           obtain ⟨ad268, e268, hx268_0, hx268_1, hx268_2⟩ := at_T38 HR1.out x10_1 p268 q268
           have hw268_2 := hx268_2
           have hw268_1 := hx268_1
           have hw268_0 := hx268_0
           obtain rfl : ad243 = ad268 := (by injection e268)
           replace hx268_0 := (HB.out.cell (zW w _ hx268_0)).trans hx268_0
           replace hx268_1 := (HB.out.cell (zW w _ hx268_1)).trans hx268_1
           replace hx268_2 := (HB.out.cell (zW w _ hx268_2)).trans hx268_2
           replace p268 := eq_true p268
           replace q268 := eq_true q268
           refine start_ (n := 17) (S := fun w' => w'.cell? (ad243.add ((x10_1).toNat * 3)) = some (.int .i64 ((rd_T38 l1 x10_1).f0)) ∧ w'.cell? ⟨(ad243.add ((x10_1).toNat * 3)).block, (ad243.add ((x10_1).toNat * 3)).off + 1, none⟩ = some (.int .i64 ((rd_T38 l1 x10_1).f1)) ∧ w'.cell? ⟨(ad243.add ((x10_1).toNat * 3)).block, (ad243.add ((x10_1).toNat * 3)).off + 2, none⟩ = some (.string ((rd_T38 l1 x10_1).f2))) (ds := []) mq1118 (by kernel_rfl) rfl rfl ⟨((HB.out.cell (zW w _ hw268_0)).trans hw268_0), ((HB.out.cell (zW w _ hw268_1)).trans hw268_1), ((HB.out.cell (zW w _ hw268_2)).trans hw268_2)⟩ (fun hHeld => ?_); refine with_tabW L16_LaneKeeps.tab19 L16_LaneKeeps.bits19 (fun HT_ HW_ => ?_)
           generalize wr.drew = w79 at HO_8 HO_9 HO_240002 HO_240003 BK239 HB hx268_0 hx268_1 hx268_2 hHeld ⊢
           refine pure_ (i := 0) (N := some 78) (v := ?_) (a' := ?_) mq1119 rfl rfl (any_of HT_.out (by kernel_rfl)) (fun _ _ _ h => h) (Or.inl ⟨by rfl, ?_⟩) ?_ ?_
           rotate_left
           ·intro w'
            go_simp
            with_reducible rfl
           rotate_left
           ·simp only [Act.put, zA, zZ, zS, i64_w, i32_w]
            rfl
           refine pure_ (i := 1) (N := some 79) (v := ?_) (a' := ?_) mq1120 rfl rfl (any_of HT_.out (by kernel_rfl)) (fun _ _ _ h => h) (Or.inl ⟨by rfl, ?_⟩) ?_ ?_
           rotate_left
           ·intro w'
            go_simp
            with_reducible rfl
           rotate_left
           ·simp only [Act.put, zA, zZ, zS, i64_w, i32_w]
            rfl
           refine pure_ (i := 2) (N := some 80) (v := ?_) (a' := ?_) mq1121 rfl rfl (any_of HT_.out (by kernel_rfl)) (fun _ _ _ h => h) (Or.inl ⟨by rfl, ?_⟩) ?_ ?_
           rotate_left
           ·intro w'
            go_simp
            with_reducible rfl
           rotate_left
           ·simp only [Act.put, zA, zZ, zS, i64_w, i32_w]
            rfl
           refine pure_ (i := 3) (N := some 81) (v := ?_) (a' := ?_) mq1122 rfl rfl (any_of HT_.out (by kernel_rfl)) (fun _ _ _ h => h) (Or.inl ⟨by rfl, ?_⟩) ?_ ?_
           rotate_left
           ·intro w'
            go_simp
            with_reducible rfl
           rotate_left
           ·simp only [Act.put, zA, zZ, zS, i64_w, i32_w]
            rfl
           refine take_ (i := 4) (N := some 82) (v := ?_) (a' := ?_) mq1123 rfl rfl (take_ofW HT_.out HW_.out (by kernel_rfl)) (fun _ _ _ h => h) (Or.inl ⟨by rfl, ?_⟩) hHeld ?_ ?_
           rotate_left
           ·rintro w' ⟨s0, s1, s2⟩
            go_simp
            with_reducible rfl
           rotate_left
           ·simp only [Act.put, zA, zZ, zS, i64_w, i32_w]
            rfl
           refine pure_ (i := 5) (N := some 83) (v := ?_) (a' := ?_) mq1124 rfl rfl (any_of HT_.out (by kernel_rfl)) (fun _ _ _ h => h) (Or.inl ⟨by rfl, ?_⟩) ?_ ?_
           rotate_left
           ·intro w'
            go_simp
            with_reducible rfl
           rotate_left
           ·simp only [Act.put, zA, zZ, zS, i64_w, i32_w]
            rfl
           refine pure_ (i := 6) (N := some 84) (v := ?_) (a' := ?_) mq1125 rfl rfl (any_of HT_.out (by kernel_rfl)) (fun _ _ _ h => h) (Or.inl ⟨by rfl, ?_⟩) ?_ ?_
           rotate_left
           ·intro w'
            go_simp
            with_reducible rfl
           rotate_left
           ·simp only [Act.put, zA, zZ, zS, i64_w, i32_w]
            rfl
           refine pure_ (i := 7) (N := some 85) (v := undef) (a' := ?_) mq1126 rfl rfl (any_of HT_.out (by kernel_rfl)) (fun _ _ _ h => h) (Or.inr ⟨by rfl, rfl⟩) ?_ ?_
           rotate_left
           ·simp only [Act.put, zA, zZ, zS, i64_w, i32_w]
            rfl
           refine pure_ (i := 8) (N := some 86) (v := undef) (a' := ?_) mq1127 rfl rfl (any_of HT_.out (by kernel_rfl)) (fun _ _ _ h => h) (Or.inr ⟨by rfl, rfl⟩) ?_ ?_
           rotate_left
           ·simp only [Act.put, zA, zZ, zS, i64_w, i32_w]
            rfl
           refine pure_ (i := 9) (N := some 87) (v := undef) (a' := ?_) mq1128 rfl rfl (any_of HT_.out (by kernel_rfl)) (fun _ _ _ h => h) (Or.inr ⟨by rfl, rfl⟩) ?_ ?_
           rotate_left
           ·simp only [Act.put, zA, zZ, zS, i64_w, i32_w]
            rfl
           refine pure_ (i := 10) (N := some 88) (v := undef) (a' := ?_) mq1129 rfl rfl (any_of HT_.out (by kernel_rfl)) (fun _ _ _ h => h) (Or.inr ⟨by rfl, rfl⟩) ?_ ?_
           rotate_left
           ·simp only [Act.put, zA, zZ, zS, i64_w, i32_w]
            rfl
           refine pure_ (i := 11) (N := some 89) (v := undef) (a' := ?_) #[true, true, true, true, true, true, true, true, true, true, true, true, false, false, false, false, false] rfl rfl (any_of HT_.out (by kernel_rfl)) (fun _ _ _ h => h) (Or.inr ⟨by rfl, rfl⟩) ?_ ?_
           rotate_left
           ·simp only [Act.put, zA, zZ, zS, i64_w, i32_w]
            rfl
           refine pure_ (i := 12) (N := some 90) (v := undef) (a' := ?_) mq1131 rfl rfl (any_of HT_.out (by kernel_rfl)) (fun _ _ _ h => h) (Or.inr ⟨by rfl, rfl⟩) ?_ ?_
           rotate_left
           ·simp only [Act.put, zA, zZ, zS, i64_w, i32_w]
            rfl
           refine pure_ (i := 13) (N := some 91) (v := undef) (a' := ?_) mq1132 rfl rfl (any_of HT_.out (by kernel_rfl)) (fun _ _ _ h => h) (Or.inr ⟨by rfl, rfl⟩) ?_ ?_
           rotate_left
           ·simp only [Act.put, zA, zZ, zS, i64_w, i32_w]
            rfl
           refine pure_ (i := 14) (N := some 92) (v := undef) (a' := ?_) mq1133 rfl rfl (any_of HT_.out (by kernel_rfl)) (fun _ _ _ h => h) (Or.inr ⟨by rfl, rfl⟩) ?_ ?_
           rotate_left
           ·simp only [Act.put, zA, zZ, zS, i64_w, i32_w]
            rfl
           refine pure_ (i := 15) (N := some 93) (v := undef) (a' := ?_) mq1134 rfl rfl (any_of HT_.out (by kernel_rfl)) (fun _ _ _ h => h) (Or.inr ⟨by rfl, rfl⟩) ?_ ?_
           rotate_left
           ·simp only [Act.put, zA, zZ, zS, i64_w, i32_w]
            rfl
           refine pure_ (i := 16) (N := some 94) (v := ?_) (a' := ?_) mq1135 rfl rfl (any_of HT_.out (by kernel_rfl)) (fun _ _ _ h => h) (Or.inl ⟨by rfl, ?_⟩) ?_ ?_
           rotate_left
           ·intro w'
            go_simp
            with_reducible rfl
           rotate_left
           ·simp only [Act.put, zA, zZ, zS, i64_w, i32_w]
            rfl
           refine done_ (done_of HT_.out (by kernel_rfl)) ?_
           try go_wp2
           go_meet
           case rel => exact ⟨_, (x8_1), (x240000_1), (x240001_1), (x240002_1), (x240003_1), (u240002), (u240003), H', ⟨by have := HK1.out; first | omega | exact Nat.le_refl _⟩, ⟨by (with_reducible repeat (first | apply zra | apply zrn | apply zrd)); exact HO_8.out⟩, ⟨by (with_reducible repeat (first | apply zna | apply znn | apply znd)); exact HO_9.out⟩, ⟨by (with_reducible repeat (first | apply zva | apply zvn | apply zvd)); exact HO_240002.out⟩, ⟨by (with_reducible repeat (first | apply zva | apply zvn | apply zvd)); exact HO_240003.out⟩, ⟨by (with_reducible repeat (first | refine zn ?_ _ | refine zd ?_ | refine za ?_ _)); exact BK239.out⟩, ⟨by repeat (first | (with_reducible first | exact HB.out | apply zL | apply zN | apply zD | refine zJ ?_ GE239.out) | exact HB.out)⟩⟩
         ·rw [if_neg c61] at H
          have c61b0 : (((rd_T38 l1 x10_1).f0) == 3) = false := beq_eq_false_iff_ne.mpr c61
          have c61b1 : (((rd_T38 l1 x10_1).f0) != 3) = true := bne_iff_ne.mpr c61
          have H' := zM H
          clear H
          go_wp2
          go_meet
          case rel => exact ⟨_, (x8_1), (x240000_1), (x240001_1), (x240002_1), (x240003_1), (u240002), (u240003), H', ⟨by have := HK1.out; first | omega | exact Nat.le_refl _⟩, ⟨by (with_reducible repeat (first | apply zra | apply zrn | apply zrd)); exact HO_8.out⟩, ⟨by (with_reducible repeat (first | apply zna | apply znn | apply znd)); exact HO_9.out⟩, ⟨by (with_reducible repeat (first | apply zva | apply zvn | apply zvd)); exact HO_240002.out⟩, ⟨by (with_reducible repeat (first | apply zva | apply zvn | apply zvd)); exact HO_240003.out⟩, ⟨by (with_reducible repeat (first | refine zn ?_ _ | refine zd ?_ | refine za ?_ _)); exact BK239.out⟩, ⟨by repeat (first | (with_reducible first | exact HB.out | apply zL | apply zN | apply zD | refine zJ ?_ GE239.out) | exact HB.out)⟩⟩
      case rest =>
       clear HC16
       try clear c1
       try clear c2
       try clear p2
       try clear q2
       try clear hx2
       try clear c6
       try clear c17
       try clear p26
       try clear q26
       try clear hx26
       try clear c27
       try clear p27
       try clear q27
       try clear hx27
       try clear c61
       try clear c61b0
       try clear c61b1
       try clear c62
       try clear c62b0
       try clear c63
       try clear c63b0
       try clear c64
       try clear hx268_0
       try clear hx268_1
       try clear hx268_2
       try clear hx269_0
       try clear hx269_1
       try clear hx269_2
       try clear hx270_0
       try clear hx270_1
       try clear hx270_2
       try clear hx271_0
       try clear hx271_1
       try clear hx271_2
       try clear p268
       try clear p269
       try clear p270
       try clear p271
       try clear q268
       try clear q269
       try clear q270
       try clear q271
       obtain ⟨kq, x8_15, x240000_15, x240001_15, x240002_15, x240003_15, u240002, u240003, HA, HJ15, HO_8, HO_9, HO_240002, HO_240003, BK239, HB⟩ := hcut
       cases kq with
       | zero => exact absurd HA.out (by simp [L16_LaneKeeps.j1])
       | succ kj15 =>
        have H := HA.out
        clear HA
        simp only [L16_LaneKeeps.j1] at H
        have H' := zM H
        clear H
        go_wp2
        go_loopg [9, 13] kj15 (fun kq v9 v13 w' => ∃ (x9_3 : List (S42)) (x13_3 : Int), v13 = .int .i64 x13_3 ∧ Aside0 (L16_LaneKeeps.l1 kq l1 t229 x8_15 x9_3 x10_1 x13_3 x240000_15 x240001_15 x240002_15 x240003_15 = some r) ∧ Aside0 (kq ≤ kj15) ∧ Aside0 (Kd.R Kd.string 9 w' w.heap.size (fun _ => True) u8 x8_15) ∧ Aside0 (Kd.N k42 42 w' w.heap.size (fun k_ => some k_ ≠ (u8 : Value).ownBlock ∧ k_ ≠ gb239) v9 x9_3) ∧ Aside0 (Kd.V Kd.string 9 w' w.heap.size (fun k_ => some k_ ≠ (u8 : Value).ownBlock ∧ some k_ ≠ (v9 : Value).ownBlock ∧ k_ ≠ gb239) u240002 x240002_15) ∧ Aside0 (Kd.V k42 42 w' w.heap.size (fun k_ => some k_ ≠ (u8 : Value).ownBlock ∧ some k_ ≠ (v9 : Value).ownBlock ∧ k_ ≠ gb239) u240003 x240003_15) ∧ Aside0 (w'.heap[gb239]? = some (.cells #[.int .i64 x240000_15, .int .i64 x240001_15, u240002, u240003] 25 (0, 0))) ∧ Aside0 (Below w.heap.size w w'))
        case atStart => exact ⟨(x9_1), (0), (by first | rfl | (simp; done) | (simp [*]; done)), H', ⟨Nat.le_refl _⟩, ⟨by (with_reducible repeat (first | apply zra | apply zrn | apply zrd)); exact HO_8.out⟩, ⟨by (with_reducible repeat (first | apply zna | apply znn | apply znd)); exact HO_9.out⟩, ⟨by (with_reducible repeat (first | apply zva | apply zvn | apply zvd)); exact HO_240002.out⟩, ⟨by (with_reducible repeat (first | apply zva | apply zvn | apply zvd)); exact HO_240003.out⟩, ⟨by (with_reducible repeat (first | refine zn ?_ _ | refine zd ?_ | refine za ?_ _)); exact BK239.out⟩, ⟨by repeat (first | (with_reducible first | exact HB.out | apply zL | apply zN | apply zD | refine zJ ?_ GE239.out) | exact HB.out)⟩⟩
        case round =>
         clear H'
         try clear c1
         try clear c2
         try clear p2
         try clear q2
         try clear hx2
         try clear c6
         try clear c17
         try clear p26
         try clear q26
         try clear hx26
         try clear c27
         try clear p27
         try clear q27
         try clear hx27
         try clear c61
         try clear c61b0
         try clear c61b1
         try clear c62
         try clear c62b0
         try clear c63
         try clear c63b0
         try clear c64
         try clear hx268_0
         try clear hx268_1
         try clear hx268_2
         try clear hx269_0
         try clear hx269_1
         try clear hx269_2
         try clear hx270_0
         try clear hx270_1
         try clear hx270_2
         try clear hx271_0
         try clear hx271_1
         try clear hx271_2
         try clear p2
         try clear p26
         try clear p268
         try clear p269
         try clear p27
         try clear p270
         try clear p271
         try clear q2
         try clear q26
         try clear q268
         try clear q269
         try clear q27
         try clear q270
         try clear q271
         obtain ⟨x9_3, x13_3, rfl, HA, HK3, HO_8, HO_9, HO_240002, HO_240003, BK239, HB⟩ := hrel
         cases gk with
         | zero => exact absurd HA.out (by simp [L16_LaneKeeps.l1])
         | succ k3 =>
          have H := HA.out
          clear HA
          simp only [L16_LaneKeeps.l1] at H
          by_cases c80 : x13_3 < (x240003_15.length : Int)
          ·rw [if_pos c80] at H
           have c80b0 : decide (x13_3 < (x240003_15.length : Int)) = true := decide_eq_true c80
           clear c80
           by_cases c81 : 0 ≤ x13_3
           ·rw [if_pos c81] at H
            have c81b0 : decide (0 ≤ x13_3) = true := decide_eq_true c81
            clear c81
            by_cases c82 : ((rd_T42 x240003_15 x13_3).f1) > (x9_3.length : Int)
            ·rw [if_pos c82] at H
             have c82b0 : decide ((x9_3.length : Int) < ((rd_T42 x240003_15 x13_3).f1)) = true := decide_eq_true c82
             clear c82
             by_cases c83 : x9_3.length < 3518437208883
             ·rw [if_pos c83] at H
              have LMc83 := zM c83
              clear c83
              obtain ⟨y282, hy282⟩ : ∃ y_ : List (S42), y_ = (x9_3 ++ [(⟨(rd_T42 x240003_15 x13_3).f0, (rd_T42 x240003_15 x13_3).f1, (rd_T42 x240003_15 x13_3).f2⟩ : S42)]) := ⟨_, rfl⟩
              replace H : (L16_LaneKeeps.l1 k3 l1 t229 x8_15 y282 x10_1 (wrap64 (x13_3 + 1)) x240000_15 x240001_15 x240002_15 x240003_15) = some r := by first | (rw [hy282]; with_reducible exact H) | (have H2_ := (Option.bind_some _ _).symm.trans H; rw [hy282]; with_reducible exact H2_) | (have H2_ := (Option.bind_some _ _).symm.trans H; with_reducible exact H2_) | with_reducible exact H | (rw [hy282]; exact H) | exact H
              have Ny282 := zM hy282
              clear hy282
              have H' := zM H
              clear H
              have hcz84_0 : wr.cell? ⟨gb239, 0, none⟩ = some (.int .i64 x240000_15) := (zc BK239.out 0).trans rfl
              have hcz84_1 : wr.cell? ⟨gb239, 1, none⟩ = some (.int .i64 x240001_15) := (zc BK239.out 1).trans rfl
              have hcz84_2 : wr.cell? ⟨gb239, 2, none⟩ = some (u240002) := (zc BK239.out 2).trans rfl
              have hcz84_3 : wr.cell? ⟨gb239, 3, none⟩ = some (u240003) := (zc BK239.out 3).trans rfl
              have hfz84_0 := zf BK239.out 0
              have hfz84_1 := zf BK239.out 1
              have hfz84_2 := zf BK239.out 2
              have hfz84_3 := zf BK239.out 3
              obtain ⟨Ao85, co85, eo85⟩ := Kd.V_slice HO_240003.out
              subst eo85
              have p280 : 0 ≤ (x13_3 : Int) := zo (by first | (with_reducible assumption) | assumption)
              have q280 : x13_3 < (x240003_15.length : Int) := zo (by first | (with_reducible assumption) | assumption)
              obtain ⟨ad280, A280_2, c280_2, e280, hx280_0, hx280_1, hx280_2, hl280_2, hi280_2⟩ := at_T42 (Kd.V_reads' HO_240003.out).2.2 x13_3 p280 q280
              cases e280
              obtain ⟨ce280, hce280, hMe280, hcc280⟩ := Kd.V_get HO_240003.out z42 x13_3 p280 (by first | exact q280 | exact zo (by first | (with_reducible assumption) | assumption) | (have e_ := (Kd.V_reads' HO_240003.out).1; omega))
              obtain ⟨ua280_2, uc280_2, rfl, ul280_2, ge280_2⟩ := k42_openF hMe280
              have hv280_2 := hcc280 2 _ rfl
              rw [add_field _ _ 2 (by omega)] at hv280_2
              replace hv280_2 := Option.some.inj (hv280_2.symm.trans hx280_2)
              injection hv280_2 with hva_ hvn_ hvc_
              rw [hva_] at ge280_2
              rw [hvc_] at ul280_2
              have HL280_2 := zM (show Kd.V Kd.string 9 _ w.heap.size _ _ ((rd_T42 x240003_15 x13_3).f2) from Kd.V_mk ul280_2 ge280_2)
              clear hva_ hvn_ hvc_ ge280_2 ul280_2
              clear hcc280 hce280
              have HR280_2 := zM hi280_2
              have HC280_2 := zM hl280_2
              clear hi280_2 hl280_2
              replace p280 := eq_true p280
              replace q280 := eq_true q280
              obtain ⟨Ao86, co86, eo86⟩ := Kd.N_slice HO_9.out
              subst eo86
              have p281 : 0 ≤ (x13_3 : Int) := zo (by first | (with_reducible assumption) | assumption)
              have q281 : x13_3 < (x240003_15.length : Int) := zo (by first | (with_reducible assumption) | assumption)
              obtain ⟨ad281, A281_2, c281_2, e281, hx281_0, hx281_1, hx281_2, hl281_2, hi281_2⟩ := at_T42 (Kd.V_reads' HO_240003.out).2.2 x13_3 p281 q281
              obtain rfl : ad280 = ad281 := (by injection e281)
              obtain ⟨ce281, hce281, hMe281, hcc281⟩ := Kd.V_get HO_240003.out z42 x13_3 p281 (by first | exact q281 | exact zo (by first | (with_reducible assumption) | assumption) | (have e_ := (Kd.V_reads' HO_240003.out).1; omega))
              obtain ⟨ua281_2, uc281_2, rfl, ul281_2, ge281_2⟩ := k42_openF hMe281
              have hv281_2 := hcc281 2 _ rfl
              rw [add_field _ _ 2 (by omega)] at hv281_2
              replace hv281_2 := Option.some.inj (hv281_2.symm.trans hx281_2)
              injection hv281_2 with hva_ hvn_ hvc_
              rw [hva_] at ge281_2
              rw [hvc_] at ul281_2
              have HL281_2 := zM (show Kd.V Kd.string 9 _ w.heap.size _ _ ((rd_T42 x240003_15 x13_3).f2) from Kd.V_mk ul281_2 ge281_2)
              clear hva_ hvn_ hvc_ ge281_2 ul281_2
              clear hcc281 hce281
              have HR281_2 := zM hi281_2
              have HC281_2 := zM hl281_2
              clear hi281_2 hl281_2
              replace p281 := eq_true p281
              replace q281 := eq_true q281
              have ea_ := Option.some.inj (hx280_2.symm.trans hx281_2)
              injection ea_ with ea_ en_ ec_
              subst ea_
              subst ec_
              clear en_
              go_wp2_with (first | ((with_reducible refine gate_builtin (b := .append) (xs := #[.tmp 123, .tmp 129]) rfl ?_); (try (refine gate_guard (by rfl) ?_; dsimp only)); at_builtin; refine Kd.N_append k42 (w0 := w) w.heap.size rfl (.tmp 123) (.tmp 129) 23 42 (.agg #[(.int .i64 0), (.int .i64 0), (.slice none 0 0)]) 40 rfl Try.underlying23 info42 rfl (by decide) (by omega) (.slice Ao86 x9_3.length co86) x9_3 (⟨(rd_T42 x240003_15 x13_3).f0, (rd_T42 x240003_15 x13_3).f1, (rd_T42 x240003_15 x13_3).f2⟩ : S42) [.int .i64 ((rd_T42 x240003_15 x13_3).f0), .int .i64 ((rd_T42 x240003_15 x13_3).f1), .slice A280_2 ((rd_T42 x240003_15 x13_3).f2).length c280_2] (fun k_ => some k_ ≠ (u8 : Value).ownBlock ∧ k_ ≠ gb239) (fun k_ => ((fun k_ => some k_ ≠ (u8 : Value).ownBlock ∧ k_ ≠ gb239)) k_ ∧ some k_ ≠ (.slice Ao86 x9_3.length co86 : Value).ownBlock) rfl rfl ?aP (fun _ hk => hk) ?aF ?aO ?aB ?aS ?aL ?_; (case aP => exact (k42_mkF _ _ (⟨(rd_T42 x240003_15 x13_3).f0, (rd_T42 x240003_15 x13_3).f1, (rd_T42 x240003_15 x13_3).f2⟩ : S42) (Kd.V_reads' (zvm (ok' := (fun k_ => ((fun k_ => some k_ ≠ (u8 : Value).ownBlock ∧ k_ ≠ gb239)) k_ ∧ some k_ ≠ (.slice Ao86 x9_3.length co86 : Value).ownBlock)) (HL281_2.out) (fun k_ hk => ⟨⟨hk.1, hk.2.2⟩, hk.2.1⟩))).2.1 (Kd.V_F (zvm (ok' := (fun k_ => ((fun k_ => some k_ ≠ (u8 : Value).ownBlock ∧ k_ ≠ gb239)) k_ ∧ some k_ ≠ (.slice Ao86 x9_3.length co86 : Value).ownBlock)) (HL281_2.out) (fun k_ hk => ⟨⟨hk.1, hk.2.2⟩, hk.2.1⟩))))); (case aB => exact (by repeat (first | (with_reducible first | exact HB.out | apply zL | apply zN | apply zD | refine zJ ?_ GE239.out) | exact HB.out))); (case aF => exact (fun k_ hk => ⟨Kd.fresh' (Kd.R_lt (by (with_reducible repeat (first | apply zra | apply zrn | apply zrd)); exact HO_8.out)) k_ hk, Kd.freshB (g := gb239) (o := .cells #[.int .i64 x240000_15, .int .i64 x240001_15, u240002, .slice (some ad280) x240003_15.length co85] 25 (0, 0)) (by (with_reducible repeat (first | refine zn ?_ _ | refine zd ?_ | refine za ?_ _)); exact BK239.out) k_ hk⟩)); (case aO => exact (by (with_reducible repeat (first | apply zna | apply znn | apply znd)); exact HO_9.out)); (case aS => exact (zs (by repeat (first | (with_reducible first | exact HB.out | apply zL | apply zN | apply zD | refine zJ ?_ GE239.out) | exact HB.out)))); (case aL => have := LMc83.out; omega); intro v283 w87 ho hb hg hat; rw [← Ny282.out] at ho; have n0_ := zM (Kd.R_over' (by (with_reducible repeat (first | apply zra | apply zrn | apply zrd)); exact HO_8.out) (Kd.N_typed (by (with_reducible repeat (first | apply zna | apply znn | apply znd)); exact HO_9.out)) (by decide) hg); have n1_ := zM (Kd.V_afterv (ok := (fun k_ => some k_ ≠ (u8 : Value).ownBlock ∧ k_ ≠ gb239)) (by (with_reducible repeat (first | apply zva | apply zvn | apply zvd)); exact zvm HO_240002.out (fun _ hk => ⟨⟨hk.1, hk.2.2⟩, hk.2.1⟩)) hg hat); have n2_ := zM (Kd.V_afterv (ok := (fun k_ => some k_ ≠ (u8 : Value).ownBlock ∧ k_ ≠ gb239)) (by (with_reducible repeat (first | apply zva | apply zvn | apply zvd)); exact zvm HO_240003.out (fun _ hk => ⟨⟨hk.1, hk.2.2⟩, hk.2.1⟩)) hg hat); have n3_ := zM (blk_grown (g := gb239) (o := .cells #[.int .i64 x240000_15, .int .i64 x240001_15, u240002, .slice (some ad280) x240003_15.length co85] 25 (0, 0)) (by (with_reducible repeat (first | refine zn ?_ _ | refine zd ?_ | refine za ?_ _)); exact BK239.out) hg (Kd.N_ne HO_9.out BK239.out (by decide))); have n4_ := zM (Kd.V_afterv (ok := (fun k_ => some k_ ≠ (u8 : Value).ownBlock ∧ k_ ≠ gb239)) (by (with_reducible repeat (first | apply zva | apply zvn | apply zvd)); exact zvm HL280_2.out (fun _ hk => ⟨⟨hk.1, hk.2.2⟩, hk.2.1⟩)) hg hat); have n5_ := zM (Kd.V_afterv (ok := (fun k_ => some k_ ≠ (u8 : Value).ownBlock ∧ k_ ≠ gb239)) (by (with_reducible repeat (first | apply zva | apply zvn | apply zvd)); exact zvm HL281_2.out (fun _ hk => ⟨⟨hk.1, hk.2.2⟩, hk.2.1⟩)) hg hat); have n6_ := zM (hb); have n7_ := zM (ho); clear HO_8; clear HO_240002; clear HO_240003; clear BK239; clear HL280_2; clear HL281_2; clear HB; clear HO_9; have HO_8 := n0_; have HO_240002 := n1_; have HO_240003 := n2_; have BK239 := n3_; have HL280_2 := n4_; have HL281_2 := n5_; have HB := n6_; have HO284 := n7_; clear n0_ n1_ n2_ n3_ n4_ n5_ n6_ n7_; clear ho hb hg hat))
              go_roundg k3
              case measure => have := HK1.out; have := HJ15.out; have := HK3.out; omega
              case rel => exact ⟨(y282), (wrap64 (x13_3 + 1)), (by first | rfl | (simp; done) | (simp [*]; done)), H', ⟨by have := HK1.out; have := HJ15.out; have := HK3.out; omega⟩, ⟨by (with_reducible repeat (first | apply zra | apply zrn | apply zrd)); exact HO_8.out⟩, ⟨by (with_reducible repeat (first | apply zna | apply znn | apply znd)); exact HO284.out⟩, ⟨by (with_reducible repeat (first | apply zva | apply zvn | apply zvd)); exact zvm HO_240002.out (fun _ hk => ⟨hk.1.1, ⟨hk.2, hk.1.2⟩⟩)⟩, ⟨by (with_reducible repeat (first | apply zva | apply zvn | apply zvd)); exact zvm HO_240003.out (fun _ hk => ⟨hk.1.1, ⟨hk.2, hk.1.2⟩⟩)⟩, ⟨by (with_reducible repeat (first | refine zn ?_ _ | refine zd ?_ | refine za ?_ _)); exact BK239.out⟩, ⟨by repeat (first | (with_reducible first | exact HB.out | apply zL | apply zN | apply zD | refine zJ ?_ GE239.out) | exact HB.out)⟩⟩
             ·rw [if_neg c83] at H
              exact absurd H (by simp)
            ·rw [if_neg c82] at H
             have c82b0 : decide ((x9_3.length : Int) < ((rd_T42 x240003_15 x13_3).f1)) = false := decide_eq_false c82
             clear c82
             have H' := zM H
             clear H
             have hcz88_0 : wr.cell? ⟨gb239, 0, none⟩ = some (.int .i64 x240000_15) := (zc BK239.out 0).trans rfl
             have hcz88_1 : wr.cell? ⟨gb239, 1, none⟩ = some (.int .i64 x240001_15) := (zc BK239.out 1).trans rfl
             have hcz88_2 : wr.cell? ⟨gb239, 2, none⟩ = some (u240002) := (zc BK239.out 2).trans rfl
             have hcz88_3 : wr.cell? ⟨gb239, 3, none⟩ = some (u240003) := (zc BK239.out 3).trans rfl
             have hfz88_0 := zf BK239.out 0
             have hfz88_1 := zf BK239.out 1
             have hfz88_2 := zf BK239.out 2
             have hfz88_3 := zf BK239.out 3
             obtain ⟨Ao89, co89, eo89⟩ := Kd.V_slice HO_240003.out
             subst eo89
             have p280 : 0 ≤ (x13_3 : Int) := zo (by first | (with_reducible assumption) | assumption)
             have q280 : x13_3 < (x240003_15.length : Int) := zo (by first | (with_reducible assumption) | assumption)
             obtain ⟨ad280, A280_2, c280_2, e280, hx280_0, hx280_1, hx280_2, hl280_2, hi280_2⟩ := at_T42 (Kd.V_reads' HO_240003.out).2.2 x13_3 p280 q280
             cases e280
             obtain ⟨ce280, hce280, hMe280, hcc280⟩ := Kd.V_get HO_240003.out z42 x13_3 p280 (by first | exact q280 | exact zo (by first | (with_reducible assumption) | assumption) | (have e_ := (Kd.V_reads' HO_240003.out).1; omega))
             obtain ⟨ua280_2, uc280_2, rfl, ul280_2, ge280_2⟩ := k42_openF hMe280
             have hv280_2 := hcc280 2 _ rfl
             rw [add_field _ _ 2 (by omega)] at hv280_2
             replace hv280_2 := Option.some.inj (hv280_2.symm.trans hx280_2)
             injection hv280_2 with hva_ hvn_ hvc_
             rw [hva_] at ge280_2
             rw [hvc_] at ul280_2
             have HL280_2 := zM (show Kd.V Kd.string 9 _ w.heap.size _ _ ((rd_T42 x240003_15 x13_3).f2) from Kd.V_mk ul280_2 ge280_2)
             clear hva_ hvn_ hvc_ ge280_2 ul280_2
             clear hcc280 hce280
             have HR280_2 := zM hi280_2
             have HC280_2 := zM hl280_2
             clear hi280_2 hl280_2
             replace p280 := eq_true p280
             replace q280 := eq_true q280
             obtain ⟨Ao90, co90, eo90⟩ := Kd.N_slice HO_9.out
             subst eo90
             go_wp2
             go_roundg k3
             case measure => have := HK1.out; have := HJ15.out; have := HK3.out; omega
             case rel => exact ⟨(x9_3), (wrap64 (x13_3 + 1)), (by first | rfl | (simp; done) | (simp [*]; done)), H', ⟨by have := HK1.out; have := HJ15.out; have := HK3.out; omega⟩, ⟨by (with_reducible repeat (first | apply zra | apply zrn | apply zrd)); exact HO_8.out⟩, ⟨by (with_reducible repeat (first | apply zna | apply znn | apply znd)); exact HO_9.out⟩, ⟨by (with_reducible repeat (first | apply zva | apply zvn | apply zvd)); exact HO_240002.out⟩, ⟨by (with_reducible repeat (first | apply zva | apply zvn | apply zvd)); exact HO_240003.out⟩, ⟨by (with_reducible repeat (first | refine zn ?_ _ | refine zd ?_ | refine za ?_ _)); exact BK239.out⟩, ⟨by repeat (first | (with_reducible first | exact HB.out | apply zL | apply zN | apply zD | refine zJ ?_ GE239.out) | exact HB.out)⟩⟩
           ·rw [if_neg c81] at H
            exact absurd H (by simp)
          ·rw [if_neg c80] at H
           have c80b0 : decide (x13_3 < (x240003_15.length : Int)) = false := decide_eq_false c80
           clear c80
           replace H := Option.bind_eq_some_iff.mp H
           obtain ⟨t285, A910, H⟩ := H
           replace H : (if t285 = true then (if x240001_15 = (wrap64 ((x9_3.length : Int) + 1)) then (L16_LaneKeeps.l0 k3 l1 t229 x8_15 x9_3 (wrap64 (x10_1 + 1)) x240000_15 x240001_15 x240002_15 x240003_15) else (some false)) else (some false)) = some r := H
           have A91 := zM A910
           clear A910
           by_cases c92 : t285 = true
           ·subst c92
            have H1 : (if x240001_15 = (wrap64 ((x9_3.length : Int) + 1)) then (L16_LaneKeeps.l0 k3 l1 t229 x8_15 x9_3 (wrap64 (x10_1 + 1)) x240000_15 x240001_15 x240002_15 x240003_15) else (some false)) = some r := by rw [if_pos rfl] at H; exact H
            clear H
            have H := H1
            clear H1
            by_cases c93 : x240001_15 = (wrap64 ((x9_3.length : Int) + 1))
            ·rw [if_pos c93] at H
             have c93b0 : (x240001_15 == (wrap64 ((x9_3.length : Int) + 1))) = true := beq_iff_eq.mpr c93
             have c93b1 : (x240001_15 != (wrap64 ((x9_3.length : Int) + 1))) = false := bne_eq_false_iff_eq.mpr c93
             clear c93
             have H' := zM H
             clear H
             have hcz94_0 : wr.cell? ⟨gb239, 0, none⟩ = some (.int .i64 x240000_15) := (zc BK239.out 0).trans rfl
             have hcz94_1 : wr.cell? ⟨gb239, 1, none⟩ = some (.int .i64 x240001_15) := (zc BK239.out 1).trans rfl
             have hcz94_2 : wr.cell? ⟨gb239, 2, none⟩ = some (u240002) := (zc BK239.out 2).trans rfl
             have hcz94_3 : wr.cell? ⟨gb239, 3, none⟩ = some (u240003) := (zc BK239.out 3).trans rfl
             have hfz94_0 := zf BK239.out 0
             have hfz94_1 := zf BK239.out 1
             have hfz94_2 := zf BK239.out 2
             have hfz94_3 := zf BK239.out 3
             obtain ⟨Ao95, co95, eo95⟩ := Kd.V_slice HO_240003.out
             subst eo95
             obtain ⟨Ao96, co96, eo96⟩ := Kd.V_slice HO_240002.out
             subst eo96
             go_wp2_with (first | ((with_reducible refine gate_callee (f := 10) rfl ?_); refine goesL_ (some 132) rfl rfl Try.func10 (by kernel_rfl) rfl #[.agg #[.int .i64 x240000_15, .int .i64 x240001_15, .slice Ao96 x240002_15.length co96, .slice Ao95 x240003_15.length co95]] rfl (by (try simp only [List.map_toArray, List.map_cons, List.map_nil]); first | done | rfl | (simp only [List.length_drop, List.length_take]; rfl)) ?_; (with_reducible refine (R16_Right.calls k3 x240000_15 x240001_15 _ _ x240002_15 _ _ x240003_15 true _ ?side1 ?side2 ?side3 ?side4 A91.out).mono ?_); (case side1 => repeat (first | exact (Kd.V_reads' HO_240002.out).2.2 | (with_reducible refine zca ?_ _) | (with_reducible refine zcn ?_ _) | (with_reducible refine zcd ?_))); (case side2 => exact (Kd.V_reads' HO_240002.out).2.1); (case side3 => repeat (first | exact (Kd.V_reads' HO_240003.out).2.2 | (with_reducible refine zca ?_ _) | (with_reducible refine zcn ?_ _) | (with_reducible refine zcd ?_))); (case side4 => exact (Kd.V_reads' HO_240003.out).2.1); rintro e w97 ⟨rfl, hb⟩; refine ⟨_, rfl, ?_⟩; have n0_ := zM (Kd.R_below (by (with_reducible repeat (first | apply zra | apply zrn | apply zrd)); exact HO_8.out) hb); have n1_ := zM (Kd.N_below (by (with_reducible repeat (first | apply zna | apply znn | apply znd)); exact HO_9.out) hb); have n2_ := zM (zvb (by (with_reducible repeat (first | apply zva | apply zvn | apply zvd)); exact HO_240002.out) hb); have n3_ := zM (zvb (by (with_reducible repeat (first | apply zva | apply zvn | apply zvd)); exact HO_240003.out) hb); have n4_ := zM (zb (g := gb239) (o := .cells #[.int .i64 x240000_15, .int .i64 x240001_15, .slice Ao96 x240002_15.length co96, .slice Ao95 x240003_15.length co95] 25 (0, 0)) (by (with_reducible repeat (first | refine zn ?_ _ | refine zd ?_ | refine za ?_ _)); exact BK239.out) hb); have n5_ := zM (zp (by repeat (first | (with_reducible first | exact HB.out | apply zL | apply zN | apply zD | refine zJ ?_ GE239.out) | exact HB.out)) hb); clear HO_8; clear HO_9; clear HO_240002; clear HO_240003; clear BK239; clear HB; have HO_8 := n0_; have HO_9 := n1_; have HO_240002 := n2_; have HO_240003 := n3_; have BK239 := n4_; have HB := n5_; clear n0_ n1_ n2_ n3_ n4_ n5_; (try clear hb); (try clear hb2); (try clear hk); (try clear hi); have hcz98_0 : w97.cell? ⟨gb239, 0, none⟩ = some (.int .i64 x240000_15) := (zc BK239.out 0).trans rfl; have hcz98_1 : w97.cell? ⟨gb239, 1, none⟩ = some (.int .i64 x240001_15) := (zc BK239.out 1).trans rfl; have hcz98_2 : w97.cell? ⟨gb239, 2, none⟩ = some (.slice Ao96 x240002_15.length co96) := (zc BK239.out 2).trans rfl; have hcz98_3 : w97.cell? ⟨gb239, 3, none⟩ = some (.slice Ao95 x240003_15.length co95) := (zc BK239.out 3).trans rfl; have hfz98_0 := zf BK239.out 0; have hfz98_1 := zf BK239.out 1; have hfz98_2 := zf BK239.out 2; have hfz98_3 := zf BK239.out 3; obtain ⟨Ao99, co99, eo99⟩ := Kd.N_slice HO_9.out; subst eo99))
             go_roundg k3
             case measure => have := HK1.out; have := HJ15.out; have := HK3.out; omega
             case rel => exact ⟨(x8_15), (x9_3), (wrap64 (x10_1 + 1)), (x240000_15), (x240001_15), (x240002_15), (x240003_15), (.slice Ao96 x240002_15.length co96), (.slice Ao95 x240003_15.length co95), (by first | rfl | (simp; done) | (simp [*]; done)), H', ⟨by have := HK1.out; have := HJ15.out; have := HK3.out; omega⟩, ⟨by (with_reducible repeat (first | apply zra | apply zrn | apply zrd)); exact HO_8.out⟩, ⟨by (with_reducible repeat (first | apply zna | apply znn | apply znd)); exact HO_9.out⟩, ⟨by (with_reducible repeat (first | apply zva | apply zvn | apply zvd)); exact HO_240002.out⟩, ⟨by (with_reducible repeat (first | apply zva | apply zvn | apply zvd)); exact HO_240003.out⟩, ⟨by (with_reducible repeat (first | refine zn ?_ _ | refine zd ?_ | refine za ?_ _)); exact BK239.out⟩, ⟨by repeat (first | (with_reducible first | exact HB.out | apply zL | apply zN | apply zD | refine zJ ?_ GE239.out) | exact HB.out)⟩⟩
            ·rw [if_neg c93] at H
             have c93b0 : (x240001_15 == (wrap64 ((x9_3.length : Int) + 1))) = false := beq_eq_false_iff_ne.mpr c93
             have c93b1 : (x240001_15 != (wrap64 ((x9_3.length : Int) + 1))) = true := bne_iff_ne.mpr c93
             exact absurd ((Option.some.inj H).trans HRT.out) (by decide)
           ·replace c92 := Bool.eq_false_iff.mpr c92
            subst c92
            have H1 : (some false) = some r := by rw [if_neg (show ¬ (false = true) by decide)] at H; exact H
            clear H
            have H := H1
            clear H1
            exact absurd ((Option.some.inj H).trans HRT.out) (by decide)
     ·rw [if_neg c15] at H
      exact absurd H (by simp)
    ·rw [if_neg c14] at H
     have c14b0 : decide (x10_1 < (l1.length : Int)) = false := decide_eq_false c14
     clear c14
     have H' := zM H
     clear H
     go_wp2
     go_loopg [15, 16] k1 (fun kq v15 v16 w' => ∃ (x15_2 : List ByteArray) (x16_2 : Int), v16 = .int .i64 x16_2 ∧ Aside0 (L16_LaneKeeps.l2 kq t229 x8_1 x9_1 x15_2 x16_2 x240000_1 x240001_1 x240002_1 x240003_1 = some r) ∧ Aside0 (kq ≤ k1) ∧ Aside0 (Kd.R Kd.string 9 w' w.heap.size (fun k_ => some k_ ≠ (v15 : Value).ownBlock) u8 x8_1) ∧ Aside0 (Kd.N k42 42 w' w.heap.size (fun k_ => some k_ ≠ (u8 : Value).ownBlock ∧ some k_ ≠ (v15 : Value).ownBlock ∧ k_ ≠ gb239) u9 x9_1) ∧ Aside0 (Kd.R Kd.string 9 w' w.heap.size (fun k_ => some k_ ≠ (u8 : Value).ownBlock) v15 x15_2) ∧ Aside0 (Kd.V Kd.string 9 w' w.heap.size (fun k_ => some k_ ≠ (u8 : Value).ownBlock ∧ some k_ ≠ (u9 : Value).ownBlock ∧ some k_ ≠ (v15 : Value).ownBlock ∧ k_ ≠ gb239) u240002 x240002_1) ∧ Aside0 (Kd.V k42 42 w' w.heap.size (fun k_ => some k_ ≠ (u8 : Value).ownBlock ∧ some k_ ≠ (u9 : Value).ownBlock ∧ some k_ ≠ (v15 : Value).ownBlock ∧ k_ ≠ gb239) u240003 x240003_1) ∧ Aside0 (w'.heap[gb239]? = some (.cells #[.int .i64 x240000_1, .int .i64 x240001_1, u240002, u240003] 25 (0, 0))) ∧ Aside0 (Below w.heap.size w w'))
     case atStart => exact ⟨(([] : List ByteArray)), (0), (by first | rfl | (simp; done) | (simp [*]; done)), H', ⟨Nat.le_refl _⟩, ⟨by (with_reducible repeat (first | apply zra | apply zrn | apply zrd)); exact zrm HO_8.out (fun _ hk => (by simp [Value.ownBlock]))⟩, ⟨by (with_reducible repeat (first | apply zna | apply znn | apply znd)); exact znm HO_9.out (fun _ hk => ⟨hk.1, ⟨(by simp [Value.ownBlock]), hk.2⟩⟩)⟩, ⟨by first | exact Kd.R_nil _ _ _ _ _ | exact Kd.N_nil _ _ _ _ _ | exact Kd.V_nil _ _ _ _ _ | exact Kd.Q_nil _ _ _ _ _ | exact Kd.S_nil _ _ _ _ _⟩, ⟨by (with_reducible repeat (first | apply zva | apply zvn | apply zvd)); exact zvm HO_240002.out (fun _ hk => ⟨hk.1, ⟨hk.2.1, ⟨(by simp [Value.ownBlock]), hk.2.2⟩⟩⟩)⟩, ⟨by (with_reducible repeat (first | apply zva | apply zvn | apply zvd)); exact zvm HO_240003.out (fun _ hk => ⟨hk.1, ⟨hk.2.1, ⟨(by simp [Value.ownBlock]), hk.2.2⟩⟩⟩)⟩, ⟨by (with_reducible repeat (first | refine zn ?_ _ | refine zd ?_ | refine za ?_ _)); exact BK239.out⟩, ⟨by repeat (first | (with_reducible first | exact HB.out | apply zL | apply zN | apply zD | refine zJ ?_ GE239.out) | exact HB.out)⟩⟩
     case round =>
      clear H'
      try clear c1
      try clear c2
      try clear p2
      try clear q2
      try clear hx2
      try clear c6
      try clear p6
      try clear c8
      try clear c9
      try clear c10
      try clear c14
      try clear c14b0
      try clear c15
      try clear c17
      try clear p26
      try clear q26
      try clear hx26
      try clear c27
      try clear p27
      try clear q27
      try clear hx27
      try clear c28
      try clear p28
      try clear q28
      try clear hx28
      try clear c61
      try clear c61b0
      try clear c61b1
      try clear c62
      try clear c62b0
      try clear c63
      try clear c63b0
      try clear c64
      try clear p64
      try clear c80
      try clear c80b0
      try clear c81
      try clear c81b0
      try clear c82
      try clear c82b0
      try clear c83
      try clear c92
      try clear c93
      try clear c93b0
      try clear c93b1
      try clear hcz84_0
      try clear hcz84_1
      try clear hcz84_2
      try clear hcz84_3
      try clear hcz88_0
      try clear hcz88_1
      try clear hcz88_2
      try clear hcz88_3
      try clear hcz94_0
      try clear hcz94_1
      try clear hcz94_2
      try clear hcz94_3
      try clear hcz98_0
      try clear hcz98_1
      try clear hcz98_2
      try clear hcz98_3
      try clear hfz84_0
      try clear hfz84_1
      try clear hfz84_2
      try clear hfz84_3
      try clear hfz88_0
      try clear hfz88_1
      try clear hfz88_2
      try clear hfz88_3
      try clear hfz94_0
      try clear hfz94_1
      try clear hfz94_2
      try clear hfz94_3
      try clear hfz98_0
      try clear hfz98_1
      try clear hfz98_2
      try clear hfz98_3
      try clear hx268_0
      try clear hx268_1
      try clear hx268_2
      try clear hx269_0
      try clear hx269_1
      try clear hx269_2
      try clear hx270_0
      try clear hx270_1
      try clear hx270_2
      try clear hx271_0
      try clear hx271_1
      try clear hx271_2
      try clear hx280_0
      try clear hx280_1
      try clear hx280_2
      try clear hx281_0
      try clear hx281_1
      try clear hx281_2
      try clear p2
      try clear p26
      try clear p268
      try clear p269
      try clear p27
      try clear p270
      try clear p271
      try clear p280
      try clear p281
      try clear q2
      try clear q26
      try clear q268
      try clear q269
      try clear q27
      try clear q270
      try clear q271
      try clear q280
      try clear q281
      obtain ⟨x15_2, x16_2, rfl, HA, HK2, HO_8, HO_9, HO_15, HO_240002, HO_240003, BK239, HB⟩ := hrel
      cases gk with
      | zero => exact absurd HA.out (by simp [L16_LaneKeeps.l2])
      | succ k2 =>
       have H := HA.out
       clear HA
       simp only [L16_LaneKeeps.l2] at H
       by_cases c100 : x16_2 < (x9_1.length : Int)
       ·rw [if_pos c100] at H
        have c100b0 : decide (x16_2 < (x9_1.length : Int)) = true := decide_eq_true c100
        clear c100
        by_cases c101 : 0 ≤ x16_2
        ·rw [if_pos c101] at H
         have c101b0 : decide (0 ≤ x16_2) = true := decide_eq_true c101
         clear c101
         by_cases c102 : ((rd_T42 x9_1 x16_2).f1) = (wrap64 (x16_2 + 1))
         ·rw [if_pos c102] at H
          have c102b0 : (((rd_T42 x9_1 x16_2).f1) == (wrap64 (x16_2 + 1))) = true := beq_iff_eq.mpr c102
          have c102b1 : (((rd_T42 x9_1 x16_2).f1) != (wrap64 (x16_2 + 1))) = false := bne_eq_false_iff_eq.mpr c102
          clear c102
          by_cases c103 : x15_2.length + ((rd_T42 x9_1 x16_2).f2).length < 8796093022208
          ·rw [if_pos c103] at H
           have LMc103 := zM c103
           clear c103
           obtain ⟨y288, hy288⟩ : ∃ y_ : List ByteArray, y_ = (x15_2 ++ ((rd_T42 x9_1 x16_2).f2)) := ⟨_, rfl⟩
           replace H : (L16_LaneKeeps.l2 k2 t229 x8_1 x9_1 y288 (wrap64 (x16_2 + 1)) x240000_1 x240001_1 x240002_1 x240003_1) = some r := by first | (rw [hy288]; with_reducible exact H) | (have H2_ := (Option.bind_some _ _).symm.trans H; rw [hy288]; with_reducible exact H2_) | (have H2_ := (Option.bind_some _ _).symm.trans H; with_reducible exact H2_) | with_reducible exact H | (rw [hy288]; exact H) | exact H
           have Ny288 := zM hy288
           clear hy288
           have H' := zM H
           clear H
           obtain ⟨Ao104, co104, eo104⟩ := Kd.N_slice HO_9.out
           subst eo104
           have p286 : 0 ≤ (x16_2 : Int) := zo (by first | (with_reducible assumption) | assumption)
           have q286 : x16_2 < (x9_1.length : Int) := zo (by first | (with_reducible assumption) | assumption)
           obtain ⟨ad286, A286_2, c286_2, e286, hx286_0, hx286_1, hx286_2, hl286_2, hi286_2⟩ := at_T42 (Kd.N_reads' HO_9.out).2.2 x16_2 p286 q286
           cases e286
           obtain ⟨ce286, hce286, hMe286, hcc286⟩ := Kd.N_get HO_9.out z42 x16_2 p286 (by first | exact q286 | exact zo (by first | (with_reducible assumption) | assumption) | (have e_ := (Kd.N_reads' HO_9.out).1; omega))
           obtain ⟨ua286_2, uc286_2, rfl, ul286_2, ge286_2⟩ := k42_openF hMe286
           have hv286_2 := hcc286 2 _ rfl
           rw [add_field _ _ 2 (by omega)] at hv286_2
           replace hv286_2 := Option.some.inj (hv286_2.symm.trans hx286_2)
           injection hv286_2 with hva_ hvn_ hvc_
           rw [hva_] at ge286_2
           rw [hvc_] at ul286_2
           have HL286_2 := zM (show Kd.V Kd.string 9 _ w.heap.size _ _ ((rd_T42 x9_1 x16_2).f2) from Kd.V_mk ul286_2 ge286_2)
           clear hva_ hvn_ hvc_ ge286_2 ul286_2
           clear hcc286 hce286
           have HR286_2 := zM hi286_2
           have HC286_2 := zM hl286_2
           clear hi286_2 hl286_2
           replace p286 := eq_true p286
           replace q286 := eq_true q286
           have p287 : 0 ≤ (x16_2 : Int) := zo (by first | (with_reducible assumption) | assumption)
           have q287 : x16_2 < (x9_1.length : Int) := zo (by first | (with_reducible assumption) | assumption)
           obtain ⟨ad287, A287_2, c287_2, e287, hx287_0, hx287_1, hx287_2, hl287_2, hi287_2⟩ := at_T42 (Kd.N_reads' HO_9.out).2.2 x16_2 p287 q287
           obtain rfl : ad286 = ad287 := (by injection e287)
           obtain ⟨ce287, hce287, hMe287, hcc287⟩ := Kd.N_get HO_9.out z42 x16_2 p287 (by first | exact q287 | exact zo (by first | (with_reducible assumption) | assumption) | (have e_ := (Kd.N_reads' HO_9.out).1; omega))
           obtain ⟨ua287_2, uc287_2, rfl, ul287_2, ge287_2⟩ := k42_openF hMe287
           have hv287_2 := hcc287 2 _ rfl
           rw [add_field _ _ 2 (by omega)] at hv287_2
           replace hv287_2 := Option.some.inj (hv287_2.symm.trans hx287_2)
           injection hv287_2 with hva_ hvn_ hvc_
           rw [hva_] at ge287_2
           rw [hvc_] at ul287_2
           have HL287_2 := zM (show Kd.V Kd.string 9 _ w.heap.size _ _ ((rd_T42 x9_1 x16_2).f2) from Kd.V_mk ul287_2 ge287_2)
           clear hva_ hvn_ hvc_ ge287_2 ul287_2
           clear hcc287 hce287
           have HR287_2 := zM hi287_2
           have HC287_2 := zM hl287_2
           clear hi287_2 hl287_2
           replace p287 := eq_true p287
           replace q287 := eq_true q287
           have ea_ := Option.some.inj (hx286_2.symm.trans hx287_2)
           injection ea_ with ea_ en_ ec_
           subst ea_
           subst ec_
           clear en_
           go_wp2_with (first | ((with_reducible refine gate_builtin (b := .append) (xs := #[.tmp 157, .tmp 162]) rfl ?_); (try (refine gate_guard (by rfl) ?_; dsimp only)); at_builtin; refine Kd.R_append_rows Kd.string (w0 := w) w.heap.size rfl (.tmp 157) (.tmp 162) 22 9 (.string ⟨#[]⟩) 16 rfl Try.underlying22 info9 rfl (by decide) (by omega) u15 x15_2 ((rd_T42 x9_1 x16_2).f2) _ _ _ (fun k_ => some k_ ≠ (u8 : Value).ownBlock) (fun _ => False) rfl rfl ?aO ?aR (fun _ _ h => h) (fun _ h => h.elim) ?aF ?aB ?aS ?aL ?_; (case aR => repeat (first | exact (by repeat (first | (with_reducible exact HR287_2.out) | (with_reducible refine zca ?_ _) | (with_reducible refine zcn ?_ _) | (with_reducible refine zcd ?_) | exact HR287_2.out)) | (with_reducible refine zca ?_ _) | (with_reducible refine zcn ?_ _) | (with_reducible refine zcd ?_))); (case aB => exact (by repeat (first | (with_reducible first | exact HB.out | apply zL | apply zN | apply zD | refine zJ ?_ GE239.out) | exact HB.out))); (case aF => exact (fun k_ hk => Kd.fresh' (Kd.R_lt (by (with_reducible repeat (first | apply zra | apply zrn | apply zrd)); exact HO_8.out)) k_ hk)); (case aO => exact (by (with_reducible repeat (first | apply zra | apply zrn | apply zrd)); exact HO_15.out)); (case aS => exact (zs (by repeat (first | (with_reducible first | exact HB.out | apply zL | apply zN | apply zD | refine zJ ?_ GE239.out) | exact HB.out)))); (case aL => have := LMc103.out; omega); intro v289 w105 ho hb hg hat; rw [← Ny288.out] at ho; have n0_ := zM (Kd.R_after (ok := (fun _ => True)) (by (with_reducible repeat (first | apply zra | apply zrn | apply zrd)); exact zrm HO_8.out (fun _ hk => ⟨trivial, hk⟩)) hg hat); have n1_ := zM (Kd.N_afterv (ok := (fun k_ => some k_ ≠ (u8 : Value).ownBlock ∧ k_ ≠ gb239)) (by (with_reducible repeat (first | apply zna | apply znn | apply znd)); exact znm HO_9.out (fun _ hk => ⟨⟨hk.1, hk.2.2⟩, hk.2.1⟩)) hg hat); have n2_ := zM (Kd.V_afterv (ok := (fun k_ => some k_ ≠ (u8 : Value).ownBlock ∧ some k_ ≠ (.slice (some ad286) x9_1.length co104 : Value).ownBlock ∧ k_ ≠ gb239)) (by (with_reducible repeat (first | apply zva | apply zvn | apply zvd)); exact zvm HO_240002.out (fun _ hk => ⟨⟨hk.1, ⟨hk.2.1, hk.2.2.2⟩⟩, hk.2.2.1⟩)) hg hat); have n3_ := zM (Kd.V_afterv (ok := (fun k_ => some k_ ≠ (u8 : Value).ownBlock ∧ some k_ ≠ (.slice (some ad286) x9_1.length co104 : Value).ownBlock ∧ k_ ≠ gb239)) (by (with_reducible repeat (first | apply zva | apply zvn | apply zvd)); exact zvm HO_240003.out (fun _ hk => ⟨⟨hk.1, ⟨hk.2.1, hk.2.2.2⟩⟩, hk.2.2.1⟩)) hg hat); have n4_ := zM (blk_grown (g := gb239) (o := .cells #[.int .i64 x240000_1, .int .i64 x240001_1, u240002, u240003] 25 (0, 0)) (by (with_reducible repeat (first | refine zn ?_ _ | refine zd ?_ | refine za ?_ _)); exact BK239.out) hg (Kd.R_ne HO_15.out BK239.out (by decide))); have n5_ := zM (Kd.V_afterv (ok := (fun k_ => some k_ ≠ (u8 : Value).ownBlock ∧ some k_ ≠ (.slice (some ad286) x9_1.length co104 : Value).ownBlock ∧ k_ ≠ gb239)) (by (with_reducible repeat (first | apply zva | apply zvn | apply zvd)); exact zvm HL286_2.out (fun _ hk => ⟨⟨hk.1.1, ⟨hk.2, hk.1.2.2⟩⟩, hk.1.2.1⟩)) hg hat); have n6_ := zM (Kd.V_afterv (ok := (fun k_ => some k_ ≠ (u8 : Value).ownBlock ∧ some k_ ≠ (.slice (some ad286) x9_1.length co104 : Value).ownBlock ∧ k_ ≠ gb239)) (by (with_reducible repeat (first | apply zva | apply zvn | apply zvd)); exact zvm HL287_2.out (fun _ hk => ⟨⟨hk.1.1, ⟨hk.2, hk.1.2.2⟩⟩, hk.1.2.1⟩)) hg hat); have n7_ := zM (hb); have n8_ := zM (ho); clear HO_8; clear HO_9; clear HO_240002; clear HO_240003; clear BK239; clear HL286_2; clear HL287_2; clear HB; clear HO_15; have HO_8 := n0_; have HO_9 := n1_; have HO_240002 := n2_; have HO_240003 := n3_; have BK239 := n4_; have HL286_2 := n5_; have HL287_2 := n6_; have HB := n7_; have HO290 := n8_; clear n0_ n1_ n2_ n3_ n4_ n5_ n6_ n7_ n8_; clear ho hb hg hat))
           go_roundg k2
           case measure => have := HK1.out; have := HK2.out; omega
           case rel => exact ⟨(y288), (wrap64 (x16_2 + 1)), (by first | rfl | (simp; done) | (simp [*]; done)), H', ⟨by have := HK1.out; have := HK2.out; omega⟩, ⟨by (with_reducible repeat (first | apply zra | apply zrn | apply zrd)); exact zrm HO_8.out (fun _ hk => hk.2)⟩, ⟨by (with_reducible repeat (first | apply zna | apply znn | apply znd)); exact znm HO_9.out (fun _ hk => ⟨hk.1.1, ⟨hk.2, hk.1.2⟩⟩)⟩, ⟨by (with_reducible repeat (first | apply zra | apply zrn | apply zrd)); exact HO290.out⟩, ⟨by (with_reducible repeat (first | apply zva | apply zvn | apply zvd)); exact zvm HO_240002.out (fun _ hk => ⟨hk.1.1, ⟨hk.1.2.1, ⟨hk.2, hk.1.2.2⟩⟩⟩)⟩, ⟨by (with_reducible repeat (first | apply zva | apply zvn | apply zvd)); exact zvm HO_240003.out (fun _ hk => ⟨hk.1.1, ⟨hk.1.2.1, ⟨hk.2, hk.1.2.2⟩⟩⟩)⟩, ⟨by (with_reducible repeat (first | refine zn ?_ _ | refine zd ?_ | refine za ?_ _)); exact BK239.out⟩, ⟨by repeat (first | (with_reducible first | exact HB.out | apply zL | apply zN | apply zD | refine zJ ?_ GE239.out) | exact HB.out)⟩⟩
          ·rw [if_neg c103] at H
           exact absurd H (by simp)
         ·rw [if_neg c102] at H
          have c102b0 : (((rd_T42 x9_1 x16_2).f1) == (wrap64 (x16_2 + 1))) = false := beq_eq_false_iff_ne.mpr c102
          have c102b1 : (((rd_T42 x9_1 x16_2).f1) != (wrap64 (x16_2 + 1))) = true := bne_iff_ne.mpr c102
          exact absurd ((Option.some.inj H).trans HRT.out) (by decide)
        ·rw [if_neg c101] at H
         exact absurd H (by simp)
       ·rw [if_neg c100] at H
        have c100b0 : decide (x16_2 < (x9_1.length : Int)) = false := decide_eq_false c100
        clear c100
        by_cases c106 : x15_2.length + x240002_1.length < 8796093022208
        ·rw [if_pos c106] at H
         have LMc106 := zM c106
         clear c106
         obtain ⟨y291, hy291⟩ : ∃ y_ : List ByteArray, y_ = (x15_2 ++ x240002_1) := ⟨_, rfl⟩
         replace H : (if t229 = true then ((R01_Same.f k2 y291 x8_1).bind fun t294 => (some t294)) else (some false)) = some r := by first | (rw [hy291]; with_reducible exact H) | (have H2_ := (Option.bind_some _ _).symm.trans H; rw [hy291]; with_reducible exact H2_) | (have H2_ := (Option.bind_some _ _).symm.trans H; with_reducible exact H2_) | with_reducible exact H | (rw [hy291]; exact H) | exact H
         have Ny291 := zM hy291
         clear hy291
         by_cases c107 : t229 = true
         ·subst c107
          have H1 : ((R01_Same.f k2 y291 x8_1).bind fun t294 => (some t294)) = some r := by rw [if_pos rfl] at H; exact H
          clear H
          have H := H1
          clear H1
          replace H := Option.bind_eq_some_iff.mp H
          obtain ⟨t294, A1080, H⟩ := H
          replace H : (some t294) = some r := H
          have A108 := zM A1080
          clear A1080
          obtain rfl := Option.some.inj H
          obtain ⟨Ao109, co109, eo109⟩ := Kd.N_slice HO_9.out
          subst eo109
          have hcz110_0 : wr.cell? ⟨gb239, 0, none⟩ = some (.int .i64 x240000_1) := (zc BK239.out 0).trans rfl
          have hcz110_1 : wr.cell? ⟨gb239, 1, none⟩ = some (.int .i64 x240001_1) := (zc BK239.out 1).trans rfl
          have hcz110_2 : wr.cell? ⟨gb239, 2, none⟩ = some (u240002) := (zc BK239.out 2).trans rfl
          have hcz110_3 : wr.cell? ⟨gb239, 3, none⟩ = some (u240003) := (zc BK239.out 3).trans rfl
          have hfz110_0 := zf BK239.out 0
          have hfz110_1 := zf BK239.out 1
          have hfz110_2 := zf BK239.out 2
          have hfz110_3 := zf BK239.out 3
          obtain ⟨Ao112, co112, eo112⟩ := Kd.V_slice HO_240002.out
          subst eo112
          go_wp2_with (first | ((with_reducible refine gate_builtin (b := .append) (xs := #[.tmp 164, .tmp 166]) rfl ?_); (try (refine gate_guard (by rfl) ?_; dsimp only)); at_builtin; refine Kd.R_append_rows Kd.string (w0 := w) w.heap.size rfl (.tmp 164) (.tmp 166) 22 9 (.string ⟨#[]⟩) 16 rfl Try.underlying22 info9 rfl (by decide) (by omega) u15 x15_2 x240002_1 _ _ _ (fun k_ => some k_ ≠ (u8 : Value).ownBlock) (fun _ => False) rfl rfl ?aO ?aR (fun _ _ h => h) (fun _ h => h.elim) ?aF ?aB ?aS ?aL ?_; (case aR => repeat (first | exact (Kd.V_reads' HO_240002.out).2.2 | (with_reducible refine zca ?_ _) | (with_reducible refine zcn ?_ _) | (with_reducible refine zcd ?_))); (case aB => exact (by repeat (first | (with_reducible first | exact HB.out | apply zL | apply zN | apply zD | refine zJ ?_ GE239.out) | exact HB.out))); (case aF => exact (fun k_ hk => Kd.fresh' (Kd.R_lt (by (with_reducible repeat (first | apply zra | apply zrn | apply zrd)); exact HO_8.out)) k_ hk)); (case aO => exact (by (with_reducible repeat (first | apply zra | apply zrn | apply zrd)); exact HO_15.out)); (case aS => exact (zs (by repeat (first | (with_reducible first | exact HB.out | apply zL | apply zN | apply zD | refine zJ ?_ GE239.out) | exact HB.out)))); (case aL => have := LMc106.out; omega); intro v292 w111 ho hb hg hat; rw [← Ny291.out] at ho; have n0_ := zM (Kd.R_after (ok := (fun _ => True)) (by (with_reducible repeat (first | apply zra | apply zrn | apply zrd)); exact zrm HO_8.out (fun _ hk => ⟨trivial, hk⟩)) hg hat); have n1_ := zM (Kd.N_afterv (ok := (fun k_ => some k_ ≠ (u8 : Value).ownBlock ∧ k_ ≠ gb239)) (by (with_reducible repeat (first | apply zna | apply znn | apply znd)); exact znm HO_9.out (fun _ hk => ⟨⟨hk.1, hk.2.2⟩, hk.2.1⟩)) hg hat); have n2_ := zM (Kd.V_afterv (ok := (fun k_ => some k_ ≠ (u8 : Value).ownBlock ∧ some k_ ≠ (.slice Ao109 x9_1.length co109 : Value).ownBlock ∧ k_ ≠ gb239)) (by (with_reducible repeat (first | apply zva | apply zvn | apply zvd)); exact zvm HO_240002.out (fun _ hk => ⟨⟨hk.1, ⟨hk.2.1, hk.2.2.2⟩⟩, hk.2.2.1⟩)) hg hat); have n3_ := zM (Kd.V_afterv (ok := (fun k_ => some k_ ≠ (u8 : Value).ownBlock ∧ some k_ ≠ (.slice Ao109 x9_1.length co109 : Value).ownBlock ∧ k_ ≠ gb239)) (by (with_reducible repeat (first | apply zva | apply zvn | apply zvd)); exact zvm HO_240003.out (fun _ hk => ⟨⟨hk.1, ⟨hk.2.1, hk.2.2.2⟩⟩, hk.2.2.1⟩)) hg hat); have n4_ := zM (blk_grown (g := gb239) (o := .cells #[.int .i64 x240000_1, .int .i64 x240001_1, .slice Ao112 x240002_1.length co112, u240003] 25 (0, 0)) (by (with_reducible repeat (first | refine zn ?_ _ | refine zd ?_ | refine za ?_ _)); exact BK239.out) hg (Kd.R_ne HO_15.out BK239.out (by decide))); have n5_ := zM (hb); have n6_ := zM (ho); clear HO_8; clear HO_9; clear HO_240002; clear HO_240003; clear BK239; clear HB; clear HO_15; have HO_8 := n0_; have HO_9 := n1_; have HO_240002 := n2_; have HO_240003 := n3_; have BK239 := n4_; have HB := n5_; have HO293 := n6_; clear n0_ n1_ n2_ n3_ n4_ n5_ n6_; clear ho hb hg hat; obtain ⟨Ao113, co113, eo113⟩ := Kd.R_slice HO293.out; subst eo113; obtain ⟨Ao114, co114, eo114⟩ := Kd.R_slice HO_8.out; subst eo114) | (go_at_call 18; (with_reducible refine (R01_Same.calls k2 _ _ y291 _ _ x8_1 t294 _ ?side1 ?side2 ?side3 ?side4 A108.out).mono ?_); (case side1 => repeat (first | exact (Kd.R_reads' HO293.out).2.2 | (with_reducible refine zca ?_ _) | (with_reducible refine zcn ?_ _) | (with_reducible refine zcd ?_))); (case side2 => exact (Kd.R_reads' HO293.out).2.1); (case side3 => repeat (first | exact (Kd.R_reads' HO_8.out).2.2 | (with_reducible refine zca ?_ _) | (with_reducible refine zcn ?_ _) | (with_reducible refine zcd ?_))); (case side4 => exact (Kd.R_reads' HO_8.out).2.1); rintro e w' ⟨rfl, ⟨nd, rfl⟩⟩))
          go_ret
          exact ⟨by first | rfl | (simp [errW_none, errW_some] <;> rfl) | (simp [*, errW_none, errW_some] <;> rfl), by repeat (first | (with_reducible first | exact HB.out | apply zL | apply zN | apply zD | refine zJ ?_ GE239.out) | exact HB.out)⟩
         ·replace c107 := Bool.eq_false_iff.mpr c107
          subst c107
          have H1 : (some false) = some r := by rw [if_neg (show ¬ (false = true) by decide)] at H; exact H
          clear H
          have H := H1
          clear H1
          exact absurd ((Option.some.inj H).trans HRT.out) (by decide)
        ·rw [if_neg c106] at H
         exact absurd H (by simp)
 ·rw [if_neg c5] at H
  have c5b0 : (t238 == 0) = false := beq_eq_false_iff_ne.mpr c5
  have c5b1 : (t238 != 0) = true := bne_iff_ne.mpr c5
  by_cases c115 : t229 = true
  ·subst c115
   have H1 : (if a0 < 1 then (some true) else (some (decide (a0 > 64)))) = some r := by rw [if_pos rfl] at H; exact H
   clear H
   have H := H1
   clear H1
   by_cases c116 : a0 < 1
   ·rw [if_pos c116] at H
    have c116b0 : decide (a0 < 1) = true := decide_eq_true c116
    clear c116
    obtain rfl := Option.some.inj H
    go_enter Try.func5, Try.ntmps5
    go_wp2_with (first | ((with_reducible refine gate_callee (f := 9) rfl ?_); refine goesL_ (some 17) rfl rfl Try.func9 (by kernel_rfl) rfl #[] rfl (by (try simp only [List.map_toArray, List.map_cons, List.map_nil]); first | done | rfl | (simp only [List.length_drop, List.length_take]; rfl)) ?_; (with_reducible refine (L16_shown.calls  true _ A3.out).mono ?_); rintro e w117 ⟨rfl, hb⟩; refine ⟨_, rfl, ?_⟩; have n0_ := zM (zp (by repeat (first | (with_reducible first | exact HB.out | apply zL | apply zN | apply zD) | exact HB.out)) hb); clear HB; have HB := n0_; clear n0_; (try clear hb); (try clear hb2); (try clear hk); (try clear hi)) | ((with_reducible refine gate_callee (f := 15) rfl ?_); refine goesL_ (some 20) rfl rfl Try.func15 (by kernel_rfl) rfl #[.int .i64 a0] rfl (by (try simp only [List.map_toArray, List.map_cons, List.map_nil]); first | done | rfl | (simp only [List.length_drop, List.length_take]; rfl)) ?_; (with_reducible refine (lane_New.calls a0 t230 t231 t232 t235 t238 _ A4.out).mono ?_); rintro e w118 ⟨v233, v236, rfl, ho0, ho1, hb⟩; refine ⟨_, rfl, ?_⟩; have n0_ := zM (Kd.R_lower ho0 (zs (by repeat (first | (with_reducible first | exact HB.out | apply zL | apply zN | apply zD) | exact HB.out)))); have n1_ := zM (Kd.N_lower (znm (ok' := fun k_ => some k_ ≠ (v233 : Value).ownBlock) (Kd.S_N (Kd.S_bound ho1)) (fun k_ hk_ => hk_.1)) (zs (by repeat (first | (with_reducible first | exact HB.out | apply zL | apply zN | apply zD) | exact HB.out)))); have n2_ := zM (zp (by repeat (first | (with_reducible first | exact HB.out | apply zL | apply zN | apply zD) | exact HB.out)) hb); clear HB; have HO234 := n0_; have HO237 := n1_; have HB := n2_; clear n0_ n1_ n2_; (try clear hb); (try clear hb2); (try clear hk); (try clear hi); (try clear ho0); (try clear ho1)) | ((with_reducible refine gate_dst (N := 6) rfl ?_); (try (refine gate_guard (by rfl) ?_; dsimp only)); refine box_event ?hg (N := 6) ?hd (cs := #[.int .i64 0, .int .i64 0, .slice none 0 0, .slice none 0 0]) (t := 25) ?hr ?_; (case hd => rfl); (case hg => rfl); (case hr => first | (go_simp; done) | (go_simp; rfl)); intro gb239 hg w119 hbox hb; have n0_ := zM (Kd.R_below (by (with_reducible repeat (first | apply zra | apply zrn | apply zrd)); exact HO234.out) hb); have n1_ := zM (Kd.N_below (Kd.N_elderB (by (with_reducible repeat (first | apply zna | apply znn | apply znd)); exact HO237.out) gb239 (zq hg.symm)) hb); have n2_ := zM (zp (by repeat (first | (with_reducible first | exact HB.out | apply zL | apply zN | apply zD) | exact HB.out)) hb); have n3_ := zM (hbox); have n4_ := zM ((by rw [hg]; exact (zs (by repeat (first | (with_reducible first | exact HB.out | apply zL | apply zN | apply zD) | exact HB.out))) : w.heap.size ≤ gb239)); have n5_ := zM ((by rw [hg]; exact (zs (by repeat (first | (with_reducible first | exact HB.out | apply zL | apply zN | apply zD) | exact HB.out))) : w.heap.size ≤ gb239)); clear HO234; clear HO237; clear HB; have HO234 := n0_; have HO237 := n1_; have HB := n2_; have BK239 := n3_; have GW239 := n4_; have GE239 := n5_; clear n0_ n1_ n2_ n3_ n4_ n5_; clear hb hbox hg; have hcz120_0 : w119.cell? ⟨gb239, 0, none⟩ = some (.int .i64 0) := (zc BK239.out 0).trans rfl; have hcz120_1 : w119.cell? ⟨gb239, 1, none⟩ = some (.int .i64 0) := (zc BK239.out 1).trans rfl; have hcz120_2 : w119.cell? ⟨gb239, 2, none⟩ = some (.slice none 0 0) := (zc BK239.out 2).trans rfl; have hcz120_3 : w119.cell? ⟨gb239, 3, none⟩ = some (.slice none 0 0) := (zc BK239.out 3).trans rfl; have hfz120_0 := zf BK239.out 0; have hfz120_1 := zf BK239.out 1; have hfz120_2 := zf BK239.out 2; have hfz120_3 := zf BK239.out 3; obtain ⟨Ao121, co121, eo121⟩ := Kd.R_slice HO234.out; subst eo121; obtain ⟨Ao122, co122, eo122⟩ := Kd.N_slice HO237.out; subst eo122))
    go_ret
    exact ⟨by first | rfl | (simp [errW_none, errW_some] <;> rfl) | (simp [*, errW_none, errW_some] <;> rfl), by repeat (first | (with_reducible first | exact HB.out | apply zL | apply zN | apply zD | refine zJ ?_ GE239.out) | exact HB.out)⟩
   ·rw [if_neg c116] at H
    have c116b0 : decide (a0 < 1) = false := decide_eq_false c116
    clear c116
    obtain rfl := Option.some.inj H
    go_enter Try.func5, Try.ntmps5
    go_wp2_with (first | ((with_reducible refine gate_callee (f := 9) rfl ?_); refine goesL_ (some 17) rfl rfl Try.func9 (by kernel_rfl) rfl #[] rfl (by (try simp only [List.map_toArray, List.map_cons, List.map_nil]); first | done | rfl | (simp only [List.length_drop, List.length_take]; rfl)) ?_; (with_reducible refine (L16_shown.calls  true _ A3.out).mono ?_); rintro e w123 ⟨rfl, hb⟩; refine ⟨_, rfl, ?_⟩; have n0_ := zM (zp (by repeat (first | (with_reducible first | exact HB.out | apply zL | apply zN | apply zD) | exact HB.out)) hb); clear HB; have HB := n0_; clear n0_; (try clear hb); (try clear hb2); (try clear hk); (try clear hi)) | ((with_reducible refine gate_callee (f := 15) rfl ?_); refine goesL_ (some 20) rfl rfl Try.func15 (by kernel_rfl) rfl #[.int .i64 a0] rfl (by (try simp only [List.map_toArray, List.map_cons, List.map_nil]); first | done | rfl | (simp only [List.length_drop, List.length_take]; rfl)) ?_; (with_reducible refine (lane_New.calls a0 t230 t231 t232 t235 t238 _ A4.out).mono ?_); rintro e w124 ⟨v233, v236, rfl, ho0, ho1, hb⟩; refine ⟨_, rfl, ?_⟩; have n0_ := zM (Kd.R_lower ho0 (zs (by repeat (first | (with_reducible first | exact HB.out | apply zL | apply zN | apply zD) | exact HB.out)))); have n1_ := zM (Kd.N_lower (znm (ok' := fun k_ => some k_ ≠ (v233 : Value).ownBlock) (Kd.S_N (Kd.S_bound ho1)) (fun k_ hk_ => hk_.1)) (zs (by repeat (first | (with_reducible first | exact HB.out | apply zL | apply zN | apply zD) | exact HB.out)))); have n2_ := zM (zp (by repeat (first | (with_reducible first | exact HB.out | apply zL | apply zN | apply zD) | exact HB.out)) hb); clear HB; have HO234 := n0_; have HO237 := n1_; have HB := n2_; clear n0_ n1_ n2_; (try clear hb); (try clear hb2); (try clear hk); (try clear hi); (try clear ho0); (try clear ho1)) | ((with_reducible refine gate_dst (N := 6) rfl ?_); (try (refine gate_guard (by rfl) ?_; dsimp only)); refine box_event ?hg (N := 6) ?hd (cs := #[.int .i64 0, .int .i64 0, .slice none 0 0, .slice none 0 0]) (t := 25) ?hr ?_; (case hd => rfl); (case hg => rfl); (case hr => first | (go_simp; done) | (go_simp; rfl)); intro gb239 hg w125 hbox hb; have n0_ := zM (Kd.R_below (by (with_reducible repeat (first | apply zra | apply zrn | apply zrd)); exact HO234.out) hb); have n1_ := zM (Kd.N_below (Kd.N_elderB (by (with_reducible repeat (first | apply zna | apply znn | apply znd)); exact HO237.out) gb239 (zq hg.symm)) hb); have n2_ := zM (zp (by repeat (first | (with_reducible first | exact HB.out | apply zL | apply zN | apply zD) | exact HB.out)) hb); have n3_ := zM (hbox); have n4_ := zM ((by rw [hg]; exact (zs (by repeat (first | (with_reducible first | exact HB.out | apply zL | apply zN | apply zD) | exact HB.out))) : w.heap.size ≤ gb239)); have n5_ := zM ((by rw [hg]; exact (zs (by repeat (first | (with_reducible first | exact HB.out | apply zL | apply zN | apply zD) | exact HB.out))) : w.heap.size ≤ gb239)); clear HO234; clear HO237; clear HB; have HO234 := n0_; have HO237 := n1_; have HB := n2_; have BK239 := n3_; have GW239 := n4_; have GE239 := n5_; clear n0_ n1_ n2_ n3_ n4_ n5_; clear hb hbox hg; have hcz126_0 : w125.cell? ⟨gb239, 0, none⟩ = some (.int .i64 0) := (zc BK239.out 0).trans rfl; have hcz126_1 : w125.cell? ⟨gb239, 1, none⟩ = some (.int .i64 0) := (zc BK239.out 1).trans rfl; have hcz126_2 : w125.cell? ⟨gb239, 2, none⟩ = some (.slice none 0 0) := (zc BK239.out 2).trans rfl; have hcz126_3 : w125.cell? ⟨gb239, 3, none⟩ = some (.slice none 0 0) := (zc BK239.out 3).trans rfl; have hfz126_0 := zf BK239.out 0; have hfz126_1 := zf BK239.out 1; have hfz126_2 := zf BK239.out 2; have hfz126_3 := zf BK239.out 3; obtain ⟨Ao127, co127, eo127⟩ := Kd.R_slice HO234.out; subst eo127; obtain ⟨Ao128, co128, eo128⟩ := Kd.N_slice HO237.out; subst eo128))
    go_ret
    exact ⟨by first | rfl | (simp [errW_none, errW_some] <;> rfl) | (simp [*, errW_none, errW_some] <;> rfl), by repeat (first | (with_reducible first | exact HB.out | apply zL | apply zN | apply zD | refine zJ ?_ GE239.out) | exact HB.out)⟩
  ·replace c115 := Bool.eq_false_iff.mpr c115
   subst c115
   have H1 : (some false) = some r := by rw [if_neg (show ¬ (false = true) by decide)] at H; exact H
   clear H
   have H := H1
   clear H1
   exact absurd ((Option.some.inj H).trans HRT.out) (by decide)

end Go.Proofs.Ytldpaoaiapedjaa.Q
