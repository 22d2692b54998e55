/- shown: the document's example is as it says, in whatever memory. -/
import Derived.Test.YtldpaoaiapedjaaQ10
import Derived.Test.YtldpaoaiapedjaaQ5
import Derived.Test.YtldpaoaiapedjaaR
namespace Go.Proofs.Ytldpaoaiapedjaa.Q
open Go.RowKit Go.Proofs.YtldpaoaiapedjaaW.PrintWords Go.Proofs.YtldpaoaiapedjaaW.PrintLast Go.Proofs.YtldpaoaiapedjaaW.PrintMore
set_option linter.unusedVariables false
set_option linter.unusedSimpArgs false
def aT : ByteArray := ⟨#[97]⟩
def poolL : Nat → List ByteArray
  | 0 => []
  | 1 => [aT]
  | 2 => [aT, aT]
  | 3 => [aT, aT, aT]
  | _ => []
def nextL : Nat → Int
  | 4 => 2
  | _ => 1
def openL : Nat → List S42
  | 4 => [⟨1, 1, [aT, aT, aT, aT]⟩]
  | _ => []
theorem submitL : ∀ j, j < 4 → lane_Submit.f 1 (nextL j) (poolL j) (openL j) aT = some (1, nextL (j + 1), poolL (j + 1), openL (j + 1), 0)
  | 0, _ => by kernel_rfl
  | 1, _ => by kernel_rfl
  | 2, _ => by kernel_rfl
  | 3, _ => by kernel_rfl
  | j + 4, h => by omega
theorem rightL : rightT.f 9 1 2 [] (openL 4) = some true := by kernel_rfl
def L16_shown.f  : Option (Bool) := some true
theorem V_base {α : Type} {d : Kd α} {e base base' : Nat} {W : World} {ok : Nat → Prop} {v : Value} {xs : List α} (h : Kd.V d e W base ok v xs) : Kd.V d e W base' ok v xs := h
set_option maxHeartbeats 8000000 in
set_option maxRecDepth 100000 in
theorem L16_shown.calls  (r : Bool) (w : World) (h : L16_shown.f  = some r) :
    Calls Try.prog 9 #[] w fun e w' => e = .returned (.bool r) ∧ Below w.heap.size w w' := by
  obtain rfl := Option.some.inj h
  clear h
  have hu25 := Try.underlying25
  have hu42 := Try.underlying42
  go_enter Try.func9, Try.ntmps9
  go_wp2_with (fail)
  refine (lane_New.calls 1 1 1 [] [] 0 w rfl).mono ?_
  rintro e w1 ⟨v2, v3, rfl, h2, h3, hb⟩
  obtain ⟨A2, c2, e2⟩ := Kd.R_slice h2
  obtain ⟨A3, c3, e3⟩ := Kd.R_slice (Kd.S_R h3)
  subst e2 e3
  have HV2 := Aside0.mk (Kd.V_mono (Kd.V_bound (Kd.R_V (base' := w.heap.size) (Kd.R_bound h2))) (ok' := fun k => w.heap.size ≤ k ∧ k < w1.heap.size) (fun k hk => ⟨hk.1.2.1, hk.2⟩))
  have HV3 := Aside0.mk (Kd.V_mono (Kd.V_bound (Kd.R_V (base' := w.heap.size) (Kd.R_bound (Kd.S_R h3)))) (ok' := fun k => w.heap.size ≤ k ∧ k < w1.heap.size) (fun k hk => ⟨hk.1.2.1, hk.2⟩))
  have HB := Aside0.mk hb
  clear h2 h3 hb
  dsimp only
  go_wp2_with ((with_reducible refine gate_dst (N := 1) rfl ?_); refine box_event ?hg (N := 1) ?hd (cs := #[.int .i64 0, .int .i64 0, .slice none 0 0, .slice none 0 0]) (t := 25) ?hr ?_; (case hd => rfl); (case hg => rfl); (case hr => first | (go_simp; done) | (go_simp; rfl)); intro gb1 hg w2 hbox hb; have n0_ := Aside0.mk (below_step HB.out hb); have G1 := Aside0.mk ((by rw [hg]; exact below_size HB.out) : w.heap.size ≤ gb1); have BK := Aside0.mk hbox; have n1_ := Aside0.mk (Kd.V_mono (Kd.V_below HV2.out hb) (ok' := fun k => w.heap.size ≤ k ∧ k ≠ gb1) (fun k hk => ⟨hk.1, by rw [hg]; exact Nat.ne_of_lt hk.2⟩)); have n2_ := Aside0.mk (Kd.V_mono (Kd.V_below HV3.out hb) (ok' := fun k => w.heap.size ≤ k ∧ k ≠ gb1) (fun k hk => ⟨hk.1, by rw [hg]; exact Nat.ne_of_lt hk.2⟩)); clear HB HV2 HV3; have HB := n0_; have HV2 := n1_; have HV3 := n2_; clear n0_ n1_ n2_ hb hbox hg; have hc0 : w2.cell? ⟨gb1, 0, none⟩ = some (.int .i64 0) := (blk_cell BK.out 0).trans rfl; have hc1 : w2.cell? ⟨gb1, 1, none⟩ = some (.int .i64 0) := (blk_cell BK.out 1).trans rfl; have hc2 : w2.cell? ⟨gb1, 2, none⟩ = some (.slice none 0 0) := (blk_cell BK.out 2).trans rfl; have hc3 : w2.cell? ⟨gb1, 3, none⟩ = some (.slice none 0 0) := (blk_cell BK.out 3).trans rfl; have hf0 := blk_frozen BK.out 0; have hf1 := blk_frozen BK.out 1; have hf2 := blk_frozen BK.out 2; have hf3 := blk_frozen BK.out 3)
  obtain ⟨w3, hw⟩ : ∃ W, W = (((w2.setCell ⟨gb1, 0, none⟩ (.int .i64 1)).setCell ⟨gb1, 1, none⟩ (.int .i64 1)).setCell ⟨gb1, 2, none⟩ (.slice A2 0 c2)).setCell ⟨gb1, 3, none⟩ (.slice A3 0 c3) := ⟨_, rfl⟩
  rw [← hw]
  have n0_ : Aside0 (Below w.heap.size w w3) := ⟨by rw [hw]; exact below_set (below_set (below_set (below_set HB.out G1.out) G1.out) G1.out) G1.out⟩
  have n1_ : Aside0 (w3.heap[gb1]? = some (.cells #[.int .i64 1, .int .i64 (nextL 0), .slice A2 (poolL 0).length c2, .slice A3 (openL 0).length c3] 25 (0, 0))) := ⟨by rw [hw]; exact (blk_put (cs := #[.int .i64 1, .int .i64 1, .slice A2 0 c2, .slice none 0 0]) (blk_put (cs := #[.int .i64 1, .int .i64 1, .slice none 0 0, .slice none 0 0]) (blk_put (cs := #[.int .i64 1, .int .i64 0, .slice none 0 0, .slice none 0 0]) (blk_put (cs := #[.int .i64 0, .int .i64 0, .slice none 0 0, .slice none 0 0]) BK.out 0 _ rfl) 1 _ rfl) 2 _ rfl) 3 _ rfl)⟩
  have n2_ : Aside0 (Kd.V Kd.string 9 w3 w.heap.size (fun k => w.heap.size ≤ k ∧ k ≠ gb1) (.slice A2 (poolL 0).length c2) (poolL 0)) := ⟨by rw [hw]; exact (Kd.V_far (p := ⟨gb1, 3, none⟩) (Kd.V_far (p := ⟨gb1, 2, none⟩) (Kd.V_far (p := ⟨gb1, 1, none⟩) (Kd.V_far (p := ⟨gb1, 0, none⟩) HV2.out (fun _ hk => hk.2) _) (fun _ hk => hk.2) _) (fun _ hk => hk.2) _) (fun _ hk => hk.2) _)⟩
  have n3_ : Aside0 (Kd.V k42 42 w3 w.heap.size (fun k => w.heap.size ≤ k ∧ k ≠ gb1) (.slice A3 (openL 0).length c3) (openL 0)) := ⟨by rw [hw]; exact (Kd.V_far (p := ⟨gb1, 3, none⟩) (Kd.V_far (p := ⟨gb1, 2, none⟩) (Kd.V_far (p := ⟨gb1, 1, none⟩) (Kd.V_far (p := ⟨gb1, 0, none⟩) HV3.out (fun _ hk => hk.2) _) (fun _ hk => hk.2) _) (fun _ hk => hk.2) _) (fun _ hk => hk.2) _)⟩
  clear hw HB BK HV2 HV3 hc0 hc1 hc2 hc3 hf0 hf1 hf2 hf3
  go_loopg [3] 4 (fun gg s3 wr => ∃ (j : Nat) (A2 : Option Addr) (c2 : Nat) (A3 : Option Addr) (c3 : Nat), s3 = .int .i64 j ∧ j ≤ 4 ∧ 4 - j ≤ gg ∧ Aside0 (wr.heap[gb1]? = some (.cells #[.int .i64 1, .int .i64 (nextL j), .slice A2 (poolL j).length c2, .slice A3 (openL j).length c3] 25 (0, 0))) ∧ Aside0 (Kd.V Kd.string 9 wr w.heap.size (fun k => w.heap.size ≤ k ∧ k ≠ gb1) (.slice A2 (poolL j).length c2) (poolL j)) ∧ Aside0 (Kd.V k42 42 wr w.heap.size (fun k => w.heap.size ≤ k ∧ k ≠ gb1) (.slice A3 (openL j).length c3) (openL j)) ∧ Aside0 (Below w.heap.size w wr))
  case atStart => exact ⟨0, A2, c2, A3, c3, rfl, by omega, by omega, n1_, n2_, n3_, n0_⟩
  case round =>
    clear n0_ n1_ n2_ n3_
    obtain ⟨j, F2, g2, F3, g3, rfl, hj, hg, BK, HV2, HV3, HB⟩ := hrel
    by_cases hlt : j < 4
    · have hz : decide ((j : Int) < 4) = true := decide_eq_true (by omega)
      have hwj : IntKind.i64.wrap ((j : Int) + 1) = (j : Int) + 1 := by rw [IntKind.wrap_i64]; omega
      have hc0 : wr.cell? ⟨gb1, 0, none⟩ = some (.int .i64 1) := (blk_cell BK.out 0).trans rfl
      have hc1 : wr.cell? ⟨gb1, 1, none⟩ = some (.int .i64 (nextL j)) := (blk_cell BK.out 1).trans rfl
      have hc2 : wr.cell? ⟨gb1, 2, none⟩ = some (.slice F2 (poolL j).length g2) := (blk_cell BK.out 2).trans rfl
      have hc3 : wr.cell? ⟨gb1, 3, none⟩ = some (.slice F3 (openL j).length g3) := (blk_cell BK.out 3).trans rfl
      go_wp2_with (fail)
      refine (lane_Submit.calls 1 (nextL j) (fun k => w.heap.size ≤ k ∧ k ≠ gb1) F2 g2 (poolL j) (fun k => w.heap.size ≤ k ∧ k ≠ gb1) F3 g3 (openL j) aT 1 (nextL (j + 1)) (poolL (j + 1)) (openL (j + 1)) 0 wr (V_base HV2.out) (V_base HV3.out) (submitL j hlt)).mono ?_
      rintro e w4 ⟨u2, u3, rfl, h2, h3, hb⟩
      clear hc0 hc1 hc2 hc3
      obtain ⟨B2, d2, e2⟩ := Kd.V_slice h2
      obtain ⟨B3, d3, e3⟩ := Kd.V_slice h3
      subst e2 e3
      have hok : ∀ k, (((w.heap.size ≤ k ∧ k ≠ gb1) ∨ (w.heap.size ≤ k ∧ k ≠ gb1)) ∨ wr.heap.size ≤ k) → (w.heap.size ≤ k ∧ k ≠ gb1) := by
        intro k hk
        rcases hk with (hk | hk) | hk
        · exact hk
        · exact hk
        · exact ⟨Nat.le_trans HB.out.size hk, Nat.ne_of_gt (Nat.lt_of_lt_of_le (blk_lt BK.out) hk)⟩
      have HU2 := Aside0.mk (V_base (base' := w.heap.size) (Kd.V_mono h2 hok))
      have HU3 := Aside0.mk (V_base (base' := w.heap.size) (Kd.V_mono h3 hok))
      have HB4 := Aside0.mk (below_step HB.out hb)
      have BK4 := Aside0.mk (blk_below BK.out hb)
      clear h2 h3 hok hb HV2 HV3 HB BK
      have hc0 : w4.cell? ⟨gb1, 0, none⟩ = some (.int .i64 1) := (blk_cell BK4.out 0).trans rfl
      have hc1 : w4.cell? ⟨gb1, 1, none⟩ = some (.int .i64 (nextL j)) := (blk_cell BK4.out 1).trans rfl
      have hc2 : w4.cell? ⟨gb1, 2, none⟩ = some (.slice F2 (poolL j).length g2) := (blk_cell BK4.out 2).trans rfl
      have hc3 : w4.cell? ⟨gb1, 3, none⟩ = some (.slice F3 (openL j).length g3) := (blk_cell BK4.out 3).trans rfl
      have hf0 := blk_frozen BK4.out 0
      have hf1 := blk_frozen BK4.out 1
      have hf2 := blk_frozen BK4.out 2
      have hf3 := blk_frozen BK4.out 3
      dsimp only
      go_wp2
      go_roundg (4 - (j + 1))
      case measure => omega
      case rel =>
        refine ⟨j + 1, B2, d2, B3, d3, by go_num, hlt, by omega, ⟨?_⟩, ⟨?_⟩, ⟨?_⟩, ⟨?_⟩⟩
        · exact (blk_put (cs := #[.int .i64 1, .int .i64 (nextL (j + 1)), .slice B2 (poolL (j + 1)).length d2, .slice F3 (openL j).length g3]) (blk_put (cs := #[.int .i64 1, .int .i64 (nextL (j + 1)), .slice F2 (poolL j).length g2, .slice F3 (openL j).length g3]) (blk_put (cs := #[.int .i64 1, .int .i64 (nextL j), .slice F2 (poolL j).length g2, .slice F3 (openL j).length g3]) (blk_put (cs := #[.int .i64 1, .int .i64 (nextL j), .slice F2 (poolL j).length g2, .slice F3 (openL j).length g3]) BK4.out 0 _ rfl) 1 _ rfl) 2 _ rfl) 3 _ rfl)
        · exact (Kd.V_far (p := ⟨gb1, 3, none⟩) (Kd.V_far (p := ⟨gb1, 2, none⟩) (Kd.V_far (p := ⟨gb1, 1, none⟩) (Kd.V_far (p := ⟨gb1, 0, none⟩) HU2.out (fun _ hk => hk.2) _) (fun _ hk => hk.2) _) (fun _ hk => hk.2) _) (fun _ hk => hk.2) _)
        · exact (Kd.V_far (p := ⟨gb1, 3, none⟩) (Kd.V_far (p := ⟨gb1, 2, none⟩) (Kd.V_far (p := ⟨gb1, 1, none⟩) (Kd.V_far (p := ⟨gb1, 0, none⟩) HU3.out (fun _ hk => hk.2) _) (fun _ hk => hk.2) _) (fun _ hk => hk.2) _) (fun _ hk => hk.2) _)
        · exact below_set (below_set (below_set (below_set HB4.out G1.out) G1.out) G1.out) G1.out
    · obtain rfl : j = 4 := by omega
      have hc0 : wr.cell? ⟨gb1, 0, none⟩ = some (.int .i64 1) := (blk_cell BK.out 0).trans rfl
      have hc1 : wr.cell? ⟨gb1, 1, none⟩ = some (.int .i64 2) := (blk_cell BK.out 1).trans rfl
      have hc2 : wr.cell? ⟨gb1, 2, none⟩ = some (.slice F2 0 g2) := (blk_cell BK.out 2).trans rfl
      have hc3 : wr.cell? ⟨gb1, 3, none⟩ = some (.slice F3 1 g3) := (blk_cell BK.out 3).trans rfl
      obtain ⟨ad, B2, d2, e, hx0, hx1, hx2, hl2, hC2⟩ := at_T42 (Kd.V_reads' HV3.out).2.2 0 (Int.le_refl _) (by decide)
      subst e
      have hx : wr.cell? ⟨ad.block, ad.off + 2, none⟩ = some (.slice B2 4 d2) := by
        have h0 : ad.add ((0 : Int).toNat * 3) = ad := by simp [Addr.add]
        rw [h0] at hx2
        exact hx2
      clear hx0 hx1 hx2 hl2 hC2
      go_wp2_with (fail)
      have h2 : Kd.C Kd.string wr F2 ([] : List ByteArray).length [] ∧ ([] : List ByteArray).length ≤ g2 := ⟨(Kd.V_reads' HV2.out).2.2, (Kd.V_reads' HV2.out).2.1⟩
      have h3 := Kd.V_reads' HV3.out
      have H := rightT.calls 9 1 2 F2 g2 [] (some ad) g3 (openL 4) true wr h2.1 h2.2 h3.2.2 h3.2.1 rfl rightL
      have hlen : (openL 4).length = 1 := rfl
      rw [hlen] at H
      refine H.mono ?_
      rintro e w5 ⟨rfl, hb⟩
      have HB5 := Aside0.mk (below_step HB.out hb)
      clear hb
      dsimp only
      go_wp2
      go_ret
      exact ⟨rfl, HB5.out⟩
end Go.Proofs.Ytldpaoaiapedjaa.Q
