import Derived.Test.YtigbkmbcoiodmaaI
namespace Go.Proofs.Ytigbkmbcoiodmaa.Q
open Go.RowKit Go.Proofs.YtigbkmbcoiodmaaW.PrintWords Go.Proofs.YtigbkmbcoiodmaaW.PrintLast Go.Proofs.YtigbkmbcoiodmaaW.PrintMore
set_option linter.unusedVariables false
set_option linter.unusedSimpArgs false
/-! The closure of book.Put, and book.Put. -/
def aheadB (a : Int) (b : ByteArray) (x : S24) : Bool := decide (a < x.f0) || (a == x.f0 && Op.bytesLess b.toList x.f1.toList)
theorem ahead_is (a : Int) (b : ByteArray) (x : S24) : book_ahead.f a b x.f0 x.f1 = some (aheadB a b x) := by
  unfold book_ahead.f aheadB
  by_cases h1 : a < x.f0
  · simp [h1]
  · by_cases h2 : a = x.f0
    · simp [h1, h2]
    · simp [h1, h2]
set_option maxHeartbeats 8000000 in
set_option maxRecDepth 100000 in
theorem closure25.calls (gb : Nat) (a : Int) (b : ByteArray) (w : World) (hgb : w.heap[gb]? = some (.cells #[.int .i64 a, .string b] 24 (0, 0))) : gives24 25 gb (aheadB a b) w := by
  intro W x hW
  have hu24 := Try.underlying24
  have hlt : gb < w.heap.size := (Array.getElem?_eq_some_iff.1 hgb).1
  have hG : W.heap[gb]? = some (.cells #[.int .i64 a, .string b] 24 (0, 0)) := (hW.block gb hlt).trans hgb
  have BK := Aside0.mk hG
  have HB := Aside0.mk (Below.refl W.heap.size W)
  clear hG hgb hW hlt
  show Calls Try.prog 25 #[.agg #[.int .i64 x.f0, .string x.f1], .pointer (some ⟨gb, 0, none⟩)] W _
  go_enter Try.func25, Try.ntmps25
  go_wp2_with ((with_reducible refine gate_dst (N := 2) rfl ?_); refine box_event ?hg (N := 2) ?hd (cs := #[.int .i64 x.f0, .string x.f1]) (t := 24) ?hr ?_; (case hd => rfl); (case hg => rfl); (case hr => first | (go_simp; done) | (go_simp; rfl)); intro g2 hg w2 hbox hb; have n0_ := Aside0.mk (blk_below BK.out hb); have n1_ := Aside0.mk (below_step HB.out hb); clear BK HB; have BK := n0_; have HB := n1_; clear n0_ n1_; have hc0 : w2.cell? ⟨gb, 0, none⟩ = some (.int .i64 a) := (blk_cell BK.out 0).trans rfl; have hc1 : w2.cell? ⟨gb, 1, none⟩ = some (.string b) := (blk_cell BK.out 1).trans rfl; have hd0 : w2.cell? ⟨g2, 0, none⟩ = some (.int .i64 x.f0) := (blk_cell hbox 0).trans rfl; have hd1 : w2.cell? ⟨g2, 1, none⟩ = some (.string x.f1) := (blk_cell hbox 1).trans rfl; clear hb hbox hg)
  refine (book_ahead.calls a b x.f0 x.f1 (aheadB a b x) w2 (ahead_is a b x)).mono ?_
  rintro e w3 ⟨rfl, hb3⟩
  have HB3 := Aside0.mk (below_step HB.out hb3)
  clear hb3
  dsimp only
  go_wp2
  go_ret
  exact ⟨rfl, HB3.out⟩

def same24 (a : Int) (b : ByteArray) (x : S24) : Bool := x.f0 == a && (x.f1.toList == b.toList)
theorem has_loop (a : Int) (b : ByteArray) (l : List S24) (hl : l.length ≤ 9223372036854775806) : ∀ (k i : Nat), i ≤ l.length → l.length - i < k → hasE.l0 k l (l.length : Int) (i : Int) a b = some ((l.drop i).any (same24 a b))
  | 0, i, _, h => absurd h (Nat.not_lt_zero _)
  | k + 1, i, hi, h => by
    unfold hasE.l0
    by_cases hlt : i < l.length
    · have e : l.drop i = l[i] :: l.drop (i + 1) := List.drop_eq_getElem_cons hlt
      have hr : rd_T24 l (i : Int) = l[i] := by
        show l.getD ((i : Int).toNat) z24 = _
        rw [Int.toNat_natCast, List.getD_eq_getElem?_getD, List.getElem?_eq_getElem hlt]
        rfl
      rw [if_pos (by omega), if_pos (by omega), if_pos (by omega), hr, e, List.any_cons]
      have hs : (l[i].f0 == a && (l[i].f1.toList == b.toList)) = same24 a b l[i] := rfl
      rw [hs]
      cases hq : same24 a b l[i]
      · rw [if_neg (by simp), show wrap64 ((i : Int) + 1) = ((i + 1 : Nat) : Int) by unfold wrap64; omega, has_loop a b l hl k (i + 1) (by omega) (by omega)]
        rfl
      · rw [if_pos rfl]
        rfl
    · rw [if_neg (by omega), List.drop_of_length_le (by omega)]
      rfl
theorem has_is (a : Int) (b : ByteArray) (l : List S24) (hl : l.length ≤ 9223372036854775806) : hasE.f (l.length + 1) l a b = some (l.any (same24 a b)) := by
  have := has_loop a b l hl (l.length + 1) 0 (Nat.zero_le _) (by omega)
  simpa [hasE.f] using this

def putB (l : List S24) (a : Int) (b : ByteArray) : List S24 :=
  if (!(decide (1 ≤ a ∧ a ≤ 64)) || l.any (same24 a b)) = true then l else l.take (l.findIdx (aheadB a b)) ++ ⟨a, b⟩ :: l.drop (l.findIdx (aheadB a b))
def book_Put.f (l0 : List (S24)) (a1_0 : Int) (a1_1 : ByteArray) : Option ((List (S24))) := if (l0.length + 1) * 24 ≤ 140737488355328 then some (putB l0 a1_0 a1_1) else none

theorem may_is (a : Int) (b : ByteArray) : book_may.f a b = some (decide (1 ≤ a ∧ a ≤ 64)) := by
  unfold book_may.f
  by_cases h1 : 1 ≤ a
  · simp [h1]
  · simp [h1]

theorem R_C {α : Type} {d : Kd α} {e : Nat} {w : World} {base : Nat} {ok : Nat → Prop} {A : Option Addr} {c : Nat} {xs : List α} (h : d.R e w base ok (.slice A xs.length c) xs) : d.C w A xs.length xs := by
  obtain ⟨A', c', e1, _, h⟩ := Kd.R_reads h
  injection e1 with e1 e2 e3
  subst e1
  exact h
theorem ne_of_new {α : Type} {d : Kd α} {e g : Nat} {w w1 : World} {ok : Nat → Prop} {v : Value} {xs : List α} {o : Obj} (h : d.R e w1 w.heap.size ok v xs) (hg : w.heap[g]? = some o) : some g ≠ v.ownBlock := fun he => by
  have h1 := own_base (Kd.R_own h).choose_spec g he.symm
  have h2 := (Array.getElem?_eq_some_iff.1 hg).1
  omega
set_option maxHeartbeats 8000000 in
set_option maxRecDepth 100000 in
theorem book_Put.calls (A0 : Option Addr) (c0 : Nat) (l0 : List (S24)) (a1_0 : Int) (a1_1 : ByteArray) (r : List (S24)) (w : World) (hr0 : Kd.C k24 w A0 l0.length l0) (hc0 : l0.length ≤ c0) (h : book_Put.f l0 a1_0 a1_1 = some r) :
    Calls Try.prog 12 #[.slice A0 l0.length c0, .agg #[.int .i64 a1_0, .string a1_1]] w fun e w' => ∃ v0_ : Value, e = .returned (v0_) ∧ Kd.R k24 24 w' w.heap.size (fun _ => True) v0_ r ∧ Below w.heap.size w w' := by
  unfold book_Put.f at h
  by_cases hl : (l0.length + 1) * 24 ≤ 140737488355328
  · rw [if_pos hl] at h
    have hr := (Option.some.inj h).symm
    clear h
    have hu24 := Try.underlying24
    have HR := Aside0.mk hr0
    have HB := Aside0.mk (Below.refl w.heap.size w)
    have hr' := Aside0.mk hr
    clear hr0 hr
    have hl' : l0.length ≤ 9223372036854775806 := by omega
    have hm0 := hr'.out
    unfold putB at hm0
    cases hm : decide (1 ≤ a1_0 ∧ a1_0 ≤ 64) with
    | false =>
      rw [hm] at hm0
      have he : r = l0 := hm0
      have HE := Aside0.mk he
      clear hr' hm0 he
      go_enter Try.func12, Try.ntmps12
      go_wp2_with (first | ((with_reducible refine gate_dst (N := 3) rfl ?_); refine box_event ?hg (N := 3) ?hd (cs := #[.int .i64 a1_0, .string a1_1]) (t := 24) ?hr ?_; (case hd => rfl); (case hg => rfl); (case hr => first | (go_simp; done) | (go_simp; rfl)); intro g2 hg w2 hbox hb; have BK2 := Aside0.mk hbox; have HB2 := Aside0.mk (below_step HB.out hb); clear hb hbox hg) | ((with_reducible refine gate_callee (f := 22) rfl ?_); refine goesL_ (some 8) rfl rfl Try.func22 (by kernel_rfl) rfl #[.slice A0 l0.length c0] rfl (by (try simp only [List.map_toArray, List.map_cons, List.map_nil]); first | done | rfl | (simp only [List.length_drop, List.length_take]; rfl)) ?_; refine (clone24.calls A0 c0 l0 w2 (Kd.C_below HR.out HB2.out) hc0 (by omega)).mono ?_; rintro e w3 ⟨v3, rfl, ho3, hb3⟩; refine ⟨_, rfl, ?_⟩; obtain ⟨A3, c3, rfl, hc3, _⟩ := Kd.R_reads ho3; have HO3 := Aside0.mk (Kd.R_lower ho3 HB2.out.size); have HNE := Aside0.mk (ne_of_new ho3 BK2.out); have BK3 := Aside0.mk (blk_below BK2.out hb3); have HB3 := Aside0.mk (below_step HB2.out hb3); clear ho3 hb3; have hcell0_w3 : w3.cell? ⟨g2, 0, none⟩ = some (.int .i64 a1_0) := (blk_cell BK3.out 0).trans rfl; have hcell1_w3 : w3.cell? ⟨g2, 1, none⟩ = some (.string a1_1) := (blk_cell BK3.out 1).trans rfl) | ((with_reducible refine gate_callee (f := 23) rfl ?_); refine goesL_ (some 10) rfl rfl Try.func23 (by kernel_rfl) rfl #[.agg #[.int .i64 a1_0, .string a1_1]] rfl (by (try simp only [List.map_toArray, List.map_cons, List.map_nil]); first | done | rfl | (simp only [List.length_drop, List.length_take]; rfl)) ?_; refine (book_may.calls a1_0 a1_1 false w3 (by rw [may_is, hm])).mono ?_; rintro e w4 ⟨rfl, hb4⟩; refine ⟨_, rfl, ?_⟩; have HO4 := Aside0.mk (Kd.R_below HO3.out hb4); have BK4 := Aside0.mk (blk_below BK3.out hb4); have HB4 := Aside0.mk (below_step HB3.out hb4); clear hb4; have hcell0_w4 : w4.cell? ⟨g2, 0, none⟩ = some (.int .i64 a1_0) := (blk_cell BK4.out 0).trans rfl; have hcell1_w4 : w4.cell? ⟨g2, 1, none⟩ = some (.string a1_1) := (blk_cell BK4.out 1).trans rfl))
      go_ret
      exact ⟨_, rfl, by rw [HE.out]; exact HO4.out, HB4.out⟩
    | true =>
      cases hy : l0.any (same24 a1_0 a1_1) with
      | true =>
        rw [hm, hy] at hm0
        have he : r = l0 := hm0
        have HE := Aside0.mk he
        clear hr' hm0 he
        go_enter Try.func12, Try.ntmps12
        go_wp2_with (first | ((with_reducible refine gate_dst (N := 3) rfl ?_); refine box_event ?hg (N := 3) ?hd (cs := #[.int .i64 a1_0, .string a1_1]) (t := 24) ?hr ?_; (case hd => rfl); (case hg => rfl); (case hr => first | (go_simp; done) | (go_simp; rfl)); intro g2 hg w2 hbox hb; have BK2 := Aside0.mk hbox; have HB2 := Aside0.mk (below_step HB.out hb); clear hb hbox hg) | ((with_reducible refine gate_callee (f := 22) rfl ?_); refine goesL_ (some 8) rfl rfl Try.func22 (by kernel_rfl) rfl #[.slice A0 l0.length c0] rfl (by (try simp only [List.map_toArray, List.map_cons, List.map_nil]); first | done | rfl | (simp only [List.length_drop, List.length_take]; rfl)) ?_; refine (clone24.calls A0 c0 l0 w2 (Kd.C_below HR.out HB2.out) hc0 (by omega)).mono ?_; rintro e w3 ⟨v3, rfl, ho3, hb3⟩; refine ⟨_, rfl, ?_⟩; obtain ⟨A3, c3, rfl, hc3, _⟩ := Kd.R_reads ho3; have HO3 := Aside0.mk (Kd.R_lower ho3 HB2.out.size); have HNE := Aside0.mk (ne_of_new ho3 BK2.out); have BK3 := Aside0.mk (blk_below BK2.out hb3); have HB3 := Aside0.mk (below_step HB2.out hb3); clear ho3 hb3; have hcell0_w3 : w3.cell? ⟨g2, 0, none⟩ = some (.int .i64 a1_0) := (blk_cell BK3.out 0).trans rfl; have hcell1_w3 : w3.cell? ⟨g2, 1, none⟩ = some (.string a1_1) := (blk_cell BK3.out 1).trans rfl) | ((with_reducible refine gate_callee (f := 23) rfl ?_); refine goesL_ (some 10) rfl rfl Try.func23 (by kernel_rfl) rfl #[.agg #[.int .i64 a1_0, .string a1_1]] rfl (by (try simp only [List.map_toArray, List.map_cons, List.map_nil]); first | done | rfl | (simp only [List.length_drop, List.length_take]; rfl)) ?_; refine (book_may.calls a1_0 a1_1 true w3 (by rw [may_is, hm])).mono ?_; rintro e w4 ⟨rfl, hb4⟩; refine ⟨_, rfl, ?_⟩; have HO4 := Aside0.mk (Kd.R_below HO3.out hb4); have BK4 := Aside0.mk (blk_below BK3.out hb4); have HB4 := Aside0.mk (below_step HB3.out hb4); clear hb4; have hcell0_w4 : w4.cell? ⟨g2, 0, none⟩ = some (.int .i64 a1_0) := (blk_cell BK4.out 0).trans rfl; have hcell1_w4 : w4.cell? ⟨g2, 1, none⟩ = some (.string a1_1) := (blk_cell BK4.out 1).trans rfl) | ((with_reducible refine gate_callee (f := 14) rfl ?_); (try (refine gate_guard (by rfl) ?_; dsimp only)); refine goesL_ (some 15) rfl rfl Try.func14 (by kernel_rfl) rfl #[.slice A0 l0.length c0, .agg #[.int .i64 a1_0, .string a1_1]] rfl (by (try simp only [List.map_toArray, List.map_cons, List.map_nil]); first | done | rfl | (simp only [List.length_drop, List.length_take]; rfl)) ?_; refine (hasE.calls (l0.length + 1) A0 c0 l0 a1_0 a1_1 true w4 (Kd.C_below HR.out HB4.out) hc0 (by rw [has_is a1_0 a1_1 l0 hl', hy])).mono ?_; rintro e w5 ⟨rfl, hb5⟩; refine ⟨_, rfl, ?_⟩; have HO5 := Aside0.mk (Kd.R_below HO4.out hb5); have BK5 := Aside0.mk (blk_below BK4.out hb5); have HB5 := Aside0.mk (below_step HB4.out hb5); clear hb5; have hcell0_w5 : w5.cell? ⟨g2, 0, none⟩ = some (.int .i64 a1_0) := (blk_cell BK5.out 0).trans rfl; have hcell1_w5 : w5.cell? ⟨g2, 1, none⟩ = some (.string a1_1) := (blk_cell BK5.out 1).trans rfl))
        go_ret
        exact ⟨_, rfl, by rw [HE.out]; exact HO5.out, HB5.out⟩
      | false =>
        rw [hm, hy] at hm0
        have he : r = l0.take (l0.findIdx (aheadB a1_0 a1_1)) ++ ⟨a1_0, a1_1⟩ :: l0.drop (l0.findIdx (aheadB a1_0 a1_1)) := hm0
        clear hr' hm0
        have HE := Aside0.mk he
        clear he
        by_cases hlt : l0.findIdx (aheadB a1_0 a1_1) < l0.length
        · have hi := Aside0.mk (show idxOf (aheadB a1_0 a1_1) l0 = ((l0.findIdx (aheadB a1_0 a1_1) : Nat) : Int) by unfold idxOf; rw [if_pos hlt])
          clear hlt
          obtain ⟨j, hj⟩ : ∃ j, j = l0.findIdx (aheadB a1_0 a1_1) := ⟨_, rfl⟩
          rw [← hj] at hi HE
          have hjl : j ≤ l0.length := by rw [hj]; exact List.findIdx_le_length
          clear hj
          have hneg : ((j : Int) < 0) = False := by first | omega | (simp; done) | (simp; omega)
          go_enter Try.func12, Try.ntmps12
          go_wp2_with (first | ((with_reducible refine gate_dst (N := 3) rfl ?_); refine box_event ?hg (N := 3) ?hd (cs := #[.int .i64 a1_0, .string a1_1]) (t := 24) ?hr ?_; (case hd => rfl); (case hg => rfl); (case hr => first | (go_simp; done) | (go_simp; rfl)); intro g2 hg w2 hbox hb; have BK2 := Aside0.mk hbox; have HB2 := Aside0.mk (below_step HB.out hb); clear hb hbox hg) | ((with_reducible refine gate_callee (f := 22) rfl ?_); refine goesL_ (some 8) rfl rfl Try.func22 (by kernel_rfl) rfl #[.slice A0 l0.length c0] rfl (by (try simp only [List.map_toArray, List.map_cons, List.map_nil]); first | done | rfl | (simp only [List.length_drop, List.length_take]; rfl)) ?_; refine (clone24.calls A0 c0 l0 w2 (Kd.C_below HR.out HB2.out) hc0 (by omega)).mono ?_; rintro e w3 ⟨v3, rfl, ho3, hb3⟩; refine ⟨_, rfl, ?_⟩; obtain ⟨A3, c3, rfl, hc3, _⟩ := Kd.R_reads ho3; have HO3 := Aside0.mk (Kd.R_lower ho3 HB2.out.size); have HNE := Aside0.mk (ne_of_new ho3 BK2.out); have BK3 := Aside0.mk (blk_below BK2.out hb3); have HB3 := Aside0.mk (below_step HB2.out hb3); clear ho3 hb3; have hcell0_w3 : w3.cell? ⟨g2, 0, none⟩ = some (.int .i64 a1_0) := (blk_cell BK3.out 0).trans rfl; have hcell1_w3 : w3.cell? ⟨g2, 1, none⟩ = some (.string a1_1) := (blk_cell BK3.out 1).trans rfl) | ((with_reducible refine gate_callee (f := 23) rfl ?_); refine goesL_ (some 10) rfl rfl Try.func23 (by kernel_rfl) rfl #[.agg #[.int .i64 a1_0, .string a1_1]] rfl (by (try simp only [List.map_toArray, List.map_cons, List.map_nil]); first | done | rfl | (simp only [List.length_drop, List.length_take]; rfl)) ?_; refine (book_may.calls a1_0 a1_1 true w3 (by rw [may_is, hm])).mono ?_; rintro e w4 ⟨rfl, hb4⟩; refine ⟨_, rfl, ?_⟩; have HO4 := Aside0.mk (Kd.R_below HO3.out hb4); have BK4 := Aside0.mk (blk_below BK3.out hb4); have HB4 := Aside0.mk (below_step HB3.out hb4); clear hb4; have hcell0_w4 : w4.cell? ⟨g2, 0, none⟩ = some (.int .i64 a1_0) := (blk_cell BK4.out 0).trans rfl; have hcell1_w4 : w4.cell? ⟨g2, 1, none⟩ = some (.string a1_1) := (blk_cell BK4.out 1).trans rfl) | ((with_reducible refine gate_callee (f := 14) rfl ?_); (try (refine gate_guard (by rfl) ?_; dsimp only)); refine goesL_ (some 15) rfl rfl Try.func14 (by kernel_rfl) rfl #[.slice A0 l0.length c0, .agg #[.int .i64 a1_0, .string a1_1]] rfl (by (try simp only [List.map_toArray, List.map_cons, List.map_nil]); first | done | rfl | (simp only [List.length_drop, List.length_take]; rfl)) ?_; refine (hasE.calls (l0.length + 1) A0 c0 l0 a1_0 a1_1 false w4 (Kd.C_below HR.out HB4.out) hc0 (by rw [has_is a1_0 a1_1 l0 hl', hy])).mono ?_; rintro e w5 ⟨rfl, hb5⟩; refine ⟨_, rfl, ?_⟩; have HO5 := Aside0.mk (Kd.R_below HO4.out hb5); have BK5 := Aside0.mk (blk_below BK4.out hb5); have HB5 := Aside0.mk (below_step HB4.out hb5); clear hb5; have hcell0_w5 : w5.cell? ⟨g2, 0, none⟩ = some (.int .i64 a1_0) := (blk_cell BK5.out 0).trans rfl; have hcell1_w5 : w5.cell? ⟨g2, 1, none⟩ = some (.string a1_1) := (blk_cell BK5.out 1).trans rfl) | ((with_reducible refine gate_callee (f := 24) rfl ?_); refine goesL_ (some 20) rfl rfl Try.func24 (by kernel_rfl) rfl #[.slice A3 l0.length c3, .func (.func 25) #[] #[.pointer (some ⟨g2, 0, none⟩)]] rfl (by (try simp only [List.map_toArray, List.map_cons, List.map_nil]); first | done | rfl | (simp only [List.length_drop, List.length_take]; rfl)) ?_; refine (index24.calls 25 g2 (aheadB a1_0 a1_1) A3 c3 l0 w5 (R_C HO5.out) hc3 (by omega) (fun args w => by go_simp) (closure25.calls g2 a1_0 a1_1 w5 BK5.out)).mono ?_; rintro e w6 ⟨rfl, hb6⟩; refine ⟨_, rfl, ?_⟩; have HO6 := Aside0.mk (Kd.R_below HO5.out hb6); have BK6 := Aside0.mk (blk_below BK5.out hb6); have HB6 := Aside0.mk (below_step HB5.out hb6); clear hb6; have hcell0_w6 : w6.cell? ⟨g2, 0, none⟩ = some (.int .i64 a1_0) := (blk_cell BK6.out 0).trans rfl; have hcell1_w6 : w6.cell? ⟨g2, 1, none⟩ = some (.string a1_1) := (blk_cell BK6.out 1).trans rfl; rw [hi.out]) | ((with_reducible refine gate_callee (f := 27) rfl ?_); refine goesL_ (some 29) rfl rfl Try.func27 (by kernel_rfl) rfl #[.slice A3 l0.length c3, .int .i64 (j : Nat), .slice (some ⟨w6.heap.size, 0, none⟩) 1 1] rfl (by (try simp only [List.map_toArray, List.map_cons, List.map_nil]); first | done | rfl | (simp only [List.length_drop, List.length_take]; rfl)) ?_; refine (insert24.calls (fun _ => True) (fun _ => trivial) w.heap.size (.slice A3 l0.length c3) l0 j ⟨a1_0, a1_1⟩ _ w6.heap.size hjl (Nat.le_trans HB6.out.size (by go_simp)) hl (Kd.R_alloc HO6.out _) (Array.getElem?_push_size) (fun he => Nat.lt_irrefl _ (own_lt (Kd.R_own HO6.out).choose_spec _ he.symm))).mono ?_; rintro e w7 ⟨v7, rfl, ho7, hb7⟩; refine ⟨_, rfl, ?_⟩; have HO7 := Aside0.mk ho7; have HB7 := Aside0.mk (Below.trans (below_alloc HB6.out _) hb7); clear ho7 hb7))
          go_ret
          exact ⟨_, rfl, by rw [HE.out]; exact HO7.out, HB7.out⟩
        · have hi := Aside0.mk (show idxOf (aheadB a1_0 a1_1) l0 = -1 by unfold idxOf; rw [if_neg hlt])
          have hj : l0.findIdx (aheadB a1_0 a1_1) = l0.length := Nat.le_antisymm List.findIdx_le_length (Nat.le_of_not_lt hlt)
          rw [hj] at HE
          clear hlt hj
          have hjl : l0.length ≤ l0.length := Nat.le_refl _
          go_enter Try.func12, Try.ntmps12
          go_wp2_with (first | ((with_reducible refine gate_dst (N := 3) rfl ?_); refine box_event ?hg (N := 3) ?hd (cs := #[.int .i64 a1_0, .string a1_1]) (t := 24) ?hr ?_; (case hd => rfl); (case hg => rfl); (case hr => first | (go_simp; done) | (go_simp; rfl)); intro g2 hg w2 hbox hb; have BK2 := Aside0.mk hbox; have HB2 := Aside0.mk (below_step HB.out hb); clear hb hbox hg) | ((with_reducible refine gate_callee (f := 22) rfl ?_); refine goesL_ (some 8) rfl rfl Try.func22 (by kernel_rfl) rfl #[.slice A0 l0.length c0] rfl (by (try simp only [List.map_toArray, List.map_cons, List.map_nil]); first | done | rfl | (simp only [List.length_drop, List.length_take]; rfl)) ?_; refine (clone24.calls A0 c0 l0 w2 (Kd.C_below HR.out HB2.out) hc0 (by omega)).mono ?_; rintro e w3 ⟨v3, rfl, ho3, hb3⟩; refine ⟨_, rfl, ?_⟩; obtain ⟨A3, c3, rfl, hc3, _⟩ := Kd.R_reads ho3; have HO3 := Aside0.mk (Kd.R_lower ho3 HB2.out.size); have HNE := Aside0.mk (ne_of_new ho3 BK2.out); have BK3 := Aside0.mk (blk_below BK2.out hb3); have HB3 := Aside0.mk (below_step HB2.out hb3); clear ho3 hb3; have hcell0_w3 : w3.cell? ⟨g2, 0, none⟩ = some (.int .i64 a1_0) := (blk_cell BK3.out 0).trans rfl; have hcell1_w3 : w3.cell? ⟨g2, 1, none⟩ = some (.string a1_1) := (blk_cell BK3.out 1).trans rfl) | ((with_reducible refine gate_callee (f := 23) rfl ?_); refine goesL_ (some 10) rfl rfl Try.func23 (by kernel_rfl) rfl #[.agg #[.int .i64 a1_0, .string a1_1]] rfl (by (try simp only [List.map_toArray, List.map_cons, List.map_nil]); first | done | rfl | (simp only [List.length_drop, List.length_take]; rfl)) ?_; refine (book_may.calls a1_0 a1_1 true w3 (by rw [may_is, hm])).mono ?_; rintro e w4 ⟨rfl, hb4⟩; refine ⟨_, rfl, ?_⟩; have HO4 := Aside0.mk (Kd.R_below HO3.out hb4); have BK4 := Aside0.mk (blk_below BK3.out hb4); have HB4 := Aside0.mk (below_step HB3.out hb4); clear hb4; have hcell0_w4 : w4.cell? ⟨g2, 0, none⟩ = some (.int .i64 a1_0) := (blk_cell BK4.out 0).trans rfl; have hcell1_w4 : w4.cell? ⟨g2, 1, none⟩ = some (.string a1_1) := (blk_cell BK4.out 1).trans rfl) | ((with_reducible refine gate_callee (f := 14) rfl ?_); (try (refine gate_guard (by rfl) ?_; dsimp only)); refine goesL_ (some 15) rfl rfl Try.func14 (by kernel_rfl) rfl #[.slice A0 l0.length c0, .agg #[.int .i64 a1_0, .string a1_1]] rfl (by (try simp only [List.map_toArray, List.map_cons, List.map_nil]); first | done | rfl | (simp only [List.length_drop, List.length_take]; rfl)) ?_; refine (hasE.calls (l0.length + 1) A0 c0 l0 a1_0 a1_1 false w4 (Kd.C_below HR.out HB4.out) hc0 (by rw [has_is a1_0 a1_1 l0 hl', hy])).mono ?_; rintro e w5 ⟨rfl, hb5⟩; refine ⟨_, rfl, ?_⟩; have HO5 := Aside0.mk (Kd.R_below HO4.out hb5); have BK5 := Aside0.mk (blk_below BK4.out hb5); have HB5 := Aside0.mk (below_step HB4.out hb5); clear hb5; have hcell0_w5 : w5.cell? ⟨g2, 0, none⟩ = some (.int .i64 a1_0) := (blk_cell BK5.out 0).trans rfl; have hcell1_w5 : w5.cell? ⟨g2, 1, none⟩ = some (.string a1_1) := (blk_cell BK5.out 1).trans rfl) | ((with_reducible refine gate_callee (f := 24) rfl ?_); refine goesL_ (some 20) rfl rfl Try.func24 (by kernel_rfl) rfl #[.slice A3 l0.length c3, .func (.func 25) #[] #[.pointer (some ⟨g2, 0, none⟩)]] rfl (by (try simp only [List.map_toArray, List.map_cons, List.map_nil]); first | done | rfl | (simp only [List.length_drop, List.length_take]; rfl)) ?_; refine (index24.calls 25 g2 (aheadB a1_0 a1_1) A3 c3 l0 w5 (R_C HO5.out) hc3 (by omega) (fun args w => by go_simp) (closure25.calls g2 a1_0 a1_1 w5 BK5.out)).mono ?_; rintro e w6 ⟨rfl, hb6⟩; refine ⟨_, rfl, ?_⟩; have HO6 := Aside0.mk (Kd.R_below HO5.out hb6); have BK6 := Aside0.mk (blk_below BK5.out hb6); have HB6 := Aside0.mk (below_step HB5.out hb6); clear hb6; have hcell0_w6 : w6.cell? ⟨g2, 0, none⟩ = some (.int .i64 a1_0) := (blk_cell BK6.out 0).trans rfl; have hcell1_w6 : w6.cell? ⟨g2, 1, none⟩ = some (.string a1_1) := (blk_cell BK6.out 1).trans rfl; rw [hi.out]) | ((with_reducible refine gate_callee (f := 27) rfl ?_); refine goesL_ (some 29) rfl rfl Try.func27 (by kernel_rfl) rfl #[.slice A3 l0.length c3, .int .i64 (l0.length : Nat), .slice (some ⟨w6.heap.size, 0, none⟩) 1 1] rfl (by (try simp only [List.map_toArray, List.map_cons, List.map_nil]); first | done | rfl | (simp only [List.length_drop, List.length_take]; rfl)) ?_; refine (insert24.calls (fun _ => True) (fun _ => trivial) w.heap.size (.slice A3 l0.length c3) l0 l0.length ⟨a1_0, a1_1⟩ _ w6.heap.size hjl (Nat.le_trans HB6.out.size (by go_simp)) hl (Kd.R_alloc HO6.out _) (Array.getElem?_push_size) (fun he => Nat.lt_irrefl _ (own_lt (Kd.R_own HO6.out).choose_spec _ he.symm))).mono ?_; rintro e w7 ⟨v7, rfl, ho7, hb7⟩; refine ⟨_, rfl, ?_⟩; have HO7 := Aside0.mk ho7; have HB7 := Aside0.mk (Below.trans (below_alloc HB6.out _) hb7); clear ho7 hb7))
          go_ret
          exact ⟨_, rfl, by rw [HE.out]; exact HO7.out, HB7.out⟩
  · rw [if_neg hl] at h
    cases h
end Go.Proofs.Ytigbkmbcoiodmaa.Q
