/- lane.Ordered: its contract: Clone, DeleteFunc at the closure, settled; what it hands back shares with what came in. Condition: the batches' bytes. -/
import Derived.Test.YtldpaoaiapedjaaD
import Derived.Test.YtldpaoaiapedjaaQ5
namespace Go.Proofs.Ytldpaoaiapedjaa.Q
open Go.RowKit Go.Proofs.YtldpaoaiapedjaaW.PrintWords Go.Proofs.YtldpaoaiapedjaaW.PrintLast Go.Proofs.YtldpaoaiapedjaaW.PrintMore
set_option linter.unusedVariables false
set_option linter.unusedSimpArgs false
theorem pick_all {α : Type} (R : Nat → α → Prop) : ∀ n, (∀ i, i < n → ∃ x, R i x) → ∃ xs : List α, xs.length = n ∧ ∀ i x, xs[i]? = some x → R i x
  | 0, _ => ⟨[], rfl, fun i x h => by simp at h⟩
  | n + 1, h => by
    obtain ⟨xs, hl, hx⟩ := pick_all R n (fun i hi => h i (by omega))
    obtain ⟨x, hn⟩ := h n (by omega)
    refine ⟨xs ++ [x], by simp [hl], fun i y hy => ?_⟩
    rcases Nat.lt_or_ge i n with hi | hi
    · rw [List.getElem?_append_left (by omega)] at hy
      exact hx i y hy
    · have hlt := (List.getElem?_eq_some_iff.1 hy).1
      rw [List.length_append, List.length_singleton] at hlt
      obtain rfl : i = n := by omega
      rw [List.getElem?_append_right (by omega), hl, Nat.sub_self] at hy
      obtain rfl : x = y := by simpa using hy
      exact hn
/-- A row of batches that is read, as a row of cells: each element's cells lead to it. -/
theorem rows_of {W : World} {ok : Nat → Prop} {A : Option Addr} {xs : List S42} (hF : Kd.F k42 W ok A xs.length xs) :
    ∃ rows : List SB, rows.length = xs.length ∧ Kd.C kB W A xs.length rows ∧ ∀ (j : Nat) (x : S42) (y : SB), xs[j]? = some x → rows[j]? = some y → Kd.FK k42 W ok x (encB y) := by
  have hone : ∀ i, i < xs.length → ∃ y : SB, Kd.FK k42 W ok (xs.getD i z42) (encB y) ∧ ∀ ad, A = some ad → ∀ j u, (encB y)[j]? = some u → W.cell? (ad.add (i * 3 + j)) = some u := by
    intro i hi
    obtain ⟨ad, c, hA, hcl, hK, hcc, _⟩ := Kd.F_get hF z42 (i : Int) (by omega) (by omega)
    rw [Int.toNat_natCast] at hK hcc
    obtain ⟨A2, c2, hc, _, _⟩ := k42_openF hK
    refine ⟨⟨(xs.getD i z42).f0, (xs.getD i z42).f1, A2, (xs.getD i z42).f2.length, c2⟩, ?_, ?_⟩
    · have h1 := hK
      rw [hc] at h1
      exact h1
    · intro ad' hA' j u hu
      rw [hA] at hA'
      injection hA' with hA'
      subst hA'
      exact hcc j u (by rw [hc]; exact hu)
  obtain ⟨rows, hl, hr⟩ := pick_all _ xs.length hone
  have hn := Kd.F_now hF
  refine ⟨rows, hl, ⟨hl, hn.2.1, fun hp => ?_⟩, fun j x y hx hy => ?_⟩
  · obtain ⟨ad, hA, _⟩ := hn.2.2 hp
    refine ⟨ad, hA, fun j p hj => ?_⟩
    exact ⟨encB p, rfl, rfl, (hr j p hj).2 ad hA⟩
  · have h1 := (hr j y hy).1
    rw [List.getD_eq_getElem?_getD, hx] at h1
    exact h1
/-- Rows of cells of the call's own, whose cells lead to elements that lie elsewhere: a row of batches that share. -/
theorem toN {W : World} {B : Nat} {okp : Nat → Prop} {v : Value} {rows : List SB} {xs : List S42} (HO : Kd.R kB 42 W B (fun _ => True) v rows) (hl : rows.length = xs.length)
    (hf : ∀ (j : Nat) (x : S42) (y : SB), xs[j]? = some x → rows[j]? = some y → Kd.FK k42 W okp x (encB y)) (hb : ∀ k, okp k → k < B) : Kd.N k42 42 W B (fun k => okp k ∨ some k = v.ownBlock) v xs := by
  obtain ⟨_, inner, ho, hr⟩ := HO
  have hbase := own_base ho
  refine ⟨fun k hk => .inr hk.symm, rows.map encB, by rw [List.length_map]; exact hl, ⟨fun k hk => hk.symm, inner, by rw [List.length_map]; exact ho, ?_⟩, fun j x c hx hc => ?_⟩
  · refine ⟨by rw [List.length_map]; exact hr.1, fun j p hj => ?_⟩
    rw [List.getElem?_map] at hj
    obtain ⟨y, hy, rfl⟩ := Option.map_eq_some_iff.1 hj
    have h1 : (inner.drop (j * 3)).take 3 = encB y := hr.2 j y hy
    show (inner.drop (j * 3)).take 3 = encB y ∧ ((inner.drop (j * 3)).take 3).length = 3 ∧ ∀ u ∈ (inner.drop (j * 3)).take 3, u.oneCell' = true
    rw [h1]
    exact ⟨rfl, rfl, encB_one y⟩
  · rw [List.getElem?_map] at hc
    obtain ⟨y, hy, rfl⟩ := Option.map_eq_some_iff.1 hc
    exact Kd.FK_mono (hf j x y hx hy) (fun k hk => ⟨.inl hk, fun he => by have := hbase k he.symm; have := hb k hk; omega⟩)
set_option maxHeartbeats 8000000 in
set_option maxRecDepth 100000 in
theorem cloneR.calls (A0 : Option Addr) (n c0 : Nat) (l0 : List SB) (w : World) (hn : n = l0.length) (hr0 : Kd.C kB w A0 n l0) (hl : n * 40 ≤ 140737488355328) :
    Calls Try.prog 32 #[.slice A0 n c0] w fun e w' => ∃ v0_ : Value, e = .returned (v0_) ∧ Kd.R kB 42 w' w.heap.size (fun _ => True) v0_ l0 ∧ Below w.heap.size w w' := by
  have q23 : ∀ (w : World) (a : Option Addr) (n c n' c' : Nat), (binOp .eql 23 (.slice a n c) (.slice none n' c')).run Try.prog w = .ok (.bool a.isNone) w := fun w a n c n' c' => Lib.run_eql_slice_nil w _ _ a n c n' c' Try.underlying23
  have hn' := Aside0.mk hn
  rcases A0 with _ | a0
  · have h0 : l0 = [] := nil_of_none (d := kB) (w := w) (by rw [← hn]; exact hr0)
    clear hn
    subst h0
    go_enter Try.func32, Try.ntmps32
    go_wp2
    go_ret
    exact ⟨_, rfl, Kd.R_nil _ _ _ _ _, Below.refl _ _⟩
  · have HR := Aside0.mk hr0
    clear hr0 hn
    go_enter Try.func32, Try.ntmps32
    go_wp2_with (first | ((with_reducible refine gate_dst (N := 5) rfl ?_); refine Kd.R_lit kB _ 42 ?hg (N := 5) ?hd (xs := ([] : List SB)) (inner := []) (ok := fun _ => True) (okp := fun _ => True) ?hr ?hp (fun _ hk => hk) trivial (Below.refl _ _) (Nat.le_refl _) (by simp) ?_; (case hd => rfl); (case hg => rfl); (case hr => first | (go_simp; done) | (go_simp; rfl)); (case hp => exact (Reps.none _ _)); intro v5 w5 ho5 hb5 hg5 hn5; have HO5 := Aside0.mk ho5; have HB5 := Aside0.mk hb5; clear ho5 hb5 hg5 hn5) | (at_builtin; refine Kd.R_append_rows kB (w0 := w) w.heap.size rfl (.tmp 5) (.tmp 6) 23 42 (.agg #[(.int .i64 0), (.int .i64 0), (.slice none 0 0)]) 40 rfl Try.underlying23 info42 rfl (by decide) (by omega) v5 [] l0 _ _ _ (fun _ => True) (fun _ => False) rfl rfl HO5.out (Kd.C_below HR.out HB5.out) (fun x _ h => h) (fun _ h => h.elim) (fun _ _ => trivial) HB5.out HB5.out.size (by simpa using hl) ?_; intro v7 w7 ho7 hb7 _ _))
    go_ret
    exact ⟨_, rfl, by simpa using ho7, hb7⟩
/-- The batches of other numbers, in cells and in values. -/
theorem filter_two {W : World} {okp : Nat → Prop} {seq : Int} : ∀ (xs : List S42) (rows : List SB), rows.length = xs.length → (∀ (j : Nat) (x : S42) (y : SB), xs[j]? = some x → rows[j]? = some y → Kd.FK k42 W okp x (encB y)) →
    (rows.filter (fun y => !seqV seq y)).length = (xs.filter (fun x => !decide (x.f1 = seq))).length ∧ ∀ (j : Nat) (x : S42) (y : SB), (xs.filter (fun x => !decide (x.f1 = seq)))[j]? = some x → (rows.filter (fun y => !seqV seq y))[j]? = some y → Kd.FK k42 W okp x (encB y)
  | [], [], _, _ => ⟨rfl, fun j x y hx => by simp at hx⟩
  | [], y :: _, h, _ => by simp at h
  | _ :: _, [], h, _ => by simp at h
  | x :: xs, y :: rows, h, hf => by
    obtain ⟨h1, h2⟩ := filter_two xs rows (by simpa using h) (fun j x' y' hx hy => hf (j + 1) x' y' (by simpa using hx) (by simpa using hy))
    have h0 := hf 0 x y rfl rfl
    have he : y.f1 = x.f1 := by
      obtain ⟨A2, c2, hc, _, _⟩ := k42_openF h0
      have := congrArg (fun l => l[1]?) hc
      simpa [encB] using this
    have hq : seqV seq y = decide (x.f1 = seq) := by unfold seqV; rw [he]
    rw [List.filter_cons, List.filter_cons, hq]
    cases hd : decide (x.f1 = seq) with
    | true => simpa using ⟨h1, h2⟩
    | false =>
      simp only [Bool.not_false, if_true]
      refine ⟨by simp [h1], fun j x' y' hx hy => ?_⟩
      rcases j with _ | j
      · simp only [List.getElem?_cons_zero, Option.some.injEq] at hx hy
        rw [← hx, ← hy]; exact h0
      · exact h2 j x' y' (by simpa using hx) (by simpa using hy)

def lane_Ordered.f (a0_0 : Int) (a0_1 : Int) (l0_2 : List ByteArray) (l0_3 : List (S42)) (a1 : Int) : Option (Int × Int × List ByteArray × (List (S42))) := if l0_3.length * 40 ≤ 140737488355328 then lane_settled.f a0_0 a0_1 l0_2 (l0_3.filter (fun x => !decide (x.f1 = a1))) else none
set_option maxHeartbeats 8000000 in
set_option maxRecDepth 100000 in
theorem lane_Ordered.calls (a0_0 : Int) (a0_1 : Int) (P0_2_ : Nat → Prop) (A0_2 : Option Addr) (c0_2 : Nat) (l0_2 : List ByteArray) (P0_3_ : Nat → Prop) (A0_3 : Option Addr) (c0_3 : Nat) (l0_3 : List (S42)) (a1 : Int) (r1 : Int) (r2 : Int) (r3 : List ByteArray) (r4 : List (S42)) (w : World) (hs0_2 : Kd.V Kd.string 9 w w.heap.size (fun k_ => P0_2_ k_) (.slice A0_2 l0_2.length c0_2) l0_2) (hs0_3 : Kd.V k42 42 w w.heap.size (fun k_ => P0_3_ k_) (.slice A0_3 l0_3.length c0_3) l0_3) (h : lane_Ordered.f a0_0 a0_1 l0_2 l0_3 a1 = some (r1, r2, r3, r4)) :
    Calls Try.prog 17 #[.agg #[.int .i64 a0_0, .int .i64 a0_1, .slice A0_2 l0_2.length c0_2, .slice A0_3 l0_3.length c0_3], .int .i64 a1] w fun e w' => ∃ v2_ v3_ : Value, e = .returned (.agg #[.int .i64 r1, .int .i64 r2, v2_, v3_]) ∧ Kd.V Kd.string 9 w' w.heap.size (fun k_ => ((P0_2_ k_ ∨ P0_3_ k_) ∨ w.heap.size ≤ k_)) v2_ r3 ∧ Kd.V k42 42 w' w.heap.size (fun k_ => ((P0_2_ k_ ∨ P0_3_ k_) ∨ w.heap.size ≤ k_)) v3_ r4 ∧ Below w.heap.size w w' := by
  have hu25 := Try.underlying25
  unfold lane_Ordered.f at h
  have hl : l0_3.length * 40 ≤ 140737488355328 := by
    by_cases hl : l0_3.length * 40 ≤ 140737488355328
    · exact hl
    · rw [if_neg hl] at h; cases h
  rw [if_pos hl] at h
  have A1 := Aside0.mk h
  clear h
  obtain ⟨rows, hrl, hrC, hrF⟩ := rows_of (Kd.F_bound (Kd.V_F hs0_3))
  obtain ⟨hfl, hff⟩ := filter_two (seq := a1) l0_3 rows hrl hrF
  have HRL := Aside0.mk hrl
  have HRC := Aside0.mk hrC
  have HV2 := Aside0.mk (Kd.V_bound hs0_2)
  obtain ⟨ys, hys⟩ : ∃ ys, ys = l0_3.filter (fun x => !decide (x.f1 = a1)) := ⟨_, rfl⟩
  rw [← hys] at A1 hfl hff
  have HFL := Aside0.mk hfl
  have HFF := Aside0.mk hff
  clear hrl hrC hrF hfl hff hs0_2 hs0_3 hys
  have HB := Aside0.mk (Below.refl w.heap.size w)
  go_enter Try.func17, Try.ntmps17
  go_wp2_with (first | ((with_reducible refine gate_dst (N := 2) rfl ?_); refine box_event ?hg (N := 2) ?hd (cs := #[.int .i64 a0_0, .int .i64 a0_1, .slice A0_2 l0_2.length c0_2, .slice A0_3 l0_3.length c0_3]) (t := 25) ?hr ?_; (case hd => rfl); (case hg => rfl); (case hr => first | (go_simp; done) | (go_simp; rfl)); intro gb2 hg w2 hbox hb; have n0_ := Aside0.mk (below_step HB.out hb); have G2 := Aside0.mk ((by rw [hg]; exact below_size HB.out) : w.heap.size ≤ gb2); have BK2 := Aside0.mk hbox; clear HB; have HB := n0_; clear n0_ hb hbox hg) | ((with_reducible refine gate_dst (N := 3) rfl ?_); refine box_event ?hg (N := 3) ?hd (cs := #[.int .i64 a1]) (t := 3) ?hr ?_; (case hd => rfl); (case hg => rfl); (case hr => first | (go_simp; done) | (go_simp; rfl)); intro gb3 hg w3 hbox hb; have n0_ := Aside0.mk (below_step HB.out hb); have n1_ := Aside0.mk (blk_below BK2.out hb); have n2_ := Aside0.mk ((by rw [hg]; exact Nat.ne_of_lt (blk_lt BK2.out)) : gb2 ≠ gb3); have BK3 := Aside0.mk hbox; clear HB BK2; have HB := n0_; have BK2 := n1_; have NB23 := n2_; clear n0_ n1_ n2_ hb hbox hg) | ((with_reducible refine gate_dst (N := 4) rfl ?_); refine box_event ?hg (N := 4) ?hd (cs := #[.int .i64 0, .int .i64 0, .slice none 0 0, .slice none 0 0]) (t := 25) ?hr ?_; (case hd => rfl); (case hg => rfl); (case hr => first | (go_simp; done) | (go_simp; rfl)); intro gb4 hg w4 hbox hb; have n0_ := Aside0.mk (below_step HB.out hb); have n1_ := Aside0.mk (blk_below BK2.out hb); have n2_ := Aside0.mk (blk_below BK3.out hb); have n3_ := Aside0.mk ((by rw [hg]; exact Nat.ne_of_lt (blk_lt BK2.out)) : gb2 ≠ gb4); have G4 := Aside0.mk ((by rw [hg]; exact below_size HB.out) : w.heap.size ≤ gb4); have BK4 := Aside0.mk hbox; clear HB BK2 BK3; have HB := n0_; have BK2 := n1_; have BK3 := n2_; have NB24 := n3_; clear n0_ n1_ n2_ n3_ hb hbox hg; have hcw4_0 : w4.cell? ⟨gb2, 0, none⟩ = some (.int .i64 a0_0) := (blk_cell BK2.out 0).trans rfl; have hcw4_1 : w4.cell? ⟨gb2, 1, none⟩ = some (.int .i64 a0_1) := (blk_cell BK2.out 1).trans rfl; have hcw4_2 : w4.cell? ⟨gb2, 2, none⟩ = some (.slice A0_2 l0_2.length c0_2) := (blk_cell BK2.out 2).trans rfl; have hcw4_3 : w4.cell? ⟨gb2, 3, none⟩ = some (.slice A0_3 l0_3.length c0_3) := (blk_cell BK2.out 3).trans rfl; have hfw4_0 := blk_frozen BK2.out 0; have hfw4_1 := blk_frozen BK2.out 1; have hfw4_2 := blk_frozen BK2.out 2; have hfw4_3 := blk_frozen BK2.out 3) | ((with_reducible refine gate_callee (f := 32) rfl ?_); refine goesL_ (some 7) rfl rfl Try.func32 (by kernel_rfl) rfl #[.slice A0_3 l0_3.length c0_3] rfl (by (try simp only [List.map_toArray, List.map_cons, List.map_nil]); first | done | rfl) ?_; refine (cloneR.calls A0_3 l0_3.length c0_3 rows w4 HRL.out.symm (Kd.C_below HRC.out HB.out) hl).mono ?_; rintro e w5 ⟨v5, rfl, ho5, hb⟩; refine ⟨_, rfl, ?_⟩; have HO5 := Aside0.mk ho5; have HB45 := Aside0.mk hb; clear hb ho5))
  refine (deleteB.calls gb3 a1 v5 rows w5 w4.heap.size HO5.out (by rw [HRL.out]; exact hl) HB45.out.size (blk_below BK3.out HB45.out)).mono ?_
  rintro e w6 ⟨v6, rfl, ho6, hb⟩
  have n4_ := HB45.out.trans hb
  have n0_ := Aside0.mk (below_step HB.out n4_)
  have n1_ := Aside0.mk (blk_below BK2.out n4_)
  have n2_ := Aside0.mk (blk_below BK4.out n4_)
  have HN6 := Aside0.mk (toN (xs := ys) (Kd.R_lower ho6 (below_size HB.out)) HFL.out (fun j x y hx hy => Kd.FK_below (HFF.out j x y hx hy) n0_.out) (fun k hk => hk.2))
  clear HB BK2 BK3 BK4 HO5 HB45
  have HB := n0_
  have BK2 := n1_
  have BK4 := n2_
  clear n0_ n1_ n2_ n4_ hb ho6
  obtain ⟨Ad, cd, ed⟩ := Kd.N_slice HN6.out
  subst ed
  have hcw6_0 : w6.cell? ⟨gb2, 0, none⟩ = some (.int .i64 a0_0) := (blk_cell BK2.out 0).trans rfl
  have hcw6_1 : w6.cell? ⟨gb2, 1, none⟩ = some (.int .i64 a0_1) := (blk_cell BK2.out 1).trans rfl
  have hcw6_2 : w6.cell? ⟨gb2, 2, none⟩ = some (.slice A0_2 l0_2.length c0_2) := (blk_cell BK2.out 2).trans rfl
  have hcw6_3 : w6.cell? ⟨gb2, 3, none⟩ = some (.slice A0_3 l0_3.length c0_3) := (blk_cell BK2.out 3).trans rfl
  have hfw6_0 := blk_frozen BK2.out 0
  have hfw6_1 := blk_frozen BK2.out 1
  have hfw6_2 := blk_frozen BK2.out 2
  have hfw6_3 := blk_frozen BK2.out 3
  dsimp only
  go_wp2_with (fail)
  obtain ⟨w7, hw⟩ : ∃ W, W = w6.setCell ⟨gb2, 3, none⟩ (.slice Ad ys.length cd) := ⟨_, rfl⟩
  rw [← hw]
  clear hcw6_0 hfw6_0 hcw6_1 hfw6_1 hcw6_2 hfw6_2 hcw6_3 hfw6_3
  have n0_ : Aside0 (Below w.heap.size w w7) := ⟨by rw [hw]; exact below_set HB.out G2.out⟩
  have n1_ : Aside0 (w7.heap[gb2]? = some (.cells #[.int .i64 a0_0, .int .i64 a0_1, .slice A0_2 l0_2.length c0_2, .slice Ad ys.length cd] 25 (0, 0))) := ⟨by rw [hw]; exact blk_put (cs := #[.int .i64 a0_0, .int .i64 a0_1, .slice A0_2 l0_2.length c0_2, .slice A0_3 l0_3.length c0_3]) BK2.out 3 _ rfl⟩
  have n2_ : Aside0 (w7.heap[gb4]? = some (.cells #[.int .i64 0, .int .i64 0, .slice none 0 0, .slice none 0 0] 25 (0, 0))) := ⟨by rw [hw]; exact blk_far BK4.out NB24.out.symm _⟩
  have n3_ := Aside0.mk (Kd.N_ne HN6.out BK2.out (by decide))
  have n5_ := Aside0.mk (Kd.N_ne HN6.out BK4.out (by decide))
  have n4_ : Aside0 (Kd.N k42 42 w7 w.heap.size (fun k => (P0_3_ k ∧ k < w.heap.size) ∨ some k = (Value.slice Ad ys.length cd).ownBlock) (.slice Ad ys.length cd) ys) := ⟨by rw [hw]; exact Kd.N_far (p := ⟨gb2, 3, none⟩) HN6.out (fun k hk => by rcases hk with hk | hk; exact Nat.ne_of_lt (Nat.lt_of_lt_of_le hk.2 G2.out); intro he; exact n3_.out ((congrArg some he).symm.trans hk)) _⟩
  clear hw HB BK2 BK4 HN6
  have HB := n0_
  have BK2 := n1_
  have BK4 := n2_
  have HN7 := n4_
  have NE4 := n5_
  clear n0_ n1_ n2_ n3_ n4_ n5_
  have hcw7_0 : w7.cell? ⟨gb2, 0, none⟩ = some (.int .i64 a0_0) := (blk_cell BK2.out 0).trans rfl
  have hcw7_1 : w7.cell? ⟨gb2, 1, none⟩ = some (.int .i64 a0_1) := (blk_cell BK2.out 1).trans rfl
  have hcw7_2 : w7.cell? ⟨gb2, 2, none⟩ = some (.slice A0_2 l0_2.length c0_2) := (blk_cell BK2.out 2).trans rfl
  have hcw7_3 : w7.cell? ⟨gb2, 3, none⟩ = some (.slice Ad ys.length cd) := (blk_cell BK2.out 3).trans rfl
  have hfw7_0 := blk_frozen BK2.out 0
  have hfw7_1 := blk_frozen BK2.out 1
  have hfw7_2 := blk_frozen BK2.out 2
  have hfw7_3 := blk_frozen BK2.out 3
  (with_reducible refine (lane_settled.calls a0_0 a0_1 (fun k_ => P0_2_ k_ ∧ k_ < w.heap.size) _ _ l0_2 (fun k => (P0_3_ k ∧ k < w.heap.size) ∨ some k = (Value.slice Ad ys.length cd).ownBlock) _ _ ys r1 r2 r3 r4 _ ?side1 ?side2 A1.out).mono ?_); (case side1 => exact Kd.V_below HV2.out HB.out); (case side2 => exact Kd.N_V HN7.out)
  rintro e w8 ⟨v8, v9, rfl, ho8, ho9, hb⟩
  have n6_ : ∀ k_, (((P0_2_ k_ ∧ k_ < w.heap.size) ∨ ((P0_3_ k_ ∧ k_ < w.heap.size) ∨ some k_ = (Value.slice Ad ys.length cd).ownBlock)) ∨ w7.heap.size ≤ k_) → ((P0_2_ k_ ∨ P0_3_ k_) ∨ w.heap.size ≤ k_) ∧ k_ ≠ gb4 := (by intro k hk; rcases hk with (hk | (hk | hk)) | hk; exact ⟨.inl (.inl hk.1), Nat.ne_of_lt (Nat.lt_of_lt_of_le hk.2 G4.out)⟩; exact ⟨.inl (.inr hk.1), Nat.ne_of_lt (Nat.lt_of_lt_of_le hk.2 G4.out)⟩; exact ⟨.inr (Kd.N_base HN7.out k hk.symm), fun he => NE4.out (by rw [← he]; exact hk)⟩; exact ⟨.inr (Nat.le_trans HB.out.size hk), Nat.ne_of_gt (Nat.lt_of_lt_of_le (blk_lt BK4.out) hk)⟩)
  have HO8 := Aside0.mk (Kd.V_mono ho8 n6_)
  have HO9 := Aside0.mk (Kd.V_mono ho9 n6_)
  have n0_ := Aside0.mk (below_step HB.out hb)
  have n1_ := Aside0.mk (blk_below BK4.out hb)
  clear HB BK2 BK4 HN7
  have HB := n0_
  have BK4 := n1_
  clear n0_ n1_ n6_ hb ho8 ho9
  have hcw8_0 : w8.cell? ⟨gb4, 0, none⟩ = some (.int .i64 0) := (blk_cell BK4.out 0).trans rfl
  have hcw8_1 : w8.cell? ⟨gb4, 1, none⟩ = some (.int .i64 0) := (blk_cell BK4.out 1).trans rfl
  have hcw8_2 : w8.cell? ⟨gb4, 2, none⟩ = some (.slice none 0 0) := (blk_cell BK4.out 2).trans rfl
  have hcw8_3 : w8.cell? ⟨gb4, 3, none⟩ = some (.slice none 0 0) := (blk_cell BK4.out 3).trans rfl
  have hfw8_0 := blk_frozen BK4.out 0
  have hfw8_1 := blk_frozen BK4.out 1
  have hfw8_2 := blk_frozen BK4.out 2
  have hfw8_3 := blk_frozen BK4.out 3
  dsimp only
  obtain ⟨A8, c8, e8⟩ := Kd.V_slice HO8.out
  subst e8
  obtain ⟨A9, c9, e9⟩ := Kd.V_slice HO9.out
  subst e9
  go_wp2
  refine bodyPost_ret (results_cell_row rfl _ _ gb4 25 #[.int .i64 r1, .int .i64 r2, .slice A8 r3.length c8, .slice A9 r4.length c9] (0, 0) _ rfl (blk_put (cs := #[.int .i64 r1, .int .i64 r2, .slice A8 r3.length c8, .slice none 0 0]) (blk_put (cs := #[.int .i64 r1, .int .i64 r2, .slice none 0 0, .slice none 0 0]) (blk_put (cs := #[.int .i64 r1, .int .i64 0, .slice none 0 0, .slice none 0 0]) (blk_put (cs := #[.int .i64 0, .int .i64 0, .slice none 0 0, .slice none 0 0]) BK4.out 0 _ rfl) 1 _ rfl) 2 _ rfl) 3 _ rfl) Try.underlying25 rfl (by kernel_rfl)) rfl ?_
  exact ⟨_, _, rfl, Kd.V_mono (Kd.V_far (p := ⟨gb4, 3, none⟩) (Kd.V_far (p := ⟨gb4, 2, none⟩) (Kd.V_far (p := ⟨gb4, 1, none⟩) (Kd.V_far (p := ⟨gb4, 0, none⟩) HO8.out (fun _ hk => hk.2) (.int .i64 r1)) (fun _ hk => hk.2) (.int .i64 r2)) (fun _ hk => hk.2) (.slice A8 r3.length c8)) (fun _ hk => hk.2) (.slice A9 r4.length c9)) (fun _ hk => hk.1), Kd.V_mono (Kd.V_far (p := ⟨gb4, 3, none⟩) (Kd.V_far (p := ⟨gb4, 2, none⟩) (Kd.V_far (p := ⟨gb4, 1, none⟩) (Kd.V_far (p := ⟨gb4, 0, none⟩) HO9.out (fun _ hk => hk.2) (.int .i64 r1)) (fun _ hk => hk.2) (.int .i64 r2)) (fun _ hk => hk.2) (.slice A8 r3.length c8)) (fun _ hk => hk.2) (.slice A9 r4.length c9)) (fun _ hk => hk.1), below_set (below_set (below_set (below_set HB.out G4.out) G4.out) G4.out) G4.out⟩
end Go.Proofs.Ytldpaoaiapedjaa.Q
