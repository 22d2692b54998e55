/- slices.Clone, slices.Insert of one element and slices.IndexFunc at ballots: their contracts. Conditions: lengths. -/
import Derived.Test.YtlaagbadhkpjgaaK
import Derived.Test.YtlaagbadhkpjgaaQ2
namespace Go.Proofs.Ytlaagbadhkpjgaa.Q
open Go.RowKit Go.Proofs.YtlaagbadhkpjgaaW.PrintWords Go.Proofs.YtlaagbadhkpjgaaW.PrintLast Go.Proofs.YtlaagbadhkpjgaaW.PrintMore
set_option linter.unusedVariables false
set_option linter.unusedSimpArgs false
set_option maxHeartbeats 8000000 in
set_option maxRecDepth 100000 in
theorem clone29.calls (A0 : Option Addr) (c0 : Nat) (l0 : List (S29)) (w : World) (hr0 : Kd.C k29 w A0 l0.length l0) (hc0 : l0.length ≤ c0) (hl : l0.length * 32 ≤ 140737488355328) :
    Calls Try.prog 24 #[.slice A0 l0.length c0] w fun e w' => ∃ v0_ : Value, e = .returned (v0_) ∧ Kd.R k29 29 w' w.heap.size (fun _ => True) v0_ l0 ∧ Below w.heap.size w w' := by
  have q22 : ∀ (w : World) (a : Option Addr) (n c n' c' : Nat), (binOp .eql 22 (.slice a n c) (.slice none n' c')).run Try.prog w = .ok (.bool a.isNone) w := fun w a n c n' c' => Lib.run_eql_slice_nil w _ _ a n c n' c' Try.underlying22
  rcases A0 with _ | a0
  · obtain rfl := nil_of_none hr0
    go_enter Try.func24, Try.ntmps24
    go_wp2
    go_ret
    exact ⟨_, rfl, Kd.R_nil _ _ _ _ _, Below.refl _ _⟩
  · have HR := Aside0.mk hr0
    clear hr0
    go_enter Try.func24, Try.ntmps24
    go_wp2_with (first | ((with_reducible refine gate_dst (N := 5) rfl ?_); refine Kd.R_lit k29 _ 29 ?hg (N := 5) ?hd (xs := ([] : List S29)) (inner := []) (ok := fun _ => True) (okp := fun _ => True) ?hr ?hp (fun _ hk => hk) trivial (Below.refl _ _) (Nat.le_refl _) (by simp) ?_; (case hd => rfl); (case hg => rfl); (case hr => first | (go_simp; done) | (go_simp; rfl)); (case hp => exact (Reps.none _ _)); intro v5 w5 ho5 hb5 hg5 hn5; have HO5 := Aside0.mk ho5; have HB5 := Aside0.mk hb5; clear ho5 hb5 hg5 hn5) | (at_builtin; refine Kd.R_append_rows k29 (w0 := w) w.heap.size rfl (.tmp 5) (.tmp 6) 22 29 (.agg #[(.int .i64 0), (.int .i64 0), (.string ⟨#[]⟩)]) 32 rfl Try.underlying22 info29 rfl (by decide) (by omega) v5 [] l0 _ _ _ (fun _ => True) (fun _ => False) rfl rfl HO5.out (Kd.C_below HR.out HB5.out) (fun x _ h => by rw [k29_open h]; exact k29_mkM _ _ _ x) (fun _ h => h.elim) (fun _ _ => trivial) HB5.out HB5.out.size (by simpa using hl) ?_; intro v7 w7 ho7 hb7 _ _))
    go_ret
    exact ⟨_, rfl, by simpa using ho7, hb7⟩

def enc29 (x : S29) : List Value := [.int .i64 x.f0, .int .i64 x.f1, .string x.f2]
theorem enc29_len (x : S29) : (enc29 x).length = 3 := rfl
theorem enc29_one (x : S29) : ∀ v ∈ enc29 x, v.oneCell' = true := by
  intro v hv
  simp [enc29] at hv
  rcases hv with rfl | rfl | rfl <;> rfl
theorem flat29_one (xs : List S29) : ∀ v ∈ xs.flatMap enc29, v.oneCell' = true := by
  intro v hv
  obtain ⟨x, _, h⟩ := List.mem_flatMap.1 hv
  exact enc29_one x v h
theorem R29_flat {w : World} {base : Nat} {ok : Nat → Prop} {v : Value} {xs : List S29} (h : Kd.R k29 29 w base ok v xs) : (∀ k, v.ownBlock = some k → ok k) ∧ w.ownsRow base 29 3 v xs.length (xs.flatMap enc29) := by
  obtain ⟨h0, inner, ho, hr⟩ := h
  have := flat_of_reps (enc := enc29) (k := 3) (fun x c hc => k29_openM hc) enc29_len xs inner hr
  subst this
  exact ⟨h0, ho⟩
theorem flat_R29 {w : World} {base : Nat} {ok : Nat → Prop} {v : Value} {xs : List S29} (h0 : ∀ k, v.ownBlock = some k → ok k) (ho : w.ownsRow base 29 3 v xs.length (xs.flatMap enc29)) : Kd.R k29 29 w base ok v xs :=
  ⟨h0, _, ho, reps_of_flat (fun x => k29_mkM _ _ _ x) enc29_len xs⟩
theorem C29_cells {w : World} {A : Option Addr} {xs : List S29} (h : Kd.C k29 w A xs.length xs) (ad : Addr) (hA : A = some ad) : ∀ j v, (xs.flatMap enc29)[j]? = some v → w.cell? (ad.add j) = some v := by
  subst hA
  obtain ⟨news, hnr, hnc⟩ := ReadsRow.inner_ h
  have := flat_of_reps (enc := enc29) (k := 3) (fun x c hc => k29_open hc) enc29_len xs news hnr
  subst this
  exact hnc

/-- Insert of one element, the row being the caller's own, the variadic row another block. -/
theorem tail_take (A X D Z : List Value) (a x d : Nat) (ha : A.length = a) (hx : X.length = x) (hd : D.length = d) (hZ : x + d ≤ Z.length) :
    (((A ++ Z).take a ++ X ++ (A ++ Z).drop (a + X.length)).take (a + x) ++ D ++ ((A ++ Z).take a ++ X ++ (A ++ Z).drop (a + X.length)).drop (a + x + D.length)).take (a + x + d) = A ++ (X ++ D) := by
  subst ha hx hd
  have e1 : (A ++ Z).take A.length = A := by simp
  have e2 : (A ++ Z).drop (A.length + X.length) = Z.drop X.length := by rw [List.drop_append]; simp
  rw [e1, e2]
  have e3 : (A ++ X ++ Z.drop X.length).take (A.length + X.length) = A ++ X := by
    rw [List.take_append_of_le_length (by simp), List.take_of_length_le (by simp)]
  rw [e3, List.take_append_of_le_length (by simp; omega), List.take_of_length_le (by simp; omega), List.append_assoc]
theorem tail_take2 (L X D : List Value) (a x d : Nat) (hx : X.length = x) (hd : D.length = d) (hL : a + x + d ≤ L.length) :
    (((L.take (a + x) ++ D ++ L.drop (a + x + D.length))).take a ++ X ++ (L.take (a + x) ++ D ++ L.drop (a + x + D.length)).drop (a + X.length)).take (a + x + d) = L.take a ++ (X ++ D) := by
  subst hx hd
  have e1 : (L.take (a + X.length) ++ D ++ L.drop (a + X.length + D.length)).take a = L.take a := by
    rw [List.append_assoc, List.take_append_of_le_length (by rw [List.length_take]; omega), List.take_take, Nat.min_eq_left (by omega)]
  have e2 : (L.take (a + X.length) ++ D ++ L.drop (a + X.length + D.length)).drop (a + X.length) = D ++ L.drop (a + X.length + D.length) := by
    rw [List.append_assoc, List.drop_append, List.drop_of_length_le (by rw [List.length_take]; omega), List.length_take, Nat.min_eq_left (by omega), Nat.sub_self]
    simp
  rw [e1, e2]
  rw [← List.append_assoc, List.take_append_of_le_length (by simp; omega), List.take_of_length_le (by simp; omega), List.append_assoc]

theorem cell_at_heap {w w1 : World} {b j : Nat} (h : w1.heap[b]? = w.heap[b]?) : w1.cell? ⟨b, j, none⟩ = w.cell? ⟨b, j, none⟩ := by simp only [World.cell?, h]
set_option maxHeartbeats 8000000 in
set_option maxRecDepth 100000 in
theorem insert29.calls (ok : Nat → Prop) (hok : ∀ k, ok k) (B : Nat) (v : Value) (xs : List S29) (i : Nat) (x : S29) (w : World) (gb : Nat) (hi : i ≤ xs.length) (hB : B ≤ w.heap.size) (hl : (xs.length + 1) * 32 ≤ 140737488355328)
    (HO : Kd.R k29 29 w B ok v xs) (hgb : w.heap[gb]? = some (.cells (enc29 x).toArray 29 (0, 0))) (hne : some gb ≠ v.ownBlock) :
    Calls Try.prog 23 #[v, .int .i64 i, .slice (some ⟨gb, 0, none⟩) 1 1] w fun e w' => ∃ v', e = .returned v' ∧ Kd.R k29 29 w' B ok v' (xs.take i ++ x :: xs.drop i) ∧ Below B w w' ∧ (∀ k, k < w.heap.size → some k ≠ v.ownBlock → w'.heap[k]? = w.heap[k]?) := by
  obtain ⟨i0, hi0, hz0, hzs, hzb⟩ := info_parts info29
  have hzc : ((.agg #[(.int .i64 0), (.int .i64 0), (.string ⟨#[]⟩)]) : Value).cells.size = 3 := rfl
  have hgc : ∀ j u, (enc29 x)[j]? = some u → w.cell? ⟨gb, j, none⟩ = some u := by
    intro j u hj
    simp only [World.cell?, hgb]
    simpa using hj
  have hCv : Kd.C k29 w (some ⟨gb, 0, none⟩) [x].length [x] := by
    refine ⟨rfl, by simp, fun _ => ⟨_, rfl, fun j p hj => ?_⟩⟩
    rcases j with _ | j
    · obtain rfl : x = p := by simpa using hj
      exact ⟨enc29 x, rfl, k29_mk w x, fun q u hu => by rw [Nat.zero_mul, Nat.zero_add, Addr.add_lit]; simpa using hgc q u hu⟩
    · simp at hj
  have HRv := R29_flat HO
  rcases Nat.eq_or_lt_of_le hi with he | hlt
  · -- at the end
    subst he
    obtain ⟨A, c, rfl⟩ := Kd.R_slice HO
    clear HRv
    have HO0 := Aside0.mk HO
    clear HO
    have HC0 := Aside0.mk hCv
    clear hCv
    have hne' := Aside0.mk hne
    clear hne
    have hgb' := Aside0.mk hgb
    clear hgb hgc
    rcases A with _ | ⟨ab, ao, asp⟩
    all_goals
      go_enter Try.func23, Try.ntmps23
      go_wp2_with (at_builtin; go_loud (refine Kd.R_append_rows k29 (w0 := w) B rfl (.tmp 23) (.tmp 24) 22 29 (.agg #[(.int .i64 0), (.int .i64 0), (.string ⟨#[]⟩)]) 32 rfl Try.underlying22 info29 rfl (by decide) (by omega) _ xs [x] _ _ _ ok (fun _ => False) rfl rfl HO0.out HC0.out (fun x _ h => by rw [k29_open h]; exact k29_mkM _ _ _ x) (fun _ h => h.elim) (fun _ _ => hok _) (Below.refl _ _) hB (by simpa using hl) ?_; intro v7 w7 ho7 hb7 hg7 _))
    all_goals
      go_ret
      exact ⟨_, rfl, by simpa using ho7, hb7, fun k hk hne => hg7.block k hk hne⟩
  · rcases HRv with ⟨hokv, hlen, hv⟩
    obtain ⟨n, hn⟩ : ∃ n, n = xs.length := ⟨_, rfl⟩
    obtain ⟨INN, hINN⟩ : ∃ INN, INN = xs.flatMap enc29 := ⟨_, rfl⟩
    obtain ⟨X, hX⟩ : ∃ X, X = enc29 x := ⟨_, rfl⟩
    have hXl : X.length = 3 := by rw [hX, enc29_len]
    have hX1 : ∀ v ∈ X, v.oneCell' = true := by rw [hX]; exact enc29_one x
    have h1 : ∀ v ∈ INN, v.oneCell' = true := by rw [hINN]; exact flat29_one xs
    have htgt : (xs.take i ++ x :: xs.drop i).flatMap enc29 = INN.take (i * 3) ++ (X ++ INN.drop (i * 3)) := by
      rw [hINN, flat_take enc29_len, flat_drop enc29_len, List.flatMap_append, List.flatMap_cons, hX]
    have hlen2 : (xs.take i ++ x :: xs.drop i).length = n + 1 := by simp; omega
    rw [← hX] at hgc hgb
    rw [← hn] at hlt hlen hl hi hv
    rw [← hINN] at hlen hv
    have hfin : ∀ (w' : World) (v' : Value), w'.ownsRow B 29 3 v' (n + 1) (INN.take (i * 3) ++ (X ++ INN.drop (i * 3))) → Kd.R k29 29 w' B ok v' (xs.take i ++ x :: xs.drop i) := fun w' v' h => flat_R29 (fun _ _ => hok _) (by rw [hlen2, htgt]; exact h)
    clear HO hCv htgt hlen2 hINN hX hi hn
    rcases hv with ⟨rfl, h0⟩ | ⟨g, c, cur, rfl, hBg, hg, hnc, hcm, hcs, hin⟩
    · omega
    have hgne : gb ≠ g := fun h => hne (by simp [Value.ownBlock, h])
    have hgl : g < w.heap.size := (Array.getElem?_eq_some_iff.1 hg).1
    have hgbl : gb < w.heap.size := (Array.getElem?_eq_some_iff.1 hgb).1
    have hcl : cur.toList.length = c * 3 := by rw [Array.length_toList]; exact hcs
    have hcell : ∀ j v, INN[j]? = some v → w.cell? ⟨g, j, none⟩ = some v := by
      intro j v hj
      rw [← hin, List.getElem?_take] at hj
      split at hj
      · simp only [World.cell?, hg]
        simpa using hj
      · cases hj
    clear hne hokv
    have hc63 : c ≤ 9223372036854775807 := hcm
    have hw1 : IntKind.i64.wrap ((i : Int) + 1) = (i : Int) + 1 := by rw [IntKind.wrap_i64]; omega
    have hw2 : IntKind.i64.wrap ((n : Int) + 1) = (n : Int) + 1 := by rw [IntKind.wrap_i64]; omega
    have hb1 : (0 : Int) ≤ (i : Int) + 1 := by omega
    have hz2 : ¬ ((i : Int) = (n : Int)) := by omega
    have htn : ((i : Int) + 1).toNat = i + 1 := by omega
    have htn2 : ((n : Int) + 1).toNat = n + 1 := by omega
    have hin' : (i : Int) ≤ (n : Int) := by omega
    have hin2 : (i : Int) ≤ (c : Int) := by omega
    by_cases hroom : c < n + 1
    · have hz3 : (c : Int) < (n : Int) + 1 := by omega
      have hw3 : IntKind.i64.wrap ((n : Int) + 1 - (i : Int)) = (n : Int) + 1 - (i : Int) := by rw [IntKind.wrap_i64]; omega
      have hkk : (n : Int) + 1 - (i : Int) = ((n + 1 - i : Nat) : Int) := by omega
      have hik : i + (n + 1 - i) = n + 1 := by omega
      have hold : (Builtin.firstCells i0.size i (.slice (some ⟨g, 0, none⟩) i c)).run Try.prog w.drew = .ok (INN.take (i * 3)).toArray w.drew := by
        rw [hzs]
        exact run_firstCells_some w.drew 3 i ⟨g, 0, none⟩ i c (INN.take (i * 3)) (by rw [List.length_take]; omega) (fun j v hj => by
          rw [Addr.add_lit, Nat.zero_add]
          rw [List.getElem?_take] at hj
          split at hj
          · exact hcell j v hj
          · cases hj)
      obtain ⟨G, hG⟩ : ∃ G, G = grownCap w (n + 1) c 29 := ⟨_, rfl⟩
      obtain ⟨Z, hZ⟩ : ∃ Z : List Value, Z = (Builtin.zeroCells ((.agg #[(.int .i64 0), (.int .i64 0), (.string ⟨#[]⟩)]) : Value).cells (n + 1 - i) ++ Builtin.zeroCells ((.agg #[(.int .i64 0), (.int .i64 0), (.string ⟨#[]⟩)]) : Value).cells (G - (n + 1))).toList := ⟨_, rfl⟩
      have hrz : ∀ ty, (Builtin.append_ #[22, 3] ty #[.slice (some ⟨g, 0, none⟩) i c, .int .i64 ((n : Int) + 1 - (i : Int))]).run Try.prog w =
          .ok (.slice (some ⟨w.heap.size, 0, none⟩) (n + 1) G) (w.drew.alloc (.cells (INN.take (i * 3) ++ Z).toArray 29)) := fun ty => by
        have h := Lib.run_append_grow_zeros w 22 3 ty 29 i0 _ .i64 .i64 Try.underlying22 Try.underlying3 hi0 hz0 (some ⟨g, 0, none⟩) i c (INN.take (i * 3)) hold (n + 1 - i) (by omega) (by omega) (by omega) (by omega) (by rw [hzb]; omega) (by rw [hzb, hik]; exact growslice_fits hroom hl)
        rw [hik, ← hG] at h
        rw [hkk, h, hZ]
        congr 3
        apply Array.ext'
        simp
      have hGn : n + 1 ≤ G := by rw [hG]; exact grownCap_ge w _ _ _
      have hG63 : G ≤ 9223372036854775807 := by
        have := grownCap_le_maxLen w (n + 1) c 29 (by unfold maxLen; omega)
        rw [← hG] at this
        unfold maxLen at this
        omega
      have hZl : Z.length = (G - i) * 3 := by
        rw [hZ]
        simp only [Array.length_toList, Array.size_append, size_zeroCells, hzc]
        omega
      clear hold hkk hik hZ hG
      have hGi : ¬ (G = i) := by omega
      have hGi1 : ¬ (G = i + 1) := by omega
      have hci : ¬ (c = i) := by omega
      obtain ⟨R0, hR0⟩ : ∃ R0, R0 = INN.take (i * 3) ++ Z := ⟨_, rfl⟩
      rw [← hR0] at hrz
      have hR0l : R0.length = G * 3 := by rw [hR0, List.length_append, List.length_take, hZl]; omega
      have hgc' := Aside0.mk hgc
      have hcell' := Aside0.mk hcell
      have hfin' := Aside0.mk hfin
      have hrz' := Aside0.mk hrz
      clear hgc hcell hfin hrz
      have hW1 : ((w.alloc (.cells R0.toArray 29)).drew).heap[w.heap.size]? = some (.cells R0.toArray 29 (0, 0)) := by show (w.heap.push _)[w.heap.size]? = _; rw [Array.getElem?_push_size]
      have hB1 : Below B w ((w.alloc (.cells R0.toArray 29)).drew) := below_drew ((Below.refl B w).alloc hB _)
      have hO1 : ∀ k, k < w.heap.size → ((w.alloc (.cells R0.toArray 29)).drew).heap[k]? = w.heap[k]? := fun k hk => by show (w.heap.push _)[k]? = _; rw [Array.getElem?_push, if_neg (Nat.ne_of_lt hk)]
      have hR0' := Aside0.mk hR0
      clear hR0
      have hW1' := Aside0.mk hW1
      have hB1' := Aside0.mk hB1
      have hO1' := Aside0.mk hO1
      clear hW1 hB1 hO1
      go_enter Try.func23, Try.ntmps23
      go_wp2_with (first | (at_builtin; refine Lib.wpList_append_run _ rfl (.tmp 34) (.tmp 39) 22 3 rfl _ _ rfl rfl _ _ (hrz'.out _) ?_) | ((with_reducible refine gate_builtin (b := .copy) (xs := #[.tmp 43, .tmp 44]) rfl ?_); go_loud (refine wpList_copyK rfl (.tmp 43) (.tmp 44) 22 22 rfl 29 i0 Try.underlying22 hi0 _ _ _ _ _ _ rfl rfl w.heap.size (i * 3) ⟨gb, 0, none⟩ ?d1 ?d2 R0 29 hW1'.out X 1 ?d4 ?d5 ?d6 ?d7 hX1 B w hB1'.out hB ?_; (case d1 => simp); (case d2 => rfl); (case d4 => (simp only [Nat.min_def]; split <;> omega)); (case d5 => omega); (case d7 => omega); (case d6 => (intro j v hj; rw [Addr.add_lit, Nat.zero_add]; exact (cell_at_heap (hO1'.out gb hgbl)).trans (hgc'.out j v hj))); intro w5 HG5 hk5 hb5; have hk5' := Aside0.mk hk5; have hb5' := Aside0.mk hb5; clear hk5 hb5)))
      go_region_law (refine step_copyK rfl (.tmp 50) (.tmp 53) 22 22 rfl 29 i0 Try.underlying22 hi0 (some ⟨w.heap.size, (i + 1) * 3, none⟩) (some ⟨g, i * 3, none⟩) (n + 1 - (i + 1)) (G - (i + 1)) (n - i) (c - i) (by simp [Act.eval, Act.put]) (by simp [Act.eval, Act.put]) w.heap.size ((i + 1) * 3) ⟨g, i * 3, none⟩ rfl rfl _ 29 HG5.out (INN.drop (i * 3)) (n - i) ?d4 ?d5 ?d6 ?d7 ?d9 B w (below_drew hb5'.out) hB ?_; (case d4 => (simp only [Nat.min_def]; split <;> omega)); (case d5 => (rw [List.length_drop, hlen, hzs]; omega)); (case d7 => (simp only [List.length_append, List.length_take, List.length_drop, hlen, hR0l, hXl]; omega)); (case d9 => exact fun v hv => h1 v (List.mem_of_mem_drop hv)); (case d6 => (intro j v hj; rw [Addr.add_lit]; rw [List.getElem?_drop] at hj; exact (cell_at_heap ((hk5'.out g (by omega)).trans (hO1'.out g hgl))).trans (hcell'.out _ v hj))); intro w6 HG6 hk6 hb6; have hk6' := Aside0.mk hk6; have hb6' := Aside0.mk hb6; clear hk6 hb6)
      go_wp2
      go_ret
      refine ⟨_, rfl, hfin'.out _ _ ⟨?_, .inr ⟨w.heap.size, G, _, rfl, hB, HG6.out, hGn, hG63, ?_, ?_⟩⟩, hb6'.out, fun k hk _ => (hk6'.out k (by omega)).trans ((hk5'.out k (by omega)).trans (hO1'.out k hk))⟩
      · simp only [List.length_append, List.length_take, List.length_drop, hlen, hXl]
        omega
      · simp only [List.size_toArray, List.length_append, List.length_take, List.length_drop, hlen, hR0l, hXl]
        omega
      · rw [hR0'.out]
        have h := tail_take (INN.take (i * 3)) X (INN.drop (i * 3)) Z (i * 3) 3 ((n - i) * 3) (by rw [List.length_take]; omega) hXl (by rw [List.length_drop, hlen]; omega) (by omega)
        rw [show (i + 1) * 3 = i * 3 + 3 by omega, show (n + 1) * 3 = i * 3 + 3 + (n - i) * 3 by omega]
        exact h
    · have hz3 : ¬ ((c : Int) < (n : Int) + 1) := by omega
      have hnc' : n + 1 ≤ c := by omega
      have hin3 : (n : Int) + 1 ≤ (c : Int) := by omega
      have hin4 : (i : Int) + 1 ≤ (n : Int) + 1 := by omega
      have hin5 : (i : Int) ≤ (n : Int) + 1 := by omega
      have hci : ¬ (c = i) := by omega
      have hci1 : ¬ (c = i + 1) := by omega
      have hov : ∀ (W : World) lb cb, W.heap[gb]? = w.heap[gb]? → W.heap[g]? = w.heap[g]? → (callFunc 27 #[.slice (some ⟨gb, 0, none⟩) 1 1, .slice (some ⟨g, (i + 1) * 3, none⟩) lb cb]).run Try.prog W = .ok (.value (.bool false)) W := fun W lb cb e1 e2 => by
        rw [hgb] at e1
        rw [hg] at e2
        rw [run_callFunc_extern Try.func27 (by kernel_rfl) (by kernel_rfl) (by kernel_rfl) (e := Extern.SlicesOverlaps.overlaps #[22, 22] #[4]) (by kernel_rfl),
          Lib.run_overlaps_apart W 22 4 29 Try.underlying22 3 (fun w => by simp [sizeOf, typeInfo, hi0, hzs]) ⟨gb, 0, none⟩ ⟨g, (i + 1) * 3, none⟩ 1 1 lb cb hgne 29 29 3 (c * 3) (by simp [World.shape?, e1, hXl]) (by simp [World.shape?, e2, hcs]) (by omega) (by simp [World.frozen?, e1]) (by simp [World.frozen?, e1])]
        rfl
      obtain ⟨L, hL⟩ : ∃ L, L = cur.toList := ⟨_, rfl⟩
      have hgL : w.heap[g]? = some (.cells L.toArray 29 (0, 0)) := by rw [hL, Array.toArray_toList]; exact hg
      have hLl : L.length = c * 3 := by rw [hL]; exact hcl
      have hLin : L.take (n * 3) = INN := by rw [hL]; exact hin
      clear hg hcl hin hcs hL
      have hgc' := Aside0.mk hgc
      have hcell' := Aside0.mk hcell
      have hfin' := Aside0.mk hfin
      have hov' := Aside0.mk hov
      have hgL' := Aside0.mk hgL
      have hLin' := Aside0.mk hLin
      clear hgc hcell hfin hov hgL hLin
      have hb0 := Aside0.mk (Below.refl B w)
      go_enter Try.func23, Try.ntmps23
      go_wp2_with (simp only [hov'.out _ _ _ rfl rfl])
      go_region_law (refine step_copyK rfl (.tmp 73) (.tmp 76) 22 22 rfl 29 i0 Try.underlying22 hi0 (some ⟨g, (i + 1) * 3, none⟩) (some ⟨g, i * 3, none⟩) (n + 1 - (i + 1)) (c - (i + 1)) (n + 1 - i) (c - i) (by simp [Act.eval, Act.put]) (by simp [Act.eval, Act.put]) g ((i + 1) * 3) ⟨g, i * 3, none⟩ rfl rfl L 29 hgL'.out (INN.drop (i * 3)) (n - i) ?d4 ?d5 ?d6 ?d7 ?d9 B w (below_drew hb0.out) hBg ?_; (case d4 => (simp only [Nat.min_def]; split <;> omega)); (case d5 => (rw [List.length_drop, hlen, hzs]; omega)); (case d7 => (simp only [List.length_drop, hlen, hLl]; omega)); (case d9 => exact fun v hv => h1 v (List.mem_of_mem_drop hv)); (case d6 => (intro j v hj; rw [Addr.add_lit]; rw [List.getElem?_drop] at hj; exact hcell'.out _ v hj)); intro w5 HG5 hk5 hb5; have hk5' := Aside0.mk hk5; have hb5' := Aside0.mk hb5; clear hk5 hb5)
      go_wp2_with ((with_reducible refine gate_builtin (b := .copy) (xs := #[.tmp 80, .tmp 81]) rfl ?_); go_loud (refine wpList_copyK rfl (.tmp 80) (.tmp 81) 22 22 rfl 29 i0 Try.underlying22 hi0 _ _ _ _ _ _ rfl rfl g (i * 3) ⟨gb, 0, none⟩ ?d1 ?d2 _ 29 HG5.out X 1 ?d4 ?d5 ?d6 ?d7 hX1 B w hb5'.out hBg ?_; (case d1 => simp); (case d2 => rfl); (case d4 => (simp only [Nat.min_def]; split <;> omega)); (case d5 => omega); (case d7 => (simp only [List.length_append, List.length_take, List.length_drop, hlen, hLl, hXl]; omega)); (case d6 => (intro j v hj; rw [Addr.add_lit, Nat.zero_add]; exact (cell_at_heap (hk5'.out gb hgne)).trans (hgc'.out j v hj))); intro w6 HG6 hk6 hb6; have hb6' := Aside0.mk hb6; have hk6' := Aside0.mk hk6; clear hk6 hb6))
      go_ret
      refine ⟨_, rfl, hfin'.out _ _ ⟨?_, .inr ⟨g, c, _, rfl, hBg, HG6.out, hnc', hcm, ?_, ?_⟩⟩, hb6'.out, fun k hk hne => (hk6'.out k (fun e => hne (by rw [e]; rfl))).trans (hk5'.out k (fun e => hne (by rw [e]; rfl)))⟩
      · simp only [List.length_append, List.length_take, List.length_drop, hlen, hXl]
        omega
      · simp only [List.size_toArray, List.length_append, List.length_take, List.length_drop, hlen, hLl, hXl]
        omega
      · have h := tail_take2 L X (INN.drop (i * 3)) (i * 3) 3 ((n - i) * 3) hXl (by rw [List.length_drop, hlen]; omega) (by omega)
        rw [show L.take (i * 3) = INN.take (i * 3) by rw [← hLin'.out, List.take_take, Nat.min_eq_left (by omega)]] at h
        rw [show (i + 1) * 3 = i * 3 + 3 by omega, show (n + 1) * 3 = i * 3 + 3 + (n - i) * 3 by omega]
        exact h
/-! IndexFunc with a closure that holds one boxed struct. -/
theorem findIdx_hit {α : Type} {z : α} (l : List α) (p : α → Bool) (k : Nat) (hk : k < l.length) (h1 : p (l.getD k z) = true) (h0 : ∀ j, j < k → p (l.getD ((j : Int).toNat) z) = false) : l.findIdx p = k := by
  rw [List.findIdx_eq hk]
  refine ⟨?_, fun j hj => ?_⟩
  · rw [List.getD_eq_getElem?_getD, List.getElem?_eq_getElem hk] at h1
    exact h1
  · have := h0 j hj
    rw [Int.toNat_natCast, List.getD_eq_getElem?_getD, List.getElem?_eq_getElem (by omega)] at this
    exact this
theorem findIdx_miss {α : Type} {z : α} (l : List α) (p : α → Bool) (h0 : ∀ j, j < l.length → p (l.getD ((j : Int).toNat) z) = false) : l.findIdx p = l.length := by
  rw [List.findIdx_eq_length]
  intro x hx
  obtain ⟨j, hj, rfl⟩ := List.mem_iff_getElem.1 hx
  have := h0 j hj
  rw [Int.toNat_natCast, List.getD_eq_getElem?_getD, List.getElem?_eq_getElem hj] at this
  exact this
def idxOf {α : Type} (p : α → Bool) (l : List α) : Int := if l.findIdx p < l.length then (l.findIdx p : Int) else -1
def gives29 (g gb : Nat) (p : S29 → Bool) (w : World) : Prop :=
  ∀ (W : World) (x : S29), Below w.heap.size w W → Calls Try.prog g #[.agg (enc29 x).toArray, .pointer (some ⟨gb, 0, none⟩)] W fun e w' => e = .returned (.bool (p x)) ∧ Below W.heap.size W w'

set_option maxHeartbeats 8000000 in
set_option maxRecDepth 100000 in
theorem index29.calls (g gb : Nat) (p : S29 → Bool) (A0 : Option Addr) (c0 : Nat) (l0 : List (S29)) (w : World) (hr0 : Kd.C k29 w A0 l0.length l0) (hc0 : l0.length ≤ c0) (hl : l0.length ≤ 9223372036854775807)
    (eg : ∀ args w, (callFunc g args).run Try.prog w = .ok (.enter g args) w) (hp : gives29 g gb p w) :
    Calls Try.prog 29 #[.slice A0 l0.length c0, .func (.func g) #[] #[.pointer (some ⟨gb, 0, none⟩)]] w fun e w' => e = .returned (.int .i64 (idxOf p l0)) ∧ Below w.heap.size w w' := by
  have hu24 := Try.underlying29
  have HR0 := Aside0.mk hr0
  have HP := Aside0.mk hp
  clear hr0 hp
  obtain ⟨n, hn⟩ : ∃ n, n = l0.length := ⟨_, rfl⟩
  have hn' := Aside0.mk hn
  rw [← hn] at hc0 hl ⊢
  clear hn
  go_enter Try.func29, Try.ntmps29
  go_wp2
  go_loopg [5, 8] n (fun gg _ s8 wr => ∃ kk : Nat, kk ≤ n ∧ n - kk ≤ gg ∧ s8 = .int .i64 kk ∧ Aside0 (Below w.heap.size w wr) ∧ Aside0 (∀ j, j < kk → p (rd_T29 l0 (j : Int)) = false))
  case atStart => exact ⟨0, Nat.zero_le _, by omega, rfl, ⟨Below.refl _ w⟩, ⟨fun j hj => absurd hj (Nat.not_lt_zero _)⟩⟩
  case round =>
    obtain ⟨kk, hkk, hg, rfl, BW, A⟩ := hrel
    by_cases hlt : kk < n
    · have hltz : (kk : Int) < (n : Int) := by omega
      obtain ⟨ad, rfl, hx0, hx1, hx2⟩ := at_T29 HR0.out (kk : Int) (by omega) (by rw [← hn'.out]; exact hltz)
      replace hx0 := (BW.out.cell (World.block_lt_of_cell? w _ hx0)).trans hx0
      replace hx1 := (BW.out.cell (World.block_lt_of_cell? w _ hx1)).trans hx1
      replace hx2 := (BW.out.cell (World.block_lt_of_cell? w _ hx2)).trans hx2
      have hcall := HP.out wr (rd_T29 l0 (kk : Int)) BW.out
      obtain ⟨y, hy⟩ : ∃ y, y = rd_T29 l0 (kk : Int) := ⟨_, rfl⟩
      rw [← hy] at hx0 hx1 hx2 hcall
      have hy' := Aside0.mk hy
      clear hy
      have hnn : (kk : Int).toNat = kk := by omega
      rw [hnn] at hx0 hx1 hx2
      have hcall' := Aside0.mk hcall
      clear hcall
      cases hq : p y with
      | true =>
        rw [hq] at hcall'
        go_wp2
        refine hcall'.out.mono ?_
        rintro e w' ⟨rfl, hb'⟩
        have HB2 := Aside0.mk (below_step BW.out hb')
        clear hb'
        dsimp only
        go_wp2
        go_ret
        refine ⟨?_, HB2.out⟩
        have e1 : l0.findIdx p = kk := findIdx_hit (z := z29) l0 p kk (by rw [← hn'.out]; exact hlt) (by show p (rd_T29 l0 ((kk : Nat) : Int)) = true; rw [← hy'.out]; exact hq) (fun j hj => A.out j hj)
        rw [show idxOf p l0 = (kk : Int) by unfold idxOf; rw [e1, if_pos (by rw [← hn'.out]; exact hlt)]]
        rfl
      | false =>
        rw [hq] at hcall'
        go_wp2
        refine hcall'.out.mono ?_
        rintro e w' ⟨rfl, hb'⟩
        have HB2 := Aside0.mk (below_step BW.out hb')
        clear hb'
        dsimp only
        go_wp2
        go_roundg (n - (kk + 1))
        case measure => omega
        case rel =>
          refine ⟨kk + 1, by omega, by omega, by go_num, HB2, ⟨fun j hj => ?_⟩⟩
          by_cases e : j = kk
          · subst e
            rw [← hy'.out]; exact hq
          · exact A.out j (by omega)
    · have hltz : ¬ (kk : Int) < (n : Int) := by omega
      obtain rfl : kk = n := by omega
      go_wp2
      go_ret
      refine ⟨?_, BW.out⟩
      have e1 : l0.findIdx p = l0.length := findIdx_miss (z := z29) l0 p (fun j hj => A.out j (by rw [hn'.out]; exact hj))
      rw [show idxOf p l0 = -1 by unfold idxOf; rw [e1, if_neg (Nat.lt_irrefl _)]]
      rfl
end Go.Proofs.Ytlaagbadhkpjgaa.Q
