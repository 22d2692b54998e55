/- vote.Give: its contract: the goto loop, Clone and Insert. Condition: room for one ballot more. -/
import Derived.Test.YtlaagbadhkpjgaaI
import Derived.Test.YtlaagbadhkpjgaaH
import Derived.ScopeJumps
namespace Go.Proofs.Ytlaagbadhkpjgaa.Q
open Go.RowKit Go.Proofs.YtlaagbadhkpjgaaW.PrintWords Go.Proofs.YtlaagbadhkpjgaaW.PrintLast Go.Proofs.YtlaagbadhkpjgaaW.PrintMore
set_option linter.unusedVariables false
set_option linter.unusedSimpArgs false
/-! vote.Give -/
def intOf : Value → Int | .int _ q => q | _ => 0
/-- As 'wp_scope_jumps', the first way being given what every pass gives. -/
theorem wp_scope_label {P : Program} {a : Act} {w : World} {Q : Exit → Act → World → Prop} {c rest : Code} (l : Nat) (J : Act → World → Prop) (μ : Act → World → Nat) (hf : findLabel c l = some (Code.skip.seq rest))
    (first : (∀ a w, J a w → rest.wp P (Exit.jump l J Q) a w) → c.wp P (Exit.jump l J Q) a w)
    (pass : ∀ a w, J a w → rest.wp P (Exit.jump l (fun a' w' => J a' w' ∧ μ a' w' < μ a w) Q) a w) : (Code.scope c).wp P Q a w :=
  wp_scope_jumps l J μ hf (first fun a w h => wp_mono (pass a w h) (fun e a' w' hq => by cases e <;> first | exact hq | exact ⟨hq.1, hq.2.1⟩)) (fun a w h => wp_seq (wp_skip (pass a w h)))
def G11.T : Bool × List (List Nat × List Nat) := (true, [([], []), ([], []), ([1], [1]), ([0, 2], [0, 2]), ([3], [3]), ([4], [4]), ([4], [4]), ([4], [4]), ([6, 7, 4], [4, 6, 7]), ([8, 4], [4, 8]), ([5, 9, 4, 4], [4, 5, 9]), ([10, 4], [4, 10]), ([4, 11], [4, 11])])
def G11.B : List Nat := [0, 0, 2, 7, 15, 31, 31, 31, 223, 479, 1023, 2047, 4095]
theorem G11.tab : rtab .any (opsOf Try.f14 11) = G11.T := by kernel_rfl
theorem G11.bits : waitsOk G11.T.2 G11.B = true := by kernel_rfl
def G13.T : Bool × List (List Nat × List Nat) := (true, [([], []), ([0], [0]), ([], []), ([], []), ([3], [3]), ([1, 2, 4, 1], [1, 2, 4]), ([5, 5, 0, 1, 2, 3, 4, 5], [5]), ([6, 0, 1, 2, 3, 4, 5, 6], [])])
def G13.B : List Nat := [0, 1, 0, 0, 8, 31, 63, 127]
theorem G13.tab : rtab .any (opsOf Try.f14 13) = G13.T := by kernel_rfl
theorem G13.bits : waitsOk G13.T.2 G13.B = true := by kernel_rfl
def mayV (a r : Int) : Bool := decide (1 ≤ a ∧ a ≤ 64 ∧ 1 ≤ r)
def aheadV (a r : Int) (x : S29) : Bool := decide (r < x.f1) || (r == x.f1 && decide (a < x.f0))
def atV (a r : Int) (x : S29) : Bool := x.f0 == a && x.f1 == r
def findV (l : List S29) (a r : Int) : ByteArray × Bool := match l.find? (atV a r) with | some x => (x.f2, true) | none => ((⟨#[]⟩ : ByteArray), false)
theorem mayV_is (a r : Int) (b : ByteArray) : vote_may.f a r b = some (mayV a r) := by
  unfold vote_may.f mayV
  by_cases h1 : a ≥ 1
  · by_cases h2 : a ≤ 64
    · rw [if_pos h1, if_pos h2]; congr 1; rw [decide_eq_decide]; omega
    · rw [if_pos h1, if_neg h2]; congr 1; symm; rw [decide_eq_false_iff_not]; omega
  · rw [if_neg h1]; congr 1; symm; rw [decide_eq_false_iff_not]; omega
theorem aheadV_is (a r : Int) (b : ByteArray) (x : S29) : vote_ahead.f a r b x.f0 x.f1 x.f2 = some (aheadV a r x) := by
  unfold vote_ahead.f aheadV
  by_cases h1 : r < x.f1
  · simp [h1]
  · by_cases h2 : r = x.f1
    · simp [h1, h2]
    · simp [h1, h2]
theorem find_loop (a r : Int) (l : List S29) (hl : l.length ≤ 9223372036854775806) : ∀ (k i : Nat), i ≤ l.length → l.length - i < k → findE.l0 k a r l (l.length : Int) (i : Int) = some (findV (l.drop i) a r)
  | 0, i, _, h => absurd h (Nat.not_lt_zero _)
  | k + 1, i, hi, h => by
    unfold findE.l0
    by_cases hlt : i < l.length
    · have e : l.drop i = l[i] :: l.drop (i + 1) := List.drop_eq_getElem_cons hlt
      have hr : rd_T29 l (i : Int) = l[i] := by
        show l.getD ((i : Int).toNat) z29 = _
        rw [Int.toNat_natCast, List.getD_eq_getElem?_getD, List.getElem?_eq_getElem hlt]
        rfl
      have hw : wrap64 ((i : Int) + 1) = ((i + 1 : Nat) : Int) := by unfold wrap64; omega
      rw [if_pos (by omega), if_pos (by omega), if_pos (by omega), hr, e, hw]
      have ih := find_loop a r l hl k (i + 1) (by omega) (by omega)
      unfold findV at ih ⊢
      rw [List.find?_cons]
      by_cases h1 : l[i].f0 = a
      · by_cases h2 : l[i].f1 = r
        · rw [if_pos h1, if_pos h2, show atV a r l[i] = true by unfold atV; rw [h1, h2]; simp]
        · rw [if_pos h1, if_neg h2, show atV a r l[i] = false by unfold atV; simp [h2]]
          exact ih
      · rw [if_neg h1, show atV a r l[i] = false by unfold atV; simp [h1]]
        exact ih
    · rw [if_neg (by omega), List.drop_of_length_le (by omega)]
      rfl
theorem find_is (a r : Int) (l : List S29) (hl : l.length ≤ 9223372036854775806) : findE.f (l.length + 1) l a r = some (findV l a r) := by
  have := find_loop a r l hl (l.length + 1) 0 (Nat.zero_le _) (by omega)
  simpa [findE.f] using this
def insV (l : List S29) (a r : Int) (b : ByteArray) : List S29 := l.take (l.findIdx (aheadV a r)) ++ ⟨a, r, b⟩ :: l.drop (l.findIdx (aheadV a r))
def giveV (l : List S29) (low a r : Int) (b : ByteArray) : List S29 × Int :=
  if mayV a r = false then (l, 1) else if r ≤ low then (l, 9) else if (findV l a r).2 = true then (if (findV l a r).1.toList = b.toList then (l, 0) else (l, 13)) else (insV l a r b, 0)
def vote_Give.f (l0 : List (S29)) (a1 : Int) (a2_0 : Int) (a2_1 : Int) (a2_2 : ByteArray) : Option ((List (S29)) × Int) := if (l0.length + 1) * 32 ≤ 140737488355328 then some (giveV l0 a1 a2_0 a2_1 a2_2) else none
theorem ne_of_new {α : Type} {d : Kd α} {e g : Nat} {w w1 : World} {ok : Nat → Prop} {v : Value} {xs : List α} {o : Obj} (h : d.R e w1 w.heap.size ok v xs) (hg : w.heap[g]? = some o) : some g ≠ v.ownBlock := fun he => by
  have h1 := own_base (Kd.R_own h).choose_spec g he.symm
  have h2 := (Array.getElem?_eq_some_iff.1 hg).1
  omega
set_option maxHeartbeats 8000000 in
set_option maxRecDepth 100000 in
theorem vote_Give.calls (P0_ : Nat → Prop) (A0 : Option Addr) (c0 : Nat) (l0 : List (S29)) (a1 : Int) (a2_0 : Int) (a2_1 : Int) (a2_2 : ByteArray) (r1 : List (S29)) (r2 : Int) (w : World) (hs0 : Kd.V k29 29 w w.heap.size (fun k_ => P0_ k_) (.slice A0 l0.length c0) l0) (h : vote_Give.f l0 a1 a2_0 a2_1 a2_2 = some (r1, r2)) :
    Calls Try.prog 14 #[.slice A0 l0.length c0, .int .i64 a1, .agg #[.int .i64 a2_0, .int .i64 a2_1, .string a2_2]] w fun e w' => ∃ v0_ : Value, e = .returned (.tuple #[v0_, .int .i64 r2]) ∧ Kd.V k29 29 w' w.heap.size (fun k_ => (P0_ k_ ∨ w.heap.size ≤ k_)) v0_ r1 ∧ Below w.heap.size w w' := by
  unfold vote_Give.f at h
  have hl : (l0.length + 1) * 32 ≤ 140737488355328 := by
    by_cases hl : (l0.length + 1) * 32 ≤ 140737488355328
    · exact hl
    · rw [if_neg hl] at h
      cases h
  rw [if_pos hl] at h
  have hG : giveV l0 a1 a2_0 a2_1 a2_2 = (r1, r2) := Option.some.inj h
  clear h
  have hu29 := Try.underlying29
  have HV := Aside0.mk hs0
  have HB := Aside0.mk (Below.refl w.heap.size w)
  have hc0 : l0.length ≤ c0 := (Kd.V_reads' hs0).2.1
  have HR := Aside0.mk (Kd.V_reads' hs0).2.2
  clear hs0
  have hl' : l0.length ≤ 9223372036854775806 := by omega
  have stay : ∀ w', Below w.heap.size w w' → Kd.V k29 29 w' w.heap.size (fun k_ => (P0_ k_ ∨ w.heap.size ≤ k_)) (.slice A0 l0.length c0) l0 := fun w' hb => Kd.V_mono (Kd.V_below HV.out hb) (fun _ hk => .inl hk)
  have stay' := Aside0.mk stay
  clear stay
  unfold giveV at hG
  cases hm : mayV a2_0 a2_1 with
  | false =>
    rw [if_pos hm] at hG
    injection hG with e1 e2
    have E1 := Aside0.mk e1
    clear e1
    subst e2
    rw [← E1.out]
    go_enter Try.func14, Try.ntmps14
    go_wp2_with ((with_reducible refine gate_dst (N := 5) rfl ?_); refine box_event ?hg (N := 5) ?hd (cs := #[.int .i64 a2_0, .int .i64 a2_1, .string a2_2]) (t := 29) ?hr ?_; (case hd => rfl); (case hg => rfl); (case hr => first | (go_simp; done) | (go_simp; rfl)); intro g2 hg w2 hbox hb; have BK2 := Aside0.mk hbox; have HG := Aside0.mk (show w.heap.size ≤ g2 by rw [hg]; exact HB.out.size); have HB2 := Aside0.mk (below_step HB.out hb); clear hb hbox hg; have hcell0_w2 : w2.cell? ⟨g2, 0, none⟩ = some (.int .i64 a2_0) := (blk_cell BK2.out 0).trans rfl; have hcell1_w2 : w2.cell? ⟨g2, 1, none⟩ = some (.int .i64 a2_1) := (blk_cell BK2.out 1).trans rfl; have hcell2_w2 : w2.cell? ⟨g2, 2, none⟩ = some (.string a2_2) := (blk_cell BK2.out 2).trans rfl)
    refine wp_scope_jumps 0 (fun _ _ => False) (fun _ _ => 0) rfl ?_ (fun _ _ h => h.elim)
    go_wp2_with (first | ((with_reducible refine gate_callee (f := 10) rfl ?_); refine goesL_ (some 17) rfl rfl Try.func10 (by kernel_rfl) rfl #[.slice A0 l0.length c0, .int .i64 a2_0, .int .i64 a2_1] rfl (by (try simp only [List.map_toArray, List.map_cons, List.map_nil]); first | done | rfl | (simp only [List.length_drop, List.length_take]; rfl)) ?_; refine (findE.calls (l0.length + 1) A0 c0 l0 a2_0 a2_1 (findV l0 a2_0 a2_1).1 (findV l0 a2_0 a2_1).2 w2 (Kd.C_below HR.out HB2.out) hc0 (find_is a2_0 a2_1 l0 hl')).mono ?_; rintro e w3 ⟨rfl, hb3⟩; refine ⟨_, rfl, ?_⟩; have BK3 := Aside0.mk (blk_below BK2.out hb3); have HB3 := Aside0.mk (below_step HB2.out hb3); clear hb3; have hcell0_w3 : w3.cell? ⟨g2, 0, none⟩ = some (.int .i64 a2_0) := (blk_cell BK3.out 0).trans rfl; have hcell1_w3 : w3.cell? ⟨g2, 1, none⟩ = some (.int .i64 a2_1) := (blk_cell BK3.out 1).trans rfl; have hcell2_w3 : w3.cell? ⟨g2, 2, none⟩ = some (.string a2_2) := (blk_cell BK3.out 2).trans rfl; (try rw [hf1.out]); (try rw [hf2.out])) | ((with_reducible refine gate_callee (f := 19) rfl ?_); refine goesL_ (some 22) rfl rfl Try.func19 (by kernel_rfl) rfl #[.agg #[.int .i64 a2_0, .int .i64 a2_1, .string a2_2]] rfl (by (try simp only [List.map_toArray, List.map_cons, List.map_nil]); first | done | rfl | (simp only [List.length_drop, List.length_take]; rfl)) ?_; refine (vote_may.calls a2_0 a2_1 a2_2 false w3 (by rw [mayV_is, hm])).mono ?_; rintro e w4 ⟨rfl, hb4⟩; refine ⟨_, rfl, ?_⟩; have BK4 := Aside0.mk (blk_below BK3.out hb4); have HB4 := Aside0.mk (below_step HB3.out hb4); clear hb4; have hcell0_w4 : w4.cell? ⟨g2, 0, none⟩ = some (.int .i64 a2_0) := (blk_cell BK4.out 0).trans rfl; have hcell1_w4 : w4.cell? ⟨g2, 1, none⟩ = some (.int .i64 a2_1) := (blk_cell BK4.out 1).trans rfl; have hcell2_w4 : w4.cell? ⟨g2, 2, none⟩ = some (.string a2_2) := (blk_cell BK4.out 2).trans rfl))
    simp only [Exit.jump]
    go_ret2
    exact ⟨_, rfl, stay'.out _ HB4.out, HB4.out⟩
  | true =>
    rw [if_neg (by rw [hm]; decide)] at hG
    by_cases hlow : a2_1 ≤ a1
    · rw [if_pos hlow] at hG
      injection hG with e1 e2
      have E1 := Aside0.mk e1
      clear e1
      subst e2
      rw [← E1.out]
      have hlow' : decide (a2_1 ≤ a1) = true := decide_eq_true hlow
      go_enter Try.func14, Try.ntmps14
      go_wp2_with ((with_reducible refine gate_dst (N := 5) rfl ?_); refine box_event ?hg (N := 5) ?hd (cs := #[.int .i64 a2_0, .int .i64 a2_1, .string a2_2]) (t := 29) ?hr ?_; (case hd => rfl); (case hg => rfl); (case hr => first | (go_simp; done) | (go_simp; rfl)); intro g2 hg w2 hbox hb; have BK2 := Aside0.mk hbox; have HG := Aside0.mk (show w.heap.size ≤ g2 by rw [hg]; exact HB.out.size); have HB2 := Aside0.mk (below_step HB.out hb); clear hb hbox hg; have hcell0_w2 : w2.cell? ⟨g2, 0, none⟩ = some (.int .i64 a2_0) := (blk_cell BK2.out 0).trans rfl; have hcell1_w2 : w2.cell? ⟨g2, 1, none⟩ = some (.int .i64 a2_1) := (blk_cell BK2.out 1).trans rfl; have hcell2_w2 : w2.cell? ⟨g2, 2, none⟩ = some (.string a2_2) := (blk_cell BK2.out 2).trans rfl)
      refine wp_scope_jumps 0 (fun _ _ => False) (fun _ _ => 0) rfl ?_ (fun _ _ h => h.elim)
      go_wp2_with (first | ((with_reducible refine gate_callee (f := 10) rfl ?_); refine goesL_ (some 17) rfl rfl Try.func10 (by kernel_rfl) rfl #[.slice A0 l0.length c0, .int .i64 a2_0, .int .i64 a2_1] rfl (by (try simp only [List.map_toArray, List.map_cons, List.map_nil]); first | done | rfl | (simp only [List.length_drop, List.length_take]; rfl)) ?_; refine (findE.calls (l0.length + 1) A0 c0 l0 a2_0 a2_1 (findV l0 a2_0 a2_1).1 (findV l0 a2_0 a2_1).2 w2 (Kd.C_below HR.out HB2.out) hc0 (find_is a2_0 a2_1 l0 hl')).mono ?_; rintro e w3 ⟨rfl, hb3⟩; refine ⟨_, rfl, ?_⟩; have BK3 := Aside0.mk (blk_below BK2.out hb3); have HB3 := Aside0.mk (below_step HB2.out hb3); clear hb3; have hcell0_w3 : w3.cell? ⟨g2, 0, none⟩ = some (.int .i64 a2_0) := (blk_cell BK3.out 0).trans rfl; have hcell1_w3 : w3.cell? ⟨g2, 1, none⟩ = some (.int .i64 a2_1) := (blk_cell BK3.out 1).trans rfl; have hcell2_w3 : w3.cell? ⟨g2, 2, none⟩ = some (.string a2_2) := (blk_cell BK3.out 2).trans rfl; (try rw [hf1.out]); (try rw [hf2.out])) | ((with_reducible refine gate_callee (f := 19) rfl ?_); refine goesL_ (some 22) rfl rfl Try.func19 (by kernel_rfl) rfl #[.agg #[.int .i64 a2_0, .int .i64 a2_1, .string a2_2]] rfl (by (try simp only [List.map_toArray, List.map_cons, List.map_nil]); first | done | rfl | (simp only [List.length_drop, List.length_take]; rfl)) ?_; refine (vote_may.calls a2_0 a2_1 a2_2 true w3 (by rw [mayV_is, hm])).mono ?_; rintro e w4 ⟨rfl, hb4⟩; refine ⟨_, rfl, ?_⟩; have BK4 := Aside0.mk (blk_below BK3.out hb4); have HB4 := Aside0.mk (below_step HB3.out hb4); clear hb4; have hcell0_w4 : w4.cell? ⟨g2, 0, none⟩ = some (.int .i64 a2_0) := (blk_cell BK4.out 0).trans rfl; have hcell1_w4 : w4.cell? ⟨g2, 1, none⟩ = some (.int .i64 a2_1) := (blk_cell BK4.out 1).trans rfl; have hcell2_w4 : w4.cell? ⟨g2, 2, none⟩ = some (.string a2_2) := (blk_cell BK4.out 2).trans rfl))
      simp only [Exit.jump]
      go_ret2
      exact ⟨_, rfl, stay'.out _ HB4.out, HB4.out⟩
    · rw [if_neg hlow] at hG
      have hlow' : decide (a2_1 ≤ a1) = false := decide_eq_false hlow
      obtain ⟨fd, hfd⟩ : ∃ fd, (findV l0 a2_0 a2_1).1 = fd := ⟨_, rfl⟩
      have hf1 := Aside0.mk hfd
      rw [hfd] at hG
      clear hfd
      cases hf : (findV l0 a2_0 a2_1).2 with
      | true =>
        rw [if_pos hf] at hG
        have hf2 := Aside0.mk hf
        clear hf
        by_cases hd : fd.toList = a2_2.toList
        · rw [if_pos hd] at hG
          injection hG with e1 e2
          have E1 := Aside0.mk e1
          clear e1
          subst e2
          rw [← E1.out]
          have hd1 : (fd.toList == a2_2.toList) = true := beq_iff_eq.2 hd
          have hd2 : (fd.toList != a2_2.toList) = false := by rw [bne, hd1]; rfl
          go_enter Try.func14, Try.ntmps14
          go_wp2_with ((with_reducible refine gate_dst (N := 5) rfl ?_); refine box_event ?hg (N := 5) ?hd (cs := #[.int .i64 a2_0, .int .i64 a2_1, .string a2_2]) (t := 29) ?hr ?_; (case hd => rfl); (case hg => rfl); (case hr => first | (go_simp; done) | (go_simp; rfl)); intro g2 hg w2 hbox hb; have BK2 := Aside0.mk hbox; have HG := Aside0.mk (show w.heap.size ≤ g2 by rw [hg]; exact HB.out.size); have HB2 := Aside0.mk (below_step HB.out hb); clear hb hbox hg; have hcell0_w2 : w2.cell? ⟨g2, 0, none⟩ = some (.int .i64 a2_0) := (blk_cell BK2.out 0).trans rfl; have hcell1_w2 : w2.cell? ⟨g2, 1, none⟩ = some (.int .i64 a2_1) := (blk_cell BK2.out 1).trans rfl; have hcell2_w2 : w2.cell? ⟨g2, 2, none⟩ = some (.string a2_2) := (blk_cell BK2.out 2).trans rfl)
          refine wp_scope_jumps 0 (fun _ _ => False) (fun _ _ => 0) rfl ?_ (fun _ _ h => h.elim)
          go_wp2_with (first | ((with_reducible refine gate_callee (f := 10) rfl ?_); refine goesL_ (some 17) rfl rfl Try.func10 (by kernel_rfl) rfl #[.slice A0 l0.length c0, .int .i64 a2_0, .int .i64 a2_1] rfl (by (try simp only [List.map_toArray, List.map_cons, List.map_nil]); first | done | rfl | (simp only [List.length_drop, List.length_take]; rfl)) ?_; refine (findE.calls (l0.length + 1) A0 c0 l0 a2_0 a2_1 (findV l0 a2_0 a2_1).1 (findV l0 a2_0 a2_1).2 w2 (Kd.C_below HR.out HB2.out) hc0 (find_is a2_0 a2_1 l0 hl')).mono ?_; rintro e w3 ⟨rfl, hb3⟩; refine ⟨_, rfl, ?_⟩; have BK3 := Aside0.mk (blk_below BK2.out hb3); have HB3 := Aside0.mk (below_step HB2.out hb3); clear hb3; have hcell0_w3 : w3.cell? ⟨g2, 0, none⟩ = some (.int .i64 a2_0) := (blk_cell BK3.out 0).trans rfl; have hcell1_w3 : w3.cell? ⟨g2, 1, none⟩ = some (.int .i64 a2_1) := (blk_cell BK3.out 1).trans rfl; have hcell2_w3 : w3.cell? ⟨g2, 2, none⟩ = some (.string a2_2) := (blk_cell BK3.out 2).trans rfl; (try rw [hf1.out]); (try rw [hf2.out])) | ((with_reducible refine gate_callee (f := 19) rfl ?_); refine goesL_ (some 22) rfl rfl Try.func19 (by kernel_rfl) rfl #[.agg #[.int .i64 a2_0, .int .i64 a2_1, .string a2_2]] rfl (by (try simp only [List.map_toArray, List.map_cons, List.map_nil]); first | done | rfl | (simp only [List.length_drop, List.length_take]; rfl)) ?_; refine (vote_may.calls a2_0 a2_1 a2_2 true w3 (by rw [mayV_is, hm])).mono ?_; rintro e w4 ⟨rfl, hb4⟩; refine ⟨_, rfl, ?_⟩; have BK4 := Aside0.mk (blk_below BK3.out hb4); have HB4 := Aside0.mk (below_step HB3.out hb4); clear hb4; have hcell0_w4 : w4.cell? ⟨g2, 0, none⟩ = some (.int .i64 a2_0) := (blk_cell BK4.out 0).trans rfl; have hcell1_w4 : w4.cell? ⟨g2, 1, none⟩ = some (.int .i64 a2_1) := (blk_cell BK4.out 1).trans rfl; have hcell2_w4 : w4.cell? ⟨g2, 2, none⟩ = some (.string a2_2) := (blk_cell BK4.out 2).trans rfl))
          simp only [Exit.jump]
          go_ret2
          exact ⟨_, rfl, stay'.out _ HB4.out, HB4.out⟩
        · rw [if_neg hd] at hG
          injection hG with e1 e2
          have E1 := Aside0.mk e1
          clear e1
          subst e2
          rw [← E1.out]
          have hd1 : (fd.toList == a2_2.toList) = false := beq_eq_false_iff_ne.2 hd
          have hd2 : (fd.toList != a2_2.toList) = true := by rw [bne, hd1]; rfl
          go_enter Try.func14, Try.ntmps14
          go_wp2_with ((with_reducible refine gate_dst (N := 5) rfl ?_); refine box_event ?hg (N := 5) ?hd (cs := #[.int .i64 a2_0, .int .i64 a2_1, .string a2_2]) (t := 29) ?hr ?_; (case hd => rfl); (case hg => rfl); (case hr => first | (go_simp; done) | (go_simp; rfl)); intro g2 hg w2 hbox hb; have BK2 := Aside0.mk hbox; have HG := Aside0.mk (show w.heap.size ≤ g2 by rw [hg]; exact HB.out.size); have HB2 := Aside0.mk (below_step HB.out hb); clear hb hbox hg; have hcell0_w2 : w2.cell? ⟨g2, 0, none⟩ = some (.int .i64 a2_0) := (blk_cell BK2.out 0).trans rfl; have hcell1_w2 : w2.cell? ⟨g2, 1, none⟩ = some (.int .i64 a2_1) := (blk_cell BK2.out 1).trans rfl; have hcell2_w2 : w2.cell? ⟨g2, 2, none⟩ = some (.string a2_2) := (blk_cell BK2.out 2).trans rfl)
          refine wp_scope_jumps 0 (fun _ _ => False) (fun _ _ => 0) rfl ?_ (fun _ _ h => h.elim)
          go_wp2_with (first | ((with_reducible refine gate_callee (f := 10) rfl ?_); refine goesL_ (some 17) rfl rfl Try.func10 (by kernel_rfl) rfl #[.slice A0 l0.length c0, .int .i64 a2_0, .int .i64 a2_1] rfl (by (try simp only [List.map_toArray, List.map_cons, List.map_nil]); first | done | rfl | (simp only [List.length_drop, List.length_take]; rfl)) ?_; refine (findE.calls (l0.length + 1) A0 c0 l0 a2_0 a2_1 (findV l0 a2_0 a2_1).1 (findV l0 a2_0 a2_1).2 w2 (Kd.C_below HR.out HB2.out) hc0 (find_is a2_0 a2_1 l0 hl')).mono ?_; rintro e w3 ⟨rfl, hb3⟩; refine ⟨_, rfl, ?_⟩; have BK3 := Aside0.mk (blk_below BK2.out hb3); have HB3 := Aside0.mk (below_step HB2.out hb3); clear hb3; have hcell0_w3 : w3.cell? ⟨g2, 0, none⟩ = some (.int .i64 a2_0) := (blk_cell BK3.out 0).trans rfl; have hcell1_w3 : w3.cell? ⟨g2, 1, none⟩ = some (.int .i64 a2_1) := (blk_cell BK3.out 1).trans rfl; have hcell2_w3 : w3.cell? ⟨g2, 2, none⟩ = some (.string a2_2) := (blk_cell BK3.out 2).trans rfl; (try rw [hf1.out]); (try rw [hf2.out])) | ((with_reducible refine gate_callee (f := 19) rfl ?_); refine goesL_ (some 22) rfl rfl Try.func19 (by kernel_rfl) rfl #[.agg #[.int .i64 a2_0, .int .i64 a2_1, .string a2_2]] rfl (by (try simp only [List.map_toArray, List.map_cons, List.map_nil]); first | done | rfl | (simp only [List.length_drop, List.length_take]; rfl)) ?_; refine (vote_may.calls a2_0 a2_1 a2_2 true w3 (by rw [mayV_is, hm])).mono ?_; rintro e w4 ⟨rfl, hb4⟩; refine ⟨_, rfl, ?_⟩; have BK4 := Aside0.mk (blk_below BK3.out hb4); have HB4 := Aside0.mk (below_step HB3.out hb4); clear hb4; have hcell0_w4 : w4.cell? ⟨g2, 0, none⟩ = some (.int .i64 a2_0) := (blk_cell BK4.out 0).trans rfl; have hcell1_w4 : w4.cell? ⟨g2, 1, none⟩ = some (.int .i64 a2_1) := (blk_cell BK4.out 1).trans rfl; have hcell2_w4 : w4.cell? ⟨g2, 2, none⟩ = some (.string a2_2) := (blk_cell BK4.out 2).trans rfl))
          simp only [Exit.jump]
          go_ret2
          exact ⟨_, rfl, stay'.out _ HB4.out, HB4.out⟩
      | false =>
        rw [if_neg (by rw [hf]; decide)] at hG
        have hf2 := Aside0.mk hf
        clear hf
        injection hG with e1 e2
        have E1 := Aside0.mk e1
        clear e1
        subst e2
        go_enter Try.func14, Try.ntmps14
        go_wp2_with ((with_reducible refine gate_dst (N := 5) rfl ?_); refine box_event ?hg (N := 5) ?hd (cs := #[.int .i64 a2_0, .int .i64 a2_1, .string a2_2]) (t := 29) ?hr ?_; (case hd => rfl); (case hg => rfl); (case hr => first | (go_simp; done) | (go_simp; rfl)); intro g2 hg w2 hbox hb; have BK2 := Aside0.mk hbox; have HG := Aside0.mk (show w.heap.size ≤ g2 by rw [hg]; exact HB.out.size); have HB2 := Aside0.mk (below_step HB.out hb); clear hb hbox hg; have hcell0_w2 : w2.cell? ⟨g2, 0, none⟩ = some (.int .i64 a2_0) := (blk_cell BK2.out 0).trans rfl; have hcell1_w2 : w2.cell? ⟨g2, 1, none⟩ = some (.int .i64 a2_1) := (blk_cell BK2.out 1).trans rfl; have hcell2_w2 : w2.cell? ⟨g2, 2, none⟩ = some (.string a2_2) := (blk_cell BK2.out 2).trans rfl)
        have hgw : w.heap.size ≤ g2 := HG.out
        refine wp_scope_label 0 (fun a' w' => ∃ (m : Nat) (u8 u9 u11 u12 u13 u14 u15 u16 u17 u18 u19 u20 u21 u22 u23 u24 u25 u26 u27 u28 u29 u30 u31 u32 u33 u34 u35 u36 u37 u38 u39 u40 u41 u42 u43 u44 u45 u46 u47 u48 u49 u50 u51 u52 u53 u54 u55 u56 u57 u58 u59 u60 u61 u62 u63 : Value), a' = { tmps := #[.slice A0 l0.length c0, .int .i64 a1, .agg #[.int .i64 a2_0, .int .i64 a2_1, .string a2_2], undef, undef, .pointer (some ⟨g2, 0, none⟩), .slice none 0 0, .int .i64 0, u8, u9, .int .i64 (m : Nat), u11, u12, u13, u14, u15, u16, u17, u18, u19, u20, u21, u22, u23, u24, u25, u26, u27, u28, u29, u30, u31, u32, u33, u34, u35, u36, u37, u38, u39, u40, u41, u42, u43, u44, u45, u46, u47, u48, u49, u50, u51, u52, u53, u54, u55, u56, u57, u58, u59, u60, u61, u62, u63], defers := [] } ∧ m ≤ l0.length ∧ Aside0 (∀ j, j < m → aheadV a2_0 a2_1 (rd_T29 l0 ((j : Nat) : Int)) = false) ∧ Aside0 (w'.heap[g2]? = some (.cells #[.int .i64 a2_0, .int .i64 a2_1, .string a2_2] 29 (0, 0))) ∧ Aside0 (Below w.heap.size w w')) (fun a' _ => l0.length - (intOf (a'.tmps.getD 10 undef)).toNat) rfl ?_ ?_
        · intro hpass
          go_wp2_with (first | ((with_reducible refine gate_callee (f := 10) rfl ?_); refine goesL_ (some 17) rfl rfl Try.func10 (by kernel_rfl) rfl #[.slice A0 l0.length c0, .int .i64 a2_0, .int .i64 a2_1] rfl (by (try simp only [List.map_toArray, List.map_cons, List.map_nil]); first | done | rfl | (simp only [List.length_drop, List.length_take]; rfl)) ?_; refine (findE.calls (l0.length + 1) A0 c0 l0 a2_0 a2_1 (findV l0 a2_0 a2_1).1 (findV l0 a2_0 a2_1).2 w2 (Kd.C_below HR.out HB2.out) hc0 (find_is a2_0 a2_1 l0 hl')).mono ?_; rintro e w3 ⟨rfl, hb3⟩; refine ⟨_, rfl, ?_⟩; have BK3 := Aside0.mk (blk_below BK2.out hb3); have HB3 := Aside0.mk (below_step HB2.out hb3); clear hb3; have hcell0_w3 : w3.cell? ⟨g2, 0, none⟩ = some (.int .i64 a2_0) := (blk_cell BK3.out 0).trans rfl; have hcell1_w3 : w3.cell? ⟨g2, 1, none⟩ = some (.int .i64 a2_1) := (blk_cell BK3.out 1).trans rfl; have hcell2_w3 : w3.cell? ⟨g2, 2, none⟩ = some (.string a2_2) := (blk_cell BK3.out 2).trans rfl; (try rw [hf1.out]); (try rw [hf2.out])) | ((with_reducible refine gate_callee (f := 19) rfl ?_); refine goesL_ (some 22) rfl rfl Try.func19 (by kernel_rfl) rfl #[.agg #[.int .i64 a2_0, .int .i64 a2_1, .string a2_2]] rfl (by (try simp only [List.map_toArray, List.map_cons, List.map_nil]); first | done | rfl | (simp only [List.length_drop, List.length_take]; rfl)) ?_; refine (vote_may.calls a2_0 a2_1 a2_2 true w3 (by rw [mayV_is, hm])).mono ?_; rintro e w4 ⟨rfl, hb4⟩; refine ⟨_, rfl, ?_⟩; have BK4 := Aside0.mk (blk_below BK3.out hb4); have HB4 := Aside0.mk (below_step HB3.out hb4); clear hb4; have hcell0_w4 : w4.cell? ⟨g2, 0, none⟩ = some (.int .i64 a2_0) := (blk_cell BK4.out 0).trans rfl; have hcell1_w4 : w4.cell? ⟨g2, 1, none⟩ = some (.int .i64 a2_1) := (blk_cell BK4.out 1).trans rfl; have hcell2_w4 : w4.cell? ⟨g2, 2, none⟩ = some (.string a2_2) := (blk_cell BK4.out 2).trans rfl))
          refine wp_label ?_
          rename_i hK
          refine hK _ _ ?_
          refine hpass _ _ ?_
          exact ⟨0, _, _, _, _, _, _, _, _, _, _, _, _, _, _, _, _, _, _, _, _, _, _, _, _, _, _, _, _, _, _, _, _, _, _, _, _, _, _, _, _, _, _, _, _, _, _, _, _, _, _, _, _, _, _, _, rfl, Nat.zero_le _, ⟨fun j hj => absurd hj (Nat.not_lt_zero _)⟩, BK4, HB4⟩
        · rintro a' w' ⟨m, u8, u9, u11, u12, u13, u14, u15, u16, u17, u18, u19, u20, u21, u22, u23, u24, u25, u26, u27, u28, u29, u30, u31, u32, u33, u34, u35, u36, u37, u38, u39, u40, u41, u42, u43, u44, u45, u46, u47, u48, u49, u50, u51, u52, u53, u54, u55, u56, u57, u58, u59, u60, u61, u62, u63, rfl, hmn, HA, BK, HB'⟩
          by_cases hlt : m < l0.length
          · have hltz : (m : Int) < (l0.length : Int) := by omega
            obtain ⟨ad, rfl, hw0, hw1, hw2⟩ := at_T29 HR.out (m : Int) (by omega) hltz
            have hnn : (m : Int).toNat = m := by omega
            rw [hnn] at hw0 hw1 hw2
            obtain ⟨y, hy⟩ : ∃ y, y = rd_T29 l0 (m : Int) := ⟨_, rfl⟩
            rw [← hy] at hw0 hw1 hw2
            have hy' := Aside0.mk hy
            clear hy
            have hd0 : decide ((m : Int) < (l0.length : Int)) = true := decide_eq_true hltz
            have hp0 : (0 ≤ (m : Int)) = True := eq_true (by omega)
            have hp1 : ((m : Int) < (l0.length : Int)) = True := eq_true hltz
            have hw : IntKind.i64.wrap ((m : Int) + 1) = (m : Int) + 1 := by rw [IntKind.wrap_i64]; omega
            cases hq : aheadV a2_0 a2_1 y with
            | false =>
              go_wp2
              refine start_ (n := 13) (S := fun w' => w'.cell? ⟨g2, 0, none⟩ = some (.int .i64 a2_0) ∧ w'.cell? ⟨g2, 1, none⟩ = some (.int .i64 a2_1) ∧ w'.cell? ⟨g2, 2, none⟩ = some (.string a2_2) ∧ w'.cell? (ad.add (m * 3)) = some (.int .i64 y.f0) ∧ w'.cell? ⟨(ad.add (m * 3)).block, (ad.add (m * 3)).off + 1, none⟩ = some (.int .i64 y.f1) ∧ w'.cell? ⟨(ad.add (m * 3)).block, (ad.add (m * 3)).off + 2, none⟩ = some (.string y.f2)) (ds := []) #[false, false, false, false, false, false, false, false, false, false, false, false, false] (by kernel_rfl) rfl rfl ⟨(blk_cell (blk_drew BK.out) 0).trans rfl, (blk_cell (blk_drew BK.out) 1).trans rfl, (blk_cell (blk_drew BK.out) 2).trans rfl, ((below_drew HB'.out).cell (World.block_lt_of_cell? w _ hw0)).trans hw0, ((below_drew HB'.out).cell (World.block_lt_of_cell? w _ hw1)).trans hw1, ((below_drew HB'.out).cell (World.block_lt_of_cell? w _ hw2)).trans hw2⟩ (fun hHeld => ?_); refine with_tabW G11.tab G11.bits (fun HT_ HW_ => ?_)
              refine pure_ (i := 0) (N := some 43) (v := ?_) (a' := ?_) #[true, false, false, false, false, false, false, false, false, false, false, false, false] rfl rfl (any_of HT_.out (by kernel_rfl)) (fun _ _ _ h => h) (Or.inl ⟨by rfl, ?_⟩) ?_ ?_
              rotate_left
              · intro w'
                go_simp
                with_reducible rfl
              rotate_left
              · simp only [Act.put, List.setIfInBounds_toArray, List.set_cons_zero, List.set_cons_succ, i64_w, i32_w]
                rfl
              refine pure_ (i := 1) (N := some 44) (v := ?_) (a' := ?_) #[true, true, false, false, false, false, false, false, false, false, false, false, false] rfl rfl (any_of HT_.out (by kernel_rfl)) (fun _ _ _ h => h) (Or.inl ⟨by rfl, ?_⟩) ?_ ?_
              rotate_left
              · intro w'
                go_simp
                with_reducible rfl
              rotate_left
              · simp only [Act.put, List.setIfInBounds_toArray, List.set_cons_zero, List.set_cons_succ, i64_w, i32_w]
                rfl
              refine pure_ (i := 2) (N := some 45) (v := ?_) (a' := ?_) #[true, true, true, false, false, false, false, false, false, false, false, false, false] rfl rfl (any_of HT_.out (by kernel_rfl)) (fun _ _ _ h => h) (Or.inl ⟨by rfl, ?_⟩) ?_ ?_
              rotate_left
              · intro w'
                go_simp
                with_reducible rfl
              rotate_left
              · simp only [Act.put, List.setIfInBounds_toArray, List.set_cons_zero, List.set_cons_succ, i64_w, i32_w]
                rfl
              refine pure_ (i := 3) (N := some 46) (v := ?_) (a' := ?_) #[true, true, true, true, false, false, false, false, false, false, false, false, false] rfl rfl (any_of HT_.out (by kernel_rfl)) (fun _ _ _ h => h) (Or.inl ⟨by rfl, ?_⟩) ?_ ?_
              rotate_left
              · intro w'
                go_simp
                with_reducible rfl
              rotate_left
              · simp only [Act.put, List.setIfInBounds_toArray, List.set_cons_zero, List.set_cons_succ, i64_w, i32_w]
                rfl
              refine pure_ (i := 4) (N := some 47) (v := ?_) (a' := ?_) #[true, true, true, true, true, false, false, false, false, false, false, false, false] rfl rfl (any_of HT_.out (by kernel_rfl)) (fun _ _ _ h => h) (Or.inl ⟨by rfl, ?_⟩) ?_ ?_
              rotate_left
              · intro w'
                go_simp
                with_reducible rfl
              rotate_left
              · simp only [Act.put, List.setIfInBounds_toArray, List.set_cons_zero, List.set_cons_succ, i64_w, i32_w]
                rfl
              refine take_ (i := 5) (N := some 48) (v := ?_) (a' := ?_) #[true, true, true, true, true, true, false, false, false, false, false, false, false] rfl rfl (take_ofW HT_.out HW_.out (by kernel_rfl)) (fun _ _ _ h => h) (Or.inl ⟨by rfl, ?_⟩) hHeld ?_ ?_
              rotate_left
              · rintro w' ⟨s0, s1, s2, s3, s4, s5⟩
                go_simp
                with_reducible rfl
              rotate_left
              · simp only [Act.put, List.setIfInBounds_toArray, List.set_cons_zero, List.set_cons_succ, i64_w, i32_w]
                rfl
              refine pure_ (i := 6) (N := some 49) (v := ?_) (a' := ?_) #[true, true, true, true, true, true, true, false, false, false, false, false, false] rfl rfl (any_of HT_.out (by kernel_rfl)) (fun _ _ _ h => h) (Or.inl ⟨by rfl, ?_⟩) ?_ ?_
              rotate_left
              · intro w'
                go_simp
                with_reducible rfl
              rotate_left
              · simp only [Act.put, List.setIfInBounds_toArray, List.set_cons_zero, List.set_cons_succ, i64_w, i32_w]
                rfl
              refine pure_ (i := 7) (N := some 50) (v := ?_) (a' := ?_) #[true, true, true, true, true, true, true, true, false, false, false, false, false] rfl rfl (any_of HT_.out (by kernel_rfl)) (fun _ _ _ h => h) (Or.inl ⟨by rfl, ?_⟩) ?_ ?_
              rotate_left
              · intro w'
                go_simp
                with_reducible rfl
              rotate_left
              · simp only [Act.put, List.setIfInBounds_toArray, List.set_cons_zero, List.set_cons_succ, i64_w, i32_w]
                rfl
              refine pure_ (i := 8) (N := some 51) (v := ?_) (a' := ?_) #[true, true, true, true, true, true, true, true, true, false, false, false, false] rfl rfl (any_of HT_.out (by kernel_rfl)) (fun _ _ _ h => h) (Or.inl ⟨by rfl, ?_⟩) ?_ ?_
              rotate_left
              · intro w'
                go_simp
                with_reducible rfl
              rotate_left
              · simp only [Act.put, List.setIfInBounds_toArray, List.set_cons_zero, List.set_cons_succ, i64_w, i32_w]
                rfl
              refine take_ (i := 9) (N := some 52) (v := ?_) (a' := ?_) #[true, true, true, true, true, true, true, true, true, true, false, false, false] rfl rfl (take_ofW HT_.out HW_.out (by kernel_rfl)) (fun _ _ _ h => h) (Or.inl ⟨by rfl, ?_⟩) hHeld ?_ ?_
              rotate_left
              · rintro w' ⟨s0, s1, s2, s3, s4, s5⟩
                go_simp
                with_reducible rfl
              rotate_left
              · simp only [Act.put, List.setIfInBounds_toArray, List.set_cons_zero, List.set_cons_succ, i64_w, i32_w]
                rfl
              refine one_ (i := 10) (N := some 53) #[true, true, true, true, true, true, true, true, true, true, true, false, false] rfl rfl (one_of HT_.out (by kernel_rfl)) (by decide) (fun K hK => ?_)
              refine goes_ Try.func20 (by kernel_rfl) rfl #[.agg #[.int .i64 a2_0, .int .i64 a2_1, .string a2_2], .agg #[.int .i64 y.f0, .int .i64 y.f1, .string y.f2]] (by rfl) rfl rfl (by (try simp only [List.map_toArray, List.map_cons, List.map_nil]); first | done | rfl | (simp only [List.length_drop, List.length_take]; rfl)) ?_
              refine (vote_ahead.calls a2_0 a2_1 a2_2 y.f0 y.f1 y.f2 false _ (by rw [aheadV_is, hq])).mono ?_
              rintro e wa ⟨rfl, hba⟩
              refine ⟨_, rfl, ?_⟩
              have BKa := Aside0.mk (blk_below (blk_drew BK.out) hba)
              have HBa := Aside0.mk (below_step (below_drew HB'.out) hba)
              clear hba
              refine hK.out _ _ ⟨(blk_cell BKa.out 0).trans rfl, (blk_cell BKa.out 1).trans rfl, (blk_cell BKa.out 2).trans rfl, ((HBa.out).cell (World.block_lt_of_cell? w _ hw0)).trans hw0, ((HBa.out).cell (World.block_lt_of_cell? w _ hw1)).trans hw1, ((HBa.out).cell (World.block_lt_of_cell? w _ hw2)).trans hw2⟩ (fun hHeld => ?_)
              clear hK K
              refine norm_ (a' := ?_) ?_ ?_
              rotate_left
              · show Act.put _ (some 53) _ = _
                simp only [Act.put, List.setIfInBounds_toArray, List.set_cons_zero, List.set_cons_succ, i64_w, i32_w]
                rfl
              refine pure_ (i := 11) (N := some 54) (v := ?_) (a' := ?_) #[true, true, true, true, true, true, true, true, true, true, true, true, false] rfl rfl (any_of HT_.out (by kernel_rfl)) (fun _ _ _ h => h) (Or.inl ⟨by rfl, ?_⟩) ?_ ?_
              rotate_left
              · intro w'
                go_simp
                with_reducible rfl
              rotate_left
              · simp only [Act.put, List.setIfInBounds_toArray, List.set_cons_zero, List.set_cons_succ, i64_w, i32_w]
                rfl
              refine pure_ (i := 12) (N := some 55) (v := ?_) (a' := ?_) #[true, true, true, true, true, true, true, true, true, true, true, true, true] rfl rfl (any_of HT_.out (by kernel_rfl)) (fun _ _ _ h => h) (Or.inl ⟨by rfl, ?_⟩) ?_ ?_
              rotate_left
              · intro w'
                go_simp
                with_reducible rfl
              rotate_left
              · simp only [Act.put, List.setIfInBounds_toArray, List.set_cons_zero, List.set_cons_succ, i64_w, i32_w]
                rfl
              refine done_ (done_of HT_.out (by kernel_rfl)) ?_
              go_wp2
              go_step3
              refine ⟨rfl, ⟨m + 1, _, _, _, _, _, _, _, _, _, _, _, _, _, _, _, _, _, _, _, _, _, _, _, _, _, _, _, _, _, _, _, _, _, _, _, _, _, _, _, _, _, _, _, _, _, _, _, _, _, _, _, _, _, _, _, rfl, hlt, ⟨fun j hj => ?_⟩, BKa, HBa⟩, ?_⟩
              · by_cases e : j = m
                · subst e
                  rw [← hy'.out]; exact hq
                · exact HA.out j (by omega)
              · show l0.length - (intOf (Value.int .i64 _)).toNat < l0.length - (intOf (Value.int .i64 _)).toNat
                simp only [intOf]
                omega
            | true =>
              have hfi : l0.findIdx (aheadV a2_0 a2_1) = m := findIdx_hit (z := z29) l0 _ m hlt (by show aheadV a2_0 a2_1 (rd_T29 l0 ((m : Nat) : Int)) = true; rw [← hy'.out]; exact hq) (fun j hj => HA.out j hj)
              go_wp2
              refine start_ (n := 13) (S := fun w' => w'.cell? ⟨g2, 0, none⟩ = some (.int .i64 a2_0) ∧ w'.cell? ⟨g2, 1, none⟩ = some (.int .i64 a2_1) ∧ w'.cell? ⟨g2, 2, none⟩ = some (.string a2_2) ∧ w'.cell? (ad.add (m * 3)) = some (.int .i64 y.f0) ∧ w'.cell? ⟨(ad.add (m * 3)).block, (ad.add (m * 3)).off + 1, none⟩ = some (.int .i64 y.f1) ∧ w'.cell? ⟨(ad.add (m * 3)).block, (ad.add (m * 3)).off + 2, none⟩ = some (.string y.f2)) (ds := []) #[false, false, false, false, false, false, false, false, false, false, false, false, false] (by kernel_rfl) rfl rfl ⟨(blk_cell (blk_drew BK.out) 0).trans rfl, (blk_cell (blk_drew BK.out) 1).trans rfl, (blk_cell (blk_drew BK.out) 2).trans rfl, ((below_drew HB'.out).cell (World.block_lt_of_cell? w _ hw0)).trans hw0, ((below_drew HB'.out).cell (World.block_lt_of_cell? w _ hw1)).trans hw1, ((below_drew HB'.out).cell (World.block_lt_of_cell? w _ hw2)).trans hw2⟩ (fun hHeld => ?_); refine with_tabW G11.tab G11.bits (fun HT_ HW_ => ?_)
              refine pure_ (i := 0) (N := some 43) (v := ?_) (a' := ?_) #[true, false, false, false, false, false, false, false, false, false, false, false, false] rfl rfl (any_of HT_.out (by kernel_rfl)) (fun _ _ _ h => h) (Or.inl ⟨by rfl, ?_⟩) ?_ ?_
              rotate_left
              · intro w'
                go_simp
                with_reducible rfl
              rotate_left
              · simp only [Act.put, List.setIfInBounds_toArray, List.set_cons_zero, List.set_cons_succ, i64_w, i32_w]
                rfl
              refine pure_ (i := 1) (N := some 44) (v := ?_) (a' := ?_) #[true, true, false, false, false, false, false, false, false, false, false, false, false] rfl rfl (any_of HT_.out (by kernel_rfl)) (fun _ _ _ h => h) (Or.inl ⟨by rfl, ?_⟩) ?_ ?_
              rotate_left
              · intro w'
                go_simp
                with_reducible rfl
              rotate_left
              · simp only [Act.put, List.setIfInBounds_toArray, List.set_cons_zero, List.set_cons_succ, i64_w, i32_w]
                rfl
              refine pure_ (i := 2) (N := some 45) (v := ?_) (a' := ?_) #[true, true, true, false, false, false, false, false, false, false, false, false, false] rfl rfl (any_of HT_.out (by kernel_rfl)) (fun _ _ _ h => h) (Or.inl ⟨by rfl, ?_⟩) ?_ ?_
              rotate_left
              · intro w'
                go_simp
                with_reducible rfl
              rotate_left
              · simp only [Act.put, List.setIfInBounds_toArray, List.set_cons_zero, List.set_cons_succ, i64_w, i32_w]
                rfl
              refine pure_ (i := 3) (N := some 46) (v := ?_) (a' := ?_) #[true, true, true, true, false, false, false, false, false, false, false, false, false] rfl rfl (any_of HT_.out (by kernel_rfl)) (fun _ _ _ h => h) (Or.inl ⟨by rfl, ?_⟩) ?_ ?_
              rotate_left
              · intro w'
                go_simp
                with_reducible rfl
              rotate_left
              · simp only [Act.put, List.setIfInBounds_toArray, List.set_cons_zero, List.set_cons_succ, i64_w, i32_w]
                rfl
              refine pure_ (i := 4) (N := some 47) (v := ?_) (a' := ?_) #[true, true, true, true, true, false, false, false, false, false, false, false, false] rfl rfl (any_of HT_.out (by kernel_rfl)) (fun _ _ _ h => h) (Or.inl ⟨by rfl, ?_⟩) ?_ ?_
              rotate_left
              · intro w'
                go_simp
                with_reducible rfl
              rotate_left
              · simp only [Act.put, List.setIfInBounds_toArray, List.set_cons_zero, List.set_cons_succ, i64_w, i32_w]
                rfl
              refine take_ (i := 5) (N := some 48) (v := ?_) (a' := ?_) #[true, true, true, true, true, true, false, false, false, false, false, false, false] rfl rfl (take_ofW HT_.out HW_.out (by kernel_rfl)) (fun _ _ _ h => h) (Or.inl ⟨by rfl, ?_⟩) hHeld ?_ ?_
              rotate_left
              · rintro w' ⟨s0, s1, s2, s3, s4, s5⟩
                go_simp
                with_reducible rfl
              rotate_left
              · simp only [Act.put, List.setIfInBounds_toArray, List.set_cons_zero, List.set_cons_succ, i64_w, i32_w]
                rfl
              refine pure_ (i := 6) (N := some 49) (v := ?_) (a' := ?_) #[true, true, true, true, true, true, true, false, false, false, false, false, false] rfl rfl (any_of HT_.out (by kernel_rfl)) (fun _ _ _ h => h) (Or.inl ⟨by rfl, ?_⟩) ?_ ?_
              rotate_left
              · intro w'
                go_simp
                with_reducible rfl
              rotate_left
              · simp only [Act.put, List.setIfInBounds_toArray, List.set_cons_zero, List.set_cons_succ, i64_w, i32_w]
                rfl
              refine pure_ (i := 7) (N := some 50) (v := ?_) (a' := ?_) #[true, true, true, true, true, true, true, true, false, false, false, false, false] rfl rfl (any_of HT_.out (by kernel_rfl)) (fun _ _ _ h => h) (Or.inl ⟨by rfl, ?_⟩) ?_ ?_
              rotate_left
              · intro w'
                go_simp
                with_reducible rfl
              rotate_left
              · simp only [Act.put, List.setIfInBounds_toArray, List.set_cons_zero, List.set_cons_succ, i64_w, i32_w]
                rfl
              refine pure_ (i := 8) (N := some 51) (v := ?_) (a' := ?_) #[true, true, true, true, true, true, true, true, true, false, false, false, false] rfl rfl (any_of HT_.out (by kernel_rfl)) (fun _ _ _ h => h) (Or.inl ⟨by rfl, ?_⟩) ?_ ?_
              rotate_left
              · intro w'
                go_simp
                with_reducible rfl
              rotate_left
              · simp only [Act.put, List.setIfInBounds_toArray, List.set_cons_zero, List.set_cons_succ, i64_w, i32_w]
                rfl
              refine take_ (i := 9) (N := some 52) (v := ?_) (a' := ?_) #[true, true, true, true, true, true, true, true, true, true, false, false, false] rfl rfl (take_ofW HT_.out HW_.out (by kernel_rfl)) (fun _ _ _ h => h) (Or.inl ⟨by rfl, ?_⟩) hHeld ?_ ?_
              rotate_left
              · rintro w' ⟨s0, s1, s2, s3, s4, s5⟩
                go_simp
                with_reducible rfl
              rotate_left
              · simp only [Act.put, List.setIfInBounds_toArray, List.set_cons_zero, List.set_cons_succ, i64_w, i32_w]
                rfl
              refine one_ (i := 10) (N := some 53) #[true, true, true, true, true, true, true, true, true, true, true, false, false] rfl rfl (one_of HT_.out (by kernel_rfl)) (by decide) (fun K hK => ?_)
              refine goes_ Try.func20 (by kernel_rfl) rfl #[.agg #[.int .i64 a2_0, .int .i64 a2_1, .string a2_2], .agg #[.int .i64 y.f0, .int .i64 y.f1, .string y.f2]] (by rfl) rfl rfl (by (try simp only [List.map_toArray, List.map_cons, List.map_nil]); first | done | rfl | (simp only [List.length_drop, List.length_take]; rfl)) ?_
              refine (vote_ahead.calls a2_0 a2_1 a2_2 y.f0 y.f1 y.f2 true _ (by rw [aheadV_is, hq])).mono ?_
              rintro e wa ⟨rfl, hba⟩
              refine ⟨_, rfl, ?_⟩
              have BKa := Aside0.mk (blk_below (blk_drew BK.out) hba)
              have HBa := Aside0.mk (below_step (below_drew HB'.out) hba)
              clear hba
              refine hK.out _ _ ⟨(blk_cell BKa.out 0).trans rfl, (blk_cell BKa.out 1).trans rfl, (blk_cell BKa.out 2).trans rfl, ((HBa.out).cell (World.block_lt_of_cell? w _ hw0)).trans hw0, ((HBa.out).cell (World.block_lt_of_cell? w _ hw1)).trans hw1, ((HBa.out).cell (World.block_lt_of_cell? w _ hw2)).trans hw2⟩ (fun hHeld => ?_)
              clear hK K
              refine norm_ (a' := ?_) ?_ ?_
              rotate_left
              · show Act.put _ (some 53) _ = _
                simp only [Act.put, List.setIfInBounds_toArray, List.set_cons_zero, List.set_cons_succ, i64_w, i32_w]
                rfl
              refine pure_ (i := 11) (N := some 54) (v := ?_) (a' := ?_) #[true, true, true, true, true, true, true, true, true, true, true, true, false] rfl rfl (any_of HT_.out (by kernel_rfl)) (fun _ _ _ h => h) (Or.inl ⟨by rfl, ?_⟩) ?_ ?_
              rotate_left
              · intro w'
                go_simp
                with_reducible rfl
              rotate_left
              · simp only [Act.put, List.setIfInBounds_toArray, List.set_cons_zero, List.set_cons_succ, i64_w, i32_w]
                rfl
              refine pure_ (i := 12) (N := some 55) (v := ?_) (a' := ?_) #[true, true, true, true, true, true, true, true, true, true, true, true, true] rfl rfl (any_of HT_.out (by kernel_rfl)) (fun _ _ _ h => h) (Or.inl ⟨by rfl, ?_⟩) ?_ ?_
              rotate_left
              · intro w'
                go_simp
                with_reducible rfl
              rotate_left
              · simp only [Act.put, List.setIfInBounds_toArray, List.set_cons_zero, List.set_cons_succ, i64_w, i32_w]
                rfl
              refine done_ (done_of HT_.out (by kernel_rfl)) ?_
              go_wp2
              obtain ⟨wz, hwz⟩ : ∃ wz, wz = wa.drew := ⟨_, rfl⟩
              have BKz : wz.heap[g2]? = some (.cells #[.int .i64 a2_0, .int .i64 a2_1, .string a2_2] 29 (0, 0)) := by rw [hwz]; exact blk_drew BKa.out
              have HBz : Below w.heap.size w wz := by rw [hwz]; exact below_drew HBa.out
              have BKz' := Aside0.mk BKz
              have HBz' := Aside0.mk HBz
              clear BKz HBz
              refine start_ (n := 8) (S := fun w' => w'.cell? ⟨g2, 0, none⟩ = some (.int .i64 a2_0) ∧ w'.cell? ⟨g2, 1, none⟩ = some (.int .i64 a2_1) ∧ w'.cell? ⟨g2, 2, none⟩ = some (.string a2_2)) (ds := []) #[false, false, false, false, false, false, false, false] (by kernel_rfl) rfl rfl ⟨(blk_cell (blk_drew BKa.out) 0).trans rfl, (blk_cell (blk_drew BKa.out) 1).trans rfl, (blk_cell (blk_drew BKa.out) 2).trans rfl⟩ (fun hHeld => ?_); refine with_tabW G13.tab G13.bits (fun HT_ HW_ => ?_)
              rw [← hwz] at hHeld ⊢
              clear hwz
              refine pure_ (i := 0) (N := some 58) (v := ?_) (a' := ?_) #[true, false, false, false, false, false, false, false] rfl rfl (any_of HT_.out (by kernel_rfl)) (fun _ _ _ h => h) (Or.inl ⟨by rfl, ?_⟩) ?_ ?_
              rotate_left
              · intro w'
                go_simp
                with_reducible rfl
              rotate_left
              · simp only [Act.put, List.setIfInBounds_toArray, List.set_cons_zero, List.set_cons_succ, i64_w, i32_w]
                rfl
              refine pure_ (i := 2) (N := some 60) (v := ?_) (a' := ?_) #[true, false, true, false, false, false, false, false] rfl rfl (any_of HT_.out (by kernel_rfl)) (fun _ _ _ h => h) (Or.inl ⟨by rfl, ?_⟩) ?_ ?_
              rotate_left
              · intro w'
                go_simp
                with_reducible rfl
              rotate_left
              · simp only [Act.put, List.setIfInBounds_toArray, List.set_cons_zero, List.set_cons_succ, i64_w, i32_w]
                rfl
              refine take_ (i := 3) (N := some 61) (v := ?_) (a' := ?_) #[true, false, true, true, false, false, false, false] rfl rfl (take_ofW HT_.out HW_.out (by kernel_rfl)) (fun _ _ _ h => h) (Or.inl ⟨by rfl, ?_⟩) hHeld ?_ ?_
              rotate_left
              · rintro w' ⟨s0, s1, s2⟩
                go_simp
                with_reducible rfl
              rotate_left
              · simp only [Act.put, List.setIfInBounds_toArray, List.set_cons_zero, List.set_cons_succ, i64_w, i32_w]
                rfl
              refine two_ (i := 1) (j := 4) (Ni := some 59) (Nj := some 62) #[true, true, true, true, false, false, false, false] #[true, false, true, true, true, false, false, false] rfl rfl rfl rfl (two_of HT_.out (by kernel_rfl)) (by decide) (by decide) (fun K hK => ?_) (fun K hK => ?_)
              · refine goes_ Try.func24 (by kernel_rfl) rfl #[.slice (some ad) l0.length c0] (by rfl) rfl rfl (by (try simp only [List.map_toArray, List.map_cons, List.map_nil]); first | done | rfl | (simp only [List.length_drop, List.length_take]; rfl)) ?_
                refine (clone29.calls (some ad) c0 l0 wz (Kd.C_below HR.out HBz'.out) hc0 (by omega)).mono ?_
                rintro e wc ⟨v3, rfl, ho3, hb3⟩
                refine ⟨_, rfl, ?_⟩
                obtain ⟨A3, c3, rfl, hc3, _⟩ := Kd.R_reads ho3
                have HOc := Aside0.mk (Kd.R_lower ho3 (HBz'.out).size)
                have BKc := Aside0.mk (blk_below BKz'.out hb3)
                have HBc := Aside0.mk (below_step HBz'.out hb3)
                have HN2 := Aside0.mk (ne_of_new ho3 BKz'.out)
                clear ho3 hb3
                refine hK.out _ _ ⟨(blk_cell BKc.out 0).trans rfl, (blk_cell BKc.out 1).trans rfl, (blk_cell BKc.out 2).trans rfl⟩ (fun hHeld => ?_)
                clear hK K
                refine norm_ (a' := ?_) ?_ ?_
                rotate_left
                · show Act.put _ (some 59) _ = _
                  simp only [Act.put, List.setIfInBounds_toArray, List.set_cons_zero, List.set_cons_succ, i64_w, i32_w]
                  rfl
                refine one_ (i := 4) (N := some 62) #[true, true, true, true, true, false, false, false] rfl rfl (one_of HT_.out (by kernel_rfl)) (by decide) (fun K hK => ?_)
                refine event_step (v := .slice (some ⟨wc.heap.size, 0, none⟩) 1 1) (w1 := wc.alloc (.cells #[.int .i64 a2_0, .int .i64 a2_1, .string a2_2] 29)) (by rfl) (by first | (go_simp; done) | (go_simp; rfl)) ?_
                have HBi := Aside0.mk (below_alloc HBc.out (.cells #[.int .i64 a2_0, .int .i64 a2_1, .string a2_2] 29))
                have BKi := Aside0.mk (blk_alloc BKc.out (.cells #[.int .i64 a2_0, .int .i64 a2_1, .string a2_2] 29))
                refine hK.out _ _ ⟨(blk_cell BKi.out 0).trans rfl, (blk_cell BKi.out 1).trans rfl, (blk_cell BKi.out 2).trans rfl⟩ (fun hHeld => ?_)
                clear hK K
                refine norm_ (a' := ?_) ?_ ?_
                rotate_left
                · show Act.put _ (some 62) _ = _
                  simp only [Act.put, List.setIfInBounds_toArray, List.set_cons_zero, List.set_cons_succ, i64_w, i32_w]
                  rfl
                refine one_ (i := 5) (N := some 63) #[true, true, true, true, true, true, false, false] rfl rfl (one_of HT_.out (by kernel_rfl)) (by decide) (fun K hK => ?_)
                refine goes_ Try.func23 (by kernel_rfl) rfl #[.slice A3 l0.length c3, .int .i64 (m : Nat), .slice (some ⟨wc.heap.size, 0, none⟩) 1 1] (by rfl) rfl rfl (by (try simp only [List.map_toArray, List.map_cons, List.map_nil]); first | done | rfl | (simp only [List.length_drop, List.length_take]; rfl)) ?_
                refine (insert29.calls (fun _ => True) (fun _ => trivial) w.heap.size (.slice A3 l0.length c3) l0 m ⟨a2_0, a2_1, a2_2⟩ (wc.alloc (.cells #[.int .i64 a2_0, .int .i64 a2_1, .string a2_2] 29)) wc.heap.size hmn HBi.out.size hl (Kd.R_alloc HOc.out _) (Array.getElem?_push_size) (fun he => Nat.lt_irrefl _ (own_lt (Kd.R_own HOc.out).choose_spec _ he.symm))).mono ?_
                rintro e wi ⟨v7, rfl, ho7, hb7, hk7⟩
                refine ⟨_, rfl, ?_⟩
                have HO7 := Aside0.mk ho7
                have HB7 := Aside0.mk (Below.trans HBi.out hb7)
                have BK7 := Aside0.mk ((hk7 g2 (Array.getElem?_eq_some_iff.1 BKi.out).1 HN2.out).trans BKi.out)
                clear ho7 hb7 hk7
                refine hK.out _ _ ⟨(blk_cell BK7.out 0).trans rfl, (blk_cell BK7.out 1).trans rfl, (blk_cell BK7.out 2).trans rfl⟩ (fun hHeld => ?_)
                clear hK K
                refine norm_ (a' := ?_) ?_ ?_
                rotate_left
                · show Act.put _ (some 63) _ = _
                  simp only [Act.put, List.setIfInBounds_toArray, List.set_cons_zero, List.set_cons_succ, i64_w, i32_w]
                  rfl
                refine pure_ (i := 6) (N := some 6) (v := ?_) (a' := ?_) #[true, true, true, true, true, true, true, false] rfl rfl (any_of HT_.out (by kernel_rfl)) (fun _ _ _ h => h) (Or.inl ⟨by rfl, ?_⟩) ?_ ?_
                rotate_left
                · intro w'
                  go_simp
                  with_reducible rfl
                rotate_left
                · simp only [Act.put, List.setIfInBounds_toArray, List.set_cons_zero, List.set_cons_succ, i64_w, i32_w]
                  rfl
                refine pure_ (i := 7) (N := some 7) (v := ?_) (a' := ?_) #[true, true, true, true, true, true, true, true] rfl rfl (any_of HT_.out (by kernel_rfl)) (fun _ _ _ h => h) (Or.inl ⟨by rfl, ?_⟩) ?_ ?_
                rotate_left
                · intro w'
                  go_simp
                  with_reducible rfl
                rotate_left
                · simp only [Act.put, List.setIfInBounds_toArray, List.set_cons_zero, List.set_cons_succ, i64_w, i32_w]
                  rfl
                refine done_ (done_of HT_.out (by kernel_rfl)) ?_
                try go_wp2
                (try simp only [Exit.jump])
                go_ret2
                refine ⟨_, rfl, ?_, HB7.out⟩
                rw [← E1.out]
                unfold insV
                rw [hfi]
                exact Kd.V_mono (Kd.R_V (Kd.R_bound HO7.out)) (fun k hk => .inr hk.2.1)
              · refine event_step (v := .slice (some ⟨wz.heap.size, 0, none⟩) 1 1) (w1 := wz.alloc (.cells #[.int .i64 a2_0, .int .i64 a2_1, .string a2_2] 29)) (by rfl) (by first | (go_simp; done) | (go_simp; rfl)) ?_
                have HBe := Aside0.mk (below_alloc HBz'.out (.cells #[.int .i64 a2_0, .int .i64 a2_1, .string a2_2] 29))
                have BKe := Aside0.mk (blk_alloc BKz'.out (.cells #[.int .i64 a2_0, .int .i64 a2_1, .string a2_2] 29))
                have NWe := Aside0.mk (show (wz.alloc (.cells #[.int .i64 a2_0, .int .i64 a2_1, .string a2_2] 29)).heap[wz.heap.size]? = some (.cells #[.int .i64 a2_0, .int .i64 a2_1, .string a2_2] 29 (0, 0)) from Array.getElem?_push_size)
                refine hK.out _ _ ⟨(blk_cell BKe.out 0).trans rfl, (blk_cell BKe.out 1).trans rfl, (blk_cell BKe.out 2).trans rfl⟩ (fun hHeld => ?_)
                clear hK K
                refine norm_ (a' := ?_) ?_ ?_
                rotate_left
                · show Act.put _ (some 62) _ = _
                  simp only [Act.put, List.setIfInBounds_toArray, List.set_cons_zero, List.set_cons_succ, i64_w, i32_w]
                  rfl
                refine one_ (i := 1) (N := some 59) #[true, true, true, true, true, false, false, false] rfl rfl (one_of HT_.out (by kernel_rfl)) (by decide) (fun K hK => ?_)
                refine goes_ Try.func24 (by kernel_rfl) rfl #[.slice (some ad) l0.length c0] (by rfl) rfl rfl (by (try simp only [List.map_toArray, List.map_cons, List.map_nil]); first | done | rfl | (simp only [List.length_drop, List.length_take]; rfl)) ?_
                refine (clone29.calls (some ad) c0 l0 (wz.alloc (.cells #[.int .i64 a2_0, .int .i64 a2_1, .string a2_2] 29)) (Kd.C_below HR.out HBe.out) hc0 (by omega)).mono ?_
                rintro e wc ⟨v3, rfl, ho3, hb3⟩
                refine ⟨_, rfl, ?_⟩
                obtain ⟨A3, c3, rfl, hc3, _⟩ := Kd.R_reads ho3
                have HOc := Aside0.mk (Kd.R_lower ho3 (HBe.out).size)
                have BKc := Aside0.mk (blk_below BKe.out hb3)
                have HBc := Aside0.mk (below_step HBe.out hb3)
                have HN2 := Aside0.mk (ne_of_new ho3 BKe.out)
                have NWc := Aside0.mk (blk_below NWe.out hb3)
                have HNE := Aside0.mk (ne_of_new ho3 NWe.out)
                clear ho3 hb3
                have HBi := HBc
                have BKi := BKc
                refine hK.out _ _ ⟨(blk_cell BKc.out 0).trans rfl, (blk_cell BKc.out 1).trans rfl, (blk_cell BKc.out 2).trans rfl⟩ (fun hHeld => ?_)
                clear hK K
                refine norm_ (a' := ?_) ?_ ?_
                rotate_left
                · show Act.put _ (some 59) _ = _
                  simp only [Act.put, List.setIfInBounds_toArray, List.set_cons_zero, List.set_cons_succ, i64_w, i32_w]
                  rfl
                refine one_ (i := 5) (N := some 63) #[true, true, true, true, true, true, false, false] rfl rfl (one_of HT_.out (by kernel_rfl)) (by decide) (fun K hK => ?_)
                refine goes_ Try.func23 (by kernel_rfl) rfl #[.slice A3 l0.length c3, .int .i64 (m : Nat), .slice (some ⟨wz.heap.size, 0, none⟩) 1 1] (by rfl) rfl rfl (by (try simp only [List.map_toArray, List.map_cons, List.map_nil]); first | done | rfl | (simp only [List.length_drop, List.length_take]; rfl)) ?_
                refine (insert29.calls (fun _ => True) (fun _ => trivial) w.heap.size (.slice A3 l0.length c3) l0 m ⟨a2_0, a2_1, a2_2⟩ (wc) wz.heap.size hmn HBc.out.size hl HOc.out NWc.out HNE.out).mono ?_
                rintro e wi ⟨v7, rfl, ho7, hb7, hk7⟩
                refine ⟨_, rfl, ?_⟩
                have HO7 := Aside0.mk ho7
                have HB7 := Aside0.mk (Below.trans HBi.out hb7)
                have BK7 := Aside0.mk ((hk7 g2 (Array.getElem?_eq_some_iff.1 BKi.out).1 HN2.out).trans BKi.out)
                clear ho7 hb7 hk7
                refine hK.out _ _ ⟨(blk_cell BK7.out 0).trans rfl, (blk_cell BK7.out 1).trans rfl, (blk_cell BK7.out 2).trans rfl⟩ (fun hHeld => ?_)
                clear hK K
                refine norm_ (a' := ?_) ?_ ?_
                rotate_left
                · show Act.put _ (some 63) _ = _
                  simp only [Act.put, List.setIfInBounds_toArray, List.set_cons_zero, List.set_cons_succ, i64_w, i32_w]
                  rfl
                refine pure_ (i := 6) (N := some 6) (v := ?_) (a' := ?_) #[true, true, true, true, true, true, true, false] rfl rfl (any_of HT_.out (by kernel_rfl)) (fun _ _ _ h => h) (Or.inl ⟨by rfl, ?_⟩) ?_ ?_
                rotate_left
                · intro w'
                  go_simp
                  with_reducible rfl
                rotate_left
                · simp only [Act.put, List.setIfInBounds_toArray, List.set_cons_zero, List.set_cons_succ, i64_w, i32_w]
                  rfl
                refine pure_ (i := 7) (N := some 7) (v := ?_) (a' := ?_) #[true, true, true, true, true, true, true, true] rfl rfl (any_of HT_.out (by kernel_rfl)) (fun _ _ _ h => h) (Or.inl ⟨by rfl, ?_⟩) ?_ ?_
                rotate_left
                · intro w'
                  go_simp
                  with_reducible rfl
                rotate_left
                · simp only [Act.put, List.setIfInBounds_toArray, List.set_cons_zero, List.set_cons_succ, i64_w, i32_w]
                  rfl
                refine done_ (done_of HT_.out (by kernel_rfl)) ?_
                try go_wp2
                (try simp only [Exit.jump])
                go_ret2
                refine ⟨_, rfl, ?_, HB7.out⟩
                rw [← E1.out]
                unfold insV
                rw [hfi]
                exact Kd.V_mono (Kd.R_V (Kd.R_bound HO7.out)) (fun k hk => .inr hk.2.1)
          · have hmm0 : m = l0.length := by omega
            have hmm := Aside0.mk hmm0
            clear hmm0
            have hd0 : decide ((m : Int) < (l0.length : Int)) = false := decide_eq_false (by omega)
            have hp1 : ((m : Int) < (l0.length : Int)) = False := eq_false (by omega)
            have hfi : l0.findIdx (aheadV a2_0 a2_1) = m := by rw [hmm.out]; exact findIdx_miss (z := z29) l0 _ (fun j hj => HA.out j (by omega))
            go_wp2
            refine start_ (n := 13) (S := fun _ => True) (ds := []) #[false, false, false, false, false, false, false, false, false, false, false, false, false] (by kernel_rfl) rfl rfl trivial (fun hHeld => ?_); refine with_tabW G11.tab G11.bits (fun HT_ HW_ => ?_)
            refine pure_ (i := 0) (N := some 43) (v := ?_) (a' := ?_) #[true, false, false, false, false, false, false, false, false, false, false, false, false] rfl rfl (any_of HT_.out (by kernel_rfl)) (fun _ _ _ h => h) (Or.inl ⟨by rfl, ?_⟩) ?_ ?_
            rotate_left
            · intro w'
              go_simp
              with_reducible rfl
            rotate_left
            · simp only [Act.put, List.setIfInBounds_toArray, List.set_cons_zero, List.set_cons_succ, i64_w, i32_w]
              rfl
            refine pure_ (i := 1) (N := some 44) (v := ?_) (a' := ?_) #[true, true, false, false, false, false, false, false, false, false, false, false, false] rfl rfl (any_of HT_.out (by kernel_rfl)) (fun _ _ _ h => h) (Or.inl ⟨by rfl, ?_⟩) ?_ ?_
            rotate_left
            · intro w'
              go_simp
              with_reducible rfl
            rotate_left
            · simp only [Act.put, List.setIfInBounds_toArray, List.set_cons_zero, List.set_cons_succ, i64_w, i32_w]
              rfl
            refine pure_ (i := 2) (N := some 45) (v := ?_) (a' := ?_) #[true, true, true, false, false, false, false, false, false, false, false, false, false] rfl rfl (any_of HT_.out (by kernel_rfl)) (fun _ _ _ h => h) (Or.inl ⟨by rfl, ?_⟩) ?_ ?_
            rotate_left
            · intro w'
              go_simp
              with_reducible rfl
            rotate_left
            · simp only [Act.put, List.setIfInBounds_toArray, List.set_cons_zero, List.set_cons_succ, i64_w, i32_w]
              rfl
            refine pure_ (i := 3) (N := some 46) (v := ?_) (a' := ?_) #[true, true, true, true, false, false, false, false, false, false, false, false, false] rfl rfl (any_of HT_.out (by kernel_rfl)) (fun _ _ _ h => h) (Or.inl ⟨by rfl, ?_⟩) ?_ ?_
            rotate_left
            · intro w'
              go_simp
              with_reducible rfl
            rotate_left
            · simp only [Act.put, List.setIfInBounds_toArray, List.set_cons_zero, List.set_cons_succ, i64_w, i32_w]
              rfl
            refine pure_ (i := 4) (N := some 47) (v := ?_) (a' := ?_) #[true, true, true, true, true, false, false, false, false, false, false, false, false] rfl rfl (any_of HT_.out (by kernel_rfl)) (fun _ _ _ h => h) (Or.inl ⟨by rfl, ?_⟩) ?_ ?_
            rotate_left
            · intro w'
              go_simp
              with_reducible rfl
            rotate_left
            · simp only [Act.put, List.setIfInBounds_toArray, List.set_cons_zero, List.set_cons_succ, i64_w, i32_w]
              rfl
            refine pure_ (i := 5) (N := some 48) (v := undef) (a' := ?_) #[true, true, true, true, true, true, false, false, false, false, false, false, false] rfl rfl (any_of HT_.out (by kernel_rfl)) (fun _ _ _ h => h) (Or.inr ⟨by rfl, rfl⟩) ?_ ?_
            rotate_left
            · simp only [Act.put, List.setIfInBounds_toArray, List.set_cons_zero, List.set_cons_succ, i64_w, i32_w]
              rfl
            refine pure_ (i := 6) (N := some 49) (v := undef) (a' := ?_) #[true, true, true, true, true, true, true, false, false, false, false, false, false] rfl rfl (any_of HT_.out (by kernel_rfl)) (fun _ _ _ h => h) (Or.inr ⟨by rfl, rfl⟩) ?_ ?_
            rotate_left
            · simp only [Act.put, List.setIfInBounds_toArray, List.set_cons_zero, List.set_cons_succ, i64_w, i32_w]
              rfl
            refine pure_ (i := 7) (N := some 50) (v := undef) (a' := ?_) #[true, true, true, true, true, true, true, true, false, false, false, false, false] rfl rfl (any_of HT_.out (by kernel_rfl)) (fun _ _ _ h => h) (Or.inr ⟨by rfl, rfl⟩) ?_ ?_
            rotate_left
            · simp only [Act.put, List.setIfInBounds_toArray, List.set_cons_zero, List.set_cons_succ, i64_w, i32_w]
              rfl
            refine pure_ (i := 8) (N := some 51) (v := undef) (a' := ?_) #[true, true, true, true, true, true, true, true, true, false, false, false, false] rfl rfl (any_of HT_.out (by kernel_rfl)) (fun _ _ _ h => h) (Or.inr ⟨by rfl, rfl⟩) ?_ ?_
            rotate_left
            · simp only [Act.put, List.setIfInBounds_toArray, List.set_cons_zero, List.set_cons_succ, i64_w, i32_w]
              rfl
            refine pure_ (i := 9) (N := some 52) (v := undef) (a' := ?_) #[true, true, true, true, true, true, true, true, true, true, false, false, false] rfl rfl (any_of HT_.out (by kernel_rfl)) (fun _ _ _ h => h) (Or.inr ⟨by rfl, rfl⟩) ?_ ?_
            rotate_left
            · simp only [Act.put, List.setIfInBounds_toArray, List.set_cons_zero, List.set_cons_succ, i64_w, i32_w]
              rfl
            refine pure_ (i := 10) (N := some 53) (v := undef) (a' := ?_) #[true, true, true, true, true, true, true, true, true, true, true, false, false] rfl rfl (any_of HT_.out (by kernel_rfl)) (fun _ _ _ h => h) (Or.inr ⟨by rfl, rfl⟩) ?_ ?_
            rotate_left
            · simp only [Act.put, List.setIfInBounds_toArray, List.set_cons_zero, List.set_cons_succ, i64_w, i32_w]
              rfl
            refine pure_ (i := 11) (N := some 54) (v := undef) (a' := ?_) #[true, true, true, true, true, true, true, true, true, true, true, true, false] rfl rfl (any_of HT_.out (by kernel_rfl)) (fun _ _ _ h => h) (Or.inr ⟨by rfl, rfl⟩) ?_ ?_
            rotate_left
            · simp only [Act.put, List.setIfInBounds_toArray, List.set_cons_zero, List.set_cons_succ, i64_w, i32_w]
              rfl
            refine pure_ (i := 12) (N := some 55) (v := ?_) (a' := ?_) #[true, true, true, true, true, true, true, true, true, true, true, true, true] rfl rfl (any_of HT_.out (by kernel_rfl)) (fun _ _ _ h => h) (Or.inl ⟨by rfl, ?_⟩) ?_ ?_
            rotate_left
            · intro w'
              go_simp
              with_reducible rfl
            rotate_left
            · simp only [Act.put, List.setIfInBounds_toArray, List.set_cons_zero, List.set_cons_succ, i64_w, i32_w]
              rfl
            have BKa := Aside0.mk (blk_drew BK.out)
            have HBa := Aside0.mk (below_drew HB'.out)
            refine done_ (done_of HT_.out (by kernel_rfl)) ?_
            go_wp2
            obtain ⟨wz, hwz⟩ : ∃ wz, wz = w'.drew.drew := ⟨_, rfl⟩
            have BKz : wz.heap[g2]? = some (.cells #[.int .i64 a2_0, .int .i64 a2_1, .string a2_2] 29 (0, 0)) := by rw [hwz]; exact blk_drew BKa.out
            have HBz : Below w.heap.size w wz := by rw [hwz]; exact below_drew HBa.out
            have BKz' := Aside0.mk BKz
            have HBz' := Aside0.mk HBz
            clear BKz HBz
            refine start_ (n := 8) (S := fun w' => w'.cell? ⟨g2, 0, none⟩ = some (.int .i64 a2_0) ∧ w'.cell? ⟨g2, 1, none⟩ = some (.int .i64 a2_1) ∧ w'.cell? ⟨g2, 2, none⟩ = some (.string a2_2)) (ds := []) #[false, false, false, false, false, false, false, false] (by kernel_rfl) rfl rfl ⟨(blk_cell (blk_drew BKa.out) 0).trans rfl, (blk_cell (blk_drew BKa.out) 1).trans rfl, (blk_cell (blk_drew BKa.out) 2).trans rfl⟩ (fun hHeld => ?_); refine with_tabW G13.tab G13.bits (fun HT_ HW_ => ?_)
            rw [← hwz] at hHeld ⊢
            clear hwz
            refine pure_ (i := 0) (N := some 58) (v := ?_) (a' := ?_) #[true, false, false, false, false, false, false, false] rfl rfl (any_of HT_.out (by kernel_rfl)) (fun _ _ _ h => h) (Or.inl ⟨by rfl, ?_⟩) ?_ ?_
            rotate_left
            · intro w'
              go_simp
              with_reducible rfl
            rotate_left
            · simp only [Act.put, List.setIfInBounds_toArray, List.set_cons_zero, List.set_cons_succ, i64_w, i32_w]
              rfl
            refine pure_ (i := 2) (N := some 60) (v := ?_) (a' := ?_) #[true, false, true, false, false, false, false, false] rfl rfl (any_of HT_.out (by kernel_rfl)) (fun _ _ _ h => h) (Or.inl ⟨by rfl, ?_⟩) ?_ ?_
            rotate_left
            · intro w'
              go_simp
              with_reducible rfl
            rotate_left
            · simp only [Act.put, List.setIfInBounds_toArray, List.set_cons_zero, List.set_cons_succ, i64_w, i32_w]
              rfl
            refine take_ (i := 3) (N := some 61) (v := ?_) (a' := ?_) #[true, false, true, true, false, false, false, false] rfl rfl (take_ofW HT_.out HW_.out (by kernel_rfl)) (fun _ _ _ h => h) (Or.inl ⟨by rfl, ?_⟩) hHeld ?_ ?_
            rotate_left
            · rintro w' ⟨s0, s1, s2⟩
              go_simp
              with_reducible rfl
            rotate_left
            · simp only [Act.put, List.setIfInBounds_toArray, List.set_cons_zero, List.set_cons_succ, i64_w, i32_w]
              rfl
            refine two_ (i := 1) (j := 4) (Ni := some 59) (Nj := some 62) #[true, true, true, true, false, false, false, false] #[true, false, true, true, true, false, false, false] rfl rfl rfl rfl (two_of HT_.out (by kernel_rfl)) (by decide) (by decide) (fun K hK => ?_) (fun K hK => ?_)
            · refine goes_ Try.func24 (by kernel_rfl) rfl #[.slice A0 l0.length c0] (by rfl) rfl rfl (by (try simp only [List.map_toArray, List.map_cons, List.map_nil]); first | done | rfl | (simp only [List.length_drop, List.length_take]; rfl)) ?_
              refine (clone29.calls A0 c0 l0 wz (Kd.C_below HR.out HBz'.out) hc0 (by omega)).mono ?_
              rintro e wc ⟨v3, rfl, ho3, hb3⟩
              refine ⟨_, rfl, ?_⟩
              obtain ⟨A3, c3, rfl, hc3, _⟩ := Kd.R_reads ho3
              have HOc := Aside0.mk (Kd.R_lower ho3 (HBz'.out).size)
              have BKc := Aside0.mk (blk_below BKz'.out hb3)
              have HBc := Aside0.mk (below_step HBz'.out hb3)
              have HN2 := Aside0.mk (ne_of_new ho3 BKz'.out)
              clear ho3 hb3
              refine hK.out _ _ ⟨(blk_cell BKc.out 0).trans rfl, (blk_cell BKc.out 1).trans rfl, (blk_cell BKc.out 2).trans rfl⟩ (fun hHeld => ?_)
              clear hK K
              refine norm_ (a' := ?_) ?_ ?_
              rotate_left
              · show Act.put _ (some 59) _ = _
                simp only [Act.put, List.setIfInBounds_toArray, List.set_cons_zero, List.set_cons_succ, i64_w, i32_w]
                rfl
              refine one_ (i := 4) (N := some 62) #[true, true, true, true, true, false, false, false] rfl rfl (one_of HT_.out (by kernel_rfl)) (by decide) (fun K hK => ?_)
              refine event_step (v := .slice (some ⟨wc.heap.size, 0, none⟩) 1 1) (w1 := wc.alloc (.cells #[.int .i64 a2_0, .int .i64 a2_1, .string a2_2] 29)) (by rfl) (by first | (go_simp; done) | (go_simp; rfl)) ?_
              have HBi := Aside0.mk (below_alloc HBc.out (.cells #[.int .i64 a2_0, .int .i64 a2_1, .string a2_2] 29))
              have BKi := Aside0.mk (blk_alloc BKc.out (.cells #[.int .i64 a2_0, .int .i64 a2_1, .string a2_2] 29))
              refine hK.out _ _ ⟨(blk_cell BKi.out 0).trans rfl, (blk_cell BKi.out 1).trans rfl, (blk_cell BKi.out 2).trans rfl⟩ (fun hHeld => ?_)
              clear hK K
              refine norm_ (a' := ?_) ?_ ?_
              rotate_left
              · show Act.put _ (some 62) _ = _
                simp only [Act.put, List.setIfInBounds_toArray, List.set_cons_zero, List.set_cons_succ, i64_w, i32_w]
                rfl
              refine one_ (i := 5) (N := some 63) #[true, true, true, true, true, true, false, false] rfl rfl (one_of HT_.out (by kernel_rfl)) (by decide) (fun K hK => ?_)
              refine goes_ Try.func23 (by kernel_rfl) rfl #[.slice A3 l0.length c3, .int .i64 (m : Nat), .slice (some ⟨wc.heap.size, 0, none⟩) 1 1] (by rfl) rfl rfl (by (try simp only [List.map_toArray, List.map_cons, List.map_nil]); first | done | rfl | (simp only [List.length_drop, List.length_take]; rfl)) ?_
              refine (insert29.calls (fun _ => True) (fun _ => trivial) w.heap.size (.slice A3 l0.length c3) l0 m ⟨a2_0, a2_1, a2_2⟩ (wc.alloc (.cells #[.int .i64 a2_0, .int .i64 a2_1, .string a2_2] 29)) wc.heap.size hmn HBi.out.size hl (Kd.R_alloc HOc.out _) (Array.getElem?_push_size) (fun he => Nat.lt_irrefl _ (own_lt (Kd.R_own HOc.out).choose_spec _ he.symm))).mono ?_
              rintro e wi ⟨v7, rfl, ho7, hb7, hk7⟩
              refine ⟨_, rfl, ?_⟩
              have HO7 := Aside0.mk ho7
              have HB7 := Aside0.mk (Below.trans HBi.out hb7)
              have BK7 := Aside0.mk ((hk7 g2 (Array.getElem?_eq_some_iff.1 BKi.out).1 HN2.out).trans BKi.out)
              clear ho7 hb7 hk7
              refine hK.out _ _ ⟨(blk_cell BK7.out 0).trans rfl, (blk_cell BK7.out 1).trans rfl, (blk_cell BK7.out 2).trans rfl⟩ (fun hHeld => ?_)
              clear hK K
              refine norm_ (a' := ?_) ?_ ?_
              rotate_left
              · show Act.put _ (some 63) _ = _
                simp only [Act.put, List.setIfInBounds_toArray, List.set_cons_zero, List.set_cons_succ, i64_w, i32_w]
                rfl
              refine pure_ (i := 6) (N := some 6) (v := ?_) (a' := ?_) #[true, true, true, true, true, true, true, false] rfl rfl (any_of HT_.out (by kernel_rfl)) (fun _ _ _ h => h) (Or.inl ⟨by rfl, ?_⟩) ?_ ?_
              rotate_left
              · intro w'
                go_simp
                with_reducible rfl
              rotate_left
              · simp only [Act.put, List.setIfInBounds_toArray, List.set_cons_zero, List.set_cons_succ, i64_w, i32_w]
                rfl
              refine pure_ (i := 7) (N := some 7) (v := ?_) (a' := ?_) #[true, true, true, true, true, true, true, true] rfl rfl (any_of HT_.out (by kernel_rfl)) (fun _ _ _ h => h) (Or.inl ⟨by rfl, ?_⟩) ?_ ?_
              rotate_left
              · intro w'
                go_simp
                with_reducible rfl
              rotate_left
              · simp only [Act.put, List.setIfInBounds_toArray, List.set_cons_zero, List.set_cons_succ, i64_w, i32_w]
                rfl
              refine done_ (done_of HT_.out (by kernel_rfl)) ?_
              try go_wp2
              (try simp only [Exit.jump])
              go_ret2
              refine ⟨_, rfl, ?_, HB7.out⟩
              rw [← E1.out]
              unfold insV
              rw [hfi]
              exact Kd.V_mono (Kd.R_V (Kd.R_bound HO7.out)) (fun k hk => .inr hk.2.1)
            · refine event_step (v := .slice (some ⟨wz.heap.size, 0, none⟩) 1 1) (w1 := wz.alloc (.cells #[.int .i64 a2_0, .int .i64 a2_1, .string a2_2] 29)) (by rfl) (by first | (go_simp; done) | (go_simp; rfl)) ?_
              have HBe := Aside0.mk (below_alloc HBz'.out (.cells #[.int .i64 a2_0, .int .i64 a2_1, .string a2_2] 29))
              have BKe := Aside0.mk (blk_alloc BKz'.out (.cells #[.int .i64 a2_0, .int .i64 a2_1, .string a2_2] 29))
              have NWe := Aside0.mk (show (wz.alloc (.cells #[.int .i64 a2_0, .int .i64 a2_1, .string a2_2] 29)).heap[wz.heap.size]? = some (.cells #[.int .i64 a2_0, .int .i64 a2_1, .string a2_2] 29 (0, 0)) from Array.getElem?_push_size)
              refine hK.out _ _ ⟨(blk_cell BKe.out 0).trans rfl, (blk_cell BKe.out 1).trans rfl, (blk_cell BKe.out 2).trans rfl⟩ (fun hHeld => ?_)
              clear hK K
              refine norm_ (a' := ?_) ?_ ?_
              rotate_left
              · show Act.put _ (some 62) _ = _
                simp only [Act.put, List.setIfInBounds_toArray, List.set_cons_zero, List.set_cons_succ, i64_w, i32_w]
                rfl
              refine one_ (i := 1) (N := some 59) #[true, true, true, true, true, false, false, false] rfl rfl (one_of HT_.out (by kernel_rfl)) (by decide) (fun K hK => ?_)
              refine goes_ Try.func24 (by kernel_rfl) rfl #[.slice A0 l0.length c0] (by rfl) rfl rfl (by (try simp only [List.map_toArray, List.map_cons, List.map_nil]); first | done | rfl | (simp only [List.length_drop, List.length_take]; rfl)) ?_
              refine (clone29.calls A0 c0 l0 (wz.alloc (.cells #[.int .i64 a2_0, .int .i64 a2_1, .string a2_2] 29)) (Kd.C_below HR.out HBe.out) hc0 (by omega)).mono ?_
              rintro e wc ⟨v3, rfl, ho3, hb3⟩
              refine ⟨_, rfl, ?_⟩
              obtain ⟨A3, c3, rfl, hc3, _⟩ := Kd.R_reads ho3
              have HOc := Aside0.mk (Kd.R_lower ho3 (HBe.out).size)
              have BKc := Aside0.mk (blk_below BKe.out hb3)
              have HBc := Aside0.mk (below_step HBe.out hb3)
              have HN2 := Aside0.mk (ne_of_new ho3 BKe.out)
              have NWc := Aside0.mk (blk_below NWe.out hb3)
              have HNE := Aside0.mk (ne_of_new ho3 NWe.out)
              clear ho3 hb3
              have HBi := HBc
              have BKi := BKc
              refine hK.out _ _ ⟨(blk_cell BKc.out 0).trans rfl, (blk_cell BKc.out 1).trans rfl, (blk_cell BKc.out 2).trans rfl⟩ (fun hHeld => ?_)
              clear hK K
              refine norm_ (a' := ?_) ?_ ?_
              rotate_left
              · show Act.put _ (some 59) _ = _
                simp only [Act.put, List.setIfInBounds_toArray, List.set_cons_zero, List.set_cons_succ, i64_w, i32_w]
                rfl
              refine one_ (i := 5) (N := some 63) #[true, true, true, true, true, true, false, false] rfl rfl (one_of HT_.out (by kernel_rfl)) (by decide) (fun K hK => ?_)
              refine goes_ Try.func23 (by kernel_rfl) rfl #[.slice A3 l0.length c3, .int .i64 (m : Nat), .slice (some ⟨wz.heap.size, 0, none⟩) 1 1] (by rfl) rfl rfl (by (try simp only [List.map_toArray, List.map_cons, List.map_nil]); first | done | rfl | (simp only [List.length_drop, List.length_take]; rfl)) ?_
              refine (insert29.calls (fun _ => True) (fun _ => trivial) w.heap.size (.slice A3 l0.length c3) l0 m ⟨a2_0, a2_1, a2_2⟩ (wc) wz.heap.size hmn HBc.out.size hl HOc.out NWc.out HNE.out).mono ?_
              rintro e wi ⟨v7, rfl, ho7, hb7, hk7⟩
              refine ⟨_, rfl, ?_⟩
              have HO7 := Aside0.mk ho7
              have HB7 := Aside0.mk (Below.trans HBi.out hb7)
              have BK7 := Aside0.mk ((hk7 g2 (Array.getElem?_eq_some_iff.1 BKi.out).1 HN2.out).trans BKi.out)
              clear ho7 hb7 hk7
              refine hK.out _ _ ⟨(blk_cell BK7.out 0).trans rfl, (blk_cell BK7.out 1).trans rfl, (blk_cell BK7.out 2).trans rfl⟩ (fun hHeld => ?_)
              clear hK K
              refine norm_ (a' := ?_) ?_ ?_
              rotate_left
              · show Act.put _ (some 63) _ = _
                simp only [Act.put, List.setIfInBounds_toArray, List.set_cons_zero, List.set_cons_succ, i64_w, i32_w]
                rfl
              refine pure_ (i := 6) (N := some 6) (v := ?_) (a' := ?_) #[true, true, true, true, true, true, true, false] rfl rfl (any_of HT_.out (by kernel_rfl)) (fun _ _ _ h => h) (Or.inl ⟨by rfl, ?_⟩) ?_ ?_
              rotate_left
              · intro w'
                go_simp
                with_reducible rfl
              rotate_left
              · simp only [Act.put, List.setIfInBounds_toArray, List.set_cons_zero, List.set_cons_succ, i64_w, i32_w]
                rfl
              refine pure_ (i := 7) (N := some 7) (v := ?_) (a' := ?_) #[true, true, true, true, true, true, true, true] rfl rfl (any_of HT_.out (by kernel_rfl)) (fun _ _ _ h => h) (Or.inl ⟨by rfl, ?_⟩) ?_ ?_
              rotate_left
              · intro w'
                go_simp
                with_reducible rfl
              rotate_left
              · simp only [Act.put, List.setIfInBounds_toArray, List.set_cons_zero, List.set_cons_succ, i64_w, i32_w]
                rfl
              refine done_ (done_of HT_.out (by kernel_rfl)) ?_
              try go_wp2
              (try simp only [Exit.jump])
              go_ret2
              refine ⟨_, rfl, ?_, HB7.out⟩
              rw [← E1.out]
              unfold insV
              rw [hfi]
              exact Kd.V_mono (Kd.R_V (Kd.R_bound HO7.out)) (fun k hk => .inr hk.2.1)
end Go.Proofs.Ytlaagbadhkpjgaa.Q
