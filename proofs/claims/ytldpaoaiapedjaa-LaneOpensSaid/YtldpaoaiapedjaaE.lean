/- Contracts of library functions, proved by hand: slices.ContainsFunc of texts at the check of a transaction (lane.Right's and batch.May's closure), slices.Clone of texts, slices.Clone of batches, whose rows of texts are shared. Conditions: the rows read as they are told, and their bytes. -/
import Derived.Test.YtldpaoaiapedjaaQ0
import Derived.Lib.SliceRun
namespace Go.Proofs.Ytldpaoaiapedjaa.Q
open Go.RowKit Go.Proofs.YtldpaoaiapedjaaW.PrintWords Go.Proofs.YtldpaoaiapedjaaW.PrintLast Go.Proofs.YtldpaoaiapedjaaW.PrintMore
set_option linter.unusedVariables false
set_option linter.unusedSimpArgs false
theorem nil_of_none {α : Type} {d : Kd α} {w : World} {l : List α} (h : Kd.C d w none l.length l) : l = [] := by
  rcases l with _ | ⟨x, l⟩
  · rfl
  · obtain ⟨ad, h, _⟩ := h.2.2 (by simp)
    cases h
/-- May a text be no transaction? -/
def oddS (t : ByteArray) : Bool := decide (t.size = 0) || decide (48 < t.size)
theorem size_nil (t : ByteArray) (h : t.size = 0) : t.toList = [] := by rw [ByteArray.toList_eq]; exact List.eq_nil_of_length_eq_zero (by rw [Array.length_toList]; exact h)
theorem size_ne (t : ByteArray) (h : ¬ t.size = 0) : ¬ t.toList = [] := fun e => h (by rw [ByteArray.toList_eq] at e; have := congrArg List.length e; rw [Array.length_toList] at this; exact this)
set_option maxHeartbeats 4000000 in
set_option maxRecDepth 100000 in
theorem odd37.calls (t : ByteArray) (w : World) : Calls Try.prog 37 #[.string t] w fun e w' => e = .returned (.bool (oddS t)) ∧ Below w.heap.size w w' := by
  by_cases h0 : t.size = 0
  · have h1 : t.toList = [] := size_nil t h0
    have hq : oddS t = true := by unfold oddS; rw [decide_eq_true h0]; rfl
    have hb : t.toList.isEmpty = true := by rw [h1]; rfl
    rw [hq]
    clear hq h0
    go_enter Try.func37, Try.ntmps37
    go_wp2
    go_ret
    exact ⟨rfl, Below.refl _ _⟩
  · have h1 : ¬ t.toList = [] := size_ne t h0
    have hb : t.toList.isEmpty = false := by rw [List.isEmpty_eq_false_iff]; exact h1
    have hb2 : (t.toList == []) = false := by rw [beq_eq_false_iff_ne]; exact h1
    by_cases h2 : 48 < t.size
    · have hq : oddS t = true := by unfold oddS; rw [decide_eq_true h2]; simp
      have hz : decide (48 < t.size) = true := decide_eq_true h2
      have hz2 : decide ((t.size : Int) > 48) = true := decide_eq_true (by omega)
      rw [hq]
      clear hq h0
      go_enter Try.func37, Try.ntmps37
      go_wp2
      go_ret
      exact ⟨rfl, Below.refl _ _⟩
    · have hq : oddS t = false := by unfold oddS; rw [decide_eq_false h2, decide_eq_false h0]; rfl
      have hz : decide (48 < t.size) = false := decide_eq_false h2
      have hz2 : decide ((t.size : Int) > 48) = false := decide_eq_false (by omega)
      rw [hq]
      clear hq h0
      go_enter Try.func37, Try.ntmps37
      go_wp2
      go_ret
      exact ⟨rfl, Below.refl _ _⟩
set_option maxHeartbeats 4000000 in
set_option maxRecDepth 100000 in
theorem odd43.calls (t : ByteArray) (w : World) : Calls Try.prog 43 #[.string t] w fun e w' => e = .returned (.bool (oddS t)) ∧ Below w.heap.size w w' := by
  by_cases h0 : t.size = 0
  · have h1 : t.toList = [] := size_nil t h0
    have hq : oddS t = true := by unfold oddS; rw [decide_eq_true h0]; rfl
    have hb : t.toList.isEmpty = true := by rw [h1]; rfl
    rw [hq]
    clear hq h0
    go_enter Try.func43, Try.ntmps43
    go_wp2
    go_ret
    exact ⟨rfl, Below.refl _ _⟩
  · have h1 : ¬ t.toList = [] := size_ne t h0
    have hb : t.toList.isEmpty = false := by rw [List.isEmpty_eq_false_iff]; exact h1
    have hb2 : (t.toList == []) = false := by rw [beq_eq_false_iff_ne]; exact h1
    by_cases h2 : 48 < t.size
    · have hq : oddS t = true := by unfold oddS; rw [decide_eq_true h2]; simp
      have hz : decide (48 < t.size) = true := decide_eq_true h2
      have hz2 : decide ((t.size : Int) > 48) = true := decide_eq_true (by omega)
      rw [hq]
      clear hq h0
      go_enter Try.func43, Try.ntmps43
      go_wp2
      go_ret
      exact ⟨rfl, Below.refl _ _⟩
    · have hq : oddS t = false := by unfold oddS; rw [decide_eq_false h2, decide_eq_false h0]; rfl
      have hz : decide (48 < t.size) = false := decide_eq_false h2
      have hz2 : decide ((t.size : Int) > 48) = false := decide_eq_false (by omega)
      rw [hq]
      clear hq h0
      go_enter Try.func43, Try.ntmps43
      go_wp2
      go_ret
      exact ⟨rfl, Below.refl _ _⟩

/-- The check, as the two closures make it. -/
def checks (g : Nat) : Prop := ∀ (t : ByteArray) (w : World), Calls Try.prog g #[.string t] w fun e w' => e = .returned (.bool (oddS t)) ∧ Below w.heap.size w w'
theorem checks_of {g : Nat} (h : g = 37 ∨ g = 43) : checks g := by
  rcases h with rfl | rfl
  · exact odd37.calls
  · exact odd43.calls
theorem enter_of {g : Nat} (h : g = 37 ∨ g = 43) (args : Array Value) (w : World) : (callFunc g args).run Try.prog w = .ok (.enter g args) w := by
  rcases h with rfl | rfl <;> go_simp
theorem findIdx_hit {α : Type} {z : α} (l : List α) (p : α → Bool) (k : Nat) (hk : k < l.length) (h1 : p (l.getD k z) = true) (h0 : ∀ j, j < k → p (l.getD ((j : Int).toNat) z) = false) : l.findIdx p = k := by
  rw [List.findIdx_eq hk]
  refine ⟨?_, fun j hj => ?_⟩
  · rw [List.getD_eq_getElem?_getD, List.getElem?_eq_getElem hk] at h1
    exact h1
  · have := h0 j hj
    rw [Int.toNat_natCast, List.getD_eq_getElem?_getD, List.getElem?_eq_getElem (by omega)] at this
    exact this
theorem findIdx_miss {α : Type} {z : α} (l : List α) (p : α → Bool) (h0 : ∀ j, j < l.length → p (l.getD ((j : Int).toNat) z) = false) : l.findIdx p = l.length := by
  rw [List.findIdx_eq_length]
  intro x hx
  obtain ⟨j, hj, rfl⟩ := List.mem_iff_getElem.1 hx
  have := h0 j hj
  rw [Int.toNat_natCast, List.getD_eq_getElem?_getD, List.getElem?_eq_getElem hj] at this
  exact this
def idxOf {α : Type} (p : α → Bool) (l : List α) : Int := if l.findIdx p < l.length then (l.findIdx p : Int) else -1
set_option maxHeartbeats 8000000 in
set_option maxRecDepth 100000 in
theorem indexS.calls (g : Nat) (A0 : Option Addr) (c0 : Nat) (l0 : List ByteArray) (w : World) (hr0 : Kd.C Kd.string w A0 l0.length l0) (hc0 : l0.length ≤ c0) (hl : l0.length ≤ 9223372036854775807)
    (eg : ∀ args w, (callFunc g args).run Try.prog w = .ok (.enter g args) w) (hp : checks g) :
    Calls Try.prog 42 #[.slice A0 l0.length c0, .func (.func g) #[] #[]] w fun e w' => e = .returned (.int .i64 (idxOf oddS l0)) ∧ Below w.heap.size w w' := by
  have HR0 := Aside0.mk hr0
  have HP := Aside0.mk hp
  clear hr0 hp
  obtain ⟨n, hn⟩ : ∃ n, n = l0.length := ⟨_, rfl⟩
  have hn' := Aside0.mk hn
  rw [← hn] at hc0 hl ⊢
  clear hn
  go_enter Try.func42, Try.ntmps42
  go_wp2
  go_loopg [5, 8] n (fun gg _ s8 wr => ∃ kk : Nat, kk ≤ n ∧ n - kk ≤ gg ∧ s8 = .int .i64 kk ∧ Aside0 (Below w.heap.size w wr) ∧ Aside0 (∀ j, j < kk → oddS (l0.getD ((j : Int).toNat) ByteArray.empty) = false))
  case atStart => exact ⟨0, Nat.zero_le _, by omega, rfl, ⟨Below.refl _ w⟩, ⟨fun j hj => absurd hj (Nat.not_lt_zero _)⟩⟩
  case round =>
    obtain ⟨kk, hkk, hg, rfl, BW, A⟩ := hrel
    by_cases hlt : kk < n
    · have hltz : (kk : Int) < (n : Int) := by omega
      obtain ⟨ad, rfl, hx0⟩ := Kd.at_string HR0.out (kk : Int) (by omega) (by rw [← hn'.out]; exact hltz)
      replace hx0 := (BW.out.cell (World.block_lt_of_cell? w _ hx0)).trans hx0
      obtain ⟨y, hy⟩ : ∃ y, y = rdOf ByteArray.empty l0 (kk : Int) := ⟨_, rfl⟩
      rw [← hy] at hx0
      have hcall := HP.out y wr
      have hy' := Aside0.mk hy
      clear hy
      have hnn : (kk : Int).toNat = kk := by omega
      rw [hnn] at hx0
      have hcall' := Aside0.mk hcall
      clear hcall
      cases hq : oddS y with
      | true =>
        rw [hq] at hcall'
        go_wp2
        refine hcall'.out.mono ?_
        rintro e w' ⟨rfl, hb'⟩
        have HB2 := Aside0.mk (below_step BW.out hb')
        clear hb'
        dsimp only
        go_wp2
        go_ret
        refine ⟨?_, HB2.out⟩
        have e1 : l0.findIdx oddS = kk := findIdx_hit (z := ByteArray.empty) l0 oddS kk (by rw [← hn'.out]; exact hlt) (by have h := hq; rw [hy'.out] at h; exact h) (fun j hj => A.out j hj)
        rw [show idxOf oddS l0 = (kk : Int) by unfold idxOf; rw [e1, if_pos (by rw [← hn'.out]; exact hlt)]]
        rfl
      | false =>
        rw [hq] at hcall'
        go_wp2
        refine hcall'.out.mono ?_
        rintro e w' ⟨rfl, hb'⟩
        have HB2 := Aside0.mk (below_step BW.out hb')
        clear hb'
        dsimp only
        go_wp2
        go_roundg (n - (kk + 1))
        case measure => omega
        case rel =>
          refine ⟨kk + 1, hlt, by omega, rfl, HB2, ⟨fun j hj => ?_⟩⟩
          rcases Nat.lt_or_ge j kk with h | h
          · exact A.out j h
          · obtain rfl : j = kk := by omega
            have h2 := hq
            rw [hy'.out] at h2
            exact h2
    · have hltz : ¬ (kk : Int) < (n : Int) := by omega
      obtain rfl : kk = n := by omega
      go_wp2
      go_ret
      refine ⟨?_, BW.out⟩
      have e1 : l0.findIdx oddS = l0.length := findIdx_miss (z := ByteArray.empty) l0 oddS (fun j hj => A.out j (by rw [hn'.out]; exact hj))
      rw [show idxOf oddS l0 = -1 by unfold idxOf; rw [e1, if_neg (Nat.lt_irrefl _)]]
      rfl
theorem idx_any {α : Type} (p : α → Bool) (l : List α) : decide (idxOf p l ≥ 0) = l.any p := by
  unfold idxOf
  cases h : l.any p with
  | true =>
    rw [List.any_eq_true] at h
    obtain ⟨x, hx, hp⟩ := h
    rw [if_pos (List.findIdx_lt_length_of_exists ⟨x, hx, hp⟩)]
    exact decide_eq_true (by omega)
  | false =>
    rw [List.any_eq_false] at h
    rw [if_neg (fun hl => by have := List.findIdx_getElem (xs := l) (p := p) (w := hl); exact h _ (List.getElem_mem hl) this)]
    rfl
def contS.f (l0 : List ByteArray) : Option (Bool) := some (l0.any oddS)
set_option maxHeartbeats 8000000 in
set_option maxRecDepth 100000 in
theorem contS.calls {g : Nat} (A0 : Option Addr) (c0 : Nat) (l0 : List ByteArray) (r : Bool) (w : World) (hr0 : Kd.C Kd.string w A0 l0.length l0) (hc0 : l0.length ≤ c0) (h : contS.f l0 = some r) (hg : g = 37 ∨ g = 43 := by decide) :
    Calls Try.prog 38 #[.slice A0 l0.length c0, .func (.func g) #[] #[]] w fun e w' => e = .returned (.bool r) ∧ Below w.heap.size w w' := by
  obtain rfl := Option.some.inj h
  clear h
  have hl : l0.length ≤ 9223372036854775807 := hr0.2.1
  have HR0 := Aside0.mk hr0
  have HG := Aside0.mk hg
  clear hr0 hg
  rw [← idx_any]
  obtain ⟨i, hi⟩ : ∃ i, i = idxOf oddS l0 := ⟨_, rfl⟩
  rw [← hi]
  have hi' := Aside0.mk hi
  clear hi
  go_enter Try.func38, Try.ntmps38
  go_wp2_with (go_at_call 42; refine (indexS.calls g _ _ l0 _ HR0.out hc0 hl (enter_of HG.out) (checks_of HG.out)).mono ?_; rintro e w' ⟨rfl, hb⟩; have HB := Aside0.mk hb; clear hb; rw [← hi'.out])
  go_ret
  exact ⟨rfl, HB.out⟩
def cloneS.f (l0 : List ByteArray) : Option (List ByteArray) := if l0.length * 16 ≤ 140737488355328 then some l0 else none
set_option maxHeartbeats 8000000 in
set_option maxRecDepth 100000 in
theorem cloneS.calls (A0 : Option Addr) (c0 : Nat) (l0 : List ByteArray) (r : List ByteArray) (w : World) (hr0 : Kd.C Kd.string w A0 l0.length l0) (hc0 : l0.length ≤ c0) (h : cloneS.f l0 = some r) :
    Calls Try.prog 30 #[.slice A0 l0.length c0] w fun e w' => ∃ v0_ : Value, e = .returned (v0_) ∧ Kd.R Kd.string 9 w' w.heap.size (fun _ => True) v0_ r ∧ Below w.heap.size w w' := by
  unfold cloneS.f at h
  have hl : l0.length * 16 ≤ 140737488355328 := by
    by_cases hl : l0.length * 16 ≤ 140737488355328
    · exact hl
    · rw [if_neg hl] at h; cases h
  rw [if_pos hl] at h
  obtain rfl := Option.some.inj h
  clear h
  have q22 : ∀ (w : World) (a : Option Addr) (n c n' c' : Nat), (binOp .eql 22 (.slice a n c) (.slice none n' c')).run Try.prog w = .ok (.bool a.isNone) w := fun w a n c n' c' => Lib.run_eql_slice_nil w _ _ a n c n' c' Try.underlying22
  rcases A0 with _ | a0
  · obtain rfl := nil_of_none hr0
    go_enter Try.func30, Try.ntmps30
    go_wp2
    go_ret
    exact ⟨_, rfl, Kd.R_nil _ _ _ _ _, Below.refl _ _⟩
  · have HR := Aside0.mk hr0
    clear hr0
    go_enter Try.func30, Try.ntmps30
    go_wp2_with (first | ((with_reducible refine gate_dst (N := 5) rfl ?_); refine Kd.R_lit Kd.string _ 9 ?hg (N := 5) ?hd (xs := ([] : List ByteArray)) (inner := []) (ok := fun _ => True) (okp := fun _ => True) ?hr ?hp (fun _ hk => hk) trivial (Below.refl _ _) (Nat.le_refl _) (by simp) ?_; (case hd => rfl); (case hg => rfl); (case hr => first | (go_simp; done) | (go_simp; rfl)); (case hp => exact (Reps.none _ _)); intro v5 w5 ho5 hb5 hg5 hn5; have HO5 := Aside0.mk ho5; have HB5 := Aside0.mk hb5; clear ho5 hb5 hg5 hn5) | (at_builtin; refine Kd.R_append_rows Kd.string (w0 := w) w.heap.size rfl (.tmp 5) (.tmp 6) 22 9 (.string ⟨#[]⟩) 16 rfl Try.underlying22 info9 rfl (by decide) (by omega) v5 [] l0 _ _ _ (fun _ => True) (fun _ => False) rfl rfl HO5.out (Kd.C_below HR.out HB5.out) (fun x _ h => h) (fun _ h => h.elim) (fun _ _ => trivial) HB5.out HB5.out.size (by simpa using hl) ?_; intro v7 w7 ho7 hb7 _ _))
    go_ret
    exact ⟨_, rfl, by simpa using ho7, hb7⟩
def cloneB.f (l0 : List (S42)) : Option ((List (S42))) := if l0.length * 40 ≤ 140737488355328 then some l0 else none
set_option maxHeartbeats 8000000 in
set_option maxRecDepth 100000 in
theorem cloneB.calls (P0_ : Nat → Prop) (A0 : Option Addr) (c0 : Nat) (l0 : List (S42)) (r : List (S42)) (w : World) (hs0 : Kd.V k42 42 w w.heap.size (fun k_ => P0_ k_) (.slice A0 l0.length c0) l0) (h : cloneB.f l0 = some r) :
    Calls Try.prog 32 #[.slice A0 l0.length c0] w fun e w' => ∃ v0_ : Value, e = .returned (v0_) ∧ Kd.N k42 42 w' w.heap.size (fun k_ => (P0_ k_ ∨ w.heap.size ≤ k_)) v0_ r ∧ Below w.heap.size w w' := by
  unfold cloneB.f at h
  have hl : l0.length * 40 ≤ 140737488355328 := by
    by_cases hl : l0.length * 40 ≤ 140737488355328
    · exact hl
    · rw [if_neg hl] at h; cases h
  rw [if_pos hl] at h
  obtain rfl := Option.some.inj h
  clear h
  have q23 : ∀ (w : World) (a : Option Addr) (n c n' c' : Nat), (binOp .eql 23 (.slice a n c) (.slice none n' c')).run Try.prog w = .ok (.bool a.isNone) w := fun w a n c n' c' => Lib.run_eql_slice_nil w _ _ a n c n' c' Try.underlying23
  have hF := Kd.V_F hs0
  rcases A0 with _ | a0
  · obtain rfl := nil_of_none (Kd.F_now hF)
    go_enter Try.func32, Try.ntmps32
    go_wp2
    go_ret
    exact ⟨_, rfl, Kd.N_nil _ _ _ _ _, Below.refl _ _⟩
  · have HR := Aside0.mk (Kd.F_bound hF)
    clear hF hs0
    go_enter Try.func32, Try.ntmps32
    go_wp2_with (first | ((with_reducible refine gate_dst (N := 5) rfl ?_); refine Kd.N_lit k42 w.heap.size 42 ?hg (N' := 5) ?hd (xs := ([] : List S42)) (inner := []) (ok := fun k => (P0_ k ∧ k < w.heap.size) ∨ w.heap.size ≤ k) (okp := fun _ => False) ?hr ?hp (fun _ hk => hk.elim) (Or.inr (Nat.le_refl _)) (Below.refl _ _) (Nat.le_refl _) (by simp) ?_; (case hd => rfl); (case hg => rfl); (case hr => first | (go_simp; done) | (go_simp; rfl)); (case hp => exact (Reps.none _ _)); intro v5 w5 ho5 hb5 hg5 hn5; have HO5 := Aside0.mk ho5; have HB5 := Aside0.mk hb5; have HN5 := Aside0.mk hn5; clear ho5 hb5 hg5 hn5) | (at_builtin; refine Kd.N_append_rows k42 (w0 := w) w.heap.size rfl (.tmp 5) (.tmp 6) 23 42 (.agg #[(.int .i64 0), (.int .i64 0), (.slice none 0 0)]) 40 rfl Try.underlying23 info42 rfl (by decide) (by omega) v5 [] l0 _ _ _ (fun k => (P0_ k ∧ k < w.heap.size) ∨ w.heap.size ≤ k) (fun k => P0_ k ∧ k < w.heap.size) rfl rfl HO5.out (Kd.F_below HR.out HB5.out) (fun k hk => ⟨Or.inl hk, fun he => by obtain ⟨b, hb, hle⟩ := HN5.out; rw [hb] at he; injection he with he; have := hk.2; omega⟩) (fun k hk => Or.inr (Nat.le_trans HB5.out.size hk)) HB5.out HB5.out.size (by simpa using hl) ?_; intro v7 w7 ho7 hb7 _ _))
    go_ret
    exact ⟨_, rfl, by simpa using Kd.N_mono ho7 (fun k hk => hk.imp (fun h => h.1) id), hb7⟩
end Go.Proofs.Ytldpaoaiapedjaa.Q
