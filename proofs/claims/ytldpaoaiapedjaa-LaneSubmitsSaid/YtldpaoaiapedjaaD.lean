/- slices.DeleteFunc and slices.IndexFunc of batches at the closure of lane.Ordered, the row being the caller's own, its elements' cells alone being told. Condition: the row's bytes. -/
import Derived.Test.YtldpaoaiapedjaaK
namespace Go.Proofs.Ytldpaoaiapedjaa.Q
open Go.RowKit Go.Proofs.YtldpaoaiapedjaaW.PrintWords Go.Proofs.YtldpaoaiapedjaaW.PrintLast Go.Proofs.YtldpaoaiapedjaaW.PrintMore
set_option linter.unusedVariables false
set_option linter.unusedSimpArgs false
/-- A batch's cells: its numbers, and its row as it lies. -/
structure SB where
  f0 : Int
  f1 : Int
  f2 : Option Addr
  f3 : Nat
  f4 : Nat
def zB : SB := ⟨0, 0, none, 0, 0⟩
def encB0 (x : SB) : List Value := [.int .i64 x.f0, .int .i64 x.f1, .slice x.f2 x.f3 x.f4]
def kB : Kd SB where
  sz := 3
  E := []
  K := fun _ x cs => cs = encB0 x
  M := fun _ _ _ x cs => cs = encB0 x
  K_len := by rintro _ _ _ rfl; rfl
  K_one := by rintro _ x _ rfl u hu; simp [encB0] at hu; rcases hu with rfl | rfl | rfl <;> rfl
  K_below := fun _ h => h
  K_of_M := fun h => h
  M_mono := fun _ h => h
  M_bound := fun h => h
  M_move := fun _ h => h
  M_lower := fun _ h => h
theorem kB_open {w : World} {x : SB} {cs : List Value} (h : kB.K w x cs) : cs = [.int .i64 x.f0, .int .i64 x.f1, .slice x.f2 x.f3 x.f4] := h
theorem kB_openM {w : World} {base : Nat} {ok : Nat → Prop} {x : SB} {cs : List Value} (h : kB.M w base ok x cs) : cs = [.int .i64 x.f0, .int .i64 x.f1, .slice x.f2 x.f3 x.f4] := h
theorem kB_mk (w : World) (x : SB)  : kB.K w x [.int .i64 x.f0, .int .i64 x.f1, .slice x.f2 x.f3 x.f4] := rfl
theorem kB_mkM (w : World) (base : Nat) (ok : Nat → Prop) (x : SB)  : kB.M w base ok x [.int .i64 x.f0, .int .i64 x.f1, .slice x.f2 x.f3 x.f4] := rfl
def rd_TB (xs : List SB) (i : Int) : SB := xs.getD i.toNat zB
theorem at_TB {w : World} {A : Option Addr} {n : Nat} {xs : List SB} (h : Kd.C kB w A n xs) (i : Int) (h0 : 0 ≤ i) (h1 : i < n) : ∃ ad , A = some ad ∧ w.cell? (ad.add (i.toNat * 3)) = some (.int .i64 (rd_TB xs i).f0) ∧ w.cell? ⟨(ad.add (i.toNat * 3)).block, (ad.add (i.toNat * 3)).off + 1, none⟩ = some (.int .i64 (rd_TB xs i).f1) ∧ w.cell? ⟨(ad.add (i.toNat * 3)).block, (ad.add (i.toNat * 3)).off + 2, none⟩ = some (.slice (rd_TB xs i).f2 (rd_TB xs i).f3 (rd_TB xs i).f4) := by
  obtain ⟨ad, c, e, _, hK, hc0⟩ := Kd.C_get h zB i h0 h1
  have hc : ∀ j u, c[j]? = some u → w.cell? (ad.add (i.toNat * 3 + j)) = some u := hc0
  obtain rfl := kB_open hK
  exact ⟨ad, e, hc 0 _ rfl, by rw [← add_field _ _ 1 (by omega)]; exact hc 1 _ rfl, by rw [← add_field _ _ 2 (by omega)]; exact hc 2 _ rfl⟩

def encB (x : SB) : List Value := [.int .i64 x.f0, .int .i64 x.f1, .slice x.f2 x.f3 x.f4]
theorem encB_len (x : SB) : (encB x).length = 3 := rfl
theorem encB_one (x : SB) : ∀ v ∈ encB x, v.oneCell' = true := by
  intro v hv
  simp [encB] at hv
  rcases hv with rfl | rfl | rfl <;> rfl
theorem flatB_one (xs : List SB) : ∀ v ∈ xs.flatMap encB, v.oneCell' = true := by
  intro v hv
  obtain ⟨x, _, h⟩ := List.mem_flatMap.1 hv
  exact encB_one x v h
theorem RB_flat {w : World} {base : Nat} {ok : Nat → Prop} {v : Value} {xs : List SB} (h : Kd.R kB 42 w base ok v xs) : (∀ k, v.ownBlock = some k → ok k) ∧ w.ownsRow base 42 3 v xs.length (xs.flatMap encB) := by
  obtain ⟨h0, inner, ho, hr⟩ := h
  have := flat_of_reps (enc := encB) (k := 3) (fun x c hc => kB_openM hc) encB_len xs inner hr
  subst this
  exact ⟨h0, ho⟩
theorem flat_RB {w : World} {base : Nat} {ok : Nat → Prop} {v : Value} {xs : List SB} (h0 : ∀ k, v.ownBlock = some k → ok k) (ho : w.ownsRow base 42 3 v xs.length (xs.flatMap encB)) : Kd.R kB 42 w base ok v xs :=
  ⟨h0, _, ho, reps_of_flat (fun x => kB_mkM _ _ _ x) encB_len xs⟩
def givesB (g gb : Nat) (p : SB → Bool) (w : World) : Prop :=
  ∀ (W : World) (x : SB), Below w.heap.size w W → Calls Try.prog g #[.agg (encB x).toArray, .pointer (some ⟨gb, 0, none⟩)] W fun e w' => e = .returned (.bool (p x)) ∧ Below W.heap.size W w'

set_option maxHeartbeats 8000000 in
set_option maxRecDepth 100000 in
theorem indexB.calls (g gb : Nat) (p : SB → Bool) (A0 : Option Addr) (c0 : Nat) (l0 : List (SB)) (w : World) (hr0 : Kd.C kB w A0 l0.length l0) (hc0 : l0.length ≤ c0) (hl : l0.length ≤ 9223372036854775807)
    (eg : ∀ args w, (callFunc g args).run Try.prog w = .ok (.enter g args) w) (hp : givesB g gb p w) :
    Calls Try.prog 41 #[.slice A0 l0.length c0, .func (.func g) #[] #[.pointer (some ⟨gb, 0, none⟩)]] w fun e w' => e = .returned (.int .i64 (idxOf p l0)) ∧ Below w.heap.size w w' := by
  have hu24 := Try.underlying42
  have HR0 := Aside0.mk hr0
  have HP := Aside0.mk hp
  clear hr0 hp
  obtain ⟨n, hn⟩ : ∃ n, n = l0.length := ⟨_, rfl⟩
  have hn' := Aside0.mk hn
  rw [← hn] at hc0 hl ⊢
  clear hn
  go_enter Try.func41, Try.ntmps41
  go_wp2
  go_loopg [5, 8] n (fun gg _ s8 wr => ∃ kk : Nat, kk ≤ n ∧ n - kk ≤ gg ∧ s8 = .int .i64 kk ∧ Aside0 (Below w.heap.size w wr) ∧ Aside0 (∀ j, j < kk → p (rd_TB l0 (j : Int)) = false))
  case atStart => exact ⟨0, Nat.zero_le _, by omega, rfl, ⟨Below.refl _ w⟩, ⟨fun j hj => absurd hj (Nat.not_lt_zero _)⟩⟩
  case round =>
    obtain ⟨kk, hkk, hg, rfl, BW, A⟩ := hrel
    by_cases hlt : kk < n
    · have hltz : (kk : Int) < (n : Int) := by omega
      obtain ⟨ad, rfl, hx0, hx1, hx2⟩ := at_TB HR0.out (kk : Int) (by omega) (by rw [← hn'.out]; exact hltz)
      replace hx0 := (BW.out.cell (World.block_lt_of_cell? w _ hx0)).trans hx0
      replace hx1 := (BW.out.cell (World.block_lt_of_cell? w _ hx1)).trans hx1
      replace hx2 := (BW.out.cell (World.block_lt_of_cell? w _ hx2)).trans hx2
      have hcall := HP.out wr (rd_TB l0 (kk : Int)) BW.out
      obtain ⟨y, hy⟩ : ∃ y, y = rd_TB l0 (kk : Int) := ⟨_, rfl⟩
      rw [← hy] at hx0 hx1 hx2 hcall
      have hy' := Aside0.mk hy
      clear hy
      have hnn : (kk : Int).toNat = kk := by omega
      rw [hnn] at hx0 hx1 hx2
      have hcall' := Aside0.mk hcall
      clear hcall
      cases hq : p y with
      | true =>
        rw [hq] at hcall'
        go_wp2
        refine hcall'.out.mono ?_
        rintro e w' ⟨rfl, hb'⟩
        have HB2 := Aside0.mk (below_step BW.out hb')
        clear hb'
        dsimp only
        go_wp2
        go_ret
        refine ⟨?_, HB2.out⟩
        have e1 : l0.findIdx p = kk := findIdx_hit (z := zB) l0 p kk (by rw [← hn'.out]; exact hlt) (by show p (rd_TB l0 ((kk : Nat) : Int)) = true; rw [← hy'.out]; exact hq) (fun j hj => A.out j hj)
        rw [show idxOf p l0 = (kk : Int) by unfold idxOf; rw [e1, if_pos (by rw [← hn'.out]; exact hlt)]]
        rfl
      | false =>
        rw [hq] at hcall'
        go_wp2
        refine hcall'.out.mono ?_
        rintro e w' ⟨rfl, hb'⟩
        have HB2 := Aside0.mk (below_step BW.out hb')
        clear hb'
        dsimp only
        go_wp2
        go_roundg (n - (kk + 1))
        case measure => omega
        case rel =>
          refine ⟨kk + 1, by omega, by omega, by go_num, HB2, ⟨fun j hj => ?_⟩⟩
          by_cases e : j = kk
          · subst e
            rw [← hy'.out]; exact hq
          · exact A.out j (by omega)
    · have hltz : ¬ (kk : Int) < (n : Int) := by omega
      obtain rfl : kk = n := by omega
      go_wp2
      go_ret
      refine ⟨?_, BW.out⟩
      have e1 : l0.findIdx p = l0.length := findIdx_miss (z := zB) l0 p (fun j hj => A.out j (by rw [hn'.out]; exact hj))
      rw [show idxOf p l0 = -1 by unfold idxOf; rw [e1, if_neg (Nat.lt_irrefl _)]]
      rfl
theorem run_clear_rowK {P : Program} (w : World) (t e ty : TypeId) (z : Value) (ht : P.underlying t = some (.slice e)) (hv : ∀ w, (zeroValue e).run P w = .ok z w) (g o n c : Nat) (hn : 0 < n) (cur : List Value) (t' : TypeId) (hg : w.heap[g]? = some (.cells cur.toArray t' (0, 0)))
    (zs : List Value) (hz : (Builtin.zeroCells z.cells n).toList = zs) (h1 : ∀ v ∈ zs, v.oneCell' = true) (hfit : o + zs.length ≤ cur.length) :
    (Builtin.clear_ #[t] ty #[.slice (some ⟨g, o, none⟩) n c]).run P w = .ok (.tuple #[]) (w.setRow g (cur.take o ++ zs ++ cur.drop (o + zs.length)).toArray) := by
  have hst := run_storeCells_at P g o t' zs 0 cur.toArray w hg (by simpa using hfit) h1
  simp only [Nat.add_zero] at hst
  obtain ⟨m, rfl⟩ : ∃ m, n = m + 1 := ⟨n - 1, by omega⟩
  simp [Builtin.clear_, run_underlying ht, hv, hz, hst]
theorem below_weak {B : Nat} {w w1 : World} (hB : B ≤ w.heap.size) (h : Below w.heap.size w w1) : Below B w w1 := ⟨h.os, h.tape, h.output, h.size, fun k hk => h.block k (Nat.lt_of_lt_of_le hk hB)⟩
def seqV (low : Int) (x : SB) : Bool := decide (x.f1 = low)
/-- The closure of lane.Ordered, in whatever world its box lies. -/
def givesSeq (gb : Nat) (low : Int) : Prop :=
  ∀ (W : World) (x : SB), W.heap[gb]? = some (.cells #[.int .i64 low] 3 (0, 0)) → Calls Try.prog 36 #[.agg (encB x).toArray, .pointer (some ⟨gb, 0, none⟩)] W fun e w' => e = .returned (.bool (seqV low x)) ∧ Below W.heap.size W w'
set_option maxHeartbeats 8000000 in
set_option maxRecDepth 100000 in
theorem closure36.calls (gb : Nat) (low : Int) : givesSeq gb low := by
  intro W x hG
  have hu42 := Try.underlying42
  have BK := Aside0.mk hG
  have HB := Aside0.mk (Below.refl W.heap.size W)
  clear hG
  show Calls Try.prog 36 #[.agg #[.int .i64 x.f0, .int .i64 x.f1, .slice x.f2 x.f3 x.f4], .pointer (some ⟨gb, 0, none⟩)] W _
  go_enter Try.func36, Try.ntmps36
  go_wp2_with ((with_reducible refine gate_dst (N := 2) rfl ?_); refine box_event ?hg (N := 2) ?hd (cs := #[.int .i64 x.f0, .int .i64 x.f1, .slice x.f2 x.f3 x.f4]) (t := 42) ?hr ?_; (case hd => rfl); (case hg => rfl); (case hr => first | (go_simp; done) | (go_simp; rfl)); intro g2 hg w2 hbox hb; have n0_ := Aside0.mk (blk_below BK.out hb); have n1_ := Aside0.mk (below_step HB.out hb); clear BK HB; have BK := n0_; have HB := n1_; clear n0_ n1_; have hc0 : w2.cell? ⟨gb, 0, none⟩ = some (.int .i64 low) := (blk_cell BK.out 0).trans rfl; have hd0 : w2.cell? ⟨g2, 0, none⟩ = some (.int .i64 x.f0) := (blk_cell hbox 0).trans rfl; have hd1 : w2.cell? ⟨g2, 1, none⟩ = some (.int .i64 x.f1) := (blk_cell hbox 1).trans rfl; clear hb hbox hg)
  go_ret
  exact ⟨rfl, HB.out⟩
theorem wpList_clearK {P : Program} {w : World} {ops : Array Oper} {rest : List Oper} {o : Oper} {a : Act} {Q : Exit → Act → World → Prop} (hgd : o.guard = none) (d : Operand) (dT : TypeId)
    (ho : o.op = .call { callee := .builtin .clear, args := #[d], argTypes := #[dT] }) (elem : TypeId) (z : Value) (hu : P.underlying dT = some (.slice elem)) (hv : ∀ w, (zeroValue elem).run P w = .ok z w)
    (dp : Option Addr) (n c : Nat) (hd : a.eval d = .slice dp n c) (g off : Nat) (hdp : dp = some ⟨g, off, none⟩) (hn : 0 < n) (cur : List Value) (t : TypeId) (hg : w.heap[g]? = some (.cells cur.toArray t (0, 0)))
    (zs : List Value) (hz : (Builtin.zeroCells z.cells n).toList = zs) (h1 : ∀ v ∈ zs, v.oneCell' = true) (hfit : off + zs.length ≤ cur.length) (B : Nat) (w0 : World) (hb : Below B w0 w) (hBg : B ≤ g)
    (h : ∀ w', Aside0 (w'.heap[g]? = some (.cells (cur.take off ++ zs ++ cur.drop (off + zs.length)).toArray t (0, 0))) → Below B w0 w' → wpList P ops Q rest (a.put o.dst (.tuple #[])) w') :
    wpList P ops Q (o :: rest) a w := by
  refine wpList_plain hgd fun K hK => ?_
  subst hdp
  have hrun := run_clear_rowK (P := P) w dT elem o.type z hu hv g off n c hn cur t hg zs hz h1 hfit
  unfold Oper.wp
  simp [execOp, ho, resolve, invoke, builtin, hd, hrun, Result.andThen]
  refine hK _ _ (h _ ⟨?_⟩ (below_setRow' hb hBg _))
  simpa using setRow_heap w g _ _ t _ hg

theorem R_C {α : Type} {d : Kd α} {e : Nat} {w : World} {base : Nat} {ok : Nat → Prop} {A : Option Addr} {c : Nat} {xs : List α} (h : d.R e w base ok (.slice A xs.length c) xs) : d.C w A xs.length xs := by
  obtain ⟨A', c', e1, _, h⟩ := Kd.R_reads h
  injection e1 with e1 e2 e3
  subst e1
  exact h
theorem filt_succ {p : SB → Bool} {xs : List SB} {j : Nat} (hj : j < xs.length) : (xs.take (j + 1)).filter p = (xs.take j).filter p ++ if p xs[j] = true then [xs[j]] else [] := by
  rw [List.take_succ_eq_append_getElem hj, List.filter_append]
  congr 1
  cases h : p xs[j] <;> simp [h]
theorem rd_at (l : List SB) (i : Nat) (h : i < l.length) : rd_TB l (i : Int) = l[i] := by
  show l.getD ((i : Int).toNat) zB = _
  rw [Int.toNat_natCast, List.getD_eq_getElem?_getD, List.getElem?_eq_getElem h]
  rfl

set_option maxHeartbeats 8000000 in
set_option maxRecDepth 100000 in
/-- slices.DeleteFunc with the closure of lane.Ordered, the row being the caller's own. -/
theorem deleteB.calls (gb : Nat) (low : Int) (v : Value) (xs : List SB) (w : World) (B : Nat) (HO : Kd.R kB 42 w B (fun _ => True) v xs) (hl : xs.length * 40 ≤ 140737488355328) (hB : B ≤ w.heap.size) (hgb : w.heap[gb]? = some (.cells #[.int .i64 low] 3 (0, 0))) :
    Calls Try.prog 35 #[v, .func (.func 36) #[] #[.pointer (some ⟨gb, 0, none⟩)]] w fun e w' => ∃ v', e = .returned v' ∧ Kd.R kB 42 w' B (fun _ => True) v' (xs.filter (fun x => !seqV low x)) ∧ Below B w w' := by
  have hu42 := Try.underlying42
  obtain ⟨A, c, rfl, hc, hC⟩ := Kd.R_reads HO
  have hgl : gb < w.heap.size := (Array.getElem?_eq_some_iff.1 hgb).1
  have hp : givesB 36 gb (seqV low) w := fun W x hW => closure36.calls gb low W x ((hW.block gb hgl).trans hgb)
  have HO0 := Aside0.mk HO
  have BK0 := Aside0.mk hgb
  have HB0 := Aside0.mk (Below.refl B w)
  have HC0 := Aside0.mk hC
  have HP := Aside0.mk hp
  clear HO hgb hC hp
  have argf : ∀ args w, (callFunc 36 args).run Try.prog w = .ok (.enter 36 args) w := fun args w => by go_simp
  by_cases hlt : xs.findIdx (seqV low) < xs.length
  · obtain ⟨i0, hi0⟩ : ∃ i0, i0 = xs.findIdx (seqV low) := ⟨_, rfl⟩
    have hidx := Aside0.mk (show idxOf (seqV low) xs = ((i0 : Nat) : Int) by unfold idxOf; rw [if_pos hlt, hi0])
    rw [← hi0] at hlt
    have hbefore : (xs.take (i0 + 1)).filter (fun x => !seqV low x) = xs.take i0 := by
      rw [filt_succ hlt]
      have h1 : seqV low xs[i0] = true := by
        have := List.findIdx_getElem (xs := xs) (p := seqV low) (w := by omega)
        simp only [← hi0] at this
        exact this
      rw [h1]
      simp only [Bool.not_true, if_neg (show ¬ (false = true) by decide), List.append_nil]
      rw [List.filter_eq_self]
      intro x hx
      obtain ⟨q, hq, rfl⟩ := List.mem_iff_getElem.1 hx
      rw [List.length_take] at hq
      have := List.not_of_lt_findIdx (xs := xs) (p := seqV low) (i := q) (by omega)
      rw [List.getElem_take]
      simpa using this
    have HF0 := Aside0.mk hbefore
    clear hbefore hi0
    rcases A with _ | ⟨g, go, gs⟩
    · exact absurd (nil_of_none HC0.out) (by intro e; rw [e] at hlt; simp at hlt)
    obtain ⟨rfl, rfl⟩ : go = 0 ∧ gs = none := by
      obtain ⟨_, inner, ho, _⟩ := HO0.out
      rcases ho.2 with ⟨h, _⟩ | ⟨g1, c1, cur, h, _⟩
      · cases h
      · injection h with h
        injection h with h
        injection h with h1 h2 h3
        exact ⟨h2, h3⟩
    have hgne : gb ≠ g := by
      have h1 := Kd.R_ne HO0.out BK0.out (by decide)
      intro e
      exact h1 (by rw [e]; rfl)
    have hBg : B ≤ g := own_base (Kd.R_own HO0.out).choose_spec g rfl
    have hw1 : IntKind.i64.wrap ((i0 : Int) + 1) = (i0 : Int) + 1 := by rw [IntKind.wrap_i64]; omega
    have hneq : ((i0 : Int) == (-1 : Int)) = false := by rw [beq_eq_false_iff_ne]; omega
    have hneq2 : ¬ ((i0 : Int) = -1) := by omega
    go_enter Try.func35, Try.ntmps35
    go_wp2_with ((with_reducible refine gate_callee (f := 41) rfl ?_); refine goesL_ (some 10) rfl rfl Try.func41 (by kernel_rfl) rfl #[.slice (some ⟨g, 0, none⟩) xs.length c, .func (.func 36) #[] #[.pointer (some ⟨gb, 0, none⟩)]] rfl (by (try simp only [List.map_toArray, List.map_cons, List.map_nil]); first | done | rfl) ?_; refine (indexB.calls 36 gb (seqV low) (some ⟨g, 0, none⟩) c xs w HC0.out hc (by omega) argf HP.out).mono ?_; rintro e w2 ⟨rfl, hb2⟩; refine ⟨_, rfl, ?_⟩; have HO2 := Aside0.mk (Kd.R_below HO0.out hb2); have HB2 := Aside0.mk (below_weak hB hb2); have BK2 := Aside0.mk (blk_below BK0.out hb2); clear hb2; rw [hidx.out])
    go_loopg [5, 6] xs.length (fun gg s5 s6 wr => ∃ (i j : Nat) (ys : List SB), s5 = .int .i64 i ∧ s6 = .int .i64 j ∧ i < j ∧ j ≤ xs.length ∧ xs.length - j ≤ gg ∧ ys.length = xs.length ∧ Aside0 (Kd.R kB 42 wr B (fun _ => True) (.slice (some ⟨g, 0, none⟩) ys.length c) ys) ∧ Aside0 (ys.take i = (xs.take j).filter (fun x => !seqV low x)) ∧ Aside0 (ys.drop j = xs.drop j) ∧ Aside0 (wr.heap[gb]? = some (.cells #[.int .i64 low] 3 (0, 0))) ∧ Aside0 (Below B w wr))
    case atStart => exact ⟨i0, i0 + 1, xs, rfl, rfl, by omega, by omega, by omega, rfl, HO2, ⟨HF0.out.symm⟩, ⟨rfl⟩, BK2, HB2⟩
    case round =>
      obtain ⟨i, j, ys, rfl, rfl, hij, hjn, hg, hyl, HO, HT, HD, BK, HB⟩ := hrel
      by_cases hjl : j < xs.length
      · have hjz : (j : Int) < (xs.length : Int) := by omega
        have hjz2 : decide ((j : Int) < (xs.length : Int)) = true := decide_eq_true hjz
        have h0z : (0 : Int) ≤ (j : Int) := by omega
        have hwj : IntKind.i64.wrap ((j : Int) + 1) = (j : Int) + 1 := by rw [IntKind.wrap_i64]; omega
        have hwi : IntKind.i64.wrap ((i : Int) + 1) = (i : Int) + 1 := by rw [IntKind.wrap_i64]; omega
        obtain ⟨ad, e, hx0, hx1, hx2⟩ := at_TB (R_C HO.out) (j : Int) (by omega) (by omega)
        obtain rfl := Option.some.inj e
        have hyx : rd_TB ys (j : Int) = xs[j] := by
          rw [rd_at ys j (by omega)]
          have h1 := List.drop_eq_getElem_cons (l := ys) (i := j) (by omega)
          have h2 := List.drop_eq_getElem_cons (l := xs) (i := j) hjl
          rw [HD.out, h2] at h1
          exact (List.cons.inj h1).1.symm
        rw [hyx] at hx0 hx1 hx2
        obtain ⟨x, hx⟩ : ∃ x, x = xs[j] := ⟨_, rfl⟩
        rw [← hx] at hx0 hx1 hx2
        have hx' := Aside0.mk hx
        clear hx hyx e
        simp only [Addr.add_lit, Nat.zero_add, Int.toNat_natCast] at hx0 hx1 hx2
        rw [← hyl] at hjz hjz2
        have HO1 := HO
        rw [hyl] at HO
        cases hq : seqV low x with
        | true =>
          go_wp2_with ((with_reducible refine gate_dst (N := 7) rfl ?_); refine box_event ?hg (N := 7) ?hd (cs := #[.int .i64 0, .int .i64 0, .slice none 0 0]) (t := 42) ?hr ?_; (case hd => rfl); (case hg => rfl); (case hr => first | (go_simp; done) | (go_simp; rfl)); intro g7 hg7 w7 hbox hb; have hcz0 : w7.cell? ⟨g7, 0, none⟩ = some (.int .i64 0) := (blk_cell hbox 0).trans rfl; have hcz1 : w7.cell? ⟨g7, 1, none⟩ = some (.int .i64 0) := (blk_cell hbox 1).trans rfl; have hcz2 : w7.cell? ⟨g7, 2, none⟩ = some (.slice none 0 0) := (blk_cell hbox 2).trans rfl; have hfz0 := blk_frozen hbox 0; have hfz1 := blk_frozen hbox 1; have hfz2 := blk_frozen hbox 2; have hb' := Aside0.mk hb; have hg7' := Aside0.mk hg7; clear hb hg7 hbox)
          obtain ⟨W3, hW3⟩ : ∃ W3, W3 = ((w7.setCell ⟨g7, 0, none⟩ (.int .i64 x.f0)).setCell ⟨g7, 1, none⟩ (.int .i64 x.f1)).setCell ⟨g7, 2, none⟩ (.slice x.f2 x.f3 x.f4) := ⟨_, rfl⟩
          rw [← hW3]
          have hge : wr.heap.size ≤ g7 := by rw [hg7'.out]; exact Nat.le_refl _
          have HBw : Below wr.heap.size wr W3 := by rw [hW3]; exact below_set (below_set (below_set hb'.out hge) hge) hge
          have hv0 : W3.cell? ⟨g7, 0, none⟩ = some (.int .i64 x.f0) := by rw [hW3]; go_simp
          have hv1 : W3.cell? ⟨g7, 1, none⟩ = some (.int .i64 x.f1) := by rw [hW3]; go_simp
          have hv2 : W3.cell? ⟨g7, 2, none⟩ = some (.slice x.f2 x.f3 x.f4) := by rw [hW3]; go_simp
          clear hW3 hcz0 hcz1 hcz2 hfz0 hfz1 hfz2 hx0 hx1 hx2
          refine (closure36.calls gb low W3 x (blk_below BK.out HBw)).mono ?_
          rintro e w8 ⟨rfl, hb8⟩
          have HB8 := Aside0.mk (below_step HBw hb8)
          have hz0 := (hb8.cell (World.block_lt_of_cell? W3 _ hv0)).trans hv0
          have hz1 := (hb8.cell (World.block_lt_of_cell? W3 _ hv1)).trans hv1
          have hz2 := (hb8.cell (World.block_lt_of_cell? W3 _ hv2)).trans hv2
          clear hv0 hv1 hv2 hb8 HBw
          have HO8 := Aside0.mk (Kd.R_below HO1.out HB8.out)
          have BK8 := Aside0.mk (blk_below BK.out HB8.out)
          have HBB := Aside0.mk (Below.trans HB.out (below_weak (Nat.le_trans hB HB.out.size) HB8.out))
          rw [hq]
          dsimp only
          go_wp2
          go_roundg (xs.length - (j + 1))
          case measure => omega
          case rel => exact ⟨i, j + 1, ys, rfl, rfl, by omega, hjl, by omega, hyl, HO8, ⟨by rw [HT.out, filt_succ hjl, ← hx'.out, hq]; simp⟩, ⟨by rw [← List.drop_drop (i := 1), HD.out, List.drop_drop]⟩, BK8, HBB⟩
        | false =>
          go_wp2_with ((with_reducible refine gate_dst (N := 7) rfl ?_); refine box_event ?hg (N := 7) ?hd (cs := #[.int .i64 0, .int .i64 0, .slice none 0 0]) (t := 42) ?hr ?_; (case hd => rfl); (case hg => rfl); (case hr => first | (go_simp; done) | (go_simp; rfl)); intro g7 hg7 w7 hbox hb; have hcz0 : w7.cell? ⟨g7, 0, none⟩ = some (.int .i64 0) := (blk_cell hbox 0).trans rfl; have hcz1 : w7.cell? ⟨g7, 1, none⟩ = some (.int .i64 0) := (blk_cell hbox 1).trans rfl; have hcz2 : w7.cell? ⟨g7, 2, none⟩ = some (.slice none 0 0) := (blk_cell hbox 2).trans rfl; have hfz0 := blk_frozen hbox 0; have hfz1 := blk_frozen hbox 1; have hfz2 := blk_frozen hbox 2; have hb' := Aside0.mk hb; have hg7' := Aside0.mk hg7; clear hb hg7 hbox)
          obtain ⟨W3, hW3⟩ : ∃ W3, W3 = ((w7.setCell ⟨g7, 0, none⟩ (.int .i64 x.f0)).setCell ⟨g7, 1, none⟩ (.int .i64 x.f1)).setCell ⟨g7, 2, none⟩ (.slice x.f2 x.f3 x.f4) := ⟨_, rfl⟩
          rw [← hW3]
          have hge : wr.heap.size ≤ g7 := by rw [hg7'.out]; exact Nat.le_refl _
          have HBw : Below wr.heap.size wr W3 := by rw [hW3]; exact below_set (below_set (below_set hb'.out hge) hge) hge
          have hv0 : W3.cell? ⟨g7, 0, none⟩ = some (.int .i64 x.f0) := by rw [hW3]; go_simp
          have hv1 : W3.cell? ⟨g7, 1, none⟩ = some (.int .i64 x.f1) := by rw [hW3]; go_simp
          have hv2 : W3.cell? ⟨g7, 2, none⟩ = some (.slice x.f2 x.f3 x.f4) := by rw [hW3]; go_simp
          clear hW3 hcz0 hcz1 hcz2 hfz0 hfz1 hfz2 hx0 hx1 hx2
          refine (closure36.calls gb low W3 x (blk_below BK.out HBw)).mono ?_
          rintro e w8 ⟨rfl, hb8⟩
          have HB8 := Aside0.mk (below_step HBw hb8)
          have hz0 := (hb8.cell (World.block_lt_of_cell? W3 _ hv0)).trans hv0
          have hz1 := (hb8.cell (World.block_lt_of_cell? W3 _ hv1)).trans hv1
          have hz2 := (hb8.cell (World.block_lt_of_cell? W3 _ hv2)).trans hv2
          clear hv0 hv1 hv2 hb8 HBw
          have HO8 := Aside0.mk (Kd.R_below HO1.out HB8.out)
          have BK8 := Aside0.mk (blk_below BK.out HB8.out)
          have HBB := Aside0.mk (Below.trans HB.out (below_weak (Nat.le_trans hB HB.out.size) HB8.out))
          rw [hq]
          dsimp only
          have hil : (i : Int) < (xs.length : Int) := by omega
          have hilz : decide ((i : Int) < (xs.length : Int)) = true := decide_eq_true hil
          have h0i : (0 : Int) ≤ (i : Int) := by omega
          obtain ⟨ad, e, hy0, hy1, hy2⟩ := at_TB (R_C HO8.out) (i : Int) (by omega) (by omega)
          obtain rfl := Option.some.inj e
          simp only [Addr.add_lit, Nat.zero_add, Int.toNat_natCast] at hy0 hy1 hy2
          have HY := Aside0.mk (And.intro hy0 (And.intro hy1 hy2))
          clear hy0 hy1 hy2 e
          go_wp2_with ((with_reducible refine gate_ (.store 42 (.tmp 33) (.tmp 32)) rfl ?_); go_loud (refine Kd.R_store kB (w0 := w) B rfl rfl 42 (.tmp 33) (.tmp 32) rfl 42 (i : Int) 0 ys x (.agg (encB x).toArray) (encB x) (encB (rd_TB ys (i : Int))) (fun _ => True) (fun _ => False) rfl ?s1 rfl rfl ?s2 (encB_one x) HO8.out h0i (by omega) rfl ?s3 (Nat.le_refl 3) ?s4 (fun _ h => h.elim) HBB.out ?_; (case s1 => (show i * 3 = (i : Int).toNat * 3 + 0; omega)); (case s2 => kernel_rfl); (case s4 => exact kB_mkM _ _ _ x); (case s3 => (intro q u hqu; rcases q with _ | _ | _ | q <;> simp [encB] at hqu; exact hqu ▸ HY.out.1; exact hqu ▸ HY.out.2.1; exact hqu ▸ HY.out.2.2)); intro w9 ho9 hb9 hg9; have HO9 := Aside0.mk ho9; have HB9 := Aside0.mk hb9; have BK9 := Aside0.mk ((hg9.block gb (Array.getElem?_eq_some_iff.1 BK8.out).1 (fun e => hgne (Option.some.inj e))).trans BK8.out); clear ho9 hb9 hg9))
          go_roundg (xs.length - (j + 1))
          case measure => omega
          case rel =>
            refine ⟨i + 1, j + 1, ys.set i x, rfl, rfl, by omega, hjl, by omega, by rw [List.length_set]; exact hyl, ⟨by rw [List.length_set]; exact HO9.out⟩, ⟨?_⟩, ⟨?_⟩, BK9, HB9⟩
            · rw [filt_succ hjl, ← hx'.out, hq, ← HT.out]
              rw [List.take_succ_eq_append_getElem (by rw [List.length_set]; omega), List.getElem_set_self, List.take_set_of_le (Nat.le_refl _)]
              rfl
            · rw [List.drop_set_of_lt (by omega), ← List.drop_drop (i := 1), HD.out, List.drop_drop]
      · obtain rfl : j = xs.length := by omega
        have hci : ¬ (c = i) := by omega
        have hjz2 : decide ((xs.length : Int) < (xs.length : Int)) = false := decide_eq_false (by omega)
        obtain ⟨i1, hi1, hz0, hzs, hzb⟩ := info_parts info42
        have hzv : ∀ w, (zeroValue 42).run Try.prog w = .ok (.agg #[(.int .i64 0), (.int .i64 0), (.slice none 0 0)]) w := fun w => by simp [zeroValue, typeInfo, hi1, hz0]
        obtain ⟨_, hlen, hv⟩ := RB_flat HO.out
        rcases hv with ⟨h, _⟩ | ⟨g1, c1, cur, h, _, hgc, hnc, hcm, hcs, hin⟩
        · cases h
        injection h with h1 h2 h3
        injection h1 with h1
        injection h1 with h1
        subst h1
        subst h3
        obtain ⟨L, hL⟩ : ∃ L, L = cur.toList := ⟨_, rfl⟩
        have hgL : wr.heap[g]? = some (.cells L.toArray 42 (0, 0)) := by rw [hL, Array.toArray_toList]; exact hgc
        have hLl : L.length = c * 3 := by rw [hL, Array.length_toList]; exact hcs
        have hLin : L.take (ys.length * 3) = ys.flatMap encB := by rw [hL]; exact hin
        have hzeq : (Builtin.zeroCells (Value.agg #[(.int .i64 0), (.int .i64 0), (.slice none 0 0)]).cells (xs.length - i)).toList = (List.replicate (xs.length - i) zB).flatMap encB :=
          flat_of_reps (enc := encB) (k := 3) (fun x c hc => kB_open hc) encB_len _ _ (Kd.reps_zeros (z := Value.agg #[(.int .i64 0), (.int .i64 0), (.slice none 0 0)]) (R := kB.K wr) (z0 := zB) rfl (by decide) (kB_mk wr zB) (xs.length - i))
        have hzl : ((List.replicate (xs.length - i) zB).flatMap encB).length = (xs.length - i) * 3 := by rw [flat_len encB_len, List.length_replicate]
        have hgL' := Aside0.mk hgL
        have hLin' := Aside0.mk hLin
        clear hgc hin hcs hL hgL hLin hlen
        have hiz : (i : Int) ≤ (xs.length : Int) := by omega
        go_wp2_with ((with_reducible refine gate_builtin (b := .clear) (xs := #[.tmp 38]) rfl ?_); go_loud (refine wpList_clearK rfl (.tmp 38) 23 rfl 42 _ Try.underlying23 hzv _ _ _ rfl g (i * 3) ?s1 ?s2 L 42 hgL'.out _ hzeq (flatB_one _) (by omega) B w HB.out hBg ?_; (case s1 => simp); (case s2 => omega); intro w9 HG9 hb9; have HB9 := Aside0.mk hb9; clear hb9))
        go_ret
        refine ⟨_, rfl, ?_, HB9.out⟩
        have hfil : xs.filter (fun x => !seqV low x) = ys.take i := by rw [HT.out, List.take_of_length_le (Nat.le_refl _)]
        rw [hfil]
        refine flat_RB (fun _ _ => trivial) ?_
        have hti : (ys.take i).length = i := by rw [List.length_take]; omega
        rw [hti]
        refine ⟨by rw [flat_len encB_len, hti], .inr ⟨g, c, _, rfl, hBg, HG9.out, by omega, hcm, ?_, ?_⟩⟩
        · simp only [List.size_toArray, List.length_append, List.length_take, List.length_drop, hLl, hzl]
          omega
        · have h1 : (L.take (i * 3)).length = i * 3 := by rw [List.length_take]; omega
          show List.take (i * 3) (L.take (i * 3) ++ _ ++ _) = _
          rw [List.append_assoc, List.take_append_of_le_length (by omega), List.take_of_length_le (by omega), ← flat_take encB_len, ← hLin'.out, List.take_take, Nat.min_eq_left (by omega)]
  · have hidx := Aside0.mk (show idxOf (seqV low) xs = -1 by unfold idxOf; rw [if_neg hlt])
    have hall : xs.filter (fun x => !seqV low x) = xs := by
      rw [List.filter_eq_self]
      intro x hx
      have hlen : xs.findIdx (seqV low) = xs.length := Nat.le_antisymm List.findIdx_le_length (Nat.le_of_not_lt hlt)
      rw [List.findIdx_eq_length] at hlen
      rw [hlen x hx]
      rfl
    have hall' := Aside0.mk hall
    clear hlt hall
    go_enter Try.func35, Try.ntmps35
    go_wp2_with ((with_reducible refine gate_callee (f := 41) rfl ?_); refine goesL_ (some 10) rfl rfl Try.func41 (by kernel_rfl) rfl #[.slice A xs.length c, .func (.func 36) #[] #[.pointer (some ⟨gb, 0, none⟩)]] rfl (by (try simp only [List.map_toArray, List.map_cons, List.map_nil]); first | done | rfl) ?_; refine (indexB.calls 36 gb (seqV low) A c xs w HC0.out hc (by omega) argf HP.out).mono ?_; rintro e w2 ⟨rfl, hb2⟩; refine ⟨_, rfl, ?_⟩; have HO2 := Aside0.mk (Kd.R_below HO0.out hb2); have HB2 := Aside0.mk (below_weak hB hb2); clear hb2; rw [hidx.out])
    go_ret
    exact ⟨_, rfl, by rw [hall'.out]; exact HO2.out, HB2.out⟩
end Go.Proofs.Ytldpaoaiapedjaa.Q
