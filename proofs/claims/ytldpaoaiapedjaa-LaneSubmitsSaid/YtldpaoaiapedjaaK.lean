/- Laws of no program: copy(dst, src) of elements of k cells, dst lying in a row that is known whole; rows of elements whose cells are known (enc); cutting and joining them. -/
import Derived.Test.YtldpaoaiapedjaaE
import Derived.Lib.SliceRun
import Derived.Lib.Overlaps
import Derived.Lib.AppendZerosOnto
import Derived.Lib.AppendZeros
import Derived.Laws.Externs
import Derived.Laws.CopyRow
import Derived.Laws.NewBlocks
import Derived.Deep.RegionLaw
namespace Go.Proofs.Ytldpaoaiapedjaa.Q
open Go.RowKit Go.Proofs.YtldpaoaiapedjaaW.PrintWords Go.Proofs.YtldpaoaiapedjaaW.PrintLast Go.Proofs.YtldpaoaiapedjaaW.PrintMore
set_option linter.unusedVariables false
set_option linter.unusedSimpArgs false

theorem run_copy_rowK {P : Program} (w : World) (dT sT ty elem : TypeId) (g o dLen dCap : Nat) (a : Addr) (sLen sCap : Nat) (cur : Array Value) (t : TypeId) (cs : List Value) (i0 : TypeInfo) (n : Nat)
    (hu : P.underlying dT = some (.slice elem)) (hq : P.info? elem = some i0)
    (hg : w.heap[g]? = some (.cells cur t (0, 0))) (hn : n = Nat.min sLen dLen) (hcs : cs.length = n * i0.size)
    (hsrc : ∀ j v, cs[j]? = some v → w.cell? (a.add j) = some v) (hfit : o + cs.length ≤ cur.size) (h1 : ∀ v ∈ cs, v.oneCell' = true) :
    (Builtin.copy_ #[dT, sT] ty #[.slice (some ⟨g, o, none⟩) dLen dCap, .slice (some a) sLen sCap]).run P w =
      .ok (goInt n) (w.setRow g (cur.toList.take o ++ cs ++ cur.toList.drop (o + cs.length)).toArray) := by
  have hl := run_loadCells_list (P := P) w a cs hsrc
  have hst := run_storeCells_at P g o t cs 0 cur w hg (by simpa using hfit) h1
  rw [hcs] at hl
  simp [Builtin.copy_, run_underlying hu, Builtin.lenOf, Builtin.firstCells, sizeOf, typeInfo, hq, ← hn, hl, hst]

theorem below_setRow' {B g : Nat} {w0 w : World} (hb : Below B w0 w) (hBg : B ≤ g) (cs : Array Value) : Below B w0 (w.setRow g cs) :=
  hb.trans ⟨rfl, rfl, rfl, by simp [World.setRow], fun k hk => setRow_other w g k cs (by omega)⟩

/-- As a law for the walk: one step of a region that draws. -/
theorem step_copyK {P : Program} {ops : Array Oper} {o : Oper} {a : Act} {w : World} {K : Act → World → Prop} {Q : Exit → Act → World → Prop} {E : Prop} (hgd : o.guard = none) (d s : Operand) (dT sT : TypeId)
    (ho : o.op = .call { callee := .builtin .copy, args := #[d, s], argTypes := #[dT, sT] }) (elem : TypeId) (i0 : TypeInfo) (hu : P.underlying dT = some (.slice elem)) (hq : P.info? elem = some i0)
    (dp sp : Option Addr) (dLen dCap sLen sCap : Nat) (hd : a.eval d = .slice dp dLen dCap) (hs : a.eval s = .slice sp sLen sCap)
    (g off : Nat) (ad : Addr) (hdp : dp = some ⟨g, off, none⟩) (hsp : sp = some ad) (cur : List Value) (t : TypeId) (hg : w.heap[g]? = some (.cells cur.toArray t (0, 0))) (cs : List Value) (n : Nat) (hn : n = Nat.min sLen dLen) (hcs : cs.length = n * i0.size)
    (hsrc : ∀ j v, cs[j]? = some v → w.cell? (ad.add j) = some v)
    (hfit : off + cs.length ≤ cur.length) (h1 : ∀ v ∈ cs, v.oneCell' = true) (B : Nat) (w0 : World) (hb : Below B w0 w) (hBg : B ≤ g)
    (h : ∀ w', Aside0 (w'.heap[g]? = some (.cells (cur.take off ++ cs ++ cur.drop (off + cs.length)).toArray t (0, 0))) → (∀ k, k ≠ g → w'.heap[k]? = w.heap[k]?) → Below B w0 w' → K (a.put o.dst (goInt n)) w') :
    if Region.wanted o (yielded ops a.tmps) = true then Oper.wp P o a w K Q else E := by
  have hw : Region.wanted o (yielded ops a.tmps) = true := by simp [Region.wanted, hgd]
  rw [if_pos hw]
  subst hdp hsp
  have hrun := run_copy_rowK (P := P) w dT sT o.type elem g off dLen dCap ad sLen sCap cur.toArray t cs i0 n hu hq hg hn hcs hsrc (by simpa using hfit) h1
  unfold Oper.wp
  simp [execOp, ho, resolve, invoke, builtin, hd, hs, hrun, Result.andThen]
  refine h _ ⟨?_⟩ (fun k hk => setRow_other w g k _ hk) (below_setRow' hb hBg _)
  simpa using setRow_heap w g _ _ t _ hg

theorem wpList_copyK {P : Program} {w : World} {ops : Array Oper} {rest : List Oper} {o : Oper} {a : Act} {Q : Exit → Act → World → Prop} (hgd : o.guard = none) (d s : Operand) (dT sT : TypeId)
    (ho : o.op = .call { callee := .builtin .copy, args := #[d, s], argTypes := #[dT, sT] }) (elem : TypeId) (i0 : TypeInfo) (hu : P.underlying dT = some (.slice elem)) (hq : P.info? elem = some i0)
    (dp sp : Option Addr) (dLen dCap sLen sCap : Nat) (hd : a.eval d = .slice dp dLen dCap) (hs : a.eval s = .slice sp sLen sCap)
    (g off : Nat) (ad : Addr) (hdp : dp = some ⟨g, off, none⟩) (hsp : sp = some ad) (cur : List Value) (t : TypeId) (hg : w.heap[g]? = some (.cells cur.toArray t (0, 0))) (cs : List Value) (n : Nat) (hn : n = Nat.min sLen dLen) (hcs : cs.length = n * i0.size)
    (hsrc : ∀ j v, cs[j]? = some v → w.cell? (ad.add j) = some v)
    (hfit : off + cs.length ≤ cur.length) (h1 : ∀ v ∈ cs, v.oneCell' = true) (B : Nat) (w0 : World) (hb : Below B w0 w) (hBg : B ≤ g)
    (h : ∀ w', Aside0 (w'.heap[g]? = some (.cells (cur.take off ++ cs ++ cur.drop (off + cs.length)).toArray t (0, 0))) → (∀ k, k ≠ g → w'.heap[k]? = w.heap[k]?) → Below B w0 w' → wpList P ops Q rest (a.put o.dst (goInt n)) w') :
    wpList P ops Q (o :: rest) a w := by
  refine wpList_plain hgd fun K hK => ?_
  subst hdp hsp
  have hrun := run_copy_rowK (P := P) w dT sT o.type elem g off dLen dCap ad sLen sCap cur.toArray t cs i0 n hu hq hg hn hcs hsrc (by simpa using hfit) h1
  unfold Oper.wp
  simp [execOp, ho, resolve, invoke, builtin, hd, hs, hrun, Result.andThen]
  refine hK _ _ (h _ ⟨?_⟩ (fun k hk => setRow_other w g k _ hk) (below_setRow' hb hBg _))
  simpa using setRow_heap w g _ _ t _ hg

/-! Rows of elements whose cells are known. -/
section
variable {α : Type} {enc : α → List Value} {k : Nat}
theorem flat_len (hk : ∀ x, (enc x).length = k) : ∀ xs : List α, (xs.flatMap enc).length = xs.length * k
  | [] => by simp
  | x :: xs => by rw [List.flatMap_cons, List.length_append, flat_len hk xs, hk, List.length_cons, Nat.succ_mul, Nat.add_comm]
theorem flat_take (hk : ∀ x, (enc x).length = k) : ∀ (xs : List α) (i : Nat), (xs.flatMap enc).take (i * k) = (xs.take i).flatMap enc
  | [], i => by simp
  | x :: xs, 0 => by simp
  | x :: xs, i + 1 => by
    rw [List.flatMap_cons, List.take_succ_cons, List.flatMap_cons, ← flat_take hk xs i, List.take_append, hk, List.take_of_length_le (by rw [hk, Nat.succ_mul]; omega), Nat.succ_mul, Nat.add_sub_cancel]
theorem flat_drop (hk : ∀ x, (enc x).length = k) : ∀ (xs : List α) (i : Nat), (xs.flatMap enc).drop (i * k) = (xs.drop i).flatMap enc
  | [], i => by simp
  | x :: xs, 0 => by simp
  | x :: xs, i + 1 => by
    rw [List.flatMap_cons, List.drop_succ_cons, ← flat_drop hk xs i, List.drop_append, hk, List.drop_of_length_le (by rw [hk, Nat.succ_mul]; omega), Nat.succ_mul, Nat.add_sub_cancel, List.nil_append]
theorem flat_of_reps {R : α → List Value → Prop} (hR : ∀ x c, R x c → c = enc x) (hk : ∀ x, (enc x).length = k) : ∀ (xs : List α) (cs : List Value), Reps R k xs cs → cs = xs.flatMap enc
  | [], cs, h => by simpa using h.1
  | x :: xs, cs, h => by
    have h0 := hR _ _ (h.2 0 x rfl)
    have hl := h.1
    rw [List.length_cons, Nat.succ_mul] at hl
    have h1 : Reps R k xs (cs.drop k) := ⟨by rw [List.length_drop]; omega, fun j p hj => by
      have := h.2 (j + 1) p (by simpa using hj)
      rw [List.drop_drop]
      rwa [Nat.succ_mul, Nat.add_comm] at this⟩
    have h2 := flat_of_reps hR hk xs _ h1
    rw [List.flatMap_cons, ← h2, ← h0]
    simp
theorem reps_of_flat {R : α → List Value → Prop} (hR : ∀ x, R x (enc x)) (hk : ∀ x, (enc x).length = k) (xs : List α) : Reps R k xs (xs.flatMap enc) := by
  refine ⟨flat_len hk xs, fun j p hj => ?_⟩
  rw [flat_drop hk]
  have : xs.drop j = p :: xs.drop (j + 1) := by
    rw [List.getElem?_eq_some_iff] at hj
    obtain ⟨hlt, rfl⟩ := hj
    exact List.drop_eq_getElem_cons hlt
  rw [this, List.flatMap_cons, List.take_append_of_le_length (by rw [hk]; exact Nat.le_refl _), List.take_of_length_le (by rw [hk]; exact Nat.le_refl _)]
  exact hR p
end
end Go.Proofs.Ytldpaoaiapedjaa.Q
