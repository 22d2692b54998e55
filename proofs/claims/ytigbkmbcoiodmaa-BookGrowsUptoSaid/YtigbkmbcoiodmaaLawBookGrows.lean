/- The law BookGrows: whatever it is called with, of bulk at most 1048576, it hands back true and turns nothing that lay. -/
import Derived.Test.YtigbkmbcoiodmaaRows
import Derived.Test.YtigbkmbcoiodmaaPureBookGrows
import Derived.Test.YtigbkmbcoiodmaaOpens
import Derived.WalkKit
import Derived.ProofKit
import Derived.OpenShut
import Derived.ShutString
import Derived.ChangeOld
import Derived.Below
import Derived.SizedLaws
import Derived.JoinedCond
import Derived.Deep.CondSized
namespace Go.Proofs.Ytigbkmbcoiodmaa.bookGrows
open Go.ChangeShapes Go.WideShapes Go.ChangeAt Go.RowKit Go.Proofs.Ytigbkmbcoiodmaa.Q Go.Proofs.YtigbkmbcoiodmaaW.PrintWords
open Go.ChangeMaps (open_string shut_string)
set_option linter.unusedVariables false
theorem own : ownKnob Try.prog.godebug = none := by kernel_rfl
theorem laidOut : laidOutB Try.prog = true := by kernel_rfl
theorem one_le {H : Type} (d : DataW H) : 1 ≤ Rows.uptoBulk d := by
  cases d with
  | lit l => cases l <;> simp [Rows.uptoBulk]
  | nil => simp [Rows.uptoBulk]
  | ptr d => simp [Rows.uptoBulk]
  | slice elems spare => simp [Rows.uptoBulk]
  | agg parts => simp [Rows.uptoBulk]
  | iface t d => simp [Rows.uptoBulk]
  | map entries => simp [Rows.uptoBulk]
  | held h => simp [Rows.uptoBulk]
theorem length_le {H : Type} (l : List (DataW H)) : l.length ≤ Rows.uptoBulkAll l := by
  induction l with
  | nil => simp [Rows.uptoBulkAll]
  | cons x r ih => have := one_le x; simp only [Rows.uptoBulkAll, List.length_cons]; omega
/-- A slice's bulk is its length at least. -/
theorem slice_bulk {H : Type} {enc : TypeId × Value → H} {P : Program} {w : World} {base : Nat} {spare : Nat → Bool} {held : Bool} {fuel : Nat} {t e : TypeId} {A : Option Addr} {n c : Nat} {y : DataW H × List MemPlace} (ht : P.underlying t = some (.slice e))
    (h : DataW.trod enc P w base spare held fuel t [.slice A n c] = some y) : n ≤ Rows.uptoBulk y.1 := by
  rcases DataW.trod_slice ht h with ⟨h1, _⟩ | ⟨a, len, cap, elems, rest, m, _, h1, rfl, _, _, _, hlen, _⟩
  · simp at h1
    omega
  · simp at h1
    have := length_le (elems.map (·.1))
    simp only [Rows.uptoBulk, List.length_map] at this ⊢
    omega
/-- Two slices in one struct. -/
theorem two_bulk {H : Type} {enc : TypeId × Value → H} {w : World} {base : Nat} {spare : Nat → Bool} {held : Bool} {A A' : Option Addr} {n c n' c' : Nat} {z : Int} {s : ByteArray} {d : DataW H} {ps : List MemPlace}
    (h : DataW.Trod enc Try.prog w base spare held 34 (.agg #[.slice A n c, .slice A' n' c', .int .u64 z, .string s]) d ps) : n + n' ≤ Rows.uptoBulk d := by
  obtain ⟨fuel, hf⟩ := h
  obtain ⟨xs, m, _, hx, hl, hxl, hfs⟩ := DataW.trod_struct Try.underlying34 hf
  have e0 : (Value.agg #[.slice A n c, .slice A' n' c', .int .u64 z, .string s]).cells.toList = [.slice A n c, .slice A' n' c', .int .u64 z, .string s] := rfl
  have f0 := hfs 0 _ rfl
  have f1 := hfs 1 _ rfl
  rw [e0] at f0 f1
  obtain ⟨y0, y1, y2, y3, rfl⟩ : ∃ y0 y1 y2 y3, xs = [y0, y1, y2, y3] := by
    rcases xs with _ | ⟨y0, _ | ⟨y1, _ | ⟨y2, _ | ⟨y3, _ | ⟨y4, xs⟩⟩⟩⟩⟩ <;> simp at hxl
    exact ⟨_, _, _, _, rfl⟩
  have c22 : Try.prog.cellsOf 22 = 1 := by kernel_rfl
  have g0 : DataW.trod enc Try.prog w base spare held m 22 [.slice A n c] = some y0 := by
    have := f0
    simpa [c22] using this
  have g1 : DataW.trod enc Try.prog w base spare held m 22 [.slice A' n' c'] = some y1 := by
    have := f1
    simpa [c22] using this
  have b0 := slice_bulk Try.underlying22 g0
  have b1 := slice_bulk Try.underlying22 g1
  injection hx with hd _
  subst hd
  simp only [List.map_cons, List.map_nil, Rows.uptoBulk, Rows.uptoBulkAll]
  omega
set_option maxRecDepth 100000 in
theorem lifted (os : Os) (started : os.Started) (H : Type) (enc : TypeId × Value → H) (F : Stop.Interp) :
    ReturnsInHanded {} Try.checked os 7 .any ((Rows.OpenSpec.upto Rows.bookGrowsSpec).pre6 enc Try.prog Try.f7 Rows.bookGrowsUptoRow.domain false) (((Rows.OpenSpec.upto Rows.bookGrowsSpec).at F).post enc Try.prog Try.f7 false true false false) := by
  refine returnsInHanded_of_cond_sized (C := Try.checked) (s := Rows.OpenSpec.upto Rows.bookGrowsSpec) (k := Rows.uptoSmall) rfl own started (by kernel_rfl) Try.func7
    (OpenSpec.witness (enc := enc) (C := Try.checked) (s := Rows.OpenSpec.upto Rows.bookGrowsSpec) (k := Rows.uptoSmall) rfl false ⟨#[], #[.agg #[.slice none 0 0, .slice none 0 0, .int .u64 0, .string ByteArray.empty]], []⟩ 8 (by kernel_rfl) (by kernel_rfl) (by kernel_rfl)
      (x := ([.agg [.nil, .nil, .lit (.int .u64 0), .lit (.string [])]], [], [])) (by kernel_rfl) rfl (by kernel_rfl)) ?_
  intro W base args ds gs before hval0 hW hcnd hk0 hsz0 _
  have hsz : (DataW.weightsEach Try.prog (Try.f7.params.toList ++ Rows.bookGrowsSpec.plain.varTypes Try.prog) (ds ++ gs)).all (· ≤ reachBytes) = true := hsz0
  have hval : ∀ (j : Nat) t v, Try.f7.params[j]? = some t → args[j]? = some v → Value.okWide Try.prog W .any base t v := hval0
  have hW' := hW
  obtain ⟨p, q, hA0, hV, rfl, hfz, hnd⟩ := hW
  have hA : DataW.TrodAll enc Try.prog W 0 (fun _ => true) true Try.f7.params.toList args.toList ds p := hA0
  rw [Try.params7] at hA hval hsz
  obtain ⟨v0, vs0, d0, ds0, p0, q0, hargs, rfl, rfl, h0, r0⟩ := trodAll_cons hA
  obtain ⟨rfl, rfl, rfl⟩ := trodAll_nil r0
  obtain rfl : args = #[v0] := by cases args; simp_all
  obtain ⟨rfl, rfl⟩ := trodVars_none hV
  have k0 := h0
  have lt0 : ∀ x ∈ p0, x.block < W.heap.size := by obtain ⟨m, hm⟩ := k0; exact DataW.trod_lt m _ _ _ hm
  have ho0 : Opens Try.prog W 34 (Kd.pair (Kd.slice 24 k24) (Kd.pair (Kd.slice 24 k24) (Kd.pair (Kd.int .u64) Kd.string))) _ := (opens_struct Try.underlying34 (by kernel_rfl) (opensF_cons (by rfl) (by kernel_rfl) (opens_slice 24 Try.underlying22 (by kernel_rfl) (by kernel_rfl) (opens_iso (fun x : S24 => (x.f0, x.f1)) (fun y => ⟨y.1, y.2⟩) (fun _ => rfl) (opens_struct Try.underlying24 (by kernel_rfl) (opensF_cons (by rfl) (by kernel_rfl) (opens_int Try.underlying3) (opensF_one (by rfl) (by kernel_rfl) (opens_string Try.underlying9)))))) (opensF_cons (by rfl) (by kernel_rfl) (opens_slice 24 Try.underlying22 (by kernel_rfl) (by kernel_rfl) (opens_iso (fun x : S24 => (x.f0, x.f1)) (fun y => ⟨y.1, y.2⟩) (fun _ => rfl) (opens_struct Try.underlying24 (by kernel_rfl) (opensF_cons (by rfl) (by kernel_rfl) (opens_int Try.underlying3) (opensF_one (by rfl) (by kernel_rfl) (opens_string Try.underlying9)))))) (opensF_cons (by rfl) (by kernel_rfl) (opens_int Try.underlying30) (opensF_one (by rfl) (by kernel_rfl) (opens_string Try.underlying9))))))
  obtain ⟨cs0, rfl, _⟩ := okWide_struct Try.underlying34 (hval 0 34 v0 rfl rfl)
  obtain ⟨⟨b, l, a, t⟩, hK0, w0⟩ := opens_arg ho0 h0 hsz (j := 0) rfl rfl
  obtain ⟨_, _, e0, ⟨B0, c0, rfl, hc0, hC0⟩, _, _, rfl, ⟨B1, c1, rfl, hc1, hC1⟩, _, _, rfl, rfl, rfl⟩ := hK0
  have e1 : cs0 = #[.slice B0 b.length c0, .slice B1 l.length c1, .int .u64 a, .string t] := by
    cases cs0; simpa [Value.cells] using e0
  subst e1
  have hbulk := two_bulk k0
  have hk1 : Rows.uptoBulk d0 ≤ 1048576 := by
    have h := of_decide_eq_true hk0
    simp only [List.cons_append, List.nil_append, Rows.uptoBulkAll] at h
    omega
  obtain ⟨k, hk⟩ := Pure.BookGrows b l a t w0.2.2.1 (by omega)
  clear hA0 hval0 hsz0
  refine (Q.selvedgelaw06_BookGrows.calls k (fun k_ => k_ < W.heap.size) B0 c0 b B1 c1 l a t true W (Kd.V_mk hc0 (Kd.C_F k24_heap hC0)) hC1 hc1 rfl hk).mono fun e W' ⟨he, bel⟩ => ?_
  subst he
  exact ⟨_, rfl, _, _, _, [], _, [], hW', trodAll_mk1 (shut_bool Try.underlying4 _), (trodAll_cons_mk (Below.trod laidOut (by kernel_rfl) (of_decide_eq_true (by kernel_rfl)) k0 bel lt0) trodAll_mk0), rfl, bel.frame _, fun h => by cases h⟩
theorem over : Rows.bookGrowsUptoRow.holds Try.pinned (Rows.OpenSpec.upto Rows.bookGrowsSpec) :=
  OpenClaim.holds_of_cond 7 Try.f7 rfl rfl rfl rfl rfl rfl rfl ⟨rfl, rfl, rfl, rfl, rfl⟩ rfl rfl rfl rfl rfl (by kernel_rfl) Try.func7 (by kernel_rfl)
    (of_decide_eq_true (by kernel_rfl)) (by unfold Func.isWrapper; first | (rw [if_pos (by decide +kernel)]; kernel_rfl) | (rw [if_neg (by decide +kernel)]; exact ⟨rfl, rfl⟩))
    (fun os started H enc _ F => lifted os started H enc F)
theorem proved : Rows.BookGrowsUptoSaid := over
#print axioms proved
end Go.Proofs.Ytigbkmbcoiodmaa.bookGrows
namespace Go.Proofs.Ytigbkmbcoiodmaa
/-- The row, under a short name, for the claim. -/
theorem bookGrowsUpto_holds : Rows.BookGrowsUptoSaid := bookGrows.proved
end Go.Proofs.Ytigbkmbcoiodmaa
