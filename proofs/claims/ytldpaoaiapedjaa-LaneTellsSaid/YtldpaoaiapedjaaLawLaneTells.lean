/- The law LaneTells: whatever it is called with, it hands back true and turns nothing that lay. -/
import Derived.Test.YtldpaoaiapedjaaRows
import Derived.Test.YtldpaoaiapedjaaPureLaneTells
import Derived.Test.YtldpaoaiapedjaaOpens
import Derived.WalkKit
import Derived.ProofKit
import Derived.OpenShut
import Derived.ShutString
import Derived.ChangeOld
import Derived.Below
import Derived.SizedLaws
namespace Go.Proofs.Ytldpaoaiapedjaa.laneTells
open Go.ChangeShapes Go.WideShapes Go.ChangeAt Go.RowKit Go.Proofs.Ytldpaoaiapedjaa.Q Go.Proofs.YtldpaoaiapedjaaW.PrintWords
open Go.ChangeMaps (open_string shut_string)
set_option linter.unusedVariables false
theorem own : ownKnob Try.prog.godebug = none := by kernel_rfl
theorem laidOut : laidOutB Try.prog = true := by kernel_rfl
set_option maxRecDepth 100000 in
theorem lifted (os : Os) (started : os.Started) (H : Type) (enc : TypeId × Value → H) :
    ReturnsInHanded {} Try.checked os 7 .any (Rows.laneTellsSpec.pre6 enc Try.prog Try.f7 Rows.laneTellsRow.domain false) (Rows.laneTellsSpec.post enc Try.prog Try.f7 false true false false) := by
  refine returnsInHanded_of_change_sized (C := Try.checked) own started (by kernel_rfl) Try.func7
    (ChangeSpec.witness6 (enc := enc) (C := Try.checked) false ⟨#[], #[.int .i64 0, .agg #[.int .i64 0, .int .i64 0, .slice none 0 0, .slice none 0 0], .agg #[.int .i64 0, .int .i64 0, .slice none 0 0, .slice none 0 0]], []⟩ 8 (by kernel_rfl) (by kernel_rfl) (by kernel_rfl) (by kernel_rfl)) ?_
  intro W base args ds gs before hval0 hW hcnd hsz0 _
  have hsz : (DataW.weightsEach Try.prog (Try.f7.params.toList ++ Rows.laneTellsSpec.plain.varTypes Try.prog) (ds ++ gs)).all (· ≤ reachBytes) = true := hsz0
  have hval : ∀ (j : Nat) t v, Try.f7.params[j]? = some t → args[j]? = some v → Value.okWide Try.prog W .any base t v := hval0
  have hW' := hW
  obtain ⟨p, q, hA0, hV, rfl, hfz, hnd⟩ := hW
  have hA : DataW.TrodAll enc Try.prog W 0 (fun _ => true) true Try.f7.params.toList args.toList ds p := hA0
  rw [Try.params7] at hA hval hsz
  obtain ⟨v0, vs0, d0, ds0, p0, q0, hargs, rfl, rfl, h0, r0⟩ := trodAll_cons hA
  obtain ⟨v1, vs1, d1, ds1, p1, q1, rfl, rfl, rfl, h1, r1⟩ := trodAll_cons r0
  obtain ⟨v2, vs2, d2, ds2, p2, q2, rfl, rfl, rfl, h2, r2⟩ := trodAll_cons r1
  obtain ⟨rfl, rfl, rfl⟩ := trodAll_nil r2
  obtain rfl : args = #[v0, v1, v2] := by cases args; simp_all
  obtain ⟨rfl, rfl⟩ := trodVars_none hV
  obtain ⟨o, rfl, rfl, rfl, w0⟩ := open_int Try.underlying3 (hval 0 3 v0 rfl rfl) h0
  have k1 := h1
  have lt1 : ∀ x ∈ p1, x.block < W.heap.size := by obtain ⟨m, hm⟩ := k1; exact DataW.trod_lt m _ _ _ hm
  have ho1 : Opens Try.prog W 25 (Kd.pair (Kd.int .i64) (Kd.pair (Kd.int .i64) (Kd.pair (Kd.slice 9 Kd.string) (Kd.slice 42 k42)))) _ := (opens_struct Try.underlying25 (by kernel_rfl) (opensF_cons (by rfl) (by kernel_rfl) (opens_int Try.underlying3) (opensF_cons (by rfl) (by kernel_rfl) (opens_int Try.underlying3) (opensF_cons (by rfl) (by kernel_rfl) (opens_slice 16 Try.underlying22 (by kernel_rfl) (by kernel_rfl) (opens_string Try.underlying9)) (opensF_one (by rfl) (by kernel_rfl) (opens_slice 40 Try.underlying23 (by kernel_rfl) (by kernel_rfl) (opens_iso (fun x : S42 => (x.f0, x.f1, x.f2)) (fun y => ⟨y.1, y.2.1, y.2.2⟩) (fun _ => rfl) (opens_struct Try.underlying42 (by kernel_rfl) (opensF_cons (by rfl) (by kernel_rfl) (opens_int Try.underlying3) (opensF_cons (by rfl) (by kernel_rfl) (opens_int Try.underlying3) (opensF_one (by rfl) (by kernel_rfl) (opens_slice 16 Try.underlying22 (by kernel_rfl) (by kernel_rfl) (opens_string Try.underlying9)))))))))))))
  obtain ⟨cs1, rfl, _⟩ := okWide_struct Try.underlying25 (hval 1 25 v1 rfl rfl)
  obtain ⟨⟨a, n, p, op⟩, hK1, w1⟩ := opens_arg ho1 h1 hsz (j := 1) rfl rfl
  obtain ⟨_, _, hcs1, rfl, ⟨_, _, rfl, rfl, ⟨_, _, rfl, ⟨A2, c2, rfl, hc2, hC2⟩, ⟨A3, c3, rfl, hc3, hC3⟩⟩⟩⟩ := hK1
  obtain rfl : cs1 = #[.int .i64 a, .int .i64 n, .slice A2 p.length c2, .slice A3 op.length c3] := by cases cs1; simpa [Value.cells] using hcs1
  have k2 := h2
  have lt2 : ∀ x ∈ p2, x.block < W.heap.size := by obtain ⟨m, hm⟩ := k2; exact DataW.trod_lt m _ _ _ hm
  have ho2 : Opens Try.prog W 25 (Kd.pair (Kd.int .i64) (Kd.pair (Kd.int .i64) (Kd.pair (Kd.slice 9 Kd.string) (Kd.slice 42 k42)))) _ := (opens_struct Try.underlying25 (by kernel_rfl) (opensF_cons (by rfl) (by kernel_rfl) (opens_int Try.underlying3) (opensF_cons (by rfl) (by kernel_rfl) (opens_int Try.underlying3) (opensF_cons (by rfl) (by kernel_rfl) (opens_slice 16 Try.underlying22 (by kernel_rfl) (by kernel_rfl) (opens_string Try.underlying9)) (opensF_one (by rfl) (by kernel_rfl) (opens_slice 40 Try.underlying23 (by kernel_rfl) (by kernel_rfl) (opens_iso (fun x : S42 => (x.f0, x.f1, x.f2)) (fun y => ⟨y.1, y.2.1, y.2.2⟩) (fun _ => rfl) (opens_struct Try.underlying42 (by kernel_rfl) (opensF_cons (by rfl) (by kernel_rfl) (opens_int Try.underlying3) (opensF_cons (by rfl) (by kernel_rfl) (opens_int Try.underlying3) (opensF_one (by rfl) (by kernel_rfl) (opens_slice 16 Try.underlying22 (by kernel_rfl) (by kernel_rfl) (opens_string Try.underlying9)))))))))))))
  obtain ⟨cs2, rfl, _⟩ := okWide_struct Try.underlying25 (hval 2 25 v2 rfl rfl)
  obtain ⟨⟨aq, nq, pq, opq⟩, hK2, w2⟩ := opens_arg ho2 h2 hsz (j := 2) rfl rfl
  obtain ⟨_, _, hcs2, rfl, ⟨_, _, rfl, rfl, ⟨_, _, rfl, ⟨A2q, c2q, rfl, hc2q, hC2q⟩, ⟨A3q, c3q, rfl, hc3q, hC3q⟩⟩⟩⟩ := hK2
  obtain rfl : cs2 = #[.int .i64 aq, .int .i64 nq, .slice A2q pq.length c2q, .slice A3q opq.length c3q] := by cases cs2; simpa [Value.cells] using hcs2
  obtain ⟨k, hk⟩ := Pure.LaneTells o a n p op aq nq pq opq (by have h : p.length * 16 ≤ 140737488351232 := w1.2.2.1.1; omega) (by have h : op.length * 40 ≤ 140737488351232 := w1.2.2.2.1; omega) (fun x hx => by have h : x.f2.length * 16 ≤ 140737488351232 := (w1.2.2.2.2.2 x hx).2.2.1; omega)
  clear hA0 hval0 hsz0
  refine (Q.L16_LaneTells.calls k o a n A2 c2 p A3 c3 op aq nq A2q c2q pq A3q c3q opq true W hC2 hc2 hC3 hc3 hC2q hc2q hC3q hc3q rfl hk).mono fun e W' ⟨he, bel⟩ => ?_
  subst he
  exact ⟨_, rfl, _, _, _, [], _, [], hW', trodAll_mk1 (shut_bool Try.underlying4 _), (trodAll_cons_mk (shut_int Try.underlying3 w0) (trodAll_cons_mk (Below.trod laidOut (by kernel_rfl) (of_decide_eq_true (by kernel_rfl)) k1 bel lt1) (trodAll_cons_mk (Below.trod laidOut (by kernel_rfl) (of_decide_eq_true (by kernel_rfl)) k2 bel lt2) trodAll_mk0))), rfl, bel.frame _, fun h => by cases h⟩
theorem over : Rows.laneTellsRow.holds Try.pinned (OpenSpec.ofChange Rows.laneTellsSpec) :=
  OpenClaim.holds_of_wide 7 Try.f7 rfl rfl rfl rfl rfl rfl rfl ⟨rfl, rfl, rfl, rfl, rfl⟩ rfl rfl rfl rfl rfl (by kernel_rfl) Try.func7 (by kernel_rfl)
    (of_decide_eq_true (by kernel_rfl)) (by unfold Func.isWrapper; first | (rw [if_pos (by decide +kernel)]; kernel_rfl) | (rw [if_neg (by decide +kernel)]; exact ⟨rfl, rfl⟩))
    (fun os started H enc _ => lifted os started H enc)
theorem proved : Rows.LaneTellsSaid := over
#print axioms proved
end Go.Proofs.Ytldpaoaiapedjaa.laneTells
namespace Go.Proofs.Ytldpaoaiapedjaa
/-- The row, under a short name, for the claim. -/
theorem laneTells_holds : Rows.LaneTellsSaid := laneTells.proved
end Go.Proofs.Ytldpaoaiapedjaa
