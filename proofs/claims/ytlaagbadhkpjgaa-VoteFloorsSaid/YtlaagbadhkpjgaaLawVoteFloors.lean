/- The law VoteFloors: whatever it is called with, it hands back true and turns nothing that lay. -/
import Derived.Test.YtlaagbadhkpjgaaRows
import Derived.Test.YtlaagbadhkpjgaaPureVoteFloors
import Derived.Test.YtlaagbadhkpjgaaOpens
import Derived.WalkKit
import Derived.ProofKit
import Derived.OpenShut
import Derived.ShutString
import Derived.ChangeOld
import Derived.Below
import Derived.SizedLaws
namespace Go.Proofs.Ytlaagbadhkpjgaa.voteFloors
open Go.ChangeShapes Go.WideShapes Go.ChangeAt Go.RowKit Go.Proofs.Ytlaagbadhkpjgaa.Q Go.Proofs.YtlaagbadhkpjgaaW.PrintWords
open Go.ChangeMaps (open_string shut_string)
set_option linter.unusedVariables false
theorem own : ownKnob Try.prog.godebug = none := by kernel_rfl
theorem laidOut : laidOutB Try.prog = true := by kernel_rfl
set_option maxRecDepth 100000 in
theorem lifted (os : Os) (started : os.Started) (H : Type) (enc : TypeId × Value → H) :
    ReturnsInHanded {} Try.checked os 8 .any (Rows.voteFloorsSpec.pre6 enc Try.prog Try.f8 Rows.voteFloorsRow.domain false) (Rows.voteFloorsSpec.post enc Try.prog Try.f8 false true false false) := by
  refine returnsInHanded_of_change_sized (C := Try.checked) own started (by kernel_rfl) Try.func8
    (ChangeSpec.witness6 (enc := enc) (C := Try.checked) false ⟨#[], #[.agg #[.slice none 0 0, .int .i64 0, .int .i64 0, .int .i64 0, .int .i64 0, .string ByteArray.empty]], []⟩ 8 (by kernel_rfl) (by kernel_rfl) (by kernel_rfl) (by kernel_rfl)) ?_
  intro W base args ds gs before hval0 hW hcnd hsz0 _
  have hsz : (DataW.weightsEach Try.prog (Try.f8.params.toList ++ Rows.voteFloorsSpec.plain.varTypes Try.prog) (ds ++ gs)).all (· ≤ reachBytes) = true := hsz0
  have hval : ∀ (j : Nat) t v, Try.f8.params[j]? = some t → args[j]? = some v → Value.okWide Try.prog W .any base t v := hval0
  have hW' := hW
  obtain ⟨p, q, hA0, hV, rfl, hfz, hnd⟩ := hW
  have hA : DataW.TrodAll enc Try.prog W 0 (fun _ => true) true Try.f8.params.toList args.toList ds p := hA0
  rw [Try.params8] at hA hval hsz
  obtain ⟨v0, vs0, d0, ds0, p0, q0, hargs, rfl, rfl, h0, r0⟩ := trodAll_cons hA
  obtain ⟨rfl, rfl, rfl⟩ := trodAll_nil r0
  obtain rfl : args = #[v0] := by cases args; simp_all
  obtain ⟨rfl, rfl⟩ := trodVars_none hV
  have k0 := h0
  have lt0 : ∀ x ∈ p0, x.block < W.heap.size := by obtain ⟨m, hm⟩ := k0; exact DataW.trod_lt m _ _ _ hm
  have ho0 : Opens Try.prog W 44 (Kd.pair (Kd.slice 29 k29) (Kd.pair (Kd.int .i64) (Kd.pair (Kd.int .i64) k29))) _ := (opens_struct Try.underlying44 (by kernel_rfl) (opensF_cons (by rfl) (by kernel_rfl) (opens_slice 32 Try.underlying22 (by kernel_rfl) (by kernel_rfl) (opens_iso (fun x : S29 => (x.f0, x.f1, x.f2)) (fun y => ⟨y.1, y.2.1, y.2.2⟩) (fun _ => rfl) (opens_struct Try.underlying29 (by kernel_rfl) (opensF_cons (by rfl) (by kernel_rfl) (opens_int Try.underlying3) (opensF_cons (by rfl) (by kernel_rfl) (opens_int Try.underlying3) (opensF_one (by rfl) (by kernel_rfl) (opens_string Try.underlying9))))))) (opensF_cons (by rfl) (by kernel_rfl) (opens_int Try.underlying3) (opensF_cons (by rfl) (by kernel_rfl) (opens_int Try.underlying3) (opensF_one (by rfl) (by kernel_rfl) (opens_iso (fun x : S29 => (x.f0, x.f1, x.f2)) (fun y => ⟨y.1, y.2.1, y.2.2⟩) (fun _ => rfl) (opens_struct Try.underlying29 (by kernel_rfl) (opensF_cons (by rfl) (by kernel_rfl) (opens_int Try.underlying3) (opensF_cons (by rfl) (by kernel_rfl) (opens_int Try.underlying3) (opensF_one (by rfl) (by kernel_rfl) (opens_string Try.underlying9)))))))))))
  obtain ⟨cs0, rfl, _⟩ := okWide_struct Try.underlying44 (hval 0 44 v0 rfl rfl)
  obtain ⟨⟨l, fa, fb, s⟩, hK0, w0⟩ := opens_arg ho0 h0 hsz (j := 0) rfl rfl
  obtain ⟨_, _, hcs, ⟨A0, c0, rfl, hc0, hC0⟩, ⟨_, _, rfl, rfl, ⟨_, _, rfl, rfl, hs⟩⟩⟩ := hK0
  have hs2 := k29_open hs
  obtain rfl : cs0 = #[.slice A0 l.length c0, .int .i64 fa, .int .i64 fb, .int .i64 s.f0, .int .i64 s.f1, .string s.f2] := by subst hs2; cases cs0; simpa [Value.cells] using hcs
  obtain ⟨k, hk⟩ := Pure.VoteFloors l fa fb s.f0 s.f1 s.f2 (by have h : l.length * 32 ≤ 140737488351232 := w0.1.1; omega)
  clear hA0 hval0 hsz0
  refine (Q.selvedgelaw09_VoteFloors.calls k A0 c0 l fa fb s.f0 s.f1 s.f2 true W hC0 hc0 rfl hk).mono fun e W' ⟨he, bel⟩ => ?_
  subst he
  exact ⟨_, rfl, _, _, _, [], _, [], hW', trodAll_mk1 (shut_bool Try.underlying4 _), (trodAll_cons_mk (Below.trod laidOut (by kernel_rfl) (of_decide_eq_true (by kernel_rfl)) k0 bel lt0) trodAll_mk0), rfl, bel.frame _, fun h => by cases h⟩
theorem over : Rows.voteFloorsRow.holds Try.pinned (OpenSpec.ofChange Rows.voteFloorsSpec) :=
  OpenClaim.holds_of_wide 8 Try.f8 rfl rfl rfl rfl rfl rfl rfl ⟨rfl, rfl, rfl, rfl, rfl⟩ rfl rfl rfl rfl rfl (by kernel_rfl) Try.func8 (by kernel_rfl)
    (of_decide_eq_true (by kernel_rfl)) (by unfold Func.isWrapper; first | (rw [if_pos (by decide +kernel)]; kernel_rfl) | (rw [if_neg (by decide +kernel)]; exact ⟨rfl, rfl⟩))
    (fun os started H enc _ => lifted os started H enc)
theorem proved : Rows.VoteFloorsSaid := over
#print axioms proved
end Go.Proofs.Ytlaagbadhkpjgaa.voteFloors
namespace Go.Proofs.Ytlaagbadhkpjgaa
/-- The row, under a short name, for the claim. -/
theorem voteFloors_holds : Rows.VoteFloorsSaid := voteFloors.proved
end Go.Proofs.Ytlaagbadhkpjgaa
