/- The law LaneKeeps: whatever it is called with, it hands back true and turns nothing that lay. -/
import Derived.Test.YtldpaoaiapedjaaRows
import Derived.Test.YtldpaoaiapedjaaPureLaneKeeps
import Derived.Test.YtldpaoaiapedjaaQ11
import Derived.Test.YtldpaoaiapedjaaOpens
import Derived.WalkKit
import Derived.ProofKit
import Derived.OpenShut
import Derived.ShutString
import Derived.ChangeOld
import Derived.Below
import Derived.SizedLaws
namespace Go.Proofs.Ytldpaoaiapedjaa.laneKeeps
open Go.ChangeShapes Go.WideShapes Go.ChangeAt Go.RowKit Go.Proofs.Ytldpaoaiapedjaa.Q Go.Proofs.YtldpaoaiapedjaaW.PrintWords
open Go.ChangeMaps (open_string shut_string)
set_option linter.unusedVariables false
theorem own : ownKnob Try.prog.godebug = none := by kernel_rfl
theorem laidOut : laidOutB Try.prog = true := by kernel_rfl
set_option maxRecDepth 100000 in
theorem lifted (os : Os) (started : os.Started) (H : Type) (enc : TypeId × Value → H) :
    ReturnsInHanded {} Try.checked os 5 .any (Rows.laneKeepsSpec.pre6 enc Try.prog Try.f5 Rows.laneKeepsRow.domain false) (Rows.laneKeepsSpec.post enc Try.prog Try.f5 false true false false) := by
  refine returnsInHanded_of_change_sized (C := Try.checked) own started (by kernel_rfl) Try.func5
    (ChangeSpec.witness6 (enc := enc) (C := Try.checked) false ⟨#[], #[.int .i64 0, .slice none 0 0], []⟩ 8 (by kernel_rfl) (by kernel_rfl) (by kernel_rfl) (by kernel_rfl)) ?_
  intro W base args ds gs before hval0 hW hcnd hsz0 _
  have hsz : (DataW.weightsEach Try.prog (Try.f5.params.toList ++ Rows.laneKeepsSpec.plain.varTypes Try.prog) (ds ++ gs)).all (· ≤ reachBytes) = true := hsz0
  have hval : ∀ (j : Nat) t v, Try.f5.params[j]? = some t → args[j]? = some v → Value.okWide Try.prog W .any base t v := hval0
  have hW' := hW
  obtain ⟨p, q, hA0, hV, rfl, hfz, hnd⟩ := hW
  have hA : DataW.TrodAll enc Try.prog W 0 (fun _ => true) true Try.f5.params.toList args.toList ds p := hA0
  rw [Try.params5] at hA hval hsz
  obtain ⟨v0, vs0, d0, ds0, p0, q0, hargs, rfl, rfl, h0, r0⟩ := trodAll_cons hA
  obtain ⟨v1, vs1, d1, ds1, p1, q1, rfl, rfl, rfl, h1, r1⟩ := trodAll_cons r0
  obtain ⟨rfl, rfl, rfl⟩ := trodAll_nil r1
  obtain rfl : args = #[v0, v1] := by cases args; simp_all
  obtain ⟨rfl, rfl⟩ := trodVars_none hV
  obtain ⟨o, rfl, rfl, rfl, w0⟩ := open_int Try.underlying3 (hval 0 3 v0 rfl rfl) h0
  have k1 := h1
  have lt1 : ∀ x ∈ p1, x.block < W.heap.size := by obtain ⟨m, hm⟩ := k1; exact DataW.trod_lt m _ _ _ hm
  have ho1 : Opens Try.prog W 35 (Kd.slice 38 k38) _ := (opens_slice 32 Try.underlying35 (by kernel_rfl) (by kernel_rfl) (opens_iso (fun x : S38 => (x.f0, x.f1, x.f2)) (fun y => ⟨y.1, y.2.1, y.2.2⟩) (fun _ => rfl) (opens_struct Try.underlying38 (by kernel_rfl) (opensF_cons (by rfl) (by kernel_rfl) (opens_int Try.underlying3) (opensF_cons (by rfl) (by kernel_rfl) (opens_int Try.underlying3) (opensF_one (by rfl) (by kernel_rfl) (opens_string Try.underlying9)))))))
  obtain ⟨B1, len1, cap1, rfl⟩ := okWide_slice Try.underlying35 (hval 1 35 v1 rfl rfl)
  obtain ⟨l, hK1, w1⟩ := opens_arg ho1 h1 hsz (j := 1) rfl rfl
  obtain ⟨A1, c1, e1, hc1, hC1⟩ := hK1
  obtain ⟨rfl, rfl, rfl⟩ : B1 = A1 ∧ len1 = l.length ∧ cap1 = c1 := by simpa [Value.cells] using e1
  obtain ⟨k, hk⟩ := Pure.LaneKeeps o l (by have := w1.1; omega)
  clear hA0 hval0 hsz0
  refine (Q.L16_LaneKeeps.calls k o B1 cap1 l true W hC1 hc1 rfl hk).mono fun e W' ⟨he, bel⟩ => ?_
  subst he
  exact ⟨_, rfl, _, _, _, [], _, [], hW', trodAll_mk1 (shut_bool Try.underlying4 _), (trodAll_cons_mk (shut_int Try.underlying3 w0) (trodAll_cons_mk (Below.trod laidOut (by kernel_rfl) (of_decide_eq_true (by kernel_rfl)) k1 bel lt1) trodAll_mk0)), rfl, bel.frame _, fun h => by cases h⟩
theorem over : Rows.laneKeepsRow.holds Try.pinned (OpenSpec.ofChange Rows.laneKeepsSpec) :=
  OpenClaim.holds_of_wide 5 Try.f5 rfl rfl rfl rfl rfl rfl rfl ⟨rfl, rfl, rfl, rfl, rfl⟩ rfl rfl rfl rfl rfl (by kernel_rfl) Try.func5 (by kernel_rfl)
    (of_decide_eq_true (by kernel_rfl)) (by unfold Func.isWrapper; first | (rw [if_pos (by decide +kernel)]; kernel_rfl) | (rw [if_neg (by decide +kernel)]; exact ⟨rfl, rfl⟩))
    (fun os started H enc _ => lifted os started H enc)
theorem proved : Rows.LaneKeepsSaid := over
#print axioms proved
end Go.Proofs.Ytldpaoaiapedjaa.laneKeeps
namespace Go.Proofs.Ytldpaoaiapedjaa
/-- The row, under a short name, for the claim. -/
theorem laneKeeps_holds : Rows.LaneKeepsSaid := laneKeeps.proved
end Go.Proofs.Ytldpaoaiapedjaa
