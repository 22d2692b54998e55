/-
  No cell of these rows narrows 'for every input' (looked for: loops, veiled, ifaces, maps, wideKeys, modest, calm, conditions, laid).
  DERIVED. THE GIVEN ROWS OF THIS SEAT. 6 by the template 'for every input the law returns true; each argument reads behind the call as it read before'; 0 by the template 'total and deterministic' (their statements: YtldpaoaiapedjaaTotals.lean).
  GIVEN WITH THE SEED: the statements are not yours to turn. If you find one false, say at which input.
  Laid BY PROGRAM, IN A SANDBOX (cutbox-rows.mjs): the forced cells as the released guide's own fill.sh prints them over the translation df193a6d702d994b… (all of the seat's roots in one cut). By AI agents, Wed Nov 11 2026. No macro, syntax, notation, axiom, sorry.
-/
import Derived.Test.YtldpaoaiapedjaaChecked
import GoSem.Claim
import GoSem.ClaimJoined
import GoSem.ClaimMapViews
import Derived.JoinedTies
import Derived.KernelRfl
namespace Go.Proofs.Ytldpaoaiapedjaa
/- THE CELL 'sum', in the pinned program and in every row, IS THE sha256 OF THE DUMP (.gsa) THAT YtldpaoaiapedjaaProg.lean LOADS. Nothing in Lean hashes anything: it is a label: what it is worth is what the hold of that sum in a sandbox is worth. -/
noncomputable def Try.pinned : Pinned := { name := "ytldpaoaiapedjaa", sum := "df193a6d702d994bcf0ebfc68bd0f66162eb7d09b1aba7e2b3669d5561bad9fc", checked := Try.checked }
namespace Rows
def none {H : Type} : Left H := { results := [], args := [] }

/-- 'selvedgelaw16.LaneOpens': WHATEVER THE INPUT: true; the input reads as it did. -/
def laneOpensSpec : ChangeSpec := { name := "laneOpens", fn := fun _ => fun
  | [d1, d2] => { results := [.lit (.bool true)], args := [d1, d2] }
  | _ => none }
def laneOpensRow : OpenClaim := { program := "ytldpaoaiapedjaa", sum := "df193a6d702d994bcf0ebfc68bd0f66162eb7d09b1aba7e2b3669d5561bad9fc", func := "selvedge/selvedgelaw16.LaneOpens", spec := "laneOpens", unfollowed := true, recurses := true, apart := false }
def LaneOpensSaid : Prop := laneOpensRow.holds Try.pinned (OpenSpec.ofChange laneOpensSpec)

/-- ITS FALSE NEIGHBOUR: 'it returns false'. Refute it at one input. -/
def laneOpensWrong : ChangeSpec := { name := "laneOpens", fn := fun _ => fun
  | [d1, d2] => { results := [.lit (.bool false)], args := [d1, d2] }
  | _ => none }
def LaneOpensWrongFalsely : Prop := laneOpensRow.holds Try.pinned (OpenSpec.ofChange laneOpensWrong)

/-- 'selvedgelaw16.LanePicks': WHATEVER THE INPUT: true; the input reads as it did. -/
def lanePicksSpec : ChangeSpec := { name := "lanePicks", fn := fun _ => fun
  | [d1, d2] => { results := [.lit (.bool true)], args := [d1, d2] }
  | _ => none }
def lanePicksRow : OpenClaim := { program := "ytldpaoaiapedjaa", sum := "df193a6d702d994bcf0ebfc68bd0f66162eb7d09b1aba7e2b3669d5561bad9fc", func := "selvedge/selvedgelaw16.LanePicks", spec := "lanePicks", unfollowed := true, recurses := true, apart := false }
def LanePicksSaid : Prop := lanePicksRow.holds Try.pinned (OpenSpec.ofChange lanePicksSpec)

/-- ITS FALSE NEIGHBOUR: 'it returns false'. Refute it at one input. -/
def lanePicksWrong : ChangeSpec := { name := "lanePicks", fn := fun _ => fun
  | [d1, d2] => { results := [.lit (.bool false)], args := [d1, d2] }
  | _ => none }
def LanePicksWrongFalsely : Prop := lanePicksRow.holds Try.pinned (OpenSpec.ofChange lanePicksWrong)

/-- 'selvedgelaw16.LaneKeeps': WHATEVER THE INPUT: true; the input reads as it did. -/
def laneKeepsSpec : ChangeSpec := { name := "laneKeeps", fn := fun _ => fun
  | [d1, d2] => { results := [.lit (.bool true)], args := [d1, d2] }
  | _ => none }
def laneKeepsRow : OpenClaim := { program := "ytldpaoaiapedjaa", sum := "df193a6d702d994bcf0ebfc68bd0f66162eb7d09b1aba7e2b3669d5561bad9fc", func := "selvedge/selvedgelaw16.LaneKeeps", spec := "laneKeeps", unfollowed := true, recurses := true, apart := false }
def LaneKeepsSaid : Prop := laneKeepsRow.holds Try.pinned (OpenSpec.ofChange laneKeepsSpec)

/-- ITS FALSE NEIGHBOUR: 'it returns false'. Refute it at one input. -/
def laneKeepsWrong : ChangeSpec := { name := "laneKeeps", fn := fun _ => fun
  | [d1, d2] => { results := [.lit (.bool false)], args := [d1, d2] }
  | _ => none }
def LaneKeepsWrongFalsely : Prop := laneKeepsRow.holds Try.pinned (OpenSpec.ofChange laneKeepsWrong)

/-- 'selvedgelaw16.LaneSubmits': WHATEVER THE INPUT: true; the input reads as it did. -/
def laneSubmitsSpec : ChangeSpec := { name := "laneSubmits", fn := fun _ => fun
  | [d] => { results := [.lit (.bool true)], args := [d] }
  | _ => none }
def laneSubmitsRow : OpenClaim := { program := "ytldpaoaiapedjaa", sum := "df193a6d702d994bcf0ebfc68bd0f66162eb7d09b1aba7e2b3669d5561bad9fc", func := "selvedge/selvedgelaw16.LaneSubmits", spec := "laneSubmits", unfollowed := true, recurses := true, apart := false }
def LaneSubmitsSaid : Prop := laneSubmitsRow.holds Try.pinned (OpenSpec.ofChange laneSubmitsSpec)

/-- ITS FALSE NEIGHBOUR: 'it returns false'. Refute it at one input. -/
def laneSubmitsWrong : ChangeSpec := { name := "laneSubmits", fn := fun _ => fun
  | [d] => { results := [.lit (.bool false)], args := [d] }
  | _ => none }
def LaneSubmitsWrongFalsely : Prop := laneSubmitsRow.holds Try.pinned (OpenSpec.ofChange laneSubmitsWrong)

/-- 'selvedgelaw16.LaneTells': WHATEVER THE INPUT: true; the input reads as it did. -/
def laneTellsSpec : ChangeSpec := { name := "laneTells", fn := fun _ => fun
  | [d1, d2, d3] => { results := [.lit (.bool true)], args := [d1, d2, d3] }
  | _ => none }
def laneTellsRow : OpenClaim := { program := "ytldpaoaiapedjaa", sum := "df193a6d702d994bcf0ebfc68bd0f66162eb7d09b1aba7e2b3669d5561bad9fc", func := "selvedge/selvedgelaw16.LaneTells", spec := "laneTells", unfollowed := true, recurses := true, apart := false }
def LaneTellsSaid : Prop := laneTellsRow.holds Try.pinned (OpenSpec.ofChange laneTellsSpec)

/-- ITS FALSE NEIGHBOUR: 'it returns false'. Refute it at one input. -/
def laneTellsWrong : ChangeSpec := { name := "laneTells", fn := fun _ => fun
  | [d1, d2, d3] => { results := [.lit (.bool false)], args := [d1, d2, d3] }
  | _ => none }
def LaneTellsWrongFalsely : Prop := laneTellsRow.holds Try.pinned (OpenSpec.ofChange laneTellsWrong)

/-- 'selvedgelaw16.LaneTwice': WHATEVER THE INPUT: true; the input reads as it did. -/
def laneTwiceSpec : ChangeSpec := { name := "laneTwice", fn := fun _ => fun
  | [d1, d2] => { results := [.lit (.bool true)], args := [d1, d2] }
  | _ => none }
def laneTwiceRow : OpenClaim := { program := "ytldpaoaiapedjaa", sum := "df193a6d702d994bcf0ebfc68bd0f66162eb7d09b1aba7e2b3669d5561bad9fc", func := "selvedge/selvedgelaw16.LaneTwice", spec := "laneTwice", unfollowed := true, recurses := true, apart := false }
def LaneTwiceSaid : Prop := laneTwiceRow.holds Try.pinned (OpenSpec.ofChange laneTwiceSpec)

/-- ITS FALSE NEIGHBOUR: 'it returns false'. Refute it at one input. -/
def laneTwiceWrong : ChangeSpec := { name := "laneTwice", fn := fun _ => fun
  | [d1, d2] => { results := [.lit (.bool false)], args := [d1, d2] }
  | _ => none }
def LaneTwiceWrongFalsely : Prop := laneTwiceRow.holds Try.pinned (OpenSpec.ofChange laneTwiceWrong)

/- THE SECOND FORM. 'bulk': how many values and letters a reading holds, each counted each time it is reached (what is shared counts as often as it is met; a slice's spare places count too). A statement '..UptoSaid' is the law's where the arguments, and the package variables that the reading takes, are together of bulk at most 1048576: NARROWER than '..Said'. Prove '..Said' where nothing that the law and all that it calls make is longer than what came in: it says more and counts as full. Else prove '..UptoSaid'. A law counts once. -/
mutual
def uptoBulk {H : Type} : DataW H → Nat
  | .lit (.string bytes) => bytes.length + 1
  | .lit _ => 1
  | .nil => 1
  | .ptr d => uptoBulk d + 1
  | .slice elems spare => uptoBulkAll elems + uptoBulkAll spare + 1
  | .agg parts => uptoBulkAll parts + 1
  | .iface _ d => uptoBulk d + 1
  | .map entries => uptoBulkEntries entries + 1
  | .held _ => 1
def uptoBulkAll {H : Type} : List (DataW H) → Nat
  | [] => 0
  | d :: r => uptoBulk d + uptoBulkAll r
def uptoBulkEntries {H : Type} : List (Lit × DataW H) → Nat
  | [] => 0
  | x :: r => uptoBulkEntry x + uptoBulkEntries r
def uptoBulkEntry {H : Type} : Lit × DataW H → Nat
  | (.string bytes, d) => bytes.length + uptoBulk d + 1
  | (_, d) => uptoBulk d + 1
 end
def uptoSmall : (H : Type) → List (DataW H) → Bool := fun _ ds => decide (uptoBulkAll ds ≤ 1048576)
def OpenSpec.upto (s : _root_.Go.ChangeSpec) : _root_.Go.OpenSpec := { _root_.Go.OpenSpec.ofChange s with cond := some uptoSmall }

/-- 'selvedgelaw16.LaneOpens', WHERE WHAT IT READS IS OF BULK AT MOST 1048576: true; the input reads as it did. -/
def laneOpensUptoRow : OpenClaim := { program := "ytldpaoaiapedjaa", sum := "df193a6d702d994bcf0ebfc68bd0f66162eb7d09b1aba7e2b3669d5561bad9fc", func := "selvedge/selvedgelaw16.LaneOpens", spec := "laneOpens", unfollowed := true, recurses := true, apart := false, narrowed := true }
def LaneOpensUptoSaid : Prop := laneOpensUptoRow.holds Try.pinned (OpenSpec.upto laneOpensSpec)

/-- 'selvedgelaw16.LanePicks', WHERE WHAT IT READS IS OF BULK AT MOST 1048576: true; the input reads as it did. -/
def lanePicksUptoRow : OpenClaim := { program := "ytldpaoaiapedjaa", sum := "df193a6d702d994bcf0ebfc68bd0f66162eb7d09b1aba7e2b3669d5561bad9fc", func := "selvedge/selvedgelaw16.LanePicks", spec := "lanePicks", unfollowed := true, recurses := true, apart := false, narrowed := true }
def LanePicksUptoSaid : Prop := lanePicksUptoRow.holds Try.pinned (OpenSpec.upto lanePicksSpec)

/-- 'selvedgelaw16.LaneKeeps', WHERE WHAT IT READS IS OF BULK AT MOST 1048576: true; the input reads as it did. -/
def laneKeepsUptoRow : OpenClaim := { program := "ytldpaoaiapedjaa", sum := "df193a6d702d994bcf0ebfc68bd0f66162eb7d09b1aba7e2b3669d5561bad9fc", func := "selvedge/selvedgelaw16.LaneKeeps", spec := "laneKeeps", unfollowed := true, recurses := true, apart := false, narrowed := true }
def LaneKeepsUptoSaid : Prop := laneKeepsUptoRow.holds Try.pinned (OpenSpec.upto laneKeepsSpec)

/-- 'selvedgelaw16.LaneSubmits', WHERE WHAT IT READS IS OF BULK AT MOST 1048576: true; the input reads as it did. -/
def laneSubmitsUptoRow : OpenClaim := { program := "ytldpaoaiapedjaa", sum := "df193a6d702d994bcf0ebfc68bd0f66162eb7d09b1aba7e2b3669d5561bad9fc", func := "selvedge/selvedgelaw16.LaneSubmits", spec := "laneSubmits", unfollowed := true, recurses := true, apart := false, narrowed := true }
def LaneSubmitsUptoSaid : Prop := laneSubmitsUptoRow.holds Try.pinned (OpenSpec.upto laneSubmitsSpec)

/-- 'selvedgelaw16.LaneTells', WHERE WHAT IT READS IS OF BULK AT MOST 1048576: true; the input reads as it did. -/
def laneTellsUptoRow : OpenClaim := { program := "ytldpaoaiapedjaa", sum := "df193a6d702d994bcf0ebfc68bd0f66162eb7d09b1aba7e2b3669d5561bad9fc", func := "selvedge/selvedgelaw16.LaneTells", spec := "laneTells", unfollowed := true, recurses := true, apart := false, narrowed := true }
def LaneTellsUptoSaid : Prop := laneTellsUptoRow.holds Try.pinned (OpenSpec.upto laneTellsSpec)

/-- 'selvedgelaw16.LaneTwice', WHERE WHAT IT READS IS OF BULK AT MOST 1048576: true; the input reads as it did. -/
def laneTwiceUptoRow : OpenClaim := { program := "ytldpaoaiapedjaa", sum := "df193a6d702d994bcf0ebfc68bd0f66162eb7d09b1aba7e2b3669d5561bad9fc", func := "selvedge/selvedgelaw16.LaneTwice", spec := "laneTwice", unfollowed := true, recurses := true, apart := false, narrowed := true }
def LaneTwiceUptoSaid : Prop := laneTwiceUptoRow.holds Try.pinned (OpenSpec.upto laneTwiceSpec)

end Rows
end Go.Proofs.Ytldpaoaiapedjaa
