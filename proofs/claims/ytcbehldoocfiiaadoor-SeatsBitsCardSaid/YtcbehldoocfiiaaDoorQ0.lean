/- What Go functions of this seat come to, as plain Lean functions, and the proof that each call does so, in whatever memory; its conditions stand in each theorem. Written by a program of this session (wip/gen), out of the print of the loaded translation. -/
import Derived.Test.YtcbehldoocfiiaaDoorProg
import Derived.Below
import Derived.Deep.Draws
import Derived.Deep.AppendLies
import Derived.Maps.AppendAt
import Derived.OwnWalk
import Derived.Laws.BytesArg
import Derived.Laws.MakeOwn
import Derived.Laws.OwnMore
import Derived.Deep.OwnRows
import Derived.Tactics
import Derived.Lib.ConvBytes
import Derived.Laws.Slices
import Derived.WalkKit
import Derived.KernelRfl
import Derived.RowKit3
import Derived.Deep.LoopGhost
import Derived.Deep.QuietTactic
import Derived.BigQuiet
import Derived.WideLaws
import Derived.Deep.DeepCutAuto
import Derived.Deep.CutBlock
import Derived.Deep.RegionHeld3
import Derived.Laws.Rows
import Derived.Lib.AppendStr
import Derived.ArgAppend
import Derived.Laws.IdiomCopy
import Derived.OrdersHeld
import Derived.Laws.BitsLemmas
import Derived.RowKit
import Derived.Test.YtcbehldoocfiiaaDoorWWords
import Derived.Test.YtcbehldoocfiiaaDoorWLast
import Derived.Test.YtcbehldoocfiiaaDoorWTab
import Derived.Test.YtcbehldoocfiiaaDoorWFour
import Derived.Test.YtcbehldoocfiiaaDoorWQPut
import Derived.Test.YtcbehldoocfiiaaDoorWApart
import Derived.Test.YtcbehldoocfiiaaDoorWArr
import Derived.Test.YtcbehldoocfiiaaDoorWZeros
import Derived.Test.YtcbehldoocfiiaaDoorWFoot
import Derived.Test.YtcbehldoocfiiaaDoorWKept
import Derived.Test.YtcbehldoocfiiaaDoorWShare
import Derived.Test.YtcbehldoocfiiaaDoorWN
import Derived.Test.YtcbehldoocfiiaaDoorWFootNe
import Derived.Test.YtcbehldoocfiiaaDoorWAt
import Derived.Test.YtcbehldoocfiiaaDoorWEqStruct
import Derived.Test.YtcbehldoocfiiaaDoorWRepsOne
import Derived.Test.YtcbehldoocfiiaaDoorWInv
import Derived.Test.YtcbehldoocfiiaaDoorWInvWords
import Derived.Test.YtcbehldoocfiiaaDoorWGuard
import Derived.Test.YtcbehldoocfiiaaDoorWNEv
import Derived.Test.YtcbehldoocfiiaaDoorWMore
import Derived.Test.YtcbehldoocfiiaaDoorTabs
namespace Go.Proofs.YtcbehldoocfiiaaDoor.Q
open Go.RowKit Go.Proofs.YtcbehldoocfiiaaDoorW.PrintWords Go.Proofs.YtcbehldoocfiiaaDoorW.PrintLast Go.Proofs.YtcbehldoocfiiaaDoorW.PrintMore
attribute [local go_sem] max2_int min2_int max_two min_two max_three min_three max_four min_four   -- for this text's walks alone
set_option linter.unusedVariables false
set_option linter.unusedSimpArgs false



def errW : Option Int → Value
  | none => .nilIface
  | some c => .iface 0 (.int .i64 c)
theorem errW_none : errW none = .nilIface := rfl
theorem errW_some (c : Int) : errW (some c) = .iface 0 (.int .i64 c) := rfl

theorem info3 : (Tryd.prog.info? 3).map (fun i => (i.zero, i.size, i.bytes)) = some (some (.int .i64 0), 1, 8) := by kernel_rfl
-- the values' own types

end Go.Proofs.YtcbehldoocfiiaaDoor.Q
