/-
  NARROWER THAN 'FOR EVERY INPUT', by the rows' own cells (each row's printed sentence says how): SeatsMay: laid · SeatsInside: laid · SeatsSums: laid · SeatsPuts: laid · SeatsMeet: laid · SeatsHonest: laid · SeatsBits: laid · SeatsTurn: laid.
  DERIVED. THE GIVEN ROWS OF THIS SEAT. 8 by the template 'for every input the law returns true; each argument reads behind the call as it read before'; 0 by the template 'total and deterministic' (their statements: YtcbehldoocfiiaaDoorTotals.lean).
  GIVEN WITH THE SEED: the statements are not yours to turn. If you find one false, say at which input.
  Laid BY PROGRAM, IN A SANDBOX (cutbox-rows.mjs): the forced cells as the released guide's own fill.sh prints them over the translation 2d309556d59c83be… (all of the seat's roots in one cut). By AI agents, Wed Nov 11 2026. No macro, syntax, notation, axiom, sorry.
-/
import Derived.Test.YtcbehldoocfiiaaDoorChecked
import GoSem.Claim
import GoSem.ClaimJoined
import GoSem.ClaimMapViews
import Derived.JoinedTies
import Derived.KernelRfl
namespace Go.Proofs.YtcbehldoocfiiaaDoor
/- THE CELL 'sum', in the pinned program and in every row, IS THE sha256 OF THE DUMP (.gsa) THAT YtcbehldoocfiiaaDoorProg.lean LOADS. Nothing in Lean hashes anything: it is a label: what it is worth is what the hold of that sum in a sandbox is worth. -/
noncomputable def Tryd.pinned : Pinned := { name := "ytcbehldoocfiiaadoor", sum := "2d309556d59c83be8758d3b3348364b330ce02616e5ae54023c0eabb79bd2ab1", checked := Tryd.checked }
namespace Rows
def none {H : Type} : Left H := { results := [], args := [] }

/- WHAT THE LISTED PACKAGE-LEVEL VARIABLES READ AS WHEN THE CALL BEGINS. Each datum BY PROGRAM (the guide's laid-datum.mjs) off the statement by which the dump's own 'gosem.cut.vars' lays the variable. In a bare row this is a premise. The card (YtcbehldoocfiiaaDoorCards.lean) ties it to the program's text. -/
def laid_math_bits_deBruijn64tab {H : Type} : DataW H := .agg [.lit (.int .u8 0), .lit (.int .u8 1), .lit (.int .u8 56), .lit (.int .u8 2), .lit (.int .u8 57), .lit (.int .u8 49), .lit (.int .u8 28), .lit (.int .u8 3), .lit (.int .u8 61), .lit (.int .u8 58), .lit (.int .u8 42), .lit (.int .u8 50), .lit (.int .u8 38), .lit (.int .u8 29), .lit (.int .u8 17), .lit (.int .u8 4), .lit (.int .u8 62), .lit (.int .u8 47), .lit (.int .u8 59), .lit (.int .u8 36), .lit (.int .u8 45), .lit (.int .u8 43), .lit (.int .u8 51), .lit (.int .u8 22), .lit (.int .u8 53), .lit (.int .u8 39), .lit (.int .u8 33), .lit (.int .u8 30), .lit (.int .u8 24), .lit (.int .u8 18), .lit (.int .u8 12), .lit (.int .u8 5), .lit (.int .u8 63), .lit (.int .u8 55), .lit (.int .u8 48), .lit (.int .u8 27), .lit (.int .u8 60), .lit (.int .u8 41), .lit (.int .u8 37), .lit (.int .u8 16), .lit (.int .u8 46), .lit (.int .u8 35), .lit (.int .u8 44), .lit (.int .u8 21), .lit (.int .u8 52), .lit (.int .u8 32), .lit (.int .u8 23), .lit (.int .u8 11), .lit (.int .u8 54), .lit (.int .u8 26), .lit (.int .u8 40), .lit (.int .u8 15), .lit (.int .u8 34), .lit (.int .u8 20), .lit (.int .u8 31), .lit (.int .u8 10), .lit (.int .u8 25), .lit (.int .u8 14), .lit (.int .u8 19), .lit (.int .u8 9), .lit (.int .u8 13), .lit (.int .u8 8), .lit (.int .u8 7), .lit (.int .u8 6)]

/-- 'selvedgelaw05.SeatsMay': WHATEVER THE INPUT: true; the input reads as it did. -/
def seatsMaySpec : ChangeSpec := { name := "seatsMay", fn := fun _ => fun
  | [d] => { results := [.lit (.bool true)], args := [d] }
  | _ => none }
def seatsMayRow : OpenClaim := { program := "ytcbehldoocfiiaadoor", sum := "2d309556d59c83be8758d3b3348364b330ce02616e5ae54023c0eabb79bd2ab1", func := "selvedge/selvedgelaw05.SeatsMay", spec := "seatsMay", unfollowed := true, recurses := true, named := ["math/bits.deBruijn64tab"], apart := false, laid := [("math/bits.deBruijn64tab", laid_math_bits_deBruijn64tab)] }
def SeatsMaySaid : Prop := seatsMayRow.holds Tryd.pinned (OpenSpec.ofChange seatsMaySpec)

/-- ITS FALSE NEIGHBOUR: 'it returns false'. Refute it at one input. -/
def seatsMayWrong : ChangeSpec := { name := "seatsMay", fn := fun _ => fun
  | [d] => { results := [.lit (.bool false)], args := [d] }
  | _ => none }
def SeatsMayWrongFalsely : Prop := seatsMayRow.holds Tryd.pinned (OpenSpec.ofChange seatsMayWrong)

/-- 'selvedgelaw05.SeatsInside': WHATEVER THE INPUT: true; the input reads as it did. -/
def seatsInsideSpec : ChangeSpec := { name := "seatsInside", fn := fun _ => fun
  | [d1, d2] => { results := [.lit (.bool true)], args := [d1, d2] }
  | _ => none }
def seatsInsideRow : OpenClaim := { program := "ytcbehldoocfiiaadoor", sum := "2d309556d59c83be8758d3b3348364b330ce02616e5ae54023c0eabb79bd2ab1", func := "selvedge/selvedgelaw05.SeatsInside", spec := "seatsInside", unfollowed := true, recurses := true, named := ["math/bits.deBruijn64tab"], apart := false, laid := [("math/bits.deBruijn64tab", laid_math_bits_deBruijn64tab)] }
def SeatsInsideSaid : Prop := seatsInsideRow.holds Tryd.pinned (OpenSpec.ofChange seatsInsideSpec)

/-- ITS FALSE NEIGHBOUR: 'it returns false'. Refute it at one input. -/
def seatsInsideWrong : ChangeSpec := { name := "seatsInside", fn := fun _ => fun
  | [d1, d2] => { results := [.lit (.bool false)], args := [d1, d2] }
  | _ => none }
def SeatsInsideWrongFalsely : Prop := seatsInsideRow.holds Tryd.pinned (OpenSpec.ofChange seatsInsideWrong)

/-- 'selvedgelaw05.SeatsSums': WHATEVER THE INPUT: true; the input reads as it did. -/
def seatsSumsSpec : ChangeSpec := { name := "seatsSums", fn := fun _ => fun
  | [d1, d2] => { results := [.lit (.bool true)], args := [d1, d2] }
  | _ => none }
def seatsSumsRow : OpenClaim := { program := "ytcbehldoocfiiaadoor", sum := "2d309556d59c83be8758d3b3348364b330ce02616e5ae54023c0eabb79bd2ab1", func := "selvedge/selvedgelaw05.SeatsSums", spec := "seatsSums", unfollowed := true, recurses := true, named := ["math/bits.deBruijn64tab"], apart := false, laid := [("math/bits.deBruijn64tab", laid_math_bits_deBruijn64tab)] }
def SeatsSumsSaid : Prop := seatsSumsRow.holds Tryd.pinned (OpenSpec.ofChange seatsSumsSpec)

/-- ITS FALSE NEIGHBOUR: 'it returns false'. Refute it at one input. -/
def seatsSumsWrong : ChangeSpec := { name := "seatsSums", fn := fun _ => fun
  | [d1, d2] => { results := [.lit (.bool false)], args := [d1, d2] }
  | _ => none }
def SeatsSumsWrongFalsely : Prop := seatsSumsRow.holds Tryd.pinned (OpenSpec.ofChange seatsSumsWrong)

/-- 'selvedgelaw05.SeatsPuts': WHATEVER THE INPUT: true; the input reads as it did. -/
def seatsPutsSpec : ChangeSpec := { name := "seatsPuts", fn := fun _ => fun
  | [d1, d2, d3] => { results := [.lit (.bool true)], args := [d1, d2, d3] }
  | _ => none }
def seatsPutsRow : OpenClaim := { program := "ytcbehldoocfiiaadoor", sum := "2d309556d59c83be8758d3b3348364b330ce02616e5ae54023c0eabb79bd2ab1", func := "selvedge/selvedgelaw05.SeatsPuts", spec := "seatsPuts", unfollowed := true, recurses := true, named := ["math/bits.deBruijn64tab"], apart := false, laid := [("math/bits.deBruijn64tab", laid_math_bits_deBruijn64tab)] }
def SeatsPutsSaid : Prop := seatsPutsRow.holds Tryd.pinned (OpenSpec.ofChange seatsPutsSpec)

/-- ITS FALSE NEIGHBOUR: 'it returns false'. Refute it at one input. -/
def seatsPutsWrong : ChangeSpec := { name := "seatsPuts", fn := fun _ => fun
  | [d1, d2, d3] => { results := [.lit (.bool false)], args := [d1, d2, d3] }
  | _ => none }
def SeatsPutsWrongFalsely : Prop := seatsPutsRow.holds Tryd.pinned (OpenSpec.ofChange seatsPutsWrong)

/-- 'selvedgelaw05.SeatsMeet': WHATEVER THE INPUT: true; the input reads as it did. -/
def seatsMeetSpec : ChangeSpec := { name := "seatsMeet", fn := fun _ => fun
  | [d1, d2, d3] => { results := [.lit (.bool true)], args := [d1, d2, d3] }
  | _ => none }
def seatsMeetRow : OpenClaim := { program := "ytcbehldoocfiiaadoor", sum := "2d309556d59c83be8758d3b3348364b330ce02616e5ae54023c0eabb79bd2ab1", func := "selvedge/selvedgelaw05.SeatsMeet", spec := "seatsMeet", unfollowed := true, recurses := true, named := ["math/bits.deBruijn64tab"], apart := false, laid := [("math/bits.deBruijn64tab", laid_math_bits_deBruijn64tab)] }
def SeatsMeetSaid : Prop := seatsMeetRow.holds Tryd.pinned (OpenSpec.ofChange seatsMeetSpec)

/-- ITS FALSE NEIGHBOUR: 'it returns false'. Refute it at one input. -/
def seatsMeetWrong : ChangeSpec := { name := "seatsMeet", fn := fun _ => fun
  | [d1, d2, d3] => { results := [.lit (.bool false)], args := [d1, d2, d3] }
  | _ => none }
def SeatsMeetWrongFalsely : Prop := seatsMeetRow.holds Tryd.pinned (OpenSpec.ofChange seatsMeetWrong)

/-- 'selvedgelaw05.SeatsHonest': WHATEVER THE INPUT: true; the input reads as it did. -/
def seatsHonestSpec : ChangeSpec := { name := "seatsHonest", fn := fun _ => fun
  | [d1, d2, d3] => { results := [.lit (.bool true)], args := [d1, d2, d3] }
  | _ => none }
def seatsHonestRow : OpenClaim := { program := "ytcbehldoocfiiaadoor", sum := "2d309556d59c83be8758d3b3348364b330ce02616e5ae54023c0eabb79bd2ab1", func := "selvedge/selvedgelaw05.SeatsHonest", spec := "seatsHonest", unfollowed := true, recurses := true, named := ["math/bits.deBruijn64tab"], apart := false, laid := [("math/bits.deBruijn64tab", laid_math_bits_deBruijn64tab)] }
def SeatsHonestSaid : Prop := seatsHonestRow.holds Tryd.pinned (OpenSpec.ofChange seatsHonestSpec)

/-- ITS FALSE NEIGHBOUR: 'it returns false'. Refute it at one input. -/
def seatsHonestWrong : ChangeSpec := { name := "seatsHonest", fn := fun _ => fun
  | [d1, d2, d3] => { results := [.lit (.bool false)], args := [d1, d2, d3] }
  | _ => none }
def SeatsHonestWrongFalsely : Prop := seatsHonestRow.holds Tryd.pinned (OpenSpec.ofChange seatsHonestWrong)

/-- 'selvedgelaw05.SeatsBits': WHATEVER THE INPUT: true; the input reads as it did. -/
def seatsBitsSpec : ChangeSpec := { name := "seatsBits", fn := fun _ => fun
  | [d] => { results := [.lit (.bool true)], args := [d] }
  | _ => none }
def seatsBitsRow : OpenClaim := { program := "ytcbehldoocfiiaadoor", sum := "2d309556d59c83be8758d3b3348364b330ce02616e5ae54023c0eabb79bd2ab1", func := "selvedge/selvedgelaw05.SeatsBits", spec := "seatsBits", unfollowed := true, recurses := true, named := ["math/bits.deBruijn64tab"], apart := false, laid := [("math/bits.deBruijn64tab", laid_math_bits_deBruijn64tab)] }
def SeatsBitsSaid : Prop := seatsBitsRow.holds Tryd.pinned (OpenSpec.ofChange seatsBitsSpec)

/-- ITS FALSE NEIGHBOUR: 'it returns false'. Refute it at one input. -/
def seatsBitsWrong : ChangeSpec := { name := "seatsBits", fn := fun _ => fun
  | [d] => { results := [.lit (.bool false)], args := [d] }
  | _ => none }
def SeatsBitsWrongFalsely : Prop := seatsBitsRow.holds Tryd.pinned (OpenSpec.ofChange seatsBitsWrong)

/-- 'selvedgelaw05.SeatsTurn': WHATEVER THE INPUT: true; the input reads as it did. -/
def seatsTurnSpec : ChangeSpec := { name := "seatsTurn", fn := fun _ => fun
  | [d] => { results := [.lit (.bool true)], args := [d] }
  | _ => none }
def seatsTurnRow : OpenClaim := { program := "ytcbehldoocfiiaadoor", sum := "2d309556d59c83be8758d3b3348364b330ce02616e5ae54023c0eabb79bd2ab1", func := "selvedge/selvedgelaw05.SeatsTurn", spec := "seatsTurn", unfollowed := true, recurses := true, named := ["math/bits.deBruijn64tab"], apart := false, laid := [("math/bits.deBruijn64tab", laid_math_bits_deBruijn64tab)] }
def SeatsTurnSaid : Prop := seatsTurnRow.holds Tryd.pinned (OpenSpec.ofChange seatsTurnSpec)

/-- ITS FALSE NEIGHBOUR: 'it returns false'. Refute it at one input. -/
def seatsTurnWrong : ChangeSpec := { name := "seatsTurn", fn := fun _ => fun
  | [d] => { results := [.lit (.bool false)], args := [d] }
  | _ => none }
def SeatsTurnWrongFalsely : Prop := seatsTurnRow.holds Tryd.pinned (OpenSpec.ofChange seatsTurnWrong)

/- THE SECOND FORM. 'bulk': how many values and letters a reading holds, each counted each time it is reached (what is shared counts as often as it is met; a slice's spare places count too). A statement '..UptoSaid' is the law's where the arguments, and the package variables that the reading takes, are together of bulk at most 1048576: NARROWER than '..Said'. Prove '..Said' where nothing that the law and all that it calls make is longer than what came in: it says more and counts as full. Else prove '..UptoSaid'. A law counts once. -/
mutual
def uptoBulk {H : Type} : DataW H → Nat
  | .lit (.string bytes) => bytes.length + 1
  | .lit _ => 1
  | .nil => 1
  | .ptr d => uptoBulk d + 1
  | .slice elems spare => uptoBulkAll elems + uptoBulkAll spare + 1
  | .agg parts => uptoBulkAll parts + 1
  | .iface _ d => uptoBulk d + 1
  | .map entries => uptoBulkEntries entries + 1
  | .held _ => 1
def uptoBulkAll {H : Type} : List (DataW H) → Nat
  | [] => 0
  | d :: r => uptoBulk d + uptoBulkAll r
def uptoBulkEntries {H : Type} : List (Lit × DataW H) → Nat
  | [] => 0
  | x :: r => uptoBulkEntry x + uptoBulkEntries r
def uptoBulkEntry {H : Type} : Lit × DataW H → Nat
  | (.string bytes, d) => bytes.length + uptoBulk d + 1
  | (_, d) => uptoBulk d + 1
 end
def uptoSmall : (H : Type) → List (DataW H) → Bool := fun _ ds => decide (uptoBulkAll ds ≤ 1048576)
def OpenSpec.upto (s : _root_.Go.ChangeSpec) : _root_.Go.OpenSpec := { _root_.Go.OpenSpec.ofChange s with cond := some uptoSmall }

/-- 'selvedgelaw05.SeatsMay', WHERE WHAT IT READS IS OF BULK AT MOST 1048576: true; the input reads as it did. -/
def seatsMayUptoRow : OpenClaim := { program := "ytcbehldoocfiiaadoor", sum := "2d309556d59c83be8758d3b3348364b330ce02616e5ae54023c0eabb79bd2ab1", func := "selvedge/selvedgelaw05.SeatsMay", spec := "seatsMay", unfollowed := true, recurses := true, named := ["math/bits.deBruijn64tab"], apart := false, laid := [("math/bits.deBruijn64tab", laid_math_bits_deBruijn64tab)], narrowed := true }
def SeatsMayUptoSaid : Prop := seatsMayUptoRow.holds Tryd.pinned (OpenSpec.upto seatsMaySpec)

/-- 'selvedgelaw05.SeatsInside', WHERE WHAT IT READS IS OF BULK AT MOST 1048576: true; the input reads as it did. -/
def seatsInsideUptoRow : OpenClaim := { program := "ytcbehldoocfiiaadoor", sum := "2d309556d59c83be8758d3b3348364b330ce02616e5ae54023c0eabb79bd2ab1", func := "selvedge/selvedgelaw05.SeatsInside", spec := "seatsInside", unfollowed := true, recurses := true, named := ["math/bits.deBruijn64tab"], apart := false, laid := [("math/bits.deBruijn64tab", laid_math_bits_deBruijn64tab)], narrowed := true }
def SeatsInsideUptoSaid : Prop := seatsInsideUptoRow.holds Tryd.pinned (OpenSpec.upto seatsInsideSpec)

/-- 'selvedgelaw05.SeatsSums', WHERE WHAT IT READS IS OF BULK AT MOST 1048576: true; the input reads as it did. -/
def seatsSumsUptoRow : OpenClaim := { program := "ytcbehldoocfiiaadoor", sum := "2d309556d59c83be8758d3b3348364b330ce02616e5ae54023c0eabb79bd2ab1", func := "selvedge/selvedgelaw05.SeatsSums", spec := "seatsSums", unfollowed := true, recurses := true, named := ["math/bits.deBruijn64tab"], apart := false, laid := [("math/bits.deBruijn64tab", laid_math_bits_deBruijn64tab)], narrowed := true }
def SeatsSumsUptoSaid : Prop := seatsSumsUptoRow.holds Tryd.pinned (OpenSpec.upto seatsSumsSpec)

/-- 'selvedgelaw05.SeatsPuts', WHERE WHAT IT READS IS OF BULK AT MOST 1048576: true; the input reads as it did. -/
def seatsPutsUptoRow : OpenClaim := { program := "ytcbehldoocfiiaadoor", sum := "2d309556d59c83be8758d3b3348364b330ce02616e5ae54023c0eabb79bd2ab1", func := "selvedge/selvedgelaw05.SeatsPuts", spec := "seatsPuts", unfollowed := true, recurses := true, named := ["math/bits.deBruijn64tab"], apart := false, laid := [("math/bits.deBruijn64tab", laid_math_bits_deBruijn64tab)], narrowed := true }
def SeatsPutsUptoSaid : Prop := seatsPutsUptoRow.holds Tryd.pinned (OpenSpec.upto seatsPutsSpec)

/-- 'selvedgelaw05.SeatsMeet', WHERE WHAT IT READS IS OF BULK AT MOST 1048576: true; the input reads as it did. -/
def seatsMeetUptoRow : OpenClaim := { program := "ytcbehldoocfiiaadoor", sum := "2d309556d59c83be8758d3b3348364b330ce02616e5ae54023c0eabb79bd2ab1", func := "selvedge/selvedgelaw05.SeatsMeet", spec := "seatsMeet", unfollowed := true, recurses := true, named := ["math/bits.deBruijn64tab"], apart := false, laid := [("math/bits.deBruijn64tab", laid_math_bits_deBruijn64tab)], narrowed := true }
def SeatsMeetUptoSaid : Prop := seatsMeetUptoRow.holds Tryd.pinned (OpenSpec.upto seatsMeetSpec)

/-- 'selvedgelaw05.SeatsHonest', WHERE WHAT IT READS IS OF BULK AT MOST 1048576: true; the input reads as it did. -/
def seatsHonestUptoRow : OpenClaim := { program := "ytcbehldoocfiiaadoor", sum := "2d309556d59c83be8758d3b3348364b330ce02616e5ae54023c0eabb79bd2ab1", func := "selvedge/selvedgelaw05.SeatsHonest", spec := "seatsHonest", unfollowed := true, recurses := true, named := ["math/bits.deBruijn64tab"], apart := false, laid := [("math/bits.deBruijn64tab", laid_math_bits_deBruijn64tab)], narrowed := true }
def SeatsHonestUptoSaid : Prop := seatsHonestUptoRow.holds Tryd.pinned (OpenSpec.upto seatsHonestSpec)

/-- 'selvedgelaw05.SeatsBits', WHERE WHAT IT READS IS OF BULK AT MOST 1048576: true; the input reads as it did. -/
def seatsBitsUptoRow : OpenClaim := { program := "ytcbehldoocfiiaadoor", sum := "2d309556d59c83be8758d3b3348364b330ce02616e5ae54023c0eabb79bd2ab1", func := "selvedge/selvedgelaw05.SeatsBits", spec := "seatsBits", unfollowed := true, recurses := true, named := ["math/bits.deBruijn64tab"], apart := false, laid := [("math/bits.deBruijn64tab", laid_math_bits_deBruijn64tab)], narrowed := true }
def SeatsBitsUptoSaid : Prop := seatsBitsUptoRow.holds Tryd.pinned (OpenSpec.upto seatsBitsSpec)

/-- 'selvedgelaw05.SeatsTurn', WHERE WHAT IT READS IS OF BULK AT MOST 1048576: true; the input reads as it did. -/
def seatsTurnUptoRow : OpenClaim := { program := "ytcbehldoocfiiaadoor", sum := "2d309556d59c83be8758d3b3348364b330ce02616e5ae54023c0eabb79bd2ab1", func := "selvedge/selvedgelaw05.SeatsTurn", spec := "seatsTurn", unfollowed := true, recurses := true, named := ["math/bits.deBruijn64tab"], apart := false, laid := [("math/bits.deBruijn64tab", laid_math_bits_deBruijn64tab)], narrowed := true }
def SeatsTurnUptoSaid : Prop := seatsTurnUptoRow.holds Tryd.pinned (OpenSpec.upto seatsTurnSpec)

end Rows
end Go.Proofs.YtcbehldoocfiiaaDoor
