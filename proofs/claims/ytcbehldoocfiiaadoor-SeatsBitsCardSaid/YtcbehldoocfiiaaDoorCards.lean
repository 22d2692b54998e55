/-
  DERIVED. GIVEN WITH THE SEED: THE CARDS: each row of YtcbehldoocfiiaaDoorRows.lean that lists a variable, with what it lists TIED to the program's text (the seventh form; the later family's looks); each row that meets fmt, with fmt's text TOLD by the authors' own Lean function (tested against real Go, not proved from fmt's source: count such statements apart). THE CARD IS WHAT COUNTS. Prove the row's statement (the work); the ties are given (YtcbehldoocfiiaaDoorTie.lean); close each card by the builder's one call (the guide's Derived/Test/ToyasCard.lean, 'card_holds'). Laid BY PROGRAM, IN A SANDBOX (cutbox-door.mjs). By AI agents, Wed Nov 11 2026. No macro, syntax, notation, axiom, sorry.
-/
import Derived.Test.YtcbehldoocfiiaaDoorRows
import GoSem.ClaimSeven
namespace Go.Proofs.YtcbehldoocfiiaaDoor
namespace Rows

/-- THE TIED CARD OF 'selvedgelaw05.SeatsMay'. -/
def seatsMayCard : Claim7 := { stood := { row := seatsMayRow, standIns := [], harness := (true, "9b21807cf4dec729fd027ebcfb4b3ff8e3d82888570eb20a27c2c20b4c395774"), looks := false }, kinds := [], alts := [], laidByText := true, laidKinds := [.data], laidTests := true, laidLooks := .later }
def SeatsMayCardSaid : Prop := Claim7.holds Tryd.pinned (.plain (OpenSpec.ofChange seatsMaySpec)) seatsMayCard

/-- THE TIED CARD OF 'selvedgelaw05.SeatsInside'. -/
def seatsInsideCard : Claim7 := { stood := { row := seatsInsideRow, standIns := [], harness := (true, "9b21807cf4dec729fd027ebcfb4b3ff8e3d82888570eb20a27c2c20b4c395774"), looks := false }, kinds := [], alts := [], laidByText := true, laidKinds := [.data], laidTests := true, laidLooks := .later }
def SeatsInsideCardSaid : Prop := Claim7.holds Tryd.pinned (.plain (OpenSpec.ofChange seatsInsideSpec)) seatsInsideCard

/-- THE TIED CARD OF 'selvedgelaw05.SeatsSums'. -/
def seatsSumsCard : Claim7 := { stood := { row := seatsSumsRow, standIns := [], harness := (true, "9b21807cf4dec729fd027ebcfb4b3ff8e3d82888570eb20a27c2c20b4c395774"), looks := false }, kinds := [], alts := [], laidByText := true, laidKinds := [.data], laidTests := true, laidLooks := .later }
def SeatsSumsCardSaid : Prop := Claim7.holds Tryd.pinned (.plain (OpenSpec.ofChange seatsSumsSpec)) seatsSumsCard

/-- THE TIED CARD OF 'selvedgelaw05.SeatsPuts'. -/
def seatsPutsCard : Claim7 := { stood := { row := seatsPutsRow, standIns := [], harness := (true, "9b21807cf4dec729fd027ebcfb4b3ff8e3d82888570eb20a27c2c20b4c395774"), looks := false }, kinds := [], alts := [], laidByText := true, laidKinds := [.data], laidTests := true, laidLooks := .later }
def SeatsPutsCardSaid : Prop := Claim7.holds Tryd.pinned (.plain (OpenSpec.ofChange seatsPutsSpec)) seatsPutsCard

/-- THE TIED CARD OF 'selvedgelaw05.SeatsMeet'. -/
def seatsMeetCard : Claim7 := { stood := { row := seatsMeetRow, standIns := [], harness := (true, "9b21807cf4dec729fd027ebcfb4b3ff8e3d82888570eb20a27c2c20b4c395774"), looks := false }, kinds := [], alts := [], laidByText := true, laidKinds := [.data], laidTests := true, laidLooks := .later }
def SeatsMeetCardSaid : Prop := Claim7.holds Tryd.pinned (.plain (OpenSpec.ofChange seatsMeetSpec)) seatsMeetCard

/-- THE TIED CARD OF 'selvedgelaw05.SeatsHonest'. -/
def seatsHonestCard : Claim7 := { stood := { row := seatsHonestRow, standIns := [], harness := (true, "9b21807cf4dec729fd027ebcfb4b3ff8e3d82888570eb20a27c2c20b4c395774"), looks := false }, kinds := [], alts := [], laidByText := true, laidKinds := [.data], laidTests := true, laidLooks := .later }
def SeatsHonestCardSaid : Prop := Claim7.holds Tryd.pinned (.plain (OpenSpec.ofChange seatsHonestSpec)) seatsHonestCard

/-- THE TIED CARD OF 'selvedgelaw05.SeatsBits'. -/
def seatsBitsCard : Claim7 := { stood := { row := seatsBitsRow, standIns := [], harness := (true, "9b21807cf4dec729fd027ebcfb4b3ff8e3d82888570eb20a27c2c20b4c395774"), looks := false }, kinds := [], alts := [], laidByText := true, laidKinds := [.data], laidTests := true, laidLooks := .later }
def SeatsBitsCardSaid : Prop := Claim7.holds Tryd.pinned (.plain (OpenSpec.ofChange seatsBitsSpec)) seatsBitsCard

/-- THE TIED CARD OF 'selvedgelaw05.SeatsTurn'. -/
def seatsTurnCard : Claim7 := { stood := { row := seatsTurnRow, standIns := [], harness := (true, "9b21807cf4dec729fd027ebcfb4b3ff8e3d82888570eb20a27c2c20b4c395774"), looks := false }, kinds := [], alts := [], laidByText := true, laidKinds := [.data], laidTests := true, laidLooks := .later }
def SeatsTurnCardSaid : Prop := Claim7.holds Tryd.pinned (.plain (OpenSpec.ofChange seatsTurnSpec)) seatsTurnCard

/-- THE SECOND FORM's CARD OF 'selvedgelaw05.SeatsMay'. -/
def seatsMayUptoCard : Claim7 := { stood := { row := seatsMayUptoRow, standIns := [], harness := (true, "9b21807cf4dec729fd027ebcfb4b3ff8e3d82888570eb20a27c2c20b4c395774"), looks := false }, kinds := [], alts := [], laidByText := true, laidKinds := [.data], laidTests := true, laidLooks := .later }
def SeatsMayUptoCardSaid : Prop := Claim7.holds Tryd.pinned (.plain (OpenSpec.upto seatsMaySpec)) seatsMayUptoCard

/-- THE SECOND FORM's CARD OF 'selvedgelaw05.SeatsInside'. -/
def seatsInsideUptoCard : Claim7 := { stood := { row := seatsInsideUptoRow, standIns := [], harness := (true, "9b21807cf4dec729fd027ebcfb4b3ff8e3d82888570eb20a27c2c20b4c395774"), looks := false }, kinds := [], alts := [], laidByText := true, laidKinds := [.data], laidTests := true, laidLooks := .later }
def SeatsInsideUptoCardSaid : Prop := Claim7.holds Tryd.pinned (.plain (OpenSpec.upto seatsInsideSpec)) seatsInsideUptoCard

/-- THE SECOND FORM's CARD OF 'selvedgelaw05.SeatsSums'. -/
def seatsSumsUptoCard : Claim7 := { stood := { row := seatsSumsUptoRow, standIns := [], harness := (true, "9b21807cf4dec729fd027ebcfb4b3ff8e3d82888570eb20a27c2c20b4c395774"), looks := false }, kinds := [], alts := [], laidByText := true, laidKinds := [.data], laidTests := true, laidLooks := .later }
def SeatsSumsUptoCardSaid : Prop := Claim7.holds Tryd.pinned (.plain (OpenSpec.upto seatsSumsSpec)) seatsSumsUptoCard

/-- THE SECOND FORM's CARD OF 'selvedgelaw05.SeatsPuts'. -/
def seatsPutsUptoCard : Claim7 := { stood := { row := seatsPutsUptoRow, standIns := [], harness := (true, "9b21807cf4dec729fd027ebcfb4b3ff8e3d82888570eb20a27c2c20b4c395774"), looks := false }, kinds := [], alts := [], laidByText := true, laidKinds := [.data], laidTests := true, laidLooks := .later }
def SeatsPutsUptoCardSaid : Prop := Claim7.holds Tryd.pinned (.plain (OpenSpec.upto seatsPutsSpec)) seatsPutsUptoCard

/-- THE SECOND FORM's CARD OF 'selvedgelaw05.SeatsMeet'. -/
def seatsMeetUptoCard : Claim7 := { stood := { row := seatsMeetUptoRow, standIns := [], harness := (true, "9b21807cf4dec729fd027ebcfb4b3ff8e3d82888570eb20a27c2c20b4c395774"), looks := false }, kinds := [], alts := [], laidByText := true, laidKinds := [.data], laidTests := true, laidLooks := .later }
def SeatsMeetUptoCardSaid : Prop := Claim7.holds Tryd.pinned (.plain (OpenSpec.upto seatsMeetSpec)) seatsMeetUptoCard

/-- THE SECOND FORM's CARD OF 'selvedgelaw05.SeatsHonest'. -/
def seatsHonestUptoCard : Claim7 := { stood := { row := seatsHonestUptoRow, standIns := [], harness := (true, "9b21807cf4dec729fd027ebcfb4b3ff8e3d82888570eb20a27c2c20b4c395774"), looks := false }, kinds := [], alts := [], laidByText := true, laidKinds := [.data], laidTests := true, laidLooks := .later }
def SeatsHonestUptoCardSaid : Prop := Claim7.holds Tryd.pinned (.plain (OpenSpec.upto seatsHonestSpec)) seatsHonestUptoCard

/-- THE SECOND FORM's CARD OF 'selvedgelaw05.SeatsBits'. -/
def seatsBitsUptoCard : Claim7 := { stood := { row := seatsBitsUptoRow, standIns := [], harness := (true, "9b21807cf4dec729fd027ebcfb4b3ff8e3d82888570eb20a27c2c20b4c395774"), looks := false }, kinds := [], alts := [], laidByText := true, laidKinds := [.data], laidTests := true, laidLooks := .later }
def SeatsBitsUptoCardSaid : Prop := Claim7.holds Tryd.pinned (.plain (OpenSpec.upto seatsBitsSpec)) seatsBitsUptoCard

/-- THE SECOND FORM's CARD OF 'selvedgelaw05.SeatsTurn'. -/
def seatsTurnUptoCard : Claim7 := { stood := { row := seatsTurnUptoRow, standIns := [], harness := (true, "9b21807cf4dec729fd027ebcfb4b3ff8e3d82888570eb20a27c2c20b4c395774"), looks := false }, kinds := [], alts := [], laidByText := true, laidKinds := [.data], laidTests := true, laidLooks := .later }
def SeatsTurnUptoCardSaid : Prop := Claim7.holds Tryd.pinned (.plain (OpenSpec.upto seatsTurnSpec)) seatsTurnUptoCard
end Rows
end Go.Proofs.YtcbehldoocfiiaaDoor
