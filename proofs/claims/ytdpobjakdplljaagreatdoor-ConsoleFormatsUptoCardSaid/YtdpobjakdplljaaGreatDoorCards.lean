/-
  DERIVED. GIVEN WITH THE SEED: THE CARDS: each row of YtdpobjakdplljaaGreatDoorRows.lean that lists a variable, with what it lists TIED to the program's text (the seventh form; the later family's looks); each row that meets fmt, with fmt's text TOLD by the authors' own Lean function (tested against real Go, not proved from fmt's source: count such statements apart). THE CARD IS WHAT COUNTS. Prove the row's statement (the work); the ties are given (YtdpobjakdplljaaGreatDoorTie.lean); close each card by the builder's one call (the guide's Derived/Test/ToyasCard.lean, 'card_holds'). Laid BY PROGRAM, IN A SANDBOX (cutbox-door.mjs). By AI agents, Wed Nov 11 2026. No macro, syntax, notation, axiom, sorry.
-/
import Derived.Test.YtdpobjakdplljaaGreatDoorRows
import GoSem.ClaimSeven
namespace Go.Proofs.YtdpobjakdplljaaGreatDoor
namespace Rows

/-- THE TIED CARD OF 'jobmuxlaw32.ConsoleParses'. -/
def consoleParsesCard : Claim7 := { stood := { row := consoleParsesRow, standIns := [], harness := (true, "4707befb3fe9cd48b55cc54c0bd5f55dd93833343e589a979bc4957feb495ef1"), looks := true }, kinds := [], alts := [], laidByText := true, laidKinds := [.data, .data, .data, .handle, .sentinel, .sentinel, .data], laidTests := true, laidLooks := .later }
def ConsoleParsesCardSaid : Prop := Claim7.holds Tryz.pinned (.plain (OpenSpec.ofChange consoleParsesSpec)) consoleParsesCard

/-- THE TIED CARD OF 'jobmuxlaw32.ConsoleFormats'. -/
def consoleFormatsCard : Claim7 := { stood := { row := consoleFormatsRow, standIns := [], harness := (true, "4707befb3fe9cd48b55cc54c0bd5f55dd93833343e589a979bc4957feb495ef1"), looks := true }, kinds := [], alts := [], laidByText := true, laidKinds := [.data, .data, .data, .handle, .sentinel, .sentinel, .data], laidTests := true, laidLooks := .later }
def ConsoleFormatsCardSaid : Prop := Claim7.holds Tryz.pinned (.plain (OpenSpec.ofChange consoleFormatsSpec)) consoleFormatsCard

/-- THE TIED CARD OF 'jobmuxlaw32.ConsoleBack'. -/
def consoleBackCard : Claim7 := { stood := { row := consoleBackRow, standIns := [], harness := (true, "4707befb3fe9cd48b55cc54c0bd5f55dd93833343e589a979bc4957feb495ef1"), looks := true }, kinds := [], alts := [], laidByText := true, laidKinds := [.data, .data, .data, .handle, .sentinel, .sentinel, .data], laidTests := true, laidLooks := .later }
def ConsoleBackCardSaid : Prop := Claim7.holds Tryz.pinned (.plain (OpenSpec.ofChange consoleBackSpec)) consoleBackCard

/-- THE TIED CARD OF 'jobmuxlaw32.ConsoleLimits'. -/
def consoleLimitsCard : Claim7 := { stood := { row := consoleLimitsRow, standIns := [], harness := (true, "4707befb3fe9cd48b55cc54c0bd5f55dd93833343e589a979bc4957feb495ef1"), looks := true }, kinds := [], alts := [], laidByText := true, laidKinds := [.data, .data, .data, .handle, .sentinel, .sentinel, .data], laidTests := true, laidLooks := .later }
def ConsoleLimitsCardSaid : Prop := Claim7.holds Tryz.pinned (.plain (OpenSpec.ofChange consoleLimitsSpec)) consoleLimitsCard

/-- THE TIED CARD OF 'jobmuxlaw13.PrinterSame'. -/
def printerSameCard : Claim7 := { stood := { row := printerSameRow, standIns := [], harness := (true, "4707befb3fe9cd48b55cc54c0bd5f55dd93833343e589a979bc4957feb495ef1"), looks := true }, kinds := [], alts := [], laidByText := true, laidKinds := [.data, .data, .data, .data, .handle, .sentinel, .sentinel, .pinned], laidTests := true, laidLooks := .later }
def PrinterSameCardSaid : Prop := Claim7.holds Tryz.pinned (.plain (OpenSpec.ofChange printerSameSpec)) printerSameCard

/-- THE SECOND FORM's CARD OF 'jobmuxlaw32.ConsoleParses'. -/
def consoleParsesUptoCard : Claim7 := { stood := { row := consoleParsesUptoRow, standIns := [], harness := (true, "4707befb3fe9cd48b55cc54c0bd5f55dd93833343e589a979bc4957feb495ef1"), looks := true }, kinds := [], alts := [], laidByText := true, laidKinds := [.data, .data, .data, .handle, .sentinel, .sentinel, .data], laidTests := true, laidLooks := .later }
def ConsoleParsesUptoCardSaid : Prop := Claim7.holds Tryz.pinned (.plain (OpenSpec.upto consoleParsesSpec)) consoleParsesUptoCard

/-- THE SECOND FORM's CARD OF 'jobmuxlaw32.ConsoleFormats'. -/
def consoleFormatsUptoCard : Claim7 := { stood := { row := consoleFormatsUptoRow, standIns := [], harness := (true, "4707befb3fe9cd48b55cc54c0bd5f55dd93833343e589a979bc4957feb495ef1"), looks := true }, kinds := [], alts := [], laidByText := true, laidKinds := [.data, .data, .data, .handle, .sentinel, .sentinel, .data], laidTests := true, laidLooks := .later }
def ConsoleFormatsUptoCardSaid : Prop := Claim7.holds Tryz.pinned (.plain (OpenSpec.upto consoleFormatsSpec)) consoleFormatsUptoCard

/-- THE SECOND FORM's CARD OF 'jobmuxlaw32.ConsoleBack'. -/
def consoleBackUptoCard : Claim7 := { stood := { row := consoleBackUptoRow, standIns := [], harness := (true, "4707befb3fe9cd48b55cc54c0bd5f55dd93833343e589a979bc4957feb495ef1"), looks := true }, kinds := [], alts := [], laidByText := true, laidKinds := [.data, .data, .data, .handle, .sentinel, .sentinel, .data], laidTests := true, laidLooks := .later }
def ConsoleBackUptoCardSaid : Prop := Claim7.holds Tryz.pinned (.plain (OpenSpec.upto consoleBackSpec)) consoleBackUptoCard

/-- THE SECOND FORM's CARD OF 'jobmuxlaw32.ConsoleLimits'. -/
def consoleLimitsUptoCard : Claim7 := { stood := { row := consoleLimitsUptoRow, standIns := [], harness := (true, "4707befb3fe9cd48b55cc54c0bd5f55dd93833343e589a979bc4957feb495ef1"), looks := true }, kinds := [], alts := [], laidByText := true, laidKinds := [.data, .data, .data, .handle, .sentinel, .sentinel, .data], laidTests := true, laidLooks := .later }
def ConsoleLimitsUptoCardSaid : Prop := Claim7.holds Tryz.pinned (.plain (OpenSpec.upto consoleLimitsSpec)) consoleLimitsUptoCard

/-- THE SECOND FORM's CARD OF 'jobmuxlaw13.PrinterSame'. -/
def printerSameUptoCard : Claim7 := { stood := { row := printerSameUptoRow, standIns := [], harness := (true, "4707befb3fe9cd48b55cc54c0bd5f55dd93833343e589a979bc4957feb495ef1"), looks := true }, kinds := [], alts := [], laidByText := true, laidKinds := [.data, .data, .data, .data, .handle, .sentinel, .sentinel, .pinned], laidTests := true, laidLooks := .later }
def PrinterSameUptoCardSaid : Prop := Claim7.holds Tryz.pinned (.plain (OpenSpec.upto printerSameSpec)) printerSameUptoCard
end Rows
end Go.Proofs.YtdpobjakdplljaaGreatDoor
