/-
  DERIVED. GIVEN WITH THE SEED: THE CARDS: each row of YtkhhlmonhapmaaaGreatDoorRows.lean that lists a variable, with what it lists TIED to the program's text (the seventh form; the later family's looks); each row that meets fmt, with fmt's text TOLD by the authors' own Lean function (tested against real Go, not proved from fmt's source: count such statements apart). THE CARD IS WHAT COUNTS. Prove the row's statement (the work); the ties are given (YtkhhlmonhapmaaaGreatDoorTie.lean); close each card by the builder's one call (the guide's Derived/Test/ToyasCard.lean, 'card_holds'). Laid BY PROGRAM, IN A SANDBOX (cutbox-door.mjs). By AI agents, Wed Nov 11 2026. No macro, syntax, notation, axiom, sorry.
-/
import Derived.Test.YtkhhlmonhapmaaaGreatDoorRows
import GoSem.ClaimSeven
namespace Go.Proofs.YtkhhlmonhapmaaaGreatDoor
namespace Rows

/-- THE TIED CARD OF 'jobmuxlaw06.GrammarParses'. -/
def grammarParsesCard : Claim7 := { stood := { row := grammarParsesRow, standIns := [], harness := (true, "e201bffc14ed2da2eb5d2142428cb7fe3b70ac5dd0031944a73971e5ad1a4ccc"), looks := true }, kinds := [], alts := [], laidByText := true, laidKinds := [.data, .data, .data, .handle, .sentinel, .sentinel], laidTests := true, laidLooks := .later }
def GrammarParsesCardSaid : Prop := Claim7.holds Tryz.pinned (.plain (OpenSpec.ofChange grammarParsesSpec)) grammarParsesCard

/-- THE TIED CARD OF 'jobmuxlaw06.GrammarItems'. -/
def grammarItemsCard : Claim7 := { stood := { row := grammarItemsRow, standIns := [], harness := (true, "e201bffc14ed2da2eb5d2142428cb7fe3b70ac5dd0031944a73971e5ad1a4ccc"), looks := true }, kinds := [], alts := [], laidByText := true, laidKinds := [.data, .data, .data, .handle, .sentinel, .sentinel], laidTests := true, laidLooks := .later }
def GrammarItemsCardSaid : Prop := Claim7.holds Tryz.pinned (.plain (OpenSpec.ofChange grammarItemsSpec)) grammarItemsCard

/-- THE TIED CARD OF 'jobmuxlaw06.GrammarLimits'. -/
def grammarLimitsCard : Claim7 := { stood := { row := grammarLimitsRow, standIns := [], harness := (true, "e201bffc14ed2da2eb5d2142428cb7fe3b70ac5dd0031944a73971e5ad1a4ccc"), looks := true }, kinds := [], alts := [], laidByText := true, laidKinds := [.data, .data, .data, .handle, .sentinel, .sentinel], laidTests := true, laidLooks := .later }
def GrammarLimitsCardSaid : Prop := Claim7.holds Tryz.pinned (.plain (OpenSpec.ofChange grammarLimitsSpec)) grammarLimitsCard

/-- THE TIED CARD OF 'jobmuxlaw06.GrammarSignals'. -/
def grammarSignalsCard : Claim7 := { stood := { row := grammarSignalsRow, standIns := [], harness := (true, "e201bffc14ed2da2eb5d2142428cb7fe3b70ac5dd0031944a73971e5ad1a4ccc"), looks := true }, kinds := [], alts := [], laidByText := true, laidKinds := [.data, .data, .data, .handle, .sentinel, .sentinel], laidTests := true, laidLooks := .later }
def GrammarSignalsCardSaid : Prop := Claim7.holds Tryz.pinned (.plain (OpenSpec.ofChange grammarSignalsSpec)) grammarSignalsCard

/-- THE TIED CARD OF 'jobmuxlaw06.GrammarBlanks'. -/
def grammarBlanksCard : Claim7 := { stood := { row := grammarBlanksRow, standIns := [], harness := (true, "e201bffc14ed2da2eb5d2142428cb7fe3b70ac5dd0031944a73971e5ad1a4ccc"), looks := true }, kinds := [], alts := [], laidByText := true, laidKinds := [.data, .data, .data, .handle, .sentinel, .sentinel], laidTests := true, laidLooks := .later }
def GrammarBlanksCardSaid : Prop := Claim7.holds Tryz.pinned (.plain (OpenSpec.ofChange grammarBlanksSpec)) grammarBlanksCard

/-- THE TIED CARD OF 'jobmuxlaw06.GrammarJoins'. -/
def grammarJoinsCard : Claim7 := { stood := { row := grammarJoinsRow, standIns := [], harness := (true, "e201bffc14ed2da2eb5d2142428cb7fe3b70ac5dd0031944a73971e5ad1a4ccc"), looks := true }, kinds := [], alts := [], laidByText := true, laidKinds := [.data, .data, .data, .handle, .sentinel, .sentinel], laidTests := true, laidLooks := .later }
def GrammarJoinsCardSaid : Prop := Claim7.holds Tryz.pinned (.plain (OpenSpec.ofChange grammarJoinsSpec)) grammarJoinsCard

/-- THE TIED CARD OF 'jobmuxlaw13.PrinterSame'. -/
def printerSameCard : Claim7 := { stood := { row := printerSameRow, standIns := [], harness := (true, "e201bffc14ed2da2eb5d2142428cb7fe3b70ac5dd0031944a73971e5ad1a4ccc"), looks := true }, kinds := [], alts := [], laidByText := true, laidKinds := [.data, .data, .data, .data, .handle, .sentinel, .sentinel, .pinned], laidTests := true, laidLooks := .later }
def PrinterSameCardSaid : Prop := Claim7.holds Tryz.pinned (.plain (OpenSpec.ofChange printerSameSpec)) printerSameCard

/-- THE SECOND FORM's CARD OF 'jobmuxlaw06.GrammarParses'. -/
def grammarParsesUptoCard : Claim7 := { stood := { row := grammarParsesUptoRow, standIns := [], harness := (true, "e201bffc14ed2da2eb5d2142428cb7fe3b70ac5dd0031944a73971e5ad1a4ccc"), looks := true }, kinds := [], alts := [], laidByText := true, laidKinds := [.data, .data, .data, .handle, .sentinel, .sentinel], laidTests := true, laidLooks := .later }
def GrammarParsesUptoCardSaid : Prop := Claim7.holds Tryz.pinned (.plain (OpenSpec.upto grammarParsesSpec)) grammarParsesUptoCard

/-- THE SECOND FORM's CARD OF 'jobmuxlaw06.GrammarItems'. -/
def grammarItemsUptoCard : Claim7 := { stood := { row := grammarItemsUptoRow, standIns := [], harness := (true, "e201bffc14ed2da2eb5d2142428cb7fe3b70ac5dd0031944a73971e5ad1a4ccc"), looks := true }, kinds := [], alts := [], laidByText := true, laidKinds := [.data, .data, .data, .handle, .sentinel, .sentinel], laidTests := true, laidLooks := .later }
def GrammarItemsUptoCardSaid : Prop := Claim7.holds Tryz.pinned (.plain (OpenSpec.upto grammarItemsSpec)) grammarItemsUptoCard

/-- THE SECOND FORM's CARD OF 'jobmuxlaw06.GrammarLimits'. -/
def grammarLimitsUptoCard : Claim7 := { stood := { row := grammarLimitsUptoRow, standIns := [], harness := (true, "e201bffc14ed2da2eb5d2142428cb7fe3b70ac5dd0031944a73971e5ad1a4ccc"), looks := true }, kinds := [], alts := [], laidByText := true, laidKinds := [.data, .data, .data, .handle, .sentinel, .sentinel], laidTests := true, laidLooks := .later }
def GrammarLimitsUptoCardSaid : Prop := Claim7.holds Tryz.pinned (.plain (OpenSpec.upto grammarLimitsSpec)) grammarLimitsUptoCard

/-- THE SECOND FORM's CARD OF 'jobmuxlaw06.GrammarSignals'. -/
def grammarSignalsUptoCard : Claim7 := { stood := { row := grammarSignalsUptoRow, standIns := [], harness := (true, "e201bffc14ed2da2eb5d2142428cb7fe3b70ac5dd0031944a73971e5ad1a4ccc"), looks := true }, kinds := [], alts := [], laidByText := true, laidKinds := [.data, .data, .data, .handle, .sentinel, .sentinel], laidTests := true, laidLooks := .later }
def GrammarSignalsUptoCardSaid : Prop := Claim7.holds Tryz.pinned (.plain (OpenSpec.upto grammarSignalsSpec)) grammarSignalsUptoCard

/-- THE SECOND FORM's CARD OF 'jobmuxlaw06.GrammarBlanks'. -/
def grammarBlanksUptoCard : Claim7 := { stood := { row := grammarBlanksUptoRow, standIns := [], harness := (true, "e201bffc14ed2da2eb5d2142428cb7fe3b70ac5dd0031944a73971e5ad1a4ccc"), looks := true }, kinds := [], alts := [], laidByText := true, laidKinds := [.data, .data, .data, .handle, .sentinel, .sentinel], laidTests := true, laidLooks := .later }
def GrammarBlanksUptoCardSaid : Prop := Claim7.holds Tryz.pinned (.plain (OpenSpec.upto grammarBlanksSpec)) grammarBlanksUptoCard

/-- THE SECOND FORM's CARD OF 'jobmuxlaw06.GrammarJoins'. -/
def grammarJoinsUptoCard : Claim7 := { stood := { row := grammarJoinsUptoRow, standIns := [], harness := (true, "e201bffc14ed2da2eb5d2142428cb7fe3b70ac5dd0031944a73971e5ad1a4ccc"), looks := true }, kinds := [], alts := [], laidByText := true, laidKinds := [.data, .data, .data, .handle, .sentinel, .sentinel], laidTests := true, laidLooks := .later }
def GrammarJoinsUptoCardSaid : Prop := Claim7.holds Tryz.pinned (.plain (OpenSpec.upto grammarJoinsSpec)) grammarJoinsUptoCard

/-- THE SECOND FORM's CARD OF 'jobmuxlaw13.PrinterSame'. -/
def printerSameUptoCard : Claim7 := { stood := { row := printerSameUptoRow, standIns := [], harness := (true, "e201bffc14ed2da2eb5d2142428cb7fe3b70ac5dd0031944a73971e5ad1a4ccc"), looks := true }, kinds := [], alts := [], laidByText := true, laidKinds := [.data, .data, .data, .data, .handle, .sentinel, .sentinel, .pinned], laidTests := true, laidLooks := .later }
def PrinterSameUptoCardSaid : Prop := Claim7.holds Tryz.pinned (.plain (OpenSpec.upto printerSameSpec)) printerSameUptoCard
end Rows
end Go.Proofs.YtkhhlmonhapmaaaGreatDoor
