/-
  DERIVED. GIVEN WITH THE SEED: THE CARDS: each row of YtdlblokjfoggpaaGreatDoorRows.lean that lists a variable, with what it lists TIED to the program's text (the seventh form; the later family's looks); each row that meets fmt, with fmt's text TOLD by the authors' own Lean function (tested against real Go, not proved from fmt's source: count such statements apart). THE CARD IS WHAT COUNTS. Prove the row's statement (the work); the ties are given (YtdlblokjfoggpaaGreatDoorTie.lean); close each card by the builder's one call (the guide's Derived/Test/ToyasCard.lean, 'card_holds'). Laid BY PROGRAM, IN A SANDBOX (cutbox-door.mjs). By AI agents, Wed Nov 11 2026. No macro, syntax, notation, axiom, sorry.
-/
import Derived.Test.YtdlblokjfoggpaaGreatDoorRows
import GoSem.ClaimSeven
namespace Go.Proofs.YtdlblokjfoggpaaGreatDoor
namespace Rows

/-- THE TIED CARD OF 'jobmuxlaw12.CheckPatterns'. -/
def checkPatternsCard : Claim7 := { stood := { row := checkPatternsRow, standIns := [], harness := (true, "3f9c621d2aeb44b4a167727cf3182a179d07b3b6c8c9aa37046a594ff99e374c"), looks := true }, kinds := [], alts := [], laidByText := true, laidKinds := [.data, .data, .data, .handle, .sentinel, .sentinel, .sentinel, .sentinel, .sentinel, .sentinel, .sentinel, .sentinel, .sentinel], laidTests := true, laidLooks := .later }
def CheckPatternsCardSaid : Prop := Claim7.holds Tryz.pinned (.plain (OpenSpec.ofChange checkPatternsSpec)) checkPatternsCard

/-- THE TIED CARD OF 'jobmuxlaw12.CheckStarts'. -/
def checkStartsCard : Claim7 := { stood := { row := checkStartsRow, standIns := [], harness := (true, "3f9c621d2aeb44b4a167727cf3182a179d07b3b6c8c9aa37046a594ff99e374c"), looks := true }, kinds := [], alts := [], laidByText := true, laidKinds := [.data, .data, .data, .handle, .sentinel, .sentinel, .sentinel, .sentinel, .sentinel, .sentinel, .sentinel, .sentinel, .sentinel], laidTests := true, laidLooks := .later }
def CheckStartsCardSaid : Prop := Claim7.holds Tryz.pinned (.plain (OpenSpec.ofChange checkStartsSpec)) checkStartsCard

/-- THE SECOND FORM's CARD OF 'jobmuxlaw12.CheckPatterns'. -/
def checkPatternsUptoCard : Claim7 := { stood := { row := checkPatternsUptoRow, standIns := [], harness := (true, "3f9c621d2aeb44b4a167727cf3182a179d07b3b6c8c9aa37046a594ff99e374c"), looks := true }, kinds := [], alts := [], laidByText := true, laidKinds := [.data, .data, .data, .handle, .sentinel, .sentinel, .sentinel, .sentinel, .sentinel, .sentinel, .sentinel, .sentinel, .sentinel], laidTests := true, laidLooks := .later }
def CheckPatternsUptoCardSaid : Prop := Claim7.holds Tryz.pinned (.plain (OpenSpec.upto checkPatternsSpec)) checkPatternsUptoCard

/-- THE SECOND FORM's CARD OF 'jobmuxlaw12.CheckStarts'. -/
def checkStartsUptoCard : Claim7 := { stood := { row := checkStartsUptoRow, standIns := [], harness := (true, "3f9c621d2aeb44b4a167727cf3182a179d07b3b6c8c9aa37046a594ff99e374c"), looks := true }, kinds := [], alts := [], laidByText := true, laidKinds := [.data, .data, .data, .handle, .sentinel, .sentinel, .sentinel, .sentinel, .sentinel, .sentinel, .sentinel, .sentinel, .sentinel], laidTests := true, laidLooks := .later }
def CheckStartsUptoCardSaid : Prop := Claim7.holds Tryz.pinned (.plain (OpenSpec.upto checkStartsSpec)) checkStartsUptoCard
end Rows
end Go.Proofs.YtdlblokjfoggpaaGreatDoor
