/-
  NARROWER THAN 'FOR EVERY INPUT', by the rows' own cells (each row's printed sentence says how): LexerTokens: laid · LexerParts: laid · LexerLimits: laid · LexerPlaces: laid · LexerJoins: laid · LexerQuotes: laid.
  DERIVED. THE GIVEN ROWS OF THIS SEAT. 6 by the template 'for every input the law returns true; each argument reads behind the call as it read before'; 0 by the template 'total and deterministic' (their statements: YtfaljkenmbbbaaaDoorTotals.lean).
  GIVEN WITH THE SEED: the statements are not yours to turn. If you find one false, say at which input.
  Laid BY PROGRAM, IN A SANDBOX (cutbox-rows.mjs): the forced cells as the released guide's own fill.sh prints them over the translation 5fd486c458fd3b6c… (all of the seat's roots in one cut). By AI agents, Wed Nov 11 2026. No macro, syntax, notation, axiom, sorry.
-/
import Derived.Test.YtfaljkenmbbbaaaDoorChecked
import GoSem.Claim
import GoSem.ClaimJoined
import GoSem.ClaimMapViews
import Derived.JoinedTies
import Derived.KernelRfl
namespace Go.Proofs.YtfaljkenmbbbaaaDoor
/- THE CELL 'sum', in the pinned program and in every row, IS THE sha256 OF THE DUMP (.gsa) THAT YtfaljkenmbbbaaaDoorProg.lean LOADS. Nothing in Lean hashes anything: it is a label: what it is worth is what the hold of that sum in a sandbox is worth. -/
noncomputable def Tryd.pinned : Pinned := { name := "ytfaljkenmbbbaaadoor", sum := "5fd486c458fd3b6c8f04b1cfdd94e0983203ff8d5a2610ef0e856a75d8604137", checked := Tryd.checked }
namespace Rows
def none {H : Type} : Left H := { results := [], args := [] }

/- WHAT THE LISTED PACKAGE-LEVEL VARIABLES READ AS WHEN THE CALL BEGINS. Each datum BY PROGRAM (the guide's laid-datum.mjs) off the statement by which the dump's own 'gosem.cut.vars' lays the variable. In a bare row this is a premise. The card (YtfaljkenmbbbaaaDoorCards.lean) ties it to the program's text. -/
def laid_errors_errorType {H : Type} : DataW H := .iface "internal/reflectlite.rtype" (.agg [.ptr (.lit (.string [101, 114, 114, 111, 114]))])

/-- 'jobmuxlaw05.LexerTokens': WHATEVER THE INPUT: true; the input reads as it did. -/
def lexerTokensSpec : ChangeSpec := { name := "lexerTokens", fn := fun _ => fun
  | [d1, d2] => { results := [.lit (.bool true)], args := [d1, d2] }
  | _ => none }
def lexerTokensRow : OpenClaim := { program := "ytfaljkenmbbbaaadoor", sum := "5fd486c458fd3b6c8f04b1cfdd94e0983203ff8d5a2610ef0e856a75d8604137", func := "jobmux/jobmuxlaw05.LexerTokens", spec := "lexerTokens", inPlace := ["internal/bytealg.IndexByteString", "internal/abi.NoEscape", "internal/reflectlite.ValueOf", "(internal/reflectlite.Value).Type", "(internal/reflectlite.Value).IsNil", "internal/reflectlite.TypeOf", "(internal/reflectlite.Value).Elem", "(internal/reflectlite.Value).Set"], unfollowed := true, recurses := true, named := ["errors.errorType"], apart := false, laid := [("errors.errorType", laid_errors_errorType)] }
def LexerTokensSaid : Prop := lexerTokensRow.holds Tryd.pinned (OpenSpec.ofChange lexerTokensSpec)

/-- ITS FALSE NEIGHBOUR: 'it returns false'. Refute it at one input. -/
def lexerTokensWrong : ChangeSpec := { name := "lexerTokens", fn := fun _ => fun
  | [d1, d2] => { results := [.lit (.bool false)], args := [d1, d2] }
  | _ => none }
def LexerTokensWrongFalsely : Prop := lexerTokensRow.holds Tryd.pinned (OpenSpec.ofChange lexerTokensWrong)

/-- 'jobmuxlaw05.LexerParts': WHATEVER THE INPUT: true; the input reads as it did. -/
def lexerPartsSpec : ChangeSpec := { name := "lexerParts", fn := fun _ => fun
  | [d1, d2, d3] => { results := [.lit (.bool true)], args := [d1, d2, d3] }
  | _ => none }
def lexerPartsRow : OpenClaim := { program := "ytfaljkenmbbbaaadoor", sum := "5fd486c458fd3b6c8f04b1cfdd94e0983203ff8d5a2610ef0e856a75d8604137", func := "jobmux/jobmuxlaw05.LexerParts", spec := "lexerParts", inPlace := ["internal/bytealg.IndexByteString", "internal/abi.NoEscape", "internal/reflectlite.ValueOf", "(internal/reflectlite.Value).Type", "(internal/reflectlite.Value).IsNil", "internal/reflectlite.TypeOf", "(internal/reflectlite.Value).Elem", "(internal/reflectlite.Value).Set"], unfollowed := true, recurses := true, named := ["errors.errorType"], apart := false, laid := [("errors.errorType", laid_errors_errorType)] }
def LexerPartsSaid : Prop := lexerPartsRow.holds Tryd.pinned (OpenSpec.ofChange lexerPartsSpec)

/-- ITS FALSE NEIGHBOUR: 'it returns false'. Refute it at one input. -/
def lexerPartsWrong : ChangeSpec := { name := "lexerParts", fn := fun _ => fun
  | [d1, d2, d3] => { results := [.lit (.bool false)], args := [d1, d2, d3] }
  | _ => none }
def LexerPartsWrongFalsely : Prop := lexerPartsRow.holds Tryd.pinned (OpenSpec.ofChange lexerPartsWrong)

/-- 'jobmuxlaw05.LexerLimits': WHATEVER THE INPUT: true; the input reads as it did. -/
def lexerLimitsSpec : ChangeSpec := { name := "lexerLimits", fn := fun _ => fun
  | [d] => { results := [.lit (.bool true)], args := [d] }
  | _ => none }
def lexerLimitsRow : OpenClaim := { program := "ytfaljkenmbbbaaadoor", sum := "5fd486c458fd3b6c8f04b1cfdd94e0983203ff8d5a2610ef0e856a75d8604137", func := "jobmux/jobmuxlaw05.LexerLimits", spec := "lexerLimits", inPlace := ["internal/bytealg.IndexByteString", "internal/abi.NoEscape", "internal/reflectlite.ValueOf", "(internal/reflectlite.Value).Type", "(internal/reflectlite.Value).IsNil", "internal/reflectlite.TypeOf", "(internal/reflectlite.Value).Elem", "(internal/reflectlite.Value).Set"], unfollowed := true, recurses := true, named := ["errors.errorType"], apart := false, laid := [("errors.errorType", laid_errors_errorType)] }
def LexerLimitsSaid : Prop := lexerLimitsRow.holds Tryd.pinned (OpenSpec.ofChange lexerLimitsSpec)

/-- ITS FALSE NEIGHBOUR: 'it returns false'. Refute it at one input. -/
def lexerLimitsWrong : ChangeSpec := { name := "lexerLimits", fn := fun _ => fun
  | [d] => { results := [.lit (.bool false)], args := [d] }
  | _ => none }
def LexerLimitsWrongFalsely : Prop := lexerLimitsRow.holds Tryd.pinned (OpenSpec.ofChange lexerLimitsWrong)

/-- 'jobmuxlaw05.LexerPlaces': WHATEVER THE INPUT: true; the input reads as it did. -/
def lexerPlacesSpec : ChangeSpec := { name := "lexerPlaces", fn := fun _ => fun
  | [d] => { results := [.lit (.bool true)], args := [d] }
  | _ => none }
def lexerPlacesRow : OpenClaim := { program := "ytfaljkenmbbbaaadoor", sum := "5fd486c458fd3b6c8f04b1cfdd94e0983203ff8d5a2610ef0e856a75d8604137", func := "jobmux/jobmuxlaw05.LexerPlaces", spec := "lexerPlaces", inPlace := ["internal/bytealg.IndexByteString", "internal/abi.NoEscape", "internal/reflectlite.ValueOf", "(internal/reflectlite.Value).Type", "(internal/reflectlite.Value).IsNil", "internal/reflectlite.TypeOf", "(internal/reflectlite.Value).Elem", "(internal/reflectlite.Value).Set"], unfollowed := true, recurses := true, named := ["errors.errorType"], apart := false, laid := [("errors.errorType", laid_errors_errorType)] }
def LexerPlacesSaid : Prop := lexerPlacesRow.holds Tryd.pinned (OpenSpec.ofChange lexerPlacesSpec)

/-- ITS FALSE NEIGHBOUR: 'it returns false'. Refute it at one input. -/
def lexerPlacesWrong : ChangeSpec := { name := "lexerPlaces", fn := fun _ => fun
  | [d] => { results := [.lit (.bool false)], args := [d] }
  | _ => none }
def LexerPlacesWrongFalsely : Prop := lexerPlacesRow.holds Tryd.pinned (OpenSpec.ofChange lexerPlacesWrong)

/-- 'jobmuxlaw05.LexerJoins': WHATEVER THE INPUT: true; the input reads as it did. -/
def lexerJoinsSpec : ChangeSpec := { name := "lexerJoins", fn := fun _ => fun
  | [d1, d2] => { results := [.lit (.bool true)], args := [d1, d2] }
  | _ => none }
def lexerJoinsRow : OpenClaim := { program := "ytfaljkenmbbbaaadoor", sum := "5fd486c458fd3b6c8f04b1cfdd94e0983203ff8d5a2610ef0e856a75d8604137", func := "jobmux/jobmuxlaw05.LexerJoins", spec := "lexerJoins", inPlace := ["internal/bytealg.IndexByteString", "internal/abi.NoEscape", "internal/reflectlite.ValueOf", "(internal/reflectlite.Value).Type", "(internal/reflectlite.Value).IsNil", "internal/reflectlite.TypeOf", "(internal/reflectlite.Value).Elem", "(internal/reflectlite.Value).Set"], unfollowed := true, recurses := true, named := ["errors.errorType"], apart := false, laid := [("errors.errorType", laid_errors_errorType)] }
def LexerJoinsSaid : Prop := lexerJoinsRow.holds Tryd.pinned (OpenSpec.ofChange lexerJoinsSpec)

/-- ITS FALSE NEIGHBOUR: 'it returns false'. Refute it at one input. -/
def lexerJoinsWrong : ChangeSpec := { name := "lexerJoins", fn := fun _ => fun
  | [d1, d2] => { results := [.lit (.bool false)], args := [d1, d2] }
  | _ => none }
def LexerJoinsWrongFalsely : Prop := lexerJoinsRow.holds Tryd.pinned (OpenSpec.ofChange lexerJoinsWrong)

/-- 'jobmuxlaw05.LexerQuotes': WHATEVER THE INPUT: true; the input reads as it did. -/
def lexerQuotesSpec : ChangeSpec := { name := "lexerQuotes", fn := fun _ => fun
  | [d] => { results := [.lit (.bool true)], args := [d] }
  | _ => none }
def lexerQuotesRow : OpenClaim := { program := "ytfaljkenmbbbaaadoor", sum := "5fd486c458fd3b6c8f04b1cfdd94e0983203ff8d5a2610ef0e856a75d8604137", func := "jobmux/jobmuxlaw05.LexerQuotes", spec := "lexerQuotes", inPlace := ["internal/bytealg.IndexByteString", "internal/abi.NoEscape", "internal/reflectlite.ValueOf", "(internal/reflectlite.Value).Type", "(internal/reflectlite.Value).IsNil", "internal/reflectlite.TypeOf", "(internal/reflectlite.Value).Elem", "(internal/reflectlite.Value).Set"], unfollowed := true, recurses := true, named := ["errors.errorType"], apart := false, laid := [("errors.errorType", laid_errors_errorType)] }
def LexerQuotesSaid : Prop := lexerQuotesRow.holds Tryd.pinned (OpenSpec.ofChange lexerQuotesSpec)

/-- ITS FALSE NEIGHBOUR: 'it returns false'. Refute it at one input. -/
def lexerQuotesWrong : ChangeSpec := { name := "lexerQuotes", fn := fun _ => fun
  | [d] => { results := [.lit (.bool false)], args := [d] }
  | _ => none }
def LexerQuotesWrongFalsely : Prop := lexerQuotesRow.holds Tryd.pinned (OpenSpec.ofChange lexerQuotesWrong)

/- THE SECOND FORM. 'bulk': how many values and letters a reading holds, each counted each time it is reached (what is shared counts as often as it is met; a slice's spare places count too). A statement '..UptoSaid' is the law's where the arguments, and the package variables that the reading takes, are together of bulk at most 1048576: NARROWER than '..Said'. Prove '..Said' where nothing that the law and all that it calls make is longer than what came in: it says more and counts as full. Else prove '..UptoSaid'. A law counts once. -/
mutual
def uptoBulk {H : Type} : DataW H → Nat
  | .lit (.string bytes) => bytes.length + 1
  | .lit _ => 1
  | .nil => 1
  | .ptr d => uptoBulk d + 1
  | .slice elems spare => uptoBulkAll elems + uptoBulkAll spare + 1
  | .agg parts => uptoBulkAll parts + 1
  | .iface _ d => uptoBulk d + 1
  | .map entries => uptoBulkEntries entries + 1
  | .held _ => 1
def uptoBulkAll {H : Type} : List (DataW H) → Nat
  | [] => 0
  | d :: r => uptoBulk d + uptoBulkAll r
def uptoBulkEntries {H : Type} : List (Lit × DataW H) → Nat
  | [] => 0
  | x :: r => uptoBulkEntry x + uptoBulkEntries r
def uptoBulkEntry {H : Type} : Lit × DataW H → Nat
  | (.string bytes, d) => bytes.length + uptoBulk d + 1
  | (_, d) => uptoBulk d + 1
 end
def uptoSmall : (H : Type) → List (DataW H) → Bool := fun _ ds => decide (uptoBulkAll ds ≤ 1048576)
def OpenSpec.upto (s : _root_.Go.ChangeSpec) : _root_.Go.OpenSpec := { _root_.Go.OpenSpec.ofChange s with cond := some uptoSmall }

/-- 'jobmuxlaw05.LexerTokens', WHERE WHAT IT READS IS OF BULK AT MOST 1048576: true; the input reads as it did. -/
def lexerTokensUptoRow : OpenClaim := { program := "ytfaljkenmbbbaaadoor", sum := "5fd486c458fd3b6c8f04b1cfdd94e0983203ff8d5a2610ef0e856a75d8604137", func := "jobmux/jobmuxlaw05.LexerTokens", spec := "lexerTokens", inPlace := ["internal/bytealg.IndexByteString", "internal/abi.NoEscape", "internal/reflectlite.ValueOf", "(internal/reflectlite.Value).Type", "(internal/reflectlite.Value).IsNil", "internal/reflectlite.TypeOf", "(internal/reflectlite.Value).Elem", "(internal/reflectlite.Value).Set"], unfollowed := true, recurses := true, named := ["errors.errorType"], apart := false, laid := [("errors.errorType", laid_errors_errorType)], narrowed := true }
def LexerTokensUptoSaid : Prop := lexerTokensUptoRow.holds Tryd.pinned (OpenSpec.upto lexerTokensSpec)

/-- 'jobmuxlaw05.LexerParts', WHERE WHAT IT READS IS OF BULK AT MOST 1048576: true; the input reads as it did. -/
def lexerPartsUptoRow : OpenClaim := { program := "ytfaljkenmbbbaaadoor", sum := "5fd486c458fd3b6c8f04b1cfdd94e0983203ff8d5a2610ef0e856a75d8604137", func := "jobmux/jobmuxlaw05.LexerParts", spec := "lexerParts", inPlace := ["internal/bytealg.IndexByteString", "internal/abi.NoEscape", "internal/reflectlite.ValueOf", "(internal/reflectlite.Value).Type", "(internal/reflectlite.Value).IsNil", "internal/reflectlite.TypeOf", "(internal/reflectlite.Value).Elem", "(internal/reflectlite.Value).Set"], unfollowed := true, recurses := true, named := ["errors.errorType"], apart := false, laid := [("errors.errorType", laid_errors_errorType)], narrowed := true }
def LexerPartsUptoSaid : Prop := lexerPartsUptoRow.holds Tryd.pinned (OpenSpec.upto lexerPartsSpec)

/-- 'jobmuxlaw05.LexerLimits', WHERE WHAT IT READS IS OF BULK AT MOST 1048576: true; the input reads as it did. -/
def lexerLimitsUptoRow : OpenClaim := { program := "ytfaljkenmbbbaaadoor", sum := "5fd486c458fd3b6c8f04b1cfdd94e0983203ff8d5a2610ef0e856a75d8604137", func := "jobmux/jobmuxlaw05.LexerLimits", spec := "lexerLimits", inPlace := ["internal/bytealg.IndexByteString", "internal/abi.NoEscape", "internal/reflectlite.ValueOf", "(internal/reflectlite.Value).Type", "(internal/reflectlite.Value).IsNil", "internal/reflectlite.TypeOf", "(internal/reflectlite.Value).Elem", "(internal/reflectlite.Value).Set"], unfollowed := true, recurses := true, named := ["errors.errorType"], apart := false, laid := [("errors.errorType", laid_errors_errorType)], narrowed := true }
def LexerLimitsUptoSaid : Prop := lexerLimitsUptoRow.holds Tryd.pinned (OpenSpec.upto lexerLimitsSpec)

/-- 'jobmuxlaw05.LexerPlaces', WHERE WHAT IT READS IS OF BULK AT MOST 1048576: true; the input reads as it did. -/
def lexerPlacesUptoRow : OpenClaim := { program := "ytfaljkenmbbbaaadoor", sum := "5fd486c458fd3b6c8f04b1cfdd94e0983203ff8d5a2610ef0e856a75d8604137", func := "jobmux/jobmuxlaw05.LexerPlaces", spec := "lexerPlaces", inPlace := ["internal/bytealg.IndexByteString", "internal/abi.NoEscape", "internal/reflectlite.ValueOf", "(internal/reflectlite.Value).Type", "(internal/reflectlite.Value).IsNil", "internal/reflectlite.TypeOf", "(internal/reflectlite.Value).Elem", "(internal/reflectlite.Value).Set"], unfollowed := true, recurses := true, named := ["errors.errorType"], apart := false, laid := [("errors.errorType", laid_errors_errorType)], narrowed := true }
def LexerPlacesUptoSaid : Prop := lexerPlacesUptoRow.holds Tryd.pinned (OpenSpec.upto lexerPlacesSpec)

/-- 'jobmuxlaw05.LexerJoins', WHERE WHAT IT READS IS OF BULK AT MOST 1048576: true; the input reads as it did. -/
def lexerJoinsUptoRow : OpenClaim := { program := "ytfaljkenmbbbaaadoor", sum := "5fd486c458fd3b6c8f04b1cfdd94e0983203ff8d5a2610ef0e856a75d8604137", func := "jobmux/jobmuxlaw05.LexerJoins", spec := "lexerJoins", inPlace := ["internal/bytealg.IndexByteString", "internal/abi.NoEscape", "internal/reflectlite.ValueOf", "(internal/reflectlite.Value).Type", "(internal/reflectlite.Value).IsNil", "internal/reflectlite.TypeOf", "(internal/reflectlite.Value).Elem", "(internal/reflectlite.Value).Set"], unfollowed := true, recurses := true, named := ["errors.errorType"], apart := false, laid := [("errors.errorType", laid_errors_errorType)], narrowed := true }
def LexerJoinsUptoSaid : Prop := lexerJoinsUptoRow.holds Tryd.pinned (OpenSpec.upto lexerJoinsSpec)

/-- 'jobmuxlaw05.LexerQuotes', WHERE WHAT IT READS IS OF BULK AT MOST 1048576: true; the input reads as it did. -/
def lexerQuotesUptoRow : OpenClaim := { program := "ytfaljkenmbbbaaadoor", sum := "5fd486c458fd3b6c8f04b1cfdd94e0983203ff8d5a2610ef0e856a75d8604137", func := "jobmux/jobmuxlaw05.LexerQuotes", spec := "lexerQuotes", inPlace := ["internal/bytealg.IndexByteString", "internal/abi.NoEscape", "internal/reflectlite.ValueOf", "(internal/reflectlite.Value).Type", "(internal/reflectlite.Value).IsNil", "internal/reflectlite.TypeOf", "(internal/reflectlite.Value).Elem", "(internal/reflectlite.Value).Set"], unfollowed := true, recurses := true, named := ["errors.errorType"], apart := false, laid := [("errors.errorType", laid_errors_errorType)], narrowed := true }
def LexerQuotesUptoSaid : Prop := lexerQuotesUptoRow.holds Tryd.pinned (OpenSpec.upto lexerQuotesSpec)

end Rows
end Go.Proofs.YtfaljkenmbbbaaaDoor
