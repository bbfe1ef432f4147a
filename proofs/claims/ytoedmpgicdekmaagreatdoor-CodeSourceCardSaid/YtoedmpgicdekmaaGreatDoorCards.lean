/-
  DERIVED. GIVEN WITH THE SEED: THE CARDS: each row of YtoedmpgicdekmaaGreatDoorRows.lean that lists a variable, with what it lists TIED to the program's text (the seventh form; the later family's looks); each row that meets fmt, with fmt's text TOLD by the authors' own Lean function (tested against real Go, not proved from fmt's source: count such statements apart). THE CARD IS WHAT COUNTS. Prove the row's statement (the work); the ties are given (YtoedmpgicdekmaaGreatDoorTie.lean); close each card by the builder's one call (the guide's Derived/Test/ToyasCard.lean, 'card_holds'). Laid BY PROGRAM, IN A SANDBOX (cutbox-door.mjs). By AI agents, Wed Nov 11 2026. No macro, syntax, notation, axiom, sorry.
-/
import Derived.Test.YtoedmpgicdekmaaGreatDoorRows
import GoSem.ClaimSeven
namespace Go.Proofs.YtoedmpgicdekmaaGreatDoor
namespace Rows

/-- THE TIED CARD OF 'ratoonlaw50.CodeErrors'. -/
def codeErrorsCard : Claim7 := { stood := { row := codeErrorsRow, standIns := [], harness := (true, "7bfefbe98194d8e5b72467bec5a09ed727cfcf93c820bb0657d951df8dd3fddd"), looks := true }, kinds := [], alts := [], laidByText := true, laidKinds := [.data, .data, .data, .sentinel, .sentinel, .data, .data], laidTests := true, laidLooks := .later }
def CodeErrorsCardSaid : Prop := Claim7.holds Tryz.pinned (.plain (OpenSpec.ofChange codeErrorsSpec)) codeErrorsCard

/-- THE TIED CARD OF 'ratoonlaw50.CodePrefix'. -/
def codePrefixCard : Claim7 := { stood := { row := codePrefixRow, standIns := [], harness := (true, "7bfefbe98194d8e5b72467bec5a09ed727cfcf93c820bb0657d951df8dd3fddd"), looks := true }, kinds := [], alts := [], laidByText := true, laidKinds := [.data, .data, .data, .sentinel, .sentinel, .data, .data], laidTests := true, laidLooks := .later }
def CodePrefixCardSaid : Prop := Claim7.holds Tryz.pinned (.plain (OpenSpec.ofChange codePrefixSpec)) codePrefixCard

/-- THE TIED CARD OF 'ratoonlaw50.CodeLoops'. -/
def codeLoopsCard : Claim7 := { stood := { row := codeLoopsRow, standIns := [], harness := (true, "7bfefbe98194d8e5b72467bec5a09ed727cfcf93c820bb0657d951df8dd3fddd"), looks := true }, kinds := [], alts := [], laidByText := true, laidKinds := [.data, .data, .data, .sentinel, .sentinel, .data, .data], laidTests := true, laidLooks := .later }
def CodeLoopsCardSaid : Prop := Claim7.holds Tryz.pinned (.plain (OpenSpec.ofChange codeLoopsSpec)) codeLoopsCard

/-- THE TIED CARD OF 'ratoonlaw50.CodeSource'. -/
def codeSourceCard : Claim7 := { stood := { row := codeSourceRow, standIns := [], harness := (true, "7bfefbe98194d8e5b72467bec5a09ed727cfcf93c820bb0657d951df8dd3fddd"), looks := true }, kinds := [], alts := [], laidByText := true, laidKinds := [.data, .data, .data, .sentinel, .sentinel, .data, .data], laidTests := true, laidLooks := .later }
def CodeSourceCardSaid : Prop := Claim7.holds Tryz.pinned (.plain (OpenSpec.ofChange codeSourceSpec)) codeSourceCard

/-- THE TIED CARD OF 'ratoonlaw50.CodeMeans'. -/
def codeMeansCard : Claim7 := { stood := { row := codeMeansRow, standIns := [], harness := (true, "7bfefbe98194d8e5b72467bec5a09ed727cfcf93c820bb0657d951df8dd3fddd"), looks := true }, kinds := [], alts := [], laidByText := true, laidKinds := [.data, .data, .data, .sentinel, .sentinel, .data, .data], laidTests := true, laidLooks := .later }
def CodeMeansCardSaid : Prop := Claim7.holds Tryz.pinned (.plain (OpenSpec.ofChange codeMeansSpec)) codeMeansCard

/-- THE SECOND FORM's CARD OF 'ratoonlaw50.CodeErrors'. -/
def codeErrorsUptoCard : Claim7 := { stood := { row := codeErrorsUptoRow, standIns := [], harness := (true, "7bfefbe98194d8e5b72467bec5a09ed727cfcf93c820bb0657d951df8dd3fddd"), looks := true }, kinds := [], alts := [], laidByText := true, laidKinds := [.data, .data, .data, .sentinel, .sentinel, .data, .data], laidTests := true, laidLooks := .later }
def CodeErrorsUptoCardSaid : Prop := Claim7.holds Tryz.pinned (.plain (OpenSpec.upto codeErrorsSpec)) codeErrorsUptoCard

/-- THE SECOND FORM's CARD OF 'ratoonlaw50.CodePrefix'. -/
def codePrefixUptoCard : Claim7 := { stood := { row := codePrefixUptoRow, standIns := [], harness := (true, "7bfefbe98194d8e5b72467bec5a09ed727cfcf93c820bb0657d951df8dd3fddd"), looks := true }, kinds := [], alts := [], laidByText := true, laidKinds := [.data, .data, .data, .sentinel, .sentinel, .data, .data], laidTests := true, laidLooks := .later }
def CodePrefixUptoCardSaid : Prop := Claim7.holds Tryz.pinned (.plain (OpenSpec.upto codePrefixSpec)) codePrefixUptoCard

/-- THE SECOND FORM's CARD OF 'ratoonlaw50.CodeLoops'. -/
def codeLoopsUptoCard : Claim7 := { stood := { row := codeLoopsUptoRow, standIns := [], harness := (true, "7bfefbe98194d8e5b72467bec5a09ed727cfcf93c820bb0657d951df8dd3fddd"), looks := true }, kinds := [], alts := [], laidByText := true, laidKinds := [.data, .data, .data, .sentinel, .sentinel, .data, .data], laidTests := true, laidLooks := .later }
def CodeLoopsUptoCardSaid : Prop := Claim7.holds Tryz.pinned (.plain (OpenSpec.upto codeLoopsSpec)) codeLoopsUptoCard

/-- THE SECOND FORM's CARD OF 'ratoonlaw50.CodeSource'. -/
def codeSourceUptoCard : Claim7 := { stood := { row := codeSourceUptoRow, standIns := [], harness := (true, "7bfefbe98194d8e5b72467bec5a09ed727cfcf93c820bb0657d951df8dd3fddd"), looks := true }, kinds := [], alts := [], laidByText := true, laidKinds := [.data, .data, .data, .sentinel, .sentinel, .data, .data], laidTests := true, laidLooks := .later }
def CodeSourceUptoCardSaid : Prop := Claim7.holds Tryz.pinned (.plain (OpenSpec.upto codeSourceSpec)) codeSourceUptoCard

/-- THE SECOND FORM's CARD OF 'ratoonlaw50.CodeMeans'. -/
def codeMeansUptoCard : Claim7 := { stood := { row := codeMeansUptoRow, standIns := [], harness := (true, "7bfefbe98194d8e5b72467bec5a09ed727cfcf93c820bb0657d951df8dd3fddd"), looks := true }, kinds := [], alts := [], laidByText := true, laidKinds := [.data, .data, .data, .sentinel, .sentinel, .data, .data], laidTests := true, laidLooks := .later }
def CodeMeansUptoCardSaid : Prop := Claim7.holds Tryz.pinned (.plain (OpenSpec.upto codeMeansSpec)) codeMeansUptoCard
end Rows
end Go.Proofs.YtoedmpgicdekmaaGreatDoor
