/-
  DERIVED. GIVEN WITH THE SEED: THE CARDS: each row of YtelplgkppalmfaaGreatDoorRows.lean that lists a variable, with what it lists TIED to the program's text (the seventh form; the later family's looks); each row that meets fmt, with fmt's text TOLD by the authors' own Lean function (tested against real Go, not proved from fmt's source: count such statements apart). THE CARD IS WHAT COUNTS. Prove the row's statement (the work); the ties are given (YtelplgkppalmfaaGreatDoorTie.lean); close each card by the builder's one call (the guide's Derived/Test/ToyasCard.lean, 'card_holds'). Laid BY PROGRAM, IN A SANDBOX (cutbox-door.mjs). By AI agents, Wed Nov 11 2026. No macro, syntax, notation, axiom, sorry.
-/
import Derived.Test.YtelplgkppalmfaaGreatDoorRows
import GoSem.ClaimSeven
namespace Go.Proofs.YtelplgkppalmfaaGreatDoor
namespace Rows

/-- THE TIED CARD OF 'ratoonlaw48.ParseSource'. -/
def parseSourceCard : Claim7 := { stood := { row := parseSourceRow, standIns := [], harness := (true, "f37b7ee6d0d34c8336e47f40bc48787494e956e81b3b986e3b38d265cbfe9409"), looks := true }, kinds := [], alts := [], laidByText := true, laidKinds := [.data, .data, .data, .sentinel, .sentinel], laidTests := true, laidLooks := .later }
def ParseSourceCardSaid : Prop := Claim7.holds Tryz.pinned (.plain (OpenSpec.ofChange parseSourceSpec)) parseSourceCard

/-- THE TIED CARD OF 'ratoonlaw48.ParsePrint'. -/
def parsePrintCard : Claim7 := { stood := { row := parsePrintRow, standIns := [], harness := (true, "f37b7ee6d0d34c8336e47f40bc48787494e956e81b3b986e3b38d265cbfe9409"), looks := true }, kinds := [], alts := [], laidByText := true, laidKinds := [.data, .data, .data, .sentinel, .sentinel], laidTests := true, laidLooks := .later }
def ParsePrintCardSaid : Prop := Claim7.holds Tryz.pinned (.plain (OpenSpec.ofChange parsePrintSpec)) parsePrintCard

/-- THE TIED CARD OF 'ratoonlaw48.ParseEqual'. -/
def parseEqualCard : Claim7 := { stood := { row := parseEqualRow, standIns := [], harness := (true, "f37b7ee6d0d34c8336e47f40bc48787494e956e81b3b986e3b38d265cbfe9409"), looks := true }, kinds := [], alts := [], laidByText := true, laidKinds := [.data, .data, .data, .sentinel, .sentinel], laidTests := true, laidLooks := .later }
def ParseEqualCardSaid : Prop := Claim7.holds Tryz.pinned (.plain (OpenSpec.ofChange parseEqualSpec)) parseEqualCard

/-- THE TIED CARD OF 'ratoonlaw48.ParsePrecedence'. -/
def parsePrecedenceCard : Claim7 := { stood := { row := parsePrecedenceRow, standIns := [], harness := (true, "f37b7ee6d0d34c8336e47f40bc48787494e956e81b3b986e3b38d265cbfe9409"), looks := true }, kinds := [], alts := [], laidByText := true, laidKinds := [.data, .data, .data, .sentinel, .sentinel], laidTests := true, laidLooks := .later }
def ParsePrecedenceCardSaid : Prop := Claim7.holds Tryz.pinned (.plain (OpenSpec.ofChange parsePrecedenceSpec)) parsePrecedenceCard

/-- THE TIED CARD OF 'ratoonlaw48.ParseBlanks'. -/
def parseBlanksCard : Claim7 := { stood := { row := parseBlanksRow, standIns := [], harness := (true, "f37b7ee6d0d34c8336e47f40bc48787494e956e81b3b986e3b38d265cbfe9409"), looks := true }, kinds := [], alts := [], laidByText := true, laidKinds := [.data, .data, .data, .sentinel, .sentinel], laidTests := true, laidLooks := .later }
def ParseBlanksCardSaid : Prop := Claim7.holds Tryz.pinned (.plain (OpenSpec.ofChange parseBlanksSpec)) parseBlanksCard

/-- THE TIED CARD OF 'ratoonlaw48.ParseParens'. -/
def parseParensCard : Claim7 := { stood := { row := parseParensRow, standIns := [], harness := (true, "f37b7ee6d0d34c8336e47f40bc48787494e956e81b3b986e3b38d265cbfe9409"), looks := true }, kinds := [], alts := [], laidByText := true, laidKinds := [.data, .data, .data, .sentinel, .sentinel], laidTests := true, laidLooks := .later }
def ParseParensCardSaid : Prop := Claim7.holds Tryz.pinned (.plain (OpenSpec.ofChange parseParensSpec)) parseParensCard

/-- THE SECOND FORM's CARD OF 'ratoonlaw48.ParseSource'. -/
def parseSourceUptoCard : Claim7 := { stood := { row := parseSourceUptoRow, standIns := [], harness := (true, "f37b7ee6d0d34c8336e47f40bc48787494e956e81b3b986e3b38d265cbfe9409"), looks := true }, kinds := [], alts := [], laidByText := true, laidKinds := [.data, .data, .data, .sentinel, .sentinel], laidTests := true, laidLooks := .later }
def ParseSourceUptoCardSaid : Prop := Claim7.holds Tryz.pinned (.plain (OpenSpec.upto parseSourceSpec)) parseSourceUptoCard

/-- THE SECOND FORM's CARD OF 'ratoonlaw48.ParsePrint'. -/
def parsePrintUptoCard : Claim7 := { stood := { row := parsePrintUptoRow, standIns := [], harness := (true, "f37b7ee6d0d34c8336e47f40bc48787494e956e81b3b986e3b38d265cbfe9409"), looks := true }, kinds := [], alts := [], laidByText := true, laidKinds := [.data, .data, .data, .sentinel, .sentinel], laidTests := true, laidLooks := .later }
def ParsePrintUptoCardSaid : Prop := Claim7.holds Tryz.pinned (.plain (OpenSpec.upto parsePrintSpec)) parsePrintUptoCard

/-- THE SECOND FORM's CARD OF 'ratoonlaw48.ParseEqual'. -/
def parseEqualUptoCard : Claim7 := { stood := { row := parseEqualUptoRow, standIns := [], harness := (true, "f37b7ee6d0d34c8336e47f40bc48787494e956e81b3b986e3b38d265cbfe9409"), looks := true }, kinds := [], alts := [], laidByText := true, laidKinds := [.data, .data, .data, .sentinel, .sentinel], laidTests := true, laidLooks := .later }
def ParseEqualUptoCardSaid : Prop := Claim7.holds Tryz.pinned (.plain (OpenSpec.upto parseEqualSpec)) parseEqualUptoCard

/-- THE SECOND FORM's CARD OF 'ratoonlaw48.ParsePrecedence'. -/
def parsePrecedenceUptoCard : Claim7 := { stood := { row := parsePrecedenceUptoRow, standIns := [], harness := (true, "f37b7ee6d0d34c8336e47f40bc48787494e956e81b3b986e3b38d265cbfe9409"), looks := true }, kinds := [], alts := [], laidByText := true, laidKinds := [.data, .data, .data, .sentinel, .sentinel], laidTests := true, laidLooks := .later }
def ParsePrecedenceUptoCardSaid : Prop := Claim7.holds Tryz.pinned (.plain (OpenSpec.upto parsePrecedenceSpec)) parsePrecedenceUptoCard

/-- THE SECOND FORM's CARD OF 'ratoonlaw48.ParseBlanks'. -/
def parseBlanksUptoCard : Claim7 := { stood := { row := parseBlanksUptoRow, standIns := [], harness := (true, "f37b7ee6d0d34c8336e47f40bc48787494e956e81b3b986e3b38d265cbfe9409"), looks := true }, kinds := [], alts := [], laidByText := true, laidKinds := [.data, .data, .data, .sentinel, .sentinel], laidTests := true, laidLooks := .later }
def ParseBlanksUptoCardSaid : Prop := Claim7.holds Tryz.pinned (.plain (OpenSpec.upto parseBlanksSpec)) parseBlanksUptoCard

/-- THE SECOND FORM's CARD OF 'ratoonlaw48.ParseParens'. -/
def parseParensUptoCard : Claim7 := { stood := { row := parseParensUptoRow, standIns := [], harness := (true, "f37b7ee6d0d34c8336e47f40bc48787494e956e81b3b986e3b38d265cbfe9409"), looks := true }, kinds := [], alts := [], laidByText := true, laidKinds := [.data, .data, .data, .sentinel, .sentinel], laidTests := true, laidLooks := .later }
def ParseParensUptoCardSaid : Prop := Claim7.holds Tryz.pinned (.plain (OpenSpec.upto parseParensSpec)) parseParensUptoCard
end Rows
end Go.Proofs.YtelplgkppalmfaaGreatDoor
