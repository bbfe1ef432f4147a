/-
  DERIVED. GIVEN WITH THE SEED: THE CARDS: each row of YtddomeddabfinaaGreatDoorRows.lean that lists a variable, with what it lists TIED to the program's text (the seventh form; the later family's looks); each row that meets fmt, with fmt's text TOLD by the authors' own Lean function (tested against real Go, not proved from fmt's source: count such statements apart). THE CARD IS WHAT COUNTS. Prove the row's statement (the work); the ties are given (YtddomeddabfinaaGreatDoorTie.lean); close each card by the builder's one call (the guide's Derived/Test/ToyasCard.lean, 'card_holds'). Laid BY PROGRAM, IN A SANDBOX (cutbox-door.mjs). By AI agents, Wed Nov 11 2026. No macro, syntax, notation, axiom, sorry.
-/
import Derived.Test.YtddomeddabfinaaGreatDoorRows
import GoSem.ClaimSeven
namespace Go.Proofs.YtddomeddabfinaaGreatDoor
namespace Rows

/-- THE TIED CARD OF 'ratoonlaw49.TypesCheck'. -/
def typesCheckCard : Claim7 := { stood := { row := typesCheckRow, standIns := [], harness := (true, "29654aa48aecdb8e6d1c223e412e171d0a371ee99124b89e690cf77010ace657"), looks := true }, kinds := [], alts := [], laidByText := true, laidKinds := [.data, .data, .data, .sentinel, .sentinel, .data], laidTests := true, laidLooks := .later }
def TypesCheckCardSaid : Prop := Claim7.holds Tryz.pinned (.plain (OpenSpec.ofChange typesCheckSpec)) typesCheckCard

/-- THE TIED CARD OF 'ratoonlaw49.TypesRun'. -/
def typesRunCard : Claim7 := { stood := { row := typesRunRow, standIns := [], harness := (true, "29654aa48aecdb8e6d1c223e412e171d0a371ee99124b89e690cf77010ace657"), looks := true }, kinds := [], alts := [], laidByText := true, laidKinds := [.data, .data, .data, .sentinel, .sentinel, .data], laidTests := true, laidLooks := .later }
def TypesRunCardSaid : Prop := Claim7.holds Tryz.pinned (.plain (OpenSpec.ofChange typesRunSpec)) typesRunCard

/-- THE TIED CARD OF 'ratoonlaw49.TypesNeed'. -/
def typesNeedCard : Claim7 := { stood := { row := typesNeedRow, standIns := [], harness := (true, "29654aa48aecdb8e6d1c223e412e171d0a371ee99124b89e690cf77010ace657"), looks := true }, kinds := [], alts := [], laidByText := true, laidKinds := [.data, .data, .data, .sentinel, .sentinel, .data], laidTests := true, laidLooks := .later }
def TypesNeedCardSaid : Prop := Claim7.holds Tryz.pinned (.plain (OpenSpec.ofChange typesNeedSpec)) typesNeedCard

/-- THE TIED CARD OF 'ratoonlaw49.TypesPrefix'. -/
def typesPrefixCard : Claim7 := { stood := { row := typesPrefixRow, standIns := [], harness := (true, "29654aa48aecdb8e6d1c223e412e171d0a371ee99124b89e690cf77010ace657"), looks := true }, kinds := [], alts := [], laidByText := true, laidKinds := [.data, .data, .data, .sentinel, .sentinel, .data], laidTests := true, laidLooks := .later }
def TypesPrefixCardSaid : Prop := Claim7.holds Tryz.pinned (.plain (OpenSpec.ofChange typesPrefixSpec)) typesPrefixCard

/-- THE TIED CARD OF 'ratoonlaw49.TypesLogic'. -/
def typesLogicCard : Claim7 := { stood := { row := typesLogicRow, standIns := [], harness := (true, "29654aa48aecdb8e6d1c223e412e171d0a371ee99124b89e690cf77010ace657"), looks := true }, kinds := [], alts := [], laidByText := true, laidKinds := [.data, .data, .data, .sentinel, .sentinel, .data], laidTests := true, laidLooks := .later }
def TypesLogicCardSaid : Prop := Claim7.holds Tryz.pinned (.plain (OpenSpec.ofChange typesLogicSpec)) typesLogicCard

/-- THE TIED CARD OF 'ratoonlaw49.TypesArray'. -/
def typesArrayCard : Claim7 := { stood := { row := typesArrayRow, standIns := [], harness := (true, "29654aa48aecdb8e6d1c223e412e171d0a371ee99124b89e690cf77010ace657"), looks := true }, kinds := [], alts := [], laidByText := true, laidKinds := [.data, .data, .data, .sentinel, .sentinel, .data], laidTests := true, laidLooks := .later }
def TypesArrayCardSaid : Prop := Claim7.holds Tryz.pinned (.plain (OpenSpec.ofChange typesArraySpec)) typesArrayCard

/-- THE TIED CARD OF 'ratoonlaw49.TypesStays'. -/
def typesStaysCard : Claim7 := { stood := { row := typesStaysRow, standIns := [], harness := (true, "29654aa48aecdb8e6d1c223e412e171d0a371ee99124b89e690cf77010ace657"), looks := true }, kinds := [], alts := [], laidByText := true, laidKinds := [.data, .data, .data, .sentinel, .sentinel, .data], laidTests := true, laidLooks := .later }
def TypesStaysCardSaid : Prop := Claim7.holds Tryz.pinned (.plain (OpenSpec.ofChange typesStaysSpec)) typesStaysCard

/-- THE TIED CARD OF 'ratoonlaw49.TypesArithmetic'. -/
def typesArithmeticCard : Claim7 := { stood := { row := typesArithmeticRow, standIns := [], harness := (true, "29654aa48aecdb8e6d1c223e412e171d0a371ee99124b89e690cf77010ace657"), looks := true }, kinds := [], alts := [], laidByText := true, laidKinds := [.data, .data, .data, .sentinel, .sentinel, .data, .data], laidTests := true, laidLooks := .later }
def TypesArithmeticCardSaid : Prop := Claim7.holds Tryz.pinned (.plain (OpenSpec.ofChange typesArithmeticSpec)) typesArithmeticCard

/-- THE SECOND FORM's CARD OF 'ratoonlaw49.TypesCheck'. -/
def typesCheckUptoCard : Claim7 := { stood := { row := typesCheckUptoRow, standIns := [], harness := (true, "29654aa48aecdb8e6d1c223e412e171d0a371ee99124b89e690cf77010ace657"), looks := true }, kinds := [], alts := [], laidByText := true, laidKinds := [.data, .data, .data, .sentinel, .sentinel, .data], laidTests := true, laidLooks := .later }
def TypesCheckUptoCardSaid : Prop := Claim7.holds Tryz.pinned (.plain (OpenSpec.upto typesCheckSpec)) typesCheckUptoCard

/-- THE SECOND FORM's CARD OF 'ratoonlaw49.TypesRun'. -/
def typesRunUptoCard : Claim7 := { stood := { row := typesRunUptoRow, standIns := [], harness := (true, "29654aa48aecdb8e6d1c223e412e171d0a371ee99124b89e690cf77010ace657"), looks := true }, kinds := [], alts := [], laidByText := true, laidKinds := [.data, .data, .data, .sentinel, .sentinel, .data], laidTests := true, laidLooks := .later }
def TypesRunUptoCardSaid : Prop := Claim7.holds Tryz.pinned (.plain (OpenSpec.upto typesRunSpec)) typesRunUptoCard

/-- THE SECOND FORM's CARD OF 'ratoonlaw49.TypesNeed'. -/
def typesNeedUptoCard : Claim7 := { stood := { row := typesNeedUptoRow, standIns := [], harness := (true, "29654aa48aecdb8e6d1c223e412e171d0a371ee99124b89e690cf77010ace657"), looks := true }, kinds := [], alts := [], laidByText := true, laidKinds := [.data, .data, .data, .sentinel, .sentinel, .data], laidTests := true, laidLooks := .later }
def TypesNeedUptoCardSaid : Prop := Claim7.holds Tryz.pinned (.plain (OpenSpec.upto typesNeedSpec)) typesNeedUptoCard

/-- THE SECOND FORM's CARD OF 'ratoonlaw49.TypesPrefix'. -/
def typesPrefixUptoCard : Claim7 := { stood := { row := typesPrefixUptoRow, standIns := [], harness := (true, "29654aa48aecdb8e6d1c223e412e171d0a371ee99124b89e690cf77010ace657"), looks := true }, kinds := [], alts := [], laidByText := true, laidKinds := [.data, .data, .data, .sentinel, .sentinel, .data], laidTests := true, laidLooks := .later }
def TypesPrefixUptoCardSaid : Prop := Claim7.holds Tryz.pinned (.plain (OpenSpec.upto typesPrefixSpec)) typesPrefixUptoCard

/-- THE SECOND FORM's CARD OF 'ratoonlaw49.TypesLogic'. -/
def typesLogicUptoCard : Claim7 := { stood := { row := typesLogicUptoRow, standIns := [], harness := (true, "29654aa48aecdb8e6d1c223e412e171d0a371ee99124b89e690cf77010ace657"), looks := true }, kinds := [], alts := [], laidByText := true, laidKinds := [.data, .data, .data, .sentinel, .sentinel, .data], laidTests := true, laidLooks := .later }
def TypesLogicUptoCardSaid : Prop := Claim7.holds Tryz.pinned (.plain (OpenSpec.upto typesLogicSpec)) typesLogicUptoCard

/-- THE SECOND FORM's CARD OF 'ratoonlaw49.TypesArray'. -/
def typesArrayUptoCard : Claim7 := { stood := { row := typesArrayUptoRow, standIns := [], harness := (true, "29654aa48aecdb8e6d1c223e412e171d0a371ee99124b89e690cf77010ace657"), looks := true }, kinds := [], alts := [], laidByText := true, laidKinds := [.data, .data, .data, .sentinel, .sentinel, .data], laidTests := true, laidLooks := .later }
def TypesArrayUptoCardSaid : Prop := Claim7.holds Tryz.pinned (.plain (OpenSpec.upto typesArraySpec)) typesArrayUptoCard

/-- THE SECOND FORM's CARD OF 'ratoonlaw49.TypesStays'. -/
def typesStaysUptoCard : Claim7 := { stood := { row := typesStaysUptoRow, standIns := [], harness := (true, "29654aa48aecdb8e6d1c223e412e171d0a371ee99124b89e690cf77010ace657"), looks := true }, kinds := [], alts := [], laidByText := true, laidKinds := [.data, .data, .data, .sentinel, .sentinel, .data], laidTests := true, laidLooks := .later }
def TypesStaysUptoCardSaid : Prop := Claim7.holds Tryz.pinned (.plain (OpenSpec.upto typesStaysSpec)) typesStaysUptoCard

/-- THE SECOND FORM's CARD OF 'ratoonlaw49.TypesArithmetic'. -/
def typesArithmeticUptoCard : Claim7 := { stood := { row := typesArithmeticUptoRow, standIns := [], harness := (true, "29654aa48aecdb8e6d1c223e412e171d0a371ee99124b89e690cf77010ace657"), looks := true }, kinds := [], alts := [], laidByText := true, laidKinds := [.data, .data, .data, .sentinel, .sentinel, .data, .data], laidTests := true, laidLooks := .later }
def TypesArithmeticUptoCardSaid : Prop := Claim7.holds Tryz.pinned (.plain (OpenSpec.upto typesArithmeticSpec)) typesArithmeticUptoCard
end Rows
end Go.Proofs.YtddomeddabfinaaGreatDoor
