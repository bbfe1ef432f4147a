/-
  DERIVED. GIVEN WITH THE SEED: THE CARDS: each row of YtpnniiildnkeaaaDoorRows.lean that lists a variable, with what it lists TIED to the program's text (the seventh form; the later family's looks); each row that meets fmt, with fmt's text TOLD by the authors' own Lean function (tested against real Go, not proved from fmt's source: count such statements apart). THE CARD IS WHAT COUNTS. Prove the row's statement (the work); the ties are given (YtpnniiildnkeaaaDoorTie.lean); close each card by the builder's one call (the guide's Derived/Test/ToyasCard.lean, 'card_holds'). Laid BY PROGRAM, IN A SANDBOX (cutbox-door.mjs). By AI agents, Wed Nov 11 2026. No macro, syntax, notation, axiom, sorry.
-/
import Derived.Test.YtpnniiildnkeaaaDoorRows
import GoSem.ClaimSeven
namespace Go.Proofs.YtpnniiildnkeaaaDoor
namespace Rows

/-- THE TIED CARD OF 'ratoonlaw02.SumParts'. -/
def sumPartsCard : Claim7 := { stood := { row := sumPartsRow, standIns := [], harness := (true, "633158c44142dac367e42e1b0133fb7de717530d701eb8514a067aac7f400922"), looks := true }, kinds := [], alts := [], laidByText := true, laidKinds := [.data, .data, .data], laidTests := true, laidLooks := .later }
def SumPartsCardSaid : Prop := Claim7.holds Tryd.pinned (.plain (OpenSpec.ofChange sumPartsSpec)) sumPartsCard

/-- THE TIED CARD OF 'ratoonlaw02.SumRight'. -/
def sumRightCard : Claim7 := { stood := { row := sumRightRow, standIns := [], harness := (true, "633158c44142dac367e42e1b0133fb7de717530d701eb8514a067aac7f400922"), looks := true }, kinds := [], alts := [], laidByText := true, laidKinds := [.data, .data, .data], laidTests := true, laidLooks := .later }
def SumRightCardSaid : Prop := Claim7.holds Tryd.pinned (.plain (OpenSpec.ofChange sumRightSpec)) sumRightCard

/-- THE TIED CARD OF 'ratoonlaw02.SumDamage'. -/
def sumDamageCard : Claim7 := { stood := { row := sumDamageRow, standIns := [], harness := (true, "633158c44142dac367e42e1b0133fb7de717530d701eb8514a067aac7f400922"), looks := true }, kinds := [], alts := [], laidByText := true, laidKinds := [.data, .data, .data], laidTests := true, laidLooks := .later }
def SumDamageCardSaid : Prop := Claim7.holds Tryd.pinned (.plain (OpenSpec.ofChange sumDamageSpec)) sumDamageCard

/-- THE TIED CARD OF 'ratoonlaw02.SumOf'. -/
def sumOfCard : Claim7 := { stood := { row := sumOfRow, standIns := [], harness := (true, "633158c44142dac367e42e1b0133fb7de717530d701eb8514a067aac7f400922"), looks := true }, kinds := [], alts := [], laidByText := true, laidKinds := [.data, .data, .data], laidTests := true, laidLooks := .later }
def SumOfCardSaid : Prop := Claim7.holds Tryd.pinned (.plain (OpenSpec.ofChange sumOfSpec)) sumOfCard

/-- THE TIED CARD OF 'ratoonlaw02.SumOne'. -/
def sumOneCard : Claim7 := { stood := { row := sumOneRow, standIns := [], harness := (true, "633158c44142dac367e42e1b0133fb7de717530d701eb8514a067aac7f400922"), looks := true }, kinds := [], alts := [], laidByText := true, laidKinds := [.data, .data, .data], laidTests := true, laidLooks := .later }
def SumOneCardSaid : Prop := Claim7.holds Tryd.pinned (.plain (OpenSpec.ofChange sumOneSpec)) sumOneCard

/-- THE TIED CARD OF 'ratoonlaw02.SumDigits'. -/
def sumDigitsCard : Claim7 := { stood := { row := sumDigitsRow, standIns := [], harness := (true, "633158c44142dac367e42e1b0133fb7de717530d701eb8514a067aac7f400922"), looks := true }, kinds := [], alts := [], laidByText := true, laidKinds := [.data, .data, .data, .sentinel, .sentinel], laidTests := true, laidLooks := .later }
def SumDigitsCardSaid : Prop := Claim7.holds Tryd.pinned (.plain (OpenSpec.ofChange sumDigitsSpec)) sumDigitsCard

/-- THE SECOND FORM's CARD OF 'ratoonlaw02.SumParts'. -/
def sumPartsUptoCard : Claim7 := { stood := { row := sumPartsUptoRow, standIns := [], harness := (true, "633158c44142dac367e42e1b0133fb7de717530d701eb8514a067aac7f400922"), looks := true }, kinds := [], alts := [], laidByText := true, laidKinds := [.data, .data, .data], laidTests := true, laidLooks := .later }
def SumPartsUptoCardSaid : Prop := Claim7.holds Tryd.pinned (.plain (OpenSpec.upto sumPartsSpec)) sumPartsUptoCard

/-- THE SECOND FORM's CARD OF 'ratoonlaw02.SumRight'. -/
def sumRightUptoCard : Claim7 := { stood := { row := sumRightUptoRow, standIns := [], harness := (true, "633158c44142dac367e42e1b0133fb7de717530d701eb8514a067aac7f400922"), looks := true }, kinds := [], alts := [], laidByText := true, laidKinds := [.data, .data, .data], laidTests := true, laidLooks := .later }
def SumRightUptoCardSaid : Prop := Claim7.holds Tryd.pinned (.plain (OpenSpec.upto sumRightSpec)) sumRightUptoCard

/-- THE SECOND FORM's CARD OF 'ratoonlaw02.SumDamage'. -/
def sumDamageUptoCard : Claim7 := { stood := { row := sumDamageUptoRow, standIns := [], harness := (true, "633158c44142dac367e42e1b0133fb7de717530d701eb8514a067aac7f400922"), looks := true }, kinds := [], alts := [], laidByText := true, laidKinds := [.data, .data, .data], laidTests := true, laidLooks := .later }
def SumDamageUptoCardSaid : Prop := Claim7.holds Tryd.pinned (.plain (OpenSpec.upto sumDamageSpec)) sumDamageUptoCard

/-- THE SECOND FORM's CARD OF 'ratoonlaw02.SumOf'. -/
def sumOfUptoCard : Claim7 := { stood := { row := sumOfUptoRow, standIns := [], harness := (true, "633158c44142dac367e42e1b0133fb7de717530d701eb8514a067aac7f400922"), looks := true }, kinds := [], alts := [], laidByText := true, laidKinds := [.data, .data, .data], laidTests := true, laidLooks := .later }
def SumOfUptoCardSaid : Prop := Claim7.holds Tryd.pinned (.plain (OpenSpec.upto sumOfSpec)) sumOfUptoCard

/-- THE SECOND FORM's CARD OF 'ratoonlaw02.SumOne'. -/
def sumOneUptoCard : Claim7 := { stood := { row := sumOneUptoRow, standIns := [], harness := (true, "633158c44142dac367e42e1b0133fb7de717530d701eb8514a067aac7f400922"), looks := true }, kinds := [], alts := [], laidByText := true, laidKinds := [.data, .data, .data], laidTests := true, laidLooks := .later }
def SumOneUptoCardSaid : Prop := Claim7.holds Tryd.pinned (.plain (OpenSpec.upto sumOneSpec)) sumOneUptoCard

/-- THE SECOND FORM's CARD OF 'ratoonlaw02.SumDigits'. -/
def sumDigitsUptoCard : Claim7 := { stood := { row := sumDigitsUptoRow, standIns := [], harness := (true, "633158c44142dac367e42e1b0133fb7de717530d701eb8514a067aac7f400922"), looks := true }, kinds := [], alts := [], laidByText := true, laidKinds := [.data, .data, .data, .sentinel, .sentinel], laidTests := true, laidLooks := .later }
def SumDigitsUptoCardSaid : Prop := Claim7.holds Tryd.pinned (.plain (OpenSpec.upto sumDigitsSpec)) sumDigitsUptoCard
end Rows
end Go.Proofs.YtpnniiildnkeaaaDoor
