/-
  DERIVED. GIVEN WITH THE SEED: THE CARDS: each row of YtbfjopknhlnbcaaDoorRows.lean that lists a variable, with what it lists TIED to the program's text (the seventh form; the later family's looks); each row that meets fmt, with fmt's text TOLD by the authors' own Lean function (tested against real Go, not proved from fmt's source: count such statements apart). THE CARD IS WHAT COUNTS. Prove the row's statement (the work); the ties are given (YtbfjopknhlnbcaaDoorTie.lean); close each card by the builder's one call (the guide's Derived/Test/ToyasCard.lean, 'card_holds'). Laid BY PROGRAM, IN A SANDBOX (cutbox-door.mjs). By AI agents, Wed Nov 11 2026. No macro, syntax, notation, axiom, sorry.
-/
import Derived.Test.YtbfjopknhlnbcaaDoorRows
import GoSem.ClaimSeven
namespace Go.Proofs.YtbfjopknhlnbcaaDoor
namespace Rows

/-- THE TIED CARD OF 'ratoonlaw47.LexTokens'. -/
def lexTokensCard : Claim7 := { stood := { row := lexTokensRow, standIns := [], harness := (true, "7d2a3a57ad7612d13685576c95a7a2865325c400ef00bdb2ee950a9c476fddee"), looks := true }, kinds := [], alts := [], laidByText := true, laidKinds := [.data, .data, .data, .sentinel, .sentinel], laidTests := true, laidLooks := .later }
def LexTokensCardSaid : Prop := Claim7.holds Tryd.pinned (.plain (OpenSpec.ofChange lexTokensSpec)) lexTokensCard

/-- THE TIED CARD OF 'ratoonlaw47.LexPlaces'. -/
def lexPlacesCard : Claim7 := { stood := { row := lexPlacesRow, standIns := [], harness := (true, "7d2a3a57ad7612d13685576c95a7a2865325c400ef00bdb2ee950a9c476fddee"), looks := true }, kinds := [], alts := [], laidByText := true, laidKinds := [.data, .data, .data, .sentinel, .sentinel], laidTests := true, laidLooks := .later }
def LexPlacesCardSaid : Prop := Claim7.holds Tryd.pinned (.plain (OpenSpec.ofChange lexPlacesSpec)) lexPlacesCard

/-- THE TIED CARD OF 'ratoonlaw47.LexAgain'. -/
def lexAgainCard : Claim7 := { stood := { row := lexAgainRow, standIns := [], harness := (true, "7d2a3a57ad7612d13685576c95a7a2865325c400ef00bdb2ee950a9c476fddee"), looks := true }, kinds := [], alts := [], laidByText := true, laidKinds := [.data, .data, .data, .sentinel, .sentinel], laidTests := true, laidLooks := .later }
def LexAgainCardSaid : Prop := Claim7.holds Tryd.pinned (.plain (OpenSpec.ofChange lexAgainSpec)) lexAgainCard

/-- THE TIED CARD OF 'ratoonlaw47.LexParts'. -/
def lexPartsCard : Claim7 := { stood := { row := lexPartsRow, standIns := [], harness := (true, "7d2a3a57ad7612d13685576c95a7a2865325c400ef00bdb2ee950a9c476fddee"), looks := true }, kinds := [], alts := [], laidByText := true, laidKinds := [.data, .data, .data, .sentinel, .sentinel], laidTests := true, laidLooks := .later }
def LexPartsCardSaid : Prop := Claim7.holds Tryd.pinned (.plain (OpenSpec.ofChange lexPartsSpec)) lexPartsCard

/-- THE TIED CARD OF 'ratoonlaw47.LexStrings'. -/
def lexStringsCard : Claim7 := { stood := { row := lexStringsRow, standIns := [], harness := (true, "7d2a3a57ad7612d13685576c95a7a2865325c400ef00bdb2ee950a9c476fddee"), looks := true }, kinds := [], alts := [], laidByText := true, laidKinds := [.data, .data, .data, .sentinel, .sentinel], laidTests := true, laidLooks := .later }
def LexStringsCardSaid : Prop := Claim7.holds Tryd.pinned (.plain (OpenSpec.ofChange lexStringsSpec)) lexStringsCard

/-- THE TIED CARD OF 'ratoonlaw47.LexNames'. -/
def lexNamesCard : Claim7 := { stood := { row := lexNamesRow, standIns := [], harness := (true, "7d2a3a57ad7612d13685576c95a7a2865325c400ef00bdb2ee950a9c476fddee"), looks := true }, kinds := [], alts := [], laidByText := true, laidKinds := [.data, .data, .data, .sentinel, .sentinel], laidTests := true, laidLooks := .later }
def LexNamesCardSaid : Prop := Claim7.holds Tryd.pinned (.plain (OpenSpec.ofChange lexNamesSpec)) lexNamesCard

/-- THE SECOND FORM's CARD OF 'ratoonlaw47.LexTokens'. -/
def lexTokensUptoCard : Claim7 := { stood := { row := lexTokensUptoRow, standIns := [], harness := (true, "7d2a3a57ad7612d13685576c95a7a2865325c400ef00bdb2ee950a9c476fddee"), looks := true }, kinds := [], alts := [], laidByText := true, laidKinds := [.data, .data, .data, .sentinel, .sentinel], laidTests := true, laidLooks := .later }
def LexTokensUptoCardSaid : Prop := Claim7.holds Tryd.pinned (.plain (OpenSpec.upto lexTokensSpec)) lexTokensUptoCard

/-- THE SECOND FORM's CARD OF 'ratoonlaw47.LexPlaces'. -/
def lexPlacesUptoCard : Claim7 := { stood := { row := lexPlacesUptoRow, standIns := [], harness := (true, "7d2a3a57ad7612d13685576c95a7a2865325c400ef00bdb2ee950a9c476fddee"), looks := true }, kinds := [], alts := [], laidByText := true, laidKinds := [.data, .data, .data, .sentinel, .sentinel], laidTests := true, laidLooks := .later }
def LexPlacesUptoCardSaid : Prop := Claim7.holds Tryd.pinned (.plain (OpenSpec.upto lexPlacesSpec)) lexPlacesUptoCard

/-- THE SECOND FORM's CARD OF 'ratoonlaw47.LexAgain'. -/
def lexAgainUptoCard : Claim7 := { stood := { row := lexAgainUptoRow, standIns := [], harness := (true, "7d2a3a57ad7612d13685576c95a7a2865325c400ef00bdb2ee950a9c476fddee"), looks := true }, kinds := [], alts := [], laidByText := true, laidKinds := [.data, .data, .data, .sentinel, .sentinel], laidTests := true, laidLooks := .later }
def LexAgainUptoCardSaid : Prop := Claim7.holds Tryd.pinned (.plain (OpenSpec.upto lexAgainSpec)) lexAgainUptoCard

/-- THE SECOND FORM's CARD OF 'ratoonlaw47.LexParts'. -/
def lexPartsUptoCard : Claim7 := { stood := { row := lexPartsUptoRow, standIns := [], harness := (true, "7d2a3a57ad7612d13685576c95a7a2865325c400ef00bdb2ee950a9c476fddee"), looks := true }, kinds := [], alts := [], laidByText := true, laidKinds := [.data, .data, .data, .sentinel, .sentinel], laidTests := true, laidLooks := .later }
def LexPartsUptoCardSaid : Prop := Claim7.holds Tryd.pinned (.plain (OpenSpec.upto lexPartsSpec)) lexPartsUptoCard

/-- THE SECOND FORM's CARD OF 'ratoonlaw47.LexStrings'. -/
def lexStringsUptoCard : Claim7 := { stood := { row := lexStringsUptoRow, standIns := [], harness := (true, "7d2a3a57ad7612d13685576c95a7a2865325c400ef00bdb2ee950a9c476fddee"), looks := true }, kinds := [], alts := [], laidByText := true, laidKinds := [.data, .data, .data, .sentinel, .sentinel], laidTests := true, laidLooks := .later }
def LexStringsUptoCardSaid : Prop := Claim7.holds Tryd.pinned (.plain (OpenSpec.upto lexStringsSpec)) lexStringsUptoCard

/-- THE SECOND FORM's CARD OF 'ratoonlaw47.LexNames'. -/
def lexNamesUptoCard : Claim7 := { stood := { row := lexNamesUptoRow, standIns := [], harness := (true, "7d2a3a57ad7612d13685576c95a7a2865325c400ef00bdb2ee950a9c476fddee"), looks := true }, kinds := [], alts := [], laidByText := true, laidKinds := [.data, .data, .data, .sentinel, .sentinel], laidTests := true, laidLooks := .later }
def LexNamesUptoCardSaid : Prop := Claim7.holds Tryd.pinned (.plain (OpenSpec.upto lexNamesSpec)) lexNamesUptoCard
end Rows
end Go.Proofs.YtbfjopknhlnbcaaDoor
