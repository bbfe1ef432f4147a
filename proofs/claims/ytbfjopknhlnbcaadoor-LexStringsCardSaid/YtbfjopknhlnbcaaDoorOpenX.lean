/-
  LexStrings for every string.
-/
import Derived.Test.YtbfjopknhlnbcaaDoorLexZe
import Derived.Test.YtbfjopknhlnbcaaDoorOpenL
namespace Go.Proofs.YtbfjopknhlnbcaaDoor
open Go.RowKit
set_option linter.unusedVariables false

theorem lexstrings' (s : ByteArray) (w : World) (hz : EZ w) : Calls Tryd.prog 7 #[.string s] w fun e w' => e = .returned (.bool true) ∧ Ext w w' := by
  have := lexstrings_any s.data.toList w hz
  rwa [str_of] at this
end Go.Proofs.YtbfjopknhlnbcaaDoor
