/-
  LexParts for every two strings.
-/
import Derived.Test.YtbfjopknhlnbcaaDoorLexY
import Derived.Test.YtbfjopknhlnbcaaDoorOpenL
namespace Go.Proofs.YtbfjopknhlnbcaaDoor
open Go.RowKit
set_option linter.unusedVariables false

theorem lexparts' (s t : ByteArray) (w : World) (hz : EZ w) : Calls Tryd.prog 6 #[.string s, .string t] w fun e w' => e = .returned (.bool true) ∧ Ext w w' := by
  have := lexparts_any s.data.toList t.data.toList w hz
  rwa [str_of, str_of] at this
end Go.Proofs.YtbfjopknhlnbcaaDoor
