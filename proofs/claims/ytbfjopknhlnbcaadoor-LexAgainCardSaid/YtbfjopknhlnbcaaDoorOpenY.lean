/-
  LexAgain for every string.
-/
import Derived.Test.YtbfjopknhlnbcaaDoorLexZf
import Derived.Test.YtbfjopknhlnbcaaDoorOpenL
namespace Go.Proofs.YtbfjopknhlnbcaaDoor
open Go.RowKit
set_option linter.unusedVariables false

theorem lexagain' (s : ByteArray) (w : World) (hz : EZ w) : Calls Tryd.prog 5 #[.string s] w fun e w' => e = .returned (.bool true) ∧ Ext w w' := by
  have := lexagain_any s.data.toList w hz
  rwa [str_of] at this
end Go.Proofs.YtbfjopknhlnbcaaDoor
