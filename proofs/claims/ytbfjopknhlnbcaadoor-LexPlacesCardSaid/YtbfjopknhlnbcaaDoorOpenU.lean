/-
  LexPlaces for every string.
-/
import Derived.Test.YtbfjopknhlnbcaaDoorLexU
import Derived.Test.YtbfjopknhlnbcaaDoorOpenL
namespace Go.Proofs.YtbfjopknhlnbcaaDoor
open Go.RowKit
set_option linter.unusedVariables false

theorem lexplaces' (s : ByteArray) (n : Int) (h0 : 0 ≤ n) (h1 : n ≤ 255) (w : World) (hz : EZ w) : Calls Tryd.prog 4 #[.string s, .int .u8 n] w fun e w' => e = .returned (.bool true) ∧ Ext w w' := by
  have := lexplaces_any s.data.toList (UInt8.ofNat n.toNat) w hz
  have hn : ((UInt8.ofNat n.toNat).toNat : Int) = n := by
    rw [UInt8.toNat_ofNat']
    omega
  rwa [str_of, hn] at this
end Go.Proofs.YtbfjopknhlnbcaaDoor
