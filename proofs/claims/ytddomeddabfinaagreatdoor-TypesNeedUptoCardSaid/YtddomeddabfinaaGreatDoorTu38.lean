/-
  Parts of the proof: CpD.
-/
import Derived.Test.YtddomeddabfinaaGreatDoorTu00
import Derived.Lib.EndianBits
import Derived.Test.YtddomeddabfinaaGreatDoorTu37
set_option maxRecDepth 100000
set_option maxHeartbeats 8000000
set_option linter.unusedVariables false
set_option linter.unusedSimpArgs false
set_option linter.unusedSectionVars false
namespace Go.Proofs.YtddomeddabfinaaGreatDoor
open Go.Proofs.Tryz
open Go.RowKit
end Go.Proofs.YtddomeddabfinaaGreatDoor
