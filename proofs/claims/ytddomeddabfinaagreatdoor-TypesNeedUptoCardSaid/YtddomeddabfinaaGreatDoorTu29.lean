/-
  Parts of the proof: TyAw.
-/
import Derived.Test.YtddomeddabfinaaGreatDoorTu00
import Derived.Test.YtddomeddabfinaaGreatDoorTu23
import Derived.Test.YtddomeddabfinaaGreatDoorTu27
import Derived.Test.YtddomeddabfinaaGreatDoorTu28
set_option maxRecDepth 100000
set_option maxHeartbeats 8000000
set_option linter.unusedVariables false
set_option linter.unusedSimpArgs false
set_option linter.unusedSectionVars false
namespace Go.Proofs.YtddomeddabfinaaGreatDoor
open Go.Proofs.Tryz
open Go.RowKit
end Go.Proofs.YtddomeddabfinaaGreatDoor
