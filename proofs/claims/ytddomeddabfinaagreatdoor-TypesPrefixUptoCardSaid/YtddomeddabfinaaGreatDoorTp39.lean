/-
  Parts of the proof: PaD.
-/
import Derived.Test.YtddomeddabfinaaGreatDoorTp00
import Derived.Test.YtddomeddabfinaaGreatDoorTp26
import Derived.Test.YtddomeddabfinaaGreatDoorTp38
import Derived.Test.YtddomeddabfinaaGreatDoorTp22
set_option maxRecDepth 100000
set_option maxHeartbeats 8000000
set_option linter.unusedVariables false
set_option linter.unusedSimpArgs false
set_option linter.unusedSectionVars false
namespace Go.Proofs.YtddomeddabfinaaGreatDoor
open Go.Proofs.Tryz
open Go.RowKit
end Go.Proofs.YtddomeddabfinaaGreatDoor
