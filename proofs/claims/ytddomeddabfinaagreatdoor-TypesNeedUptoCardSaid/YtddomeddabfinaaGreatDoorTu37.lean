/-
  Parts of the proof: CpB CpC.
-/
import Derived.Test.YtddomeddabfinaaGreatDoorTu00
import Derived.Deep.CutBlock
import Derived.Test.YtddomeddabfinaaGreatDoorTu36
set_option maxRecDepth 100000
set_option maxHeartbeats 8000000
set_option linter.unusedVariables false
set_option linter.unusedSimpArgs false
set_option linter.unusedSectionVars false
namespace Go.Proofs.YtddomeddabfinaaGreatDoor
open Go.Proofs.Tryz
section
open Go.RowKit
end
section
open Go.RowKit
end
end Go.Proofs.YtddomeddabfinaaGreatDoor
