/- Parts of the proof. -/
import Derived.Test.YtddomeddabfinaaGreatDoorTt00
import Derived.Test.YtddomeddabfinaaGreatDoorTt37
import Derived.Test.YtddomeddabfinaaGreatDoorTt10
import Derived.Test.YtddomeddabfinaaGreatDoorTt22
set_option maxRecDepth 100000
set_option maxHeartbeats 8000000
set_option linter.unusedVariables false
set_option linter.unusedSimpArgs false
set_option linter.unusedSectionVars false
namespace Go.Proofs.YtddomeddabfinaaGreatDoor
open Go.Proofs.Tryz
section
open Go.RowKit
end
end Go.Proofs.YtddomeddabfinaaGreatDoor
