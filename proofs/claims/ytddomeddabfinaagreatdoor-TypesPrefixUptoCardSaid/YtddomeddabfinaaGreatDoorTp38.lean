/-
  Parts of the proof: EqW EqX.
-/
import Derived.Test.YtddomeddabfinaaGreatDoorTp00
import Derived.Test.YtddomeddabfinaaGreatDoorTp37
import Derived.Test.YtddomeddabfinaaGreatDoorTp10
import Derived.Test.YtddomeddabfinaaGreatDoorTp22
set_option maxRecDepth 100000
set_option maxHeartbeats 8000000
set_option linter.unusedVariables false
set_option linter.unusedSimpArgs false
set_option linter.unusedSectionVars false
namespace Go.Proofs.YtddomeddabfinaaGreatDoor
open Go.Proofs.Tryz
section
open Go.RowKit
theorem lp {a b:Bool} (h:a=b):Ending.returned (.bool a)= .returned (.bool b):=by rw[h]
end
section
open Go.RowKit
end
end Go.Proofs.YtddomeddabfinaaGreatDoor
