/-
  Parts of the proof: SeqK.
-/
import Derived.Test.YtddomeddabfinaaGreatDoorTa00
import Derived.Test.YtddomeddabfinaaGreatDoorTa01
set_option maxRecDepth 100000
set_option maxHeartbeats 8000000
set_option linter.unusedVariables false
set_option linter.unusedSimpArgs false
set_option linter.unusedSectionVars false

