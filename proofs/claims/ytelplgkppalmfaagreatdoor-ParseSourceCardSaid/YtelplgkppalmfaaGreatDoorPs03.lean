/-
  Parts of the proof: OpenB.
-/
import Derived.Test.YtelplgkppalmfaaGreatDoorPs00
import Derived.SizedLaws
import Derived.Lib.SmallJoins
import Derived.Laws.IdiomArrays
import Derived.Test.YtelplgkppalmfaaGreatDoorPs02
set_option maxRecDepth 100000
set_option maxHeartbeats 8000000
set_option linter.unusedVariables false
set_option linter.unusedSimpArgs false
namespace Go.Proofs.YtelplgkppalmfaaGreatDoor
open Go.Proofs.Tryz
open Go.ChangeShapes Go.WideShapes Go.ChangeAt Go.RowKit
section
variable {H:Type} {enc:TypeId×Value->H} {P:Program} {W:World}
end
end Go.Proofs.YtelplgkppalmfaaGreatDoor
