/-
  Parts of the proof: OpenB.
-/
import Derived.Test.YtddomeddabfinaaGreatDoorTu00
import Derived.SizedLaws
import Derived.Lib.SmallJoins
import Derived.Laws.IdiomArrays
import Derived.Test.YtddomeddabfinaaGreatDoorTu31
set_option maxRecDepth 100000
set_option maxHeartbeats 8000000
set_option linter.unusedVariables false
set_option linter.unusedSimpArgs false
set_option linter.unusedSectionVars false
namespace Go.Proofs.YtddomeddabfinaaGreatDoor
open Go.Proofs.Tryz
open Go.ChangeShapes Go.WideShapes Go.ChangeAt Go.RowKit
section
variable {H:Type} {enc:TypeId×Value->H} {P:Program} {W:World}
theorem hZ {t:TypeId} {k:IntKind} (ht:P.underlying t=some (.int k)) {base n:Nat} {sp:Nat->Bool} {hd:Bool} {c:Value} {y:DataW H×List MemPlace}
  (h:DataW.trod enc P W base sp hd n t [c]=some y): ∃z,c= .int k z/\(Lit.int k z).wf=true:=by
 obtain⟨z,h1,h2,h3⟩:=DataW.trod_int ht h;injection h1 with h1;exact⟨z,h1,h3⟩
end
end Go.Proofs.YtddomeddabfinaaGreatDoor
