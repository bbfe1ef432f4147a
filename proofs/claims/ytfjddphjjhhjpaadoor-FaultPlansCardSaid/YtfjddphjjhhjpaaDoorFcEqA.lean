/-
  Cut out of an elder text of mine (EqA) by cutdecl.py.
-/
import Derived.Test.YtfjddphjjhhjpaaDoorSeq
import Derived.Test.YtfjddphjjhhjpaaDoorVoc
import Derived.Test.YtfjddphjjhhjpaaDoorSeqIn
import Derived.Test.YtfjddphjjhhjpaaDoorFcImgA
import Derived.Test.YtfjddphjjhhjpaaDoorFcChg
import Derived.Test.YtfjddphjjhhjpaaDoorFcImgB
namespace Go.Proofs.YtfjddphjjhhjpaaDoor
open Go.RowKit
set_option linter.unusedVariables false


theorem ret_bool {a b : Bool} (h : a = b) : Ending.returned (.bool a) = .returned (.bool b) := by rw [h]
end Go.Proofs.YtfjddphjjhhjpaaDoor
