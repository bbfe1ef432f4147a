/-
  Cut out of an elder text of mine (ImgB) by cutdecl.py.
-/
import Derived.Test.YtfjddphjjhhjpaaDoorSeq
import Derived.Test.YtfjddphjjhhjpaaDoorVoc
import Derived.Test.YtfjddphjjhhjpaaDoorSeqIn
import Derived.Test.YtfjddphjjhhjpaaDoorFcImgA
import Derived.Test.YtfjddphjjhhjpaaDoorFcChg
namespace Go.Proofs.YtfjddphjjhhjpaaDoor
open Go.RowKit
set_option linter.unusedVariables false

theorem mixed : Tryd.prog.follows .mixedOrders = true := by kernel_rfl
end Go.Proofs.YtfjddphjjhhjpaaDoor
