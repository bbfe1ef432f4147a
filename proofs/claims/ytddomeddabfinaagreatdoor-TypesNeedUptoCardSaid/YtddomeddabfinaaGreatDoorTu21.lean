/-
  Parts of the proof: PaA.
-/
import Derived.Test.YtddomeddabfinaaGreatDoorTu00
import Derived.Defers
import Derived.Recover
import Derived.Laws.Pointers
import Derived.BigRegion
import Derived.WalkLawsBesides
import Derived.Test.YtddomeddabfinaaGreatDoorTu05
set_option maxRecDepth 100000
set_option maxHeartbeats 8000000
set_option linter.unusedVariables false
set_option linter.unusedSimpArgs false
set_option linter.unusedSectionVars false
namespace Go.Proofs.YtddomeddabfinaaGreatDoor
open Go.Proofs.Tryz
open Go.RowKit
theorem rt (p0 p1 p2:Value) (w:World):
  CallsD prog 59 #[p0,p1,p2] .returning w fun e u' w'=>e= .returned (.tuple #[])/\u'= .returning/\w'=w:=by
 refine callsD_of_wpS func59 rfl fun c₀ cs hu=> ?_;apply wpS_seq;apply wpS_region;simp[wpOpsS,go_sem,recoverD,hu,ntmps59,Exit.thenS];apply wpS_seq;apply wpS_region;simp[wpOpsS,go_sem,Exit.thenS];refine wpS_cond (t:=false) (by simp[Act.eval]) ?_;simp only[bR,if_false];refine wpS_of_wp (wp_skip ?_)
 cases c₀;simp_all[bodyPostS,results,results59]
end Go.Proofs.YtddomeddabfinaaGreatDoor
