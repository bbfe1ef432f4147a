/-
  Parts of the proof: CpE.
-/
import Derived.Test.YtddomeddabfinaaGreatDoorTu00
import Derived.Deep.CutBlock
import Derived.Laws.CopyOwn
import Derived.Test.YtddomeddabfinaaGreatDoorTu38
import Derived.Test.YtddomeddabfinaaGreatDoorTu09
set_option maxRecDepth 100000
set_option maxHeartbeats 8000000
set_option linter.unusedVariables false
set_option linter.unusedSimpArgs false
set_option linter.unusedSectionVars false
namespace Go.Proofs.YtddomeddabfinaaGreatDoor
open Go.Proofs.Tryz
open Go.RowKit
section
variable {w w' W:World} {g:Nat} {t t1 t2 t3:TypeId} {cs c1 c2 c3:Array Value}
theorem kb (h:Hid (aO w g t cs)) (he:au w w'):Hid (aO w' g t cs):=aO.ext h he
theorem kx {w0:World} (h:Hid (au w0 w)) (he:au w w'):Hid (au w0 w'):=au.trans h he
theorem wk (h:w.alloc (.cells c1 t1)=W):au w W/\Hid (aO W w.heap.size t1 c1)/\Hid (W.heap.size=w.heap.size+1):=by
 subst h;exact⟨O _ _,ax _ _ _,World.size_alloc _ _⟩
theorem Cl (h:(w.alloc (.cells c1 t1)).alloc (.cells c2 t2)=W):au w W/\Hid (aO W w.heap.size t1 c1)/\Hid (aO W (w.heap.size+1) t2 c2)/\Hid (W.heap.size=w.heap.size+1+1):=by
 obtain⟨e1,b1,s1⟩:=wk (w:=w) (c1:=c1) (t1:=t1) rfl;obtain⟨e2,b2,s2⟩:=wk h;unfold Hid at*;rw[s1]at b2 s2;exact⟨e1.trans e2,b1.ext e2,b2,s2⟩
theorem Ck (h:((w.alloc (.cells c1 t1)).alloc (.cells c2 t2)).alloc (.cells c3 t3)=W):au w W/\Hid (aO W w.heap.size t1 c1)/\Hid (aO W (w.heap.size+1) t2 c2)/\Hid (aO W (w.heap.size+1+1) t3 c3)/\Hid (W.heap.size=w.heap.size+1+1+1):=by
 obtain⟨e1,b1,b2,s1⟩:=Cl (w:=w) (c1:=c1) (t1:=t1) (c2:=c2) (t2:=t2) rfl;obtain⟨e2,b3,s2⟩:=wk h;unfold Hid at*;rw[s1]at b3 s2;exact⟨e1.trans e2,b1.ext e2,b2.ext e2,b3,s2⟩
end
end Go.Proofs.YtddomeddabfinaaGreatDoor
