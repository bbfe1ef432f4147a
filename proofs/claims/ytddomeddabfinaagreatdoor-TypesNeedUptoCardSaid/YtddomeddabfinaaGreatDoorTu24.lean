/-
  Parts of the proof: TyCp.
-/
import Derived.Test.YtddomeddabfinaaGreatDoorTu00
import Derived.Laws.CopyOwn
import Derived.Test.YtddomeddabfinaaGreatDoorTu04
set_option maxRecDepth 100000
set_option maxHeartbeats 8000000
set_option linter.unusedVariables false
set_option linter.unusedSimpArgs false
set_option linter.unusedSectionVars false
namespace Go.Proofs.YtddomeddabfinaaGreatDoor
open Go.Proofs.Tryz
open Go.RowKit
def Rw (w:World) (g:Nat) (e:TypeId) (l:List UInt8):Prop:=w.heap[g]? =some (.cells (oO l).toArray e (0,0))
theorem sW {P:Program} {t e:TypeId} (hT:qp P t e) (kl kc:IntKind) (n:Nat) (hn:n<=1073741824) (w:World):
  ∃w',(Instr.makeSlice t (.int kl (n:Int)) (.int kc (n:Int))).run P w= .ok (.slice (some ⟨w.heap.size,0,none⟩) n n) w'/\Rw w' w.heap.size e (List.replicate n 0)/\au w w'/\w'.heap.size=w.heap.size+1:=by
 obtain⟨i,hi,hz,hz1,hz2⟩:=info_parts hT.info;have hr:=run_make (P:=P) w t e i (.int .u8 0) hT.under hi hz kl kc n n (by omega) (by omega) (by rw[hz2];omega) (by omega);simp only[Int.toNat_natCast]at hr;refine⟨_,hr,?_,O w _,World.size_alloc _ _⟩;rw[hz1];simp only[jm];have:madeCells (Value.int IntKind.u8 0).cells n=(oO (List.replicate n 0)).toArray:=by
  unfold madeCells;apply Array.ext
  ·simp[oO]
  ·intro j h1 h2;simp[oO,z_,Value.cells,Nat.mod_one]
 rw[this];exact heap_alloc_new w _
end Go.Proofs.YtddomeddabfinaaGreatDoor
