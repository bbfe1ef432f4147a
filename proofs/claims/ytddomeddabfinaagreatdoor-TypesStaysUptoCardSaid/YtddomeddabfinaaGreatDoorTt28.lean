/- Parts of the proof. -/
import Derived.Test.YtddomeddabfinaaGreatDoorTt00
import Derived.Laws.CopyOwn
import Derived.Test.YtddomeddabfinaaGreatDoorTt04
set_option maxRecDepth 100000
set_option maxHeartbeats 8000000
set_option linter.unusedVariables false
set_option linter.unusedSimpArgs false
set_option linter.unusedSectionVars false
namespace Go.Proofs.YtddomeddabfinaaGreatDoor
open Go.Proofs.Tryz
open Go.RowKit
def EM (L:List UInt8) (off:Nat) (b:List UInt8):List UInt8:=L.take off++(b++L.drop (off+b.length))
def Rw (w:World) (g:Nat) (e:TypeId) (l:List UInt8):Prop:=w.heap[g]? =some (.cells (me l).toArray e (0,0))
section
variable {w w':World} {g:Nat} {e:TypeId} {l:List UInt8}
theorem Rw.lt (a:Rw w g e l):g<w.heap.size:=(Array.getElem?_eq_some_iff.1 a).1
theorem Rw.ext (a:Rw w g e l) (h:az w w'):Rw w' g e l:=(h.obj a.lt).trans a
theorem Rw.grown {row:Option Nat} (a:Rw w g e l) (j:w.grownBy w' row) (h:some g≠row):Rw w' g e l:=(j.block g a.lt h).trans a
end
theorem yg {P:Program} {t e:TypeId} (w:qt P t e) (h j:IntKind) (n:Nat) (O:n<=1073741824) (a:World):
  ∃w',(Instr.makeSlice t (.int h (n:Int)) (.int j (n:Int))).run P a=.ok (.slice (some ⟨a.heap.size,0,none⟩) n n) w'/\Rw w' a.heap.size e (List.replicate n 0)/\az a w'/\w'.heap.size=a.heap.size+1:=by
 obtain⟨i,K,G,A,z⟩:=info_parts w.info;have o:=run_make (P:=P) a t e i (.int .u8 0) w.under K G h j n n Qa Qa (by rw[z];omega) Qa;simp only[eS]at o;refine⟨_,o,?_,Z a _,World.size_alloc _ _⟩;rw[A];simp only[lI];have:madeCells (Value.int IntKind.u8 0).cells n=(me (List.replicate n 0)).toArray:=by
  unfold madeCells;apply Array.ext
  ·simp[me]
  ·intro M V R;simp[me,Ca,Value.cells,Nat.mod_one]
 rw[this];exact heap_alloc_new a _
theorem CD (L:List UInt8) (off:Nat):EM L off []=L:=by simp[EM]
theorem rS {P:Program} {h:World} {ops:Array Oper} {rest:List Oper} {j:Oper} {w:Act} {Q:Exit->Act->World->Prop} {t e:TypeId} (O:qt P t e) (ab:j.guard=none) (d s:Operand)
  (X:j.op=.call {callee:=.builtin .copy,args:= #[d,s],argTypes:= #[t,t]}) (g off a ac:Nat) (M:w.eval d=.slice (some ⟨g,off,none⟩) a ac) (L:List UInt8) (K:Rw h g e L)
  (ad:Option Addr) (c:Nat) (m:List UInt8) (A:w.eval s=.slice ad m.length c) (ak:Sl h ad c m) (aj:off+a<=L.length)
  (R: ∀w' (k:Nat),Rw w' g e (EM L off (m.take a))->h.grownBy w' (some g)->wpList P ops Q rest (w.put j.dst (goInt k)) w'):wpList P ops Q (j::rest) w h:=by
 have V:(P.info? e).map (·.size)=some 1:=by
  obtain⟨i,ah,J,ae,al⟩:=info_parts O.info;rw[ah];simp[ae]
 by_cases h0:m.take a=[]
 ·refine wpList_copy_nothing ab d s t t X e O.under V _ _ _ _ _ _ M A ?_ ?_
  ·have:=congrArg List.length h0;rw[bN]at this;simp only[ai]at this;show min m.length a=0;omega
  ·refine R h 0 ?_ (World.grownBy.refl h _);rw[h0,CD];exact K
 ·rcases ak.rd with rfl|⟨b,o',rfl,_,hc⟩
  ·simp at h0
  ·have G:(me (m.take a)).length=min m.length a:=by rw[qe,bN,Nat.min_comm]
   refine wpList_copy_own ab d s t t X e O.under V g off a ac ⟨b,o',none⟩ m.length c M A _ e K (me (m.take a)) G (λz v o=> ?_) ?_ (λv o=> ?_) ?_
   ·have I:z<(m.take a).length:=by have:=(List.getElem?_eq_some_iff.1 o).1;simpa[me]using this
    have ag:z<m.length:=by rw[bN]at I;omega
    rw[Addr.add_lit,hc z ag,<-o];simp only[me,jJ];rw[aO I];simp[gW,Ca]
   ·rw[G];simp only[List.size_toArray,qe];omega
   ·obtain⟨x,_,rfl⟩:=List.mem_map.1 o;rfl
   ·refine R _ _ ?_ ⟨rfl,rfl,rfl,by simp,λk _ af=>setRow_other h g k _ (λe=>af (by rw[e]))⟩;have:=setRow_heap h g _ ((me L).toArray.toList.take off++(me (m.take a)++(me L).toArray.toList.drop (off+(me (m.take a)).length))).toArray e _ K;unfold Rw;rw[this];clear this R M A aj G h0;generalize m.take a=q;simp only[EM,me,d9,List.map_take,List.map_drop,eQ]
end Go.Proofs.YtddomeddabfinaaGreatDoor
