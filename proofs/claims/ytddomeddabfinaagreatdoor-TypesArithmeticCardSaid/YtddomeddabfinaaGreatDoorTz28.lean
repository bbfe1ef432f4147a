/-
  Parts of the proof: TyCp.
-/
import Derived.Test.YtddomeddabfinaaGreatDoorTz00
import Derived.Laws.CopyOwn
import Derived.Test.YtddomeddabfinaaGreatDoorTz04
set_option maxRecDepth 100000
set_option maxHeartbeats 8000000
set_option linter.unusedVariables false
set_option linter.unusedSimpArgs false
set_option linter.unusedSectionVars false
namespace Go.Proofs.YtddomeddabfinaaGreatDoor
open Go.Proofs.Tryz
open Go.RowKit
def BB (L:List UInt8) (off:Nat) (b:List UInt8):List UInt8:=L.take off++(b++L.drop (off+b.length))
def Rw (w:World) (g:Nat) (e:TypeId) (l:List UInt8):Prop:=w.heap[g]? =some (.cells (kr l).toArray e (0,0))
section
variable {w w':World} {g:Nat} {e:TypeId} {l:List UInt8}
theorem Rw.lt (h:Rw w g e l):g<w.heap.size:=(Array.getElem?_eq_some_iff.1 h).1
theorem Rw.ext (h:Rw w g e l) (he:aq w w'):Rw w' g e l:=(he.obj h.lt).trans h
theorem Rw.grown {row:Option Nat} (h:Rw w g e l) (hb:w.grownBy w' row) (hg:some g≠row):Rw w' g e l:=(hb.block g h.lt hg).trans h
end
theorem uZ {P:Program} {t e:TypeId} (hT:oK P t e) (kl kc:IntKind) (n:Nat) (hn:n<=1073741824) (w:World):
  ∃w',(Instr.makeSlice t (.int kl (n:Int)) (.int kc (n:Int))).run P w= .ok (.slice (some ⟨w.heap.size,0,none⟩) n n) w'/\Rw w' w.heap.size e (List.replicate n 0)/\aq w w'/\w'.heap.size=w.heap.size+1:=by
 obtain⟨i,hi,hz,hz1,hz2⟩:=info_parts hT.info;have hr:=run_make (P:=P) w t e i (.int .u8 0) hT.under hi hz kl kc n n (by omega) (by omega) (by rw[hz2];omega) (by omega);simp only[cV]at hr;refine⟨_,hr,?_,O w _,World.size_alloc _ _⟩;rw[hz1];simp only[j3];have:madeCells (Value.int IntKind.u8 0).cells n=(kr (List.replicate n 0)).toArray:=by
  unfold madeCells;apply Array.ext
  ·simp[kr]
  ·intro j h1 h2;simp[kr,r9,Value.cells,Nat.mod_one]
 rw[this];exact heap_alloc_new w _
theorem zq (L:List UInt8) (off:Nat):BB L off []=L:=by simp[BB]
theorem pS {P:Program} {w:World} {ops:Array Oper} {rest:List Oper} {o:Oper} {a:Act} {Q:Exit->Act->World->Prop} {t e:TypeId} (hT:oK P t e) (hgd:o.guard=none) (d s:Operand)
  (ho:o.op= .call {callee:= .builtin .copy,args:= #[d,s],argTypes:= #[t,t]}) (g off dLen dCap:Nat) (hd:a.eval d= .slice (some ⟨g,off,none⟩) dLen dCap) (L:List UInt8) (hg:Rw w g e L)
  (A:Option Addr) (c:Nat) (m:List UInt8) (hs:a.eval s= .slice A m.length c) (hS:Sl w A c m) (hfit:off+dLen<=L.length)
  (h: ∀w' (k:Nat),Rw w' g e (BB L off (m.take dLen))->w.grownBy w' (some g)->wpList P ops Q rest (a.put o.dst (goInt k)) w'):wpList P ops Q (o::rest) a w:=by
 have hsz:(P.info? e).map (·.size)=some 1:=by
  obtain⟨i,hi,hz,hz1,hz2⟩:=info_parts hT.info;rw[hi];simp[hz1]
 by_cases h0:m.take dLen=[]
 ·refine wpList_copy_nothing hgd d s t t ho e hT.under hsz _ _ _ _ _ _ hd hs ?_ ?_
  ·have:=congrArg List.length h0;rw[bE]at this;simp only[ag]at this;show min m.length dLen=0;omega
  ·refine h w 0 ?_ (World.grownBy.refl w _);rw[h0,zq];exact hg
 ·rcases hS.rd with rfl|⟨b,o',rfl,_,hc⟩
  ·simp at h0
  ·have hlen:(kr (m.take dLen)).length=min m.length dLen:=by rw[ox,bE,Nat.min_comm]
   refine wpList_copy_own hgd d s t t ho e hT.under hsz g off dLen dCap ⟨b,o',none⟩ m.length c hd hs _ e hg (kr (m.take dLen)) hlen (fun j v hv=> ?_) ?_ (fun v hv=> ?_) ?_
   ·have hj:j<(m.take dLen).length:=by have:=(List.getElem?_eq_some_iff.1 hv).1;simpa[kr]using this
    have hj2:j<m.length:=by rw[bE]at hj;omega
    rw[Addr.add_lit,hc j hj2,<-hv];simp only[kr,fS];rw[aI hj];simp[iq,r9]
   ·rw[hlen];simp only[List.size_toArray,ox];omega
   ·obtain⟨x,_,rfl⟩:=List.mem_map.1 hv;rfl
   ·refine h _ _ ?_ ⟨rfl,rfl,rfl,by simp,fun k _ hk=>setRow_other w g k _ (fun e=>hk (by rw[e]))⟩;have:=setRow_heap w g _ ((kr L).toArray.toList.take off++(kr (m.take dLen)++(kr L).toArray.toList.drop (off+(kr (m.take dLen)).length))).toArray e _ hg;unfold Rw;rw[this];clear this h hd hs hfit hlen h0;generalize m.take dLen=q;simp only[BB,kr,gD,List.map_take,List.map_drop,jC]
end Go.Proofs.YtddomeddabfinaaGreatDoor
