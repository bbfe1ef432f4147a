/-
  Parts of the proof: TyCp.
-/
import Derived.Test.YtddomeddabfinaaGreatDoorTp00
import Derived.Laws.CopyOwn
import Derived.Test.YtddomeddabfinaaGreatDoorTp04
set_option maxRecDepth 100000
set_option maxHeartbeats 8000000
set_option linter.unusedVariables false
set_option linter.unusedSimpArgs false
set_option linter.unusedSectionVars false
namespace Go.Proofs.YtddomeddabfinaaGreatDoor
open Go.Proofs.Tryz
open Go.RowKit
def Ce (L:List UInt8) (off:Nat) (b:List UInt8):List UInt8:=L.take off++(b++L.drop (off+b.length))
def Rw (w:World) (g:Nat) (e:TypeId) (l:List UInt8):Prop:=w.heap[g]? =some (.cells (kL l).toArray e (0,0))
section
variable {w w':World} {g:Nat} {e:TypeId} {l:List UInt8}
theorem Rw.lt (h:Rw w g e l):g<w.heap.size:=(Array.getElem?_eq_some_iff.1 h).1
theorem Rw.ext (h:Rw w g e l) (he:au w w'):Rw w' g e l:=(he.obj h.lt).trans h
theorem Rw.grown {row:Option Nat} (h:Rw w g e l) (hb:w.grownBy w' row) (hg:some g≠row):Rw w' g e l:=(hb.block g h.lt hg).trans h
end
theorem vG {P:Program} {t e:TypeId} (hT:oS P t e) (kl kc:IntKind) (n:Nat) (hn:n<=1073741824) (w:World):
  ∃w',(Instr.makeSlice t (.int kl (n:Int)) (.int kc (n:Int))).run P w= .ok (.slice (some ⟨w.heap.size,0,none⟩) n n) w'/\Rw w' w.heap.size e (List.replicate n 0)/\au w w'/\w'.heap.size=w.heap.size+1:=by
 obtain⟨i,hi,hz,hz1,hz2⟩:=info_parts hT.info;have hr:=run_make (P:=P) w t e i (.int .u8 0) hT.under hi hz kl kc n n (by omega) (by omega) (by rw[hz2];omega) (by omega);simp only[ed]at hr;refine⟨_,hr,?_,O w _,World.size_alloc _ _⟩;rw[hz1];simp only[kq];have:madeCells (Value.int IntKind.u8 0).cells n=(kL (List.replicate n 0)).toArray:=by
  unfold madeCells;apply Array.ext
  ·simp[kL]
  ·intro j h1 h2;simp[kL,zE,Value.cells,Nat.mod_one]
 rw[this];exact heap_alloc_new w _
theorem Ac (L:List UInt8) (off:Nat):Ce L off []=L:=by simp[Ce]
theorem qa {P:Program} {w:World} {ops:Array Oper} {rest:List Oper} {o:Oper} {a:Act} {Q:Exit->Act->World->Prop} {t e:TypeId} (hT:oS P t e) (hgd:o.guard=none) (d s:Operand)
  (ho:o.op= .call {callee:= .builtin .copy,args:= #[d,s],argTypes:= #[t,t]}) (g off dLen dCap:Nat) (hd:a.eval d= .slice (some ⟨g,off,none⟩) dLen dCap) (L:List UInt8) (hg:Rw w g e L)
  (A:Option Addr) (c:Nat) (m:List UInt8) (hs:a.eval s= .slice A m.length c) (hS:Sl w A c m) (hfit:off+dLen<=L.length)
  (h: ∀w' (k:Nat),Rw w' g e (Ce L off (m.take dLen))->w.grownBy w' (some g)->wpList P ops Q rest (a.put o.dst (goInt k)) w'):wpList P ops Q (o::rest) a w:=by
 have hsz:(P.info? e).map (·.size)=some 1:=by
  obtain⟨i,hi,hz,hz1,hz2⟩:=info_parts hT.info;rw[hi];simp[hz1]
 by_cases h0:m.take dLen=[]
 ·refine wpList_copy_nothing hgd d s t t ho e hT.under hsz _ _ _ _ _ _ hd hs ?_ ?_
  ·have:=congrArg List.length h0;rw[bm]at this;simp only[ag]at this;show min m.length dLen=0;omega
  ·refine h w 0 ?_ (World.grownBy.refl w _);rw[h0,Ac];exact hg
 ·rcases hS.rd with rfl|⟨b,o',rfl,_,hc⟩
  ·simp at h0
  ·have hlen:(kL (m.take dLen)).length=min m.length dLen:=by rw[oH,bm,Nat.min_comm]
   refine wpList_copy_own hgd d s t t ho e hT.under hsz g off dLen dCap ⟨b,o',none⟩ m.length c hd hs _ e hg (kL (m.take dLen)) hlen (fun j v hv=> ?_) ?_ (fun v hv=> ?_) ?_
   ·have hj:j<(m.take dLen).length:=by have:=(List.getElem?_eq_some_iff.1 hv).1;simpa[kL]using this
    have hj2:j<m.length:=by rw[bm]at hj;omega
    rw[Addr.add_lit,hc j hj2,<-hv];simp only[kL,iR];rw[aK hj];simp[eW,zE]
   ·rw[hlen];simp only[List.size_toArray,oH];omega
   ·obtain⟨x,_,rfl⟩:=List.mem_map.1 hv;rfl
   ·refine h _ _ ?_ ⟨rfl,rfl,rfl,by simp,fun k _ hk=>setRow_other w g k _ (fun e=>hk (by rw[e]))⟩;have:=setRow_heap w g _ ((kL L).toArray.toList.take off++(kL (m.take dLen)++(kL L).toArray.toList.drop (off+(kL (m.take dLen)).length))).toArray e _ hg;unfold Rw;rw[this];clear this h hd hs hfit hlen h0;generalize m.take dLen=q;simp only[Ce,kL,eb,List.map_take,List.map_drop,eS]
end Go.Proofs.YtddomeddabfinaaGreatDoor
