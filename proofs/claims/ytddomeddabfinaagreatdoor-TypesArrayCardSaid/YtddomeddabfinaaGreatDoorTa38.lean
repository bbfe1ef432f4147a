/-
  Parts of the proof: TyCp.
-/
import Derived.Test.YtddomeddabfinaaGreatDoorTa00
import Derived.Laws.CopyOwn
import Derived.Test.YtddomeddabfinaaGreatDoorTa05
set_option maxRecDepth 100000
set_option maxHeartbeats 8000000
set_option linter.unusedVariables false
set_option linter.unusedSimpArgs false
set_option linter.unusedSectionVars false
namespace Go.Proofs.YtddomeddabfinaaGreatDoor
open Go.Proofs.Tryz
open Go.RowKit
def yr (L:List UInt8) (off:Nat) (b:List UInt8):List UInt8:=L.take off++(b++L.drop (off+b.length))
def Rw (w:World) (g:Nat) (e:TypeId) (l:List UInt8):Prop:=w.heap[g]? =some (.cells (jS l).toArray e (0,0))
section
variable {w w':World} {g:Nat} {e:TypeId} {l:List UInt8}
theorem Rw.lt (h:Rw w g e l):g<w.heap.size:=(Array.getElem?_eq_some_iff.1 h).1
theorem Rw.sl (h:Rw w g e l) {n:Nat} (hn:n=l.length) (hm:l.length<=maxLen):Sl w (some ⟨g,0,none⟩) n l:=by
 subst hn;refine⟨ag _,hm,(fun h=>by cases h), .inr ⟨g,0,rfl,h.lt,fun i hi=> ?_⟩⟩;rw[aA,cell_of_row w g i _ e (0,0) h];simp[jS,vN,hi]
theorem Rw.ext (h:Rw w g e l) (he:au w w'):Rw w' g e l:=(he.obj h.lt).trans h
theorem Rw.grown {row:Option Nat} (h:Rw w g e l) (hb:w.grownBy w' row) (hg:some g≠row):Rw w' g e l:=(hb.block g h.lt hg).trans h
end
theorem oK {P:Program} {t e:TypeId} (hT:mQ P t e) (kl kc:IntKind) (n:Nat) (hn:n<=1073741824) (w:World):
  ∃w',(Instr.makeSlice t (.int kl (n:Int)) (.int kc (n:Int))).run P w= .ok (.slice (some ⟨w.heap.size,0,none⟩) n n) w'/\Rw w' w.heap.size e (List.replicate n 0)/\au w w'/\w'.heap.size=w.heap.size+1:=by
 obtain⟨i,hi,hz,hz1,hz2⟩:=info_parts hT.info;have hr:=run_make (P:=P) w t e i (.int .u8 0) hT.under hi hz kl kc n n (by omega) (by omega) (by rw[hz2];omega) (by omega);simp only[d4]at hr;refine⟨_,hr,?_,I w _,World.size_alloc _ _⟩;rw[hz1];simp only[jU];have:madeCells (Value.int IntKind.u8 0).cells n=(jS (List.replicate n 0)).toArray:=by
  unfold madeCells;apply Array.ext
  ·simp[jS]
  ·intro j h1 h2;simp[jS,vN,Value.cells,Nat.mod_one]
 rw[this];exact heap_alloc_new w _
theorem py {P:Program} {w:World} {ops:Array Oper} {rest:List Oper} {o:Oper} {a:Act} {Q:Exit->Act->World->Prop} {t e:TypeId} (hT:mQ P t e) (hgd:o.guard=none) (s c:Operand) (ho:o.op= .makeSlice t s c)
  (n:Nat) (hn:n<=1073741824) (kl kc:IntKind) (hs:a.eval s= .int kl (n:Int)) (hc:a.eval c= .int kc (n:Int))
  (h: ∀w',Rw w' w.heap.size e (List.replicate n 0)->au w w'->w'.heap.size=w.heap.size+1->wpList P ops Q rest (a.put o.dst (.slice (some ⟨w.heap.size,0,none⟩) n n)) w'):wpList P ops Q (o::rest) a w:=by
 obtain⟨w',hr,h1,h2,h3⟩:=oK (P:=P) hT kl kc n hn w;refine wpList_plain hgd fun K hK=> ?_;unfold Oper.wp execOp;simp only[ho,Sem.run_bind,Sem.run_pure,hs,hc,hr,Result.andThen_ok];exact hK _ _ (h w' h1 h2 h3)
theorem yR (L:List UInt8) (off:Nat):yr L off []=L:=by simp[yr]
theorem ln {P:Program} {w:World} {ops:Array Oper} {rest:List Oper} {o:Oper} {a:Act} {Q:Exit->Act->World->Prop} {t e:TypeId} (hT:mQ P t e) (hgd:o.guard=none) (d s:Operand)
  (ho:o.op= .call {callee:= .builtin .copy,args:= #[d,s],argTypes:= #[t,t]}) (g off dLen dCap:Nat) (hd:a.eval d= .slice (some ⟨g,off,none⟩) dLen dCap) (L:List UInt8) (hg:Rw w g e L)
  (A:Option Addr) (c:Nat) (m:List UInt8) (hs:a.eval s= .slice A m.length c) (hS:Sl w A c m) (hfit:off+dLen<=L.length)
  (h: ∀w' (k:Nat),Rw w' g e (yr L off (m.take dLen))->w.grownBy w' (some g)->wpList P ops Q rest (a.put o.dst (goInt k)) w'):wpList P ops Q (o::rest) a w:=by
 have hsz:(P.info? e).map (·.size)=some 1:=by
  obtain⟨i,hi,hz,hz1,hz2⟩:=info_parts hT.info;rw[hi];simp[hz1]
 by_cases h0:m.take dLen=[]
 ·refine wpList_copy_nothing hgd d s t t ho e hT.under hsz _ _ _ _ _ _ hd hs ?_ ?_
  ·have:=congrArg List.length h0;rw[be]at this;simp only[ae]at this;show min m.length dLen=0;omega
  ·refine h w 0 ?_ (World.grownBy.refl w _);rw[h0,yR];exact hg
 ·rcases hS.rd with rfl|⟨b,o',rfl,_,hc⟩
  ·simp at h0
  ·have hlen:(jS (m.take dLen)).length=min m.length dLen:=by rw[nY,be,Nat.min_comm]
   refine wpList_copy_own hgd d s t t ho e hT.under hsz g off dLen dCap ⟨b,o',none⟩ m.length c hd hs _ e hg (jS (m.take dLen)) hlen (fun j v hv=> ?_) ?_ (fun v hv=> ?_) ?_
   ·have hj:j<(m.take dLen).length:=by have:=(List.getElem?_eq_some_iff.1 hv).1;simpa[jS]using this
    have hj2:j<m.length:=by rw[be]at hj;omega
    rw[Addr.add_lit,hc j hj2,<-hv];simp only[jS,ij];rw[aL hj];simp[eO,vN]
   ·rw[hlen];simp only[List.size_toArray,nY];omega
   ·obtain⟨x,_,rfl⟩:=List.mem_map.1 hv;rfl
   ·refine h _ _ ?_ ⟨rfl,rfl,rfl,by simp,fun k _ hk=>setRow_other w g k _ (fun e=>hk (by rw[e]))⟩;have:=setRow_heap w g _ ((jS L).toArray.toList.take off++(jS (m.take dLen)++(jS L).toArray.toList.drop (off+(jS (m.take dLen)).length))).toArray e _ hg;unfold Rw;rw[this];clear this h hd hs hfit hlen h0;generalize m.take dLen=q;simp only[yr,jS,gA,List.map_take,List.map_drop,jy]
end Go.Proofs.YtddomeddabfinaaGreatDoor
