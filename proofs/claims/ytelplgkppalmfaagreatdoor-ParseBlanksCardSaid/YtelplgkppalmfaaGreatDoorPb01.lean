/-
  Parts of the proof: Voc.
-/
import Derived.WalkKit
import Derived.WalkSpells
import Derived.WalkLawsBesides
import Derived.Maps.AppendAt
import Derived.OwnWalk
import Derived.Laws.IdiomStrings
import Derived.Laws.MakeOwn
import Derived.Test.YtelplgkppalmfaaGreatDoorPb00
set_option maxRecDepth 100000
set_option maxHeartbeats 8000000
set_option linter.unusedVariables false
set_option linter.unusedSimpArgs false
namespace Go.Proofs.YtelplgkppalmfaaGreatDoor
open Go.RowKit
theorem Ext.alloc (w:World) (o:Obj):Ext w (w.alloc o):=(Below.refl _ _).alloc (Nat.le_refl _) o
theorem Ext.alloc' {a w:World} (h:Ext a w) (o:Obj):Ext a (w.alloc o):=h.trans (Ext.alloc w o)
theorem Ext.drew {a w:World} (h:Ext a w):Ext a w.drew:=Below.drew h
theorem Ext.set {a w:World} (h:Ext a w) {p:Addr} (hp:a.heap.size<=p.block) (u:Value):Ext a (w.setCell p u):=Below.setCell h hp u
theorem Ext.grown {a w w':World} {row:Option Nat} (h:Ext a w) (hg:w.grownBy w' row) (hr: ∀k,row=some k->a.heap.size<=k):Ext a w':=Below.grown h hg h.size hr
theorem Ext.cell {w w':World} (h:Ext w w'): ∀b o,b<w.heap.size->w'.cell? ⟨b,o,none⟩=w.cell? ⟨b,o,none⟩:=fun b o hb=>Below.cell h (p:=⟨b,o,none⟩) hb
theorem hide {p:Prop} (h:p):Hid p:=h
def u8v (b:UInt8):Value:= .int .u8 (b.toNat:Int)
def bys (l:List UInt8):List Value:=l.map u8v
structure Sl (w:World) (A:Option Addr) (cap:Nat) (l:List UInt8):Prop where
 le:l.length<=cap
 max:cap<=maxLen
 nil:A=none->cap=0
 rd:l=[]\/ ∃b off,A=some ⟨b,off,none⟩/\b<w.heap.size/\ ∀i,(h:i<l.length)->w.cell? ⟨b,off+i,none⟩=some (.int .u8 (l[i].toNat:Int))
theorem Sl.none_ (w:World):Sl w none 0 []:=⟨by simp,by simp[maxLen],fun _=>rfl, .inl rfl⟩
theorem Sl.ext {w w':World} {A:Option Addr} {cap:Nat} {l:List UInt8} (h:Sl w A cap l) (he:Ext w w'):Sl w' A cap l:=
 ⟨h.le,h.max,h.nil,h.rd.imp id fun⟨b,off,ha,hb,hc⟩=>⟨b,off,ha,Nat.lt_of_lt_of_le hb he.size,fun i hi=>(he.cell b _ hb).trans (hc i hi)⟩⟩
def Own (w:World) (base:Nat) (e:TypeId) (v:Value) (l:List UInt8):Prop:=w.ownsRow base e 1 v l.length (bys l)
theorem Own.sl {w:World} {base:Nat} {e:TypeId} {A:Option Addr} {n cap:Nat} {l:List UInt8} (h:Own w base e (.slice A n cap) l):n=l.length/\Sl w A cap l:=by
 obtain⟨h1,h2⟩:=h;rcases h2 with⟨hv,hn⟩|⟨g,c,cur,hv,hb,hg,hnc,hcm,hcs,ht⟩
 ·injection hv with a1 a2 a3;subst a1 a2 a3;have:l=[]:=List.eq_nil_of_length_eq_zero hn;subst this;exact⟨rfl,Sl.none_ w⟩
 ·injection hv with a1 a2 a3;subst a1 a2 a3;refine⟨rfl,hnc,hcm,(fun h=>by cases h), .inr ⟨g,0,rfl,(Array.getElem?_eq_some_iff.1 hg).1,fun i hi=> ?_⟩⟩;rw[Nat.zero_add,cell_of_row w g i cur e (0,0) hg];have h3:(bys l)[i]? =some (u8v l[i]):=by simp[bys,hi]
  rw[<-ht,List.getElem?_take]at h3;rw[if_pos (by omega)]at h3;simpa[u8v]using h3
structure ByteT (P:Program) (t e:TypeId):Prop where
 under:P.underlying t=some (.slice e)
 info:(P.info? e).map (fun i=>(i.zero,i.size,i.bytes))=some (some (.int .u8 0),1,1)
section
variable {P:Program} {w:World}
theorem Own.form {base:Nat} {e:TypeId} {v:Value} {l:List UInt8} (h:Own w base e v l): ∃A cap,v= .slice A l.length cap:=by
 rcases h.2 with⟨rfl,h0⟩|⟨g,cap,cur,rfl,_⟩
 ·exact⟨none,0,by rw[h0]⟩
 ·exact⟨_,_,rfl⟩
theorem run_appendB {t e:TypeId} (hT:ByteT P t e) (ty:TypeId) (base:Nat) (v:Value) (l:List UInt8) (hown:Own w base e v l) (A:Option Addr) (cap:Nat) (m:List UInt8) (hs:Sl w A cap m)
  (hb:l.length+m.length<=70368744177664) (hbase:base<=w.heap.size):
  ∃A' cap' w',(Builtin.append_ #[t,t] ty #[v, .slice A m.length cap]).run P w= .ok (.slice A' (l.length+m.length) cap') w'/\Own w' base e (.slice A' (l.length+m.length) cap') (l++m)/\w.grownBy w' v.ownBlock/\
   (Value.ownBlock (.slice A' (l.length+m.length) cap')=v.ownBlock\/Value.ownBlock (.slice A' (l.length+m.length) cap')=some w.heap.size):=by
 obtain⟨i,hi,hz,hz1,hz2⟩:=info_parts hT.info;have fin: ∀v' w',(Builtin.append_ #[t,t] ty #[v, .slice A m.length cap]).run P w= .ok v' w'->w'.ownsRow base e 1 v' (l.length+m.length) (bys l++bys m)->w.grownBy w' v.ownBlock->(v'.ownBlock=v.ownBlock\/v'.ownBlock=some w.heap.size)->
   ∃A' cap' w',(Builtin.append_ #[t,t] ty #[v, .slice A m.length cap]).run P w= .ok (.slice A' (l.length+m.length) cap') w'/\Own w' base e (.slice A' (l.length+m.length) cap') (l++m)/\w.grownBy w' v.ownBlock/\
    (Value.ownBlock (.slice A' (l.length+m.length) cap')=v.ownBlock\/Value.ownBlock (.slice A' (l.length+m.length) cap')=some w.heap.size):=by
  intro v' w' hr ho hg hbk;have ho':Own w' base e v' (l++m):=by unfold Own;rw[List.length_append];simpa[bys]using ho
  obtain⟨A',cap',rfl⟩:=ho'.form;rw[List.length_append]at hr ho' hbk;exact⟨A',cap',w',hr,ho',hg,hbk⟩
 have h1: ∀u∈bys m,u.oneCell'=true:=fun u hu=>by
  obtain⟨b,_,rfl⟩:=List.mem_map.1 hu;rfl
 rcases hs.rd with rfl|⟨b,off,rfl,_,hc⟩
 ·rcases A with _|ad
  ·obtain rfl:cap=0:=hs.nil rfl;refine fin v w ?_ (by unfold Own at hown;simpa[bys]using hown) (World.grownBy.refl w _) (.inl rfl);rcases hown.2 with⟨rfl,hl⟩|⟨g,c,cur,rfl,_,_,hnc,_⟩
   ·have:l=[]:=List.eq_nil_of_length_eq_zero hl;subst this;simp[Builtin.append_,run_underlying hT.under,sizeOf,typeInfo,hi,Builtin.lenOf,Builtin.firstCells]
   ·simp[Builtin.append_,run_underlying hT.under,sizeOf,typeInfo,hi,Builtin.lenOf,Builtin.firstCells,hnc,storeCells]
  ·obtain⟨v',w',hrun,h2,h3,_,h5⟩:=run_append_own_at (P:=P) w base t ty e i (.int .u8 0) 1 1 hT.under hi hz hz1 hz2 rfl (by decide) v l.length (bys l) hown ad 0 cap [] (by simp) (by simp) (by simp) (by simp only[maxLen];simp at hb;omega) (by simp at hb;omega) hbase;exact fin v' w' hrun (by simpa[bys]using h2) h3 h5
 ·obtain⟨v',w',hrun,h2,h3,_,h5⟩:=run_append_own_at (P:=P) w base t ty e i (.int .u8 0) 1 1 hT.under hi hz hz1 hz2 rfl (by decide) v l.length (bys l) hown ⟨b,off,none⟩ m.length cap (bys m) (by simp[bys]) (fun j u hu=>by
    have hj:j<m.length:=by have:=(List.getElem?_eq_some_iff.1 hu).1;simpa[bys]using this
    rw[Addr.add_lit,hc j hj,<-hu]
    simp[bys,u8v,hj]) h1 (by simp only[maxLen];omega) (by omega) hbase
  exact fin v' w' hrun h2 h3 h5
theorem wpList_appendB {ops:Array Oper} {rest:List Oper} {o:Oper} {a:Act} {Q:Exit->Act->World->Prop} {t e:TypeId} (hT:ByteT P t e) (hgd:o.guard=none) (s x:Operand)
  (ho:o.op= .call {callee:= .builtin .append,args:= #[s,x],argTypes:= #[t,t]}) (base:Nat) (v:Value) (l:List UInt8) (hv:a.eval s=v) (hown:Own w base e v l)
  (A:Option Addr) (cap:Nat) (m:List UInt8) (hx:a.eval x= .slice A m.length cap) (hs:Sl w A cap m) (hb:l.length+m.length<=70368744177664) (hbase:base<=w.heap.size)
  (h: ∀A' cap' w',Own w' base e (.slice A' (l.length+m.length) cap') (l++m)->w.grownBy w' v.ownBlock->
   (Value.ownBlock (.slice A' (l.length+m.length) cap')=v.ownBlock\/Value.ownBlock (.slice A' (l.length+m.length) cap')=some w.heap.size)->wpList P ops Q rest (a.put o.dst (.slice A' (l.length+m.length) cap')) w'):
  wpList P ops Q (o::rest) a w:=by
 obtain⟨A',cap',w',hr,h1,h2,h3⟩:=run_appendB (P:=P) (w:=w) hT o.type base v l hown A cap m hs hb hbase;refine wpList_plain hgd fun K hK=> ?_;unfold Oper.wp execOp;simp only[ho,resolve,invoke,builtin,Sem.run_bind,Sem.run_pure,Result.andThen_ok,List.map_toArray,List.map_cons,List.map_nil,hv,hx,hr];exact hK _ _ (h A' cap' w' h1 h2 h3)
end
theorem Own.nil_ (w:World) (base:Nat) (e:TypeId):Own w base e (.slice none 0 0) []:=World.ownsRow_nil w base e 1
def str (l:List UInt8):ByteArray:=⟨l.toArray⟩
@[simp] theorem str_toList (l:List UInt8):(str l).toList=l:=by simp[str]
theorem Sl.convert {P:Program} {src dst e:TypeId} {w:World} {A:Option Addr} {cap:Nat} {l:List UInt8} (hs:P.underlying src=some (.slice e)) (he:P.underlying e=some (.int .u8)) (hd:P.underlying dst=some .string) (h:Sl w A cap l):
  (Go.convert src dst (.slice A l.length cap)).run P w= .ok (.string (str l)) w:=by
 rcases h.rd with rfl|⟨b,off,rfl,_,hc⟩
 ·rw[run_convert_bytes_string w src dst e A _ cap hs he hd]
  cases A<;>simp[Conv.bytesToString,loadCells,loadCellsFrom]<;>rfl
 ·exact run_convert_bytes_back w src dst e ⟨b,off,none⟩ cap l hs he hd (fun j hj=>by rw[Addr.add_lit];exact hc j hj)
theorem Own.grown {w w':World} {base:Nat} {e:TypeId} {v:Value} {l:List UInt8} {row:Option Nat} (h:Own w base e v l) (hg:w.grownBy w' row) (hr:v.ownBlock=none\/v.ownBlock≠row):Own w' base e v l:=World.ownsRow.kept h hg hr
theorem Own.ext {w w':World} {base:Nat} {e:TypeId} {v:Value} {l:List UInt8} (h:Own w base e v l) (he:Ext w w'):Own w' base e v l:=h.grown (he.grownBy none) (by cases v.ownBlock<;>simp)
def Blk (w:World) (g:Nat) (t:TypeId) (cs:Array Value):Prop:=w.heap[g]? =some (.cells cs t (0,0))
section
variable {w w':World} {g:Nat} {t:TypeId} {cs:Array Value}
theorem Blk.lt (h:Blk w g t cs):g<w.heap.size:=(Array.getElem?_eq_some_iff.1 h).1
theorem Blk.cell (h:Blk w g t cs) (i:Nat):w.cell? ⟨g,i,none⟩=cs[i]? :=cell_of_row w g i cs t (0,0) h
theorem Blk.frozen (h:Blk w g t cs) (i:Nat):w.frozen? ⟨g,i,none⟩=false:=by unfold Blk at h;simp[World.frozen?,h]
theorem Blk.new (w:World) (t:TypeId) (cs:Array Value):Blk (w.alloc (.cells cs t)) w.heap.size t cs:=heap_alloc_new w _
theorem Blk.drew (h:Blk w g t cs):Blk w.drew g t cs:=h
theorem Blk.alloc (h:Blk w g t cs) (o:Obj):Blk (w.alloc o) g t cs:=(Below.heap_alloc w o g h.lt).trans h
theorem Blk.set (h:Blk w g t cs) (i:Nat) (u:Value):Blk (w.setCell ⟨g,i,none⟩ u) g t (cs.setIfInBounds i u):=by
 unfold Blk at h⊢;simp[World.setCell,Array.getElem?_modify,h]
theorem Blk.far (h:Blk w g t cs) {p:Addr} (hp:g≠p.block) (u:Value):Blk (w.setCell p u) g t cs:=(Below.heap_setCell w p u g hp).trans h
theorem Blk.ext (h:Blk w g t cs) (he:Ext w w'):Blk w' g t cs:=(he.obj h.lt).trans h
theorem Blk.grown {row:Option Nat} (h:Blk w g t cs) (hb:w.grownBy w' row) (hg:some g≠row):Blk w' g t cs:=(hb.block g h.lt hg).trans h
end
end Go.Proofs.YtelplgkppalmfaaGreatDoor
