/-
  Parts of the proof: Voc.
-/
import Derived.WalkKit
import Derived.WalkSpells
import Derived.WalkLawsBesides
import Derived.Maps.AppendAt
import Derived.OwnWalk
import Derived.Laws.IdiomStrings
import Derived.Laws.MakeOwn
import Derived.Test.YtelplgkppalmfaaGreatDoorPs00
set_option maxRecDepth 100000
set_option maxHeartbeats 8000000
set_option linter.unusedVariables false
set_option linter.unusedSimpArgs false
set_option linter.defProp false
namespace Go.Proofs.YtelplgkppalmfaaGreatDoor
open Go.RowKit
theorem al.alloc (w:World) (o:Obj):al w (w.alloc o):=(Below.refl _ _).alloc (ag _) o
theorem al.alloc' {a w:World} (h:al a w) (o:Obj):al a (w.alloc o):=h.trans (al.alloc w o)
theorem al.drew {a w:World} (h:al a w):al a w.drew:=Below.drew h
theorem al.set {a w:World} (h:al a w) {p:Addr} (hp:a.heap.size<=p.block) (u:Value):al a (w.setCell p u):=Below.setCell h hp u
theorem al.grown {a w w':World} {row:Option Nat} (h:al a w) (hg:w.grownBy w' row) (hr: ∀k,row=some k->a.heap.size<=k):al a w':=Below.grown h hg h.size hr
theorem al.cell {w w':World} (h:al w w'): ∀b o,b<w.heap.size->w'.cell? ⟨b,o,none⟩=w.cell? ⟨b,o,none⟩:=fun b o hb=>Below.cell h (p:=⟨b,o,none⟩) hb
theorem G {p:Prop} (h:p):Hid p:=h
def yQ (b:UInt8):Value:= .int .u8 (b.toNat:Int)
def rC (l:List UInt8):List Value:=l.map yQ
structure Sl (w:World) (A:Option Addr) (cap:Nat) (l:List UInt8):Prop where
 le:l.length<=cap
 max:cap<=maxLen
 nil:A=none->cap=0
 rd:l=[]\/ ∃b off,A=some ⟨b,off,none⟩/\b<w.heap.size/\ ∀i,(h:i<l.length)->w.cell? ⟨b,off+i,none⟩=some (.int .u8 (l[i].toNat:Int))
theorem Sl.none_ (w:World):Sl w none 0 []:=⟨by simp,by simp[maxLen],fun _=>rfl, .inl rfl⟩
def ny (w:World) (base:Nat) (e:TypeId) (v:Value) (l:List UInt8):Prop:=w.ownsRow base e 1 v l.length (rC l)
theorem ny.sl {w:World} {base:Nat} {e:TypeId} {A:Option Addr} {n cap:Nat} {l:List UInt8} (h:ny w base e (.slice A n cap) l):n=l.length/\Sl w A cap l:=by
 obtain⟨h1,h2⟩:=h;rcases h2 with⟨hv,hn⟩|⟨g,c,cur,hv,hb,hg,hnc,hcm,hcs,ht⟩
 ·injection hv with a1 a2 a3;subst a1 a2 a3;have:l=[]:=aV hn;subst this;exact⟨rfl,Sl.none_ w⟩
 ·injection hv with a1 a2 a3;subst a1 a2 a3;refine⟨rfl,hnc,hcm,(fun h=>by cases h), .inr ⟨g,0,rfl,(Array.getElem?_eq_some_iff.1 hg).1,fun i hi=> ?_⟩⟩;rw[ak,cell_of_row w g i cur e (0,0) hg];have h3:(rC l)[i]? =some (yQ l[i]):=by simp[rC,hi]
  rw[<-ht,cr]at h3;rw[if_pos (by omega)]at h3;simpa[yQ]using h3
structure vF (P:Program) (t e:TypeId):Prop where
 under:P.underlying t=some (.slice e)
 info:(P.info? e).map (fun i=>(i.zero,i.size,i.bytes))=some (some (.int .u8 0),1,1)
section
variable {P:Program} {w:World}
theorem ny.form {base:Nat} {e:TypeId} {v:Value} {l:List UInt8} (h:ny w base e v l): ∃A cap,v= .slice A l.length cap:=by
 rcases h.2 with⟨rfl,h0⟩|⟨g,cap,cur,rfl,_⟩
 ·exact⟨none,0,by rw[h0]⟩
 ·exact⟨_,_,rfl⟩
theorem pZ {t e:TypeId} (hT:vF P t e) (ty:TypeId) (base:Nat) (v:Value) (l:List UInt8) (hown:ny w base e v l) (A:Option Addr) (cap:Nat) (m:List UInt8) (hs:Sl w A cap m)
  (hb:l.length+m.length<=70368744177664) (hbase:base<=w.heap.size):
  ∃A' cap' w',(Builtin.append_ #[t,t] ty #[v, .slice A m.length cap]).run P w= .ok (.slice A' (l.length+m.length) cap') w'/\ny w' base e (.slice A' (l.length+m.length) cap') (l++m)/\w.grownBy w' v.ownBlock/\
   (Value.ownBlock (.slice A' (l.length+m.length) cap')=v.ownBlock\/Value.ownBlock (.slice A' (l.length+m.length) cap')=some w.heap.size):=by
 obtain⟨i,hi,hz,hz1,hz2⟩:=info_parts hT.info;have fin: ∀v' w',(Builtin.append_ #[t,t] ty #[v, .slice A m.length cap]).run P w= .ok v' w'->w'.ownsRow base e 1 v' (l.length+m.length) (rC l++rC m)->w.grownBy w' v.ownBlock->(v'.ownBlock=v.ownBlock\/v'.ownBlock=some w.heap.size)->
   ∃A' cap' w',(Builtin.append_ #[t,t] ty #[v, .slice A m.length cap]).run P w= .ok (.slice A' (l.length+m.length) cap') w'/\ny w' base e (.slice A' (l.length+m.length) cap') (l++m)/\w.grownBy w' v.ownBlock/\
    (Value.ownBlock (.slice A' (l.length+m.length) cap')=v.ownBlock\/Value.ownBlock (.slice A' (l.length+m.length) cap')=some w.heap.size):=by
  intro v' w' hr ho hg hbk;have ho':ny w' base e v' (l++m):=by unfold ny;rw[aa];simpa[rC]using ho
  obtain⟨A',cap',rfl⟩:=ho'.form;rw[aa]at hr ho' hbk;exact⟨A',cap',w',hr,ho',hg,hbk⟩
 have h1: ∀u∈rC m,u.oneCell'=true:=fun u hu=>by
  obtain⟨b,_,rfl⟩:=List.mem_map.1 hu;rfl
 rcases hs.rd with rfl|⟨b,off,rfl,_,hc⟩
 ·rcases A with _|ad
  ·obtain rfl:cap=0:=hs.nil rfl;refine fin v w ?_ (by unfold ny at hown;simpa[rC]using hown) (World.grownBy.refl w _) (.inl rfl);rcases hown.2 with⟨rfl,hl⟩|⟨g,c,cur,rfl,_,_,hnc,_⟩
   ·have:l=[]:=aV hl;subst this;simp[Builtin.append_,run_underlying hT.under,sizeOf,typeInfo,hi,Builtin.lenOf,Builtin.firstCells]
   ·simp[Builtin.append_,run_underlying hT.under,sizeOf,typeInfo,hi,Builtin.lenOf,Builtin.firstCells,hnc,storeCells]
  ·obtain⟨v',w',hrun,h2,h3,_,h5⟩:=run_append_own_at (P:=P) w base t ty e i (.int .u8 0) 1 1 hT.under hi hz hz1 hz2 rfl (by decide) v l.length (rC l) hown ad 0 cap [] (by simp) (by simp) (by simp) (by simp only[maxLen];simp at hb;omega) (by simp at hb;omega) hbase;exact fin v' w' hrun (by simpa[rC]using h2) h3 h5
 ·obtain⟨v',w',hrun,h2,h3,_,h5⟩:=run_append_own_at (P:=P) w base t ty e i (.int .u8 0) 1 1 hT.under hi hz hz1 hz2 rfl (by decide) v l.length (rC l) hown ⟨b,off,none⟩ m.length cap (rC m) (by simp[rC]) (fun j u hu=>by
    have hj:j<m.length:=by have:=(List.getElem?_eq_some_iff.1 hu).1;simpa[rC]using this
    rw[gQ,hc j hj,<-hu]
    simp[rC,yQ,hj]) h1 (by simp only[maxLen];omega) (by omega) hbase
  exact fin v' w' hrun h2 h3 h5
theorem mq {ops:Array Oper} {rest:List Oper} {o:Oper} {a:Act} {Q:Exit->Act->World->Prop} {t e:TypeId} (hT:vF P t e) (hgd:o.guard=none) (s x:Operand)
  (ho:o.op= .call {callee:= .builtin .append,args:= #[s,x],argTypes:= #[t,t]}) (base:Nat) (v:Value) (l:List UInt8) (hv:a.eval s=v) (hown:ny w base e v l)
  (A:Option Addr) (cap:Nat) (m:List UInt8) (hx:a.eval x= .slice A m.length cap) (hs:Sl w A cap m) (hb:l.length+m.length<=70368744177664) (hbase:base<=w.heap.size)
  (h: ∀A' cap' w',ny w' base e (.slice A' (l.length+m.length) cap') (l++m)->w.grownBy w' v.ownBlock->
   (Value.ownBlock (.slice A' (l.length+m.length) cap')=v.ownBlock\/Value.ownBlock (.slice A' (l.length+m.length) cap')=some w.heap.size)->wpList P ops Q rest (a.put o.dst (.slice A' (l.length+m.length) cap')) w'):
  wpList P ops Q (o::rest) a w:=by
 obtain⟨A',cap',w',hr,h1,h2,h3⟩:=pZ (P:=P) (w:=w) hT o.type base v l hown A cap m hs hb hbase;refine wpList_plain hgd fun K hK=> ?_;unfold Oper.wp execOp;simp only[ho,resolve,invoke,builtin,fT,fS,dW,eo,cA,dX,hv,hx,hr];exact hK _ _ (h A' cap' w' h1 h2 h3)
end
theorem ny.nil_ (w:World) (base:Nat) (e:TypeId):ny w base e (.slice none 0 0) []:=b7 w base e 1
def ae (l:List UInt8):ByteArray:=⟨l.toArray⟩
@[simp] theorem wY (l:List UInt8):(ae l).toList=l:=by simp[ae]
theorem Sl.convert {P:Program} {src dst e:TypeId} {w:World} {A:Option Addr} {cap:Nat} {l:List UInt8} (hs:P.underlying src=some (.slice e)) (he:P.underlying e=some (.int .u8)) (hd:P.underlying dst=some .string) (h:Sl w A cap l):
  (Go.convert src dst (.slice A l.length cap)).run P w= .ok (.string (ae l)) w:=by
 rcases h.rd with rfl|⟨b,off,rfl,_,hc⟩
 ·rw[run_convert_bytes_string w src dst e A _ cap hs he hd]
  cases A<;>simp[Conv.bytesToString,loadCells,loadCellsFrom]<;>rfl
 ·exact run_convert_bytes_back w src dst e ⟨b,off,none⟩ cap l hs he hd (fun j hj=>by rw[gQ];exact hc j hj)
theorem ny.grown {w w':World} {base:Nat} {e:TypeId} {v:Value} {l:List UInt8} {row:Option Nat} (h:ny w base e v l) (hg:w.grownBy w' row) (hr:v.ownBlock=none\/v.ownBlock≠row):ny w' base e v l:=bH h hg hr
theorem ny.ext {w w':World} {base:Nat} {e:TypeId} {v:Value} {l:List UInt8} (h:ny w base e v l) (he:al w w'):ny w' base e v l:=h.grown (he.grownBy none) (by cases v.ownBlock<;>simp)
def aT (w:World) (g:Nat) (t:TypeId) (cs:Array Value):Prop:=w.heap[g]? =some (.cells cs t (0,0))
section
variable {w w':World} {g:Nat} {t:TypeId} {cs:Array Value}
theorem aT.lt (h:aT w g t cs):g<w.heap.size:=(Array.getElem?_eq_some_iff.1 h).1
theorem aT.cell (h:aT w g t cs) (i:Nat):w.cell? ⟨g,i,none⟩=cs[i]? :=cell_of_row w g i cs t (0,0) h
theorem aT.frozen (h:aT w g t cs) (i:Nat):w.frozen? ⟨g,i,none⟩=false:=by unfold aT at h;simp[World.frozen?,h]
theorem aT.new (w:World) (t:TypeId) (cs:Array Value):aT (w.alloc (.cells cs t)) w.heap.size t cs:=heap_alloc_new w _
theorem aT.drew (h:aT w g t cs):aT w.drew g t cs:=h
theorem aT.alloc (h:aT w g t cs) (o:Obj):aT (w.alloc o) g t cs:=(Below.heap_alloc w o g h.lt).trans h
theorem aT.set (h:aT w g t cs) (i:Nat) (u:Value):aT (w.setCell ⟨g,i,none⟩ u) g t (cs.setIfInBounds i u):=by
 unfold aT at h⊢;simp[World.setCell,Array.getElem?_modify,h]
theorem aT.far (h:aT w g t cs) {p:Addr} (hp:g≠p.block) (u:Value):aT (w.setCell p u) g t cs:=(Below.heap_setCell w p u g hp).trans h
theorem aT.ext (h:aT w g t cs) (he:al w w'):aT w' g t cs:=(he.obj h.lt).trans h
theorem aT.grown {row:Option Nat} (h:aT w g t cs) (hb:w.grownBy w' row) (hg:some g≠row):aT w' g t cs:=(hb.block g h.lt hg).trans h
end
def O:=@al.alloc
def ai:=@aT.new
end Go.Proofs.YtelplgkppalmfaaGreatDoor
