/-
  Parts of the proof: Voc LexA LexB LexC.
-/
import Derived.WalkKit
import Derived.WalkSpells
import Derived.WalkLawsBesides
import Derived.Maps.AppendAt
import Derived.OwnWalk
import Derived.Laws.IdiomStrings
import Derived.Laws.MakeOwn
import Derived.Test.YtddomeddabfinaaGreatDoorTu01
import Derived.Test.YtddomeddabfinaaGreatDoorTu00
set_option maxRecDepth 100000
set_option maxHeartbeats 8000000
set_option linter.unusedVariables false
set_option linter.unusedSimpArgs false
set_option linter.defProp false
set_option linter.unusedSectionVars false
namespace Go.Proofs.YtddomeddabfinaaGreatDoor
open Go.Proofs.Tryz
section
open Go.RowKit
theorem au.alloc (w:World) (o:Obj):au w (w.alloc o):=(Below.refl _ _).alloc (an _) o
theorem au.alloc' {a w:World} (h:au a w) (o:Obj):au a (w.alloc o):=h.trans (au.alloc w o)
theorem au.drew {a w:World} (h:au a w):au a w.drew:=Below.drew h
theorem au.set {a w:World} (h:au a w) {p:Addr} (hp:a.heap.size<=p.block) (u:Value):au a (w.setCell p u):=Below.setCell h hp u
theorem au.grown {a w w':World} {row:Option Nat} (h:au a w) (hg:w.grownBy w' row) (hr: ∀k,row=some k->a.heap.size<=k):au a w':=Below.grown h hg h.size hr
theorem au.cell {w w':World} (h:au w w'): ∀b o,b<w.heap.size->w'.cell? ⟨b,o,none⟩=w.cell? ⟨b,o,none⟩:=fun b o hb=>Below.cell h (p:=⟨b,o,none⟩) hb
theorem G {p:Prop} (h:p):Hid p:=h
def z_ (b:UInt8):Value:= .int .u8 (b.toNat:Int)
def oO (l:List UInt8):List Value:=l.map z_
structure Sl (w:World) (A:Option Addr) (cap:Nat) (l:List UInt8):Prop where
 le:l.length<=cap
 max:cap<=maxLen
 nil:A=none->cap=0
 rd:l=[]\/ ∃b off,A=some ⟨b,off,none⟩/\b<w.heap.size/\ ∀i,(h:i<l.length)->w.cell? ⟨b,off+i,none⟩=some (.int .u8 (l[i].toNat:Int))
theorem Sl.none_ (w:World):Sl w none 0 []:=⟨by simp,by simp[maxLen],fun _=>rfl, .inl rfl⟩
theorem Sl.ext {w w':World} {A:Option Addr} {cap:Nat} {l:List UInt8} (h:Sl w A cap l) (he:au w w'):Sl w' A cap l:=
 ⟨h.le,h.max,h.nil,h.rd.imp id fun⟨b,off,ha,hb,hc⟩=>⟨b,off,ha,aF hb he.size,fun i hi=>(he.cell b _ hb).trans (hc i hi)⟩⟩
def mX (w:World) (base:Nat) (e:TypeId) (v:Value) (l:List UInt8):Prop:=w.ownsRow base e 1 v l.length (oO l)
theorem mX.sl {w:World} {base:Nat} {e:TypeId} {A:Option Addr} {n cap:Nat} {l:List UInt8} (h:mX w base e (.slice A n cap) l):n=l.length/\Sl w A cap l:=by
 obtain⟨h1,h2⟩:=h;rcases h2 with⟨hv,hn⟩|⟨g,c,cur,hv,hb,hg,hnc,hcm,hcs,ht⟩
 ·injection hv with a1 a2 a3;subst a1 a2 a3;have:l=[]:=aM hn;subst this;exact⟨rfl,Sl.none_ w⟩
 ·injection hv with a1 a2 a3;subst a1 a2 a3;refine⟨rfl,hnc,hcm,(fun h=>by cases h), .inr ⟨g,0,rfl,(Array.getElem?_eq_some_iff.1 hg).1,fun i hi=> ?_⟩⟩;rw[a8,cell_of_row w g i cur e (0,0) hg];have h3:(oO l)[i]? =some (z_ l[i]):=by simp[oO,hi]
  rw[<-ht,bZ]at h3;rw[if_pos (by omega)]at h3;simpa[z_]using h3
structure qp (P:Program) (t e:TypeId):Prop where
 under:P.underlying t=some (.slice e)
 info:(P.info? e).map (fun i=>(i.zero,i.size,i.bytes))=some (some (.int .u8 0),1,1)
section
variable {P:Program} {w:World}
theorem mX.form {base:Nat} {e:TypeId} {v:Value} {l:List UInt8} (h:mX w base e v l): ∃A cap,v= .slice A l.length cap:=by
 rcases h.2 with⟨rfl,h0⟩|⟨g,cap,cur,rfl,_⟩
 ·exact⟨none,0,by rw[h0]⟩
 ·exact⟨_,_,rfl⟩
theorem pq {t e:TypeId} (hT:qp P t e) (ty:TypeId) (base:Nat) (v:Value) (l:List UInt8) (hown:mX w base e v l) (A:Option Addr) (cap:Nat) (m:List UInt8) (hs:Sl w A cap m)
  (hb:l.length+m.length<=70368744177664) (hbase:base<=w.heap.size):
  ∃A' cap' w',(Builtin.append_ #[t,t] ty #[v, .slice A m.length cap]).run P w= .ok (.slice A' (l.length+m.length) cap') w'/\mX w' base e (.slice A' (l.length+m.length) cap') (l++m)/\w.grownBy w' v.ownBlock/\
   (Value.ownBlock (.slice A' (l.length+m.length) cap')=v.ownBlock\/Value.ownBlock (.slice A' (l.length+m.length) cap')=some w.heap.size):=by
 obtain⟨i,hi,hz,hz1,hz2⟩:=info_parts hT.info;have fin: ∀v' w',(Builtin.append_ #[t,t] ty #[v, .slice A m.length cap]).run P w= .ok v' w'->w'.ownsRow base e 1 v' (l.length+m.length) (oO l++oO m)->w.grownBy w' v.ownBlock->(v'.ownBlock=v.ownBlock\/v'.ownBlock=some w.heap.size)->
   ∃A' cap' w',(Builtin.append_ #[t,t] ty #[v, .slice A m.length cap]).run P w= .ok (.slice A' (l.length+m.length) cap') w'/\mX w' base e (.slice A' (l.length+m.length) cap') (l++m)/\w.grownBy w' v.ownBlock/\
    (Value.ownBlock (.slice A' (l.length+m.length) cap')=v.ownBlock\/Value.ownBlock (.slice A' (l.length+m.length) cap')=some w.heap.size):=by
  intro v' w' hr ho hg hbk;have ho':mX w' base e v' (l++m):=by unfold mX;rw[aa];simpa[oO]using ho
  obtain⟨A',cap',rfl⟩:=ho'.form;rw[aa]at hr ho' hbk;exact⟨A',cap',w',hr,ho',hg,hbk⟩
 have h1: ∀u∈oO m,u.oneCell'=true:=fun u hu=>by
  obtain⟨b,_,rfl⟩:=List.mem_map.1 hu;rfl
 rcases hs.rd with rfl|⟨b,off,rfl,_,hc⟩
 ·rcases A with _|ad
  ·obtain rfl:cap=0:=hs.nil rfl;refine fin v w ?_ (by unfold mX at hown;simpa[oO]using hown) (World.grownBy.refl w _) (.inl rfl);rcases hown.2 with⟨rfl,hl⟩|⟨g,c,cur,rfl,_,_,hnc,_⟩
   ·have:l=[]:=aM hl;subst this;simp[Builtin.append_,run_underlying hT.under,sizeOf,typeInfo,hi,Builtin.lenOf,Builtin.firstCells]
   ·simp[Builtin.append_,run_underlying hT.under,sizeOf,typeInfo,hi,Builtin.lenOf,Builtin.firstCells,hnc,storeCells]
  ·obtain⟨v',w',hrun,h2,h3,_,h5⟩:=run_append_own_at (P:=P) w base t ty e i (.int .u8 0) 1 1 hT.under hi hz hz1 hz2 rfl (by decide) v l.length (oO l) hown ad 0 cap [] (by simp) (by simp) (by simp) (by simp only[maxLen];simp at hb;omega) (by simp at hb;omega) hbase;exact fin v' w' hrun (by simpa[oO]using h2) h3 h5
 ·obtain⟨v',w',hrun,h2,h3,_,h5⟩:=run_append_own_at (P:=P) w base t ty e i (.int .u8 0) 1 1 hT.under hi hz hz1 hz2 rfl (by decide) v l.length (oO l) hown ⟨b,off,none⟩ m.length cap (oO m) (by simp[oO]) (fun j u hu=>by
    have hj:j<m.length:=by have:=(List.getElem?_eq_some_iff.1 hu).1;simpa[oO]using this
    rw[Addr.add_lit,hc j hj,<-hu]
    simp[oO,z_,hj]) h1 (by simp only[maxLen];omega) (by omega) hbase
  exact fin v' w' hrun h2 h3 h5
theorem l9 {ops:Array Oper} {rest:List Oper} {o:Oper} {a:Act} {Q:Exit->Act->World->Prop} {t e:TypeId} (hT:qp P t e) (hgd:o.guard=none) (s x:Operand)
  (ho:o.op= .call {callee:= .builtin .append,args:= #[s,x],argTypes:= #[t,t]}) (base:Nat) (v:Value) (l:List UInt8) (hv:a.eval s=v) (hown:mX w base e v l)
  (A:Option Addr) (cap:Nat) (m:List UInt8) (hx:a.eval x= .slice A m.length cap) (hs:Sl w A cap m) (hb:l.length+m.length<=70368744177664) (hbase:base<=w.heap.size)
  (h: ∀A' cap' w',mX w' base e (.slice A' (l.length+m.length) cap') (l++m)->w.grownBy w' v.ownBlock->
   (Value.ownBlock (.slice A' (l.length+m.length) cap')=v.ownBlock\/Value.ownBlock (.slice A' (l.length+m.length) cap')=some w.heap.size)->wpList P ops Q rest (a.put o.dst (.slice A' (l.length+m.length) cap')) w'):
  wpList P ops Q (o::rest) a w:=by
 obtain⟨A',cap',w',hr,h1,h2,h3⟩:=pq (P:=P) (w:=w) hT o.type base v l hown A cap m hs hb hbase;refine wpList_plain hgd fun K hK=> ?_;unfold Oper.wp execOp;simp only[ho,resolve,invoke,builtin,Sem.run_bind,Sem.run_pure,Result.andThen_ok,dZ,bI,dw,hv,hx,hr];exact hK _ _ (h A' cap' w' h1 h2 h3)
end
theorem mX.nil_ (w:World) (base:Nat) (e:TypeId):mX w base e (.slice none 0 0) []:=World.ownsRow_nil w base e 1
def ag (l:List UInt8):ByteArray:=⟨l.toArray⟩
@[simp] theorem yq (l:List UInt8):(ag l).toList=l:=by simp[ag]
theorem Sl.convert {P:Program} {src dst e:TypeId} {w:World} {A:Option Addr} {cap:Nat} {l:List UInt8} (hs:P.underlying src=some (.slice e)) (he:P.underlying e=some (.int .u8)) (hd:P.underlying dst=some .string) (h:Sl w A cap l):
  (Go.convert src dst (.slice A l.length cap)).run P w= .ok (.string (ag l)) w:=by
 rcases h.rd with rfl|⟨b,off,rfl,_,hc⟩
 ·rw[run_convert_bytes_string w src dst e A _ cap hs he hd]
  cases A<;>simp[Conv.bytesToString,loadCells,loadCellsFrom]<;>rfl
 ·exact run_convert_bytes_back w src dst e ⟨b,off,none⟩ cap l hs he hd (fun j hj=>by rw[Addr.add_lit];exact hc j hj)
theorem mX.grown {w w':World} {base:Nat} {e:TypeId} {v:Value} {l:List UInt8} {row:Option Nat} (h:mX w base e v l) (hg:w.grownBy w' row) (hr:v.ownBlock=none\/v.ownBlock≠row):mX w' base e v l:=World.ownsRow.kept h hg hr
theorem mX.ext {w w':World} {base:Nat} {e:TypeId} {v:Value} {l:List UInt8} (h:mX w base e v l) (he:au w w'):mX w' base e v l:=h.grown (he.grownBy none) (by cases v.ownBlock<;>simp)
def aO (w:World) (g:Nat) (t:TypeId) (cs:Array Value):Prop:=w.heap[g]? =some (.cells cs t (0,0))
section
variable {w w':World} {g:Nat} {t:TypeId} {cs:Array Value}
theorem aO.lt (h:aO w g t cs):g<w.heap.size:=(Array.getElem?_eq_some_iff.1 h).1
theorem aO.cell (h:aO w g t cs) (i:Nat):w.cell? ⟨g,i,none⟩=cs[i]? :=cell_of_row w g i cs t (0,0) h
theorem aO.frozen (h:aO w g t cs) (i:Nat):w.frozen? ⟨g,i,none⟩=false:=by unfold aO at h;simp[World.frozen?,h]
theorem aO.new (w:World) (t:TypeId) (cs:Array Value):aO (w.alloc (.cells cs t)) w.heap.size t cs:=heap_alloc_new w _
theorem aO.drew (h:aO w g t cs):aO w.drew g t cs:=h
theorem aO.alloc (h:aO w g t cs) (o:Obj):aO (w.alloc o) g t cs:=(Below.heap_alloc w o g h.lt).trans h
theorem aO.set (h:aO w g t cs) (i:Nat) (u:Value):aO (w.setCell ⟨g,i,none⟩ u) g t (cs.setIfInBounds i u):=by
 unfold aO at h⊢;simp[World.setCell,Array.getElem?_modify,h]
theorem aO.far (h:aO w g t cs) {p:Addr} (hp:g≠p.block) (u:Value):aO (w.setCell p u) g t cs:=(Below.heap_setCell w p u g hp).trans h
theorem aO.ext (h:aO w g t cs) (he:au w w'):aO w' g t cs:=(he.obj h.lt).trans h
theorem aO.grown {row:Option Nat} (h:aO w g t cs) (hb:w.grownBy w' row) (hg:some g≠row):aO w' g t cs:=(hb.block g h.lt hg).trans h
end
end
section
open Go.RowKit
theorem mixed:prog.follows .mixedOrders=true:=by kernel_rfl
theorem bN {a b:Bool} (h:a=b):Ending.returned (.bool a)= .returned (.bool b):=by rw[h]
theorem kD {k:IntKind} {a b:Int} (h:a=b):Ending.returned (.int k a)= .returned (.int k b):=by rw[h]
theorem z' (x y:UInt8):bits .or .u8 (x.toNat:Int) (y.toNat:Int)=((x|||y).toNat:Int):=by
 show IntKind.u8.wrap ((BitVec.ofInt 8 (x.toNat:Int)|||BitVec.ofInt 8 (y.toNat:Int)).toNat:Int)=_;have e: ∀z:UInt8,BitVec.ofInt 8 (z.toNat:Int)=z.toBitVec:=fun z=>by
  rw[BitVec.ofInt_natCast];exact BitVec.eq_of_toNat_eq (by simp)
 rw[e,e,<-UInt8.toBitVec_or];generalize x|||y=z;have hz:=z.toNat_lt;show IntKind.u8.wrap (z.toNat:Int)=(z.toNat:Int);simp only[IntKind.wrap,IntKind.signed,IntKind.bits];simp;omega
theorem kq (c:UInt8) (w:World):Calls prog 108 #[.int .u8 (c.toNat:Int)] w fun e w'=>e= .returned (.bool (fw c))/\w=w':=by
 have h:=z' c 32;have e:((32:UInt8).toNat:Int)=32:=rfl;rw[e]at h;have HB:=G (show fw c=decide (97<=(c|||32).toNat/\(c|||32).toNat<=122)from rfl);generalize (c|||32)=q at*;clear e;by_cases h1:97<=q.toNat
 ·by_cases h2:q.toNat<=122
  ·have HC:=G (show fw c=true by rw[HB.out];simp[h1,h2]);have h1':(97:Int)<=q.toNat:=by omega
   have h2':(q.toNat:Int)<=122:=by omega
   go_enter func108,ntmps108;go_wp2;go_ret;exact⟨bN HC.out.symm,rfl⟩
  ·have HC:=G (show fw c=false by rw[HB.out];simp[h1,h2]);have h1':(97:Int)<=q.toNat:=by omega
   have h2': ¬(q.toNat:Int)<=122:=by omega
   go_enter func108,ntmps108;go_wp2;go_ret;exact⟨bN HC.out.symm,rfl⟩
 ·have HC:=G (show fw c=false by rw[HB.out];simp[h1]);have h1': ¬(97:Int)<=q.toNat:=by omega
  go_enter func108,ntmps108;go_wp2;go_ret;exact⟨bN HC.out.symm,rfl⟩
theorem lm (c:UInt8) (w:World):Calls prog 140 #[.int .u8 (c.toNat:Int)] w fun e w'=>e= .returned (.bool (dM c))/\w=w':=by
 have HB:=G (show dM c=decide (48<=c.toNat/\c.toNat<=57)from rfl);by_cases h1:48<=c.toNat
 ·by_cases h2:c.toNat<=57
  ·have HC:=G (show dM c=true by rw[HB.out];simp[h1,h2]);have h1':(48:Int)<=c.toNat:=by omega
   have h2':(c.toNat:Int)<=57:=by omega
   go_enter func140,ntmps140;go_wp2;go_ret;exact⟨bN HC.out.symm,rfl⟩
  ·have HC:=G (show dM c=false by rw[HB.out];simp[h1,h2]);have h1':(48:Int)<=c.toNat:=by omega
   have h2': ¬(c.toNat:Int)<=57:=by omega
   go_enter func140,ntmps140;go_wp2;go_ret;exact⟨bN HC.out.symm,rfl⟩
 ·have HC:=G (show dM c=false by rw[HB.out];simp[h1]);have h1': ¬(48:Int)<=c.toNat:=by omega
  go_enter func140,ntmps140;go_wp2;go_ret;exact⟨bN HC.out.symm,rfl⟩
theorem cT (a:UInt8) (n:Nat) (hn:n<256):((a.toNat:Int)==(n:Int))=(a==UInt8.ofNat n):=by
 by_cases h:a=UInt8.ofNat n
 ·subst h;have:(UInt8.ofNat n).toNat=n:=by rw[UInt8.toNat_ofNat'];omega
  rw[this];simp
 ·have h2:(a.toNat:Int)≠(n:Int):=fun e=>h (UInt8.toNat_inj.1 (by rw[UInt8.toNat_ofNat'];omega));rw[beq_eq_false_iff_ne.2 h,beq_eq_false_iff_ne.2 h2]
theorem kF (c:UInt8) (w:World):Calls prog 107 #[.int .u8 (c.toNat:Int)] w fun e w'=>e= .returned (.bool (dL c))/\w=w':=by
 have h95:((c.toNat:Int)==95)=(c==95):=cT c 95 (by omega);have HL:=G (kq c w);have HD:=G (lm c w);have HB:=G (show dL c=(fw c||dM c||c==95)from rfl);generalize fw c=l at*;generalize dM c=d at*;generalize (c==95)=u at*
 cases l<;>cases d<;>cases u;all_goals
  go_enter func107,ntmps107
  go_wp2_with (first
   |(go_at_call 108;refine HL.out.mono ?_;rintro e w' ⟨rfl,rfl⟩)
   |(go_at_call 140;refine HD.out.mono ?_;rintro e w' ⟨rfl,rfl⟩))
  go_ret;exact⟨bN (by rw[HB.out];rfl),rfl⟩
theorem lC (c:UInt8) (w:World):Calls prog 122 #[.int .u8 (c.toNat:Int)] w fun e w'=>e= .returned (.bool (fw c))/\w=w':=by
 have HB:=G (vA c);have hw:c.toNat<65\/(65<=c.toNat/\c.toNat<=90)\/(90<c.toNat/\c.toNat<97)\/(97<=c.toNat/\c.toNat<=122)\/122<c.toNat:=by omega
 generalize hn:c.toNat=n at*;have HN:=G hn;clear hn;rcases hw with h|⟨h1,h2⟩|⟨h1,h2⟩|⟨h1,h2⟩|h
 ·have HC:=G (show fw c=false by rw[HB.out];simp;omega);have h':(n:Int)<65:=by omega
  go_enter func122,ntmps122;go_wp2;go_ret;exact⟨bN HC.out.symm,rfl⟩
 ·have HC:=G (show fw c=true by rw[HB.out];simp;omega);have h1':(65:Int)<=n:=by omega
  have h2':(n:Int)<=90:=by omega
  go_enter func122,ntmps122;go_wp2;go_ret;exact⟨bN HC.out.symm,rfl⟩
 ·have HC:=G (show fw c=false by rw[HB.out];simp;omega);have h1':decide ((n:Int)<=90)=false:=by simp;omega
  have h2':decide ((97:Int)<=n)=false:=by simp;omega
  have h3':(65:Int)<=n:=by omega
  have h4': ¬(97:Int)<=n:=by omega
  go_enter func122,ntmps122;go_wp2;go_ret;exact⟨bN HC.out.symm,rfl⟩
 ·have HC:=G (show fw c=true by rw[HB.out];simp;omega);have h1':(97:Int)<=n:=by omega
  have h2':(n:Int)<=122:=by omega
  go_enter func122,ntmps122;go_wp2;go_ret;exact⟨bN HC.out.symm,rfl⟩
 ·have HC:=G (show fw c=false by rw[HB.out];simp;omega);have h1':decide ((n:Int)<=90)=false:=by simp;omega
  have h2':decide ((n:Int)<=122)=false:=by simp;omega
  have h3':(97:Int)<=n:=by omega
  have h4':(65:Int)<=n:=by omega
  go_enter func122,ntmps122;go_wp2;go_ret;exact⟨bN HC.out.symm,rfl⟩
theorem qR (c:UInt8) (w:World):Calls prog 158 #[.int .u8 (c.toNat:Int)] w fun e w'=>e= .returned (.bool (dM c))/\w=w':=by
 have HB:=G (show dM c=decide (48<=c.toNat/\c.toNat<=57)from rfl);by_cases h1:48<=c.toNat
 ·by_cases h2:c.toNat<=57
  ·have HC:=G (show dM c=true by rw[HB.out];simp[h1,h2]);have h1':(48:Int)<=c.toNat:=by omega
   have h2':(c.toNat:Int)<=57:=by omega
   go_enter func158,ntmps158;go_wp2;go_ret;exact⟨bN HC.out.symm,rfl⟩
  ·have HC:=G (show dM c=false by rw[HB.out];simp[h1,h2]);have h1':(48:Int)<=c.toNat:=by omega
   have h2': ¬(c.toNat:Int)<=57:=by omega
   go_enter func158,ntmps158;go_wp2;go_ret;exact⟨bN HC.out.symm,rfl⟩
 ·have HC:=G (show dM c=false by rw[HB.out];simp[h1]);have h1': ¬(48:Int)<=c.toNat:=by omega
  go_enter func158,ntmps158;go_wp2;go_ret;exact⟨bN HC.out.symm,rfl⟩
theorem tw (c:UInt8) (w:World):Calls prog 124 #[.int .u8 (c.toNat:Int)] w fun e w'=>e= .returned (.bool (dL c))/\w=w':=by
 have h95:((c.toNat:Int)==95)=(c==95):=cT c 95 (by omega);have HL:=G (lC c w);have HD:=G (qR c w);have HB:=G (show dL c=(fw c||dM c||c==95)from rfl);generalize fw c=l at*;generalize dM c=d at*;generalize (c==95)=u at*
 cases l<;>cases d<;>cases u;all_goals
  go_enter func124,ntmps124
  go_wp2_with (first
   |(go_at_call 122;refine HL.out.mono ?_;rintro e w' ⟨rfl,rfl⟩)
   |(go_at_call 158;refine HD.out.mono ?_;rintro e w' ⟨rfl,rfl⟩))
  go_ret;exact⟨bN (by rw[HB.out];rfl),rfl⟩
theorem aL (l:List UInt8):(ag l).size=l.length:=by
 show l.toArray.size=l.length;simp
theorem g8 (l:List UInt8) (j:Nat) (h:j<(ag l).size):(ag l)[j]=l[j]'(by rw[<-aL];exact h):=rfl
theorem cA (l:List UInt8) (a b:Nat):(ag l).extract a b=ag ((l.take b).drop a):=by
 apply ic;rw[ByteArray.data_extract];apply Array.ext';show(l.toArray.extract a b).toList=((l.take b).drop a);rw[Array.toList_extract,List.drop_take]
theorem pn (p:UInt8->Bool) (fn:Nat) (hfn: ∀(c:UInt8) (w:World),Calls prog fn #[.int .u8 (c.toNat:Int)] w fun e w'=>e= .returned (.bool (p c))/\w=w') (hf:fn=107\/fn=140) (l:List UInt8) (hl:l.length<=100000) (w:World):
  Calls prog 179 #[.string (ag l), .func (.func fn) #[] #[]] w fun e w'=>e= .returned (.int .i64 (bS p l))/\w=w':=by
 have HF:=G hfn;have hsz:=aL l;have hm:=gF p l;clear hfn;rcases hf with rfl|rfl;all_goals
  go_enter func179,ntmps179;go_wp2_with fail
  go_loop [5] (fun vi=> ∃j:Nat,vi= .int .i64 j/\j<=bS p l) (fun vi=>l.length-(intOf vi).toNat)
  case atStart=>exact⟨0,rfl,az _⟩
  case round=>
   obtain⟨j,rfl,hj⟩:=hrel;by_cases hlt:j<l.length
   ·have hjs:j<(ag l).size:=by rw[aL];exact hlt
    have hg:=g8 l j hjs;have hst:=qE p hlt;have hdr:=mg p l j hj;have HCC:=G (HF.out l[j] w);have hlt':(j:Int)<l.length:=by omega
    generalize l[j]'hlt=c at*
    cases hp:p c with
    |true=>
     rw[hp,if_pos rfl]at hst;have HJ:=G (show j+1<=bS p l by omega);rw[hp]at HCC;clear hst hdr hp;go_wp2_with (refine HCC.out.mono ?_;rintro e w' ⟨rfl,rfl⟩)
     go_round
     case rel=>exact⟨j+1,by go_num,HJ.out⟩
     case measure=>simp[intOf];omega
    |false=>
     rw[hp,if_neg (by simp)]at hst;have HJ:=G (show bS p l=j by omega);rw[hp]at HCC;clear hst hdr hp;go_wp2_with (refine HCC.out.mono ?_;rintro e w' ⟨rfl,rfl⟩);go_ret;exact⟨kD (by rw[HJ.out]),rfl⟩
   ·have HJ:=G (show bS p l=j by omega);have hlt': ¬(j:Int)<l.length:=by omega
    go_wp2_with fail;go_ret;exact⟨kD (by rw[HJ.out]),rfl⟩
end
section
open Go.RowKit
theorem xw (l:List UInt8):(o4 l=true/\(l=[118,97,114]\/l=[102,117,110,99]\/l=[105,102]\/l=[101,108,115,101]\/l=[119,104,105,108,101]\/l=[114,101,116,117,114,110]))\/
  (o4 l=false/\(l==[118,97,114])=false/\(l==[102,117,110,99])=false/\(l==[105,102])=false/\(l==[101,108,115,101])=false/\(l==[119,104,105,108,101])=false/\(l==[114,101,116,117,114,110])=false):=by
 cases h:o4 l with
 |true=>
  refine .inl ⟨rfl,?_⟩;unfold o4 zR at h;simpa using h
 |false=>
  refine .inr ⟨rfl,?_⟩;unfold o4 zR at h;simp only[dH,Bool.or_eq_false_iff]at h;exact⟨h.1,h.2.1,h.2.2.1,h.2.2.2.1,h.2.2.2.2.1,h.2.2.2.2.2.1⟩
theorem lF (l:List UInt8) (w:World):Calls prog 109 #[.string (ag l)] w fun e w'=>e= .returned (.bool (o4 l))/\w=w':=by
 rcases xw l with⟨h,rfl|rfl|rfl|rfl|rfl|rfl⟩|⟨h,h1,h2,h3,h4,h5,h6⟩
 all_goals
  have HK:=G h;clear h;go_enter func109,ntmps109;go_wp2_with fail;go_ret;exact⟨bN HK.out.symm,rfl⟩
def vK (ls:List (List UInt8)) (l:List UInt8):Bool:=ls.contains l
structure Ss (w:World) (A:Option Addr) (cap:Nat) (ls:List (List UInt8)):Prop where
 le:ls.length<=cap
 rd:ls=[]\/ ∃b off,A=some ⟨b,off,none⟩/\b<w.heap.size/\ ∀i,(h:i<ls.length)->w.cell? ⟨b,off+i,none⟩=some (.string (ag ls[i]))
theorem zp (A:Option Addr) (cap:Nat) (ls:List (List UInt8)) (l:List UInt8) (w:World) (hs:Ss w A cap ls) (hl:ls.length<=1000):
  Calls prog 157 #[.slice A ls.length cap, .string (ag l)] w fun e w'=>e= .returned (.bool (vK ls l))/\w=w':=by
 have HS:=G hs;clear hs;go_enter func157,ntmps157;go_wp2_with fail
 go_loop [5] (fun vi=> ∃j:Nat,vi= .int .i64 j/\j<=ls.length/\Hid (vK ls l=vK (ls.drop j) l)) (fun vi=>ls.length-(intOf vi).toNat)
 case atStart=>exact⟨0,rfl,az _,G rfl⟩
 case round=>
  obtain⟨j,rfl,hj,HT⟩:=hrel;by_cases hlt:j<ls.length
  ·rcases HS.out.rd with h0|⟨b,off,rfl,hb,hc⟩
   ·rw[h0]at hlt;simp at hlt
   ·have hcj:=hc j hlt;have HD:=G (show vK (ls.drop j) l=(l==ls[j]||vK (ls.drop (j+1)) l) by unfold vK;rw[ay hlt,dH]);generalize ls[j]'hlt=k at*;clear hc;have hlt':(j:Int)<ls.length:=by omega
    cases hk:(l==k)with
    |true=>
     have HE:=G (show vK ls l=true by rw[HT.out,HD.out,hk];rfl);have hk2:(k==l)=true:=by have:=beq_iff_eq.1 hk;subst this;simp
     clear hk;go_wp2_with fail;go_ret;exact⟨bN HE.out.symm,rfl⟩
    |false=>
     have HE:=G (show vK ls l=vK (ls.drop (j+1)) l by rw[HT.out,HD.out,hk];rfl);have hk2:(k==l)=false:=by rw[beq_eq_false_iff_ne]at hk⊢;exact fun e=>hk e.symm
     clear hk;go_wp2_with fail
     go_round
     case rel=>exact⟨j+1,by go_num,by omega,HE⟩
     case measure=>simp[intOf];omega
  ·have hlt': ¬(j:Int)<ls.length:=by omega
   have HE:=G (show vK ls l=false by rw[HT.out,aB (by omega)];rfl);go_wp2_with fail;go_ret;exact⟨bN HE.out.symm,rfl⟩
theorem oz (l:List UInt8) (w:World):Calls prog 123 #[.string (ag l)] w fun e w'=>e= .returned (.bool (o4 l))/\au w w':=by
 have hb: ∀cs:Array Value,aO (w.alloc (.cells cs 9)) w.heap.size 9 cs:=fun cs=>aO.new w 9 cs
 have HS:=G (show Ss (w.alloc (.cells #[.string (ag [118,97,114]), .string (ag [102,117,110,99]), .string (ag [105,102]), .string (ag [101,108,115,101]), .string (ag [119,104,105,108,101]), .string (ag [114,101,116,117,114,110])] 9)) (some ⟨w.heap.size,0,none⟩) 6 zR from
  ⟨by decide, .inr ⟨w.heap.size,0,rfl,by simp,fun i hi=>by
   rw[a8,(hb _).cell];have hi:i<6:=hi;have hc:i=0\/i=1\/i=2\/i=3\/i=4\/i=5:=by omega
   rcases hc with rfl|rfl|rfl|rfl|rfl|rfl<;>rfl⟩⟩)
 have HK:=G (show o4 l=vK zR l from rfl);clear hb;go_enter func123,ntmps123;go_wp2_with fail;refine(zp _ 6 zR l _ HS.out (by decide)).mono ?_;rintro e w' ⟨rfl,rfl⟩;go_wp2_with fail;go_ret;exact⟨bN HK.out.symm,au.alloc w _⟩
end
section
open Go.RowKit
def il:List (UInt8×UInt8):=[(110,10),(116,9),(48,0),(92,92),(39,39),(34,34)]
def gW:List (UInt8×UInt8)->UInt8->Option UInt8
 | [],_=>none
 |x::l,d=>if d=x.1 then some x.2 else gW l d
theorem xF (d:UInt8):jE d=gW il d:=by unfold jE il;simp only[gW]
theorem ii {a b:Int} {c d:Int} (h:a=b) (h2:c=d):Ending.returned (.tuple #[.int .u8 a, .int .i64 c])= .returned (.tuple #[.int .u8 b, .int .i64 d]):=by rw[h,h2]
theorem vS (d:UInt8) (r:List UInt8) (w:World) (hl:r.length<=100000):
  Calls prog 181 #[.string (ag (92::d::r))] w fun e w'=>e= .returned (.tuple #[.int .u8 ((b_ (92::d::r)).1.toNat:Int), .int .i64 ((b_ (92::d::r)).2:Int)])/\au w w':=by
 have hsz:(ag (92::d::r)).size=r.length+2:=by rw[aL];rfl
 have h0:(0:Nat)<(ag (92::d::r)).size:=by rw[hsz];omega
 have h1:(1:Nat)<(ag (92::d::r)).size:=by rw[hsz];omega
 have g0:(ag (92::d::r))[0]=92:=rfl;have g1:(ag (92::d::r))[1]=d:=rfl;have hlp:(1:Int)<(r.length:Int)+2:=by omega
 have HV:=G (xF d);go_enter func181,ntmps181;go_wp2_with fail
 go_loopw [4] (fun vi wr=>((vi= .int .i64 1/\Hid (jE d=gW (il.drop 0) d))\/(vi= .int .i64 3/\Hid (jE d=gW (il.drop 1) d))\/(vi= .int .i64 5/\Hid (jE d=gW (il.drop 2) d))\/(vi= .int .i64 7/\Hid (jE d=gW (il.drop 3) d))\/(vi= .int .i64 9/\Hid (jE d=gW (il.drop 4) d))\/(vi= .int .i64 11/\Hid (jE d=gW (il.drop 5) d))\/(vi= .int .i64 13/\Hid (jE d=gW (il.drop 6) d)))/\Hid (au w wr)) (fun vi _=>14-(intOf vi).toNat)
 case atStart=>exact⟨.inl ⟨rfl,G rfl⟩,G (aH w)⟩
 case round=>
  obtain⟨hv,HX⟩:=hrel;rcases hv with⟨rfl,HT⟩|⟨rfl,HT⟩|⟨rfl,HT⟩|⟨rfl,HT⟩|⟨rfl,HT⟩|⟨rfl,HT⟩|⟨rfl,HT⟩
  ·have k1: ∀h,(⟨#[10,110,9,116,0,48,92,92,39,39,34,34]⟩:ByteArray)[1]'h=110:=fun _=>rfl;have k2: ∀h,(⟨#[10,110,9,116,0,48,92,92,39,39,34,34]⟩:ByteArray)[0]'h=10:=fun _=>rfl;by_cases hd:d=110
   ·subst hd;have HR:=G (show b_ (92::110::r)=(10,2)from rfl);clear HT HV;go_wp2_with fail;refine am 5 1 [] mixed (by kernel_rfl) trivial ?_;repeat (refine sx ?_ (fun w1 hU=> ?_) ?_;rotate_left;(focus clear hU;go_simp<;>with_reducible rfl);simp only[aU,aT,aS,aR,aQ])
    intro w7 hw7 _;simp only[ab,aG];have HK:=G (HX.out.trans hw7.un);clear hw7;go_wp2_with fail;go_ret2;exact⟨ii (by rw[HR.out];rfl) (by rw[HR.out];rfl),HK.out⟩
   ·have hde:((d.toNat:Int)==110)=false:=(cT d 110 (by omega)).trans (beq_eq_false_iff_ne.2 hd);have hde2:((110:Int)==(d.toNat:Int))=false:=by rw[beq_eq_false_iff_ne]at hde⊢;exact fun e=>hde e.symm
    have HN:=G (show jE d=gW (il.drop 1) d by rw[HT.out];unfold il;simp only[ab,ap,gW];rw[if_neg hd]);clear hd;go_wp2_with fail;refine am 5 1 [] mixed (by kernel_rfl) trivial ?_;repeat (refine sx ?_ (fun w1 hU=> ?_) ?_;rotate_left;(focus clear hU;go_simp<;>with_reducible rfl);simp only[aU,aT,aS,aR,aQ])
    intro w7 hw7 _;simp only[ab,aG];have HK:=G (HX.out.trans hw7.un);clear hw7;go_wp2_with fail;go_roundw
    case rel=>exact⟨.inr (.inl ⟨rfl,HN⟩),HK⟩
    case measure=>simp[intOf]
  ·have k1: ∀h,(⟨#[10,110,9,116,0,48,92,92,39,39,34,34]⟩:ByteArray)[3]'h=116:=fun _=>rfl;have k2: ∀h,(⟨#[10,110,9,116,0,48,92,92,39,39,34,34]⟩:ByteArray)[2]'h=9:=fun _=>rfl;by_cases hd:d=116
   ·subst hd;have HR:=G (show b_ (92::116::r)=(9,2)from rfl);clear HT HV;go_wp2_with fail;refine am 5 1 [] mixed (by kernel_rfl) trivial ?_;repeat (refine sx ?_ (fun w1 hU=> ?_) ?_;rotate_left;(focus clear hU;go_simp<;>with_reducible rfl);simp only[aU,aT,aS,aR,aQ])
    intro w7 hw7 _;simp only[ab,aG];have HK:=G (HX.out.trans hw7.un);clear hw7;go_wp2_with fail;go_ret2;exact⟨ii (by rw[HR.out];rfl) (by rw[HR.out];rfl),HK.out⟩
   ·have hde:((d.toNat:Int)==116)=false:=(cT d 116 (by omega)).trans (beq_eq_false_iff_ne.2 hd);have hde2:((116:Int)==(d.toNat:Int))=false:=by rw[beq_eq_false_iff_ne]at hde⊢;exact fun e=>hde e.symm
    have HN:=G (show jE d=gW (il.drop 2) d by rw[HT.out];unfold il;simp only[ab,ap,gW];rw[if_neg hd]);clear hd;go_wp2_with fail;refine am 5 1 [] mixed (by kernel_rfl) trivial ?_;repeat (refine sx ?_ (fun w1 hU=> ?_) ?_;rotate_left;(focus clear hU;go_simp<;>with_reducible rfl);simp only[aU,aT,aS,aR,aQ])
    intro w7 hw7 _;simp only[ab,aG];have HK:=G (HX.out.trans hw7.un);clear hw7;go_wp2_with fail;go_roundw
    case rel=>exact⟨.inr (.inr (.inl ⟨rfl,HN⟩)),HK⟩
    case measure=>simp[intOf]
  ·have k1: ∀h,(⟨#[10,110,9,116,0,48,92,92,39,39,34,34]⟩:ByteArray)[5]'h=48:=fun _=>rfl;have k2: ∀h,(⟨#[10,110,9,116,0,48,92,92,39,39,34,34]⟩:ByteArray)[4]'h=0:=fun _=>rfl;by_cases hd:d=48
   ·subst hd;have HR:=G (show b_ (92::48::r)=(0,2)from rfl);clear HT HV;go_wp2_with fail;refine am 5 1 [] mixed (by kernel_rfl) trivial ?_;repeat (refine sx ?_ (fun w1 hU=> ?_) ?_;rotate_left;(focus clear hU;go_simp<;>with_reducible rfl);simp only[aU,aT,aS,aR,aQ])
    intro w7 hw7 _;simp only[ab,aG];have HK:=G (HX.out.trans hw7.un);clear hw7;go_wp2_with fail;go_ret2;exact⟨ii (by rw[HR.out];rfl) (by rw[HR.out];rfl),HK.out⟩
   ·have hde:((d.toNat:Int)==48)=false:=(cT d 48 (by omega)).trans (beq_eq_false_iff_ne.2 hd);have hde2:((48:Int)==(d.toNat:Int))=false:=by rw[beq_eq_false_iff_ne]at hde⊢;exact fun e=>hde e.symm
    have HN:=G (show jE d=gW (il.drop 3) d by rw[HT.out];unfold il;simp only[ab,ap,gW];rw[if_neg hd]);clear hd;go_wp2_with fail;refine am 5 1 [] mixed (by kernel_rfl) trivial ?_;repeat (refine sx ?_ (fun w1 hU=> ?_) ?_;rotate_left;(focus clear hU;go_simp<;>with_reducible rfl);simp only[aU,aT,aS,aR,aQ])
    intro w7 hw7 _;simp only[ab,aG];have HK:=G (HX.out.trans hw7.un);clear hw7;go_wp2_with fail;go_roundw
    case rel=>exact⟨.inr (.inr (.inr (.inl ⟨rfl,HN⟩))),HK⟩
    case measure=>simp[intOf]
  ·have k1: ∀h,(⟨#[10,110,9,116,0,48,92,92,39,39,34,34]⟩:ByteArray)[7]'h=92:=fun _=>rfl;have k2: ∀h,(⟨#[10,110,9,116,0,48,92,92,39,39,34,34]⟩:ByteArray)[6]'h=92:=fun _=>rfl;by_cases hd:d=92
   ·subst hd;have HR:=G (show b_ (92::92::r)=(92,2)from rfl);clear HT HV;go_wp2_with fail;refine am 5 1 [] mixed (by kernel_rfl) trivial ?_;repeat (refine sx ?_ (fun w1 hU=> ?_) ?_;rotate_left;(focus clear hU;go_simp<;>with_reducible rfl);simp only[aU,aT,aS,aR,aQ])
    intro w7 hw7 _;simp only[ab,aG];have HK:=G (HX.out.trans hw7.un);clear hw7;go_wp2_with fail;go_ret2;exact⟨ii (by rw[HR.out];rfl) (by rw[HR.out];rfl),HK.out⟩
   ·have hde:((d.toNat:Int)==92)=false:=(cT d 92 (by omega)).trans (beq_eq_false_iff_ne.2 hd);have hde2:((92:Int)==(d.toNat:Int))=false:=by rw[beq_eq_false_iff_ne]at hde⊢;exact fun e=>hde e.symm
    have HN:=G (show jE d=gW (il.drop 4) d by rw[HT.out];unfold il;simp only[ab,ap,gW];rw[if_neg hd]);clear hd;go_wp2_with fail;refine am 5 1 [] mixed (by kernel_rfl) trivial ?_;repeat (refine sx ?_ (fun w1 hU=> ?_) ?_;rotate_left;(focus clear hU;go_simp<;>with_reducible rfl);simp only[aU,aT,aS,aR,aQ])
    intro w7 hw7 _;simp only[ab,aG];have HK:=G (HX.out.trans hw7.un);clear hw7;go_wp2_with fail;go_roundw
    case rel=>exact⟨.inr (.inr (.inr (.inr (.inl ⟨rfl,HN⟩)))),HK⟩
    case measure=>simp[intOf]
  ·have k1: ∀h,(⟨#[10,110,9,116,0,48,92,92,39,39,34,34]⟩:ByteArray)[9]'h=39:=fun _=>rfl;have k2: ∀h,(⟨#[10,110,9,116,0,48,92,92,39,39,34,34]⟩:ByteArray)[8]'h=39:=fun _=>rfl;by_cases hd:d=39
   ·subst hd;have HR:=G (show b_ (92::39::r)=(39,2)from rfl);clear HT HV;go_wp2_with fail;refine am 5 1 [] mixed (by kernel_rfl) trivial ?_;repeat (refine sx ?_ (fun w1 hU=> ?_) ?_;rotate_left;(focus clear hU;go_simp<;>with_reducible rfl);simp only[aU,aT,aS,aR,aQ])
    intro w7 hw7 _;simp only[ab,aG];have HK:=G (HX.out.trans hw7.un);clear hw7;go_wp2_with fail;go_ret2;exact⟨ii (by rw[HR.out];rfl) (by rw[HR.out];rfl),HK.out⟩
   ·have hde:((d.toNat:Int)==39)=false:=(cT d 39 (by omega)).trans (beq_eq_false_iff_ne.2 hd);have hde2:((39:Int)==(d.toNat:Int))=false:=by rw[beq_eq_false_iff_ne]at hde⊢;exact fun e=>hde e.symm
    have HN:=G (show jE d=gW (il.drop 5) d by rw[HT.out];unfold il;simp only[ab,ap,gW];rw[if_neg hd]);clear hd;go_wp2_with fail;refine am 5 1 [] mixed (by kernel_rfl) trivial ?_;repeat (refine sx ?_ (fun w1 hU=> ?_) ?_;rotate_left;(focus clear hU;go_simp<;>with_reducible rfl);simp only[aU,aT,aS,aR,aQ])
    intro w7 hw7 _;simp only[ab,aG];have HK:=G (HX.out.trans hw7.un);clear hw7;go_wp2_with fail;go_roundw
    case rel=>exact⟨.inr (.inr (.inr (.inr (.inr (.inl ⟨rfl,HN⟩))))),HK⟩
    case measure=>simp[intOf]
  ·have k1: ∀h,(⟨#[10,110,9,116,0,48,92,92,39,39,34,34]⟩:ByteArray)[11]'h=34:=fun _=>rfl;have k2: ∀h,(⟨#[10,110,9,116,0,48,92,92,39,39,34,34]⟩:ByteArray)[10]'h=34:=fun _=>rfl;by_cases hd:d=34
   ·subst hd;have HR:=G (show b_ (92::34::r)=(34,2)from rfl);clear HT HV;go_wp2_with fail;refine am 5 1 [] mixed (by kernel_rfl) trivial ?_;repeat (refine sx ?_ (fun w1 hU=> ?_) ?_;rotate_left;(focus clear hU;go_simp<;>with_reducible rfl);simp only[aU,aT,aS,aR,aQ])
    intro w7 hw7 _;simp only[ab,aG];have HK:=G (HX.out.trans hw7.un);clear hw7;go_wp2_with fail;go_ret2;exact⟨ii (by rw[HR.out];rfl) (by rw[HR.out];rfl),HK.out⟩
   ·have hde:((d.toNat:Int)==34)=false:=(cT d 34 (by omega)).trans (beq_eq_false_iff_ne.2 hd);have hde2:((34:Int)==(d.toNat:Int))=false:=by rw[beq_eq_false_iff_ne]at hde⊢;exact fun e=>hde e.symm
    have HN:=G (show jE d=gW (il.drop 6) d by rw[HT.out];unfold il;simp only[ab,ap,gW];rw[if_neg hd]);clear hd;go_wp2_with fail;refine am 5 1 [] mixed (by kernel_rfl) trivial ?_;repeat (refine sx ?_ (fun w1 hU=> ?_) ?_;rotate_left;(focus clear hU;go_simp<;>with_reducible rfl);simp only[aU,aT,aS,aR,aQ])
    intro w7 hw7 _;simp only[ab,aG];have HK:=G (HX.out.trans hw7.un);clear hw7;go_wp2_with fail;go_roundw
    case rel=>exact⟨.inr (.inr (.inr (.inr (.inr (.inr (⟨rfl,HN⟩)))))),HK⟩
    case measure=>simp[intOf]
  ·have HR:=G (show b_ (92::d::r)=(0,0) by have h:jE d=none:=HT.out;simp[b_,h]);clear HT HV;go_wp2_with fail;go_ret2;exact⟨ii (by rw[HR.out];rfl) (by rw[HR.out];rfl),HX.out⟩
theorem p8 (l:List UInt8) (w:World) (hl:l.length<=100000):
  Calls prog 181 #[.string (ag l)] w fun e w'=>e= .returned (.tuple #[.int .u8 ((b_ l).1.toNat:Int), .int .i64 ((b_ l).2:Int)])/\au w w':=by
 match l with
 | []=>
  go_enter func181,ntmps181;go_wp2_with fail;go_ret2;exact⟨rfl,aH w⟩
 |c::r=>
  have hsz:(ag (c::r)).size=r.length+1:=by rw[aL];rfl
  have h0:(0:Nat)<(ag (c::r)).size:=by rw[hsz];omega
  have g0:(ag (c::r))[0]=c:=rfl;by_cases h1:c.toNat<32
  ·have HR:=G (show b_ (c::r)=(0,0) by simp[b_,h1]);have h1':(c.toNat:Int)<32:=by omega
   go_enter func181,ntmps181;go_wp2_with fail;go_ret2;exact⟨ii (by rw[HR.out];rfl) (by rw[HR.out];rfl),aH w⟩
  by_cases h2:126<c.toNat
  ·have HR:=G (show b_ (c::r)=(0,0) by simp[b_,h2]);have h1': ¬(c.toNat:Int)<32:=by omega
   have h2':(126:Int)<c.toNat:=by omega
   go_enter func181,ntmps181;go_wp2_with fail;go_ret2;exact⟨ii (by rw[HR.out];rfl) (by rw[HR.out];rfl),aH w⟩
  have h1':decide ((c.toNat:Int)<32)=false:=by simp;omega
  have h2':decide ((126:Int)<c.toNat)=false:=by simp;omega
  by_cases h3:c=92
  ·subst h3
   match r with
   | []=>
    clear h1' h2';go_enter func181,ntmps181;go_wp2_with fail
    go_loopw [4] (fun vi wr=>vi= .int .i64 1/\wr=w) (fun vi _=>0)
    case atStart=>exact⟨rfl,rfl⟩
    case round=>
     obtain⟨rfl,rfl⟩:=hrel;go_wp2_with fail;go_ret2;exact⟨rfl,aH _⟩
   |d::r'=>exact vS d r' w (by simp at hl;omega)
  ·have HR:=G (show b_ (c::r)=(c,1) by simp only[b_];rw[if_neg (by omega),if_pos h3]);have h3':((c.toNat:Int) !=92)=true:=by
    have h4:((c.toNat:Int)==92)=false:=(cT c 92 (by omega)).trans (beq_eq_false_iff_ne.2 h3);rw[bne,h4];rfl
   have h5: ¬(c.toNat:Int)<32:=by omega
   have h6: ¬(126:Int)<c.toNat:=by omega
   clear h3;go_enter func181,ntmps181;go_wp2_with fail;go_ret2;exact⟨ii (by rw[HR.out]) (by rw[HR.out];rfl),aH w⟩
def O:=@au.alloc
def ax:=@aO.new
end
end Go.Proofs.YtddomeddabfinaaGreatDoor
