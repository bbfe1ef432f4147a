/-
  Parts of the proof: Voc LexA LexB LexC.
-/
import Derived.WalkKit
import Derived.WalkSpells
import Derived.WalkLawsBesides
import Derived.Maps.AppendAt
import Derived.OwnWalk
import Derived.Laws.IdiomStrings
import Derived.Laws.MakeOwn
import Derived.Test.YtoedmpgicdekmaaGreatDoorCq01
import Derived.Test.YtoedmpgicdekmaaGreatDoorCq00
set_option maxRecDepth 100000
set_option maxHeartbeats 8000000
set_option linter.unusedVariables false
set_option linter.unusedSimpArgs false
set_option linter.defProp false
set_option linter.unusedSectionVars false
namespace Go.Proofs.YtoedmpgicdekmaaGreatDoor
open Go.Proofs.Tryz
section
open Go.RowKit
theorem au.alloc (w:World) (o:Obj):au w (w.alloc o):=(Below.refl _ _).alloc (ah _) o
theorem au.alloc' {a w:World} (h:au a w) (o:Obj):au a (w.alloc o):=h.trans (au.alloc w o)
theorem au.drew {a w:World} (h:au a w):au a w.drew:=Below.drew h
theorem au.set {a w:World} (h:au a w) {p:Addr} (hp:a.heap.size<=p.block) (u:Value):au a (w.setCell p u):=Below.setCell h hp u
theorem au.grown {a w w':World} {row:Option Nat} (h:au a w) (hg:w.grownBy w' row) (hr: ∀k,row=some k->a.heap.size<=k):au a w':=Below.grown h hg h.size hr
theorem au.cell {w w':World} (h:au w w'): ∀b o,b<w.heap.size->w'.cell? ⟨b,o,none⟩=w.cell? ⟨b,o,none⟩:=fun b o hb=>Below.cell h (p:=⟨b,o,none⟩) hb
theorem G {p:Prop} (h:p):Hid p:=h
def oY (b:UInt8):Value:= .int .u8 (b.toNat:Int)
def gn (l:List UInt8):List Value:=l.map oY
theorem ip (l:List UInt8):(gn l).length=l.length:=by simp[gn]
structure Sl (w:World) (A:Option Addr) (cap:Nat) (l:List UInt8):Prop where
 le:l.length<=cap
 max:cap<=maxLen
 nil:A=none->cap=0
 rd:l=[]\/ ∃b off,A=some ⟨b,off,none⟩/\b<w.heap.size/\ ∀i,(h:i<l.length)->w.cell? ⟨b,off+i,none⟩=some (.int .u8 (l[i].toNat:Int))
theorem Sl.none_ (w:World):Sl w none 0 []:=⟨by simp,by simp[maxLen],fun _=>rfl, .inl rfl⟩
theorem Sl.ext {w w':World} {A:Option Addr} {cap:Nat} {l:List UInt8} (h:Sl w A cap l) (he:au w w'):Sl w' A cap l:=
 ⟨h.le,h.max,h.nil,h.rd.imp id fun⟨b,off,ha,hb,hc⟩=>⟨b,off,ha,aA hb he.size,fun i hi=>(he.cell b _ hb).trans (hc i hi)⟩⟩
def fZ (w:World) (base:Nat) (e:TypeId) (v:Value) (l:List UInt8):Prop:=w.ownsRow base e 1 v l.length (gn l)
theorem fZ.sl {w:World} {base:Nat} {e:TypeId} {A:Option Addr} {n cap:Nat} {l:List UInt8} (h:fZ w base e (.slice A n cap) l):n=l.length/\Sl w A cap l:=by
 obtain⟨h1,h2⟩:=h;rcases h2 with⟨hv,hn⟩|⟨g,c,cur,hv,hb,hg,hnc,hcm,hcs,ht⟩
 ·injection hv with a1 a2 a3;subst a1 a2 a3;have:l=[]:=aS hn;subst this;exact⟨rfl,Sl.none_ w⟩
 ·injection hv with a1 a2 a3;subst a1 a2 a3;refine⟨rfl,hnc,hcm,(fun h=>by cases h), .inr ⟨g,0,rfl,(Array.getElem?_eq_some_iff.1 hg).1,fun i hi=> ?_⟩⟩;rw[be,cell_of_row w g i cur e (0,0) hg];have h3:(gn l)[i]? =some (oY l[i]):=by simp[gn,hi]
  rw[<-ht,bZ]at h3;rw[if_pos (by omega)]at h3;simpa[oY]using h3
structure ks (P:Program) (t e:TypeId):Prop where
 under:P.underlying t=some (.slice e)
 info:(P.info? e).map (fun i=>(i.zero,i.size,i.bytes))=some (some (.int .u8 0),1,1)
section
variable {P:Program} {w:World}
theorem fZ.form {base:Nat} {e:TypeId} {v:Value} {l:List UInt8} (h:fZ w base e v l): ∃A cap,v= .slice A l.length cap:=by
 rcases h.2 with⟨rfl,h0⟩|⟨g,cap,cur,rfl,_⟩
 ·exact⟨none,0,by rw[h0]⟩
 ·exact⟨_,_,rfl⟩
theorem mT {t e:TypeId} (hT:ks P t e) (ty:TypeId) (base:Nat) (v:Value) (l:List UInt8) (hown:fZ w base e v l) (A:Option Addr) (cap:Nat) (m:List UInt8) (hs:Sl w A cap m)
  (hb:l.length+m.length<=70368744177664) (hbase:base<=w.heap.size):
  ∃A' cap' w',(Builtin.append_ #[t,t] ty #[v, .slice A m.length cap]).run P w= .ok (.slice A' (l.length+m.length) cap') w'/\fZ w' base e (.slice A' (l.length+m.length) cap') (l++m)/\w.grownBy w' v.ownBlock/\
   (Value.ownBlock (.slice A' (l.length+m.length) cap')=v.ownBlock\/Value.ownBlock (.slice A' (l.length+m.length) cap')=some w.heap.size):=by
 obtain⟨i,hi,hz,hz1,hz2⟩:=info_parts hT.info;have fin: ∀v' w',(Builtin.append_ #[t,t] ty #[v, .slice A m.length cap]).run P w= .ok v' w'->w'.ownsRow base e 1 v' (l.length+m.length) (gn l++gn m)->w.grownBy w' v.ownBlock->(v'.ownBlock=v.ownBlock\/v'.ownBlock=some w.heap.size)->
   ∃A' cap' w',(Builtin.append_ #[t,t] ty #[v, .slice A m.length cap]).run P w= .ok (.slice A' (l.length+m.length) cap') w'/\fZ w' base e (.slice A' (l.length+m.length) cap') (l++m)/\w.grownBy w' v.ownBlock/\
    (Value.ownBlock (.slice A' (l.length+m.length) cap')=v.ownBlock\/Value.ownBlock (.slice A' (l.length+m.length) cap')=some w.heap.size):=by
  intro v' w' hr ho hg hbk;have ho':fZ w' base e v' (l++m):=by unfold fZ;rw[ab];simpa[gn]using ho
  obtain⟨A',cap',rfl⟩:=ho'.form;rw[ab]at hr ho' hbk;exact⟨A',cap',w',hr,ho',hg,hbk⟩
 have h1: ∀u∈gn m,u.oneCell'=true:=fun u hu=>by
  obtain⟨b,_,rfl⟩:=List.mem_map.1 hu;rfl
 rcases hs.rd with rfl|⟨b,off,rfl,_,hc⟩
 ·rcases A with _|ad
  ·obtain rfl:cap=0:=hs.nil rfl;refine fin v w ?_ (by unfold fZ at hown;simpa[gn]using hown) (World.grownBy.refl w _) (.inl rfl);rcases hown.2 with⟨rfl,hl⟩|⟨g,c,cur,rfl,_,_,hnc,_⟩
   ·have:l=[]:=aS hl;subst this;simp[Builtin.append_,run_underlying hT.under,sizeOf,typeInfo,hi,Builtin.lenOf,Builtin.firstCells]
   ·simp[Builtin.append_,run_underlying hT.under,sizeOf,typeInfo,hi,Builtin.lenOf,Builtin.firstCells,hnc,storeCells]
  ·obtain⟨v',w',hrun,h2,h3,_,h5⟩:=run_append_own_at (P:=P) w base t ty e i (.int .u8 0) 1 1 hT.under hi hz hz1 hz2 rfl (by decide) v l.length (gn l) hown ad 0 cap [] (by simp) (by simp) (by simp) (by simp only[maxLen];simp at hb;omega) (by simp at hb;omega) hbase;exact fin v' w' hrun (by simpa[gn]using h2) h3 h5
 ·obtain⟨v',w',hrun,h2,h3,_,h5⟩:=run_append_own_at (P:=P) w base t ty e i (.int .u8 0) 1 1 hT.under hi hz hz1 hz2 rfl (by decide) v l.length (gn l) hown ⟨b,off,none⟩ m.length cap (gn m) (by simp[gn]) (fun j u hu=>by
    have hj:j<m.length:=by have:=(List.getElem?_eq_some_iff.1 hu).1;simpa[gn]using this
    rw[Addr.add_lit,hc j hj,<-hu]
    simp[gn,oY,hj]) h1 (by simp only[maxLen];omega) (by omega) hbase
  exact fin v' w' hrun h2 h3 h5
theorem dZ {ops:Array Oper} {rest:List Oper} {o:Oper} {a:Act} {Q:Exit->Act->World->Prop} {t e:TypeId} (hT:ks P t e) (hgd:o.guard=none) (s x:Operand)
  (ho:o.op= .call {callee:= .builtin .append,args:= #[s,x],argTypes:= #[t,t]}) (base:Nat) (v:Value) (l:List UInt8) (hv:a.eval s=v) (hown:fZ w base e v l)
  (A:Option Addr) (cap:Nat) (m:List UInt8) (hx:a.eval x= .slice A m.length cap) (hs:Sl w A cap m) (hb:l.length+m.length<=70368744177664) (hbase:base<=w.heap.size)
  (h: ∀A' cap' w',fZ w' base e (.slice A' (l.length+m.length) cap') (l++m)->w.grownBy w' v.ownBlock->
   (Value.ownBlock (.slice A' (l.length+m.length) cap')=v.ownBlock\/Value.ownBlock (.slice A' (l.length+m.length) cap')=some w.heap.size)->wpList P ops Q rest (a.put o.dst (.slice A' (l.length+m.length) cap')) w'):
  wpList P ops Q (o::rest) a w:=by
 obtain⟨A',cap',w',hr,h1,h2,h3⟩:=mT (P:=P) (w:=w) hT o.type base v l hown A cap m hs hb hbase;refine wpList_plain hgd fun K hK=> ?_;unfold Oper.wp execOp;simp only[ho,resolve,invoke,builtin,Sem.run_bind,Sem.run_pure,Result.andThen_ok,cU,bS,db,hv,hx,hr];exact hK _ _ (h A' cap' w' h1 h2 h3)
end
theorem fZ.nil_ (w:World) (base:Nat) (e:TypeId):fZ w base e (.slice none 0 0) []:=World.ownsRow_nil w base e 1
def an (l:List UInt8):ByteArray:=⟨l.toArray⟩
@[simp] theorem Dc (l:List UInt8):(an l).toList=l:=by simp[an]
theorem Sl.convert {P:Program} {src dst e:TypeId} {w:World} {A:Option Addr} {cap:Nat} {l:List UInt8} (hs:P.underlying src=some (.slice e)) (he:P.underlying e=some (.int .u8)) (hd:P.underlying dst=some .string) (h:Sl w A cap l):
  (Go.convert src dst (.slice A l.length cap)).run P w= .ok (.string (an l)) w:=by
 rcases h.rd with rfl|⟨b,off,rfl,_,hc⟩
 ·rw[run_convert_bytes_string w src dst e A _ cap hs he hd]
  cases A<;>simp[Conv.bytesToString,loadCells,loadCellsFrom]<;>rfl
 ·exact run_convert_bytes_back w src dst e ⟨b,off,none⟩ cap l hs he hd (fun j hj=>by rw[Addr.add_lit];exact hc j hj)
theorem fZ.grown {w w':World} {base:Nat} {e:TypeId} {v:Value} {l:List UInt8} {row:Option Nat} (h:fZ w base e v l) (hg:w.grownBy w' row) (hr:v.ownBlock=none\/v.ownBlock≠row):fZ w' base e v l:=World.ownsRow.kept h hg hr
theorem fZ.ext {w w':World} {base:Nat} {e:TypeId} {v:Value} {l:List UInt8} (h:fZ w base e v l) (he:au w w'):fZ w' base e v l:=h.grown (he.grownBy none) (by cases v.ownBlock<;>simp)
def aP (w:World) (g:Nat) (t:TypeId) (cs:Array Value):Prop:=w.heap[g]? =some (.cells cs t (0,0))
section
variable {w w':World} {g:Nat} {t:TypeId} {cs:Array Value}
theorem aP.lt (h:aP w g t cs):g<w.heap.size:=(Array.getElem?_eq_some_iff.1 h).1
theorem aP.cell (h:aP w g t cs) (i:Nat):w.cell? ⟨g,i,none⟩=cs[i]? :=cell_of_row w g i cs t (0,0) h
theorem aP.frozen (h:aP w g t cs) (i:Nat):w.frozen? ⟨g,i,none⟩=false:=by unfold aP at h;simp[World.frozen?,h]
theorem aP.new (w:World) (t:TypeId) (cs:Array Value):aP (w.alloc (.cells cs t)) w.heap.size t cs:=heap_alloc_new w _
theorem aP.drew (h:aP w g t cs):aP w.drew g t cs:=h
theorem aP.alloc (h:aP w g t cs) (o:Obj):aP (w.alloc o) g t cs:=(Below.heap_alloc w o g h.lt).trans h
theorem aP.set (h:aP w g t cs) (i:Nat) (u:Value):aP (w.setCell ⟨g,i,none⟩ u) g t (cs.setIfInBounds i u):=by
 unfold aP at h⊢;simp[World.setCell,Array.getElem?_modify,h]
theorem aP.far (h:aP w g t cs) {p:Addr} (hp:g≠p.block) (u:Value):aP (w.setCell p u) g t cs:=(Below.heap_setCell w p u g hp).trans h
theorem aP.ext (h:aP w g t cs) (he:au w w'):aP w' g t cs:=(he.obj h.lt).trans h
theorem aP.grown {row:Option Nat} (h:aP w g t cs) (hb:w.grownBy w' row) (hg:some g≠row):aP w' g t cs:=(hb.block g h.lt hg).trans h
end
end
section
open Go.RowKit
theorem mixed:prog.follows .mixedOrders=true:=by kernel_rfl
theorem eC {a b:Bool} (h:a=b):Ending.returned (.bool a)= .returned (.bool b):=by rw[h]
theorem lI {k:IntKind} {a b:Int} (h:a=b):Ending.returned (.int k a)= .returned (.int k b):=by rw[h]
theorem El (x y:UInt8):bits .or .u8 (x.toNat:Int) (y.toNat:Int)=((x|||y).toNat:Int):=by
 show IntKind.u8.wrap ((BitVec.ofInt 8 (x.toNat:Int)|||BitVec.ofInt 8 (y.toNat:Int)).toNat:Int)=_;have e: ∀z:UInt8,BitVec.ofInt 8 (z.toNat:Int)=z.toBitVec:=fun z=>by
  rw[BitVec.ofInt_natCast];exact BitVec.eq_of_toNat_eq (by simp)
 rw[e,e,<-UInt8.toBitVec_or];generalize x|||y=z;have hz:=z.toNat_lt;show IntKind.u8.wrap (z.toNat:Int)=(z.toNat:Int);simp only[IntKind.wrap,IntKind.signed,IntKind.bits];simp;omega
theorem lm (c:UInt8) (w:World):Calls prog 108 #[.int .u8 (c.toNat:Int)] w fun e w'=>e= .returned (.bool (kO c))/\w=w':=by
 have h:=El c 32;have e:((32:UInt8).toNat:Int)=32:=rfl;rw[e]at h;have HB:=G (show kO c=decide (97<=(c|||32).toNat/\(c|||32).toNat<=122)from rfl);generalize (c|||32)=q at*;clear e;by_cases h1:97<=q.toNat
 ·by_cases h2:q.toNat<=122
  ·have HC:=G (show kO c=true by rw[HB.out];simp[h1,h2]);have h1':(97:Int)<=q.toNat:=by omega
   have h2':(q.toNat:Int)<=122:=by omega
   go_enter func108,ntmps108;go_wp2;go_ret;exact⟨eC HC.out.symm,rfl⟩
  ·have HC:=G (show kO c=false by rw[HB.out];simp[h1,h2]);have h1':(97:Int)<=q.toNat:=by omega
   have h2': ¬(q.toNat:Int)<=122:=by omega
   go_enter func108,ntmps108;go_wp2;go_ret;exact⟨eC HC.out.symm,rfl⟩
 ·have HC:=G (show kO c=false by rw[HB.out];simp[h1]);have h1': ¬(97:Int)<=q.toNat:=by omega
  go_enter func108,ntmps108;go_wp2;go_ret;exact⟨eC HC.out.symm,rfl⟩
theorem mD (c:UInt8) (w:World):Calls prog 152 #[.int .u8 (c.toNat:Int)] w fun e w'=>e= .returned (.bool (eM c))/\w=w':=by
 have HB:=G (show eM c=decide (48<=c.toNat/\c.toNat<=57)from rfl);by_cases h1:48<=c.toNat
 ·by_cases h2:c.toNat<=57
  ·have HC:=G (show eM c=true by rw[HB.out];simp[h1,h2]);have h1':(48:Int)<=c.toNat:=by omega
   have h2':(c.toNat:Int)<=57:=by omega
   go_enter func152,ntmps152;go_wp2;go_ret;exact⟨eC HC.out.symm,rfl⟩
  ·have HC:=G (show eM c=false by rw[HB.out];simp[h1,h2]);have h1':(48:Int)<=c.toNat:=by omega
   have h2': ¬(c.toNat:Int)<=57:=by omega
   go_enter func152,ntmps152;go_wp2;go_ret;exact⟨eC HC.out.symm,rfl⟩
 ·have HC:=G (show eM c=false by rw[HB.out];simp[h1]);have h1': ¬(48:Int)<=c.toNat:=by omega
  go_enter func152,ntmps152;go_wp2;go_ret;exact⟨eC HC.out.symm,rfl⟩
theorem dP (a:UInt8) (n:Nat) (hn:n<256):((a.toNat:Int)==(n:Int))=(a==UInt8.ofNat n):=by
 by_cases h:a=UInt8.ofNat n
 ·subst h;have:(UInt8.ofNat n).toNat=n:=by rw[dq];omega
  rw[this];simp
 ·have h2:(a.toNat:Int)≠(n:Int):=fun e=>h (UInt8.toNat_inj.1 (by rw[dq];omega));rw[beq_eq_false_iff_ne.2 h,beq_eq_false_iff_ne.2 h2]
theorem lN (c:UInt8) (w:World):Calls prog 107 #[.int .u8 (c.toNat:Int)] w fun e w'=>e= .returned (.bool (eZ c))/\w=w':=by
 have h95:((c.toNat:Int)==95)=(c==95):=dP c 95 (by omega);have HL:=G (lm c w);have HD:=G (mD c w);have HB:=G (show eZ c=(kO c||eM c||c==95)from rfl);generalize kO c=l at*;generalize eM c=d at*;generalize (c==95)=u at*
 cases l<;>cases d<;>cases u;all_goals
  go_enter func107,ntmps107
  go_wp2_with (first
   |(go_at_call 108;refine HL.out.mono ?_;rintro e w' ⟨rfl,rfl⟩)
   |(go_at_call 152;refine HD.out.mono ?_;rintro e w' ⟨rfl,rfl⟩))
  go_ret;exact⟨eC (by rw[HB.out];rfl),rfl⟩
theorem aU (l:List UInt8):(an l).size=l.length:=by
 show l.toArray.size=l.length;simp
theorem lC (l:List UInt8) (j:Nat) (h:j<(an l).size):(an l)[j]=l[j]'(by rw[<-aU];exact h):=rfl
theorem eH (l:List UInt8) (a b:Nat):(an l).extract a b=an ((l.take b).drop a):=by
 apply kS;rw[ByteArray.data_extract];apply jo;show(l.toArray.extract a b).toList=((l.take b).drop a);rw[Array.toList_extract,List.drop_take]
theorem rQ (p:UInt8->Bool) (fn:Nat) (hfn: ∀(c:UInt8) (w:World),Calls prog fn #[.int .u8 (c.toNat:Int)] w fun e w'=>e= .returned (.bool (p c))/\w=w') (hf:fn=107\/fn=152) (l:List UInt8) (hl:l.length<=100000) (w:World):
  Calls prog 200 #[.string (an l), .func (.func fn) #[] #[]] w fun e w'=>e= .returned (.int .i64 (cu p l))/\w=w':=by
 have HF:=G hfn;have hsz:=aU l;have hm:=ig p l;clear hfn;rcases hf with rfl|rfl;all_goals
  go_enter func200,ntmps200;go_wp2_with fail
  go_loop [5] (fun vi=> ∃j:Nat,vi= .int .i64 j/\j<=cu p l) (fun vi=>l.length-(intOf vi).toNat)
  case atStart=>exact⟨0,rfl,aC _⟩
  case round=>
   obtain⟨j,rfl,hj⟩:=hrel;by_cases hlt:j<l.length
   ·have hjs:j<(an l).size:=by rw[aU];exact hlt
    have hg:=lC l j hjs;have hst:=tP p hlt;have hdr:=nU p l j hj;have HCC:=G (HF.out l[j] w);have hlt':(j:Int)<l.length:=by omega
    generalize l[j]'hlt=c at*
    cases hp:p c with
    |true=>
     rw[hp,if_pos rfl]at hst;have HJ:=G (show j+1<=cu p l by omega);rw[hp]at HCC;clear hst hdr hp;go_wp2_with (refine HCC.out.mono ?_;rintro e w' ⟨rfl,rfl⟩)
     go_round
     case rel=>exact⟨j+1,by go_num,HJ.out⟩
     case measure=>simp[intOf];omega
    |false=>
     rw[hp,if_neg (by simp)]at hst;have HJ:=G (show cu p l=j by omega);rw[hp]at HCC;clear hst hdr hp;go_wp2_with (refine HCC.out.mono ?_;rintro e w' ⟨rfl,rfl⟩);go_ret;exact⟨lI (by rw[HJ.out]),rfl⟩
   ·have HJ:=G (show cu p l=j by omega);have hlt': ¬(j:Int)<l.length:=by omega
    go_wp2_with fail;go_ret;exact⟨lI (by rw[HJ.out]),rfl⟩
end
section
open Go.RowKit
theorem BE (l:List UInt8):(wI l=true/\(l=[118,97,114]\/l=[102,117,110,99]\/l=[105,102]\/l=[101,108,115,101]\/l=[119,104,105,108,101]\/l=[114,101,116,117,114,110]))\/
  (wI l=false/\(l==[118,97,114])=false/\(l==[102,117,110,99])=false/\(l==[105,102])=false/\(l==[101,108,115,101])=false/\(l==[119,104,105,108,101])=false/\(l==[114,101,116,117,114,110])=false):=by
 cases h:wI l with
 |true=>
  refine .inl ⟨rfl,?_⟩;unfold wI Ge at h;simpa using h
 |false=>
  refine .inr ⟨rfl,?_⟩;unfold wI Ge at h;simp only[fS,Bool.or_eq_false_iff]at h;exact⟨h.1,h.2.1,h.2.2.1,h.2.2.2.1,h.2.2.2.2.1,h.2.2.2.2.2.1⟩
theorem mX (l:List UInt8) (w:World):Calls prog 109 #[.string (an l)] w fun e w'=>e= .returned (.bool (wI l))/\w=w':=by
 rcases BE l with⟨h,rfl|rfl|rfl|rfl|rfl|rfl⟩|⟨h,h1,h2,h3,h4,h5,h6⟩
 all_goals
  have HK:=G h;clear h;go_enter func109,ntmps109;go_wp2_with fail;go_ret;exact⟨eC HK.out.symm,rfl⟩
end
section
open Go.RowKit
def iP:List (UInt8×UInt8):=[(110,10),(116,9),(48,0),(92,92),(39,39),(34,34)]
def iA:List (UInt8×UInt8)->UInt8->Option UInt8
 | [],_=>none
 |x::l,d=>if d=x.1 then some x.2 else iA l d
theorem BP (d:UInt8):kj d=iA iP d:=by unfold kj iP;simp only[iA]
theorem iN {a b:Int} {c d:Int} (h:a=b) (h2:c=d):Ending.returned (.tuple #[.int .u8 a, .int .i64 c])= .returned (.tuple #[.int .u8 b, .int .i64 d]):=by rw[h,h2]
theorem zA (d:UInt8) (r:List UInt8) (w:World) (hl:r.length<=100000):
  Calls prog 202 #[.string (an (92::d::r))] w fun e w'=>e= .returned (.tuple #[.int .u8 ((cH (92::d::r)).1.toNat:Int), .int .i64 ((cH (92::d::r)).2:Int)])/\au w w':=by
 have hsz:(an (92::d::r)).size=r.length+2:=by rw[aU];rfl
 have h0:(0:Nat)<(an (92::d::r)).size:=by rw[hsz];omega
 have h1:(1:Nat)<(an (92::d::r)).size:=by rw[hsz];omega
 have g0:(an (92::d::r))[0]=92:=rfl;have g1:(an (92::d::r))[1]=d:=rfl;have hlp:(1:Int)<(r.length:Int)+2:=by omega
 have HV:=G (BP d);go_enter func202,ntmps202;go_wp2_with fail
 go_loopw [4] (fun vi wr=>((vi= .int .i64 1/\Hid (kj d=iA (iP.drop 0) d))\/(vi= .int .i64 3/\Hid (kj d=iA (iP.drop 1) d))\/(vi= .int .i64 5/\Hid (kj d=iA (iP.drop 2) d))\/(vi= .int .i64 7/\Hid (kj d=iA (iP.drop 3) d))\/(vi= .int .i64 9/\Hid (kj d=iA (iP.drop 4) d))\/(vi= .int .i64 11/\Hid (kj d=iA (iP.drop 5) d))\/(vi= .int .i64 13/\Hid (kj d=iA (iP.drop 6) d)))/\Hid (au w wr)) (fun vi _=>14-(intOf vi).toNat)
 case atStart=>exact⟨.inl ⟨rfl,G rfl⟩,G (aG w)⟩
 case round=>
  obtain⟨hv,HX⟩:=hrel;rcases hv with⟨rfl,HT⟩|⟨rfl,HT⟩|⟨rfl,HT⟩|⟨rfl,HT⟩|⟨rfl,HT⟩|⟨rfl,HT⟩|⟨rfl,HT⟩
  ·have k1: ∀h,(⟨#[10,110,9,116,0,48,92,92,39,39,34,34]⟩:ByteArray)[1]'h=110:=fun _=>rfl;have k2: ∀h,(⟨#[10,110,9,116,0,48,92,92,39,39,34,34]⟩:ByteArray)[0]'h=10:=fun _=>rfl;by_cases hd:d=110
   ·subst hd;have HR:=G (show cH (92::110::r)=(10,2)from rfl);clear HT HV;go_wp2_with fail;refine ay 5 1 [] mixed (by kernel_rfl) trivial ?_;repeat (refine sx ?_ (fun w1 hU=> ?_) ?_;rotate_left;(focus clear hU;go_simp<;>with_reducible rfl);simp only[bH,bG,bF,bE,bD])
    intro w7 hw7 _;simp only[ac,aO];have HK:=G (HX.out.trans hw7.un);clear hw7;go_wp2_with fail;go_ret2;exact⟨iN (by rw[HR.out];rfl) (by rw[HR.out];rfl),HK.out⟩
   ·have hde:((d.toNat:Int)==110)=false:=(dP d 110 (by omega)).trans (beq_eq_false_iff_ne.2 hd);have hde2:((110:Int)==(d.toNat:Int))=false:=by rw[beq_eq_false_iff_ne]at hde⊢;exact fun e=>hde e.symm
    have HN:=G (show kj d=iA (iP.drop 1) d by rw[HT.out];unfold iP;simp only[ac,aq,iA];rw[if_neg hd]);clear hd;go_wp2_with fail;refine ay 5 1 [] mixed (by kernel_rfl) trivial ?_;repeat (refine sx ?_ (fun w1 hU=> ?_) ?_;rotate_left;(focus clear hU;go_simp<;>with_reducible rfl);simp only[bH,bG,bF,bE,bD])
    intro w7 hw7 _;simp only[ac,aO];have HK:=G (HX.out.trans hw7.un);clear hw7;go_wp2_with fail;go_roundw
    case rel=>exact⟨.inr (.inl ⟨rfl,HN⟩),HK⟩
    case measure=>simp[intOf]
  ·have k1: ∀h,(⟨#[10,110,9,116,0,48,92,92,39,39,34,34]⟩:ByteArray)[3]'h=116:=fun _=>rfl;have k2: ∀h,(⟨#[10,110,9,116,0,48,92,92,39,39,34,34]⟩:ByteArray)[2]'h=9:=fun _=>rfl;by_cases hd:d=116
   ·subst hd;have HR:=G (show cH (92::116::r)=(9,2)from rfl);clear HT HV;go_wp2_with fail;refine ay 5 1 [] mixed (by kernel_rfl) trivial ?_;repeat (refine sx ?_ (fun w1 hU=> ?_) ?_;rotate_left;(focus clear hU;go_simp<;>with_reducible rfl);simp only[bH,bG,bF,bE,bD])
    intro w7 hw7 _;simp only[ac,aO];have HK:=G (HX.out.trans hw7.un);clear hw7;go_wp2_with fail;go_ret2;exact⟨iN (by rw[HR.out];rfl) (by rw[HR.out];rfl),HK.out⟩
   ·have hde:((d.toNat:Int)==116)=false:=(dP d 116 (by omega)).trans (beq_eq_false_iff_ne.2 hd);have hde2:((116:Int)==(d.toNat:Int))=false:=by rw[beq_eq_false_iff_ne]at hde⊢;exact fun e=>hde e.symm
    have HN:=G (show kj d=iA (iP.drop 2) d by rw[HT.out];unfold iP;simp only[ac,aq,iA];rw[if_neg hd]);clear hd;go_wp2_with fail;refine ay 5 1 [] mixed (by kernel_rfl) trivial ?_;repeat (refine sx ?_ (fun w1 hU=> ?_) ?_;rotate_left;(focus clear hU;go_simp<;>with_reducible rfl);simp only[bH,bG,bF,bE,bD])
    intro w7 hw7 _;simp only[ac,aO];have HK:=G (HX.out.trans hw7.un);clear hw7;go_wp2_with fail;go_roundw
    case rel=>exact⟨.inr (.inr (.inl ⟨rfl,HN⟩)),HK⟩
    case measure=>simp[intOf]
  ·have k1: ∀h,(⟨#[10,110,9,116,0,48,92,92,39,39,34,34]⟩:ByteArray)[5]'h=48:=fun _=>rfl;have k2: ∀h,(⟨#[10,110,9,116,0,48,92,92,39,39,34,34]⟩:ByteArray)[4]'h=0:=fun _=>rfl;by_cases hd:d=48
   ·subst hd;have HR:=G (show cH (92::48::r)=(0,2)from rfl);clear HT HV;go_wp2_with fail;refine ay 5 1 [] mixed (by kernel_rfl) trivial ?_;repeat (refine sx ?_ (fun w1 hU=> ?_) ?_;rotate_left;(focus clear hU;go_simp<;>with_reducible rfl);simp only[bH,bG,bF,bE,bD])
    intro w7 hw7 _;simp only[ac,aO];have HK:=G (HX.out.trans hw7.un);clear hw7;go_wp2_with fail;go_ret2;exact⟨iN (by rw[HR.out];rfl) (by rw[HR.out];rfl),HK.out⟩
   ·have hde:((d.toNat:Int)==48)=false:=(dP d 48 (by omega)).trans (beq_eq_false_iff_ne.2 hd);have hde2:((48:Int)==(d.toNat:Int))=false:=by rw[beq_eq_false_iff_ne]at hde⊢;exact fun e=>hde e.symm
    have HN:=G (show kj d=iA (iP.drop 3) d by rw[HT.out];unfold iP;simp only[ac,aq,iA];rw[if_neg hd]);clear hd;go_wp2_with fail;refine ay 5 1 [] mixed (by kernel_rfl) trivial ?_;repeat (refine sx ?_ (fun w1 hU=> ?_) ?_;rotate_left;(focus clear hU;go_simp<;>with_reducible rfl);simp only[bH,bG,bF,bE,bD])
    intro w7 hw7 _;simp only[ac,aO];have HK:=G (HX.out.trans hw7.un);clear hw7;go_wp2_with fail;go_roundw
    case rel=>exact⟨.inr (.inr (.inr (.inl ⟨rfl,HN⟩))),HK⟩
    case measure=>simp[intOf]
  ·have k1: ∀h,(⟨#[10,110,9,116,0,48,92,92,39,39,34,34]⟩:ByteArray)[7]'h=92:=fun _=>rfl;have k2: ∀h,(⟨#[10,110,9,116,0,48,92,92,39,39,34,34]⟩:ByteArray)[6]'h=92:=fun _=>rfl;by_cases hd:d=92
   ·subst hd;have HR:=G (show cH (92::92::r)=(92,2)from rfl);clear HT HV;go_wp2_with fail;refine ay 5 1 [] mixed (by kernel_rfl) trivial ?_;repeat (refine sx ?_ (fun w1 hU=> ?_) ?_;rotate_left;(focus clear hU;go_simp<;>with_reducible rfl);simp only[bH,bG,bF,bE,bD])
    intro w7 hw7 _;simp only[ac,aO];have HK:=G (HX.out.trans hw7.un);clear hw7;go_wp2_with fail;go_ret2;exact⟨iN (by rw[HR.out];rfl) (by rw[HR.out];rfl),HK.out⟩
   ·have hde:((d.toNat:Int)==92)=false:=(dP d 92 (by omega)).trans (beq_eq_false_iff_ne.2 hd);have hde2:((92:Int)==(d.toNat:Int))=false:=by rw[beq_eq_false_iff_ne]at hde⊢;exact fun e=>hde e.symm
    have HN:=G (show kj d=iA (iP.drop 4) d by rw[HT.out];unfold iP;simp only[ac,aq,iA];rw[if_neg hd]);clear hd;go_wp2_with fail;refine ay 5 1 [] mixed (by kernel_rfl) trivial ?_;repeat (refine sx ?_ (fun w1 hU=> ?_) ?_;rotate_left;(focus clear hU;go_simp<;>with_reducible rfl);simp only[bH,bG,bF,bE,bD])
    intro w7 hw7 _;simp only[ac,aO];have HK:=G (HX.out.trans hw7.un);clear hw7;go_wp2_with fail;go_roundw
    case rel=>exact⟨.inr (.inr (.inr (.inr (.inl ⟨rfl,HN⟩)))),HK⟩
    case measure=>simp[intOf]
  ·have k1: ∀h,(⟨#[10,110,9,116,0,48,92,92,39,39,34,34]⟩:ByteArray)[9]'h=39:=fun _=>rfl;have k2: ∀h,(⟨#[10,110,9,116,0,48,92,92,39,39,34,34]⟩:ByteArray)[8]'h=39:=fun _=>rfl;by_cases hd:d=39
   ·subst hd;have HR:=G (show cH (92::39::r)=(39,2)from rfl);clear HT HV;go_wp2_with fail;refine ay 5 1 [] mixed (by kernel_rfl) trivial ?_;repeat (refine sx ?_ (fun w1 hU=> ?_) ?_;rotate_left;(focus clear hU;go_simp<;>with_reducible rfl);simp only[bH,bG,bF,bE,bD])
    intro w7 hw7 _;simp only[ac,aO];have HK:=G (HX.out.trans hw7.un);clear hw7;go_wp2_with fail;go_ret2;exact⟨iN (by rw[HR.out];rfl) (by rw[HR.out];rfl),HK.out⟩
   ·have hde:((d.toNat:Int)==39)=false:=(dP d 39 (by omega)).trans (beq_eq_false_iff_ne.2 hd);have hde2:((39:Int)==(d.toNat:Int))=false:=by rw[beq_eq_false_iff_ne]at hde⊢;exact fun e=>hde e.symm
    have HN:=G (show kj d=iA (iP.drop 5) d by rw[HT.out];unfold iP;simp only[ac,aq,iA];rw[if_neg hd]);clear hd;go_wp2_with fail;refine ay 5 1 [] mixed (by kernel_rfl) trivial ?_;repeat (refine sx ?_ (fun w1 hU=> ?_) ?_;rotate_left;(focus clear hU;go_simp<;>with_reducible rfl);simp only[bH,bG,bF,bE,bD])
    intro w7 hw7 _;simp only[ac,aO];have HK:=G (HX.out.trans hw7.un);clear hw7;go_wp2_with fail;go_roundw
    case rel=>exact⟨.inr (.inr (.inr (.inr (.inr (.inl ⟨rfl,HN⟩))))),HK⟩
    case measure=>simp[intOf]
  ·have k1: ∀h,(⟨#[10,110,9,116,0,48,92,92,39,39,34,34]⟩:ByteArray)[11]'h=34:=fun _=>rfl;have k2: ∀h,(⟨#[10,110,9,116,0,48,92,92,39,39,34,34]⟩:ByteArray)[10]'h=34:=fun _=>rfl;by_cases hd:d=34
   ·subst hd;have HR:=G (show cH (92::34::r)=(34,2)from rfl);clear HT HV;go_wp2_with fail;refine ay 5 1 [] mixed (by kernel_rfl) trivial ?_;repeat (refine sx ?_ (fun w1 hU=> ?_) ?_;rotate_left;(focus clear hU;go_simp<;>with_reducible rfl);simp only[bH,bG,bF,bE,bD])
    intro w7 hw7 _;simp only[ac,aO];have HK:=G (HX.out.trans hw7.un);clear hw7;go_wp2_with fail;go_ret2;exact⟨iN (by rw[HR.out];rfl) (by rw[HR.out];rfl),HK.out⟩
   ·have hde:((d.toNat:Int)==34)=false:=(dP d 34 (by omega)).trans (beq_eq_false_iff_ne.2 hd);have hde2:((34:Int)==(d.toNat:Int))=false:=by rw[beq_eq_false_iff_ne]at hde⊢;exact fun e=>hde e.symm
    have HN:=G (show kj d=iA (iP.drop 6) d by rw[HT.out];unfold iP;simp only[ac,aq,iA];rw[if_neg hd]);clear hd;go_wp2_with fail;refine ay 5 1 [] mixed (by kernel_rfl) trivial ?_;repeat (refine sx ?_ (fun w1 hU=> ?_) ?_;rotate_left;(focus clear hU;go_simp<;>with_reducible rfl);simp only[bH,bG,bF,bE,bD])
    intro w7 hw7 _;simp only[ac,aO];have HK:=G (HX.out.trans hw7.un);clear hw7;go_wp2_with fail;go_roundw
    case rel=>exact⟨.inr (.inr (.inr (.inr (.inr (.inr (⟨rfl,HN⟩)))))),HK⟩
    case measure=>simp[intOf]
  ·have HR:=G (show cH (92::d::r)=(0,0) by have h:kj d=none:=HT.out;simp[cH,h]);clear HT HV;go_wp2_with fail;go_ret2;exact⟨iN (by rw[HR.out];rfl) (by rw[HR.out];rfl),HX.out⟩
theorem sI (l:List UInt8) (w:World) (hl:l.length<=100000):
  Calls prog 202 #[.string (an l)] w fun e w'=>e= .returned (.tuple #[.int .u8 ((cH l).1.toNat:Int), .int .i64 ((cH l).2:Int)])/\au w w':=by
 match l with
 | []=>
  go_enter func202,ntmps202;go_wp2_with fail;go_ret2;exact⟨rfl,aG w⟩
 |c::r=>
  have hsz:(an (c::r)).size=r.length+1:=by rw[aU];rfl
  have h0:(0:Nat)<(an (c::r)).size:=by rw[hsz];omega
  have g0:(an (c::r))[0]=c:=rfl;by_cases h1:c.toNat<32
  ·have HR:=G (show cH (c::r)=(0,0) by simp[cH,h1]);have h1':(c.toNat:Int)<32:=by omega
   go_enter func202,ntmps202;go_wp2_with fail;go_ret2;exact⟨iN (by rw[HR.out];rfl) (by rw[HR.out];rfl),aG w⟩
  by_cases h2:126<c.toNat
  ·have HR:=G (show cH (c::r)=(0,0) by simp[cH,h2]);have h1': ¬(c.toNat:Int)<32:=by omega
   have h2':(126:Int)<c.toNat:=by omega
   go_enter func202,ntmps202;go_wp2_with fail;go_ret2;exact⟨iN (by rw[HR.out];rfl) (by rw[HR.out];rfl),aG w⟩
  have h1':decide ((c.toNat:Int)<32)=false:=by simp;omega
  have h2':decide ((126:Int)<c.toNat)=false:=by simp;omega
  by_cases h3:c=92
  ·subst h3
   match r with
   | []=>
    clear h1' h2';go_enter func202,ntmps202;go_wp2_with fail
    go_loopw [4] (fun vi wr=>vi= .int .i64 1/\wr=w) (fun vi _=>0)
    case atStart=>exact⟨rfl,rfl⟩
    case round=>
     obtain⟨rfl,rfl⟩:=hrel;go_wp2_with fail;go_ret2;exact⟨rfl,aG _⟩
   |d::r'=>exact zA d r' w (by simp at hl;omega)
  ·have HR:=G (show cH (c::r)=(c,1) by simp only[cH];rw[if_neg (by omega),if_pos h3]);have h3':((c.toNat:Int) !=92)=true:=by
    have h4:((c.toNat:Int)==92)=false:=(dP c 92 (by omega)).trans (beq_eq_false_iff_ne.2 h3);rw[bne,h4];rfl
   have h5: ¬(c.toNat:Int)<32:=by omega
   have h6: ¬(126:Int)<c.toNat:=by omega
   clear h3;go_enter func202,ntmps202;go_wp2_with fail;go_ret2;exact⟨iN (by rw[HR.out]) (by rw[HR.out];rfl),aG w⟩
def aa:=@au.alloc
def aw:=@aP.new
def d7:=@Sl.none_
def d9:=@au.drew
def kt:=@aP.drew
def oX:=@aP.lt
end
end Go.Proofs.YtoedmpgicdekmaaGreatDoor
