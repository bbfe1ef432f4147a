/-
  Parts of the proof: Voc LexA LexB LexC.
-/
import Derived.WalkKit
import Derived.WalkSpells
import Derived.WalkLawsBesides
import Derived.Maps.AppendAt
import Derived.OwnWalk
import Derived.Laws.IdiomStrings
import Derived.Laws.MakeOwn
import Derived.Test.YtddomeddabfinaaGreatDoorTz01
import Derived.Test.YtddomeddabfinaaGreatDoorTz00
set_option maxRecDepth 100000
set_option maxHeartbeats 8000000
set_option linter.unusedVariables false
set_option linter.unusedSimpArgs false
set_option linter.defProp false
set_option linter.unusedSectionVars false
namespace Go.Proofs.YtddomeddabfinaaGreatDoor
open Go.Proofs.Tryz
section
open Go.RowKit
theorem aq.alloc (w:World) (o:Obj):aq w (w.alloc o):=(Below.refl _ _).alloc (ah _) o
theorem aq.alloc' {a w:World} (h:aq a w) (o:Obj):aq a (w.alloc o):=h.trans (aq.alloc w o)
theorem aq.drew {a w:World} (h:aq a w):aq a w.drew:=Below.drew h
theorem aq.set {a w:World} (h:aq a w) {p:Addr} (hp:a.heap.size<=p.block) (u:Value):aq a (w.setCell p u):=Below.setCell h hp u
theorem aq.grown {a w w':World} {row:Option Nat} (h:aq a w) (hg:w.grownBy w' row) (hr: ∀k,row=some k->a.heap.size<=k):aq a w':=Below.grown h hg h.size hr
theorem aq.cell {w w':World} (h:aq w w'): ∀b o,b<w.heap.size->w'.cell? ⟨b,o,none⟩=w.cell? ⟨b,o,none⟩:=fun b o hb=>Below.cell h (p:=⟨b,o,none⟩) hb
theorem G {p:Prop} (h:p):Hid p:=h
def r9 (b:UInt8):Value:= .int .u8 (b.toNat:Int)
def kr (l:List UInt8):List Value:=l.map r9
theorem ox (l:List UInt8):(kr l).length=l.length:=by simp[kr]
structure Sl (w:World) (A:Option Addr) (cap:Nat) (l:List UInt8):Prop where
 le:l.length<=cap
 max:cap<=maxLen
 nil:A=none->cap=0
 rd:l=[]\/ ∃b off,A=some ⟨b,off,none⟩/\b<w.heap.size/\ ∀i,(h:i<l.length)->w.cell? ⟨b,off+i,none⟩=some (.int .u8 (l[i].toNat:Int))
theorem Sl.none_ (w:World):Sl w none 0 []:=⟨by simp,by simp[maxLen],fun _=>rfl, .inl rfl⟩
theorem Sl.ext {w w':World} {A:Option Addr} {cap:Nat} {l:List UInt8} (h:Sl w A cap l) (he:aq w w'):Sl w' A cap l:=
 ⟨h.le,h.max,h.nil,h.rd.imp id fun⟨b,off,ha,hb,hc⟩=>⟨b,off,ha,aA hb he.size,fun i hi=>(he.cell b _ hb).trans (hc i hi)⟩⟩
def oH (w:World) (base:Nat) (e:TypeId) (v:Value) (l:List UInt8):Prop:=w.ownsRow base e 1 v l.length (kr l)
theorem oH.sl {w:World} {base:Nat} {e:TypeId} {A:Option Addr} {n cap:Nat} {l:List UInt8} (h:oH w base e (.slice A n cap) l):n=l.length/\Sl w A cap l:=by
 obtain⟨h1,h2⟩:=h;rcases h2 with⟨hv,hn⟩|⟨g,c,cur,hv,hb,hg,hnc,hcm,hcs,ht⟩
 ·injection hv with a1 a2 a3;subst a1 a2 a3;have:l=[]:=aJ hn;subst this;exact⟨rfl,Sl.none_ w⟩
 ·injection hv with a1 a2 a3;subst a1 a2 a3;refine⟨rfl,hnc,hcm,(fun h=>by cases h), .inr ⟨g,0,rfl,(Array.getElem?_eq_some_iff.1 hg).1,fun i hi=> ?_⟩⟩;rw[aD,cell_of_row w g i cur e (0,0) hg];have h3:(kr l)[i]? =some (r9 l[i]):=by simp[kr,hi]
  rw[<-ht,cH]at h3;rw[if_pos (by omega)]at h3;simpa[r9]using h3
structure oK (P:Program) (t e:TypeId):Prop where
 under:P.underlying t=some (.slice e)
 info:(P.info? e).map (fun i=>(i.zero,i.size,i.bytes))=some (some (.int .u8 0),1,1)
section
variable {P:Program} {w:World}
theorem oH.form {base:Nat} {e:TypeId} {v:Value} {l:List UInt8} (h:oH w base e v l): ∃A cap,v= .slice A l.length cap:=by
 rcases h.2 with⟨rfl,h0⟩|⟨g,cap,cur,rfl,_⟩
 ·exact⟨none,0,by rw[h0]⟩
 ·exact⟨_,_,rfl⟩
theorem mQ {t e:TypeId} (hT:oK P t e) (ty:TypeId) (base:Nat) (v:Value) (l:List UInt8) (hown:oH w base e v l) (A:Option Addr) (cap:Nat) (m:List UInt8) (hs:Sl w A cap m)
  (hb:l.length+m.length<=70368744177664) (hbase:base<=w.heap.size):
  ∃A' cap' w',(Builtin.append_ #[t,t] ty #[v, .slice A m.length cap]).run P w= .ok (.slice A' (l.length+m.length) cap') w'/\oH w' base e (.slice A' (l.length+m.length) cap') (l++m)/\w.grownBy w' v.ownBlock/\
   (Value.ownBlock (.slice A' (l.length+m.length) cap')=v.ownBlock\/Value.ownBlock (.slice A' (l.length+m.length) cap')=some w.heap.size):=by
 obtain⟨i,hi,hz,hz1,hz2⟩:=info_parts hT.info;have fin: ∀v' w',(Builtin.append_ #[t,t] ty #[v, .slice A m.length cap]).run P w= .ok v' w'->w'.ownsRow base e 1 v' (l.length+m.length) (kr l++kr m)->w.grownBy w' v.ownBlock->(v'.ownBlock=v.ownBlock\/v'.ownBlock=some w.heap.size)->
   ∃A' cap' w',(Builtin.append_ #[t,t] ty #[v, .slice A m.length cap]).run P w= .ok (.slice A' (l.length+m.length) cap') w'/\oH w' base e (.slice A' (l.length+m.length) cap') (l++m)/\w.grownBy w' v.ownBlock/\
    (Value.ownBlock (.slice A' (l.length+m.length) cap')=v.ownBlock\/Value.ownBlock (.slice A' (l.length+m.length) cap')=some w.heap.size):=by
  intro v' w' hr ho hg hbk;have ho':oH w' base e v' (l++m):=by unfold oH;rw[aa];simpa[kr]using ho
  obtain⟨A',cap',rfl⟩:=ho'.form;rw[aa]at hr ho' hbk;exact⟨A',cap',w',hr,ho',hg,hbk⟩
 have h1: ∀u∈kr m,u.oneCell'=true:=fun u hu=>by
  obtain⟨b,_,rfl⟩:=List.mem_map.1 hu;rfl
 rcases hs.rd with rfl|⟨b,off,rfl,_,hc⟩
 ·rcases A with _|ad
  ·obtain rfl:cap=0:=hs.nil rfl;refine fin v w ?_ (by unfold oH at hown;simpa[kr]using hown) (World.grownBy.refl w _) (.inl rfl);rcases hown.2 with⟨rfl,hl⟩|⟨g,c,cur,rfl,_,_,hnc,_⟩
   ·have:l=[]:=aJ hl;subst this;simp[Builtin.append_,run_underlying hT.under,sizeOf,typeInfo,hi,Builtin.lenOf,Builtin.firstCells]
   ·simp[Builtin.append_,run_underlying hT.under,sizeOf,typeInfo,hi,Builtin.lenOf,Builtin.firstCells,hnc,storeCells]
  ·obtain⟨v',w',hrun,h2,h3,_,h5⟩:=run_append_own_at (P:=P) w base t ty e i (.int .u8 0) 1 1 hT.under hi hz hz1 hz2 rfl (by decide) v l.length (kr l) hown ad 0 cap [] (by simp) (by simp) (by simp) (by simp only[maxLen];simp at hb;omega) (by simp at hb;omega) hbase;exact fin v' w' hrun (by simpa[kr]using h2) h3 h5
 ·obtain⟨v',w',hrun,h2,h3,_,h5⟩:=run_append_own_at (P:=P) w base t ty e i (.int .u8 0) 1 1 hT.under hi hz hz1 hz2 rfl (by decide) v l.length (kr l) hown ⟨b,off,none⟩ m.length cap (kr m) (by simp[kr]) (fun j u hu=>by
    have hj:j<m.length:=by have:=(List.getElem?_eq_some_iff.1 hu).1;simpa[kr]using this
    rw[Addr.add_lit,hc j hj,<-hu]
    simp[kr,r9,hj]) h1 (by simp only[maxLen];omega) (by omega) hbase
  exact fin v' w' hrun h2 h3 h5
theorem nD {ops:Array Oper} {rest:List Oper} {o:Oper} {a:Act} {Q:Exit->Act->World->Prop} {t e:TypeId} (hT:oK P t e) (hgd:o.guard=none) (s x:Operand)
  (ho:o.op= .call {callee:= .builtin .append,args:= #[s,x],argTypes:= #[t,t]}) (base:Nat) (v:Value) (l:List UInt8) (hv:a.eval s=v) (hown:oH w base e v l)
  (A:Option Addr) (cap:Nat) (m:List UInt8) (hx:a.eval x= .slice A m.length cap) (hs:Sl w A cap m) (hb:l.length+m.length<=70368744177664) (hbase:base<=w.heap.size)
  (h: ∀A' cap' w',oH w' base e (.slice A' (l.length+m.length) cap') (l++m)->w.grownBy w' v.ownBlock->
   (Value.ownBlock (.slice A' (l.length+m.length) cap')=v.ownBlock\/Value.ownBlock (.slice A' (l.length+m.length) cap')=some w.heap.size)->wpList P ops Q rest (a.put o.dst (.slice A' (l.length+m.length) cap')) w'):
  wpList P ops Q (o::rest) a w:=by
 obtain⟨A',cap',w',hr,h1,h2,h3⟩:=mQ (P:=P) (w:=w) hT o.type base v l hown A cap m hs hb hbase;refine wpList_plain hgd fun K hK=> ?_;unfold Oper.wp execOp;simp only[ho,resolve,invoke,builtin,Sem.run_bind,Sem.run_pure,Result.andThen_ok,dM,bY,d5,hv,hx,hr];exact hK _ _ (h A' cap' w' h1 h2 h3)
end
theorem oH.nil_ (w:World) (base:Nat) (e:TypeId):oH w base e (.slice none 0 0) []:=World.ownsRow_nil w base e 1
def ai (l:List UInt8):ByteArray:=⟨l.toArray⟩
@[simp] theorem BA (l:List UInt8):(ai l).toList=l:=by simp[ai]
theorem Sl.convert {P:Program} {src dst e:TypeId} {w:World} {A:Option Addr} {cap:Nat} {l:List UInt8} (hs:P.underlying src=some (.slice e)) (he:P.underlying e=some (.int .u8)) (hd:P.underlying dst=some .string) (h:Sl w A cap l):
  (Go.convert src dst (.slice A l.length cap)).run P w= .ok (.string (ai l)) w:=by
 rcases h.rd with rfl|⟨b,off,rfl,_,hc⟩
 ·rw[run_convert_bytes_string w src dst e A _ cap hs he hd]
  cases A<;>simp[Conv.bytesToString,loadCells,loadCellsFrom]<;>rfl
 ·exact run_convert_bytes_back w src dst e ⟨b,off,none⟩ cap l hs he hd (fun j hj=>by rw[Addr.add_lit];exact hc j hj)
theorem oH.grown {w w':World} {base:Nat} {e:TypeId} {v:Value} {l:List UInt8} {row:Option Nat} (h:oH w base e v l) (hg:w.grownBy w' row) (hr:v.ownBlock=none\/v.ownBlock≠row):oH w' base e v l:=World.ownsRow.kept h hg hr
theorem oH.ext {w w':World} {base:Nat} {e:TypeId} {v:Value} {l:List UInt8} (h:oH w base e v l) (he:aq w w'):oH w' base e v l:=h.grown (he.grownBy none) (by cases v.ownBlock<;>simp)
def aL (w:World) (g:Nat) (t:TypeId) (cs:Array Value):Prop:=w.heap[g]? =some (.cells cs t (0,0))
section
variable {w w':World} {g:Nat} {t:TypeId} {cs:Array Value}
theorem aL.lt (h:aL w g t cs):g<w.heap.size:=(Array.getElem?_eq_some_iff.1 h).1
theorem aL.cell (h:aL w g t cs) (i:Nat):w.cell? ⟨g,i,none⟩=cs[i]? :=cell_of_row w g i cs t (0,0) h
theorem aL.frozen (h:aL w g t cs) (i:Nat):w.frozen? ⟨g,i,none⟩=false:=by unfold aL at h;simp[World.frozen?,h]
theorem aL.new (w:World) (t:TypeId) (cs:Array Value):aL (w.alloc (.cells cs t)) w.heap.size t cs:=heap_alloc_new w _
theorem aL.drew (h:aL w g t cs):aL w.drew g t cs:=h
theorem aL.alloc (h:aL w g t cs) (o:Obj):aL (w.alloc o) g t cs:=(Below.heap_alloc w o g h.lt).trans h
theorem aL.set (h:aL w g t cs) (i:Nat) (u:Value):aL (w.setCell ⟨g,i,none⟩ u) g t (cs.setIfInBounds i u):=by
 unfold aL at h⊢;simp[World.setCell,Array.getElem?_modify,h]
theorem aL.far (h:aL w g t cs) {p:Addr} (hp:g≠p.block) (u:Value):aL (w.setCell p u) g t cs:=(Below.heap_setCell w p u g hp).trans h
theorem aL.ext (h:aL w g t cs) (he:aq w w'):aL w' g t cs:=(he.obj h.lt).trans h
theorem aL.grown {row:Option Nat} (h:aL w g t cs) (hb:w.grownBy w' row) (hg:some g≠row):aL w' g t cs:=(hb.block g h.lt hg).trans h
end
end
section
open Go.RowKit
theorem mixed:prog.follows .mixedOrders=true:=by kernel_rfl
theorem eA {a b:Bool} (h:a=b):Ending.returned (.bool a)= .returned (.bool b):=by rw[h]
theorem lN {k:IntKind} {a b:Int} (h:a=b):Ending.returned (.int k a)= .returned (.int k b):=by rw[h]
theorem CS (x y:UInt8):bits .or .u8 (x.toNat:Int) (y.toNat:Int)=((x|||y).toNat:Int):=by
 show IntKind.u8.wrap ((BitVec.ofInt 8 (x.toNat:Int)|||BitVec.ofInt 8 (y.toNat:Int)).toNat:Int)=_;have e: ∀z:UInt8,BitVec.ofInt 8 (z.toNat:Int)=z.toBitVec:=fun z=>by
  rw[BitVec.ofInt_natCast];exact BitVec.eq_of_toNat_eq (by simp)
 rw[e,e,<-UInt8.toBitVec_or];generalize x|||y=z;have hz:=z.toNat_lt;show IntKind.u8.wrap (z.toNat:Int)=(z.toNat:Int);simp only[IntKind.wrap,IntKind.signed,IntKind.bits];simp;omega
theorem lq (c:UInt8) (w:World):Calls prog 108 #[.int .u8 (c.toNat:Int)] w fun e w'=>e= .returned (.bool (kN c))/\w=w':=by
 have h:=CS c 32;have e:((32:UInt8).toNat:Int)=32:=rfl;rw[e]at h;have HB:=G (show kN c=decide (97<=(c|||32).toNat/\(c|||32).toNat<=122)from rfl);generalize (c|||32)=q at*;clear e;by_cases h1:97<=q.toNat
 ·by_cases h2:q.toNat<=122
  ·have HC:=G (show kN c=true by rw[HB.out];simp[h1,h2]);have h1':(97:Int)<=q.toNat:=by omega
   have h2':(q.toNat:Int)<=122:=by omega
   go_enter func108,ntmps108;go_wp2;go_ret;exact⟨eA HC.out.symm,rfl⟩
  ·have HC:=G (show kN c=false by rw[HB.out];simp[h1,h2]);have h1':(97:Int)<=q.toNat:=by omega
   have h2': ¬(q.toNat:Int)<=122:=by omega
   go_enter func108,ntmps108;go_wp2;go_ret;exact⟨eA HC.out.symm,rfl⟩
 ·have HC:=G (show kN c=false by rw[HB.out];simp[h1]);have h1': ¬(97:Int)<=q.toNat:=by omega
  go_enter func108,ntmps108;go_wp2;go_ret;exact⟨eA HC.out.symm,rfl⟩
theorem mH (c:UInt8) (w:World):Calls prog 140 #[.int .u8 (c.toNat:Int)] w fun e w'=>e= .returned (.bool (eJ c))/\w=w':=by
 have HB:=G (show eJ c=decide (48<=c.toNat/\c.toNat<=57)from rfl);by_cases h1:48<=c.toNat
 ·by_cases h2:c.toNat<=57
  ·have HC:=G (show eJ c=true by rw[HB.out];simp[h1,h2]);have h1':(48:Int)<=c.toNat:=by omega
   have h2':(c.toNat:Int)<=57:=by omega
   go_enter func140,ntmps140;go_wp2;go_ret;exact⟨eA HC.out.symm,rfl⟩
  ·have HC:=G (show eJ c=false by rw[HB.out];simp[h1,h2]);have h1':(48:Int)<=c.toNat:=by omega
   have h2': ¬(c.toNat:Int)<=57:=by omega
   go_enter func140,ntmps140;go_wp2;go_ret;exact⟨eA HC.out.symm,rfl⟩
 ·have HC:=G (show eJ c=false by rw[HB.out];simp[h1]);have h1': ¬(48:Int)<=c.toNat:=by omega
  go_enter func140,ntmps140;go_wp2;go_ret;exact⟨eA HC.out.symm,rfl⟩
theorem dH (a:UInt8) (n:Nat) (hn:n<256):((a.toNat:Int)==(n:Int))=(a==UInt8.ofNat n):=by
 by_cases h:a=UInt8.ofNat n
 ·subst h;have:(UInt8.ofNat n).toNat=n:=by rw[gU];omega
  rw[this];simp
 ·have h2:(a.toNat:Int)≠(n:Int):=fun e=>h (UInt8.toNat_inj.1 (by rw[gU];omega));rw[beq_eq_false_iff_ne.2 h,beq_eq_false_iff_ne.2 h2]
theorem lP (c:UInt8) (w:World):Calls prog 107 #[.int .u8 (c.toNat:Int)] w fun e w'=>e= .returned (.bool (eT c))/\w=w':=by
 have h95:((c.toNat:Int)==95)=(c==95):=dH c 95 (by omega);have HL:=G (lq c w);have HD:=G (mH c w);have HB:=G (show eT c=(kN c||eJ c||c==95)from rfl);generalize kN c=l at*;generalize eJ c=d at*;generalize (c==95)=u at*
 cases l<;>cases d<;>cases u;all_goals
  go_enter func107,ntmps107
  go_wp2_with (first
   |(go_at_call 108;refine HL.out.mono ?_;rintro e w' ⟨rfl,rfl⟩)
   |(go_at_call 140;refine HD.out.mono ?_;rintro e w' ⟨rfl,rfl⟩))
  go_ret;exact⟨eA (by rw[HB.out];rfl),rfl⟩
theorem a7 (l:List UInt8):(ai l).size=l.length:=by
 show l.toArray.size=l.length;simp
theorem lH (l:List UInt8) (j:Nat) (h:j<(ai l).size):(ai l)[j]=l[j]'(by rw[<-a7];exact h):=rfl
theorem eE (l:List UInt8) (a b:Nat):(ai l).extract a b=ai ((l.take b).drop a):=by
 apply kT;rw[ByteArray.data_extract];apply jl;show(l.toArray.extract a b).toList=((l.take b).drop a);rw[Array.toList_extract,List.drop_take]
theorem qM (p:UInt8->Bool) (fn:Nat) (hfn: ∀(c:UInt8) (w:World),Calls prog fn #[.int .u8 (c.toNat:Int)] w fun e w'=>e= .returned (.bool (p c))/\w=w') (hf:fn=107\/fn=140) (l:List UInt8) (hl:l.length<=100000) (w:World):
  Calls prog 179 #[.string (ai l), .func (.func fn) #[] #[]] w fun e w'=>e= .returned (.int .i64 (bZ p l))/\w=w':=by
 have HF:=G hfn;have hsz:=a7 l;have hm:=gY p l;clear hfn;rcases hf with rfl|rfl;all_goals
  go_enter func179,ntmps179;go_wp2_with fail
  go_loop [5] (fun vi=> ∃j:Nat,vi= .int .i64 j/\j<=bZ p l) (fun vi=>l.length-(intOf vi).toNat)
  case atStart=>exact⟨0,rfl,aG _⟩
  case round=>
   obtain⟨j,rfl,hj⟩:=hrel;by_cases hlt:j<l.length
   ·have hjs:j<(ai l).size:=by rw[a7];exact hlt
    have hg:=lH l j hjs;have hst:=sw p hlt;have hdr:=nO p l j hj;have HCC:=G (HF.out l[j] w);have hlt':(j:Int)<l.length:=by omega
    generalize l[j]'hlt=c at*
    cases hp:p c with
    |true=>
     rw[hp,if_pos rfl]at hst;have HJ:=G (show j+1<=bZ p l by omega);rw[hp]at HCC;clear hst hdr hp;go_wp2_with (refine HCC.out.mono ?_;rintro e w' ⟨rfl,rfl⟩)
     go_round
     case rel=>exact⟨j+1,by go_num,HJ.out⟩
     case measure=>simp[intOf];omega
    |false=>
     rw[hp,if_neg (by simp)]at hst;have HJ:=G (show bZ p l=j by omega);rw[hp]at HCC;clear hst hdr hp;go_wp2_with (refine HCC.out.mono ?_;rintro e w' ⟨rfl,rfl⟩);go_ret;exact⟨lN (by rw[HJ.out]),rfl⟩
   ·have HJ:=G (show bZ p l=j by omega);have hlt': ¬(j:Int)<l.length:=by omega
    go_wp2_with fail;go_ret;exact⟨lN (by rw[HJ.out]),rfl⟩
end
section
open Go.RowKit
theorem Ak (l:List UInt8):(vF l=true/\(l=[118,97,114]\/l=[102,117,110,99]\/l=[105,102]\/l=[101,108,115,101]\/l=[119,104,105,108,101]\/l=[114,101,116,117,114,110]))\/
  (vF l=false/\(l==[118,97,114])=false/\(l==[102,117,110,99])=false/\(l==[105,102])=false/\(l==[101,108,115,101])=false/\(l==[119,104,105,108,101])=false/\(l==[114,101,116,117,114,110])=false):=by
 cases h:vF l with
 |true=>
  refine .inl ⟨rfl,?_⟩;unfold vF Ed at h;simpa using h
 |false=>
  refine .inr ⟨rfl,?_⟩;unfold vF Ed at h;simp only[fK,Bool.or_eq_false_iff]at h;exact⟨h.1,h.2.1,h.2.2.1,h.2.2.2.1,h.2.2.2.2.1,h.2.2.2.2.2.1⟩
theorem mU (l:List UInt8) (w:World):Calls prog 109 #[.string (ai l)] w fun e w'=>e= .returned (.bool (vF l))/\w=w':=by
 rcases Ak l with⟨h,rfl|rfl|rfl|rfl|rfl|rfl⟩|⟨h,h1,h2,h3,h4,h5,h6⟩
 all_goals
  have HK:=G h;clear h;go_enter func109,ntmps109;go_wp2_with fail;go_ret;exact⟨eA HK.out.symm,rfl⟩
end
section
open Go.RowKit
def iT:List (UInt8×UInt8):=[(110,10),(116,9),(48,0),(92,92),(39,39),(34,34)]
def im:List (UInt8×UInt8)->UInt8->Option UInt8
 | [],_=>none
 |x::l,d=>if d=x.1 then some x.2 else im l d
theorem Aw (d:UInt8):kj d=im iT d:=by unfold kj iT;simp only[im]
theorem iQ {a b:Int} {c d:Int} (h:a=b) (h2:c=d):Ending.returned (.tuple #[.int .u8 a, .int .i64 c])= .returned (.tuple #[.int .u8 b, .int .i64 d]):=by rw[h,h2]
theorem yk (d:UInt8) (r:List UInt8) (w:World) (hl:r.length<=100000):
  Calls prog 181 #[.string (ai (92::d::r))] w fun e w'=>e= .returned (.tuple #[.int .u8 ((cj (92::d::r)).1.toNat:Int), .int .i64 ((cj (92::d::r)).2:Int)])/\aq w w':=by
 have hsz:(ai (92::d::r)).size=r.length+2:=by rw[a7];rfl
 have h0:(0:Nat)<(ai (92::d::r)).size:=by rw[hsz];omega
 have h1:(1:Nat)<(ai (92::d::r)).size:=by rw[hsz];omega
 have g0:(ai (92::d::r))[0]=92:=rfl;have g1:(ai (92::d::r))[1]=d:=rfl;have hlp:(1:Int)<(r.length:Int)+2:=by omega
 have HV:=G (Aw d);go_enter func181,ntmps181;go_wp2_with fail
 go_loopw [4] (fun vi wr=>((vi= .int .i64 1/\Hid (kj d=im (iT.drop 0) d))\/(vi= .int .i64 3/\Hid (kj d=im (iT.drop 1) d))\/(vi= .int .i64 5/\Hid (kj d=im (iT.drop 2) d))\/(vi= .int .i64 7/\Hid (kj d=im (iT.drop 3) d))\/(vi= .int .i64 9/\Hid (kj d=im (iT.drop 4) d))\/(vi= .int .i64 11/\Hid (kj d=im (iT.drop 5) d))\/(vi= .int .i64 13/\Hid (kj d=im (iT.drop 6) d)))/\Hid (aq w wr)) (fun vi _=>14-(intOf vi).toNat)
 case atStart=>exact⟨.inl ⟨rfl,G rfl⟩,G (aR w)⟩
 case round=>
  obtain⟨hv,HX⟩:=hrel;rcases hv with⟨rfl,HT⟩|⟨rfl,HT⟩|⟨rfl,HT⟩|⟨rfl,HT⟩|⟨rfl,HT⟩|⟨rfl,HT⟩|⟨rfl,HT⟩
  ·have k1: ∀h,(⟨#[10,110,9,116,0,48,92,92,39,39,34,34]⟩:ByteArray)[1]'h=110:=fun _=>rfl;have k2: ∀h,(⟨#[10,110,9,116,0,48,92,92,39,39,34,34]⟩:ByteArray)[0]'h=10:=fun _=>rfl;by_cases hd:d=110
   ·subst hd;have HR:=G (show cj (92::110::r)=(10,2)from rfl);clear HT HV;go_wp2_with fail;refine az 5 1 [] mixed (by kernel_rfl) trivial ?_;repeat (refine sx ?_ (fun w1 hU=> ?_) ?_;rotate_left;(focus clear hU;go_simp<;>with_reducible rfl);simp only[aY,aX,aW,aV,aU])
    intro w7 hw7 _;simp only[ac,aM];have HK:=G (HX.out.trans hw7.un);clear hw7;go_wp2_with fail;go_ret2;exact⟨iQ (by rw[HR.out];rfl) (by rw[HR.out];rfl),HK.out⟩
   ·have hde:((d.toNat:Int)==110)=false:=(dH d 110 (by omega)).trans (beq_eq_false_iff_ne.2 hd);have hde2:((110:Int)==(d.toNat:Int))=false:=by rw[beq_eq_false_iff_ne]at hde⊢;exact fun e=>hde e.symm
    have HN:=G (show kj d=im (iT.drop 1) d by rw[HT.out];unfold iT;simp only[ac,ap,im];rw[if_neg hd]);clear hd;go_wp2_with fail;refine az 5 1 [] mixed (by kernel_rfl) trivial ?_;repeat (refine sx ?_ (fun w1 hU=> ?_) ?_;rotate_left;(focus clear hU;go_simp<;>with_reducible rfl);simp only[aY,aX,aW,aV,aU])
    intro w7 hw7 _;simp only[ac,aM];have HK:=G (HX.out.trans hw7.un);clear hw7;go_wp2_with fail;go_roundw
    case rel=>exact⟨.inr (.inl ⟨rfl,HN⟩),HK⟩
    case measure=>simp[intOf]
  ·have k1: ∀h,(⟨#[10,110,9,116,0,48,92,92,39,39,34,34]⟩:ByteArray)[3]'h=116:=fun _=>rfl;have k2: ∀h,(⟨#[10,110,9,116,0,48,92,92,39,39,34,34]⟩:ByteArray)[2]'h=9:=fun _=>rfl;by_cases hd:d=116
   ·subst hd;have HR:=G (show cj (92::116::r)=(9,2)from rfl);clear HT HV;go_wp2_with fail;refine az 5 1 [] mixed (by kernel_rfl) trivial ?_;repeat (refine sx ?_ (fun w1 hU=> ?_) ?_;rotate_left;(focus clear hU;go_simp<;>with_reducible rfl);simp only[aY,aX,aW,aV,aU])
    intro w7 hw7 _;simp only[ac,aM];have HK:=G (HX.out.trans hw7.un);clear hw7;go_wp2_with fail;go_ret2;exact⟨iQ (by rw[HR.out];rfl) (by rw[HR.out];rfl),HK.out⟩
   ·have hde:((d.toNat:Int)==116)=false:=(dH d 116 (by omega)).trans (beq_eq_false_iff_ne.2 hd);have hde2:((116:Int)==(d.toNat:Int))=false:=by rw[beq_eq_false_iff_ne]at hde⊢;exact fun e=>hde e.symm
    have HN:=G (show kj d=im (iT.drop 2) d by rw[HT.out];unfold iT;simp only[ac,ap,im];rw[if_neg hd]);clear hd;go_wp2_with fail;refine az 5 1 [] mixed (by kernel_rfl) trivial ?_;repeat (refine sx ?_ (fun w1 hU=> ?_) ?_;rotate_left;(focus clear hU;go_simp<;>with_reducible rfl);simp only[aY,aX,aW,aV,aU])
    intro w7 hw7 _;simp only[ac,aM];have HK:=G (HX.out.trans hw7.un);clear hw7;go_wp2_with fail;go_roundw
    case rel=>exact⟨.inr (.inr (.inl ⟨rfl,HN⟩)),HK⟩
    case measure=>simp[intOf]
  ·have k1: ∀h,(⟨#[10,110,9,116,0,48,92,92,39,39,34,34]⟩:ByteArray)[5]'h=48:=fun _=>rfl;have k2: ∀h,(⟨#[10,110,9,116,0,48,92,92,39,39,34,34]⟩:ByteArray)[4]'h=0:=fun _=>rfl;by_cases hd:d=48
   ·subst hd;have HR:=G (show cj (92::48::r)=(0,2)from rfl);clear HT HV;go_wp2_with fail;refine az 5 1 [] mixed (by kernel_rfl) trivial ?_;repeat (refine sx ?_ (fun w1 hU=> ?_) ?_;rotate_left;(focus clear hU;go_simp<;>with_reducible rfl);simp only[aY,aX,aW,aV,aU])
    intro w7 hw7 _;simp only[ac,aM];have HK:=G (HX.out.trans hw7.un);clear hw7;go_wp2_with fail;go_ret2;exact⟨iQ (by rw[HR.out];rfl) (by rw[HR.out];rfl),HK.out⟩
   ·have hde:((d.toNat:Int)==48)=false:=(dH d 48 (by omega)).trans (beq_eq_false_iff_ne.2 hd);have hde2:((48:Int)==(d.toNat:Int))=false:=by rw[beq_eq_false_iff_ne]at hde⊢;exact fun e=>hde e.symm
    have HN:=G (show kj d=im (iT.drop 3) d by rw[HT.out];unfold iT;simp only[ac,ap,im];rw[if_neg hd]);clear hd;go_wp2_with fail;refine az 5 1 [] mixed (by kernel_rfl) trivial ?_;repeat (refine sx ?_ (fun w1 hU=> ?_) ?_;rotate_left;(focus clear hU;go_simp<;>with_reducible rfl);simp only[aY,aX,aW,aV,aU])
    intro w7 hw7 _;simp only[ac,aM];have HK:=G (HX.out.trans hw7.un);clear hw7;go_wp2_with fail;go_roundw
    case rel=>exact⟨.inr (.inr (.inr (.inl ⟨rfl,HN⟩))),HK⟩
    case measure=>simp[intOf]
  ·have k1: ∀h,(⟨#[10,110,9,116,0,48,92,92,39,39,34,34]⟩:ByteArray)[7]'h=92:=fun _=>rfl;have k2: ∀h,(⟨#[10,110,9,116,0,48,92,92,39,39,34,34]⟩:ByteArray)[6]'h=92:=fun _=>rfl;by_cases hd:d=92
   ·subst hd;have HR:=G (show cj (92::92::r)=(92,2)from rfl);clear HT HV;go_wp2_with fail;refine az 5 1 [] mixed (by kernel_rfl) trivial ?_;repeat (refine sx ?_ (fun w1 hU=> ?_) ?_;rotate_left;(focus clear hU;go_simp<;>with_reducible rfl);simp only[aY,aX,aW,aV,aU])
    intro w7 hw7 _;simp only[ac,aM];have HK:=G (HX.out.trans hw7.un);clear hw7;go_wp2_with fail;go_ret2;exact⟨iQ (by rw[HR.out];rfl) (by rw[HR.out];rfl),HK.out⟩
   ·have hde:((d.toNat:Int)==92)=false:=(dH d 92 (by omega)).trans (beq_eq_false_iff_ne.2 hd);have hde2:((92:Int)==(d.toNat:Int))=false:=by rw[beq_eq_false_iff_ne]at hde⊢;exact fun e=>hde e.symm
    have HN:=G (show kj d=im (iT.drop 4) d by rw[HT.out];unfold iT;simp only[ac,ap,im];rw[if_neg hd]);clear hd;go_wp2_with fail;refine az 5 1 [] mixed (by kernel_rfl) trivial ?_;repeat (refine sx ?_ (fun w1 hU=> ?_) ?_;rotate_left;(focus clear hU;go_simp<;>with_reducible rfl);simp only[aY,aX,aW,aV,aU])
    intro w7 hw7 _;simp only[ac,aM];have HK:=G (HX.out.trans hw7.un);clear hw7;go_wp2_with fail;go_roundw
    case rel=>exact⟨.inr (.inr (.inr (.inr (.inl ⟨rfl,HN⟩)))),HK⟩
    case measure=>simp[intOf]
  ·have k1: ∀h,(⟨#[10,110,9,116,0,48,92,92,39,39,34,34]⟩:ByteArray)[9]'h=39:=fun _=>rfl;have k2: ∀h,(⟨#[10,110,9,116,0,48,92,92,39,39,34,34]⟩:ByteArray)[8]'h=39:=fun _=>rfl;by_cases hd:d=39
   ·subst hd;have HR:=G (show cj (92::39::r)=(39,2)from rfl);clear HT HV;go_wp2_with fail;refine az 5 1 [] mixed (by kernel_rfl) trivial ?_;repeat (refine sx ?_ (fun w1 hU=> ?_) ?_;rotate_left;(focus clear hU;go_simp<;>with_reducible rfl);simp only[aY,aX,aW,aV,aU])
    intro w7 hw7 _;simp only[ac,aM];have HK:=G (HX.out.trans hw7.un);clear hw7;go_wp2_with fail;go_ret2;exact⟨iQ (by rw[HR.out];rfl) (by rw[HR.out];rfl),HK.out⟩
   ·have hde:((d.toNat:Int)==39)=false:=(dH d 39 (by omega)).trans (beq_eq_false_iff_ne.2 hd);have hde2:((39:Int)==(d.toNat:Int))=false:=by rw[beq_eq_false_iff_ne]at hde⊢;exact fun e=>hde e.symm
    have HN:=G (show kj d=im (iT.drop 5) d by rw[HT.out];unfold iT;simp only[ac,ap,im];rw[if_neg hd]);clear hd;go_wp2_with fail;refine az 5 1 [] mixed (by kernel_rfl) trivial ?_;repeat (refine sx ?_ (fun w1 hU=> ?_) ?_;rotate_left;(focus clear hU;go_simp<;>with_reducible rfl);simp only[aY,aX,aW,aV,aU])
    intro w7 hw7 _;simp only[ac,aM];have HK:=G (HX.out.trans hw7.un);clear hw7;go_wp2_with fail;go_roundw
    case rel=>exact⟨.inr (.inr (.inr (.inr (.inr (.inl ⟨rfl,HN⟩))))),HK⟩
    case measure=>simp[intOf]
  ·have k1: ∀h,(⟨#[10,110,9,116,0,48,92,92,39,39,34,34]⟩:ByteArray)[11]'h=34:=fun _=>rfl;have k2: ∀h,(⟨#[10,110,9,116,0,48,92,92,39,39,34,34]⟩:ByteArray)[10]'h=34:=fun _=>rfl;by_cases hd:d=34
   ·subst hd;have HR:=G (show cj (92::34::r)=(34,2)from rfl);clear HT HV;go_wp2_with fail;refine az 5 1 [] mixed (by kernel_rfl) trivial ?_;repeat (refine sx ?_ (fun w1 hU=> ?_) ?_;rotate_left;(focus clear hU;go_simp<;>with_reducible rfl);simp only[aY,aX,aW,aV,aU])
    intro w7 hw7 _;simp only[ac,aM];have HK:=G (HX.out.trans hw7.un);clear hw7;go_wp2_with fail;go_ret2;exact⟨iQ (by rw[HR.out];rfl) (by rw[HR.out];rfl),HK.out⟩
   ·have hde:((d.toNat:Int)==34)=false:=(dH d 34 (by omega)).trans (beq_eq_false_iff_ne.2 hd);have hde2:((34:Int)==(d.toNat:Int))=false:=by rw[beq_eq_false_iff_ne]at hde⊢;exact fun e=>hde e.symm
    have HN:=G (show kj d=im (iT.drop 6) d by rw[HT.out];unfold iT;simp only[ac,ap,im];rw[if_neg hd]);clear hd;go_wp2_with fail;refine az 5 1 [] mixed (by kernel_rfl) trivial ?_;repeat (refine sx ?_ (fun w1 hU=> ?_) ?_;rotate_left;(focus clear hU;go_simp<;>with_reducible rfl);simp only[aY,aX,aW,aV,aU])
    intro w7 hw7 _;simp only[ac,aM];have HK:=G (HX.out.trans hw7.un);clear hw7;go_wp2_with fail;go_roundw
    case rel=>exact⟨.inr (.inr (.inr (.inr (.inr (.inr (⟨rfl,HN⟩)))))),HK⟩
    case measure=>simp[intOf]
  ·have HR:=G (show cj (92::d::r)=(0,0) by have h:kj d=none:=HT.out;simp[cj,h]);clear HT HV;go_wp2_with fail;go_ret2;exact⟨iQ (by rw[HR.out];rfl) (by rw[HR.out];rfl),HX.out⟩
theorem rC (l:List UInt8) (w:World) (hl:l.length<=100000):
  Calls prog 181 #[.string (ai l)] w fun e w'=>e= .returned (.tuple #[.int .u8 ((cj l).1.toNat:Int), .int .i64 ((cj l).2:Int)])/\aq w w':=by
 match l with
 | []=>
  go_enter func181,ntmps181;go_wp2_with fail;go_ret2;exact⟨rfl,aR w⟩
 |c::r=>
  have hsz:(ai (c::r)).size=r.length+1:=by rw[a7];rfl
  have h0:(0:Nat)<(ai (c::r)).size:=by rw[hsz];omega
  have g0:(ai (c::r))[0]=c:=rfl;by_cases h1:c.toNat<32
  ·have HR:=G (show cj (c::r)=(0,0) by simp[cj,h1]);have h1':(c.toNat:Int)<32:=by omega
   go_enter func181,ntmps181;go_wp2_with fail;go_ret2;exact⟨iQ (by rw[HR.out];rfl) (by rw[HR.out];rfl),aR w⟩
  by_cases h2:126<c.toNat
  ·have HR:=G (show cj (c::r)=(0,0) by simp[cj,h2]);have h1': ¬(c.toNat:Int)<32:=by omega
   have h2':(126:Int)<c.toNat:=by omega
   go_enter func181,ntmps181;go_wp2_with fail;go_ret2;exact⟨iQ (by rw[HR.out];rfl) (by rw[HR.out];rfl),aR w⟩
  have h1':decide ((c.toNat:Int)<32)=false:=by simp;omega
  have h2':decide ((126:Int)<c.toNat)=false:=by simp;omega
  by_cases h3:c=92
  ·subst h3
   match r with
   | []=>
    clear h1' h2';go_enter func181,ntmps181;go_wp2_with fail
    go_loopw [4] (fun vi wr=>vi= .int .i64 1/\wr=w) (fun vi _=>0)
    case atStart=>exact⟨rfl,rfl⟩
    case round=>
     obtain⟨rfl,rfl⟩:=hrel;go_wp2_with fail;go_ret2;exact⟨rfl,aR _⟩
   |d::r'=>exact yk d r' w (by simp at hl;omega)
  ·have HR:=G (show cj (c::r)=(c,1) by simp only[cj];rw[if_neg (by omega),if_pos h3]);have h3':((c.toNat:Int) !=92)=true:=by
    have h4:((c.toNat:Int)==92)=false:=(dH c 92 (by omega)).trans (beq_eq_false_iff_ne.2 h3);rw[bne,h4];rfl
   have h5: ¬(c.toNat:Int)<32:=by omega
   have h6: ¬(126:Int)<c.toNat:=by omega
   clear h3;go_enter func181,ntmps181;go_wp2_with fail;go_ret2;exact⟨iQ (by rw[HR.out]) (by rw[HR.out];rfl),aR w⟩
def O:=@aq.alloc
def an:=@aL.new
def jh:=@aq.drew
def me:=@Sl.none_
end
end Go.Proofs.YtddomeddabfinaaGreatDoor
