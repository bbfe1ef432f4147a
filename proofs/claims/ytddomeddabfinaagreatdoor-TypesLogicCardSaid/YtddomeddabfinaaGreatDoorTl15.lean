/-
  Parts of the proof: VaA VaB VaC VaD.
-/
import Derived.Test.YtddomeddabfinaaGreatDoorTl12
import Derived.Test.YtddomeddabfinaaGreatDoorTl14
set_option maxRecDepth 100000
set_option maxHeartbeats 8000000
set_option linter.unusedVariables false
set_option linter.unusedSimpArgs false
set_option linter.unusedSectionVars false
namespace Go.Proofs.YtddomeddabfinaaGreatDoor
open Go.Proofs.Tryz
open Go.RowKit
mutual
def Ex.wt:Ex->Nat| .mk _ op nm tx _ a=>1+op.length+nm.length+tx.length+wtL a
def wtL:List Ex->Nat| []=>0|x::r=>x.wt+wtL r
end
mutual
def St.wt:St->Nat| .mk _ nm e b l=>1+nm.length+wtL e+wtS b+wtS l
def wtS:List St->Nat| []=>0|x::r=>x.wt+wtS r
end
theorem Ex.wt_eq (x:Ex):x.wt=1+x.op.length+x.nm.length+x.tx.length+wtL x.args:=by cases x;rfl
theorem St.wt_eq (x:St):x.wt=1+x.nm.length+wtL x.ex+wtS x.body+wtS x.els:=by cases x;rfl
theorem wtL_app: ∀a b,wtL (a++b)=wtL a+wtL b
 | [],b=>by simp[wtL]
 |x::r,b=>by simp[wtL,wtL_app r b];omega
theorem wtS_app: ∀a b,wtS (a++b)=wtS a+wtS b
 | [],b=>by simp[wtS]
 |x::r,b=>by simp[wtS,wtS_app r b];omega
theorem wtL_mem {x:Ex}: ∀{l:List Ex},x∈l->x.wt<=wtL l
 |y::r,h=>by
  rcases List.mem_cons.1 h with rfl|h
  ·simp[wtL]
  ·have:=wtL_mem h;simp[wtL];omega
theorem wtS_mem {x:St}: ∀{l:List St},x∈l->x.wt<=wtS l
 |y::r,h=>by
  rcases List.mem_cons.1 h with rfl|h
  ·simp[wtS]
  ·have:=wtS_mem h;simp[wtS];omega
theorem wtL_length: ∀l,l.length<=wtL l
 | []=>Nat.le_refl _
 |x::r=>by have:=wtL_length r;have:=x.wt_eq;simp[wtL];omega
theorem wtS_length: ∀l,l.length<=wtS l
 | []=>Nat.le_refl _
 |x::r=>by have:=wtS_length r;have:=x.wt_eq;simp[wtS];omega
mutual
def Ex.dep:Ex->Nat| .mk _ _ _ _ _ a=>depL a+1
def depL:List Ex->Nat| []=>0|x::r=>max x.dep (depL r)
end
mutual
def St.dep:St->Nat| .mk _ _ e b l=>max (depL e) (max (depS b) (depS l))+1
def depS:List St->Nat| []=>0|x::r=>max x.dep (depS r)
end
theorem Ex.dep_eq (x:Ex):x.dep=depL x.args+1:=by cases x;rfl
theorem St.dep_eq (x:St):x.dep=max (depL x.ex) (max (depS x.body) (depS x.els))+1:=by cases x;rfl
theorem depL_app: ∀a b,depL (a++b)=max (depL a) (depL b)
 | [],b=>by simp[depL]
 |x::r,b=>by simp[depL,depL_app r b,Nat.max_assoc]
theorem depS_app: ∀a b,depS (a++b)=max (depS a) (depS b)
 | [],b=>by simp[depS]
 |x::r,b=>by simp[depS,depS_app r b,Nat.max_assoc]
mutual
theorem Ex.dep_le: ∀x:Ex,x.dep<=x.wt
 | .mk _ _ _ _ _ a=>by have:=depL_le a;simp only[Ex.dep,Ex.wt];omega
theorem depL_le: ∀l:List Ex,depL l<=wtL l
 | []=>Nat.le_refl _
 |x::r=>by have:=x.dep_le;have:=depL_le r;simp only[depL,wtL];omega
end
mutual
theorem St.dep_le: ∀x:St,x.dep<=x.wt
 | .mk _ _ e b l=>by have:=depL_le e;have:=depS_le b;have:=depS_le l;simp only[St.dep,St.wt];omega
theorem depS_le: ∀l:List St,depS l<=wtS l
 | []=>Nat.le_refl _
 |x::r=>by have:=x.dep_le;have:=depS_le r;simp only[depS,wtS];omega
end
def okTx (l:List UInt8):Bool:=l.all okC&&decide (l.length<=128)
mutual
def Ex.ok:Ex->Bool
 | .mk k op nm tx v a=>
  (if k=1 then(decide (0<=v)&&decide (v<=2147483647))&&(op==[]&&nm==[]&&tx==[])&&a.length==0
  else if k=2 then okTx tx&&(op==[]&&nm==[]&&v==0)&&a.length==0
  else if k=3 then isNm nm&&(op==[]&&tx==[]&&v==0)&&a.length==0
  else if k=4 then isNm nm&&(op==[]&&tx==[]&&v==0)&&a.length==1
  else if k=5 then(isNm nm&&decide (a.length<=4))&&(op==[]&&tx==[]&&v==0)
  else if k=6 then(op==[45]||op==[33])&&(nm==[]&&tx==[]&&v==0)&&a.length==1
  else if k=7 then decide (0<lev op)&&(nm==[]&&tx==[]&&v==0)&&a.length==2
  else false)&&okL a
def okL:List Ex->Bool| []=>true|x::r=>x.ok&&okL r
end
theorem okL_all: ∀l,okL l=l.all Ex.ok
 | []=>rfl
 |x::r=>by simp[okL,okL_all r]
mutual
def St.ok:St->Bool
 | .mk k nm e b l=>
  (if k=1 then isNm nm&&decide (e.length<=1)&&b.length==0&&l.length==0
  else if k=2 then isNm nm&&e.length==1&&b.length==0&&l.length==0
  else if k=3 then isNm nm&&e.length==2&&b.length==0&&l.length==0
  else if k=4 then nm==[]&&e.length==1
  else if k=5 then nm==[]&&e.length==1&&l.length==0
  else if k=6 then nm==[]&&decide (e.length<=1)&&b.length==0&&l.length==0
  else if k=7 then nm==[]&&e.length==1&&(e.head?.map Ex.k==some 5)&&b.length==0&&l.length==0
  else false)&&okL e&&(okS b&&okS l)
def okS:List St->Bool| []=>true|x::r=>x.ok&&okS r
end
theorem okS_all: ∀l,okS l=l.all St.ok
 | []=>rfl
 |x::r=>by simp[okS,okS_all r]
end Go.Proofs.YtddomeddabfinaaGreatDoor
namespace Go.Proofs.YtddomeddabfinaaGreatDoor
open Go.Proofs.Tryz
open Go.RowKit
theorem depL_succ {l:List Ex} {j:Nat} (h:j<l.length):depL (l.take (j+1))=max (depL (l.take j)) l[j].dep:=by
 rw[List.take_succ_eq_append_getElem h,depL_app];simp[depL]
theorem dep_any: ∀(m:Nat) (x:Ex),x.wt<=m->x.wt<=1073741824-> ∀(P:Nat->Prop) (w:World) (A:Option Addr) (n c:Nat),RdE w P (.slice A n c) x.args->
  Calls prog 111 #[.agg #[.int .i64 x.k, .string (str x.op), .string (str x.nm), .string (str x.tx), .int .i64 x.v, .slice A n c]] w fun e w'=>e= .returned (.int .i64 (x.dep:Int))/\Ext w w'
 |0,x,hm,_,_,_,_,_,_,_=>absurd hm (by have:=x.wt_eq;omega)
 |m+1,x,hm,hx,P,w,A,n,c,hR=>by
  have HD:=hide (x.dep_eq);have hw:=x.wt_eq;have hmem: ∀y,y∈x.args->y.wt<=m:=fun y hy=>by have:=wtL_mem hy;omega
  have hdl:=depL_le x.args;have hnl:=wtL_length x.args;have HIH:=hide (dep_any m);obtain⟨k,op,nm,tx,v,xs⟩:=x;simp only[Ex.k,Ex.op,Ex.nm,Ex.tx,Ex.v,Ex.args]at*;obtain⟨A',c',hv,hf⟩:=hR.form;injection hv with hv1 hv2 hv3;subst hv1 hv2 hv3;have HR:=hide hR;obtain⟨N,hN⟩: ∃N,xs.length=N:=⟨_,rfl⟩
  rw[hN]at HR;have HE0:=hide (Ext.alloc w (.cells #[.int .i64 k, .string (str op), .string (str nm), .string (str tx), .int .i64 v, .slice A N c] 70));clear hR hf;rw[hN];go_enter func111,ntmps111;go_wp2_with fail
  go_loopw [3,9] (fun vd vi wr=> ∃(j:Nat),vi= .int .i64 (j:Int)/\j<=N/\vd= .int .i64 (depL (xs.take j):Int)/\Hid (Ext w wr)) (fun _ vi _=>N-(intOf vi).toNat)
  case atStart=>exact⟨0,rfl,Nat.zero_le _,by simp[depL],HE0⟩
  case round=>
   obtain⟨j,rfl,hj,rfl,HX⟩:=hrel;have hdj:depL (xs.take j)<=1073741824:=by
    have:=depL_app (xs.take j) (xs.drop j);rw[List.take_append_drop]at this;omega
   by_cases hlt:j<N
   ·have hlt':(j:Int)<N:=by omega
    have hjl:j<xs.length:=by omega
    obtain⟨b,o,a,rfl,hb,hP,h0,h1,h2,h3,h4,h5,hRa⟩:=HR.out.at_ j hjl;have HS:=hide (depL_succ hjl);have hyw:=wtL_mem (List.getElem_mem hjl);have hym:=hmem _ (List.getElem_mem hjl);generalize xs[j]=y at*;have e0:=(HX.out.cell b _ hb).trans h0;have e1:=(HX.out.cell b _ hb).trans h1;have e2:=(HX.out.cell b _ hb).trans h2;have e3:=(HX.out.cell b _ hb).trans h3;have e4:=(HX.out.cell b _ hb).trans h4;have e5:=(HX.out.cell b _ hb).trans h5;obtain⟨B,d,rfl,_⟩:=hRa.form;have HRa:=hide (hRa.keep (.of_ext HX.out) (Q:=P) (fun b hb _=>hb));have hdy:=y.dep_le;clear h0 h1 h2 h3 h4 h5 hRa;go_wp2_with (go_at_call 111;refine(HIH.out y hym (by omega) P _ B _ d (HRa.out.keep (.of_ext (Ext.alloc _ _)) (fun b hb _=>hb))).mono ?_;rintro e w3 ⟨rfl,hE⟩;have HY:=hide ((HX.out.alloc' _).trans hE);clear hE);go_roundw
    case rel=>exact⟨j+1,by go_num,by omega,by rw[HS.out];congr 1;omega,HY⟩
    case measure=>simp[intOf];omega
   ·have hlt': ¬(j:Int)<N:=by omega
    have hjN:j=N:=by omega
    subst hjN;have HQ:=hide (show depL (xs.take j)=depL xs by rw[<-hN,List.take_length]);rw[HQ.out]at hdj⊢;have hwr:IntKind.i64.wrap ((depL xs:Int)+1)=depL xs+1:=by simp[IntKind.wrap,IntKind.signed,IntKind.bits];omega
    clear hN;go_wp2_with fail;go_ret;exact⟨by rw[HD.out];rfl,HX.out⟩
end Go.Proofs.YtddomeddabfinaaGreatDoor
namespace Go.Proofs.YtddomeddabfinaaGreatDoor
open Go.Proofs.Tryz
open Go.RowKit
theorem any_take_succ {α:Type} (p:α->Bool) {l:List α} {j:Nat} (h:j<l.length):(l.take (j+1)).any p=((l.take j).any p||p l[j]):=by
 rw[List.take_succ_eq_append_getElem h,List.any_append,List.any_cons,List.any_nil,Bool.or_false]
theorem any_good {α:Type} (p:α->Bool) {l:List α} {j:Nat} (h:j<l.length) (hp:p l[j]=true):l.any p=true:=by
 rw[List.any_eq_true];exact⟨l[j],List.getElem_mem h,hp⟩
theorem RdN.len {w:World} {P:Nat->Prop} {A:Option Addr} {n c:Nat} {ls:List (List UInt8)} (h:RdN w P (.slice A n c) ls):n=ls.length:=by
 obtain⟨A',c',hv,_⟩:=h;injection hv with h1 h2 h3
theorem RdE.len {w:World} {P:Nat->Prop} {A:Option Addr} {n c:Nat} {ls:List Ex} (h:RdE w P (.slice A n c) ls):n=ls.length:=by
 obtain⟨A',c',hv,_⟩:=h.form;injection hv with h1 h2 h3
theorem RdS.len {w:World} {P:Nat->Prop} {A:Option Addr} {n c:Nat} {ls:List St} (h:RdS w P (.slice A n c) ls):n=ls.length:=by
 obtain⟨A',c',hv,_⟩:=h.form;injection hv with h1 h2 h3
theorem rdn_at {w:World} {P:Nat->Prop} {A:Option Addr} {n c:Nat} {ls:List (List UInt8)} (h:RdN w P (.slice A n c) ls) (i:Nat) (hi:i<ls.length):
  ∃b o,A=some ⟨b,o,none⟩/\b<w.heap.size/\w.cell? ⟨b,o+i,none⟩=some (.string (str ls[i])):=by
 obtain⟨A',c',hv,h⟩:=h;injection hv with h1 h2 h3;rcases h with h|h
 ·subst h;simp at hi
 ·obtain⟨_,_,b,o,ha,_,hb,hc⟩:=h;exact⟨b,o,by rw[h1];exact ha,hb,hc i hi⟩
theorem idxE_any (p:Ex->Bool) (xs:List (Ex)) (P:Nat->Prop) (w:World) (A:Option Addr) (n c:Nat) (hR:RdE w P (.slice A n c) xs) (hx:xs.length<=1073741824)
  (hf: ∀y,y∈xs-> ∀(w':World) (B:Option Addr) (d:Nat),RdE w' P (.slice B y.args.length d) y.args->Calls prog 154 #[.agg #[.int .i64 y.k, .string (str y.op), .string (str y.nm), .string (str y.tx), .int .i64 y.v, .slice B y.args.length d]] w' fun e w''=>e= .returned (.bool (p y))/\Ext w' w''):
  Calls prog 151 #[.slice A n c, .func (Fn.func 154) #[] #[]] w fun e w'=>(∃r:Int,e= .returned (.int .i64 r)/\decide (0<=r)=xs.any p)/\Ext w w':=by
 have hnl:=hR.len;obtain⟨N,hN⟩: ∃N,xs.length=N:=⟨_,rfl⟩
 obtain rfl:n=N:=by omega
 have HR:=hide hR;have HF:=hide hf;have HE0:=hide (Ext.refl w);clear hR hf hnl;go_enter func151,ntmps151;go_wp2_with fail
 go_loopw [8] (fun vi wr=> ∃(j:Nat),vi= .int .i64 (j:Int)/\j<=n/\Hid ((xs.take j).any p=false)/\Hid (Ext w wr)) (fun vi _=>n-(intOf vi).toNat)
 case atStart=>exact⟨0,rfl,Nat.zero_le _,hide (by simp),HE0⟩
 case round=>
  obtain⟨j,rfl,hj,HA,HX⟩:=hrel;by_cases hlt:j<n
  ·have hlt':(j:Int)<n:=by omega
   have hjl:j<xs.length:=by omega
   obtain⟨b,o,a,rfl,hb,hP,h0,h1,h2,h3,h4,h5,hRa⟩:=HR.out.at_ j hjl;have HS:=hide (any_take_succ p hjl);have HG:=hide (fun h=>any_good p hjl h);have hym:=HF.out _ (List.getElem_mem hjl);generalize xs[j]=y at*;have e0:=(HX.out.cell b _ hb).trans h0;have e1:=(HX.out.cell b _ hb).trans h1;have e2:=(HX.out.cell b _ hb).trans h2;have e3:=(HX.out.cell b _ hb).trans h3;have e4:=(HX.out.cell b _ hb).trans h4;have e5:=(HX.out.cell b _ hb).trans h5;obtain⟨B,d,rfl,_⟩:=hRa.form;have HRa:=hide (hRa.keep (.of_ext HX.out) (Q:=P) (fun b hb _=>hb));clear hRa;have HY:=hide (hym wr B d HRa.out);clear h0 h1 h2 h3 h4 h5;clear hym
   cases hp:p y with
   |true=>
    rw[hp]at HY;have HQ:=hide (HG.out hp);clear hp;go_wp2_with (refine HY.out.mono ?_;rintro e w3 ⟨rfl,hE⟩;have HZ:=hide (HX.out.trans hE);clear hE);go_ret;exact⟨⟨j,rfl,by rw[HQ.out];simp⟩,HZ.out⟩
   |false=>
    rw[hp]at HY;have HQ:=hide (show(xs.take (j+1)).any p=false by rw[HS.out,HA.out,hp];rfl);clear hp;go_wp2_with (refine HY.out.mono ?_;rintro e w3 ⟨rfl,hE⟩;have HZ:=hide (HX.out.trans hE);clear hE);go_roundw
    case rel=>exact⟨j+1,by go_num,by omega,HQ,HZ⟩
    case measure=>simp[intOf];omega
  ·have hlt': ¬(j:Int)<n:=by omega
   have hjN:j=n:=by omega
   subst hjN;have HQ:=hide (show xs.any p=false by have:=HA.out;rwa [<-hN,List.take_length]at this);go_wp2_with fail;go_ret;exact⟨⟨-1,rfl,by rw[HQ.out];rfl⟩,HX.out⟩
theorem conE_any (p:Ex->Bool) (xs:List (Ex)) (P:Nat->Prop) (w:World) (A:Option Addr) (n c:Nat) (hR:RdE w P (.slice A n c) xs) (hx:xs.length<=1073741824)
  (hf: ∀y,y∈xs-> ∀(w':World) (B:Option Addr) (d:Nat),RdE w' P (.slice B y.args.length d) y.args->Calls prog 154 #[.agg #[.int .i64 y.k, .string (str y.op), .string (str y.nm), .string (str y.tx), .int .i64 y.v, .slice B y.args.length d]] w' fun e w''=>e= .returned (.bool (p y))/\Ext w' w''):
  Calls prog 113 #[.slice A n c, .func (Fn.func 154) #[] #[]] w fun e w'=>e= .returned (.bool (xs.any p))/\Ext w w':=by
 have HI:=hide (idxE_any p xs P w A n c hR hx hf);clear hR hf;go_enter func113,ntmps113;go_wp2_with (refine HI.out.mono ?_;rintro e w3 ⟨⟨r,rfl,hr⟩,hE⟩;have HR:=hide hr;have HZ:=hide hE;clear hE hr);go_ret;exact⟨by rw[<-HR.out];rfl,HZ.out⟩
theorem idxE2_any (p:Ex->Bool) (xs:List (Ex)) (P:Nat->Prop) (w:World) (A:Option Addr) (n c:Nat) (hR:RdE w P (.slice A n c) xs) (hx:xs.length<=1073741824)
  (hf: ∀y,y∈xs-> ∀(w':World) (B:Option Addr) (d:Nat),RdE w' P (.slice B y.args.length d) y.args->Calls prog 114 #[.agg #[.int .i64 y.k, .string (str y.op), .string (str y.nm), .string (str y.tx), .int .i64 y.v, .slice B y.args.length d]] w' fun e w''=>e= .returned (.bool (p y))/\Ext w' w''):
  Calls prog 151 #[.slice A n c, .func (Fn.func 114) #[] #[]] w fun e w'=>(∃r:Int,e= .returned (.int .i64 r)/\decide (0<=r)=xs.any p)/\Ext w w':=by
 have hnl:=hR.len;obtain⟨N,hN⟩: ∃N,xs.length=N:=⟨_,rfl⟩
 obtain rfl:n=N:=by omega
 have HR:=hide hR;have HF:=hide hf;have HE0:=hide (Ext.refl w);clear hR hf hnl;go_enter func151,ntmps151;go_wp2_with fail
 go_loopw [8] (fun vi wr=> ∃(j:Nat),vi= .int .i64 (j:Int)/\j<=n/\Hid ((xs.take j).any p=false)/\Hid (Ext w wr)) (fun vi _=>n-(intOf vi).toNat)
 case atStart=>exact⟨0,rfl,Nat.zero_le _,hide (by simp),HE0⟩
 case round=>
  obtain⟨j,rfl,hj,HA,HX⟩:=hrel;by_cases hlt:j<n
  ·have hlt':(j:Int)<n:=by omega
   have hjl:j<xs.length:=by omega
   obtain⟨b,o,a,rfl,hb,hP,h0,h1,h2,h3,h4,h5,hRa⟩:=HR.out.at_ j hjl;have HS:=hide (any_take_succ p hjl);have HG:=hide (fun h=>any_good p hjl h);have hym:=HF.out _ (List.getElem_mem hjl);generalize xs[j]=y at*;have e0:=(HX.out.cell b _ hb).trans h0;have e1:=(HX.out.cell b _ hb).trans h1;have e2:=(HX.out.cell b _ hb).trans h2;have e3:=(HX.out.cell b _ hb).trans h3;have e4:=(HX.out.cell b _ hb).trans h4;have e5:=(HX.out.cell b _ hb).trans h5;obtain⟨B,d,rfl,_⟩:=hRa.form;have HRa:=hide (hRa.keep (.of_ext HX.out) (Q:=P) (fun b hb _=>hb));clear hRa;have HY:=hide (hym wr B d HRa.out);clear h0 h1 h2 h3 h4 h5;clear hym
   cases hp:p y with
   |true=>
    rw[hp]at HY;have HQ:=hide (HG.out hp);clear hp;go_wp2_with (refine HY.out.mono ?_;rintro e w3 ⟨rfl,hE⟩;have HZ:=hide (HX.out.trans hE);clear hE);go_ret;exact⟨⟨j,rfl,by rw[HQ.out];simp⟩,HZ.out⟩
   |false=>
    rw[hp]at HY;have HQ:=hide (show(xs.take (j+1)).any p=false by rw[HS.out,HA.out,hp];rfl);clear hp;go_wp2_with (refine HY.out.mono ?_;rintro e w3 ⟨rfl,hE⟩;have HZ:=hide (HX.out.trans hE);clear hE);go_roundw
    case rel=>exact⟨j+1,by go_num,by omega,HQ,HZ⟩
    case measure=>simp[intOf];omega
  ·have hlt': ¬(j:Int)<n:=by omega
   have hjN:j=n:=by omega
   subst hjN;have HQ:=hide (show xs.any p=false by have:=HA.out;rwa [<-hN,List.take_length]at this);go_wp2_with fail;go_ret;exact⟨⟨-1,rfl,by rw[HQ.out];rfl⟩,HX.out⟩
theorem conE2_any (p:Ex->Bool) (xs:List (Ex)) (P:Nat->Prop) (w:World) (A:Option Addr) (n c:Nat) (hR:RdE w P (.slice A n c) xs) (hx:xs.length<=1073741824)
  (hf: ∀y,y∈xs-> ∀(w':World) (B:Option Addr) (d:Nat),RdE w' P (.slice B y.args.length d) y.args->Calls prog 114 #[.agg #[.int .i64 y.k, .string (str y.op), .string (str y.nm), .string (str y.tx), .int .i64 y.v, .slice B y.args.length d]] w' fun e w''=>e= .returned (.bool (p y))/\Ext w' w''):
  Calls prog 113 #[.slice A n c, .func (Fn.func 114) #[] #[]] w fun e w'=>e= .returned (.bool (xs.any p))/\Ext w w':=by
 have HI:=hide (idxE2_any p xs P w A n c hR hx hf);clear hR hf;go_enter func113,ntmps113;go_wp2_with (refine HI.out.mono ?_;rintro e w3 ⟨⟨r,rfl,hr⟩,hE⟩;have HR:=hide hr;have HZ:=hide hE;clear hE hr);go_ret;exact⟨by rw[<-HR.out];rfl,HZ.out⟩
theorem idxS_any (p:St->Bool) (xs:List (St)) (P:Nat->Prop) (w:World) (A:Option Addr) (n c:Nat) (hR:RdS w P (.slice A n c) xs) (hx:xs.length<=1073741824)
  (hf: ∀y,y∈xs-> ∀(w':World) (B B' B'':Option Addr) (d d' d'':Nat),(RdE w' P (.slice B y.ex.length d) y.ex/\RdS w' P (.slice B' y.body.length d') y.body/\RdS w' P (.slice B'' y.els.length d'') y.els)->Calls prog 117 #[.agg #[.int .i64 y.k, .string (str y.nm), .slice B y.ex.length d, .slice B' y.body.length d', .slice B'' y.els.length d'']] w' fun e w''=>e= .returned (.bool (p y))/\Ext w' w''):
  Calls prog 155 #[.slice A n c, .func (Fn.func 117) #[] #[]] w fun e w'=>(∃r:Int,e= .returned (.int .i64 r)/\decide (0<=r)=xs.any p)/\Ext w w':=by
 have hnl:=hR.len;obtain⟨N,hN⟩: ∃N,xs.length=N:=⟨_,rfl⟩
 obtain rfl:n=N:=by omega
 have HR:=hide hR;have HF:=hide hf;have HE0:=hide (Ext.refl w);clear hR hf hnl;go_enter func155,ntmps155;go_wp2_with fail
 go_loopw [8] (fun vi wr=> ∃(j:Nat),vi= .int .i64 (j:Int)/\j<=n/\Hid ((xs.take j).any p=false)/\Hid (Ext w wr)) (fun vi _=>n-(intOf vi).toNat)
 case atStart=>exact⟨0,rfl,Nat.zero_le _,hide (by simp),HE0⟩
 case round=>
  obtain⟨j,rfl,hj,HA,HX⟩:=hrel;by_cases hlt:j<n
  ·have hlt':(j:Int)<n:=by omega
   have hjl:j<xs.length:=by omega
   obtain⟨b,o,u,v,z,rfl,hb,hP,h0,h1,h2,h3,h4,hRa,hRb,hRc⟩:=HR.out.at_ j hjl;have HS:=hide (any_take_succ p hjl);have HG:=hide (fun h=>any_good p hjl h);have hym:=HF.out _ (List.getElem_mem hjl);generalize xs[j]=y at*;have e0:=(HX.out.cell b _ hb).trans h0;have e1:=(HX.out.cell b _ hb).trans h1;have e2:=(HX.out.cell b _ hb).trans h2;have e3:=(HX.out.cell b _ hb).trans h3;have e4:=(HX.out.cell b _ hb).trans h4;obtain⟨B,d,rfl,_⟩:=hRa.form;obtain⟨B',d',rfl,_⟩:=hRb.form;obtain⟨B'',d'',rfl,_⟩:=hRc.form;have HRa:=hide (show RdE wr P _ _/\RdS wr P _ _/\RdS wr P _ _ from⟨hRa.keep (.of_ext HX.out) (fun b hb _=>hb),hRb.keep (.of_ext HX.out) (fun b hb _=>hb),hRc.keep (.of_ext HX.out) (fun b hb _=>hb)⟩);clear hRa hRb hRc;have HY:=hide (hym wr B B' B'' d d' d'' HRa.out);clear h0 h1 h2 h3 h4;clear hym
   cases hp:p y with
   |true=>
    rw[hp]at HY;have HQ:=hide (HG.out hp);clear hp;go_wp2_with (refine HY.out.mono ?_;rintro e w3 ⟨rfl,hE⟩;have HZ:=hide (HX.out.trans hE);clear hE);go_ret;exact⟨⟨j,rfl,by rw[HQ.out];simp⟩,HZ.out⟩
   |false=>
    rw[hp]at HY;have HQ:=hide (show(xs.take (j+1)).any p=false by rw[HS.out,HA.out,hp];rfl);clear hp;go_wp2_with (refine HY.out.mono ?_;rintro e w3 ⟨rfl,hE⟩;have HZ:=hide (HX.out.trans hE);clear hE);go_roundw
    case rel=>exact⟨j+1,by go_num,by omega,HQ,HZ⟩
    case measure=>simp[intOf];omega
  ·have hlt': ¬(j:Int)<n:=by omega
   have hjN:j=n:=by omega
   subst hjN;have HQ:=hide (show xs.any p=false by have:=HA.out;rwa [<-hN,List.take_length]at this);go_wp2_with fail;go_ret;exact⟨⟨-1,rfl,by rw[HQ.out];rfl⟩,HX.out⟩
theorem conS_any (p:St->Bool) (xs:List (St)) (P:Nat->Prop) (w:World) (A:Option Addr) (n c:Nat) (hR:RdS w P (.slice A n c) xs) (hx:xs.length<=1073741824)
  (hf: ∀y,y∈xs-> ∀(w':World) (B B' B'':Option Addr) (d d' d'':Nat),(RdE w' P (.slice B y.ex.length d) y.ex/\RdS w' P (.slice B' y.body.length d') y.body/\RdS w' P (.slice B'' y.els.length d'') y.els)->Calls prog 117 #[.agg #[.int .i64 y.k, .string (str y.nm), .slice B y.ex.length d, .slice B' y.body.length d', .slice B'' y.els.length d'']] w' fun e w''=>e= .returned (.bool (p y))/\Ext w' w''):
  Calls prog 116 #[.slice A n c, .func (Fn.func 117) #[] #[]] w fun e w'=>e= .returned (.bool (xs.any p))/\Ext w w':=by
 have HI:=hide (idxS_any p xs P w A n c hR hx hf);clear hR hf;go_enter func116,ntmps116;go_wp2_with (refine HI.out.mono ?_;rintro e w3 ⟨⟨r,rfl,hr⟩,hE⟩;have HR:=hide hr;have HZ:=hide hE;clear hE hr);go_ret;exact⟨by rw[<-HR.out];rfl,HZ.out⟩
theorem idxN_any (p:List UInt8->Bool) (xs:List (List UInt8)) (P:Nat->Prop) (w:World) (A:Option Addr) (n c:Nat) (hR:RdN w P (.slice A n c) xs) (hx:xs.length<=1073741824)
  (hf: ∀y,y∈xs-> ∀(w':World),True->Calls prog 68 #[.string (str y)] w' fun e w''=>e= .returned (.bool (p y))/\Ext w' w''):
  Calls prog 110 #[.slice A n c, .func (Fn.func 68) #[] #[]] w fun e w'=>(∃r:Int,e= .returned (.int .i64 r)/\decide (0<=r)=xs.any p)/\Ext w w':=by
 have hnl:=hR.len;obtain⟨N,hN⟩: ∃N,xs.length=N:=⟨_,rfl⟩
 obtain rfl:n=N:=by omega
 have HR:=hide hR;have HF:=hide hf;have HE0:=hide (Ext.refl w);clear hR hf hnl;go_enter func110,ntmps110;go_wp2_with fail
 go_loopw [8] (fun vi wr=> ∃(j:Nat),vi= .int .i64 (j:Int)/\j<=n/\Hid ((xs.take j).any p=false)/\Hid (Ext w wr)) (fun vi _=>n-(intOf vi).toNat)
 case atStart=>exact⟨0,rfl,Nat.zero_le _,hide (by simp),HE0⟩
 case round=>
  obtain⟨j,rfl,hj,HA,HX⟩:=hrel;by_cases hlt:j<n
  ·have hlt':(j:Int)<n:=by omega
   have hjl:j<xs.length:=by omega
   obtain⟨b,o,rfl,hb,h0⟩:=rdn_at HR.out j hjl;have HS:=hide (any_take_succ p hjl);have HG:=hide (fun h=>any_good p hjl h);have hym:=HF.out _ (List.getElem_mem hjl);generalize xs[j]=y at*;have e0:=(HX.out.cell b _ hb).trans h0
   skip
   have HY:=hide (hym wr  trivial);clear h0;clear hym
   cases hp:p y with
   |true=>
    rw[hp]at HY;have HQ:=hide (HG.out hp);clear hp;go_wp2_with (refine HY.out.mono ?_;rintro e w3 ⟨rfl,hE⟩;have HZ:=hide (HX.out.trans hE);clear hE);go_ret;exact⟨⟨j,rfl,by rw[HQ.out];simp⟩,HZ.out⟩
   |false=>
    rw[hp]at HY;have HQ:=hide (show(xs.take (j+1)).any p=false by rw[HS.out,HA.out,hp];rfl);clear hp;go_wp2_with (refine HY.out.mono ?_;rintro e w3 ⟨rfl,hE⟩;have HZ:=hide (HX.out.trans hE);clear hE);go_roundw
    case rel=>exact⟨j+1,by go_num,by omega,HQ,HZ⟩
    case measure=>simp[intOf];omega
  ·have hlt': ¬(j:Int)<n:=by omega
   have hjN:j=n:=by omega
   subst hjN;have HQ:=hide (show xs.any p=false by have:=HA.out;rwa [<-hN,List.take_length]at this);go_wp2_with fail;go_ret;exact⟨⟨-1,rfl,by rw[HQ.out];rfl⟩,HX.out⟩
theorem conN_any (p:List UInt8->Bool) (xs:List (List UInt8)) (P:Nat->Prop) (w:World) (A:Option Addr) (n c:Nat) (hR:RdN w P (.slice A n c) xs) (hx:xs.length<=1073741824)
  (hf: ∀y,y∈xs-> ∀(w':World),True->Calls prog 68 #[.string (str y)] w' fun e w''=>e= .returned (.bool (p y))/\Ext w' w''):
  Calls prog 67 #[.slice A n c, .func (Fn.func 68) #[] #[]] w fun e w'=>e= .returned (.bool (xs.any p))/\Ext w w':=by
 have HI:=hide (idxN_any p xs P w A n c hR hx hf);clear hR hf;go_enter func67,ntmps67;go_wp2_with (refine HI.out.mono ?_;rintro e w3 ⟨⟨r,rfl,hr⟩,hE⟩;have HR:=hide hr;have HZ:=hide hE;clear hE hr);go_ret;exact⟨by rw[<-HR.out];rfl,HZ.out⟩
end Go.Proofs.YtddomeddabfinaaGreatDoor
namespace Go.Proofs.YtddomeddabfinaaGreatDoor
open Go.Proofs.Tryz
open Go.RowKit
theorem okC_iff (c:UInt8):okC c=(decide (32<=(c.toNat:Int))&&decide ((c.toNat:Int)<=126)||(c.toNat:Int)==10||(c.toNat:Int)==9||(c.toNat:Int)==0):=by
 have h10:=u8_eqI c 10 (by omega);have h9:=u8_eqI c 9 (by omega);have h0:=u8_eqI c 0 (by omega);have e10:(((10:Nat):Int))=10:=rfl;have e9:(((9:Nat):Int))=9:=rfl;have e0:(((0:Nat):Int))=0:=rfl;rw[e10]at h10;rw[e9]at h9;rw[e0]at h0;rw[h10,h9,h0];unfold okC
 congr 3
 rw[Bool.eq_iff_iff];simp only[decide_eq_true_eq,Bool.and_eq_true];omega
theorem okT_bad {l:List UInt8} {j:Nat} (h:j<l.length) (hp:okC l[j]=false):okTx l=false:=by
 unfold okTx;rw[all_bad okC h hp];rfl
theorem ptext_any (l:List UInt8) (hl:l.length<=1073741824) (w:World):Calls prog 152 #[.string (str l)] w fun e w'=>e= .returned (.bool (okTx l))/\Ext w w':=by
 have hsz:(str l).size=l.length:=str_size l;have HE0:=hide (Ext.refl w);go_enter func152,ntmps152;go_wp2_with fail
 go_loopw [7] (fun vi wr=> ∃j:Nat,vi= .int .i64 (j:Int)/\j<=l.length/\Hid ((l.take j).all okC=true)/\Hid (Ext w wr)) (fun vi _=>l.length-(intOf vi).toNat)
 case atStart=>exact⟨0,rfl,Nat.zero_le _,hide (by simp),HE0⟩
 case round=>
  obtain⟨j,rfl,hj,HA,HX⟩:=hrel;by_cases hlt:j<l.length
  ·have hjs:j<(str l).size:=by rw[str_size];exact hlt
   have hg:=str_get l j hjs;have hlt':(j:Int)<l.length:=by omega
   have HS:=hide (all_take_succ okC hlt);have HBad:=hide (fun h=>okT_bad hlt h);generalize l[j]'hlt=c at*;have HC:=hide (okC_iff c);have hc256:(c.toNat:Int)<256:=by have:=c.toNat_lt;omega
   have HJ:=hide (fun(h:okC c=true)=>show(l.take (j+1)).all okC=true by rw[HS.out,HA.out,h];rfl);clear HS HA;by_cases h32:32<=(c.toNat:Int)/\(c.toNat:Int)<=126
   ·obtain⟨a1,a2⟩:=h32;have HJ2:=hide (HJ.out (by rw[HC.out,decide_eq_true a1,decide_eq_true a2];rfl));clear HJ HC;go_wp2_with fail;go_roundw
    case rel=>exact⟨j+1,by go_num,by omega,HJ2,HX⟩
    case measure=>simp[intOf];omega
   ·cases h10:((c.toNat:Int)==10)with
    |true=>
     have HJ2:=hide (HJ.out (by rw[HC.out,h10];simp));have h10n:((c.toNat:Int) !=10)=false:=by rw[bne,h10];rfl
     have hn:(c.toNat:Int)<32:=by rw[beq_iff_eq]at h10;omega
     clear HJ HC h32;go_wp2_with fail;go_roundw
     case rel=>exact⟨j+1,by go_num,by omega,HJ2,HX⟩
     case measure=>simp[intOf];omega
    |false=>
     have h10n:((c.toNat:Int) !=10)=true:=by rw[bne,h10];rfl
     cases h9:((c.toNat:Int)==9)with
     |true=>
      have HJ2:=hide (HJ.out (by rw[HC.out,h9];simp));have h9n:((c.toNat:Int) !=9)=false:=by rw[bne,h9];rfl
      have hn:(c.toNat:Int)<32:=by rw[beq_iff_eq]at h9;omega
      clear HJ HC h32;go_wp2_with fail;go_roundw
      case rel=>exact⟨j+1,by go_num,by omega,HJ2,HX⟩
      case measure=>simp[intOf];omega
     |false=>
      have h9n:((c.toNat:Int) !=9)=true:=by rw[bne,h9];rfl
      cases h0:((c.toNat:Int)==0)with
      |true=>
       have HJ2:=hide (HJ.out (by rw[HC.out,h0];simp));have h0n:((c.toNat:Int) !=0)=false:=by rw[bne,h0];rfl
       have hn:(c.toNat:Int)<32:=by rw[beq_iff_eq]at h0;omega
       clear HJ HC h32;go_wp2_with fail;go_roundw
       case rel=>exact⟨j+1,by go_num,by omega,HJ2,HX⟩
       case measure=>simp[intOf];omega
      |false=>
       have h0n:((c.toNat:Int) !=0)=true:=by rw[bne,h0];rfl
       have HF:=hide (HBad.out (by rw[HC.out,h10,h9,h0,<-Bool.decide_and,decide_eq_false h32];rfl));clear HJ HC;by_cases hn:(c.toNat:Int)<32
       ·clear h32;go_wp2_with fail;go_ret;exact⟨by rw[HF.out];rfl,HX.out⟩
       ·have hn2:126<(c.toNat:Int):=by omega
        clear h32;go_wp2_with fail;go_ret;exact⟨by rw[HF.out];rfl,HX.out⟩
  ·have hlt': ¬(j:Int)<l.length:=by omega
   have hj':j=l.length:=by omega
   subst hj';have HQ:=hide (show l.all okC=true by have:=HA.out;rwa [List.take_length]at this);clear HA;by_cases h128:l.length<=128
   ·have h128':(l.length:Int)<=128:=by omega
    go_wp2_with fail;go_ret;exact⟨by unfold okTx;rw[HQ.out,decide_eq_true h128];rfl,HX.out⟩
   ·have h128': ¬(l.length:Int)<=128:=by omega
    go_wp2_with fail;go_ret;exact⟨by unfold okTx;rw[decide_eq_false h128,Bool.and_false];rfl,HX.out⟩
def Ex.prec (x:Ex):Int:=if x.k=7 then lev x.op else if x.k=6 then 7 else 8
theorem prec_any (x:Ex) (w:World) (V:Value) (hV: ∃A n c,V= .slice A n c):Calls prog 217 #[.agg #[.int .i64 x.k, .string (str x.op), .string (str x.nm), .string (str x.tx), .int .i64 x.v,V]] w fun e w'=>e= .returned (.int .i64 x.prec)/\Ext w w':=by
 obtain⟨A,n,c,rfl⟩:=hV;have HE0:=hide (Ext.alloc w (.cells #[.int .i64 x.k, .string (str x.op), .string (str x.nm), .string (str x.tx), .int .i64 x.v, .slice A n c] 70));have HL:=hide (fun w=>level_any x.op w);have HP:=hide (show x.prec=if x.k=7 then lev x.op else if x.k=6 then 7 else 8 from rfl);generalize x.k=k at*;by_cases h7:k=7
 ·subst h7;go_enter func217,ntmps217;go_wp2_with (refine(HL.out _).mono ?_;rintro e w' ⟨rfl,rfl⟩);go_ret;exact⟨by rw[HP.out];rfl,HE0.out⟩
 ·by_cases h6:k=6
  ·subst h6;go_enter func217,ntmps217;go_wp2_with fail;go_ret;exact⟨by rw[HP.out];rfl,HE0.out⟩
  ·have h7':(k==7)=false:=beq_eq_false_iff_ne.2 h7;have h6':(k==6)=false:=beq_eq_false_iff_ne.2 h6;have HQ:=hide (show x.prec=8 by rw[HP.out,if_neg h7,if_neg h6]);clear HP;go_enter func217,ntmps217;go_wp2_with fail;go_ret;exact⟨by rw[HQ.out];rfl,HE0.out⟩
end Go.Proofs.YtddomeddabfinaaGreatDoor
