/-
  Parts of the proof: VaA VaB VaC VaD.
-/
import Derived.Test.YtddomeddabfinaaGreatDoorTa00
import Derived.Test.YtddomeddabfinaaGreatDoorTa12
import Derived.Test.YtddomeddabfinaaGreatDoorTa14
set_option maxRecDepth 100000
set_option maxHeartbeats 8000000
set_option linter.unusedVariables false
set_option linter.unusedSimpArgs false
set_option linter.unusedSectionVars false
namespace Go.Proofs.YtddomeddabfinaaGreatDoor
open Go.Proofs.Tryz
section
open Go.RowKit
mutual
def Ex.wt:Ex->Nat| .mk _ op nm tx _ a=>1+op.length+nm.length+tx.length+fF a
def fF:List Ex->Nat| []=>0|x::r=>x.wt+fF r
end
mutual
def St.wt:St->Nat| .mk _ nm e b l=>1+nm.length+fF e+fj b+fj l
def fj:List St->Nat| []=>0|x::r=>x.wt+fj r
end
theorem Ex.wt_eq (x:Ex):x.wt=1+x.op.length+x.nm.length+x.tx.length+fF x.args:=by cases x;rfl
theorem St.wt_eq (x:St):x.wt=1+x.nm.length+fF x.ex+fj x.body+fj x.els:=by cases x;rfl
theorem pt: ∀a b,fF (a++b)=fF a+fF b
 | [],b=>by simp[fF]
 |x::r,b=>by simp[fF,pt r b];omega
theorem sS: ∀a b,fj (a++b)=fj a+fj b
 | [],b=>by simp[fj]
 |x::r,b=>by simp[fj,sS r b];omega
theorem dE {x:Ex}: ∀{l:List Ex},x∈l->x.wt<=fF l
 |y::r,h=>by
  rcases List.mem_cons.1 h with rfl|h
  ·simp[fF]
  ·have:=dE h;simp[fF];omega
theorem bQ {x:St}: ∀{l:List St},x∈l->x.wt<=fj l
 |y::r,h=>by
  rcases List.mem_cons.1 h with rfl|h
  ·simp[fj]
  ·have:=bQ h;simp[fj];omega
theorem dw: ∀l,l.length<=fF l
 | []=>ag _
 |x::r=>by have:=dw r;have:=x.wt_eq;simp[fF];omega
theorem du: ∀l,l.length<=fj l
 | []=>ag _
 |x::r=>by have:=du r;have:=x.wt_eq;simp[fj];omega
mutual
def Ex.dep:Ex->Nat| .mk _ _ _ _ _ a=>eU a+1
def eU:List Ex->Nat| []=>0|x::r=>max x.dep (eU r)
end
mutual
def St.dep:St->Nat| .mk _ _ e b l=>max (eU e) (max (fM b) (fM l))+1
def fM:List St->Nat| []=>0|x::r=>max x.dep (fM r)
end
theorem Ex.dep_eq (x:Ex):x.dep=eU x.args+1:=by cases x;rfl
theorem St.dep_eq (x:St):x.dep=max (eU x.ex) (max (fM x.body) (fM x.els))+1:=by cases x;rfl
theorem lO: ∀a b,eU (a++b)=max (eU a) (eU b)
 | [],b=>by simp[eU]
 |x::r,b=>by simp[eU,lO r b,Nat.max_assoc]
theorem kd: ∀a b,fM (a++b)=max (fM a) (fM b)
 | [],b=>by simp[fM]
 |x::r,b=>by simp[fM,kd r b,Nat.max_assoc]
mutual
theorem Ex.dep_le: ∀x:Ex,x.dep<=x.wt
 | .mk _ _ _ _ _ a=>by have:=lN a;simp only[Ex.dep,Ex.wt];omega
theorem lN: ∀l:List Ex,eU l<=fF l
 | []=>ag _
 |x::r=>by have:=x.dep_le;have:=lN r;simp only[eU,fF];omega
end
mutual
theorem St.dep_le: ∀x:St,x.dep<=x.wt
 | .mk _ _ e b l=>by have:=lN e;have:=lM b;have:=lM l;simp only[St.dep,St.wt];omega
theorem lM: ∀l:List St,fM l<=fj l
 | []=>ag _
 |x::r=>by have:=x.dep_le;have:=lM r;simp only[fM,fj];omega
end
def pR (l:List UInt8):Bool:=l.all yu&&decide (l.length<=128)
mutual
def Ex.ok:Ex->Bool
 | .mk k op nm tx v a=>
  (if k=1 then(decide (0<=v)&&decide (v<=2147483647))&&(op==[]&&nm==[]&&tx==[])&&a.length==0
  else if k=2 then pR tx&&(op==[]&&nm==[]&&v==0)&&a.length==0
  else if k=3 then dx nm&&(op==[]&&tx==[]&&v==0)&&a.length==0
  else if k=4 then dx nm&&(op==[]&&tx==[]&&v==0)&&a.length==1
  else if k=5 then(dx nm&&decide (a.length<=4))&&(op==[]&&tx==[]&&v==0)
  else if k=6 then(op==[45]||op==[33])&&(nm==[]&&tx==[]&&v==0)&&a.length==1
  else if k=7 then decide (0<ky op)&&(nm==[]&&tx==[]&&v==0)&&a.length==2
  else false)&&m8 a
def m8:List Ex->Bool| []=>true|x::r=>x.ok&&m8 r
end
theorem pU: ∀l,m8 l=l.all Ex.ok
 | []=>rfl
 |x::r=>by simp[m8,pU r]
mutual
def St.ok:St->Bool
 | .mk k nm e b l=>
  (if k=1 then dx nm&&decide (e.length<=1)&&b.length==0&&l.length==0
  else if k=2 then dx nm&&e.length==1&&b.length==0&&l.length==0
  else if k=3 then dx nm&&e.length==2&&b.length==0&&l.length==0
  else if k=4 then nm==[]&&e.length==1
  else if k=5 then nm==[]&&e.length==1&&l.length==0
  else if k=6 then nm==[]&&decide (e.length<=1)&&b.length==0&&l.length==0
  else if k=7 then nm==[]&&e.length==1&&(e.head?.map Ex.k==some 5)&&b.length==0&&l.length==0
  else false)&&m8 e&&(m7 b&&m7 l)
def m7:List St->Bool| []=>true|x::r=>x.ok&&m7 r
end
theorem jr: ∀l,m7 l=l.all St.ok
 | []=>rfl
 |x::r=>by simp[m7,jr r]
end
section
open Go.RowKit
theorem o4 {l:List Ex} {j:Nat} (h:j<l.length):eU (l.take (j+1))=max (eU (l.take j)) l[j].dep:=by
 rw[bp h,lO];simp[eU]
theorem tM: ∀(m:Nat) (x:Ex),x.wt<=m->x.wt<=1073741824-> ∀(P:Nat->Prop) (w:World) (A:Option Addr) (n c:Nat),cu w P (.slice A n c) x.args->
  Calls prog 111 #[.agg #[.int .i64 x.k, .string (ah x.op), .string (ah x.nm), .string (ah x.tx), .int .i64 x.v, .slice A n c]] w fun e w'=>e= .returned (.int .i64 (x.dep:Int))/\au w w'
 |0,x,hm,_,_,_,_,_,_,_=>absurd hm (by have:=x.wt_eq;omega)
 |m+1,x,hm,hx,P,w,A,n,c,hR=>by
  have HD:=G (x.dep_eq);have hw:=x.wt_eq;have hmem: ∀y,y∈x.args->y.wt<=m:=fun y hy=>by have:=dE hy;omega
  have hdl:=lN x.args;have hnl:=dw x.args;have HIH:=G (tM m);obtain⟨k,op,nm,tx,v,xs⟩:=x;simp only[Ex.k,Ex.op,Ex.nm,Ex.tx,Ex.v,Ex.args]at*;obtain⟨A',c',hv,hf⟩:=hR.form;injection hv with hv1 hv2 hv3;subst hv1 hv2 hv3;have HR:=G hR;obtain⟨N,hN⟩: ∃N,xs.length=N:=⟨_,rfl⟩
  rw[hN]at HR;have HE0:=G (I w (.cells #[.int .i64 k, .string (ah op), .string (ah nm), .string (ah tx), .int .i64 v, .slice A N c] 70));clear hR hf;rw[hN];go_enter func111,ntmps111;go_wp2_with fail
  go_loopw [3,9] (fun vd vi wr=> ∃(j:Nat),vi= .int .i64 (j:Int)/\j<=N/\vd= .int .i64 (eU (xs.take j):Int)/\Hid (au w wr)) (fun _ vi _=>N-(intOf vi).toNat)
  case atStart=>exact⟨0,rfl,aF _,by simp[eU],HE0⟩
  case round=>
   obtain⟨j,rfl,hj,rfl,HX⟩:=hrel;have hdj:eU (xs.take j)<=1073741824:=by
    have:=lO (xs.take j) (xs.drop j);rw[cG]at this;omega
   by_cases hlt:j<N
   ·have hlt':(j:Int)<N:=by omega
    have hjl:j<xs.length:=by omega
    obtain⟨b,o,a,rfl,hb,hP,h0,h1,h2,h3,h4,h5,hRa⟩:=HR.out.at_ j hjl;have HS:=G (o4 hjl);have hyw:=dE (ap hjl);have hym:=hmem _ (ap hjl);generalize xs[j]=y at*;have e0:=(HX.out.cell b _ hb).trans h0;have e1:=(HX.out.cell b _ hb).trans h1;have e2:=(HX.out.cell b _ hb).trans h2;have e3:=(HX.out.cell b _ hb).trans h3;have e4:=(HX.out.cell b _ hb).trans h4;have e5:=(HX.out.cell b _ hb).trans h5;obtain⟨B,d,rfl,_⟩:=hRa.form;have HRa:=G (hRa.keep (.of_ext HX.out) (Q:=P) (fun b hb _=>hb));have hdy:=y.dep_le;clear h0 h1 h2 h3 h4 h5 hRa;go_wp2_with (go_at_call 111;refine(HIH.out y hym (by omega) P _ B _ d (HRa.out.keep (.of_ext (I _ _)) (fun b hb _=>hb))).mono ?_;rintro e w3 ⟨rfl,hE⟩;have HY:=G ((HX.out.alloc' _).trans hE);clear hE);go_roundw
    case rel=>exact⟨j+1,by go_num,by omega,by rw[HS.out];congr 1;omega,HY⟩
    case measure=>simp[intOf];omega
   ·have hlt': ¬(j:Int)<N:=by omega
    have hjN:j=N:=by omega
    subst hjN;have HQ:=G (show eU (xs.take j)=eU xs by rw[<-hN,bD]);rw[HQ.out]at hdj⊢;have hwr:IntKind.i64.wrap ((eU xs:Int)+1)=eU xs+1:=by simp[IntKind.wrap,IntKind.signed,IntKind.bits];omega
    clear hN;go_wp2_with fail;go_ret;exact⟨by rw[HD.out];rfl,HX.out⟩
end
section
open Go.RowKit
theorem gn {α:Type} (p:α->Bool) {l:List α} {j:Nat} (h:j<l.length):(l.take (j+1)).any p=((l.take j).any p||p l[j]):=by
 rw[bp h,List.any_append,iG,List.any_nil,kF]
theorem lU {α:Type} (p:α->Bool) {l:List α} {j:Nat} (h:j<l.length) (hp:p l[j]=true):l.any p=true:=by
 rw[List.any_eq_true];exact⟨l[j],ap h,hp⟩
theorem lk.len {w:World} {P:Nat->Prop} {A:Option Addr} {n c:Nat} {ls:List (List UInt8)} (h:lk w P (.slice A n c) ls):n=ls.length:=by
 obtain⟨A',c',hv,_⟩:=h;injection hv with h1 h2 h3
theorem cu.len {w:World} {P:Nat->Prop} {A:Option Addr} {n c:Nat} {ls:List Ex} (h:cu w P (.slice A n c) ls):n=ls.length:=by
 obtain⟨A',c',hv,_⟩:=h.form;injection hv with h1 h2 h3
theorem cK.len {w:World} {P:Nat->Prop} {A:Option Addr} {n c:Nat} {ls:List St} (h:cK w P (.slice A n c) ls):n=ls.length:=by
 obtain⟨A',c',hv,_⟩:=h.form;injection hv with h1 h2 h3
theorem AU {w:World} {P:Nat->Prop} {A:Option Addr} {n c:Nat} {ls:List (List UInt8)} (h:lk w P (.slice A n c) ls) (i:Nat) (hi:i<ls.length):
  ∃b o,A=some ⟨b,o,none⟩/\b<w.heap.size/\w.cell? ⟨b,o+i,none⟩=some (.string (ah ls[i])):=by
 obtain⟨A',c',hv,h⟩:=h;injection hv with h1 h2 h3;rcases h with h|h
 ·subst h;simp at hi
 ·obtain⟨_,_,b,o,ha,_,hb,hc⟩:=h;exact⟨b,o,by rw[h1];exact ha,hb,hc i hi⟩
theorem xv (p:Ex->Bool) (xs:List (Ex)) (P:Nat->Prop) (w:World) (A:Option Addr) (n c:Nat) (hR:cu w P (.slice A n c) xs) (hx:xs.length<=1073741824)
  (hf: ∀y,y∈xs-> ∀(w':World) (B:Option Addr) (d:Nat),cu w' P (.slice B y.args.length d) y.args->Calls prog 154 #[.agg #[.int .i64 y.k, .string (ah y.op), .string (ah y.nm), .string (ah y.tx), .int .i64 y.v, .slice B y.args.length d]] w' fun e w''=>e= .returned (.bool (p y))/\au w' w''):
  Calls prog 151 #[.slice A n c, .func (Fn.func 154) #[] #[]] w fun e w'=>(∃r:Int,e= .returned (.int .i64 r)/\decide (0<=r)=xs.any p)/\au w w':=by
 have hnl:=hR.len;obtain⟨N,hN⟩: ∃N,xs.length=N:=⟨_,rfl⟩
 obtain rfl:n=N:=by omega
 have HR:=G hR;have HF:=G hf;have HE0:=G (aO w);clear hR hf hnl;go_enter func151,ntmps151;go_wp2_with fail
 go_loopw [8] (fun vi wr=> ∃(j:Nat),vi= .int .i64 (j:Int)/\j<=n/\Hid ((xs.take j).any p=false)/\Hid (au w wr)) (fun vi _=>n-(intOf vi).toNat)
 case atStart=>exact⟨0,rfl,aF _,G (by simp),HE0⟩
 case round=>
  obtain⟨j,rfl,hj,HA,HX⟩:=hrel;by_cases hlt:j<n
  ·have hlt':(j:Int)<n:=by omega
   have hjl:j<xs.length:=by omega
   obtain⟨b,o,a,rfl,hb,hP,h0,h1,h2,h3,h4,h5,hRa⟩:=HR.out.at_ j hjl;have HS:=G (gn p hjl);have HG:=G (fun h=>lU p hjl h);have hym:=HF.out _ (ap hjl);generalize xs[j]=y at*;have e0:=(HX.out.cell b _ hb).trans h0;have e1:=(HX.out.cell b _ hb).trans h1;have e2:=(HX.out.cell b _ hb).trans h2;have e3:=(HX.out.cell b _ hb).trans h3;have e4:=(HX.out.cell b _ hb).trans h4;have e5:=(HX.out.cell b _ hb).trans h5;obtain⟨B,d,rfl,_⟩:=hRa.form;have HRa:=G (hRa.keep (.of_ext HX.out) (Q:=P) (fun b hb _=>hb));clear hRa;have HY:=G (hym wr B d HRa.out);clear h0 h1 h2 h3 h4 h5;clear hym
   cases hp:p y with
   |true=>
    rw[hp]at HY;have HQ:=G (HG.out hp);clear hp;go_wp2_with (refine HY.out.mono ?_;rintro e w3 ⟨rfl,hE⟩;have HZ:=G (HX.out.trans hE);clear hE);go_ret;exact⟨⟨j,rfl,by rw[HQ.out];simp⟩,HZ.out⟩
   |false=>
    rw[hp]at HY;have HQ:=G (show(xs.take (j+1)).any p=false by rw[HS.out,HA.out,hp];rfl);clear hp;go_wp2_with (refine HY.out.mono ?_;rintro e w3 ⟨rfl,hE⟩;have HZ:=G (HX.out.trans hE);clear hE);go_roundw
    case rel=>exact⟨j+1,by go_num,by omega,HQ,HZ⟩
    case measure=>simp[intOf];omega
  ·have hlt': ¬(j:Int)<n:=by omega
   have hjN:j=n:=by omega
   subst hjN;have HQ:=G (show xs.any p=false by have:=HA.out;rwa [<-hN,bD]at this);go_wp2_with fail;go_ret;exact⟨⟨-1,rfl,by rw[HQ.out];rfl⟩,HX.out⟩
theorem xQ (p:Ex->Bool) (xs:List (Ex)) (P:Nat->Prop) (w:World) (A:Option Addr) (n c:Nat) (hR:cu w P (.slice A n c) xs) (hx:xs.length<=1073741824)
  (hf: ∀y,y∈xs-> ∀(w':World) (B:Option Addr) (d:Nat),cu w' P (.slice B y.args.length d) y.args->Calls prog 154 #[.agg #[.int .i64 y.k, .string (ah y.op), .string (ah y.nm), .string (ah y.tx), .int .i64 y.v, .slice B y.args.length d]] w' fun e w''=>e= .returned (.bool (p y))/\au w' w''):
  Calls prog 113 #[.slice A n c, .func (Fn.func 154) #[] #[]] w fun e w'=>e= .returned (.bool (xs.any p))/\au w w':=by
 have HI:=G (xv p xs P w A n c hR hx hf);clear hR hf;go_enter func113,ntmps113;go_wp2_with (refine HI.out.mono ?_;rintro e w3 ⟨⟨r,rfl,hr⟩,hE⟩;have HR:=G hr;have HZ:=G hE;clear hE hr);go_ret;exact⟨by rw[<-HR.out];rfl,HZ.out⟩
theorem uO (p:Ex->Bool) (xs:List (Ex)) (P:Nat->Prop) (w:World) (A:Option Addr) (n c:Nat) (hR:cu w P (.slice A n c) xs) (hx:xs.length<=1073741824)
  (hf: ∀y,y∈xs-> ∀(w':World) (B:Option Addr) (d:Nat),cu w' P (.slice B y.args.length d) y.args->Calls prog 114 #[.agg #[.int .i64 y.k, .string (ah y.op), .string (ah y.nm), .string (ah y.tx), .int .i64 y.v, .slice B y.args.length d]] w' fun e w''=>e= .returned (.bool (p y))/\au w' w''):
  Calls prog 151 #[.slice A n c, .func (Fn.func 114) #[] #[]] w fun e w'=>(∃r:Int,e= .returned (.int .i64 r)/\decide (0<=r)=xs.any p)/\au w w':=by
 have hnl:=hR.len;obtain⟨N,hN⟩: ∃N,xs.length=N:=⟨_,rfl⟩
 obtain rfl:n=N:=by omega
 have HR:=G hR;have HF:=G hf;have HE0:=G (aO w);clear hR hf hnl;go_enter func151,ntmps151;go_wp2_with fail
 go_loopw [8] (fun vi wr=> ∃(j:Nat),vi= .int .i64 (j:Int)/\j<=n/\Hid ((xs.take j).any p=false)/\Hid (au w wr)) (fun vi _=>n-(intOf vi).toNat)
 case atStart=>exact⟨0,rfl,aF _,G (by simp),HE0⟩
 case round=>
  obtain⟨j,rfl,hj,HA,HX⟩:=hrel;by_cases hlt:j<n
  ·have hlt':(j:Int)<n:=by omega
   have hjl:j<xs.length:=by omega
   obtain⟨b,o,a,rfl,hb,hP,h0,h1,h2,h3,h4,h5,hRa⟩:=HR.out.at_ j hjl;have HS:=G (gn p hjl);have HG:=G (fun h=>lU p hjl h);have hym:=HF.out _ (ap hjl);generalize xs[j]=y at*;have e0:=(HX.out.cell b _ hb).trans h0;have e1:=(HX.out.cell b _ hb).trans h1;have e2:=(HX.out.cell b _ hb).trans h2;have e3:=(HX.out.cell b _ hb).trans h3;have e4:=(HX.out.cell b _ hb).trans h4;have e5:=(HX.out.cell b _ hb).trans h5;obtain⟨B,d,rfl,_⟩:=hRa.form;have HRa:=G (hRa.keep (.of_ext HX.out) (Q:=P) (fun b hb _=>hb));clear hRa;have HY:=G (hym wr B d HRa.out);clear h0 h1 h2 h3 h4 h5;clear hym
   cases hp:p y with
   |true=>
    rw[hp]at HY;have HQ:=G (HG.out hp);clear hp;go_wp2_with (refine HY.out.mono ?_;rintro e w3 ⟨rfl,hE⟩;have HZ:=G (HX.out.trans hE);clear hE);go_ret;exact⟨⟨j,rfl,by rw[HQ.out];simp⟩,HZ.out⟩
   |false=>
    rw[hp]at HY;have HQ:=G (show(xs.take (j+1)).any p=false by rw[HS.out,HA.out,hp];rfl);clear hp;go_wp2_with (refine HY.out.mono ?_;rintro e w3 ⟨rfl,hE⟩;have HZ:=G (HX.out.trans hE);clear hE);go_roundw
    case rel=>exact⟨j+1,by go_num,by omega,HQ,HZ⟩
    case measure=>simp[intOf];omega
  ·have hlt': ¬(j:Int)<n:=by omega
   have hjN:j=n:=by omega
   subst hjN;have HQ:=G (show xs.any p=false by have:=HA.out;rwa [<-hN,bD]at this);go_wp2_with fail;go_ret;exact⟨⟨-1,rfl,by rw[HQ.out];rfl⟩,HX.out⟩
theorem uY (p:Ex->Bool) (xs:List (Ex)) (P:Nat->Prop) (w:World) (A:Option Addr) (n c:Nat) (hR:cu w P (.slice A n c) xs) (hx:xs.length<=1073741824)
  (hf: ∀y,y∈xs-> ∀(w':World) (B:Option Addr) (d:Nat),cu w' P (.slice B y.args.length d) y.args->Calls prog 114 #[.agg #[.int .i64 y.k, .string (ah y.op), .string (ah y.nm), .string (ah y.tx), .int .i64 y.v, .slice B y.args.length d]] w' fun e w''=>e= .returned (.bool (p y))/\au w' w''):
  Calls prog 113 #[.slice A n c, .func (Fn.func 114) #[] #[]] w fun e w'=>e= .returned (.bool (xs.any p))/\au w w':=by
 have HI:=G (uO p xs P w A n c hR hx hf);clear hR hf;go_enter func113,ntmps113;go_wp2_with (refine HI.out.mono ?_;rintro e w3 ⟨⟨r,rfl,hr⟩,hE⟩;have HR:=G hr;have HZ:=G hE;clear hE hr);go_ret;exact⟨by rw[<-HR.out];rfl,HZ.out⟩
theorem xr (p:St->Bool) (xs:List (St)) (P:Nat->Prop) (w:World) (A:Option Addr) (n c:Nat) (hR:cK w P (.slice A n c) xs) (hx:xs.length<=1073741824)
  (hf: ∀y,y∈xs-> ∀(w':World) (B B' B'':Option Addr) (d d' d'':Nat),(cu w' P (.slice B y.ex.length d) y.ex/\cK w' P (.slice B' y.body.length d') y.body/\cK w' P (.slice B'' y.els.length d'') y.els)->Calls prog 117 #[.agg #[.int .i64 y.k, .string (ah y.nm), .slice B y.ex.length d, .slice B' y.body.length d', .slice B'' y.els.length d'']] w' fun e w''=>e= .returned (.bool (p y))/\au w' w''):
  Calls prog 155 #[.slice A n c, .func (Fn.func 117) #[] #[]] w fun e w'=>(∃r:Int,e= .returned (.int .i64 r)/\decide (0<=r)=xs.any p)/\au w w':=by
 have hnl:=hR.len;obtain⟨N,hN⟩: ∃N,xs.length=N:=⟨_,rfl⟩
 obtain rfl:n=N:=by omega
 have HR:=G hR;have HF:=G hf;have HE0:=G (aO w);clear hR hf hnl;go_enter func155,ntmps155;go_wp2_with fail
 go_loopw [8] (fun vi wr=> ∃(j:Nat),vi= .int .i64 (j:Int)/\j<=n/\Hid ((xs.take j).any p=false)/\Hid (au w wr)) (fun vi _=>n-(intOf vi).toNat)
 case atStart=>exact⟨0,rfl,aF _,G (by simp),HE0⟩
 case round=>
  obtain⟨j,rfl,hj,HA,HX⟩:=hrel;by_cases hlt:j<n
  ·have hlt':(j:Int)<n:=by omega
   have hjl:j<xs.length:=by omega
   obtain⟨b,o,u,v,z,rfl,hb,hP,h0,h1,h2,h3,h4,hRa,hRb,hRc⟩:=HR.out.at_ j hjl;have HS:=G (gn p hjl);have HG:=G (fun h=>lU p hjl h);have hym:=HF.out _ (ap hjl);generalize xs[j]=y at*;have e0:=(HX.out.cell b _ hb).trans h0;have e1:=(HX.out.cell b _ hb).trans h1;have e2:=(HX.out.cell b _ hb).trans h2;have e3:=(HX.out.cell b _ hb).trans h3;have e4:=(HX.out.cell b _ hb).trans h4;obtain⟨B,d,rfl,_⟩:=hRa.form;obtain⟨B',d',rfl,_⟩:=hRb.form;obtain⟨B'',d'',rfl,_⟩:=hRc.form;have HRa:=G (show cu wr P _ _/\cK wr P _ _/\cK wr P _ _ from⟨hRa.keep (.of_ext HX.out) (fun b hb _=>hb),hRb.keep (.of_ext HX.out) (fun b hb _=>hb),hRc.keep (.of_ext HX.out) (fun b hb _=>hb)⟩);clear hRa hRb hRc;have HY:=G (hym wr B B' B'' d d' d'' HRa.out);clear h0 h1 h2 h3 h4;clear hym
   cases hp:p y with
   |true=>
    rw[hp]at HY;have HQ:=G (HG.out hp);clear hp;go_wp2_with (refine HY.out.mono ?_;rintro e w3 ⟨rfl,hE⟩;have HZ:=G (HX.out.trans hE);clear hE);go_ret;exact⟨⟨j,rfl,by rw[HQ.out];simp⟩,HZ.out⟩
   |false=>
    rw[hp]at HY;have HQ:=G (show(xs.take (j+1)).any p=false by rw[HS.out,HA.out,hp];rfl);clear hp;go_wp2_with (refine HY.out.mono ?_;rintro e w3 ⟨rfl,hE⟩;have HZ:=G (HX.out.trans hE);clear hE);go_roundw
    case rel=>exact⟨j+1,by go_num,by omega,HQ,HZ⟩
    case measure=>simp[intOf];omega
  ·have hlt': ¬(j:Int)<n:=by omega
   have hjN:j=n:=by omega
   subst hjN;have HQ:=G (show xs.any p=false by have:=HA.out;rwa [<-hN,bD]at this);go_wp2_with fail;go_ret;exact⟨⟨-1,rfl,by rw[HQ.out];rfl⟩,HX.out⟩
theorem xO (p:St->Bool) (xs:List (St)) (P:Nat->Prop) (w:World) (A:Option Addr) (n c:Nat) (hR:cK w P (.slice A n c) xs) (hx:xs.length<=1073741824)
  (hf: ∀y,y∈xs-> ∀(w':World) (B B' B'':Option Addr) (d d' d'':Nat),(cu w' P (.slice B y.ex.length d) y.ex/\cK w' P (.slice B' y.body.length d') y.body/\cK w' P (.slice B'' y.els.length d'') y.els)->Calls prog 117 #[.agg #[.int .i64 y.k, .string (ah y.nm), .slice B y.ex.length d, .slice B' y.body.length d', .slice B'' y.els.length d'']] w' fun e w''=>e= .returned (.bool (p y))/\au w' w''):
  Calls prog 116 #[.slice A n c, .func (Fn.func 117) #[] #[]] w fun e w'=>e= .returned (.bool (xs.any p))/\au w w':=by
 have HI:=G (xr p xs P w A n c hR hx hf);clear hR hf;go_enter func116,ntmps116;go_wp2_with (refine HI.out.mono ?_;rintro e w3 ⟨⟨r,rfl,hr⟩,hE⟩;have HR:=G hr;have HZ:=G hE;clear hE hr);go_ret;exact⟨by rw[<-HR.out];rfl,HZ.out⟩
theorem xu (p:List UInt8->Bool) (xs:List (List UInt8)) (P:Nat->Prop) (w:World) (A:Option Addr) (n c:Nat) (hR:lk w P (.slice A n c) xs) (hx:xs.length<=1073741824)
  (hf: ∀y,y∈xs-> ∀(w':World),True->Calls prog 68 #[.string (ah y)] w' fun e w''=>e= .returned (.bool (p y))/\au w' w''):
  Calls prog 110 #[.slice A n c, .func (Fn.func 68) #[] #[]] w fun e w'=>(∃r:Int,e= .returned (.int .i64 r)/\decide (0<=r)=xs.any p)/\au w w':=by
 have hnl:=hR.len;obtain⟨N,hN⟩: ∃N,xs.length=N:=⟨_,rfl⟩
 obtain rfl:n=N:=by omega
 have HR:=G hR;have HF:=G hf;have HE0:=G (aO w);clear hR hf hnl;go_enter func110,ntmps110;go_wp2_with fail
 go_loopw [8] (fun vi wr=> ∃(j:Nat),vi= .int .i64 (j:Int)/\j<=n/\Hid ((xs.take j).any p=false)/\Hid (au w wr)) (fun vi _=>n-(intOf vi).toNat)
 case atStart=>exact⟨0,rfl,aF _,G (by simp),HE0⟩
 case round=>
  obtain⟨j,rfl,hj,HA,HX⟩:=hrel;by_cases hlt:j<n
  ·have hlt':(j:Int)<n:=by omega
   have hjl:j<xs.length:=by omega
   obtain⟨b,o,rfl,hb,h0⟩:=AU HR.out j hjl;have HS:=G (gn p hjl);have HG:=G (fun h=>lU p hjl h);have hym:=HF.out _ (ap hjl);generalize xs[j]=y at*;have e0:=(HX.out.cell b _ hb).trans h0
   skip
   have HY:=G (hym wr  trivial);clear h0;clear hym
   cases hp:p y with
   |true=>
    rw[hp]at HY;have HQ:=G (HG.out hp);clear hp;go_wp2_with (refine HY.out.mono ?_;rintro e w3 ⟨rfl,hE⟩;have HZ:=G (HX.out.trans hE);clear hE);go_ret;exact⟨⟨j,rfl,by rw[HQ.out];simp⟩,HZ.out⟩
   |false=>
    rw[hp]at HY;have HQ:=G (show(xs.take (j+1)).any p=false by rw[HS.out,HA.out,hp];rfl);clear hp;go_wp2_with (refine HY.out.mono ?_;rintro e w3 ⟨rfl,hE⟩;have HZ:=G (HX.out.trans hE);clear hE);go_roundw
    case rel=>exact⟨j+1,by go_num,by omega,HQ,HZ⟩
    case measure=>simp[intOf];omega
  ·have hlt': ¬(j:Int)<n:=by omega
   have hjN:j=n:=by omega
   subst hjN;have HQ:=G (show xs.any p=false by have:=HA.out;rwa [<-hN,bD]at this);go_wp2_with fail;go_ret;exact⟨⟨-1,rfl,by rw[HQ.out];rfl⟩,HX.out⟩
theorem xP (p:List UInt8->Bool) (xs:List (List UInt8)) (P:Nat->Prop) (w:World) (A:Option Addr) (n c:Nat) (hR:lk w P (.slice A n c) xs) (hx:xs.length<=1073741824)
  (hf: ∀y,y∈xs-> ∀(w':World),True->Calls prog 68 #[.string (ah y)] w' fun e w''=>e= .returned (.bool (p y))/\au w' w''):
  Calls prog 67 #[.slice A n c, .func (Fn.func 68) #[] #[]] w fun e w'=>e= .returned (.bool (xs.any p))/\au w w':=by
 have HI:=G (xu p xs P w A n c hR hx hf);clear hR hf;go_enter func67,ntmps67;go_wp2_with (refine HI.out.mono ?_;rintro e w3 ⟨⟨r,rfl,hr⟩,hE⟩;have HR:=G hr;have HZ:=G hE;clear hE hr);go_ret;exact⟨by rw[<-HR.out];rfl,HZ.out⟩
end
section
open Go.RowKit
theorem zh (c:UInt8):yu c=(decide (32<=(c.toNat:Int))&&decide ((c.toNat:Int)<=126)||(c.toNat:Int)==10||(c.toNat:Int)==9||(c.toNat:Int)==0):=by
 have h10:=dF c 10 (by omega);have h9:=dF c 9 (by omega);have h0:=dF c 0 (by omega);have e10:(((10:Nat):Int))=10:=rfl;have e9:(((9:Nat):Int))=9:=rfl;have e0:(((0:Nat):Int))=0:=rfl;rw[e10]at h10;rw[e9]at h9;rw[e0]at h0;rw[h10,h9,h0];unfold yu
 congr 3
 rw[jB];simp only[decide_eq_true_eq,ai];omega
theorem ze {l:List UInt8} {j:Nat} (h:j<l.length) (hp:yu l[j]=false):pR l=false:=by
 unfold pR;rw[tR yu h hp];rfl
theorem uy (l:List UInt8) (hl:l.length<=1073741824) (w:World):Calls prog 152 #[.string (ah l)] w fun e w'=>e= .returned (.bool (pR l))/\au w w':=by
 have hsz:(ah l).size=l.length:=a6 l;have HE0:=G (aO w);go_enter func152,ntmps152;go_wp2_with fail
 go_loopw [7] (fun vi wr=> ∃j:Nat,vi= .int .i64 (j:Int)/\j<=l.length/\Hid ((l.take j).all yu=true)/\Hid (au w wr)) (fun vi _=>l.length-(intOf vi).toNat)
 case atStart=>exact⟨0,rfl,aF _,G (by simp),HE0⟩
 case round=>
  obtain⟨j,rfl,hj,HA,HX⟩:=hrel;by_cases hlt:j<l.length
  ·have hjs:j<(ah l).size:=by rw[a6];exact hlt
   have hg:=lq l j hjs;have hlt':(j:Int)<l.length:=by omega
   have HS:=G (kL yu hlt);have HBad:=G (fun h=>ze hlt h);generalize l[j]'hlt=c at*;have HC:=G (zh c);have hc256:(c.toNat:Int)<256:=by have:=c.toNat_lt;omega
   have HJ:=G (fun(h:yu c=true)=>show(l.take (j+1)).all yu=true by rw[HS.out,HA.out,h];rfl);clear HS HA;by_cases h32:32<=(c.toNat:Int)/\(c.toNat:Int)<=126
   ·obtain⟨a1,a2⟩:=h32;have HJ2:=G (HJ.out (by rw[HC.out,decide_eq_true a1,decide_eq_true a2];rfl));clear HJ HC;go_wp2_with fail;go_roundw
    case rel=>exact⟨j+1,by go_num,by omega,HJ2,HX⟩
    case measure=>simp[intOf];omega
   ·cases h10:((c.toNat:Int)==10)with
    |true=>
     have HJ2:=G (HJ.out (by rw[HC.out,h10];simp));have h10n:((c.toNat:Int) !=10)=false:=by rw[bne,h10];rfl
     have hn:(c.toNat:Int)<32:=by rw[beq_iff_eq]at h10;omega
     clear HJ HC h32;go_wp2_with fail;go_roundw
     case rel=>exact⟨j+1,by go_num,by omega,HJ2,HX⟩
     case measure=>simp[intOf];omega
    |false=>
     have h10n:((c.toNat:Int) !=10)=true:=by rw[bne,h10];rfl
     cases h9:((c.toNat:Int)==9)with
     |true=>
      have HJ2:=G (HJ.out (by rw[HC.out,h9];simp));have h9n:((c.toNat:Int) !=9)=false:=by rw[bne,h9];rfl
      have hn:(c.toNat:Int)<32:=by rw[beq_iff_eq]at h9;omega
      clear HJ HC h32;go_wp2_with fail;go_roundw
      case rel=>exact⟨j+1,by go_num,by omega,HJ2,HX⟩
      case measure=>simp[intOf];omega
     |false=>
      have h9n:((c.toNat:Int) !=9)=true:=by rw[bne,h9];rfl
      cases h0:((c.toNat:Int)==0)with
      |true=>
       have HJ2:=G (HJ.out (by rw[HC.out,h0];simp));have h0n:((c.toNat:Int) !=0)=false:=by rw[bne,h0];rfl
       have hn:(c.toNat:Int)<32:=by rw[beq_iff_eq]at h0;omega
       clear HJ HC h32;go_wp2_with fail;go_roundw
       case rel=>exact⟨j+1,by go_num,by omega,HJ2,HX⟩
       case measure=>simp[intOf];omega
      |false=>
       have h0n:((c.toNat:Int) !=0)=true:=by rw[bne,h0];rfl
       have HF:=G (HBad.out (by rw[HC.out,h10,h9,h0,<-Bool.decide_and,decide_eq_false h32];rfl));clear HJ HC;by_cases hn:(c.toNat:Int)<32
       ·clear h32;go_wp2_with fail;go_ret;exact⟨by rw[HF.out];rfl,HX.out⟩
       ·have hn2:126<(c.toNat:Int):=by omega
        clear h32;go_wp2_with fail;go_ret;exact⟨by rw[HF.out];rfl,HX.out⟩
  ·have hlt': ¬(j:Int)<l.length:=by omega
   have hj':j=l.length:=by omega
   subst hj';have HQ:=G (show l.all yu=true by have:=HA.out;rwa [bD]at this);clear HA;by_cases h128:l.length<=128
   ·have h128':(l.length:Int)<=128:=by omega
    go_wp2_with fail;go_ret;exact⟨by unfold pR;rw[HQ.out,decide_eq_true h128];rfl,HX.out⟩
   ·have h128': ¬(l.length:Int)<=128:=by omega
    go_wp2_with fail;go_ret;exact⟨by unfold pR;rw[decide_eq_false h128,Bool.and_false];rfl,HX.out⟩
def Ex.prec (x:Ex):Int:=if x.k=7 then ky x.op else if x.k=6 then 7 else 8
theorem lB (x:Ex) (w:World) (V:Value) (hV: ∃A n c,V= .slice A n c):Calls prog 217 #[.agg #[.int .i64 x.k, .string (ah x.op), .string (ah x.nm), .string (ah x.tx), .int .i64 x.v,V]] w fun e w'=>e= .returned (.int .i64 x.prec)/\au w w':=by
 obtain⟨A,n,c,rfl⟩:=hV;have HE0:=G (I w (.cells #[.int .i64 x.k, .string (ah x.op), .string (ah x.nm), .string (ah x.tx), .int .i64 x.v, .slice A n c] 70));have HL:=G (fun w=>kr x.op w);have HP:=G (show x.prec=if x.k=7 then ky x.op else if x.k=6 then 7 else 8 from rfl);generalize x.k=k at*;by_cases h7:k=7
 ·subst h7;go_enter func217,ntmps217;go_wp2_with (refine(HL.out _).mono ?_;rintro e w' ⟨rfl,rfl⟩);go_ret;exact⟨by rw[HP.out];rfl,HE0.out⟩
 ·by_cases h6:k=6
  ·subst h6;go_enter func217,ntmps217;go_wp2_with fail;go_ret;exact⟨by rw[HP.out];rfl,HE0.out⟩
  ·have h7':(k==7)=false:=beq_eq_false_iff_ne.2 h7;have h6':(k==6)=false:=beq_eq_false_iff_ne.2 h6;have HQ:=G (show x.prec=8 by rw[HP.out,if_neg h7,if_neg h6]);clear HP;go_enter func217,ntmps217;go_wp2_with fail;go_ret;exact⟨by rw[HQ.out];rfl,HE0.out⟩
end
end Go.Proofs.YtddomeddabfinaaGreatDoor
