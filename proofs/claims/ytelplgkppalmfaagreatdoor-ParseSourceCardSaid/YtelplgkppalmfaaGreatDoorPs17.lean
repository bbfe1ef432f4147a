/-
  Parts of the proof: VaA VaB VaC VaD.
-/
import Derived.Test.YtelplgkppalmfaaGreatDoorPs00
import Derived.Test.YtelplgkppalmfaaGreatDoorPs14
import Derived.Test.YtelplgkppalmfaaGreatDoorPs16
set_option maxRecDepth 100000
set_option maxHeartbeats 8000000
set_option linter.unusedVariables false
set_option linter.unusedSimpArgs false
namespace Go.Proofs.YtelplgkppalmfaaGreatDoor
open Go.Proofs.Tryz
section
open Go.RowKit
mutual
def Ex.wt:Ex->Nat| .mk _ op nm tx _ a=>1+op.length+nm.length+tx.length+gv a
def gv:List Ex->Nat| []=>0|x::r=>x.wt+gv r
end
mutual
def St.wt:St->Nat| .mk _ nm e b l=>1+nm.length+gv e+fQ b+fQ l
def fQ:List St->Nat| []=>0|x::r=>x.wt+fQ r
end
theorem Ex.wt_eq (x:Ex):x.wt=1+x.op.length+x.nm.length+x.tx.length+gv x.args:=by cases x;rfl
theorem St.wt_eq (x:St):x.wt=1+x.nm.length+gv x.ex+fQ x.body+fQ x.els:=by cases x;rfl
theorem oB: ∀a b,gv (a++b)=gv a+gv b
 | [],b=>by simp[gv]
 |x::r,b=>by simp[gv,oB r b];omega
theorem rF: ∀a b,fQ (a++b)=fQ a+fQ b
 | [],b=>by simp[fQ]
 |x::r,b=>by simp[fQ,rF r b];omega
theorem ei {x:Ex}: ∀{l:List Ex},x∈l->x.wt<=gv l
 |y::r,h=>by
  rcases List.mem_cons.1 h with rfl|h
  ·simp[gv]
  ·have:=ei h;simp[gv];omega
theorem dC {x:St}: ∀{l:List St},x∈l->x.wt<=fQ l
 |y::r,h=>by
  rcases List.mem_cons.1 h with rfl|h
  ·simp[fQ]
  ·have:=dC h;simp[fQ];omega
theorem ed: ∀l,l.length<=gv l
 | []=>ag _
 |x::r=>by have:=ed r;have:=x.wt_eq;simp[gv];omega
theorem eX: ∀l,l.length<=fQ l
 | []=>ag _
 |x::r=>by have:=eX r;have:=x.wt_eq;simp[fQ];omega
mutual
def Ex.dep:Ex->Nat| .mk _ _ _ _ _ a=>eh a+1
def eh:List Ex->Nat| []=>0|x::r=>max x.dep (eh r)
end
mutual
def St.dep:St->Nat| .mk _ _ e b l=>max (eh e) (max (dU b) (dU l))+1
def dU:List St->Nat| []=>0|x::r=>max x.dep (dU r)
end
theorem Ex.dep_eq (x:Ex):x.dep=eh x.args+1:=by cases x;rfl
theorem St.dep_eq (x:St):x.dep=max (eh x.ex) (max (dU x.body) (dU x.els))+1:=by cases x;rfl
theorem jX: ∀a b,eh (a++b)=max (eh a) (eh b)
 | [],b=>by simp[eh]
 |x::r,b=>by simp[eh,jX r b,Nat.max_assoc]
theorem jg: ∀a b,dU (a++b)=max (dU a) (dU b)
 | [],b=>by simp[dU]
 |x::r,b=>by simp[dU,jg r b,Nat.max_assoc]
mutual
theorem Ex.dep_le: ∀x:Ex,x.dep<=x.wt
 | .mk _ _ _ _ _ a=>by have:=jv a;simp only[Ex.dep,Ex.wt];omega
theorem jv: ∀l:List Ex,eh l<=gv l
 | []=>ag _
 |x::r=>by have:=x.dep_le;have:=jv r;simp only[eh,gv];omega
end
mutual
theorem St.dep_le: ∀x:St,x.dep<=x.wt
 | .mk _ _ e b l=>by have:=jv e;have:=gX b;have:=gX l;simp only[St.dep,St.wt];omega
theorem gX: ∀l:List St,dU l<=fQ l
 | []=>ag _
 |x::r=>by have:=x.dep_le;have:=gX r;simp only[dU,fQ];omega
end
def kA (l:List UInt8):Bool:=l.all rs&&decide (l.length<=128)
mutual
def Ex.ok:Ex->Bool
 | .mk k op nm tx v a=>
  (if k=1 then(decide (0<=v)&&decide (v<=2147483647))&&(op==[]&&nm==[]&&tx==[])&&a.length==0
  else if k=2 then kA tx&&(op==[]&&nm==[]&&v==0)&&a.length==0
  else if k=3 then cn nm&&(op==[]&&tx==[]&&v==0)&&a.length==0
  else if k=4 then cn nm&&(op==[]&&tx==[]&&v==0)&&a.length==1
  else if k=5 then(cn nm&&decide (a.length<=4))&&(op==[]&&tx==[]&&v==0)
  else if k=6 then(op==[45]||op==[33])&&(nm==[]&&tx==[]&&v==0)&&a.length==1
  else if k=7 then decide (0<eW op)&&(nm==[]&&tx==[]&&v==0)&&a.length==2
  else false)&&iR a
def iR:List Ex->Bool| []=>true|x::r=>x.ok&&iR r
end
theorem iH: ∀l,iR l=l.all Ex.ok
 | []=>rfl
 |x::r=>by simp[iR,iH r]
mutual
def St.ok:St->Bool
 | .mk k nm e b l=>
  (if k=1 then cn nm&&decide (e.length<=1)&&b.length==0&&l.length==0
  else if k=2 then cn nm&&e.length==1&&b.length==0&&l.length==0
  else if k=3 then cn nm&&e.length==2&&b.length==0&&l.length==0
  else if k=4 then nm==[]&&e.length==1
  else if k=5 then nm==[]&&e.length==1&&l.length==0
  else if k=6 then nm==[]&&decide (e.length<=1)&&b.length==0&&l.length==0
  else if k=7 then nm==[]&&e.length==1&&(e.head?.map Ex.k==some 5)&&b.length==0&&l.length==0
  else false)&&iR e&&(lq b&&lq l)
def lq:List St->Bool| []=>true|x::r=>x.ok&&lq r
end
theorem fD: ∀l,lq l=l.all St.ok
 | []=>rfl
 |x::r=>by simp[lq,fD r]
end
section
open Go.RowKit
theorem ka {l:List Ex} {j:Nat} (h:j<l.length):eh (l.take (j+1))=max (eh (l.take j)) l[j].dep:=by
 rw[aF h,jX];simp[eh]
theorem r_: ∀(m:Nat) (x:Ex),x.wt<=m->x.wt<=1073741824-> ∀(P:Nat->Prop) (w:World) (A:Option Addr) (n c:Nat),bZ w P (.slice A n c) x.args->
  Calls prog 78 #[.agg #[.int .i64 x.k, .string (ae x.op), .string (ae x.nm), .string (ae x.tx), .int .i64 x.v, .slice A n c]] w fun e w'=>e= .returned (.int .i64 (x.dep:Int))/\al w w'
 |0,x,hm,_,_,_,_,_,_,_=>absurd hm (by have:=x.wt_eq;omega)
 |m+1,x,hm,hx,P,w,A,n,c,hR=>by
  have HD:=G (x.dep_eq);have hw:=x.wt_eq;have hmem: ∀y,y∈x.args->y.wt<=m:=fun y hy=>by have:=ei hy;omega
  have hdl:=jv x.args;have hnl:=ed x.args;have HIH:=G (r_ m);obtain⟨k,op,nm,tx,v,xs⟩:=x;simp only[Ex.k,Ex.op,Ex.nm,Ex.tx,Ex.v,Ex.args]at*;obtain⟨A',c',hv,hf⟩:=hR.form;injection hv with hv1 hv2 hv3;subst hv1 hv2 hv3;have HR:=G hR;obtain⟨N,hN⟩: ∃N,xs.length=N:=⟨_,rfl⟩
  rw[hN]at HR;have HE0:=G (O w (.cells #[.int .i64 k, .string (ae op), .string (ae nm), .string (ae tx), .int .i64 v, .slice A N c] 131));clear hR hf;rw[hN];go_enter func78,ntmps78;go_wp2_with fail
  go_loopw [3,9] (fun vd vi wr=> ∃(j:Nat),vi= .int .i64 (j:Int)/\j<=N/\vd= .int .i64 (eh (xs.take j):Int)/\Hid (al w wr)) (fun _ vi _=>N-(intOf vi).toNat)
  case atStart=>exact⟨0,rfl,aB _,by simp[eh],HE0⟩
  case round=>
   obtain⟨j,rfl,hj,rfl,HX⟩:=hrel;have hdj:eh (xs.take j)<=1073741824:=by
    have:=jX (xs.take j) (xs.drop j);rw[bN]at this;omega
   by_cases hlt:j<N
   ·have hlt':(j:Int)<N:=by omega
    have hjl:j<xs.length:=by omega
    obtain⟨b,o,a,rfl,hb,hP,h0,h1,h2,h3,h4,h5,hRa⟩:=HR.out.at_ j hjl;have HS:=G (ka hjl);have hyw:=ei (aE hjl);have hym:=hmem _ (aE hjl);generalize xs[j]=y at*;have e0:=(HX.out.cell b _ hb).trans h0;have e1:=(HX.out.cell b _ hb).trans h1;have e2:=(HX.out.cell b _ hb).trans h2;have e3:=(HX.out.cell b _ hb).trans h3;have e4:=(HX.out.cell b _ hb).trans h4;have e5:=(HX.out.cell b _ hb).trans h5;obtain⟨B,d,rfl,_⟩:=hRa.form;have HRa:=G (hRa.keep (.of_ext HX.out) (Q:=P) (fun b hb _=>hb));have hdy:=y.dep_le;clear h0 h1 h2 h3 h4 h5 hRa;go_wp2_with (go_at_call 78;refine(HIH.out y hym (by omega) P _ B _ d (HRa.out.keep (.of_ext (O _ _)) (fun b hb _=>hb))).mono ?_;rintro e w3 ⟨rfl,hE⟩;have HY:=G ((HX.out.alloc' _).trans hE);clear hE);go_roundw
    case rel=>exact⟨j+1,by go_num,by omega,by rw[HS.out];congr 1;omega,HY⟩
    case measure=>simp[intOf];omega
   ·have hlt': ¬(j:Int)<N:=by omega
    have hjN:j=N:=by omega
    subst hjN;have HQ:=G (show eh (xs.take j)=eh xs by rw[<-hN,bE]);rw[HQ.out]at hdj⊢;have hwr:IntKind.i64.wrap ((eh xs:Int)+1)=eh xs+1:=by simp[IntKind.wrap,IntKind.signed,IntKind.bits];omega
    clear hN;go_wp2_with fail;go_ret;exact⟨by rw[HD.out];rfl,HX.out⟩
end
section
open Go.RowKit
theorem gn {α:Type} (p:α->Bool) {l:List α} {j:Nat} (h:j<l.length):(l.take (j+1)).any p=((l.take j).any p||p l[j]):=by
 rw[aF h,List.any_append,kl,List.any_nil,Bool.or_false]
theorem lh {α:Type} (p:α->Bool) {l:List α} {j:Nat} (h:j<l.length) (hp:p l[j]=true):l.any p=true:=by
 rw[List.any_eq_true];exact⟨l[j],aE h,hp⟩
theorem jK.len {w:World} {P:Nat->Prop} {A:Option Addr} {n c:Nat} {ls:List (List UInt8)} (h:jK w P (.slice A n c) ls):n=ls.length:=by
 obtain⟨A',c',hv,_⟩:=h;injection hv with h1 h2 h3
theorem bZ.len {w:World} {P:Nat->Prop} {A:Option Addr} {n c:Nat} {ls:List Ex} (h:bZ w P (.slice A n c) ls):n=ls.length:=by
 obtain⟨A',c',hv,_⟩:=h.form;injection hv with h1 h2 h3
theorem cP.len {w:World} {P:Nat->Prop} {A:Option Addr} {n c:Nat} {ls:List St} (h:cP w P (.slice A n c) ls):n=ls.length:=by
 obtain⟨A',c',hv,_⟩:=h.form;injection hv with h1 h2 h3
theorem mD {w:World} {P:Nat->Prop} {A:Option Addr} {n c:Nat} {ls:List (List UInt8)} (h:jK w P (.slice A n c) ls) (i:Nat) (hi:i<ls.length):
  ∃b o,A=some ⟨b,o,none⟩/\b<w.heap.size/\w.cell? ⟨b,o+i,none⟩=some (.string (ae ls[i])):=by
 obtain⟨A',c',hv,h⟩:=h;injection hv with h1 h2 h3;rcases h with h|h
 ·subst h;simp at hi
 ·obtain⟨_,_,b,o,ha,_,hb,hc⟩:=h;exact⟨b,o,by rw[h1];exact ha,hb,hc i hi⟩
theorem uT (p:Ex->Bool) (xs:List (Ex)) (P:Nat->Prop) (w:World) (A:Option Addr) (n c:Nat) (hR:bZ w P (.slice A n c) xs) (hx:xs.length<=1073741824)
  (hf: ∀y,y∈xs-> ∀(w':World) (B:Option Addr) (d:Nat),bZ w' P (.slice B y.args.length d) y.args->Calls prog 124 #[.agg #[.int .i64 y.k, .string (ae y.op), .string (ae y.nm), .string (ae y.tx), .int .i64 y.v, .slice B y.args.length d]] w' fun e w''=>e= .returned (.bool (p y))/\al w' w''):
  Calls prog 121 #[.slice A n c, .func (Fn.func 124) #[] #[]] w fun e w'=>(∃r:Int,e= .returned (.int .i64 r)/\decide (0<=r)=xs.any p)/\al w w':=by
 have hnl:=hR.len;obtain⟨N,hN⟩: ∃N,xs.length=N:=⟨_,rfl⟩
 obtain rfl:n=N:=by omega
 have HR:=G hR;have HF:=G hf;have HE0:=G (aG w);clear hR hf hnl;go_enter func121,ntmps121;go_wp2_with fail
 go_loopw [8] (fun vi wr=> ∃(j:Nat),vi= .int .i64 (j:Int)/\j<=n/\Hid ((xs.take j).any p=false)/\Hid (al w wr)) (fun vi _=>n-(intOf vi).toNat)
 case atStart=>exact⟨0,rfl,aB _,G (by simp),HE0⟩
 case round=>
  obtain⟨j,rfl,hj,HA,HX⟩:=hrel;by_cases hlt:j<n
  ·have hlt':(j:Int)<n:=by omega
   have hjl:j<xs.length:=by omega
   obtain⟨b,o,a,rfl,hb,hP,h0,h1,h2,h3,h4,h5,hRa⟩:=HR.out.at_ j hjl;have HS:=G (gn p hjl);have HG:=G (fun h=>lh p hjl h);have hym:=HF.out _ (aE hjl);generalize xs[j]=y at*;have e0:=(HX.out.cell b _ hb).trans h0;have e1:=(HX.out.cell b _ hb).trans h1;have e2:=(HX.out.cell b _ hb).trans h2;have e3:=(HX.out.cell b _ hb).trans h3;have e4:=(HX.out.cell b _ hb).trans h4;have e5:=(HX.out.cell b _ hb).trans h5;obtain⟨B,d,rfl,_⟩:=hRa.form;have HRa:=G (hRa.keep (.of_ext HX.out) (Q:=P) (fun b hb _=>hb));clear hRa;have HY:=G (hym wr B d HRa.out);clear h0 h1 h2 h3 h4 h5;clear hym
   cases hp:p y with
   |true=>
    rw[hp]at HY;have HQ:=G (HG.out hp);clear hp;go_wp2_with (refine HY.out.mono ?_;rintro e w3 ⟨rfl,hE⟩;have HZ:=G (HX.out.trans hE);clear hE);go_ret;exact⟨⟨j,rfl,by rw[HQ.out];simp⟩,HZ.out⟩
   |false=>
    rw[hp]at HY;have HQ:=G (show(xs.take (j+1)).any p=false by rw[HS.out,HA.out,hp];rfl);clear hp;go_wp2_with (refine HY.out.mono ?_;rintro e w3 ⟨rfl,hE⟩;have HZ:=G (HX.out.trans hE);clear hE);go_roundw
    case rel=>exact⟨j+1,by go_num,by omega,HQ,HZ⟩
    case measure=>simp[intOf];omega
  ·have hlt': ¬(j:Int)<n:=by omega
   have hjN:j=n:=by omega
   subst hjN;have HQ:=G (show xs.any p=false by have:=HA.out;rwa [<-hN,bE]at this);go_wp2_with fail;go_ret;exact⟨⟨-1,rfl,by rw[HQ.out];rfl⟩,HX.out⟩
theorem vw (p:Ex->Bool) (xs:List (Ex)) (P:Nat->Prop) (w:World) (A:Option Addr) (n c:Nat) (hR:bZ w P (.slice A n c) xs) (hx:xs.length<=1073741824)
  (hf: ∀y,y∈xs-> ∀(w':World) (B:Option Addr) (d:Nat),bZ w' P (.slice B y.args.length d) y.args->Calls prog 124 #[.agg #[.int .i64 y.k, .string (ae y.op), .string (ae y.nm), .string (ae y.tx), .int .i64 y.v, .slice B y.args.length d]] w' fun e w''=>e= .returned (.bool (p y))/\al w' w''):
  Calls prog 80 #[.slice A n c, .func (Fn.func 124) #[] #[]] w fun e w'=>e= .returned (.bool (xs.any p))/\al w w':=by
 have HI:=G (uT p xs P w A n c hR hx hf);clear hR hf;go_enter func80,ntmps80;go_wp2_with (refine HI.out.mono ?_;rintro e w3 ⟨⟨r,rfl,hr⟩,hE⟩;have HR:=G hr;have HZ:=G hE;clear hE hr);go_ret;exact⟨by rw[<-HR.out];rfl,HZ.out⟩
theorem tq (p:Ex->Bool) (xs:List (Ex)) (P:Nat->Prop) (w:World) (A:Option Addr) (n c:Nat) (hR:bZ w P (.slice A n c) xs) (hx:xs.length<=1073741824)
  (hf: ∀y,y∈xs-> ∀(w':World) (B:Option Addr) (d:Nat),bZ w' P (.slice B y.args.length d) y.args->Calls prog 81 #[.agg #[.int .i64 y.k, .string (ae y.op), .string (ae y.nm), .string (ae y.tx), .int .i64 y.v, .slice B y.args.length d]] w' fun e w''=>e= .returned (.bool (p y))/\al w' w''):
  Calls prog 121 #[.slice A n c, .func (Fn.func 81) #[] #[]] w fun e w'=>(∃r:Int,e= .returned (.int .i64 r)/\decide (0<=r)=xs.any p)/\al w w':=by
 have hnl:=hR.len;obtain⟨N,hN⟩: ∃N,xs.length=N:=⟨_,rfl⟩
 obtain rfl:n=N:=by omega
 have HR:=G hR;have HF:=G hf;have HE0:=G (aG w);clear hR hf hnl;go_enter func121,ntmps121;go_wp2_with fail
 go_loopw [8] (fun vi wr=> ∃(j:Nat),vi= .int .i64 (j:Int)/\j<=n/\Hid ((xs.take j).any p=false)/\Hid (al w wr)) (fun vi _=>n-(intOf vi).toNat)
 case atStart=>exact⟨0,rfl,aB _,G (by simp),HE0⟩
 case round=>
  obtain⟨j,rfl,hj,HA,HX⟩:=hrel;by_cases hlt:j<n
  ·have hlt':(j:Int)<n:=by omega
   have hjl:j<xs.length:=by omega
   obtain⟨b,o,a,rfl,hb,hP,h0,h1,h2,h3,h4,h5,hRa⟩:=HR.out.at_ j hjl;have HS:=G (gn p hjl);have HG:=G (fun h=>lh p hjl h);have hym:=HF.out _ (aE hjl);generalize xs[j]=y at*;have e0:=(HX.out.cell b _ hb).trans h0;have e1:=(HX.out.cell b _ hb).trans h1;have e2:=(HX.out.cell b _ hb).trans h2;have e3:=(HX.out.cell b _ hb).trans h3;have e4:=(HX.out.cell b _ hb).trans h4;have e5:=(HX.out.cell b _ hb).trans h5;obtain⟨B,d,rfl,_⟩:=hRa.form;have HRa:=G (hRa.keep (.of_ext HX.out) (Q:=P) (fun b hb _=>hb));clear hRa;have HY:=G (hym wr B d HRa.out);clear h0 h1 h2 h3 h4 h5;clear hym
   cases hp:p y with
   |true=>
    rw[hp]at HY;have HQ:=G (HG.out hp);clear hp;go_wp2_with (refine HY.out.mono ?_;rintro e w3 ⟨rfl,hE⟩;have HZ:=G (HX.out.trans hE);clear hE);go_ret;exact⟨⟨j,rfl,by rw[HQ.out];simp⟩,HZ.out⟩
   |false=>
    rw[hp]at HY;have HQ:=G (show(xs.take (j+1)).any p=false by rw[HS.out,HA.out,hp];rfl);clear hp;go_wp2_with (refine HY.out.mono ?_;rintro e w3 ⟨rfl,hE⟩;have HZ:=G (HX.out.trans hE);clear hE);go_roundw
    case rel=>exact⟨j+1,by go_num,by omega,HQ,HZ⟩
    case measure=>simp[intOf];omega
  ·have hlt': ¬(j:Int)<n:=by omega
   have hjN:j=n:=by omega
   subst hjN;have HQ:=G (show xs.any p=false by have:=HA.out;rwa [<-hN,bE]at this);go_wp2_with fail;go_ret;exact⟨⟨-1,rfl,by rw[HQ.out];rfl⟩,HX.out⟩
theorem tC (p:Ex->Bool) (xs:List (Ex)) (P:Nat->Prop) (w:World) (A:Option Addr) (n c:Nat) (hR:bZ w P (.slice A n c) xs) (hx:xs.length<=1073741824)
  (hf: ∀y,y∈xs-> ∀(w':World) (B:Option Addr) (d:Nat),bZ w' P (.slice B y.args.length d) y.args->Calls prog 81 #[.agg #[.int .i64 y.k, .string (ae y.op), .string (ae y.nm), .string (ae y.tx), .int .i64 y.v, .slice B y.args.length d]] w' fun e w''=>e= .returned (.bool (p y))/\al w' w''):
  Calls prog 80 #[.slice A n c, .func (Fn.func 81) #[] #[]] w fun e w'=>e= .returned (.bool (xs.any p))/\al w w':=by
 have HI:=G (tq p xs P w A n c hR hx hf);clear hR hf;go_enter func80,ntmps80;go_wp2_with (refine HI.out.mono ?_;rintro e w3 ⟨⟨r,rfl,hr⟩,hE⟩;have HR:=G hr;have HZ:=G hE;clear hE hr);go_ret;exact⟨by rw[<-HR.out];rfl,HZ.out⟩
theorem uR (p:St->Bool) (xs:List (St)) (P:Nat->Prop) (w:World) (A:Option Addr) (n c:Nat) (hR:cP w P (.slice A n c) xs) (hx:xs.length<=1073741824)
  (hf: ∀y,y∈xs-> ∀(w':World) (B B' B'':Option Addr) (d d' d'':Nat),(bZ w' P (.slice B y.ex.length d) y.ex/\cP w' P (.slice B' y.body.length d') y.body/\cP w' P (.slice B'' y.els.length d'') y.els)->Calls prog 84 #[.agg #[.int .i64 y.k, .string (ae y.nm), .slice B y.ex.length d, .slice B' y.body.length d', .slice B'' y.els.length d'']] w' fun e w''=>e= .returned (.bool (p y))/\al w' w''):
  Calls prog 125 #[.slice A n c, .func (Fn.func 84) #[] #[]] w fun e w'=>(∃r:Int,e= .returned (.int .i64 r)/\decide (0<=r)=xs.any p)/\al w w':=by
 have hnl:=hR.len;obtain⟨N,hN⟩: ∃N,xs.length=N:=⟨_,rfl⟩
 obtain rfl:n=N:=by omega
 have HR:=G hR;have HF:=G hf;have HE0:=G (aG w);clear hR hf hnl;go_enter func125,ntmps125;go_wp2_with fail
 go_loopw [8] (fun vi wr=> ∃(j:Nat),vi= .int .i64 (j:Int)/\j<=n/\Hid ((xs.take j).any p=false)/\Hid (al w wr)) (fun vi _=>n-(intOf vi).toNat)
 case atStart=>exact⟨0,rfl,aB _,G (by simp),HE0⟩
 case round=>
  obtain⟨j,rfl,hj,HA,HX⟩:=hrel;by_cases hlt:j<n
  ·have hlt':(j:Int)<n:=by omega
   have hjl:j<xs.length:=by omega
   obtain⟨b,o,u,v,z,rfl,hb,hP,h0,h1,h2,h3,h4,hRa,hRb,hRc⟩:=HR.out.at_ j hjl;have HS:=G (gn p hjl);have HG:=G (fun h=>lh p hjl h);have hym:=HF.out _ (aE hjl);generalize xs[j]=y at*;have e0:=(HX.out.cell b _ hb).trans h0;have e1:=(HX.out.cell b _ hb).trans h1;have e2:=(HX.out.cell b _ hb).trans h2;have e3:=(HX.out.cell b _ hb).trans h3;have e4:=(HX.out.cell b _ hb).trans h4;obtain⟨B,d,rfl,_⟩:=hRa.form;obtain⟨B',d',rfl,_⟩:=hRb.form;obtain⟨B'',d'',rfl,_⟩:=hRc.form;have HRa:=G (show bZ wr P _ _/\cP wr P _ _/\cP wr P _ _ from⟨hRa.keep (.of_ext HX.out) (fun b hb _=>hb),hRb.keep (.of_ext HX.out) (fun b hb _=>hb),hRc.keep (.of_ext HX.out) (fun b hb _=>hb)⟩);clear hRa hRb hRc;have HY:=G (hym wr B B' B'' d d' d'' HRa.out);clear h0 h1 h2 h3 h4;clear hym
   cases hp:p y with
   |true=>
    rw[hp]at HY;have HQ:=G (HG.out hp);clear hp;go_wp2_with (refine HY.out.mono ?_;rintro e w3 ⟨rfl,hE⟩;have HZ:=G (HX.out.trans hE);clear hE);go_ret;exact⟨⟨j,rfl,by rw[HQ.out];simp⟩,HZ.out⟩
   |false=>
    rw[hp]at HY;have HQ:=G (show(xs.take (j+1)).any p=false by rw[HS.out,HA.out,hp];rfl);clear hp;go_wp2_with (refine HY.out.mono ?_;rintro e w3 ⟨rfl,hE⟩;have HZ:=G (HX.out.trans hE);clear hE);go_roundw
    case rel=>exact⟨j+1,by go_num,by omega,HQ,HZ⟩
    case measure=>simp[intOf];omega
  ·have hlt': ¬(j:Int)<n:=by omega
   have hjN:j=n:=by omega
   subst hjN;have HQ:=G (show xs.any p=false by have:=HA.out;rwa [<-hN,bE]at this);go_wp2_with fail;go_ret;exact⟨⟨-1,rfl,by rw[HQ.out];rfl⟩,HX.out⟩
theorem vt (p:St->Bool) (xs:List (St)) (P:Nat->Prop) (w:World) (A:Option Addr) (n c:Nat) (hR:cP w P (.slice A n c) xs) (hx:xs.length<=1073741824)
  (hf: ∀y,y∈xs-> ∀(w':World) (B B' B'':Option Addr) (d d' d'':Nat),(bZ w' P (.slice B y.ex.length d) y.ex/\cP w' P (.slice B' y.body.length d') y.body/\cP w' P (.slice B'' y.els.length d'') y.els)->Calls prog 84 #[.agg #[.int .i64 y.k, .string (ae y.nm), .slice B y.ex.length d, .slice B' y.body.length d', .slice B'' y.els.length d'']] w' fun e w''=>e= .returned (.bool (p y))/\al w' w''):
  Calls prog 83 #[.slice A n c, .func (Fn.func 84) #[] #[]] w fun e w'=>e= .returned (.bool (xs.any p))/\al w w':=by
 have HI:=G (uR p xs P w A n c hR hx hf);clear hR hf;go_enter func83,ntmps83;go_wp2_with (refine HI.out.mono ?_;rintro e w3 ⟨⟨r,rfl,hr⟩,hE⟩;have HR:=G hr;have HZ:=G hE;clear hE hr);go_ret;exact⟨by rw[<-HR.out];rfl,HZ.out⟩
theorem uS (p:List UInt8->Bool) (xs:List (List UInt8)) (P:Nat->Prop) (w:World) (A:Option Addr) (n c:Nat) (hR:jK w P (.slice A n c) xs) (hx:xs.length<=1073741824)
  (hf: ∀y,y∈xs-> ∀(w':World),True->Calls prog 39 #[.string (ae y)] w' fun e w''=>e= .returned (.bool (p y))/\al w' w''):
  Calls prog 77 #[.slice A n c, .func (Fn.func 39) #[] #[]] w fun e w'=>(∃r:Int,e= .returned (.int .i64 r)/\decide (0<=r)=xs.any p)/\al w w':=by
 have hnl:=hR.len;obtain⟨N,hN⟩: ∃N,xs.length=N:=⟨_,rfl⟩
 obtain rfl:n=N:=by omega
 have HR:=G hR;have HF:=G hf;have HE0:=G (aG w);clear hR hf hnl;go_enter func77,ntmps77;go_wp2_with fail
 go_loopw [8] (fun vi wr=> ∃(j:Nat),vi= .int .i64 (j:Int)/\j<=n/\Hid ((xs.take j).any p=false)/\Hid (al w wr)) (fun vi _=>n-(intOf vi).toNat)
 case atStart=>exact⟨0,rfl,aB _,G (by simp),HE0⟩
 case round=>
  obtain⟨j,rfl,hj,HA,HX⟩:=hrel;by_cases hlt:j<n
  ·have hlt':(j:Int)<n:=by omega
   have hjl:j<xs.length:=by omega
   obtain⟨b,o,rfl,hb,h0⟩:=mD HR.out j hjl;have HS:=G (gn p hjl);have HG:=G (fun h=>lh p hjl h);have hym:=HF.out _ (aE hjl);generalize xs[j]=y at*;have e0:=(HX.out.cell b _ hb).trans h0
   skip
   have HY:=G (hym wr  trivial);clear h0;clear hym
   cases hp:p y with
   |true=>
    rw[hp]at HY;have HQ:=G (HG.out hp);clear hp;go_wp2_with (refine HY.out.mono ?_;rintro e w3 ⟨rfl,hE⟩;have HZ:=G (HX.out.trans hE);clear hE);go_ret;exact⟨⟨j,rfl,by rw[HQ.out];simp⟩,HZ.out⟩
   |false=>
    rw[hp]at HY;have HQ:=G (show(xs.take (j+1)).any p=false by rw[HS.out,HA.out,hp];rfl);clear hp;go_wp2_with (refine HY.out.mono ?_;rintro e w3 ⟨rfl,hE⟩;have HZ:=G (HX.out.trans hE);clear hE);go_roundw
    case rel=>exact⟨j+1,by go_num,by omega,HQ,HZ⟩
    case measure=>simp[intOf];omega
  ·have hlt': ¬(j:Int)<n:=by omega
   have hjN:j=n:=by omega
   subst hjN;have HQ:=G (show xs.any p=false by have:=HA.out;rwa [<-hN,bE]at this);go_wp2_with fail;go_ret;exact⟨⟨-1,rfl,by rw[HQ.out];rfl⟩,HX.out⟩
theorem vu (p:List UInt8->Bool) (xs:List (List UInt8)) (P:Nat->Prop) (w:World) (A:Option Addr) (n c:Nat) (hR:jK w P (.slice A n c) xs) (hx:xs.length<=1073741824)
  (hf: ∀y,y∈xs-> ∀(w':World),True->Calls prog 39 #[.string (ae y)] w' fun e w''=>e= .returned (.bool (p y))/\al w' w''):
  Calls prog 38 #[.slice A n c, .func (Fn.func 39) #[] #[]] w fun e w'=>e= .returned (.bool (xs.any p))/\al w w':=by
 have HI:=G (uS p xs P w A n c hR hx hf);clear hR hf;go_enter func38,ntmps38;go_wp2_with (refine HI.out.mono ?_;rintro e w3 ⟨⟨r,rfl,hr⟩,hE⟩;have HR:=G hr;have HZ:=G hE;clear hE hr);go_ret;exact⟨by rw[<-HR.out];rfl,HZ.out⟩
end
section
open Go.RowKit
theorem r5 (c:UInt8):rs c=(decide (32<=(c.toNat:Int))&&decide ((c.toNat:Int)<=126)||(c.toNat:Int)==10||(c.toNat:Int)==9||(c.toNat:Int)==0):=by
 have h10:=bQ c 10 (by omega);have h9:=bQ c 9 (by omega);have h0:=bQ c 0 (by omega);have e10:(((10:Nat):Int))=10:=rfl;have e9:(((9:Nat):Int))=9:=rfl;have e0:(((0:Nat):Int))=0:=rfl;rw[e10]at h10;rw[e9]at h9;rw[e0]at h0;rw[h10,h9,h0];unfold rs
 congr 3
 rw[db];simp only[decide_eq_true_eq,au];omega
theorem rY {l:List UInt8} {j:Nat} (h:j<l.length) (hp:rs l[j]=false):kA l=false:=by
 unfold kA;rw[pu rs h hp];rfl
theorem sW (l:List UInt8) (hl:l.length<=1073741824) (w:World):Calls prog 122 #[.string (ae l)] w fun e w'=>e= .returned (.bool (kA l))/\al w w':=by
 have hsz:(ae l).size=l.length:=aM l;have HE0:=G (aG w);go_enter func122,ntmps122;go_wp2_with fail
 go_loopw [7] (fun vi wr=> ∃j:Nat,vi= .int .i64 (j:Int)/\j<=l.length/\Hid ((l.take j).all rs=true)/\Hid (al w wr)) (fun vi _=>l.length-(intOf vi).toNat)
 case atStart=>exact⟨0,rfl,aB _,G (by simp),HE0⟩
 case round=>
  obtain⟨j,rfl,hj,HA,HX⟩:=hrel;by_cases hlt:j<l.length
  ·have hjs:j<(ae l).size:=by rw[aM];exact hlt
   have hg:=fC l j hjs;have hlt':(j:Int)<l.length:=by omega
   have HS:=G (gp rs hlt);have HBad:=G (fun h=>rY hlt h);generalize l[j]'hlt=c at*;have HC:=G (r5 c);have hc256:(c.toNat:Int)<256:=by have:=c.toNat_lt;omega
   have HJ:=G (fun(h:rs c=true)=>show(l.take (j+1)).all rs=true by rw[HS.out,HA.out,h];rfl);clear HS HA;by_cases h32:32<=(c.toNat:Int)/\(c.toNat:Int)<=126
   ·obtain⟨a1,a2⟩:=h32;have HJ2:=G (HJ.out (by rw[HC.out,decide_eq_true a1,decide_eq_true a2];rfl));clear HJ HC;go_wp2_with fail;go_roundw
    case rel=>exact⟨j+1,by go_num,by omega,HJ2,HX⟩
    case measure=>simp[intOf];omega
   ·cases h10:((c.toNat:Int)==10)with
    |true=>
     have HJ2:=G (HJ.out (by rw[HC.out,h10];simp));have h10n:((c.toNat:Int) !=10)=false:=by rw[bne,h10];rfl
     have hn:(c.toNat:Int)<32:=by rw[beq_iff_eq]at h10;omega
     clear HJ HC h32;go_wp2_with fail;go_roundw
     case rel=>exact⟨j+1,by go_num,by omega,HJ2,HX⟩
     case measure=>simp[intOf];omega
    |false=>
     have h10n:((c.toNat:Int) !=10)=true:=by rw[bne,h10];rfl
     cases h9:((c.toNat:Int)==9)with
     |true=>
      have HJ2:=G (HJ.out (by rw[HC.out,h9];simp));have h9n:((c.toNat:Int) !=9)=false:=by rw[bne,h9];rfl
      have hn:(c.toNat:Int)<32:=by rw[beq_iff_eq]at h9;omega
      clear HJ HC h32;go_wp2_with fail;go_roundw
      case rel=>exact⟨j+1,by go_num,by omega,HJ2,HX⟩
      case measure=>simp[intOf];omega
     |false=>
      have h9n:((c.toNat:Int) !=9)=true:=by rw[bne,h9];rfl
      cases h0:((c.toNat:Int)==0)with
      |true=>
       have HJ2:=G (HJ.out (by rw[HC.out,h0];simp));have h0n:((c.toNat:Int) !=0)=false:=by rw[bne,h0];rfl
       have hn:(c.toNat:Int)<32:=by rw[beq_iff_eq]at h0;omega
       clear HJ HC h32;go_wp2_with fail;go_roundw
       case rel=>exact⟨j+1,by go_num,by omega,HJ2,HX⟩
       case measure=>simp[intOf];omega
      |false=>
       have h0n:((c.toNat:Int) !=0)=true:=by rw[bne,h0];rfl
       have HF:=G (HBad.out (by rw[HC.out,h10,h9,h0,<-jz,decide_eq_false h32];rfl));clear HJ HC;by_cases hn:(c.toNat:Int)<32
       ·clear h32;go_wp2_with fail;go_ret;exact⟨by rw[HF.out];rfl,HX.out⟩
       ·have hn2:126<(c.toNat:Int):=by omega
        clear h32;go_wp2_with fail;go_ret;exact⟨by rw[HF.out];rfl,HX.out⟩
  ·have hlt': ¬(j:Int)<l.length:=by omega
   have hj':j=l.length:=by omega
   subst hj';have HQ:=G (show l.all rs=true by have:=HA.out;rwa [bE]at this);clear HA;by_cases h128:l.length<=128
   ·have h128':(l.length:Int)<=128:=by omega
    go_wp2_with fail;go_ret;exact⟨by unfold kA;rw[HQ.out,decide_eq_true h128];rfl,HX.out⟩
   ·have h128': ¬(l.length:Int)<=128:=by omega
    go_wp2_with fail;go_ret;exact⟨by unfold kA;rw[decide_eq_false h128,cH];rfl,HX.out⟩
def Ex.prec (x:Ex):Int:=if x.k=7 then eW x.op else if x.k=6 then 7 else 8
theorem kT (x:Ex) (w:World) (V:Value) (hV: ∃A n c,V= .slice A n c):Calls prog 181 #[.agg #[.int .i64 x.k, .string (ae x.op), .string (ae x.nm), .string (ae x.tx), .int .i64 x.v,V]] w fun e w'=>e= .returned (.int .i64 x.prec)/\al w w':=by
 obtain⟨A,n,c,rfl⟩:=hV;have HE0:=G (O w (.cells #[.int .i64 x.k, .string (ae x.op), .string (ae x.nm), .string (ae x.tx), .int .i64 x.v, .slice A n c] 131));have HL:=G (fun w=>j9 x.op w);have HP:=G (show x.prec=if x.k=7 then eW x.op else if x.k=6 then 7 else 8 from rfl);generalize x.k=k at*;by_cases h7:k=7
 ·subst h7;go_enter func181,ntmps181;go_wp2_with (refine(HL.out _).mono ?_;rintro e w' ⟨rfl,rfl⟩);go_ret;exact⟨by rw[HP.out];rfl,HE0.out⟩
 ·by_cases h6:k=6
  ·subst h6;go_enter func181,ntmps181;go_wp2_with fail;go_ret;exact⟨by rw[HP.out];rfl,HE0.out⟩
  ·have h7':(k==7)=false:=beq_eq_false_iff_ne.2 h7;have h6':(k==6)=false:=beq_eq_false_iff_ne.2 h6;have HQ:=G (show x.prec=8 by rw[HP.out,if_neg h7,if_neg h6]);clear HP;go_enter func181,ntmps181;go_wp2_with fail;go_ret;exact⟨by rw[HQ.out];rfl,HE0.out⟩
end
end Go.Proofs.YtelplgkppalmfaaGreatDoor
