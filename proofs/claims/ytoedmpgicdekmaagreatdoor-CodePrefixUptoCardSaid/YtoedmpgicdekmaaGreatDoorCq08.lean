/-
  Parts of the proof: VaA VaB VaC VaD VaE VaF VaG.
-/
import Derived.Test.YtoedmpgicdekmaaGreatDoorCq00
import Derived.Test.YtoedmpgicdekmaaGreatDoorCq06
import Derived.Test.YtoedmpgicdekmaaGreatDoorCq07
import Derived.Test.YtoedmpgicdekmaaGreatDoorCq01
set_option maxRecDepth 100000
set_option maxHeartbeats 8000000
set_option linter.unusedVariables false
set_option linter.unusedSimpArgs false
set_option linter.unusedSectionVars false
namespace Go.Proofs.YtoedmpgicdekmaaGreatDoor
open Go.Proofs.Tryz
section
open Go.RowKit
mutual
def Ex.wt:Ex->Nat| .mk _ op nm tx _ a=>1+op.length+nm.length+tx.length+jF a
def jF:List Ex->Nat| []=>0|x::r=>x.wt+jF r
end
mutual
def St.wt:St->Nat| .mk _ nm e b l=>1+nm.length+jF e+gF b+gF l
def gF:List St->Nat| []=>0|x::r=>x.wt+gF r
end
theorem Ex.wt_eq (x:Ex):x.wt=1+x.op.length+x.nm.length+x.tx.length+jF x.args:=by cases x;rfl
theorem St.wt_eq (x:St):x.wt=1+x.nm.length+jF x.ex+gF x.body+gF x.els:=by cases x;rfl
theorem AD: ∀a b,jF (a++b)=jF a+jF b
 | [],b=>by simp[jF]
 |x::r,b=>by simp[jF,AD r b];omega
theorem AC: ∀a b,gF (a++b)=gF a+gF b
 | [],b=>by simp[gF]
 |x::r,b=>by simp[gF,AC r b];omega
theorem dO {x:Ex}: ∀{l:List Ex},x∈l->x.wt<=jF l
 |y::r,h=>by
  rcases List.mem_cons.1 h with rfl|h
  ·simp[jF]
  ·have:=dO h;simp[jF];omega
theorem co {x:St}: ∀{l:List St},x∈l->x.wt<=gF l
 |y::r,h=>by
  rcases List.mem_cons.1 h with rfl|h
  ·simp[gF]
  ·have:=co h;simp[gF];omega
theorem dI: ∀l,l.length<=jF l
 | []=>ah _
 |x::r=>by have:=dI r;have:=x.wt_eq;simp[jF];omega
theorem eo: ∀l,l.length<=gF l
 | []=>ah _
 |x::r=>by have:=eo r;have:=x.wt_eq;simp[gF];omega
mutual
def Ex.dep:Ex->Nat| .mk _ _ _ _ _ a=>fW a+1
def fW:List Ex->Nat| []=>0|x::r=>max x.dep (fW r)
end
mutual
def St.dep:St->Nat| .mk _ _ e b l=>max (fW e) (max (gg b) (gg l))+1
def gg:List St->Nat| []=>0|x::r=>max x.dep (gg r)
end
theorem Ex.dep_eq (x:Ex):x.dep=fW x.args+1:=by cases x;rfl
theorem St.dep_eq (x:St):x.dep=max (fW x.ex) (max (gg x.body) (gg x.els))+1:=by cases x;rfl
theorem lX: ∀a b,fW (a++b)=max (fW a) (fW b)
 | [],b=>by simp[fW]
 |x::r,b=>by simp[fW,lX r b,Nat.max_assoc]
theorem kn: ∀a b,gg (a++b)=max (gg a) (gg b)
 | [],b=>by simp[gg]
 |x::r,b=>by simp[gg,kn r b,Nat.max_assoc]
mutual
theorem Ex.dep_le: ∀x:Ex,x.dep<=x.wt
 | .mk _ _ _ _ _ a=>by have:=lW a;simp only[Ex.dep,Ex.wt];omega
theorem lW: ∀l:List Ex,fW l<=jF l
 | []=>ah _
 |x::r=>by have:=x.dep_le;have:=lW r;simp only[fW,jF];omega
end
mutual
theorem St.dep_le: ∀x:St,x.dep<=x.wt
 | .mk _ _ e b l=>by have:=lW e;have:=lV b;have:=lV l;simp only[St.dep,St.wt];omega
theorem lV: ∀l:List St,gg l<=gF l
 | []=>ah _
 |x::r=>by have:=x.dep_le;have:=lV r;simp only[gg,gF];omega
end
def qG (l:List UInt8):Bool:=l.all Av&&decide (l.length<=128)
mutual
def Ex.ok:Ex->Bool
 | .mk k op nm tx v a=>
  (if k=1 then(decide (0<=v)&&decide (v<=2147483647))&&(op==[]&&nm==[]&&tx==[])&&a.length==0
  else if k=2 then qG tx&&(op==[]&&nm==[]&&v==0)&&a.length==0
  else if k=3 then dV nm&&(op==[]&&tx==[]&&v==0)&&a.length==0
  else if k=4 then dV nm&&(op==[]&&tx==[]&&v==0)&&a.length==1
  else if k=5 then(dV nm&&decide (a.length<=4))&&(op==[]&&tx==[]&&v==0)
  else if k=6 then(op==[45]||op==[33])&&(nm==[]&&tx==[]&&v==0)&&a.length==1
  else if k=7 then decide (0<nC op)&&(nm==[]&&tx==[]&&v==0)&&a.length==2
  else false)&&xy a
def xy:List Ex->Bool| []=>true|x::r=>x.ok&&xy r
end
theorem qJ: ∀l,xy l=l.all Ex.ok
 | []=>rfl
 |x::r=>by simp[xy,qJ r]
mutual
def St.ok:St->Bool
 | .mk k nm e b l=>
  (if k=1 then dV nm&&decide (e.length<=1)&&b.length==0&&l.length==0
  else if k=2 then dV nm&&e.length==1&&b.length==0&&l.length==0
  else if k=3 then dV nm&&e.length==2&&b.length==0&&l.length==0
  else if k=4 then nm==[]&&e.length==1
  else if k=5 then nm==[]&&e.length==1&&l.length==0
  else if k=6 then nm==[]&&decide (e.length<=1)&&b.length==0&&l.length==0
  else if k=7 then nm==[]&&e.length==1&&(e.head?.map Ex.k==some 5)&&b.length==0&&l.length==0
  else false)&&xy e&&(pT b&&pT l)
def pT:List St->Bool| []=>true|x::r=>x.ok&&pT r
end
theorem jw: ∀l,pT l=l.all St.ok
 | []=>rfl
 |x::r=>by simp[pT,jw r]
end
section
open Go.RowKit
theorem p6 {l:List Ex} {j:Nat} (h:j<l.length):fW (l.take (j+1))=max (fW (l.take j)) l[j].dep:=by
 rw[aM h,lX];simp[fW]
theorem vh: ∀(m:Nat) (x:Ex),x.wt<=m->x.wt<=1073741824-> ∀(P:Nat->Prop) (w:World) (A:Option Addr) (n c:Nat),et w P (.slice A n c) x.args->
  Calls prog 111 #[.agg #[.int .i64 x.k, .string (an x.op), .string (an x.nm), .string (an x.tx), .int .i64 x.v, .slice A n c]] w fun e w'=>e= .returned (.int .i64 (x.dep:Int))/\au w w'
 |0,x,hm,_,_,_,_,_,_,_=>absurd hm (by have:=x.wt_eq;omega)
 |m+1,x,hm,hx,P,w,A,n,c,hR=>by
  have HD:=G (x.dep_eq);have hw:=x.wt_eq;have hmem: ∀y,y∈x.args->y.wt<=m:=fun y hy=>by have:=dO hy;omega
  have hdl:=lW x.args;have hnl:=dI x.args;have HIH:=G (vh m);obtain⟨k,op,nm,tx,v,xs⟩:=x;simp only[Ex.k,Ex.op,Ex.nm,Ex.tx,Ex.v,Ex.args]at*;obtain⟨A',c',hv,hf⟩:=hR.form;injection hv with hv1 hv2 hv3;subst hv1 hv2 hv3;have HR:=G hR;obtain⟨N,hN⟩: ∃N,xs.length=N:=⟨_,rfl⟩
  rw[hN]at HR;have HE0:=G (aa w (.cells #[.int .i64 k, .string (an op), .string (an nm), .string (an tx), .int .i64 v, .slice A N c] 206));clear hR hf;rw[hN];go_enter func111,ntmps111;go_wp2_with fail
  go_loopw [3,9] (fun vd vi wr=> ∃(j:Nat),vi= .int .i64 (j:Int)/\j<=N/\vd= .int .i64 (fW (xs.take j):Int)/\Hid (au w wr)) (fun _ vi _=>N-(intOf vi).toNat)
  case atStart=>exact⟨0,rfl,aC _,by simp[fW],HE0⟩
  case round=>
   obtain⟨j,rfl,hj,rfl,HX⟩:=hrel;have hdj:fW (xs.take j)<=1073741824:=by
    have:=lX (xs.take j) (xs.drop j);rw[cM]at this;omega
   by_cases hlt:j<N
   ·have hlt':(j:Int)<N:=by omega
    have hjl:j<xs.length:=by omega
    obtain⟨b,o,a,rfl,hb,hP,h0,h1,h2,h3,h4,h5,hRa⟩:=HR.out.at_ j hjl;have HS:=G (p6 hjl);have hyw:=dO (ap hjl);have hym:=hmem _ (ap hjl);generalize xs[j]=y at*;have e0:=(HX.out.cell b _ hb).trans h0;have e1:=(HX.out.cell b _ hb).trans h1;have e2:=(HX.out.cell b _ hb).trans h2;have e3:=(HX.out.cell b _ hb).trans h3;have e4:=(HX.out.cell b _ hb).trans h4;have e5:=(HX.out.cell b _ hb).trans h5;obtain⟨B,d,rfl,_⟩:=hRa.form;have HRa:=G (hRa.keep (.of_ext HX.out) (Q:=P) (fun b hb _=>hb));have hdy:=y.dep_le;clear h0 h1 h2 h3 h4 h5 hRa;go_wp2_with (go_at_call 111;refine(HIH.out y hym (by omega) P _ B _ d (HRa.out.keep (.of_ext (aa _ _)) (fun b hb _=>hb))).mono ?_;rintro e w3 ⟨rfl,hE⟩;have HY:=G ((HX.out.alloc' _).trans hE);clear hE);go_roundw
    case rel=>exact⟨j+1,by go_num,by omega,by rw[HS.out];congr 1;omega,HY⟩
    case measure=>simp[intOf];omega
   ·have hlt': ¬(j:Int)<N:=by omega
    have hjN:j=N:=by omega
    subst hjN;have HQ:=G (show fW (xs.take j)=fW xs by rw[<-hN,bQ]);rw[HQ.out]at hdj⊢;have hwr:IntKind.i64.wrap ((fW xs:Int)+1)=fW xs+1:=by simp[IntKind.wrap,IntKind.signed,IntKind.bits];omega
    clear hN;go_wp2_with fail;go_ret;exact⟨by rw[HD.out];rfl,HX.out⟩
end
section
open Go.RowKit
theorem gD {α:Type} (p:α->Bool) {l:List α} {j:Nat} (h:j<l.length):(l.take (j+1)).any p=((l.take j).any p||p l[j]):=by
 rw[aM h,List.any_append,gz,List.any_nil,kT]
theorem l9 {α:Type} (p:α->Bool) {l:List α} {j:Nat} (h:j<l.length) (hp:p l[j]=true):l.any p=true:=by
 rw[List.any_eq_true];exact⟨l[j],ap h,hp⟩
theorem pC.len {w:World} {P:Nat->Prop} {A:Option Addr} {n c:Nat} {ls:List (List UInt8)} (h:pC w P (.slice A n c) ls):n=ls.length:=by
 obtain⟨A',c',hv,_⟩:=h;injection hv with h1 h2 h3
theorem et.len {w:World} {P:Nat->Prop} {A:Option Addr} {n c:Nat} {ls:List Ex} (h:et w P (.slice A n c) ls):n=ls.length:=by
 obtain⟨A',c',hv,_⟩:=h.form;injection hv with h1 h2 h3
theorem dS.len {w:World} {P:Nat->Prop} {A:Option Addr} {n c:Nat} {ls:List St} (h:dS w P (.slice A n c) ls):n=ls.length:=by
 obtain⟨A',c',hv,_⟩:=h.form;injection hv with h1 h2 h3
theorem Dj {w:World} {P:Nat->Prop} {A:Option Addr} {n c:Nat} {ls:List (List UInt8)} (h:pC w P (.slice A n c) ls) (i:Nat) (hi:i<ls.length):
  ∃b o,A=some ⟨b,o,none⟩/\b<w.heap.size/\w.cell? ⟨b,o+i,none⟩=some (.string (an ls[i])):=by
 obtain⟨A',c',hv,h⟩:=h;injection hv with h1 h2 h3;rcases h with h|h
 ·subst h;simp at hi
 ·obtain⟨_,_,b,o,ha,_,hb,hc⟩:=h;exact⟨b,o,by rw[h1];exact ha,hb,hc i hi⟩
theorem zo (p:Ex->Bool) (xs:List (Ex)) (P:Nat->Prop) (w:World) (A:Option Addr) (n c:Nat) (hR:et w P (.slice A n c) xs) (hx:xs.length<=1073741824)
  (hf: ∀y,y∈xs-> ∀(w':World) (B:Option Addr) (d:Nat),et w' P (.slice B y.args.length d) y.args->Calls prog 168 #[.agg #[.int .i64 y.k, .string (an y.op), .string (an y.nm), .string (an y.tx), .int .i64 y.v, .slice B y.args.length d]] w' fun e w''=>e= .returned (.bool (p y))/\au w' w''):
  Calls prog 165 #[.slice A n c, .func (Fn.func 168) #[] #[]] w fun e w'=>(∃r:Int,e= .returned (.int .i64 r)/\decide (0<=r)=xs.any p)/\au w w':=by
 have hnl:=hR.len;obtain⟨N,hN⟩: ∃N,xs.length=N:=⟨_,rfl⟩
 obtain rfl:n=N:=by omega
 have HR:=G hR;have HF:=G hf;have HE0:=G (aG w);clear hR hf hnl;go_enter func165,ntmps165;go_wp2_with fail
 go_loopw [8] (fun vi wr=> ∃(j:Nat),vi= .int .i64 (j:Int)/\j<=n/\Hid ((xs.take j).any p=false)/\Hid (au w wr)) (fun vi _=>n-(intOf vi).toNat)
 case atStart=>exact⟨0,rfl,aC _,G (by simp),HE0⟩
 case round=>
  obtain⟨j,rfl,hj,HA,HX⟩:=hrel;by_cases hlt:j<n
  ·have hlt':(j:Int)<n:=by omega
   have hjl:j<xs.length:=by omega
   obtain⟨b,o,a,rfl,hb,hP,h0,h1,h2,h3,h4,h5,hRa⟩:=HR.out.at_ j hjl;have HS:=G (gD p hjl);have HG:=G (fun h=>l9 p hjl h);have hym:=HF.out _ (ap hjl);generalize xs[j]=y at*;have e0:=(HX.out.cell b _ hb).trans h0;have e1:=(HX.out.cell b _ hb).trans h1;have e2:=(HX.out.cell b _ hb).trans h2;have e3:=(HX.out.cell b _ hb).trans h3;have e4:=(HX.out.cell b _ hb).trans h4;have e5:=(HX.out.cell b _ hb).trans h5;obtain⟨B,d,rfl,_⟩:=hRa.form;have HRa:=G (hRa.keep (.of_ext HX.out) (Q:=P) (fun b hb _=>hb));clear hRa;have HY:=G (hym wr B d HRa.out);clear h0 h1 h2 h3 h4 h5;clear hym
   cases hp:p y with
   |true=>
    rw[hp]at HY;have HQ:=G (HG.out hp);clear hp;go_wp2_with (refine HY.out.mono ?_;rintro e w3 ⟨rfl,hE⟩;have HZ:=G (HX.out.trans hE);clear hE);go_ret;exact⟨⟨j,rfl,by rw[HQ.out];simp⟩,HZ.out⟩
   |false=>
    rw[hp]at HY;have HQ:=G (show(xs.take (j+1)).any p=false by rw[HS.out,HA.out,hp];rfl);clear hp;go_wp2_with (refine HY.out.mono ?_;rintro e w3 ⟨rfl,hE⟩;have HZ:=G (HX.out.trans hE);clear hE);go_roundw
    case rel=>exact⟨j+1,by go_num,by omega,HQ,HZ⟩
    case measure=>simp[intOf];omega
  ·have hlt': ¬(j:Int)<n:=by omega
   have hjN:j=n:=by omega
   subst hjN;have HQ:=G (show xs.any p=false by have:=HA.out;rwa [<-hN,bQ]at this);go_wp2_with fail;go_ret;exact⟨⟨-1,rfl,by rw[HQ.out];rfl⟩,HX.out⟩
theorem zR (p:Ex->Bool) (xs:List (Ex)) (P:Nat->Prop) (w:World) (A:Option Addr) (n c:Nat) (hR:et w P (.slice A n c) xs) (hx:xs.length<=1073741824)
  (hf: ∀y,y∈xs-> ∀(w':World) (B:Option Addr) (d:Nat),et w' P (.slice B y.args.length d) y.args->Calls prog 168 #[.agg #[.int .i64 y.k, .string (an y.op), .string (an y.nm), .string (an y.tx), .int .i64 y.v, .slice B y.args.length d]] w' fun e w''=>e= .returned (.bool (p y))/\au w' w''):
  Calls prog 113 #[.slice A n c, .func (Fn.func 168) #[] #[]] w fun e w'=>e= .returned (.bool (xs.any p))/\au w w':=by
 have HI:=G (zo p xs P w A n c hR hx hf);clear hR hf;go_enter func113,ntmps113;go_wp2_with (refine HI.out.mono ?_;rintro e w3 ⟨⟨r,rfl,hr⟩,hE⟩;have HR:=G hr;have HZ:=G hE;clear hE hr);go_ret;exact⟨by rw[<-HR.out];rfl,HZ.out⟩
theorem wK (p:Ex->Bool) (xs:List (Ex)) (P:Nat->Prop) (w:World) (A:Option Addr) (n c:Nat) (hR:et w P (.slice A n c) xs) (hx:xs.length<=1073741824)
  (hf: ∀y,y∈xs-> ∀(w':World) (B:Option Addr) (d:Nat),et w' P (.slice B y.args.length d) y.args->Calls prog 114 #[.agg #[.int .i64 y.k, .string (an y.op), .string (an y.nm), .string (an y.tx), .int .i64 y.v, .slice B y.args.length d]] w' fun e w''=>e= .returned (.bool (p y))/\au w' w''):
  Calls prog 165 #[.slice A n c, .func (Fn.func 114) #[] #[]] w fun e w'=>(∃r:Int,e= .returned (.int .i64 r)/\decide (0<=r)=xs.any p)/\au w w':=by
 have hnl:=hR.len;obtain⟨N,hN⟩: ∃N,xs.length=N:=⟨_,rfl⟩
 obtain rfl:n=N:=by omega
 have HR:=G hR;have HF:=G hf;have HE0:=G (aG w);clear hR hf hnl;go_enter func165,ntmps165;go_wp2_with fail
 go_loopw [8] (fun vi wr=> ∃(j:Nat),vi= .int .i64 (j:Int)/\j<=n/\Hid ((xs.take j).any p=false)/\Hid (au w wr)) (fun vi _=>n-(intOf vi).toNat)
 case atStart=>exact⟨0,rfl,aC _,G (by simp),HE0⟩
 case round=>
  obtain⟨j,rfl,hj,HA,HX⟩:=hrel;by_cases hlt:j<n
  ·have hlt':(j:Int)<n:=by omega
   have hjl:j<xs.length:=by omega
   obtain⟨b,o,a,rfl,hb,hP,h0,h1,h2,h3,h4,h5,hRa⟩:=HR.out.at_ j hjl;have HS:=G (gD p hjl);have HG:=G (fun h=>l9 p hjl h);have hym:=HF.out _ (ap hjl);generalize xs[j]=y at*;have e0:=(HX.out.cell b _ hb).trans h0;have e1:=(HX.out.cell b _ hb).trans h1;have e2:=(HX.out.cell b _ hb).trans h2;have e3:=(HX.out.cell b _ hb).trans h3;have e4:=(HX.out.cell b _ hb).trans h4;have e5:=(HX.out.cell b _ hb).trans h5;obtain⟨B,d,rfl,_⟩:=hRa.form;have HRa:=G (hRa.keep (.of_ext HX.out) (Q:=P) (fun b hb _=>hb));clear hRa;have HY:=G (hym wr B d HRa.out);clear h0 h1 h2 h3 h4 h5;clear hym
   cases hp:p y with
   |true=>
    rw[hp]at HY;have HQ:=G (HG.out hp);clear hp;go_wp2_with (refine HY.out.mono ?_;rintro e w3 ⟨rfl,hE⟩;have HZ:=G (HX.out.trans hE);clear hE);go_ret;exact⟨⟨j,rfl,by rw[HQ.out];simp⟩,HZ.out⟩
   |false=>
    rw[hp]at HY;have HQ:=G (show(xs.take (j+1)).any p=false by rw[HS.out,HA.out,hp];rfl);clear hp;go_wp2_with (refine HY.out.mono ?_;rintro e w3 ⟨rfl,hE⟩;have HZ:=G (HX.out.trans hE);clear hE);go_roundw
    case rel=>exact⟨j+1,by go_num,by omega,HQ,HZ⟩
    case measure=>simp[intOf];omega
  ·have hlt': ¬(j:Int)<n:=by omega
   have hjN:j=n:=by omega
   subst hjN;have HQ:=G (show xs.any p=false by have:=HA.out;rwa [<-hN,bQ]at this);go_wp2_with fail;go_ret;exact⟨⟨-1,rfl,by rw[HQ.out];rfl⟩,HX.out⟩
theorem wZ (p:Ex->Bool) (xs:List (Ex)) (P:Nat->Prop) (w:World) (A:Option Addr) (n c:Nat) (hR:et w P (.slice A n c) xs) (hx:xs.length<=1073741824)
  (hf: ∀y,y∈xs-> ∀(w':World) (B:Option Addr) (d:Nat),et w' P (.slice B y.args.length d) y.args->Calls prog 114 #[.agg #[.int .i64 y.k, .string (an y.op), .string (an y.nm), .string (an y.tx), .int .i64 y.v, .slice B y.args.length d]] w' fun e w''=>e= .returned (.bool (p y))/\au w' w''):
  Calls prog 113 #[.slice A n c, .func (Fn.func 114) #[] #[]] w fun e w'=>e= .returned (.bool (xs.any p))/\au w w':=by
 have HI:=G (wK p xs P w A n c hR hx hf);clear hR hf;go_enter func113,ntmps113;go_wp2_with (refine HI.out.mono ?_;rintro e w3 ⟨⟨r,rfl,hr⟩,hE⟩;have HR:=G hr;have HZ:=G hE;clear hE hr);go_ret;exact⟨by rw[<-HR.out];rfl,HZ.out⟩
theorem zm (p:St->Bool) (xs:List (St)) (P:Nat->Prop) (w:World) (A:Option Addr) (n c:Nat) (hR:dS w P (.slice A n c) xs) (hx:xs.length<=1073741824)
  (hf: ∀y,y∈xs-> ∀(w':World) (B B' B'':Option Addr) (d d' d'':Nat),(et w' P (.slice B y.ex.length d) y.ex/\dS w' P (.slice B' y.body.length d') y.body/\dS w' P (.slice B'' y.els.length d'') y.els)->Calls prog 117 #[.agg #[.int .i64 y.k, .string (an y.nm), .slice B y.ex.length d, .slice B' y.body.length d', .slice B'' y.els.length d'']] w' fun e w''=>e= .returned (.bool (p y))/\au w' w''):
  Calls prog 169 #[.slice A n c, .func (Fn.func 117) #[] #[]] w fun e w'=>(∃r:Int,e= .returned (.int .i64 r)/\decide (0<=r)=xs.any p)/\au w w':=by
 have hnl:=hR.len;obtain⟨N,hN⟩: ∃N,xs.length=N:=⟨_,rfl⟩
 obtain rfl:n=N:=by omega
 have HR:=G hR;have HF:=G hf;have HE0:=G (aG w);clear hR hf hnl;go_enter func169,ntmps169;go_wp2_with fail
 go_loopw [8] (fun vi wr=> ∃(j:Nat),vi= .int .i64 (j:Int)/\j<=n/\Hid ((xs.take j).any p=false)/\Hid (au w wr)) (fun vi _=>n-(intOf vi).toNat)
 case atStart=>exact⟨0,rfl,aC _,G (by simp),HE0⟩
 case round=>
  obtain⟨j,rfl,hj,HA,HX⟩:=hrel;by_cases hlt:j<n
  ·have hlt':(j:Int)<n:=by omega
   have hjl:j<xs.length:=by omega
   obtain⟨b,o,u,v,z,rfl,hb,hP,h0,h1,h2,h3,h4,hRa,hRb,hRc⟩:=HR.out.at_ j hjl;have HS:=G (gD p hjl);have HG:=G (fun h=>l9 p hjl h);have hym:=HF.out _ (ap hjl);generalize xs[j]=y at*;have e0:=(HX.out.cell b _ hb).trans h0;have e1:=(HX.out.cell b _ hb).trans h1;have e2:=(HX.out.cell b _ hb).trans h2;have e3:=(HX.out.cell b _ hb).trans h3;have e4:=(HX.out.cell b _ hb).trans h4;obtain⟨B,d,rfl,_⟩:=hRa.form;obtain⟨B',d',rfl,_⟩:=hRb.form;obtain⟨B'',d'',rfl,_⟩:=hRc.form;have HRa:=G (show et wr P _ _/\dS wr P _ _/\dS wr P _ _ from⟨hRa.keep (.of_ext HX.out) (fun b hb _=>hb),hRb.keep (.of_ext HX.out) (fun b hb _=>hb),hRc.keep (.of_ext HX.out) (fun b hb _=>hb)⟩);clear hRa hRb hRc;have HY:=G (hym wr B B' B'' d d' d'' HRa.out);clear h0 h1 h2 h3 h4;clear hym
   cases hp:p y with
   |true=>
    rw[hp]at HY;have HQ:=G (HG.out hp);clear hp;go_wp2_with (refine HY.out.mono ?_;rintro e w3 ⟨rfl,hE⟩;have HZ:=G (HX.out.trans hE);clear hE);go_ret;exact⟨⟨j,rfl,by rw[HQ.out];simp⟩,HZ.out⟩
   |false=>
    rw[hp]at HY;have HQ:=G (show(xs.take (j+1)).any p=false by rw[HS.out,HA.out,hp];rfl);clear hp;go_wp2_with (refine HY.out.mono ?_;rintro e w3 ⟨rfl,hE⟩;have HZ:=G (HX.out.trans hE);clear hE);go_roundw
    case rel=>exact⟨j+1,by go_num,by omega,HQ,HZ⟩
    case measure=>simp[intOf];omega
  ·have hlt': ¬(j:Int)<n:=by omega
   have hjN:j=n:=by omega
   subst hjN;have HQ:=G (show xs.any p=false by have:=HA.out;rwa [<-hN,bQ]at this);go_wp2_with fail;go_ret;exact⟨⟨-1,rfl,by rw[HQ.out];rfl⟩,HX.out⟩
theorem zP (p:St->Bool) (xs:List (St)) (P:Nat->Prop) (w:World) (A:Option Addr) (n c:Nat) (hR:dS w P (.slice A n c) xs) (hx:xs.length<=1073741824)
  (hf: ∀y,y∈xs-> ∀(w':World) (B B' B'':Option Addr) (d d' d'':Nat),(et w' P (.slice B y.ex.length d) y.ex/\dS w' P (.slice B' y.body.length d') y.body/\dS w' P (.slice B'' y.els.length d'') y.els)->Calls prog 117 #[.agg #[.int .i64 y.k, .string (an y.nm), .slice B y.ex.length d, .slice B' y.body.length d', .slice B'' y.els.length d'']] w' fun e w''=>e= .returned (.bool (p y))/\au w' w''):
  Calls prog 116 #[.slice A n c, .func (Fn.func 117) #[] #[]] w fun e w'=>e= .returned (.bool (xs.any p))/\au w w':=by
 have HI:=G (zm p xs P w A n c hR hx hf);clear hR hf;go_enter func116,ntmps116;go_wp2_with (refine HI.out.mono ?_;rintro e w3 ⟨⟨r,rfl,hr⟩,hE⟩;have HR:=G hr;have HZ:=G hE;clear hE hr);go_ret;exact⟨by rw[<-HR.out];rfl,HZ.out⟩
theorem zn (p:List UInt8->Bool) (xs:List (List UInt8)) (P:Nat->Prop) (w:World) (A:Option Addr) (n c:Nat) (hR:pC w P (.slice A n c) xs) (hx:xs.length<=1073741824)
  (hf: ∀y,y∈xs-> ∀(w':World),True->Calls prog 59 #[.string (an y)] w' fun e w''=>e= .returned (.bool (p y))/\au w' w''):
  Calls prog 110 #[.slice A n c, .func (Fn.func 59) #[] #[]] w fun e w'=>(∃r:Int,e= .returned (.int .i64 r)/\decide (0<=r)=xs.any p)/\au w w':=by
 have hnl:=hR.len;obtain⟨N,hN⟩: ∃N,xs.length=N:=⟨_,rfl⟩
 obtain rfl:n=N:=by omega
 have HR:=G hR;have HF:=G hf;have HE0:=G (aG w);clear hR hf hnl;go_enter func110,ntmps110;go_wp2_with fail
 go_loopw [8] (fun vi wr=> ∃(j:Nat),vi= .int .i64 (j:Int)/\j<=n/\Hid ((xs.take j).any p=false)/\Hid (au w wr)) (fun vi _=>n-(intOf vi).toNat)
 case atStart=>exact⟨0,rfl,aC _,G (by simp),HE0⟩
 case round=>
  obtain⟨j,rfl,hj,HA,HX⟩:=hrel;by_cases hlt:j<n
  ·have hlt':(j:Int)<n:=by omega
   have hjl:j<xs.length:=by omega
   obtain⟨b,o,rfl,hb,h0⟩:=Dj HR.out j hjl;have HS:=G (gD p hjl);have HG:=G (fun h=>l9 p hjl h);have hym:=HF.out _ (ap hjl);generalize xs[j]=y at*;have e0:=(HX.out.cell b _ hb).trans h0
   skip
   have HY:=G (hym wr  trivial);clear h0;clear hym
   cases hp:p y with
   |true=>
    rw[hp]at HY;have HQ:=G (HG.out hp);clear hp;go_wp2_with (refine HY.out.mono ?_;rintro e w3 ⟨rfl,hE⟩;have HZ:=G (HX.out.trans hE);clear hE);go_ret;exact⟨⟨j,rfl,by rw[HQ.out];simp⟩,HZ.out⟩
   |false=>
    rw[hp]at HY;have HQ:=G (show(xs.take (j+1)).any p=false by rw[HS.out,HA.out,hp];rfl);clear hp;go_wp2_with (refine HY.out.mono ?_;rintro e w3 ⟨rfl,hE⟩;have HZ:=G (HX.out.trans hE);clear hE);go_roundw
    case rel=>exact⟨j+1,by go_num,by omega,HQ,HZ⟩
    case measure=>simp[intOf];omega
  ·have hlt': ¬(j:Int)<n:=by omega
   have hjN:j=n:=by omega
   subst hjN;have HQ:=G (show xs.any p=false by have:=HA.out;rwa [<-hN,bQ]at this);go_wp2_with fail;go_ret;exact⟨⟨-1,rfl,by rw[HQ.out];rfl⟩,HX.out⟩
theorem zQ (p:List UInt8->Bool) (xs:List (List UInt8)) (P:Nat->Prop) (w:World) (A:Option Addr) (n c:Nat) (hR:pC w P (.slice A n c) xs) (hx:xs.length<=1073741824)
  (hf: ∀y,y∈xs-> ∀(w':World),True->Calls prog 59 #[.string (an y)] w' fun e w''=>e= .returned (.bool (p y))/\au w' w''):
  Calls prog 58 #[.slice A n c, .func (Fn.func 59) #[] #[]] w fun e w'=>e= .returned (.bool (xs.any p))/\au w w':=by
 have HI:=G (zn p xs P w A n c hR hx hf);clear hR hf;go_enter func58,ntmps58;go_wp2_with (refine HI.out.mono ?_;rintro e w3 ⟨⟨r,rfl,hr⟩,hE⟩;have HR:=G hr;have HZ:=G hE;clear hE hr);go_ret;exact⟨by rw[<-HR.out];rfl,HZ.out⟩
end
section
open Go.RowKit
theorem Bo (c:UInt8):Av c=(decide (32<=(c.toNat:Int))&&decide ((c.toNat:Int)<=126)||(c.toNat:Int)==10||(c.toNat:Int)==9||(c.toNat:Int)==0):=by
 have h10:=dP c 10 (by omega);have h9:=dP c 9 (by omega);have h0:=dP c 0 (by omega);have e10:(((10:Nat):Int))=10:=rfl;have e9:(((9:Nat):Int))=9:=rfl;have e0:(((0:Nat):Int))=0:=rfl;rw[e10]at h10;rw[e9]at h9;rw[e0]at h0;rw[h10,h9,h0];unfold Av
 congr 3
 rw[eN];simp only[decide_eq_true_eq,ak];omega
theorem Bl {l:List UInt8} {j:Nat} (h:j<l.length) (hp:Av l[j]=false):qG l=false:=by
 unfold qG;rw[vD Av h hp];rfl
theorem ww (l:List UInt8) (hl:l.length<=1073741824) (w:World):Calls prog 166 #[.string (an l)] w fun e w'=>e= .returned (.bool (qG l))/\au w w':=by
 have hsz:(an l).size=l.length:=aU l;have HE0:=G (aG w);go_enter func166,ntmps166;go_wp2_with fail
 go_loopw [7] (fun vi wr=> ∃j:Nat,vi= .int .i64 (j:Int)/\j<=l.length/\Hid ((l.take j).all Av=true)/\Hid (au w wr)) (fun vi _=>l.length-(intOf vi).toNat)
 case atStart=>exact⟨0,rfl,aC _,G (by simp),HE0⟩
 case round=>
  obtain⟨j,rfl,hj,HA,HX⟩:=hrel;by_cases hlt:j<l.length
  ·have hjs:j<(an l).size:=by rw[aU];exact hlt
   have hg:=lC l j hjs;have hlt':(j:Int)<l.length:=by omega
   have HS:=G (k9 Av hlt);have HBad:=G (fun h=>Bl hlt h);generalize l[j]'hlt=c at*;have HC:=G (Bo c);have hc256:(c.toNat:Int)<256:=by have:=c.toNat_lt;omega
   have HJ:=G (fun(h:Av c=true)=>show(l.take (j+1)).all Av=true by rw[HS.out,HA.out,h];rfl);clear HS HA;by_cases h32:32<=(c.toNat:Int)/\(c.toNat:Int)<=126
   ·obtain⟨a1,a2⟩:=h32;have HJ2:=G (HJ.out (by rw[HC.out,decide_eq_true a1,decide_eq_true a2];rfl));clear HJ HC;go_wp2_with fail;go_roundw
    case rel=>exact⟨j+1,by go_num,by omega,HJ2,HX⟩
    case measure=>simp[intOf];omega
   ·cases h10:((c.toNat:Int)==10)with
    |true=>
     have HJ2:=G (HJ.out (by rw[HC.out,h10];simp));have h10n:((c.toNat:Int) !=10)=false:=by rw[bne,h10];rfl
     have hn:(c.toNat:Int)<32:=by rw[beq_iff_eq]at h10;omega
     clear HJ HC h32;go_wp2_with fail;go_roundw
     case rel=>exact⟨j+1,by go_num,by omega,HJ2,HX⟩
     case measure=>simp[intOf];omega
    |false=>
     have h10n:((c.toNat:Int) !=10)=true:=by rw[bne,h10];rfl
     cases h9:((c.toNat:Int)==9)with
     |true=>
      have HJ2:=G (HJ.out (by rw[HC.out,h9];simp));have h9n:((c.toNat:Int) !=9)=false:=by rw[bne,h9];rfl
      have hn:(c.toNat:Int)<32:=by rw[beq_iff_eq]at h9;omega
      clear HJ HC h32;go_wp2_with fail;go_roundw
      case rel=>exact⟨j+1,by go_num,by omega,HJ2,HX⟩
      case measure=>simp[intOf];omega
     |false=>
      have h9n:((c.toNat:Int) !=9)=true:=by rw[bne,h9];rfl
      cases h0:((c.toNat:Int)==0)with
      |true=>
       have HJ2:=G (HJ.out (by rw[HC.out,h0];simp));have h0n:((c.toNat:Int) !=0)=false:=by rw[bne,h0];rfl
       have hn:(c.toNat:Int)<32:=by rw[beq_iff_eq]at h0;omega
       clear HJ HC h32;go_wp2_with fail;go_roundw
       case rel=>exact⟨j+1,by go_num,by omega,HJ2,HX⟩
       case measure=>simp[intOf];omega
      |false=>
       have h0n:((c.toNat:Int) !=0)=true:=by rw[bne,h0];rfl
       have HF:=G (HBad.out (by rw[HC.out,h10,h9,h0,<-Bool.decide_and,decide_eq_false h32];rfl));clear HJ HC;by_cases hn:(c.toNat:Int)<32
       ·clear h32;go_wp2_with fail;go_ret;exact⟨by rw[HF.out];rfl,HX.out⟩
       ·have hn2:126<(c.toNat:Int):=by omega
        clear h32;go_wp2_with fail;go_ret;exact⟨by rw[HF.out];rfl,HX.out⟩
  ·have hlt': ¬(j:Int)<l.length:=by omega
   have hj':j=l.length:=by omega
   subst hj';have HQ:=G (show l.all Av=true by have:=HA.out;rwa [bQ]at this);clear HA;by_cases h128:l.length<=128
   ·have h128':(l.length:Int)<=128:=by omega
    go_wp2_with fail;go_ret;exact⟨by unfold qG;rw[HQ.out,decide_eq_true h128];rfl,HX.out⟩
   ·have h128': ¬(l.length:Int)<=128:=by omega
    go_wp2_with fail;go_ret;exact⟨by unfold qG;rw[decide_eq_false h128,j3];rfl,HX.out⟩
def Ex.prec (x:Ex):Int:=if x.k=7 then nC x.op else if x.k=6 then 7 else 8
theorem lK (x:Ex) (w:World) (V:Value) (hV: ∃A n c,V= .slice A n c):Calls prog 257 #[.agg #[.int .i64 x.k, .string (an x.op), .string (an x.nm), .string (an x.tx), .int .i64 x.v,V]] w fun e w'=>e= .returned (.int .i64 x.prec)/\au w w':=by
 obtain⟨A,n,c,rfl⟩:=hV;have HE0:=G (aa w (.cells #[.int .i64 x.k, .string (an x.op), .string (an x.nm), .string (an x.tx), .int .i64 x.v, .slice A n c] 206));have HL:=G (fun w=>mu x.op w);have HP:=G (show x.prec=if x.k=7 then nC x.op else if x.k=6 then 7 else 8 from rfl);generalize x.k=k at*;by_cases h7:k=7
 ·subst h7;go_enter func257,ntmps257;go_wp2_with (refine(HL.out _).mono ?_;rintro e w' ⟨rfl,rfl⟩);go_ret;exact⟨by rw[HP.out];rfl,HE0.out⟩
 ·by_cases h6:k=6
  ·subst h6;go_enter func257,ntmps257;go_wp2_with fail;go_ret;exact⟨by rw[HP.out];rfl,HE0.out⟩
  ·have h7':(k==7)=false:=beq_eq_false_iff_ne.2 h7;have h6':(k==6)=false:=beq_eq_false_iff_ne.2 h6;have HQ:=G (show x.prec=8 by rw[HP.out,if_neg h7,if_neg h6]);clear HP;go_enter func257,ntmps257;go_wp2_with fail;go_ret;exact⟨by rw[HQ.out];rfl,HE0.out⟩
end
section
open Go.RowKit
def rr (w:World) (A:Option Addr) (n c:Nat) (r:Bool):Prop:= ∀w',au w w'->Calls prog 113 #[.slice A n c, .func (Fn.func 168) #[] #[]] w' fun e w''=>e= .returned (.bool (!r))/\au w' w''
theorem aP.new2 (w:World) (o:Obj) (t:TypeId) (cs:Array Value):aP ((w.alloc o).alloc (.cells cs t)) (w.heap.size+1) t cs:=by
 have:=aw (w.alloc o) t cs;rwa [World.size_alloc]at this
def UW (p:Nat) (t:TypeId) (c0 c1:Array Value) (a b:World):Prop:=a.grownBy b (some p)/\(aP a p t c0->aP b p t c0\/aP b p t c1)/\(aP a p t c1->aP b p t c1)
theorem UW.refl (p:Nat) (t:TypeId) (c0 c1:Array Value) (a:World):UW p t c0 c1 a a:=⟨World.grownBy.refl a _, .inl,id⟩
theorem UW.trans (p:Nat) (t:TypeId) (c0 c1:Array Value) (a b c:World) (h:UW p t c0 c1 a b) (k:UW p t c0 c1 b c):UW p t c0 c1 a c:=⟨bm h.1 k.1,fun x=>(h.2.1 x).elim k.2.1 (fun y=> .inr (k.2.2 y)),fun x=>k.2.2 (h.2.2 x)⟩
theorem UW.of_ext {p:Nat} {t:TypeId} {c0 c1:Array Value} {a b:World} (h:au a b):UW p t c0 c1 a b:=⟨h.grownBy _,fun x=> .inl (x.ext h),fun x=>x.ext h⟩
theorem UW.store {p:Nat} {t:TypeId} {c0 c1:Array Value} {a b:World} (h:UW p t c0 c1 a b) (hb:aP a p t c0) (f:Nat) (v z:Value) (h0:c0.setIfInBounds f v=c1) (h1:c1.setIfInBounds f v=c1) (hz:c0[f]? =some z) (hz1:c1[f]? =some v):
  (∃u,b.cell? ⟨p,f,none⟩=some u)/\b.frozen? ⟨p,f,none⟩=false/\UW p t c0 c1 a (b.setCell ⟨p,f,none⟩ v)/\aP (b.setCell ⟨p,f,none⟩ v) p t c1:=by
 have hc1:aP (b.setCell ⟨p,f,none⟩ v) p t c1:=by
  rcases h.2.1 hb with k|k
  ·have:=k.set f v;rwa [h0]at this
  ·have:=k.set f v;rwa [h1]at this
 refine⟨?_,?_,⟨bm h.1 (gy _ _ _ _),fun _=> .inr hc1,fun _=>hc1⟩,hc1⟩
 ·rcases h.2.1 hb with k|k
  ·exact⟨z,(k.cell f).trans hz⟩
  ·exact⟨v,(k.cell f).trans hz1⟩
 ·rcases h.2.1 hb with k|k<;>exact k.frozen f
def qS (k:Nat):Code->Code
 | .seq (.region i o d) b=>if i=k then .seq (.region i o d) b else qS k b
 | .seq _ b=>qS k b
 |c=>c
theorem iO (px pw:Nat) (k v wv ar:Int) (op nm tx wop wnm wtx:List UInt8) (A:Option Addr) (n c:Nat) (b r:Bool) (w W:World) (hE:au w W) (hB:aP W px 206 #[.int .i64 k, .string (an op), .string (an nm), .string (an tx), .int .i64 v, .slice A n c]) (hW:aP W pw 206 #[.int .i64 k, .string (an wop), .string (an wnm), .string (an wtx), .int .i64 wv, .slice none 0 0])
  (hC:rr w A n c r) (R:Bool) (hR:(b&&(op==wop&&nm==wnm&&tx==wtx&&v==wv)&&decide ((n:Int)=ar)&&r)=R) (u0 u2 u6 u7 u8 u9 u10 u11 u12 u13 u14 u15 u16 u17 u18 u19 u20 u21 u22 u23 u24 u25 u26 u27 u28 u29 u30 u31 u32 u33 u34 u35 u36 u37 u38 u39 u40 u41 u42 u43 u44 u45 u46 u47 u48 u49 u50 u51 u52 u53 u54 u55 u56 u57 u58 u59 u60 u61 u62 u63 u64 u65 u66 u67 u68 u69 u70 u71 u72 u73 u74 u75 u76 u77 u78 u79 u80 u81 u82 u83 u84 u85 u86 u87 u88 u89 u90 u91 u92 u93 u94 u95 u96 u97 u98 u99 u100 u101 u102 u103 u104 u105 u106 u107 u108 u109 u110 u111 u112 u113 u114 u115 u116 u117 u118 u119 u120 u121 u122 u123 u124 u125 u126 u127 u128 u129 u130:Value):
  Code.wp prog (qS 18 (Tryz.f115.body.getD .skip)) (bodyPost prog Tryz.f115 fun e w'=>e= .returned (.bool R)/\au w w') {tmps:= #[u0, .pointer (some ⟨px,0,none⟩),u2, .pointer (some ⟨pw,0,none⟩), .bool b, .int .i64 ar,u6,u7,u8,u9,u10,u11,u12,u13,u14,u15,u16,u17,u18,u19,u20,u21,u22,u23,u24,u25,u26,u27,u28,u29,u30,u31,u32,u33,u34,u35,u36,u37,u38,u39,u40,u41,u42,u43,u44,u45,u46,u47,u48,u49,u50,u51,u52,u53,u54,u55,u56,u57,u58,u59,u60,u61,u62,u63,u64,u65,u66,u67,u68,u69,u70,u71,u72,u73,u74,u75,u76,u77,u78,u79,u80,u81,u82,u83,u84,u85,u86,u87,u88,u89,u90,u91,u92,u93,u94,u95,u96,u97,u98,u99,u100,u101,u102,u103,u104,u105,u106,u107,u108,u109,u110,u111,u112,u113,u114,u115,u116,u117,u118,u119,u120,u121,u122,u123,u124,u125,u126,u127,u128,u129,u130],defers:=[]} W:=by
 have HX:=G hE;have HC:=G hC;have HR:=G hR;have hbc:=hB.cell;have hwc:=hW.cell;clear hE hC hB hW hR
 conv=>arg 2;whnf
 cases h1:(op==wop)with
 |false=>
  cases b<;>(have e0:R=false:=(by rw[<-HR.out,h1];simp);go_wp2_with fail;go_ret;exact⟨by rw[e0];rfl,HX.out⟩)
 |true=>
  cases h2:(nm==wnm)with
  |false=>
   cases b<;>(have e0:R=false:=(by rw[<-HR.out,h1,h2];simp);go_wp2_with fail;go_ret;exact⟨by rw[e0];rfl,HX.out⟩)
  |true=>
   cases h3:(tx==wtx)with
   |false=>
    cases b<;>(have e0:R=false:=(by rw[<-HR.out,h1,h2,h3];simp);go_wp2_with fail;go_ret;exact⟨by rw[e0];rfl,HX.out⟩)
   |true=>
    cases h4:(v==wv)with
    |false=>
     cases b<;>(have e0:R=false:=(by rw[<-HR.out,h1,h2,h3,h4];simp);go_wp2_with fail;go_ret;exact⟨by rw[e0];rfl,HX.out⟩)
    |true=>
     cases b with
     |false=>(have e0:R=false:=(by rw[<-HR.out,h1,h2,h3,h4];simp);go_wp2_with fail;go_ret;exact⟨by rw[e0];rfl,HX.out⟩)
     |true=>
      by_cases h5:(n:Int)=ar
      ·subst h5;have e0:R=r:=by rw[<-HR.out];simp[h1,h2,h3,h4]
       go_wp2_with (refine(HC.out _ HX.out).mono ?_;rintro e w4 ⟨rfl,hE⟩;have HY:=G (HX.out.trans hE);clear hE);go_ret;exact⟨by rw[e0];rfl,HY.out⟩
      ·have h6:((n:Int)==ar)=false:=beq_eq_false_iff_ne.2 h5;have e0:R=false:=by rw[<-HR.out,decide_eq_false h5];simp
       go_wp2_with fail;go_ret;exact⟨by rw[e0];rfl,HX.out⟩
theorem F0 (op nm tx:List UInt8) (v:Int) (w:World) (A:Option Addr) (n c:Nat) (hn:n<=1073741824) (r:Bool) (hC:rr w A n c r) (hl:nm.length<=1073741824):
  Calls prog 115 #[.agg #[.int .i64 3, .string (an op), .string (an nm), .string (an tx), .int .i64 v, .slice A n c]] w fun e w'=>e= .returned (.bool (dV nm&&(op==[]&&nm==nm&&tx==[]&&v==0)&&decide ((n:Int)=0)&&r))/\au w w':=by
 have hn':(n:Int)<=1073741824:=by omega
 have hne:w.heap.size≠w.heap.size+1:=by omega
 have HB:=G ((aw w 206 #[.int .i64 3, .string (an op), .string (an nm), .string (an tx), .int .i64 v, .slice A n c]).ext (aa _ (.cells #[.int .i64 3, .string ⟨#[]⟩, .string ⟨#[]⟩, .string ⟨#[]⟩, .int .i64 0, .slice none 0 0] 206)));have HW:=G (aP.new2 w (.cells #[.int .i64 3, .string (an op), .string (an nm), .string (an tx), .int .i64 v, .slice A n c] 206) 206 #[.int .i64 3, .string ⟨#[]⟩, .string ⟨#[]⟩, .string ⟨#[]⟩, .int .i64 0, .slice none 0 0]);have HE0:=G ((aa w (.cells #[.int .i64 3, .string (an op), .string (an nm), .string (an tx), .int .i64 v, .slice A n c] 206)).trans (aa _ (.cells #[.int .i64 3, .string ⟨#[]⟩, .string ⟨#[]⟩, .string ⟨#[]⟩, .int .i64 0, .slice none 0 0] 206)));have HC:=G hC;clear hC;have HI:=G (df nm hl);generalize dV nm=b at*;generalize hR:(_&& _&& _&& _:Bool)=R;have HR:=G hR;clear hR;go_enter func115,ntmps115;go_wp2_with fail;refine bY (UW (w.heap.size+1) 206 #[.int .i64 3, .string ⟨#[]⟩, .string ⟨#[]⟩, .string ⟨#[]⟩, .int .i64 0, .slice none 0 0] #[.int .i64 3, .string ⟨#[]⟩, .string (an nm), .string ⟨#[]⟩, .int .i64 0, .slice none 0 0]) (UW.refl _ _ _ _) (UW.trans _ _ _ _) 6 3 [(4,fun v=>v= .bool b,fun _ _=>True)] [] mixed (by kernel_rfl) (by kernel_rfl) (by kernel_rfl) (by rfl) ⟨fun _ _ _ _ _=>trivial,trivial⟩ ?_;repeat (first|(refine bM (by rfl) ?_;simp only[bH,bG,bF,bE,bD])|(refine sx ?_ (fun w1 hU=> ?_) ?_;rotate_left;(focus have f1:=(HB.out.grown (bA hU.1) (fun e=>hne (ai e))).cell;clear hU;go_simp<;>with_reducible rfl);simp only[bH,bG,bF,bE,bD]))
 refine so (fun w6 hU hp K hK=> ?_) ?_
 ·clear hp hU;go_simp;refine(HI.out w6).mono ?_;rintro e w7 ⟨rfl,rfl⟩;exact hK _ _ (UW.refl _ _ _ _ _) rfl trivial
 rintro _ rfl;simp only[bH,bG,bF,bE,bD];repeat (first|(refine bM (by rfl) ?_;simp only[bH,bG,bF,bE,bD])|(refine sx ?_ (fun w1 hU=> ?_) ?_;rotate_left;(focus have f1:=(HB.out.grown (bA hU.1) (fun e=>hne (ai e))).cell;clear hU;go_simp<;>with_reducible rfl);simp only[bH,bG,bF,bE,bD]))
 intro w2 hw2 hp;clear hp;simp only[ac,aq];obtain⟨⟨z,hz⟩,hzf,hU,hW3⟩:=hw2.store HW.out 2 (.string (an nm)) (.string ⟨#[]⟩) rfl rfl rfl rfl;have HU:=G hU;have HW3:=G hW3;have HB3:=G (HB.out.grown (bA hU.1) (fun e=>hne (ai e)));have HX:=G (HE0.out.grown (bA hU.1) (fun k e=>by injection e with e;omega));clear hw2 hU hW3 HB HW;refine aH (by rfl) (by simp) (fun K hK=> ?_);go_simp;refine hK _ _ HU.out ?_;clear hK hz hzf;refine aH (by rfl) (by simp) (fun K hK=> ?_);go_simp;refine hK _ _ HU.out ?_;clear hK;refine b_ ?_;rename_i Q1 K1 hK1 J0;refine hK1 _ _ (iO _ _ 3 v 0 _ op nm tx [] nm [] A n c _ r w _ HX.out HB3.out HW3.out HC.out R HR.out _ _ _ _ _ _ _ _ _ _ _ _ _ _ _ _ _ _ _ _ _ _ _ _ _ _ _ _ _ _ _ _ _ _ _ _ _ _ _ _ _ _ _ _ _ _ _ _ _ _ _ _ _ _ _ _ _ _ _ _ _ _ _ _ _ _ _ _ _ _ _ _ _ _ _ _ _ _ _ _ _ _ _ _ _ _ _ _ _ _ _ _ _ _ _ _ _ _ _ _ _ _ _ _ _ _ _ _ _ _ _ _ _ _ _ _ _ _ _ _ _ _ _ _ _ _ _)
theorem FZ (op nm tx:List UInt8) (v:Int) (w:World) (A:Option Addr) (n c:Nat) (hn:n<=1073741824) (r:Bool) (hC:rr w A n c r) (hl:nm.length<=1073741824):
  Calls prog 115 #[.agg #[.int .i64 4, .string (an op), .string (an nm), .string (an tx), .int .i64 v, .slice A n c]] w fun e w'=>e= .returned (.bool (dV nm&&(op==[]&&nm==nm&&tx==[]&&v==0)&&decide ((n:Int)=1)&&r))/\au w w':=by
 have hn':(n:Int)<=1073741824:=by omega
 have hne:w.heap.size≠w.heap.size+1:=by omega
 have HB:=G ((aw w 206 #[.int .i64 4, .string (an op), .string (an nm), .string (an tx), .int .i64 v, .slice A n c]).ext (aa _ (.cells #[.int .i64 4, .string ⟨#[]⟩, .string ⟨#[]⟩, .string ⟨#[]⟩, .int .i64 0, .slice none 0 0] 206)));have HW:=G (aP.new2 w (.cells #[.int .i64 4, .string (an op), .string (an nm), .string (an tx), .int .i64 v, .slice A n c] 206) 206 #[.int .i64 4, .string ⟨#[]⟩, .string ⟨#[]⟩, .string ⟨#[]⟩, .int .i64 0, .slice none 0 0]);have HE0:=G ((aa w (.cells #[.int .i64 4, .string (an op), .string (an nm), .string (an tx), .int .i64 v, .slice A n c] 206)).trans (aa _ (.cells #[.int .i64 4, .string ⟨#[]⟩, .string ⟨#[]⟩, .string ⟨#[]⟩, .int .i64 0, .slice none 0 0] 206)));have HC:=G hC;clear hC;have HI:=G (df nm hl);generalize dV nm=b at*;generalize hR:(_&& _&& _&& _:Bool)=R;have HR:=G hR;clear hR;go_enter func115,ntmps115;go_wp2_with fail;refine bY (UW (w.heap.size+1) 206 #[.int .i64 4, .string ⟨#[]⟩, .string ⟨#[]⟩, .string ⟨#[]⟩, .int .i64 0, .slice none 0 0] #[.int .i64 4, .string ⟨#[]⟩, .string (an nm), .string ⟨#[]⟩, .int .i64 0, .slice none 0 0]) (UW.refl _ _ _ _) (UW.trans _ _ _ _) 6 3 [(4,fun v=>v= .bool b,fun _ _=>True)] [] mixed (by kernel_rfl) (by kernel_rfl) (by kernel_rfl) (by rfl) ⟨fun _ _ _ _ _=>trivial,trivial⟩ ?_;repeat (first|(refine bM (by rfl) ?_;simp only[bH,bG,bF,bE,bD])|(refine sx ?_ (fun w1 hU=> ?_) ?_;rotate_left;(focus have f1:=(HB.out.grown (bA hU.1) (fun e=>hne (ai e))).cell;clear hU;go_simp<;>with_reducible rfl);simp only[bH,bG,bF,bE,bD]))
 refine so (fun w6 hU hp K hK=> ?_) ?_
 ·clear hp hU;go_simp;refine(HI.out w6).mono ?_;rintro e w7 ⟨rfl,rfl⟩;exact hK _ _ (UW.refl _ _ _ _ _) rfl trivial
 rintro _ rfl;simp only[bH,bG,bF,bE,bD];repeat (first|(refine bM (by rfl) ?_;simp only[bH,bG,bF,bE,bD])|(refine sx ?_ (fun w1 hU=> ?_) ?_;rotate_left;(focus have f1:=(HB.out.grown (bA hU.1) (fun e=>hne (ai e))).cell;clear hU;go_simp<;>with_reducible rfl);simp only[bH,bG,bF,bE,bD]))
 intro w2 hw2 hp;clear hp;simp only[ac,aq];obtain⟨⟨z,hz⟩,hzf,hU,hW3⟩:=hw2.store HW.out 2 (.string (an nm)) (.string ⟨#[]⟩) rfl rfl rfl rfl;have HU:=G hU;have HW3:=G hW3;have HB3:=G (HB.out.grown (bA hU.1) (fun e=>hne (ai e)));have HX:=G (HE0.out.grown (bA hU.1) (fun k e=>by injection e with e;omega));clear hw2 hU hW3 HB HW;refine aH (by rfl) (by simp) (fun K hK=> ?_);go_simp;refine hK _ _ HU.out ?_;clear hK hz hzf;refine aH (by rfl) (by simp) (fun K hK=> ?_);go_simp;refine hK _ _ HU.out ?_;clear hK;refine aH (by rfl) (by simp) (fun K hK=> ?_);go_simp;refine hK _ _ HU.out ?_;clear hK;refine b_ ?_;rename_i Q1 K1 hK1 J0 J1;refine hK1 _ _ (iO _ _ 4 v 0 _ op nm tx [] nm [] A n c _ r w _ HX.out HB3.out HW3.out HC.out R HR.out _ _ _ _ _ _ _ _ _ _ _ _ _ _ _ _ _ _ _ _ _ _ _ _ _ _ _ _ _ _ _ _ _ _ _ _ _ _ _ _ _ _ _ _ _ _ _ _ _ _ _ _ _ _ _ _ _ _ _ _ _ _ _ _ _ _ _ _ _ _ _ _ _ _ _ _ _ _ _ _ _ _ _ _ _ _ _ _ _ _ _ _ _ _ _ _ _ _ _ _ _ _ _ _ _ _ _ _ _ _ _ _ _ _ _ _ _ _ _ _ _ _ _ _ _ _ _)
theorem F1 (op nm tx:List UInt8) (v:Int) (w:World) (A:Option Addr) (n c:Nat) (hn:n<=1073741824) (r:Bool) (hC:rr w A n c r) (hl:tx.length<=1073741824):
  Calls prog 115 #[.agg #[.int .i64 2, .string (an op), .string (an nm), .string (an tx), .int .i64 v, .slice A n c]] w fun e w'=>e= .returned (.bool (qG tx&&(op==[]&&nm==[]&&tx==tx&&v==0)&&decide ((n:Int)=0)&&r))/\au w w':=by
 have hn':(n:Int)<=1073741824:=by omega
 have hne:w.heap.size≠w.heap.size+1:=by omega
 have HB:=G ((aw w 206 #[.int .i64 2, .string (an op), .string (an nm), .string (an tx), .int .i64 v, .slice A n c]).ext (aa _ (.cells #[.int .i64 2, .string ⟨#[]⟩, .string ⟨#[]⟩, .string ⟨#[]⟩, .int .i64 0, .slice none 0 0] 206)));have HW:=G (aP.new2 w (.cells #[.int .i64 2, .string (an op), .string (an nm), .string (an tx), .int .i64 v, .slice A n c] 206) 206 #[.int .i64 2, .string ⟨#[]⟩, .string ⟨#[]⟩, .string ⟨#[]⟩, .int .i64 0, .slice none 0 0]);have HE0:=G ((aa w (.cells #[.int .i64 2, .string (an op), .string (an nm), .string (an tx), .int .i64 v, .slice A n c] 206)).trans (aa _ (.cells #[.int .i64 2, .string ⟨#[]⟩, .string ⟨#[]⟩, .string ⟨#[]⟩, .int .i64 0, .slice none 0 0] 206)));have HC:=G hC;clear hC;have HI:=G (ww tx hl);generalize qG tx=b at*;generalize hR:(_&& _&& _&& _:Bool)=R;have HR:=G hR;clear hR;go_enter func115,ntmps115;go_wp2_with fail;refine bY (UW (w.heap.size+1) 206 #[.int .i64 2, .string ⟨#[]⟩, .string ⟨#[]⟩, .string ⟨#[]⟩, .int .i64 0, .slice none 0 0] #[.int .i64 2, .string ⟨#[]⟩, .string ⟨#[]⟩, .string (an tx), .int .i64 0, .slice none 0 0]) (UW.refl _ _ _ _) (UW.trans _ _ _ _) 6 3 [(4,fun v=>v= .bool b,fun _ _=>True)] [] mixed (by kernel_rfl) (by kernel_rfl) (by kernel_rfl) (by rfl) ⟨fun _ _ _ _ _=>trivial,trivial⟩ ?_;repeat (first|(refine bM (by rfl) ?_;simp only[bH,bG,bF,bE,bD])|(refine sx ?_ (fun w1 hU=> ?_) ?_;rotate_left;(focus have f1:=(HB.out.grown (bA hU.1) (fun e=>hne (ai e))).cell;clear hU;go_simp<;>with_reducible rfl);simp only[bH,bG,bF,bE,bD]))
 refine so (fun w6 hU hp K hK=> ?_) ?_
 ·clear hp hU;go_simp;refine(HI.out w6).mono ?_;rintro e w7 ⟨rfl,hE⟩;exact hK _ _ (UW.of_ext hE) rfl trivial
 rintro _ rfl;simp only[bH,bG,bF,bE,bD];repeat (first|(refine bM (by rfl) ?_;simp only[bH,bG,bF,bE,bD])|(refine sx ?_ (fun w1 hU=> ?_) ?_;rotate_left;(focus have f1:=(HB.out.grown (bA hU.1) (fun e=>hne (ai e))).cell;clear hU;go_simp<;>with_reducible rfl);simp only[bH,bG,bF,bE,bD]))
 intro w2 hw2 hp;clear hp;simp only[ac,aq];obtain⟨⟨z,hz⟩,hzf,hU,hW3⟩:=hw2.store HW.out 3 (.string (an tx)) (.string ⟨#[]⟩) rfl rfl rfl rfl;have HU:=G hU;have HW3:=G hW3;have HB3:=G (HB.out.grown (bA hU.1) (fun e=>hne (ai e)));have HX:=G (HE0.out.grown (bA hU.1) (fun k e=>by injection e with e;omega));clear hw2 hU hW3 HB HW;refine aH (by rfl) (by simp) (fun K hK=> ?_);go_simp;refine hK _ _ HU.out ?_;clear hK hz hzf;refine aH (by rfl) (by simp) (fun K hK=> ?_);go_simp;refine hK _ _ HU.out ?_;clear hK;refine b_ ?_;rename_i Q1 K1 hK1 J0;refine hK1 _ _ (iO _ _ 2 v 0 _ op nm tx [] [] tx A n c _ r w _ HX.out HB3.out HW3.out HC.out R HR.out _ _ _ _ _ _ _ _ _ _ _ _ _ _ _ _ _ _ _ _ _ _ _ _ _ _ _ _ _ _ _ _ _ _ _ _ _ _ _ _ _ _ _ _ _ _ _ _ _ _ _ _ _ _ _ _ _ _ _ _ _ _ _ _ _ _ _ _ _ _ _ _ _ _ _ _ _ _ _ _ _ _ _ _ _ _ _ _ _ _ _ _ _ _ _ _ _ _ _ _ _ _ _ _ _ _ _ _ _ _ _ _ _ _ _ _ _ _ _ _ _ _ _ _ _ _ _)
theorem FW (op nm tx:List UInt8) (v:Int) (w:World) (A:Option Addr) (n c:Nat) (hn:n<=1073741824) (r:Bool) (hC:rr w A n c r):
  Calls prog 115 #[.agg #[.int .i64 7, .string (an op), .string (an nm), .string (an tx), .int .i64 v, .slice A n c]] w fun e w'=>e= .returned (.bool (decide (0<nC op)&&(op==op&&nm==[]&&tx==[]&&v==0)&&decide ((n:Int)=2)&&r))/\au w w':=by
 have hn':(n:Int)<=1073741824:=by omega
 have hne:w.heap.size≠w.heap.size+1:=by omega
 have HB:=G ((aw w 206 #[.int .i64 7, .string (an op), .string (an nm), .string (an tx), .int .i64 v, .slice A n c]).ext (aa _ (.cells #[.int .i64 7, .string ⟨#[]⟩, .string ⟨#[]⟩, .string ⟨#[]⟩, .int .i64 0, .slice none 0 0] 206)));have HW:=G (aP.new2 w (.cells #[.int .i64 7, .string (an op), .string (an nm), .string (an tx), .int .i64 v, .slice A n c] 206) 206 #[.int .i64 7, .string ⟨#[]⟩, .string ⟨#[]⟩, .string ⟨#[]⟩, .int .i64 0, .slice none 0 0]);have HE0:=G ((aa w (.cells #[.int .i64 7, .string (an op), .string (an nm), .string (an tx), .int .i64 v, .slice A n c] 206)).trans (aa _ (.cells #[.int .i64 7, .string ⟨#[]⟩, .string ⟨#[]⟩, .string ⟨#[]⟩, .int .i64 0, .slice none 0 0] 206)));have HC:=G hC;clear hC;have HI:=G (mu op);generalize nC op=L at*;generalize hR:(_&& _&& _&& _:Bool)=R;have HR:=G hR;clear hR;go_enter func115,ntmps115;go_wp2_with fail;refine bY (UW (w.heap.size+1) 206 #[.int .i64 7, .string ⟨#[]⟩, .string ⟨#[]⟩, .string ⟨#[]⟩, .int .i64 0, .slice none 0 0] #[.int .i64 7, .string (an op), .string ⟨#[]⟩, .string ⟨#[]⟩, .int .i64 0, .slice none 0 0]) (UW.refl _ _ _ _) (UW.trans _ _ _ _) 7 3 [(4,fun x=>x= .int .i64 L,fun _ _=>True)] [5] mixed (by kernel_rfl) (by kernel_rfl) (by kernel_rfl) (by rfl) ⟨fun _ _ _ _ _=>trivial,trivial⟩ ?_;repeat (first|(refine bM (by rfl) ?_;simp only[bH,bG,bF,bE,bD])|(refine sx ?_ (fun w1 hU=> ?_) ?_;rotate_left;(focus have f1:=(HB.out.grown (bA hU.1) (fun e=>hne (ai e))).cell;clear hU;go_simp<;>with_reducible rfl);simp only[bH,bG,bF,bE,bD]))
 refine so (fun w6 hU hp K hK=> ?_) ?_
 ·clear hp hU;go_simp;refine(HI.out w6).mono ?_;rintro e w7 ⟨rfl,rfl⟩;exact hK _ _ (UW.refl _ _ _ _ _) rfl trivial
 rintro _ rfl;simp only[bH,bG,bF,bE,bD];repeat (first|(refine bM (by rfl) ?_;simp only[bH,bG,bF,bE,bD])|(refine sx ?_ (fun w1 hU=> ?_) ?_;rotate_left;(focus have f1:=(HB.out.grown (bA hU.1) (fun e=>hne (ai e))).cell;clear hU;go_simp<;>with_reducible rfl);simp only[bH,bG,bF,bE,bD]))
 intro w2 hw2 hp;clear hp;simp only[ac,aq];obtain⟨⟨z,hz⟩,hzf,hU,hW3⟩:=hw2.store HW.out 1 (.string (an op)) (.string ⟨#[]⟩) rfl rfl rfl rfl;have HU:=G hU;have HW3:=G hW3;have HB3:=G (HB.out.grown (bA hU.1) (fun e=>hne (ai e)));have HX:=G (HE0.out.grown (bA hU.1) (fun k e=>by injection e with e;omega));clear hw2 hU hW3 HB HW;refine aH (by rfl) (by simp) (fun K hK=> ?_);go_simp;refine hK _ _ HU.out ?_;clear hK hz hzf;refine aH (by rfl) (by simp) (fun K hK=> ?_);go_simp;refine hK _ _ HU.out ?_;clear hK;refine aH (by rfl) (by simp) (fun K hK=> ?_);go_simp;refine hK _ _ HU.out ?_;clear hK;refine b_ ?_;rename_i Q1 K1 hK1 J0 J1;refine hK1 _ _ (iO _ _ 7 v 0 _ op nm tx op [] [] A n c _ r w _ HX.out HB3.out HW3.out HC.out R HR.out _ _ _ _ _ _ _ _ _ _ _ _ _ _ _ _ _ _ _ _ _ _ _ _ _ _ _ _ _ _ _ _ _ _ _ _ _ _ _ _ _ _ _ _ _ _ _ _ _ _ _ _ _ _ _ _ _ _ _ _ _ _ _ _ _ _ _ _ _ _ _ _ _ _ _ _ _ _ _ _ _ _ _ _ _ _ _ _ _ _ _ _ _ _ _ _ _ _ _ _ _ _ _ _ _ _ _ _ _ _ _ _ _ _ _ _ _ _ _ _ _ _ _ _ _ _ _)
theorem F2 (op nm tx:List UInt8) (v:Int) (w:World) (A:Option Addr) (n c:Nat) (hn:n<=1073741824) (r:Bool) (hC:rr w A n c r):
  Calls prog 115 #[.agg #[.int .i64 1, .string (an op), .string (an nm), .string (an tx), .int .i64 v, .slice A n c]] w fun e w'=>e= .returned (.bool ((decide (0<=v)&&decide (v<=2147483647))&&(op==[]&&nm==[]&&tx==[]&&v==v)&&decide ((n:Int)=0)&&r))/\au w w':=by
 have hn':(n:Int)<=1073741824:=by omega
 have hne:w.heap.size≠w.heap.size+1:=by omega
 have HB:=G ((aw w 206 #[.int .i64 1, .string (an op), .string (an nm), .string (an tx), .int .i64 v, .slice A n c]).ext (aa _ (.cells #[.int .i64 1, .string ⟨#[]⟩, .string ⟨#[]⟩, .string ⟨#[]⟩, .int .i64 0, .slice none 0 0] 206)));have HW:=G (aP.new2 w (.cells #[.int .i64 1, .string (an op), .string (an nm), .string (an tx), .int .i64 v, .slice A n c] 206) 206 #[.int .i64 1, .string ⟨#[]⟩, .string ⟨#[]⟩, .string ⟨#[]⟩, .int .i64 0, .slice none 0 0]);have HE0:=G ((aa w (.cells #[.int .i64 1, .string (an op), .string (an nm), .string (an tx), .int .i64 v, .slice A n c] 206)).trans (aa _ (.cells #[.int .i64 1, .string ⟨#[]⟩, .string ⟨#[]⟩, .string ⟨#[]⟩, .int .i64 0, .slice none 0 0] 206)));have HC:=G hC;clear hC;by_cases h0:0<=v
 ·have hd:decide (0<=v)=true:=decide_eq_true h0;rw[hd,Bool.true_and];generalize hR:(_&& _&& _&& _:Bool)=R;have HR:=G hR;clear hR;go_enter func115,ntmps115;go_wp2_with fail;refine bY (UW (w.heap.size+1) 206 #[.int .i64 1, .string ⟨#[]⟩, .string ⟨#[]⟩, .string ⟨#[]⟩, .int .i64 0, .slice none 0 0] #[.int .i64 1, .string ⟨#[]⟩, .string ⟨#[]⟩, .string ⟨#[]⟩, .int .i64 v, .slice none 0 0]) (UW.refl _ _ _ _) (UW.trans _ _ _ _) 11 3 [] [6,7,8,9] mixed (by kernel_rfl) (by kernel_rfl) (by kernel_rfl) (by rfl) trivial ?_;repeat (first|(refine bM (by rfl) ?_;simp only[bH,bG,bF,bE,bD])|(refine sx ?_ (fun w1 hU=> ?_) ?_;rotate_left;(focus have f1:=(HB.out.grown (bA hU.1) (fun e=>hne (ai e))).cell;clear hU;go_simp<;>with_reducible rfl);simp only[bH,bG,bF,bE,bD]))
  intro w2 hw2 hp;clear hp;simp only[ac,aq];obtain⟨⟨z,hz⟩,hzf,hU,hW3⟩:=hw2.store HW.out 4 (.int .i64 v) (.int .i64 0) rfl rfl rfl rfl;have HU:=G hU;have HW3:=G hW3;have HB3:=G (HB.out.grown (bA hU.1) (fun e=>hne (ai e)));have HX:=G (HE0.out.grown (bA hU.1) (fun k e=>by injection e with e;omega));clear hw2 hU hW3 HB HW;refine aH (by rfl) (by simp) (fun K hK=> ?_);go_simp;refine hK _ _ HU.out ?_;clear hK hz hzf;refine aH (by rfl) (by simp) (fun K hK=> ?_);go_simp;refine hK _ _ HU.out ?_;clear hK;refine b_ ?_;rename_i Q1 K1 hK1 J0;refine hK1 _ _ (iO _ _ 1 v v _ op nm tx [] [] [] A n c _ r w _ HX.out HB3.out HW3.out HC.out R HR.out _ _ _ _ _ _ _ _ _ _ _ _ _ _ _ _ _ _ _ _ _ _ _ _ _ _ _ _ _ _ _ _ _ _ _ _ _ _ _ _ _ _ _ _ _ _ _ _ _ _ _ _ _ _ _ _ _ _ _ _ _ _ _ _ _ _ _ _ _ _ _ _ _ _ _ _ _ _ _ _ _ _ _ _ _ _ _ _ _ _ _ _ _ _ _ _ _ _ _ _ _ _ _ _ _ _ _ _ _ _ _ _ _ _ _ _ _ _ _ _ _ _ _ _ _ _ _)
 ·have hd:decide (0<=v)=false:=decide_eq_false h0;rw[hd,Bool.false_and];generalize hR:(_&& _&& _&& _:Bool)=R;have HR:=G hR;clear hR;go_enter func115,ntmps115;go_wp2_with fail;refine bY (UW (w.heap.size+1) 206 #[.int .i64 1, .string ⟨#[]⟩, .string ⟨#[]⟩, .string ⟨#[]⟩, .int .i64 0, .slice none 0 0] #[.int .i64 1, .string ⟨#[]⟩, .string ⟨#[]⟩, .string ⟨#[]⟩, .int .i64 v, .slice none 0 0]) (UW.refl _ _ _ _) (UW.trans _ _ _ _) 11 3 [] [6,7,8,9] mixed (by kernel_rfl) (by kernel_rfl) (by kernel_rfl) (by rfl) trivial ?_;repeat (first|(refine bM (by rfl) ?_;simp only[bH,bG,bF,bE,bD])|(refine sx ?_ (fun w1 hU=> ?_) ?_;rotate_left;(focus have f1:=(HB.out.grown (bA hU.1) (fun e=>hne (ai e))).cell;clear hU;go_simp<;>with_reducible rfl);simp only[bH,bG,bF,bE,bD]))
  intro w2 hw2 hp;clear hp;simp only[ac,aq];obtain⟨⟨z,hz⟩,hzf,hU,hW3⟩:=hw2.store HW.out 4 (.int .i64 v) (.int .i64 0) rfl rfl rfl rfl;have HU:=G hU;have HW3:=G hW3;have HB3:=G (HB.out.grown (bA hU.1) (fun e=>hne (ai e)));have HX:=G (HE0.out.grown (bA hU.1) (fun k e=>by injection e with e;omega));clear hw2 hU hW3 HB HW;refine aH (by rfl) (by simp) (fun K hK=> ?_);go_simp;refine hK _ _ HU.out ?_;clear hK hz hzf;refine aH (by rfl) (by simp) (fun K hK=> ?_);go_simp;refine hK _ _ HU.out ?_;clear hK;refine b_ ?_;rename_i Q1 K1 hK1 J0;refine hK1 _ _ (iO _ _ 1 v v _ op nm tx [] [] [] A n c _ r w _ HX.out HB3.out HW3.out HC.out R HR.out _ _ _ _ _ _ _ _ _ _ _ _ _ _ _ _ _ _ _ _ _ _ _ _ _ _ _ _ _ _ _ _ _ _ _ _ _ _ _ _ _ _ _ _ _ _ _ _ _ _ _ _ _ _ _ _ _ _ _ _ _ _ _ _ _ _ _ _ _ _ _ _ _ _ _ _ _ _ _ _ _ _ _ _ _ _ _ _ _ _ _ _ _ _ _ _ _ _ _ _ _ _ _ _ _ _ _ _ _ _ _ _ _ _ _ _ _ _ _ _ _ _ _ _ _ _ _)
theorem FX (op nm tx:List UInt8) (v:Int) (w:World) (A:Option Addr) (n c:Nat) (hn:n<=1073741824) (r:Bool) (hC:rr w A n c r):
  Calls prog 115 #[.agg #[.int .i64 6, .string (an op), .string (an nm), .string (an tx), .int .i64 v, .slice A n c]] w fun e w'=>e= .returned (.bool ((op==[45]||op==[33])&&(op==op&&nm==[]&&tx==[]&&v==0)&&decide ((n:Int)=1)&&r))/\au w w':=by
 have hn':(n:Int)<=1073741824:=by omega
 have hne:w.heap.size≠w.heap.size+1:=by omega
 have HB:=G ((aw w 206 #[.int .i64 6, .string (an op), .string (an nm), .string (an tx), .int .i64 v, .slice A n c]).ext (aa _ (.cells #[.int .i64 6, .string ⟨#[]⟩, .string ⟨#[]⟩, .string ⟨#[]⟩, .int .i64 0, .slice none 0 0] 206)));have HW:=G (aP.new2 w (.cells #[.int .i64 6, .string (an op), .string (an nm), .string (an tx), .int .i64 v, .slice A n c] 206) 206 #[.int .i64 6, .string ⟨#[]⟩, .string ⟨#[]⟩, .string ⟨#[]⟩, .int .i64 0, .slice none 0 0]);have HE0:=G ((aa w (.cells #[.int .i64 6, .string (an op), .string (an nm), .string (an tx), .int .i64 v, .slice A n c] 206)).trans (aa _ (.cells #[.int .i64 6, .string ⟨#[]⟩, .string ⟨#[]⟩, .string ⟨#[]⟩, .int .i64 0, .slice none 0 0] 206)));have HC:=G hC;clear hC
 cases h0:(op==[45])with
 |true=>
  rw[Bool.true_or];generalize hR:(_&& _&& _&& _:Bool)=R;have HR:=G hR;clear hR;go_enter func115,ntmps115;go_wp2_with fail;refine bY (UW (w.heap.size+1) 206 #[.int .i64 6, .string ⟨#[]⟩, .string ⟨#[]⟩, .string ⟨#[]⟩, .int .i64 0, .slice none 0 0] #[.int .i64 6, .string (an op), .string ⟨#[]⟩, .string ⟨#[]⟩, .int .i64 0, .slice none 0 0]) (UW.refl _ _ _ _) (UW.trans _ _ _ _) 11 3 [] [6,7,8,9] mixed (by kernel_rfl) (by kernel_rfl) (by kernel_rfl) (by rfl) trivial ?_;repeat (first|(refine bM (by rfl) ?_;simp only[bH,bG,bF,bE,bD])|(refine sx ?_ (fun w1 hU=> ?_) ?_;rotate_left;(focus have f1:=(HB.out.grown (bA hU.1) (fun e=>hne (ai e))).cell;clear hU;go_simp<;>with_reducible rfl);simp only[bH,bG,bF,bE,bD]))
  intro w2 hw2 hp;clear hp;simp only[ac,aq];obtain⟨⟨z,hz⟩,hzf,hU,hW3⟩:=hw2.store HW.out 1 (.string (an op)) (.string ⟨#[]⟩) rfl rfl rfl rfl;have HU:=G hU;have HW3:=G hW3;have HB3:=G (HB.out.grown (bA hU.1) (fun e=>hne (ai e)));have HX:=G (HE0.out.grown (bA hU.1) (fun k e=>by injection e with e;omega));clear hw2 hU hW3 HB HW;refine aH (by rfl) (by simp) (fun K hK=> ?_);go_simp;refine hK _ _ HU.out ?_;clear hK hz hzf;refine aH (by rfl) (by simp) (fun K hK=> ?_);go_simp;refine hK _ _ HU.out ?_;clear hK;refine aH (by rfl) (by simp) (fun K hK=> ?_);go_simp;refine hK _ _ HU.out ?_;clear hK;refine b_ ?_;rename_i Q1 K1 hK1 J0 J1;refine hK1 _ _ (iO _ _ 6 v 0 _ op nm tx op [] [] A n c _ r w _ HX.out HB3.out HW3.out HC.out R HR.out _ _ _ _ _ _ _ _ _ _ _ _ _ _ _ _ _ _ _ _ _ _ _ _ _ _ _ _ _ _ _ _ _ _ _ _ _ _ _ _ _ _ _ _ _ _ _ _ _ _ _ _ _ _ _ _ _ _ _ _ _ _ _ _ _ _ _ _ _ _ _ _ _ _ _ _ _ _ _ _ _ _ _ _ _ _ _ _ _ _ _ _ _ _ _ _ _ _ _ _ _ _ _ _ _ _ _ _ _ _ _ _ _ _ _ _ _ _ _ _ _ _ _ _ _ _ _)
 |false=>
  rw[Bool.false_or];generalize hR:(_&& _&& _&& _:Bool)=R;have HR:=G hR;clear hR;go_enter func115,ntmps115;go_wp2_with fail;refine bY (UW (w.heap.size+1) 206 #[.int .i64 6, .string ⟨#[]⟩, .string ⟨#[]⟩, .string ⟨#[]⟩, .int .i64 0, .slice none 0 0] #[.int .i64 6, .string (an op), .string ⟨#[]⟩, .string ⟨#[]⟩, .int .i64 0, .slice none 0 0]) (UW.refl _ _ _ _) (UW.trans _ _ _ _) 11 3 [] [6,7,8,9] mixed (by kernel_rfl) (by kernel_rfl) (by kernel_rfl) (by rfl) trivial ?_;repeat (first|(refine bM (by rfl) ?_;simp only[bH,bG,bF,bE,bD])|(refine sx ?_ (fun w1 hU=> ?_) ?_;rotate_left;(focus have f1:=(HB.out.grown (bA hU.1) (fun e=>hne (ai e))).cell;clear hU;go_simp<;>with_reducible rfl);simp only[bH,bG,bF,bE,bD]))
  intro w2 hw2 hp;clear hp;simp only[ac,aq];obtain⟨⟨z,hz⟩,hzf,hU,hW3⟩:=hw2.store HW.out 1 (.string (an op)) (.string ⟨#[]⟩) rfl rfl rfl rfl;have HU:=G hU;have HW3:=G hW3;have HB3:=G (HB.out.grown (bA hU.1) (fun e=>hne (ai e)));have HX:=G (HE0.out.grown (bA hU.1) (fun k e=>by injection e with e;omega));clear hw2 hU hW3 HB HW;refine aH (by rfl) (by simp) (fun K hK=> ?_);go_simp;refine hK _ _ HU.out ?_;clear hK hz hzf;refine aH (by rfl) (by simp) (fun K hK=> ?_);go_simp;refine hK _ _ HU.out ?_;clear hK;refine aH (by rfl) (by simp) (fun K hK=> ?_);go_simp;refine hK _ _ HU.out ?_;clear hK;refine b_ ?_;rename_i Q1 K1 hK1 J0 J1;refine hK1 _ _ (iO _ _ 6 v 0 _ op nm tx op [] [] A n c _ r w _ HX.out HB3.out HW3.out HC.out R HR.out _ _ _ _ _ _ _ _ _ _ _ _ _ _ _ _ _ _ _ _ _ _ _ _ _ _ _ _ _ _ _ _ _ _ _ _ _ _ _ _ _ _ _ _ _ _ _ _ _ _ _ _ _ _ _ _ _ _ _ _ _ _ _ _ _ _ _ _ _ _ _ _ _ _ _ _ _ _ _ _ _ _ _ _ _ _ _ _ _ _ _ _ _ _ _ _ _ _ _ _ _ _ _ _ _ _ _ _ _ _ _ _ _ _ _ _ _ _ _ _ _ _ _ _ _ _ _)
theorem FY (op nm tx:List UInt8) (v:Int) (w:World) (A:Option Addr) (n c:Nat) (hn:n<=1073741824) (r:Bool) (hC:rr w A n c r) (hl:nm.length<=1073741824):
  Calls prog 115 #[.agg #[.int .i64 5, .string (an op), .string (an nm), .string (an tx), .int .i64 v, .slice A n c]] w fun e w'=>e= .returned (.bool ((dV nm&&decide ((n:Int)<=4))&&(op==[]&&nm==nm&&tx==[]&&v==0)&&decide ((n:Int)=n)&&r))/\au w w':=by
 have hn':(n:Int)<=1073741824:=by omega
 have hne:w.heap.size≠w.heap.size+1:=by omega
 have HB:=G ((aw w 206 #[.int .i64 5, .string (an op), .string (an nm), .string (an tx), .int .i64 v, .slice A n c]).ext (aa _ (.cells #[.int .i64 5, .string ⟨#[]⟩, .string ⟨#[]⟩, .string ⟨#[]⟩, .int .i64 0, .slice none 0 0] 206)));have HW:=G (aP.new2 w (.cells #[.int .i64 5, .string (an op), .string (an nm), .string (an tx), .int .i64 v, .slice A n c] 206) 206 #[.int .i64 5, .string ⟨#[]⟩, .string ⟨#[]⟩, .string ⟨#[]⟩, .int .i64 0, .slice none 0 0]);have HE0:=G ((aa w (.cells #[.int .i64 5, .string (an op), .string (an nm), .string (an tx), .int .i64 v, .slice A n c] 206)).trans (aa _ (.cells #[.int .i64 5, .string ⟨#[]⟩, .string ⟨#[]⟩, .string ⟨#[]⟩, .int .i64 0, .slice none 0 0] 206)));have HC:=G hC;clear hC;have HI:=G (df nm hl);generalize dV nm=b at*
 cases b with
 |true=>
  rw[Bool.true_and];generalize hR:(_&& _&& _&& _:Bool)=R;have HR:=G hR;clear hR;go_enter func115,ntmps115;go_wp2_with fail;refine bY (UW (w.heap.size+1) 206 #[.int .i64 5, .string ⟨#[]⟩, .string ⟨#[]⟩, .string ⟨#[]⟩, .int .i64 0, .slice none 0 0] #[.int .i64 5, .string ⟨#[]⟩, .string (an nm), .string ⟨#[]⟩, .int .i64 0, .slice none 0 0]) (UW.refl _ _ _ _) (UW.trans _ _ _ _) 15 3 [(4,fun v=>v= .bool true,fun _ _=>True)] [6,7,8,9,10,11,12,13] mixed (by kernel_rfl) (by kernel_rfl) (by kernel_rfl) (by rfl) ⟨fun _ _ _ _ _=>trivial,trivial⟩ ?_;repeat (first|(refine bM (by rfl) ?_;simp only[bH,bG,bF,bE,bD])|(refine sx ?_ (fun w1 hU=> ?_) ?_;rotate_left;(focus have f1:=(HB.out.grown (bA hU.1) (fun e=>hne (ai e))).cell;clear hU;go_simp<;>with_reducible rfl);simp only[bH,bG,bF,bE,bD]))
  refine so (fun w6 hU hp K hK=> ?_) ?_
  ·clear hp hU;go_simp;refine(HI.out w6).mono ?_;rintro e w7 ⟨rfl,rfl⟩;exact hK _ _ (UW.refl _ _ _ _ _) rfl trivial
  rintro _ rfl;simp only[bH,bG,bF,bE,bD];repeat (first|(refine bM (by rfl) ?_;simp only[bH,bG,bF,bE,bD])|(refine sx ?_ (fun w1 hU=> ?_) ?_;rotate_left;(focus have f1:=(HB.out.grown (bA hU.1) (fun e=>hne (ai e))).cell;clear hU;go_simp<;>with_reducible rfl);simp only[bH,bG,bF,bE,bD]))
  intro w2 hw2 hp;clear hp;simp only[ac,aq];obtain⟨⟨z,hz⟩,hzf,hU,hW3⟩:=hw2.store HW.out 2 (.string (an nm)) (.string ⟨#[]⟩) rfl rfl rfl rfl;have HU:=G hU;have HW3:=G hW3;have HB3:=G (HB.out.grown (bA hU.1) (fun e=>hne (ai e)));have HX:=G (HE0.out.grown (bA hU.1) (fun k e=>by injection e with e;omega));clear hw2 hU hW3 HB HW;refine aH (by rfl) (by simp) (fun K hK=> ?_);go_simp;refine hK _ _ HU.out ?_;clear hK hz hzf;refine aH (by rfl) (by simp) (fun K hK=> ?_);go_simp;refine hK _ _ HU.out ?_;clear hK;refine aH (by rfl) (by simp) (fun K hK=> ?_);go_simp;refine hK _ _ HU.out ?_;clear hK;refine b_ ?_;rename_i Q1 K1 hK1 J0 J1;refine hK1 _ _ (iO _ _ 5 v 0 _ op nm tx [] nm [] A n c _ r w _ HX.out HB3.out HW3.out HC.out R (Eq.trans (by simp) HR.out) _ _ _ _ _ _ _ _ _ _ _ _ _ _ _ _ _ _ _ _ _ _ _ _ _ _ _ _ _ _ _ _ _ _ _ _ _ _ _ _ _ _ _ _ _ _ _ _ _ _ _ _ _ _ _ _ _ _ _ _ _ _ _ _ _ _ _ _ _ _ _ _ _ _ _ _ _ _ _ _ _ _ _ _ _ _ _ _ _ _ _ _ _ _ _ _ _ _ _ _ _ _ _ _ _ _ _ _ _ _ _ _ _ _ _ _ _ _ _ _ _ _ _ _ _ _ _)
 |false=>
  rw[Bool.false_and];generalize hR:(_&& _&& _&& _:Bool)=R;have HR:=G hR;clear hR;go_enter func115,ntmps115;go_wp2_with fail;refine bY (UW (w.heap.size+1) 206 #[.int .i64 5, .string ⟨#[]⟩, .string ⟨#[]⟩, .string ⟨#[]⟩, .int .i64 0, .slice none 0 0] #[.int .i64 5, .string ⟨#[]⟩, .string (an nm), .string ⟨#[]⟩, .int .i64 0, .slice none 0 0]) (UW.refl _ _ _ _) (UW.trans _ _ _ _) 15 3 [(4,fun v=>v= .bool false,fun _ _=>True)] [6,7,8,9,10,11,12,13] mixed (by kernel_rfl) (by kernel_rfl) (by kernel_rfl) (by rfl) ⟨fun _ _ _ _ _=>trivial,trivial⟩ ?_;repeat (first|(refine bM (by rfl) ?_;simp only[bH,bG,bF,bE,bD])|(refine sx ?_ (fun w1 hU=> ?_) ?_;rotate_left;(focus have f1:=(HB.out.grown (bA hU.1) (fun e=>hne (ai e))).cell;clear hU;go_simp<;>with_reducible rfl);simp only[bH,bG,bF,bE,bD]))
  refine so (fun w6 hU hp K hK=> ?_) ?_
  ·clear hp hU;go_simp;refine(HI.out w6).mono ?_;rintro e w7 ⟨rfl,rfl⟩;exact hK _ _ (UW.refl _ _ _ _ _) rfl trivial
  rintro _ rfl;simp only[bH,bG,bF,bE,bD];repeat (first|(refine bM (by rfl) ?_;simp only[bH,bG,bF,bE,bD])|(refine sx ?_ (fun w1 hU=> ?_) ?_;rotate_left;(focus have f1:=(HB.out.grown (bA hU.1) (fun e=>hne (ai e))).cell;clear hU;go_simp<;>with_reducible rfl);simp only[bH,bG,bF,bE,bD]))
  intro w2 hw2 hp;clear hp;simp only[ac,aq];obtain⟨⟨z,hz⟩,hzf,hU,hW3⟩:=hw2.store HW.out 2 (.string (an nm)) (.string ⟨#[]⟩) rfl rfl rfl rfl;have HU:=G hU;have HW3:=G hW3;have HB3:=G (HB.out.grown (bA hU.1) (fun e=>hne (ai e)));have HX:=G (HE0.out.grown (bA hU.1) (fun k e=>by injection e with e;omega));clear hw2 hU hW3 HB HW;refine aH (by rfl) (by simp) (fun K hK=> ?_);go_simp;refine hK _ _ HU.out ?_;clear hK hz hzf;refine aH (by rfl) (by simp) (fun K hK=> ?_);go_simp;refine hK _ _ HU.out ?_;clear hK;refine aH (by rfl) (by simp) (fun K hK=> ?_);go_simp;refine hK _ _ HU.out ?_;clear hK;refine b_ ?_;rename_i Q1 K1 hK1 J0 J1;refine hK1 _ _ (iO _ _ 5 v 0 _ op nm tx [] nm [] A n c _ r w _ HX.out HB3.out HW3.out HC.out R (Eq.trans (by simp) HR.out) _ _ _ _ _ _ _ _ _ _ _ _ _ _ _ _ _ _ _ _ _ _ _ _ _ _ _ _ _ _ _ _ _ _ _ _ _ _ _ _ _ _ _ _ _ _ _ _ _ _ _ _ _ _ _ _ _ _ _ _ _ _ _ _ _ _ _ _ _ _ _ _ _ _ _ _ _ _ _ _ _ _ _ _ _ _ _ _ _ _ _ _ _ _ _ _ _ _ _ _ _ _ _ _ _ _ _ _ _ _ _ _ _ _ _ _ _ _ _ _ _ _ _ _ _ _ _)
theorem F3 (k:Int) (hk: ∀i:Int,1<=i->i<=7->k≠i) (op nm tx:List UInt8) (v:Int) (w:World) (A:Option Addr) (n c:Nat) (hn:n<=1073741824):
  Calls prog 115 #[.agg #[.int .i64 k, .string (an op), .string (an nm), .string (an tx), .int .i64 v, .slice A n c]] w fun e w'=>e= .returned (.bool false)/\au w w':=by
 have e1:(k==1)=false:=beq_eq_false_iff_ne.2 (hk 1 (by decide) (by decide));have e2:(k==2)=false:=beq_eq_false_iff_ne.2 (hk 2 (by decide) (by decide));have e3:(k==3)=false:=beq_eq_false_iff_ne.2 (hk 3 (by decide) (by decide));have e4:(k==4)=false:=beq_eq_false_iff_ne.2 (hk 4 (by decide) (by decide));have e5:(k==5)=false:=beq_eq_false_iff_ne.2 (hk 5 (by decide) (by decide));have e6:(k==6)=false:=beq_eq_false_iff_ne.2 (hk 6 (by decide) (by decide));have e7:(k==7)=false:=beq_eq_false_iff_ne.2 (hk 7 (by decide) (by decide));have HE0:=G ((aa w (.cells #[.int .i64 k, .string (an op), .string (an nm), .string (an tx), .int .i64 v, .slice A n c] 206)).trans (aa _ (.cells #[.int .i64 k, .string ⟨#[]⟩, .string ⟨#[]⟩, .string ⟨#[]⟩, .int .i64 0, .slice none 0 0] 206)));clear hk
 cases h1:(op==[])with
 |false=>
  go_enter func115,ntmps115;go_wp2_with fail;go_ret;exact⟨rfl,HE0.out⟩
 |true=>
 cases h2:(nm==[])with
 |false=>
  go_enter func115,ntmps115;go_wp2_with fail;go_ret;exact⟨rfl,HE0.out⟩
 |true=>
 cases h3:(tx==[])with
 |false=>
  go_enter func115,ntmps115;go_wp2_with fail;go_ret;exact⟨rfl,HE0.out⟩
 |true=>
 cases h4:(v==0)with
 |false=>
  go_enter func115,ntmps115;go_wp2_with fail;go_ret;exact⟨rfl,HE0.out⟩
 |true=>
  go_enter func115,ntmps115;go_wp2_with fail;go_ret;exact⟨rfl,HE0.out⟩
theorem qI: ∀l:List Ex,l.any (fun y=> !y.ok)= !xy l
 | []=>rfl
 |x::r=>by simp only[gz,xy,qI r,Bool.not_and]
theorem pE (y:Ex) (w':World) (B:Option Addr) (d:Nat) (h: ∀w,au w' w->Calls prog 115 #[.agg #[.int .i64 y.k, .string (an y.op), .string (an y.nm), .string (an y.tx), .int .i64 y.v, .slice B y.args.length d]] w fun e w''=>e= .returned (.bool y.ok)/\au w w'') (F:FuncId) (hF:F=168\/F=114):
  Calls prog F #[.agg #[.int .i64 y.k, .string (an y.op), .string (an y.nm), .string (an y.tx), .int .i64 y.v, .slice B y.args.length d]] w' fun e w''=>e= .returned (.bool (!y.ok))/\au w' w'':=by
 have HH:=G h;have HE:=G (aa w' (.cells #[.int .i64 y.k, .string (an y.op), .string (an y.nm), .string (an y.tx), .int .i64 y.v, .slice B y.args.length d] 206));clear h;generalize y.args.length=n at*;rcases hF with rfl|rfl
 ·go_enter func168,ntmps168;go_wp2_with (refine(HH.out _ HE.out).mono ?_;rintro e w3 ⟨rfl,hE⟩;have HY:=G (HE.out.trans hE);clear hE);go_ret;exact⟨rfl,HY.out⟩
 ·go_enter func114,ntmps114;go_wp2_with (refine(HH.out _ HE.out).mono ?_;rintro e w3 ⟨rfl,hE⟩;have HY:=G (HE.out.trans hE);clear hE);go_ret;exact⟨rfl,HY.out⟩
theorem nY: ∀(m:Nat) (x:Ex),x.wt<=m->x.wt<=1073741824-> ∀(P:Nat->Prop) (w:World) (A:Option Addr) (n c:Nat),et w P (.slice A n c) x.args->
  Calls prog 115 #[.agg #[.int .i64 x.k, .string (an x.op), .string (an x.nm), .string (an x.tx), .int .i64 x.v, .slice A n c]] w fun e w'=>e= .returned (.bool x.ok)/\au w w'
 |0,x,hm,_,_,_,_,_,_,_=>absurd hm (by have:=x.wt_eq;omega)
 |m+1,x,hm,hx,P,w,A,n,c,hR=>by
  have hw:=x.wt_eq;have hnl:=dI x.args;have hlen:=hR.len;have hC:rr w A n c (xy x.args):=fun w' hE=>by
   refine(zR (fun y=> !y.ok) x.args P w' A n c (hR.keep (.of_ext hE) (fun _ hb _=>hb)) (by omega) (fun y hy w2 B d hR2=> ?_)).mono ?_
   ·have hyw:=dO hy;exact pE y w2 B d (fun w3 hE3=>nY m y (by omega) (by omega) P w3 B _ d (hR2.keep (.of_ext hE3) (fun _ hb _=>hb))) _ (.inl rfl)
   ·rintro e w2 ⟨rfl,h2⟩;exact⟨by rw[qI],h2⟩
  have hn:n<=1073741824:=by omega
  obtain⟨k,op,nm,tx,v,xs⟩:=x;simp only[Ex.k,Ex.op,Ex.nm,Ex.tx,Ex.v,Ex.args]at*;have fin: ∀R,R=Ex.ok (.mk k op nm tx v xs)->Calls prog 115 #[.agg #[.int .i64 k, .string (an op), .string (an nm), .string (an tx), .int .i64 v, .slice A n c]] w (fun e w'=>e= .returned (.bool R)/\au w w')->Calls prog 115 #[.agg #[.int .i64 k, .string (an op), .string (an nm), .string (an tx), .int .i64 v, .slice A n c]] w fun e w'=>e= .returned (.bool (Ex.ok (.mk k op nm tx v xs)))/\au w w':=fun R hR h=>by rw[<-hR];exact h
  have ni: ∀j:Nat,decide ((n:Int)=(j:Int))=(n==j):=fun j=>by rw[eN];simp;omega
  have n0:=ni 0;have n1:=ni 1;have n2:=ni 2;have e0:((0:Nat):Int)=0:=rfl;have e1:((1:Nat):Int)=1:=rfl;have e2:((2:Nat):Int)=2:=rfl;rw[e0]at n0;rw[e1]at n1;rw[e2]at n2;by_cases h1:k=1
  ·subst h1;refine fin _ ?_ (F2 op nm tx v w A n c hn _ hC);rw[n0,Ex.ok,if_pos rfl,<-hlen];simp
  by_cases h2:k=2
  ·subst h2;refine fin _ ?_ (F1 op nm tx v w A n c hn _ hC (by omega));rw[n0,Ex.ok,if_neg h1,if_pos rfl,<-hlen];simp
  by_cases h3:k=3
  ·subst h3;refine fin _ ?_ (F0 op nm tx v w A n c hn _ hC (by omega));rw[n0,Ex.ok,if_neg h1,if_neg h2,if_pos rfl,<-hlen];simp
  by_cases h4:k=4
  ·subst h4;refine fin _ ?_ (FZ op nm tx v w A n c hn _ hC (by omega));rw[n1,Ex.ok,if_neg h1,if_neg h2,if_neg h3,if_pos rfl,<-hlen];simp
  by_cases h5:k=5
  ·subst h5;refine fin _ ?_ (FY op nm tx v w A n c hn _ hC (by omega));have e4:decide ((n:Int)<=4)=decide (n<=4):=by rw[eN];simp;omega
   rw[e4,Ex.ok,if_neg h1,if_neg h2,if_neg h3,if_neg h4,if_pos rfl,<-hlen];simp
  by_cases h6:k=6
  ·subst h6;refine fin _ ?_ (FX op nm tx v w A n c hn _ hC);rw[n1,Ex.ok,if_neg h1,if_neg h2,if_neg h3,if_neg h4,if_neg h5,if_pos rfl,<-hlen];simp
  by_cases h7:k=7
  ·subst h7;refine fin _ ?_ (FW op nm tx v w A n c hn _ hC);rw[n2,Ex.ok,if_neg h1,if_neg h2,if_neg h3,if_neg h4,if_neg h5,if_neg h6,if_pos rfl,<-hlen];simp
  ·refine fin _ ?_ (F3 k (fun i hi hj=>by omega) op nm tx v w A n c hn);rw[Ex.ok,if_neg h1,if_neg h2,if_neg h3,if_neg h4,if_neg h5,if_neg h6,if_neg h7];rfl
end
section
open Go.RowKit
theorem mi {P:Program} (t u ty e:TypeId) (i:TypeInfo) (z:Value) (ht:P.underlying t=some (.slice e)) (hu:P.underlying u=some (.int .i64)) (hi:P.info? e=some i) (hz:i.zero=some z) (w:World) (n:Nat) (h0:0<n) (hs:0<i.size)
  (h63:(n:Int)<=1073741824) (h48:n*i.bytes<=281474976710656):
  (Builtin.append_ #[t,u] ty #[.slice none 0 0, .int .i64 n]).run P w=
   .ok (.slice (some ⟨w.heap.size,0,none⟩) n (grownCap w n 0 e)) (w.drew.alloc (.cells (Builtin.zeroCells z.cells n++Builtin.zeroCells z.cells (grownCap w n 0 e-n)) e)):=by
 have hn:n≠0:=by omega
 have h1:IntKind.i64.wrap (n:Int)=n:=by simp[IntKind.wrap,IntKind.signed,IntKind.bits];omega
 have h2: ¬(n:Int)<0:=by omega
 have h63': ¬(9223372036854775807<(n:Int)):=by omega
 have h48': ¬(281474976710656<Builtin.nextslicecap n 0*i.bytes):=by rw[nextslicecap_zero h0];omega
 have h48i: ¬(281474976710656<(n:Int)*(i.bytes:Int)):=by
  have:(n:Int)*(i.bytes:Int)=((n*i.bytes:Nat):Int):=by simp
  omega
 simp[Builtin.append_,run_underlying ht,run_underlying hu,sizeOf,typeInfo,zeroValue,hi,hz,h1,h2,hn,h63',h48',h48i,Question.forced,run_firstCells_none,newRow,grownCap,asInt,asIntOf];intro h;exact absurd h (bO (Nat.mul_pos h0 hs))
theorem jJ (z:Array Value) (n:Nat):(Builtin.zeroCells z n).size=n*z.size:=by simp[Builtin.zeroCells]
theorem qe {P:Program} {w:World} {ops:Array Oper} {rest:List Oper} {o:Oper} {a:Act} {Q:Exit->Act->World->Prop} {t u e:TypeId} {size bytes:Nat} {z:Value} (hT:mc P t e size bytes z) (hu:P.underlying u=some (.int .i64)) (hgd:o.guard=none) (s x:Operand)
  (ho:o.op= .call {callee:= .builtin .append,args:= #[s,x],argTypes:= #[t,u]}) (base n:Nat) (hv:a.eval s= .slice none 0 0) (hx:a.eval x= .int .i64 n) (h0:0<n) (hn:n<=1073741824) (hy:bytes<=1000) (hbase:base<=w.heap.size)
  (h: ∀g cap w',w'.ownsRow base e size (.slice (some ⟨g,0,none⟩) 0 cap) 0 []->n<=cap->au w w'->wpList P ops Q rest (a.put o.dst (.slice (some ⟨g,0,none⟩) n cap)) w'):
  wpList P ops Q (o::rest) a w:=by
 obtain⟨i,hi,hz,hz1,hz2⟩:=info_parts hT.info;have hb:n*i.bytes<=n*1000:=fE _ (by rw[hz2];exact hy);have hr:=mi (P:=P) t u o.type e i z hT.under hu hi hz w n h0 (by rw[hz1];exact hT.pos) (by omega) (by omega);have hge:=grownCap_ge w n 0 e;have hcm:grownCap w n 0 e<=maxLen:=grownCap_le_maxLen w n 0 e (by simp only[maxLen];omega);refine wpList_plain hgd fun K hK=> ?_;unfold Oper.wp execOp;simp only[ho,resolve,invoke,builtin,Sem.run_bind,Sem.run_pure,Result.andThen_ok,cU,bS,db,hv,hx,hr];refine hK _ _ (h w.heap.size (grownCap w n 0 e) _ ?_ hge ((aG w).drew.alloc' _));refine World.ownsRow_made w.drew _ _ hbase hcm ?_;rw[Array.size_append,jJ,jJ,hT.cells,<-Nat.add_mul,Nat.add_sub_cancel' hge]
theorem yf:mc prog 78 147 5 96 (.agg #[.int .i64 0, .string ⟨#[]⟩, .slice none 0 0, .slice none 0 0, .slice none 0 0]):=⟨underlying78,by kernel_rfl,by rfl,by decide⟩
theorem zp (n:Nat) (hn:n<=1073741824) (w:World):Calls prog 164 #[.slice none 0 0, .int .i64 (n:Int)] w fun e w'=>(∃A c,e= .returned (.slice A 0 c)/\w'.ownsRow w.heap.size 147 5 (.slice A 0 c) 0 [])/\au w w':=by
 have hn': ¬(n:Int)<0:=by omega
 have hw:wrap64 (n:Int)=n:=by simp only[wrap64];omega
 have hw2:IntKind.i64.wrap (n:Int)=n:=by simp[IntKind.wrap,IntKind.signed,IntKind.bits];omega
 rcases Nat.eq_zero_or_pos n with rfl|h0
 ·go_enter func164,ntmps164;go_wp2_with fail;go_ret;exact⟨⟨none,0,rfl,World.ownsRow_nil w _ _ 5⟩,aG w⟩
 ·have h0':(0:Int)<n:=by omega
  go_enter func164,ntmps164;go_wp2_with (at_builtin;refine qe yf underlying3 rfl _ _ rfl w.heap.size n rfl rfl h0 hn (by decide) (ah _) ?_;intro g cap w1 hO hcap hE;have HO:=G hO;have HE:=G hE;clear hO hE);go_ret;exact⟨⟨_,_,rfl,HO.out⟩,HE.out⟩
theorem dS.svs {w:World} {P:Nat->Prop} {A:Option Addr} {n c:Nat} {l:List St} (h:dS w P (.slice A n c) l):
  ∃q:List SV,q.map (·.s)=l/\q.length=n/\(∀p,p∈q->p.ok w P)/\n<=maxLen/\(n=0\/n<=c/\ ∃b o,A=some ⟨b,o,none⟩/\b<w.heap.size/\ ∀j y,(ek q)[j]? =some y->w.cell? ⟨b,o+j,none⟩=some y):=by
 cases h with
 |nil=>exact⟨[],rfl,rfl,fun p hp=>(by cases hp),by simp[maxLen], .inl rfl⟩
 |row b o n c xs es bs ls hP hb hn hnc hm hc he hs hl=>
  refine⟨List.ofFn (n:=l.length) (fun i=>⟨l[i],es i,bs i,ls i⟩),?_,by simpa using hn,?_,by omega, .inr ⟨hnc,b,o,rfl,hb,fun j y hj=> ?_⟩⟩
  ·apply List.ext_getElem
   ·simp
   ·intro i h1 h2;simp
  ·intro p hp;rw[List.mem_ofFn]at hp;obtain⟨i,rfl⟩:=hp;exact⟨he i i.2,hs i i.2,hl i i.2⟩
  ·have hlt:j<l.length*5:=by
    have:=(List.getElem?_eq_some_iff.1 hj).1;rw[ju]at this;simpa using this
   have hi:j/5<l.length:=by omega
   have hk:j%5<5:=Nat.mod_lt _ (by omega);have hj2:j=j/5*5+j%5:=by omega
   rw[hj2,kz _ (j/5) (by simpa using hi) (j%5) hk]at hj;obtain⟨c0,c1,c2,c3,c4⟩:=hc (j/5) hi;rw[hj2,<-Nat.add_assoc];simp only[List.getElem_ofFn]at hj;generalize j%5=r at*;have:r=0\/r=1\/r=2\/r=3\/r=4:=by omega
   rcases this with rfl|rfl|rfl|rfl|rfl<;>(simp only[xw,cA,cO,f6]at hj;subst hj;assumption)
theorem dS.of_row {w:World} {base:Nat} {e:TypeId} {v:Value} {n:Nat} {q:List SV} {Q:Nat->Prop} (h:w.ownsRow base e 5 v n (ek q)) (hn:q.length=n) (hQ: ∀b,base<=b->Q b) (hq: ∀p,p∈q->p.ok w Q):dS w Q v (q.map (·.s)):=by
 rcases h.2 with⟨rfl,h0⟩|⟨g,cap,cur,rfl,hb,hg,hnc,hcm,hcs,ht⟩
 ·have:q=[]:=aS (by omega);subst this;exact .nil _ _
 ·have hlt:g<w.heap.size:=(Array.getElem?_eq_some_iff.1 hg).1;have cell: ∀j y,(ek q)[j]? =some y->w.cell? ⟨g,j,none⟩=some y:=fun j y hy=>by
   rw[cell_of_row w g j cur e (0,0) hg];rw[<-ht,bZ]at hy;split at hy
   ·simpa using hy
   ·cases hy
  refine .row g 0 n cap _ (fun i=>if h:i<q.length then q[i].e else .slice none 0 0) (fun i=>if h:i<q.length then q[i].b else .slice none 0 0) (fun i=>if h:i<q.length then q[i].l else .slice none 0 0) (hQ _ hb) hlt (by simpa using hn) hnc hcm (fun i hi=> ?_) (fun i hi=> ?_) (fun i hi=> ?_) (fun i hi=> ?_)
  ·have hi':i<q.length:=by simpa using hi
   have r:=fun k hk=>kz q i hi' k hk;have e0:(q.map (·.s))[i]=q[i].s:=by simp
   rw[e0,dif_pos hi',dif_pos hi',dif_pos hi',be];exact⟨cell _ _ (r 0 (by omega)),cell _ _ (r 1 (by omega)),cell _ _ (r 2 (by omega)),cell _ _ (r 3 (by omega)),cell _ _ (r 4 (by omega))⟩
  all_goals
   have hi':i<q.length:=by simpa using hi
   have e0:(q.map (·.s))[i]=q[i].s:=by simp
   rw[e0,dif_pos hi']
  ·exact(hq _ (ap hi')).1
  ·exact(hq _ (ap hi')).2.1
  ·exact(hq _ (ap hi')).2.2
theorem v6 {q:List SV} (u:Value) (hu:u∈ek q) (hq: ∀p,p∈q-> ∃a b c d e f g h i,p.e= .slice a b c/\p.b= .slice d e f/\p.l= .slice g h i):u.oneCell'=true:=by
 obtain⟨p,hp,hu⟩:=List.mem_flatMap.1 hu;obtain⟨a,b,c,d,e,f,g,h,i,h1,h2,h3⟩:=hq p hp;simp only[xw,h1,h2,h3,bN,aZ,or_false]at hu;rcases hu with rfl|rfl|rfl|rfl|rfl<;>rfl
theorem SV.ok.forms {w:World} {P:Nat->Prop} {p:SV} (h:p.ok w P): ∃a b c d e f g h i,p.e= .slice a b c/\p.b= .slice d e f/\p.l= .slice g h i:=by
 obtain⟨a,b,h1,_⟩:=h.1.form;obtain⟨c,d,h2,_⟩:=h.2.1.form;obtain⟨e,f,h3,_⟩:=h.2.2.form;exact⟨_,_,_,_,_,_,_,_,_,h1,h2,h3⟩
theorem mQ {P:Program} {w:World} {ops:Array Oper} {rest:List Oper} {o:Oper} {a:Act} {Q:Exit->Act->World->Prop} {t e:TypeId} {bytes:Nat} {z:Value} (hT:mc P t e 5 bytes z) (hgd:o.guard=none) (s x:Operand)
  (ho:o.op= .call {callee:= .builtin .append,args:= #[s,x],argTypes:= #[t,t]}) (base:Nat) (A:Option Addr) (n c:Nat) (xs:List Value) (hv:a.eval s= .slice A n c) (hown:w.ownsRow base e 5 (.slice A n c) n xs)
  (B:Option Addr) (m d:Nat) (q:List SV) (R:Nat->Prop) (hx:a.eval x= .slice B m d) (hq:q.length=m) (hok: ∀p,p∈q->p.ok w R)
  (hcs:m=0\/m<=d/\ ∃b o,B=some ⟨b,o,none⟩/\b<w.heap.size/\ ∀j y,(ek q)[j]? =some y->w.cell? ⟨b,o+j,none⟩=some y) (hb:n+m<=1073741824) (hy:bytes<=1000) (hbase:base<=w.heap.size) (hn1:n<=c)
  (h: ∀C k w',w'.ownsRow base e 5 (.slice C (n+m) k) (n+m) (xs++ek q)->(∀w0,w0.heap.size<=base->au w0 w->au w0 w')->wpList P ops Q rest (a.put o.dst (.slice C (n+m) k)) w'):
  wpList P ops Q (o::rest) a w:=by
 obtain⟨i,hi,hz,hz1,hz2⟩:=info_parts hT.info;have hbl:=World.ownsRow.lt hown;have fin: ∀v' w',(Builtin.append_ #[t,t] o.type #[.slice A n c, .slice B m d]).run P w= .ok v' w'->w'.ownsRow base e 5 v' (n+m) (xs++ek q)->w.grownBy w' (Value.ownBlock (.slice A n c))->wpList P ops Q (o::rest) a w:=by
  intro v' w' hr ho' hg;obtain⟨C,k,rfl⟩: ∃C k,v'= .slice C (n+m) k:=by
   rcases ho'.2 with⟨rfl,h0⟩|⟨g,cap,cur,rfl,_⟩
   ·exact⟨none,0,by rw[h0]⟩
   ·exact⟨_,_,rfl⟩
  refine wpList_plain hgd fun K hK=> ?_;unfold Oper.wp execOp;simp only[ho,resolve,invoke,builtin,Sem.run_bind,Sem.run_pure,Result.andThen_ok,cU,bS,db,hv,hx,hr];exact hK _ _ (h C k w' ho' fun w0 hw0 hE=>hE.grown hg (fun k hk=>ax hw0 (hbl k hk).1))
 have h1: ∀u∈ek q,u.oneCell'=true:=fun u hu=>v6 u hu fun p hp=>(hok p hp).forms;rcases hcs with rfl|⟨hmd,b,o',rfl,hlt,hcell⟩
 ·have:q=[]:=aS hq;subst this;rcases B with _|ad
  ·refine fin (.slice A n c) w ?_ (by simpa[ek]using hown) (World.grownBy.refl w _)
   cases A<;>simp[Builtin.append_,run_underlying hT.under,sizeOf,typeInfo,hi,Builtin.lenOf,Builtin.firstCells,hn1,storeCells]
  ·obtain⟨v',w',hr,h2,h3,_,h5⟩:=run_append_own_at (P:=P) w base t o.type e i z 5 bytes hT.under hi hz hz1 hz2 hT.cells hT.pos _ n xs hown ad 0 d [] (by simp) (by simp) (by simp) (by simp only[maxLen];omega) (by have:(n+0)*bytes<=(n+0)*1000:=(fE _ hy);omega) hbase;exact fin v' w' hr (by simpa[ek]using h2) h3
 ·obtain⟨v',w',hr,h2,h3,_,h5⟩:=run_append_own_at (P:=P) w base t o.type e i z 5 bytes hT.under hi hz hz1 hz2 hT.cells hT.pos _ n xs hown ⟨b,o',none⟩ m d (ek q) (by rw[ju,hq]) (fun j y hj=>by rw[Addr.add_lit];exact hcell j y hj) h1 (by simp only[maxLen];omega) (by
    have:(n+m)*bytes<=(n+m)*1000:=fE _ hy
    omega) hbase
  exact fin v' w' hr h2 h3
theorem Dp {w:World} {a b:Nat} {e:TypeId} {k n:Nat} {v:Value} {xs:List Value} (h:w.ownsRow b e k v n xs) (hb:a<=b):w.ownsRow a e k v n xs:=
 ⟨h.1,h.2.imp id fun⟨g,cap,cur,q1,q2,q3⟩=>⟨g,cap,cur,q1,ax hb q2,q3⟩⟩
def i7 {α:Type} (a b c:α):Nat->α|0=>a|1=>b| _=>c
theorem oJ (P:Nat->Prop) (w:World) (g:Nat) (A B:Option Addr) (n m c d:Nat) (l1 l2:List St) (hB:aP w g 78 #[.slice A n c, .slice B m d]) (h1:dS w P (.slice A n c) l1) (h2:dS w P (.slice B m d) l2) (hb:n+m<=1073741824):
  Calls prog 112 #[.slice (some ⟨g,0,none⟩) 2 2] w fun e w'=>(∃C k,e= .returned (.slice C (n+m) k)/\dS w' (fun b=>P b\/w.heap.size<=b) (.slice C (n+m) k) (l1++l2))/\au w w':=by
 obtain⟨q1,rfl,hq1,ho1,hm1,hc1⟩:=h1.svs;obtain⟨q2,rfl,hq2,ho2,hm2,hc2⟩:=h2.svs;have HB:=G hB;have HO1:=G ho1;have HO2:=G ho2;have HC1:=G hc1;have HC2:=G hc2;have hbc:=hB.cell;have HE0:=G (aG w);have hn0: ¬((n:Int)<0):=by omega
 have hnm0: ¬((n:Int)+m<0):=by omega
 have hw1:wrap64 ((n:Int))=n:=by simp only[wrap64];omega
 have hw2:wrap64 ((n:Int)+m)=(n+m:Nat):=by simp only[wrap64];omega
 have hw3:IntKind.i64.wrap (n:Int)=n:=by simp[IntKind.wrap,IntKind.signed,IntKind.bits];omega
 have hw4:IntKind.i64.wrap ((n:Int)+m)=(n+m:Nat):=by simp[IntKind.wrap,IntKind.signed,IntKind.bits];omega
 have hnm1: ¬(((n+m:Nat):Int)<0):=by omega
 clear h1 h2 ho1 ho2 hc1 hc2 hB;go_enter func112,ntmps112;go_wp2_with fail
 go_loopw [3,11] (fun vs vi wr=> ∃(j:Nat),vi= .int .i64 (j:Int)/\j<=2/\vs= .int .i64 ((i7 0 n (n+m) j:Nat):Int)/\Hid (au w wr)) (fun _ vi _=>2-(intOf vi).toNat)
 case atStart=>exact⟨0,rfl,by omega,rfl,HE0⟩
 case round=>
  obtain⟨j,rfl,hj,rfl,HX⟩:=hrel;have hbx:=(HB.out.ext HX.out).cell;clear hbc;obtain rfl|rfl|rfl:j=0\/j=1\/j=2:=by omega
  ·simp only[i7];go_wp2_with fail;go_roundw
   case rel=>exact⟨1,rfl,by omega,by simp,HX⟩
   case measure=>simp[intOf]
  ·simp only[i7];go_wp2_with fail;go_roundw
   case rel=>exact⟨2,rfl,by omega,by simp,HX⟩
   case measure=>simp[intOf]
  ·simp only[i7];go_wp2_with (go_at_call 164;refine(zp (n+m) hb _).mono ?_;rintro e w1 ⟨⟨A1,c1,rfl,hO⟩,hE⟩;have HE1:=G (HX.out.trans hE);have HOw:=G (Dp hO (fL HX.out));have hbc1:=(HB.out.ext HE1.out).cell;clear hbx;clear hO hE)
   go_loopw [6,27] (fun vs vi wr=> ∃(j:Nat) (C:Option Addr) (k cap:Nat),vi= .int .i64 (j:Int)/\j<=2/\vs= .slice C k cap/\k=i7 0 n (n+m) j/\Hid (wr.ownsRow w.heap.size 147 5 (.slice C k cap) k (i7 [] (ek q1) (ek q1++ek q2) j))/\Hid (au w wr)) (fun _ vi _=>2-(intOf vi).toNat)
   case atStart=>exact⟨0,_,_,_,rfl,by omega,rfl,rfl,HOw,HE1⟩
   case round=>
    obtain⟨j,C,k,cap,rfl,hj,rfl,hk,HOr,HEr⟩:=hrel;have hbc2:=(HB.out.ext HEr.out).cell;clear hbc1 HOw HE1;have hkc:k<=cap:=by
     rcases HOr.out.2 with⟨hv,h0⟩|⟨g',c',cur,hv,_,_,hle,_⟩
     ·injection hv with a1 a2 a3;omega
     ·injection hv with a1 a2 a3;omega
    obtain rfl|rfl|rfl:j=0\/j=1\/j=2:=by omega
    ·simp only[i7]at hk HOr;obtain rfl:k=0:=hk;go_wp2_with (at_builtin;refine mQ yf rfl _ _ rfl w.heap.size C 0 cap [] rfl HOr.out A n c q1 P rfl hq1 (fun p hp=>(HO1.out p hp).keep (.of_ext HEr.out) (fun _ hb _=>hb)) (HC1.out.imp id fun⟨a1,b,o,a2,a3,a4⟩=>⟨a1,b,o,a2,aA a3 HEr.out.size,fun j y hj=>(HEr.out.cell b _ a3).trans (a4 j y hj)⟩) (by omega) (by decide) HEr.out.size hkc ?_;intro C2 k2 w2 hO2 hE2;have HO2w:=G hO2;have HE2:=G (hE2 w (ah _) HEr.out);clear hO2 hE2);go_roundw
     case rel=>exact⟨1,C2,0+n,k2,rfl,by omega,by simp,by simp[i7],by simpa[i7]using HO2w,HE2⟩
     case measure=>simp[intOf]
    ·simp only[i7]at hk HOr;obtain rfl:k=n:=hk;go_wp2_with (at_builtin;refine mQ yf rfl _ _ rfl w.heap.size C k cap (ek q1) rfl HOr.out B m d q2 P rfl hq2 (fun p hp=>(HO2.out p hp).keep (.of_ext HEr.out) (fun _ hb _=>hb)) (HC2.out.imp id fun⟨a1,b,o,a2,a3,a4⟩=>⟨a1,b,o,a2,aA a3 HEr.out.size,fun j y hj=>(HEr.out.cell b _ a3).trans (a4 j y hj)⟩) (by omega) (by decide) HEr.out.size hkc ?_;intro C2 k2 w2 hO2 hE2;have HO2w:=G hO2;have HE2:=G (hE2 w (ah _) HEr.out);clear hO2 hE2);go_roundw
     case rel=>exact⟨2,C2,k+m,k2,rfl,by omega,rfl,by simp[i7],by simpa[i7]using HO2w,HE2⟩
     case measure=>simp[intOf]
    ·simp only[i7]at hk HOr;subst hk;go_wp2_with fail;go_ret;refine⟨⟨C,cap,rfl,?_⟩,HEr.out⟩
     have:=dS.of_row (q:=q1++q2) (Q:=fun b=>P b\/w.heap.size<=b) (by rw[pO];exact HOr.out) (by simp[hq1,hq2]) (fun b hb=> .inr hb) (fun p hp=>by
      rcases List.mem_append.1 hp with hp|hp
      ·exact(HO1.out p hp).keep (.of_ext HEr.out) (fun _ hb _=> .inl hb)
      ·exact(HO2.out p hp).keep (.of_ext HEr.out) (fun _ hb _=> .inl hb))
     simpa using this
end
section
open Go.RowKit
theorem wR {l:List St} {j:Nat} (h:j<l.length):gg (l.take (j+1))=max (gg (l.take j)) l[j].dep:=by
 rw[aM h,kn];simp[gg]
theorem wS (l:List Ex) (j:Nat):fW (l.take j)<=fW l:=by
 have:=lX (l.take j) (l.drop j);rw[cM]at this;omega
theorem wQ (l:List St) (j:Nat):gg (l.take j)<=gg l:=by
 have:=kn (l.take j) (l.drop j);rw[cM]at this;omega
theorem rT: ∀(m:Nat) (x:St),x.wt<=m->x.wt<=1073741824-> ∀(P:Nat->Prop) (w:World) (A B C:Option Addr) (n c nb cb nl cl:Nat),et w P (.slice A n c) x.ex->dS w P (.slice B nb cb) x.body->dS w P (.slice C nl cl) x.els->
  Calls prog 60 #[.agg #[.int .i64 x.k, .string (an x.nm), .slice A n c, .slice B nb cb, .slice C nl cl]] w fun e w'=>e= .returned (.int .i64 (x.dep:Int))/\au w w'
 |0,x,hm,_,_,_,_,_,_,_,_,_,_,_,_,_,_,_=>absurd hm (by have:=x.wt_eq;omega)
 |m+1,x,hm,hx,P,w,A,B,C,n,c,nb,cb,nl,cl,hR,hRb,hRl=>by
  have HD:=G (x.dep_eq);have hw:=x.wt_eq;have hlE:=hR.len;have hlB:=hRb.len;have hlL:=hRl.len;have hnE:=dI x.ex;have hnB:=eo x.body;have hnL:=eo x.els;have hdE:=lW x.ex;have hdB:=lV x.body;have hdL:=lV x.els;have hmem: ∀y,y∈x.body++x.els->y.wt<=m/\y.wt<=1073741824:=fun y hy=>by
   rcases List.mem_append.1 hy with h|h
   ·have:=co h;omega
   ·have:=co h;omega
  have HIH:=G (rT m);obtain⟨k,nm,xs,bd,el⟩:=x;simp only[St.k,St.nm,St.ex,St.body,St.els]at*;have HR:=G hR;have HRb:=G hRb;have HRl:=G hRl;have HE0:=G (aa w (.cells #[.int .i64 k, .string (an nm), .slice A n c, .slice B nb cb, .slice C nl cl] 147));have HB0:=G (aw w 147 #[.int .i64 k, .string (an nm), .slice A n c, .slice B nb cb, .slice C nl cl]);have HLE:=G hlE;have HLB:=G hlB;have HLL:=G hlL;have hnE':n<=jF xs:=by omega
  have hnB':nb<=gF bd:=by omega
  have hnL':nl<=gF el:=by omega
  clear hR hRb hRl hlE hlB hlL;go_enter func60,ntmps60;go_wp2_with fail
  go_loopw [3,11] (fun vd vi wr=> ∃(j:Nat),vi= .int .i64 (j:Int)/\j<=n/\vd= .int .i64 (fW (xs.take j):Int)/\Hid (au w wr)/\Hid (aP wr w.heap.size 147 #[.int .i64 k, .string (an nm), .slice A n c, .slice B nb cb, .slice C nl cl])) (fun _ vi _=>n-(intOf vi).toNat)
  case atStart=>exact⟨0,rfl,aC _,by simp[fW],HE0,HB0⟩
  case round=>
   obtain⟨j,rfl,hj,rfl,HX,HB⟩:=hrel;have hdj:=wS xs j;by_cases hlt:j<n
   ·have hlt':(j:Int)<n:=by omega
    have hjl:j<xs.length:=by have:=HLE.out;omega
    obtain⟨b,o,a,rfl,hb,hP,h0,h1,h2,h3,h4,h5,hRa⟩:=HR.out.at_ j hjl;have HS:=G (p6 hjl);have hyw:=dO (ap hjl);generalize xs[j]=y at*;have e0:=(HX.out.cell b _ hb).trans h0;have e1:=(HX.out.cell b _ hb).trans h1;have e2:=(HX.out.cell b _ hb).trans h2;have e3:=(HX.out.cell b _ hb).trans h3;have e4:=(HX.out.cell b _ hb).trans h4;have e5:=(HX.out.cell b _ hb).trans h5;obtain⟨D,d,rfl,_⟩:=hRa.form;have HRa:=G (hRa.keep (.of_ext HX.out) (Q:=P) (fun b hb _=>hb));have hdy:=y.dep_le;clear h0 h1 h2 h3 h4 h5 hRa;go_wp2_with (go_at_call 111;refine(vh _ y (ah _) (by omega) P _ D _ d (HRa.out.keep (.of_ext (aa _ _)) (fun b hb _=>hb))).mono ?_;rintro e w3 ⟨rfl,hE⟩;have HY:=G ((HX.out.alloc' _).trans hE);have HBy:=G ((HB.out.ext (aa _ _)).ext hE);clear hE);go_roundw
    case rel=>exact⟨j+1,by go_num,by omega,by rw[HS.out];congr 1;omega,HY,HBy⟩
    case measure=>simp[intOf];omega
   ·have hlt': ¬(j:Int)<n:=by omega
    have hjN:j=n:=by omega
    subst hjN;have HQ:=G (show fW (xs.take j)=fW xs by rw[HLE.out,bQ]);rw[HQ.out]at hdj⊢;have hbc:=HB.out.cell;have HE1:=G (HX.out.alloc' (.cells #[.slice B nb cb, .slice C nl cl] 78));have HA1:=G (aw wr 78 #[.slice B nb cb, .slice C nl cl]);go_wp2_with (go_at_call 112;refine(oJ P _ _ B C nb nl cb cl bd el HA1.out (HRb.out.keep (.of_ext HE1.out) (fun _ hb _=>hb)) (HRl.out.keep (.of_ext HE1.out) (fun _ hb _=>hb)) (by omega)).mono ?_;rintro e w2 ⟨⟨D,k2,rfl,hRc⟩,hE2⟩;have HE2:=G (HE1.out.trans hE2);have HRc:=G hRc;clear hE2 hRc);generalize hQd:(fun b=>P b\/(wr.alloc (.cells #[.slice B nb cb, .slice C nl cl] 78)).heap.size<=b)=Q at*;have hN:(bd++el).length=nb+nl:=by have:=HLB.out;have:=HLL.out;simp;omega
    obtain⟨N,hNN⟩: ∃N,nb+nl=N:=⟨_,rfl⟩
    rw[hNN]at HRc hN⊢;have hdN:=kn bd el;clear hbc
    go_loopw [3,27] (fun vd vi wr'=> ∃(i:Nat),vi= .int .i64 (i:Int)/\i<=N/\vd= .int .i64 ((max (fW xs) (gg ((bd++el).take i)):Nat):Int)/\Hid (au w wr')/\Hid (au w2 wr')) (fun _ vi _=>N-(intOf vi).toNat)
    case atStart=>exact⟨0,rfl,aC _,by simp[gg],HE2,G (aG _)⟩
    case round=>
     obtain⟨i,rfl,hi,rfl,HX2,HZ2⟩:=hrel;have hdi:=wQ (bd++el) i;by_cases hlt2:i<N
     ·have hlt3:(i:Int)<N:=by omega
      have hil:i<(bd++el).length:=by omega
      obtain⟨b,o,u,v,z,rfl,hb,hP,h0,h1,h2,h3,h4,hRe,hRs,hRt⟩:=HRc.out.at_ i hil;have HS:=G (wR hil);have hym:=hmem _ (ap hil);generalize (bd++el)[i]=y at*;have e0:=(HZ2.out.cell b _ hb).trans h0;have e1:=(HZ2.out.cell b _ hb).trans h1;have e2:=(HZ2.out.cell b _ hb).trans h2;have e3:=(HZ2.out.cell b _ hb).trans h3;have e4:=(HZ2.out.cell b _ hb).trans h4;obtain⟨D1,d1,rfl,_⟩:=hRe.form;obtain⟨D2,d2,rfl,_⟩:=hRs.form;obtain⟨D3,d3,rfl,_⟩:=hRt.form;have HRe:=G (hRe.keep (.of_ext HZ2.out) (Q:=Q) (fun b hb _=>hb));have HRs:=G (hRs.keep (.of_ext HZ2.out) (Q:=Q) (fun b hb _=>hb));have HRt:=G (hRt.keep (.of_ext HZ2.out) (Q:=Q) (fun b hb _=>hb));have hdy:=y.dep_le;have hdy2:=hym.2;clear h0 h1 h2 h3 h4 hRe hRs hRt;go_wp2_with (go_at_call 60;refine(HIH.out y hym.1 hym.2 Q _ D1 D2 D3 _ d1 _ d2 _ d3 (HRe.out.keep (.of_ext (aa _ _)) (fun b hb _=>hb)) (HRs.out.keep (.of_ext (aa _ _)) (fun b hb _=>hb)) (HRt.out.keep (.of_ext (aa _ _)) (fun b hb _=>hb))).mono ?_;rintro e w3 ⟨rfl,hE⟩;have HY:=G ((HX2.out.alloc' _).trans hE);have HZ:=G ((HZ2.out.alloc' _).trans hE);clear hE);go_roundw
      case rel=>exact⟨i+1,by go_num,by omega,by rw[HS.out];congr 1;omega,HY,HZ⟩
      case measure=>simp[intOf];omega
     ·have hlt3: ¬(i:Int)<N:=by omega
      have hiN:i=N:=by omega
      subst hiN;have HQ2:=G (show gg ((bd++el).take i)=max (gg bd) (gg el) by rw[<-hN,bQ,kn]);rw[HQ2.out]at hdi⊢;obtain⟨dd,hdd⟩: ∃dd,max (fW xs) (max (gg bd) (gg el))=dd:=⟨_,rfl⟩
      rw[hdd]at HD⊢;have hwr:IntKind.i64.wrap ((dd:Int)+1)=dd+1:=by simp[IntKind.wrap,IntKind.signed,IntKind.bits];omega
      clear hN;go_wp2_with fail;go_ret;exact⟨by rw[HD.out];rfl,HX2.out⟩
end
end Go.Proofs.YtoedmpgicdekmaaGreatDoor
