/- Parts of the proof. -/
import Derived.Test.YtoedmpgicdekmaaGreatDoorCl00
import Derived.Test.YtoedmpgicdekmaaGreatDoorCl07
import Derived.Test.YtoedmpgicdekmaaGreatDoorCl08
import Derived.Test.YtoedmpgicdekmaaGreatDoorCl01
set_option maxRecDepth 100000
set_option maxHeartbeats 8000000
set_option linter.unusedVariables false
set_option linter.unusedSimpArgs false
set_option linter.unusedSectionVars false
namespace Go.Proofs.YtoedmpgicdekmaaGreatDoor
open Go.Proofs.Tryz
section
open Go.RowKit
mutual
def Ex.wt:Ex->Nat| .mk _ op nm tx _ a=>1+op.length+nm.length+tx.length+gD a
def gD:List Ex->Nat| []=>0|x::r=>x.wt+gD r
end
mutual
def St.wt:St->Nat| .mk _ nm e b l=>1+nm.length+gD e+gd b+gd l
def gd:List St->Nat| []=>0|x::r=>x.wt+gd r
end
theorem Ex.wt_eq (x:Ex):x.wt=1+x.op.length+x.nm.length+x.tx.length+gD x.args:=by cases x;rfl
theorem St.wt_eq (x:St):x.wt=1+x.nm.length+gD x.ex+gd x.body+gd x.els:=by cases x;rfl
theorem r8: ∀a b,gD (a++b)=gD a+gD b
 | [],b=>by simp[gD]
 |x::r,b=>by simp[gD,r8 r b];omega
theorem xe: ∀a b,gd (a++b)=gd a+gd b
 | [],b=>by simp[gd]
 |x::r,b=>by simp[gd,xe r b];omega
theorem em {x:Ex}: ∀{l:List Ex},x∈l->x.wt<=gD l
 |y::r,h=>by
  rcases List.mem_cons.1 h with rfl|h
  ·simp[gD]
  ·have:=em h;simp[gD];omega
theorem cI {x:St}: ∀{l:List St},x∈l->x.wt<=gd l
 |y::r,h=>by
  rcases List.mem_cons.1 h with rfl|h
  ·simp[gd]
  ·have:=cI h;simp[gd];omega
theorem eg: ∀l,l.length<=gD l
 | []=>ah _
 |x::r=>by have:=eg r;have:=x.wt_eq;simp[gD];omega
theorem fd: ∀l,l.length<=gd l
 | []=>ah _
 |x::r=>by have:=fd r;have:=x.wt_eq;simp[gd];omega
mutual
def Ex.dep:Ex->Nat| .mk _ _ _ _ _ a=>gN a+1
def gN:List Ex->Nat| []=>0|x::r=>max x.dep (gN r)
end
mutual
def St.dep:St->Nat| .mk _ _ e b l=>max (gN e) (max (ig b) (ig l))+1
def ig:List St->Nat| []=>0|x::r=>max x.dep (ig r)
end
theorem Ex.dep_eq (x:Ex):x.dep=gN x.args+1:=by cases x;rfl
theorem St.dep_eq (x:St):x.dep=max (gN x.ex) (max (ig x.body) (ig x.els))+1:=by cases x;rfl
theorem nN: ∀a b,gN (a++b)=max (gN a) (gN b)
 | [],b=>by simp[gN]
 |x::r,b=>by simp[gN,nN r b,Nat.max_assoc]
theorem lQ: ∀a b,ig (a++b)=max (ig a) (ig b)
 | [],b=>by simp[ig]
 |x::r,b=>by simp[ig,lQ r b,Nat.max_assoc]
mutual
theorem Ex.dep_le: ∀x:Ex,x.dep<=x.wt
 | .mk _ _ _ _ _ a=>by have:=nM a;simp only[Ex.dep,Ex.wt];omega
theorem nM: ∀l:List Ex,gN l<=gD l
 | []=>ah _
 |x::r=>by have:=x.dep_le;have:=nM r;simp only[gN,gD];omega
end
mutual
theorem St.dep_le: ∀x:St,x.dep<=x.wt
 | .mk _ _ e b l=>by have:=nM e;have:=nL b;have:=nL l;simp only[St.dep,St.wt];omega
theorem nL: ∀l:List St,ig l<=gd l
 | []=>ah _
 |x::r=>by have:=x.dep_le;have:=nL r;simp only[ig,gd];omega
end
def sK (l:List UInt8):Bool:=l.all CA&&decide (l.length<=128)
mutual
def Ex.ok:Ex->Bool
 | .mk k op nm tx v a=>
  (if k=1 then(decide (0<=v)&&decide (v<=2147483647))&&(op==[]&&nm==[]&&tx==[])&&a.length==0
  else if k=2 then sK tx&&(op==[]&&nm==[]&&v==0)&&a.length==0
  else if k=3 then eB nm&&(op==[]&&tx==[]&&v==0)&&a.length==0
  else if k=4 then eB nm&&(op==[]&&tx==[]&&v==0)&&a.length==1
  else if k=5 then(eB nm&&decide (a.length<=4))&&(op==[]&&tx==[]&&v==0)
  else if k=6 then(op==[45]||op==[33])&&(nm==[]&&tx==[]&&v==0)&&a.length==1
  else if k=7 then decide (0<my op)&&(nm==[]&&tx==[]&&v==0)&&a.length==2
  else false)&&zD a
def zD:List Ex->Bool| []=>true|x::r=>x.ok&&zD r
end
theorem sN: ∀l,zD l=l.all Ex.ok
 | []=>rfl
 |x::r=>by simp[zD,sN r]
mutual
def St.ok:St->Bool
 | .mk k nm e b l=>
  (if k=1 then eB nm&&decide (e.length<=1)&&b.length==0&&l.length==0
  else if k=2 then eB nm&&e.length==1&&b.length==0&&l.length==0
  else if k=3 then eB nm&&e.length==2&&b.length==0&&l.length==0
  else if k=4 then nm==[]&&e.length==1
  else if k=5 then nm==[]&&e.length==1&&l.length==0
  else if k=6 then nm==[]&&decide (e.length<=1)&&b.length==0&&l.length==0
  else if k=7 then nm==[]&&e.length==1&&(e.head?.map Ex.k==some 5)&&b.length==0&&l.length==0
  else false)&&zD e&&(rD b&&rD l)
def rD:List St->Bool| []=>true|x::r=>x.ok&&rD r
end
theorem kH: ∀l,rD l=l.all St.ok
 | []=>rfl
 |x::r=>by simp[rD,kH r]
end
section
open Go.RowKit
theorem rQ {l:List Ex} {j:Nat} (a:j<l.length):gN (l.take (j+1))=max (gN (l.take j)) l[j].dep:=by
 rw[aT a,nN];simp[gN]
theorem xG: ∀(m:Nat) (x:Ex),x.wt<=m->x.wt<=1073741824-> ∀(P:Nat->Prop) (u:World) (z:Option Addr) (n c:Nat),dL u P (.slice z n c) x.args->
  Calls prog 111 #[.agg #[.int .i64 x.k, .string (ak x.op), .string (ak x.nm), .string (ak x.tx), .int .i64 x.v, .slice z n c]] u λe w'=>e= .returned (.int .i64 (x.dep:Int))/\au u w'
 |0,x,hm,_,_,_,_,_,_,_=>absurd hm (by have:=x.wt_eq;omega)
 |m+1,x,hm,hx,P,u,z,n,c,hR=>by
  have ax:=G (x.dep_eq);have aE:=x.wt_eq;have ah: ∀o,o∈x.args->o.wt<=m:=λo ac=>by have:=em ac;omega
  have aI:=nM x.args;have aF:=eg x.args;have av:=G (xG m);obtain⟨k,op,nm,tx,v,xs⟩:=x;simp only[Ex.k,Ex.op,Ex.nm,Ex.tx,Ex.v,Ex.args]at*;obtain⟨aQ,c',ag,al⟩:=hR.form;injection ag with af ae ad;subst af ae ad;have X:=G hR;obtain⟨N,y⟩: ∃N,xs.length=N:=⟨_,rfl⟩
  rw[y]at X;have aw:=G (aa u (.cells #[.int .i64 k, .string (ak op), .string (ak nm), .string (ak tx), .int .i64 v, .slice z N c] 206));clear hR al;rw[y];go_enter func111,ntmps111;go_wp2_with fail
  go_loopw [3,9] (λZ A wr=> ∃(j:Nat),A= .int .i64 (j:Int)/\j<=N/\Z= .int .i64 (gN (xs.take j):Int)/\Hid (au u wr)) (λ_ A _=>N-(intOf A).toNat)
  case atStart=>exact⟨0,rfl,aD _,by simp[gN],aw⟩
  case round=>
   obtain⟨j,rfl,aG,rfl,d⟩:=hrel;have am:gN (xs.take j)<=1073741824:=by
    have:=nN (xs.take j) (xs.drop j);rw[db]at this;omega
   by_cases hlt:j<N
   ·have ai:(j:Int)<N:=Qa
    have w:j<xs.length:=Qa
    obtain⟨b,aA,aP,rfl,a,aJ,V,R,M,K,J,I,F⟩:=X.out.at_ j w;have ap:=G (rQ w);have aB:=em (ay w);have ab:=ah _ (ay w);generalize xs[j]=o at*;have e0:=(d.out.cell b _ a).trans V;have aO:=(d.out.cell b _ a).trans R;have aN:=(d.out.cell b _ a).trans M;have aM:=(d.out.cell b _ a).trans K;have aL:=(d.out.cell b _ a).trans J;have aK:=(d.out.cell b _ a).trans I;obtain⟨B,an,rfl,_⟩:=F.form;have aq:=G (F.keep (.of_ext d.out) (Q:=P) (λb a _=>a));have aH:=o.dep_le;clear V R M K J I F;go_wp2_with (go_at_call 111;refine(av.out o ab Qa P _ B _ an (aq.out.keep (.of_ext (aa _ _)) (λb a _=>a))).mono ?_;rintro e az ⟨rfl,H⟩;have ao:=G ((d.out.alloc' _).trans H);clear H);go_roundw
    case rel=>exact⟨j+1,by go_num,by omega,by rw[ap.out];congr 1;omega,ao⟩
    case measure=>simp[intOf];omega
   ·have ai: ¬(j:Int)<N:=Qa
    have aj:j=N:=Qa
    subst aj;have ar:=G (show gN (xs.take j)=gN xs by rw[<-y,bY]);rw[ar.out]at am⊢;have aC:IntKind.i64.wrap ((gN xs:Int)+1)=gN xs+1:=Qc
    clear y;go_wp2_with fail;go_ret;exact⟨by rw[ax.out];rfl,d.out⟩
theorem iz {a:Type} (p:a->Bool) {l:List a} {j:Nat} (d:j<l.length):(l.take (j+1)).any p=((l.take j).any p||p l[j]):=by
 rw[aT d,List.any_append,iu,List.any_nil,mu]
theorem nW {a:Type} (p:a->Bool) {l:List a} {j:Nat} (h:j<l.length) (d:p l[j]=true):l.any p=true:=by
 rw[List.any_eq_true];exact⟨l[j],ay h,d⟩
theorem qR.len {a:World} {P:Nat->Prop} {o:Option Addr} {n c:Nat} {ls:List (List UInt8)} (h:qR a P (.slice o n c) ls):n=ls.length:=by
 obtain⟨z,c',d,_⟩:=h;injection d with y w u
theorem dL.len {a:World} {P:Nat->Prop} {o:Option Addr} {n c:Nat} {ls:List Ex} (h:dL a P (.slice o n c) ls):n=ls.length:=by
 obtain⟨z,c',d,_⟩:=h.form;injection d with y w u
theorem ed.len {a:World} {P:Nat->Prop} {o:Option Addr} {n c:Nat} {ls:List St} (h:ed a P (.slice o n c) ls):n=ls.length:=by
 obtain⟨z,c',d,_⟩:=h.form;injection d with y w u
theorem FM {h:World} {P:Nat->Prop} {u:Option Addr} {n c:Nat} {ls:List (List UInt8)} (a:qR h P (.slice u n c) ls) (i:Nat) (o:i<ls.length):
  ∃b d,u=some ⟨b,d,none⟩/\b<h.heap.size/\h.cell? ⟨b,d+i,none⟩=some (.string (ak ls[i])):=by
 obtain⟨H,c',w,a⟩:=a;injection w with A G F;rcases a with a|a
 ·subst a;simp at o
 ·obtain⟨_,_,b,d,ha,_,z,y⟩:=a;exact⟨b,d,by rw[A];exact ha,z,y i o⟩
theorem Bt (p:Ex->Bool) (xs:List (Ex)) (P:Nat->Prop) (u:World) (ae:Option Addr) (n c:Nat) (J:dL u P (.slice ae n c) xs) (ax:xs.length<=1073741824)
  (R: ∀a,a∈xs-> ∀(w':World) (B:Option Addr) (A:Nat),dL w' P (.slice B a.args.length A) a.args->Calls prog 168 #[.agg #[.int .i64 a.k, .string (ak a.op), .string (ak a.nm), .string (ak a.tx), .int .i64 a.v, .slice B a.args.length A]] w' λe ag=>e= .returned (.bool (p a))/\au w' ag):
  Calls prog 165 #[.slice ae n c, .func (Fn.func 168) #[] #[]] u λe w'=>(∃r:Int,e= .returned (.int .i64 r)/\decide (0<=r)=xs.any p)/\au u w':=by
 have ah:=J.len;obtain⟨N,al⟩: ∃N,xs.length=N:=⟨_,rfl⟩
 obtain rfl:n=N:=Qa
 have ap:=G J;have ar:=G R;have av:=G (aG u);clear J R ah;go_enter func165,ntmps165;go_wp2_with fail
 go_loopw [8] (λH wr=> ∃(j:Nat),H= .int .i64 (j:Int)/\j<=n/\Hid ((xs.take j).any p=false)/\Hid (au u wr)) (λH _=>n-(intOf H).toNat)
 case atStart=>exact⟨0,rfl,aD _,G Qe,av⟩
 case round=>
  obtain⟨j,rfl,az,ad,d⟩:=hrel;by_cases hlt:j<n
  ·have ai:(j:Int)<n:=Qa
   have z:j<xs.length:=Qa
   obtain⟨b,aw,aI,rfl,o,aA,ac,ab,aa,Z,X,V,I⟩:=ap.out.at_ j z;have an:=G (iz p z);have aq:=G (λam=>nW p z am);have M:=ar.out _ (ay z);generalize xs[j]=a at*;have e0:=(d.out.cell b _ o).trans ac;have aH:=(d.out.cell b _ o).trans ab;have aF:=(d.out.cell b _ o).trans aa;have aE:=(d.out.cell b _ o).trans Z;have aC:=(d.out.cell b _ o).trans X;have aB:=(d.out.cell b _ o).trans V;obtain⟨B,A,rfl,_⟩:=I.form;have ao:=G (I.keep (.of_ext d.out) (Q:=P) (λb o _=>o));clear I;have F:=G (M wr B A ao.out);clear ac ab aa Z X V;clear M
   cases hp:p a with
   |true=>
    rw[hp]at F;have y:=G (aq.out hp);clear hp;go_wp2_with (refine F.out.mono ?_;rintro e af ⟨rfl,w⟩;have K:=G (d.out.trans w);clear w);go_ret;exact⟨⟨j,rfl,by rw[y.out];simp⟩,K.out⟩
   |false=>
    rw[hp]at F;have y:=G (show(xs.take (j+1)).any p=false by rw[an.out,ad.out,hp];rfl);clear hp;go_wp2_with (refine F.out.mono ?_;rintro e af ⟨rfl,w⟩;have K:=G (d.out.trans w);clear w);go_roundw
    case rel=>exact⟨j+1,by go_num,by omega,y,K⟩
    case measure=>simp[intOf];omega
  ·have ai: ¬(j:Int)<n:=Qa
   have aj:j=n:=Qa
   subst aj;have y:=G (show xs.any p=false by have:=ad.out;rwa [<-al,bY]at this);go_wp2_with fail;go_ret;exact⟨⟨-1,rfl,by rw[y.out];rfl⟩,d.out⟩
theorem BW (p:Ex->Bool) (xs:List (Ex)) (P:Nat->Prop) (d:World) (o:Option Addr) (n c:Nat) (y:dL d P (.slice o n c) xs) (H:xs.length<=1073741824)
  (w: ∀a,a∈xs-> ∀(w':World) (B:Option Addr) (A:Nat),dL w' P (.slice B a.args.length A) a.args->Calls prog 168 #[.agg #[.int .i64 a.k, .string (ak a.op), .string (ak a.nm), .string (ak a.tx), .int .i64 a.v, .slice B a.args.length A]] w' λe F=>e= .returned (.bool (p a))/\au w' F):
  Calls prog 113 #[.slice o n c, .func (Fn.func 168) #[] #[]] d λe w'=>e= .returned (.bool (xs.any p))/\au d w':=by
 have K:=G (Bt p xs P d o n c y H w);clear y w;go_enter func113,ntmps113;go_wp2_with (refine K.out.mono ?_;rintro e M ⟨⟨r,rfl,u⟩,z⟩;have J:=G u;have I:=G z;clear z u);go_ret;exact⟨by rw[<-J.out];rfl,I.out⟩
theorem yS (p:Ex->Bool) (xs:List (Ex)) (P:Nat->Prop) (u:World) (ae:Option Addr) (n c:Nat) (J:dL u P (.slice ae n c) xs) (ax:xs.length<=1073741824)
  (R: ∀a,a∈xs-> ∀(w':World) (B:Option Addr) (A:Nat),dL w' P (.slice B a.args.length A) a.args->Calls prog 114 #[.agg #[.int .i64 a.k, .string (ak a.op), .string (ak a.nm), .string (ak a.tx), .int .i64 a.v, .slice B a.args.length A]] w' λe ag=>e= .returned (.bool (p a))/\au w' ag):
  Calls prog 165 #[.slice ae n c, .func (Fn.func 114) #[] #[]] u λe w'=>(∃r:Int,e= .returned (.int .i64 r)/\decide (0<=r)=xs.any p)/\au u w':=by
 have ah:=J.len;obtain⟨N,al⟩: ∃N,xs.length=N:=⟨_,rfl⟩
 obtain rfl:n=N:=Qa
 have ap:=G J;have ar:=G R;have av:=G (aG u);clear J R ah;go_enter func165,ntmps165;go_wp2_with fail
 go_loopw [8] (λH wr=> ∃(j:Nat),H= .int .i64 (j:Int)/\j<=n/\Hid ((xs.take j).any p=false)/\Hid (au u wr)) (λH _=>n-(intOf H).toNat)
 case atStart=>exact⟨0,rfl,aD _,G Qe,av⟩
 case round=>
  obtain⟨j,rfl,az,ad,d⟩:=hrel;by_cases hlt:j<n
  ·have ai:(j:Int)<n:=Qa
   have z:j<xs.length:=Qa
   obtain⟨b,aw,aI,rfl,o,aA,ac,ab,aa,Z,X,V,I⟩:=ap.out.at_ j z;have an:=G (iz p z);have aq:=G (λam=>nW p z am);have M:=ar.out _ (ay z);generalize xs[j]=a at*;have e0:=(d.out.cell b _ o).trans ac;have aH:=(d.out.cell b _ o).trans ab;have aF:=(d.out.cell b _ o).trans aa;have aE:=(d.out.cell b _ o).trans Z;have aC:=(d.out.cell b _ o).trans X;have aB:=(d.out.cell b _ o).trans V;obtain⟨B,A,rfl,_⟩:=I.form;have ao:=G (I.keep (.of_ext d.out) (Q:=P) (λb o _=>o));clear I;have F:=G (M wr B A ao.out);clear ac ab aa Z X V;clear M
   cases hp:p a with
   |true=>
    rw[hp]at F;have y:=G (aq.out hp);clear hp;go_wp2_with (refine F.out.mono ?_;rintro e af ⟨rfl,w⟩;have K:=G (d.out.trans w);clear w);go_ret;exact⟨⟨j,rfl,by rw[y.out];simp⟩,K.out⟩
   |false=>
    rw[hp]at F;have y:=G (show(xs.take (j+1)).any p=false by rw[an.out,ad.out,hp];rfl);clear hp;go_wp2_with (refine F.out.mono ?_;rintro e af ⟨rfl,w⟩;have K:=G (d.out.trans w);clear w);go_roundw
    case rel=>exact⟨j+1,by go_num,by omega,y,K⟩
    case measure=>simp[intOf];omega
  ·have ai: ¬(j:Int)<n:=Qa
   have aj:j=n:=Qa
   subst aj;have y:=G (show xs.any p=false by have:=ad.out;rwa [<-al,bY]at this);go_wp2_with fail;go_ret;exact⟨⟨-1,rfl,by rw[y.out];rfl⟩,d.out⟩
theorem zg (p:Ex->Bool) (xs:List (Ex)) (P:Nat->Prop) (d:World) (o:Option Addr) (n c:Nat) (y:dL d P (.slice o n c) xs) (H:xs.length<=1073741824)
  (w: ∀a,a∈xs-> ∀(w':World) (B:Option Addr) (A:Nat),dL w' P (.slice B a.args.length A) a.args->Calls prog 114 #[.agg #[.int .i64 a.k, .string (ak a.op), .string (ak a.nm), .string (ak a.tx), .int .i64 a.v, .slice B a.args.length A]] w' λe F=>e= .returned (.bool (p a))/\au w' F):
  Calls prog 113 #[.slice o n c, .func (Fn.func 114) #[] #[]] d λe w'=>e= .returned (.bool (xs.any p))/\au d w':=by
 have K:=G (yS p xs P d o n c y H w);clear y w;go_enter func113,ntmps113;go_wp2_with (refine K.out.mono ?_;rintro e M ⟨⟨r,rfl,u⟩,z⟩;have J:=G u;have I:=G z;clear z u);go_ret;exact⟨by rw[<-J.out];rfl,I.out⟩
theorem Br (p:St->Bool) (xs:List (St)) (P:Nat->Prop) (u:World) (aj:Option Addr) (n c:Nat) (Z:ed u P (.slice aj n c) xs) (aH:xs.length<=1073741824)
  (ac: ∀a,a∈xs-> ∀(w':World) (B K J:Option Addr) (H F A:Nat),(dL w' P (.slice B a.ex.length H) a.ex/\ed w' P (.slice K a.body.length F) a.body/\ed w' P (.slice J a.els.length A) a.els)->Calls prog 117 #[.agg #[.int .i64 a.k, .string (ak a.nm), .slice B a.ex.length H, .slice K a.body.length F, .slice J a.els.length A]] w' λe am=>e= .returned (.bool (p a))/\au w' am):
  Calls prog 169 #[.slice aj n c, .func (Fn.func 117) #[] #[]] u λe w'=>(∃r:Int,e= .returned (.int .i64 r)/\decide (0<=r)=xs.any p)/\au u w':=by
 have an:=Z.len;obtain⟨N,aq⟩: ∃N,xs.length=N:=⟨_,rfl⟩
 obtain rfl:n=N:=Qa
 have ax:=G Z;have aA:=G ac;have aB:=G (aG u);clear Z ac an;go_enter func169,ntmps169;go_wp2_with fail
 go_loopw [8] (λM wr=> ∃(j:Nat),M= .int .i64 (j:Int)/\j<=n/\Hid ((xs.take j).any p=false)/\Hid (au u wr)) (λM _=>n-(intOf M).toNat)
 case atStart=>exact⟨0,rfl,aD _,G Qe,aB⟩
 case round=>
  obtain⟨j,rfl,aI,ai,o⟩:=hrel;by_cases hlt:j<n
  ·have ao:(j:Int)<n:=Qa
   have z:j<xs.length:=Qa
   obtain⟨b,aF,aE,v,aC,rfl,d,aJ,ah,ag,af,ae,ad,X,V,R⟩:=ax.out.at_ j z;have av:=G (iz p z);have az:=G (λar=>nW p z ar);have ab:=aA.out _ (ay z);generalize xs[j]=a at*;have e0:=(o.out.cell b _ d).trans ah;have aN:=(o.out.cell b _ d).trans ag;have aM:=(o.out.cell b _ d).trans af;have aL:=(o.out.cell b _ d).trans ae;have aK:=(o.out.cell b _ d).trans ad;obtain⟨B,H,rfl,_⟩:=X.form;obtain⟨K,F,rfl,_⟩:=V.form;obtain⟨J,A,rfl,_⟩:=R.form;have aw:=G (show dL wr P _ _/\ed wr P _ _/\ed wr P _ _ from⟨X.keep (.of_ext o.out) (λb d _=>d),V.keep (.of_ext o.out) (λb d _=>d),R.keep (.of_ext o.out) (λb d _=>d)⟩);clear X V R;have I:=G (ab wr B K J H F A aw.out);clear ah ag af ae ad;clear ab
   cases hp:p a with
   |true=>
    rw[hp]at I;have y:=G (az.out hp);clear hp;go_wp2_with (refine I.out.mono ?_;rintro e al ⟨rfl,w⟩;have aa:=G (o.out.trans w);clear w);go_ret;exact⟨⟨j,rfl,by rw[y.out];simp⟩,aa.out⟩
   |false=>
    rw[hp]at I;have y:=G (show(xs.take (j+1)).any p=false by rw[av.out,ai.out,hp];rfl);clear hp;go_wp2_with (refine I.out.mono ?_;rintro e al ⟨rfl,w⟩;have aa:=G (o.out.trans w);clear w);go_roundw
    case rel=>exact⟨j+1,by go_num,by omega,y,aa⟩
    case measure=>simp[intOf];omega
  ·have ao: ¬(j:Int)<n:=Qa
   have ap:j=n:=Qa
   subst ap;have y:=G (show xs.any p=false by have:=ai.out;rwa [<-aq,bY]at this);go_wp2_with fail;go_ret;exact⟨⟨-1,rfl,by rw[y.out];rfl⟩,o.out⟩
theorem BU (p:St->Bool) (xs:List (St)) (P:Nat->Prop) (d:World) (o:Option Addr) (n c:Nat) (y:ed d P (.slice o n c) xs) (M:xs.length<=1073741824)
  (w: ∀a,a∈xs-> ∀(w':World) (B J I:Option Addr) (H F A:Nat),(dL w' P (.slice B a.ex.length H) a.ex/\ed w' P (.slice J a.body.length F) a.body/\ed w' P (.slice I a.els.length A) a.els)->Calls prog 117 #[.agg #[.int .i64 a.k, .string (ak a.nm), .slice B a.ex.length H, .slice J a.body.length F, .slice I a.els.length A]] w' λe K=>e= .returned (.bool (p a))/\au w' K):
  Calls prog 116 #[.slice o n c, .func (Fn.func 117) #[] #[]] d λe w'=>e= .returned (.bool (xs.any p))/\au d w':=by
 have X:=G (Br p xs P d o n c y M w);clear y w;go_enter func116,ntmps116;go_wp2_with (refine X.out.mono ?_;rintro e Z ⟨⟨r,rfl,u⟩,z⟩;have V:=G u;have R:=G z;clear z u);go_ret;exact⟨by rw[<-V.out];rfl,R.out⟩
theorem Bs (p:List UInt8->Bool) (xs:List (List UInt8)) (P:Nat->Prop) (d:World) (R:Option Addr) (n c:Nat) (F:qR d P (.slice R n c) xs) (am:xs.length<=1073741824)
  (J: ∀a,a∈xs-> ∀(w':World),True->Calls prog 59 #[.string (ak a)] w' λe X=>e= .returned (.bool (p a))/\au w' X):
  Calls prog 110 #[.slice R n c, .func (Fn.func 59) #[] #[]] d λe w'=>(∃r:Int,e= .returned (.int .i64 r)/\decide (0<=r)=xs.any p)/\au d w':=by
 have Z:=F.len;obtain⟨N,ad⟩: ∃N,xs.length=N:=⟨_,rfl⟩
 obtain rfl:n=N:=Qa
 have ag:=G F;have ai:=G J;have aj:=G (aG d);clear F J Z;go_enter func110,ntmps110;go_wp2_with fail
 go_loopw [8] (λA wr=> ∃(j:Nat),A= .int .i64 (j:Int)/\j<=n/\Hid ((xs.take j).any p=false)/\Hid (au d wr)) (λA _=>n-(intOf A).toNat)
 case atStart=>exact⟨0,rfl,aD _,G Qe,aj⟩
 case round=>
  obtain⟨j,rfl,an,M,z⟩:=hrel;by_cases hlt:j<n
  ·have aa:(j:Int)<n:=Qa
   have w:j<xs.length:=Qa
   obtain⟨b,al,rfl,ac,K⟩:=FM ag.out j w;have af:=G (iz p w);have ah:=G (λae=>nW p w ae);have I:=ai.out _ (ay w);generalize xs[j]=a at*;have e0:=(z.out.cell b _ ac).trans K
   skip
   have y:=G (I wr  trivial);clear K;clear I
   cases hp:p a with
   |true=>
    rw[hp]at y;have u:=G (ah.out hp);clear hp;go_wp2_with (refine y.out.mono ?_;rintro e V ⟨rfl,o⟩;have H:=G (z.out.trans o);clear o);go_ret;exact⟨⟨j,rfl,by rw[u.out];simp⟩,H.out⟩
   |false=>
    rw[hp]at y;have u:=G (show(xs.take (j+1)).any p=false by rw[af.out,M.out,hp];rfl);clear hp;go_wp2_with (refine y.out.mono ?_;rintro e V ⟨rfl,o⟩;have H:=G (z.out.trans o);clear o);go_roundw
    case rel=>exact⟨j+1,by go_num,by omega,u,H⟩
    case measure=>simp[intOf];omega
  ·have aa: ¬(j:Int)<n:=Qa
   have ab:j=n:=Qa
   subst ab;have u:=G (show xs.any p=false by have:=M.out;rwa [<-ad,bY]at this);go_wp2_with fail;go_ret;exact⟨⟨-1,rfl,by rw[u.out];rfl⟩,z.out⟩
theorem BV (p:List UInt8->Bool) (xs:List (List UInt8)) (P:Nat->Prop) (a:World) (o:Option Addr) (n c:Nat) (y:qR a P (.slice o n c) xs) (F:xs.length<=1073741824)
  (w: ∀d,d∈xs-> ∀(w':World),True->Calls prog 59 #[.string (ak d)] w' λe A=>e= .returned (.bool (p d))/\au w' A):
  Calls prog 58 #[.slice o n c, .func (Fn.func 59) #[] #[]] a λe w'=>e= .returned (.bool (xs.any p))/\au a w':=by
 have J:=G (Bs p xs P a o n c y F w);clear y w;go_enter func58,ntmps58;go_wp2_with (refine J.out.mono ?_;rintro e K ⟨⟨r,rfl,u⟩,z⟩;have I:=G u;have H:=G z;clear z u);go_ret;exact⟨by rw[<-I.out];rfl,H.out⟩
theorem Dw (c:UInt8):CA c=(decide (32<=(c.toNat:Int))&&decide ((c.toNat:Int)<=126)||(c.toNat:Int)==10||(c.toNat:Int)==9||(c.toNat:Int)==0):=by
 have d:=ep c 10 Qa;have a:=ep c 9 Qa;have h:=ep c 0 Qa;have u:(((10:Nat):Int))=10:=rfl;have o:(((9:Nat):Int))=9:=rfl;have e0:(((0:Nat):Int))=0:=rfl;rw[u]at d;rw[o]at a;rw[e0]at h;rw[d,a,h];unfold CA
 congr 3
 rw[iV];simp only[decide_eq_true_eq,an];omega
theorem Ds {l:List UInt8} {j:Nat} (d:j<l.length) (a:CA l[j]=false):sK l=false:=by
 unfold sK;rw[xR CA d a];rfl
theorem yB (l:List UInt8) (ah:l.length<=1073741824) (w:World):Calls prog 166 #[.string (ak l)] w λe w'=>e= .returned (.bool (sK l))/\au w w':=by
 have af:(ak l).size=l.length:=a7 l;have ad:=G (aG w);go_enter func166,ntmps166;go_wp2_with fail
 go_loopw [7] (λz wr=> ∃j:Nat,z= .int .i64 (j:Int)/\j<=l.length/\Hid ((l.take j).all CA=true)/\Hid (au w wr)) (λz _=>l.length-(intOf z).toNat)
 case atStart=>exact⟨0,rfl,aD _,G Qe,ad⟩
 case round=>
  obtain⟨j,rfl,ai,y,o⟩:=hrel;by_cases hlt:j<l.length
  ·have K:j<(ak l).size:=by rw[a7];exact hlt
   have aj:=nc l j K;have J:(j:Int)<l.length:=Qa
   have H:=G (mD CA hlt);have ae:=G (λF=>Ds hlt F);generalize l[j]'hlt=c at*;have a:=G (Dw c);have al:(c.toNat:Int)<256:=by have:=c.toNat_lt;omega
   have d:=G (fun(F:CA c=true)=>show(l.take (j+1)).all CA=true by rw[H.out,y.out,F];rfl);clear H y;by_cases h32:32<=(c.toNat:Int)/\(c.toNat:Int)<=126
   ·obtain⟨ab,aa⟩:=h32;have u:=G (d.out (by rw[a.out,decide_eq_true ab,decide_eq_true aa];rfl));clear d a;go_wp2_with fail;go_roundw
    case rel=>exact⟨j+1,by go_num,by omega,u,o⟩
    case measure=>simp[intOf];omega
   ·cases h10:((c.toNat:Int)==10)with
    |true=>
     have u:=G (d.out (by rw[a.out,h10];simp));have X:((c.toNat:Int) !=10)=false:=by rw[bne,h10];rfl
     have A:(c.toNat:Int)<32:=by rw[beq_iff_eq]at h10;omega
     clear d a h32;go_wp2_with fail;go_roundw
     case rel=>exact⟨j+1,by go_num,by omega,u,o⟩
     case measure=>simp[intOf];omega
    |false=>
     have X:((c.toNat:Int) !=10)=true:=by rw[bne,h10];rfl
     cases h9:((c.toNat:Int)==9)with
     |true=>
      have u:=G (d.out (by rw[a.out,h9];simp));have R:((c.toNat:Int) !=9)=false:=by rw[bne,h9];rfl
      have A:(c.toNat:Int)<32:=by rw[beq_iff_eq]at h9;omega
      clear d a h32;go_wp2_with fail;go_roundw
      case rel=>exact⟨j+1,by go_num,by omega,u,o⟩
      case measure=>simp[intOf];omega
     |false=>
      have R:((c.toNat:Int) !=9)=true:=by rw[bne,h9];rfl
      cases h0:((c.toNat:Int)==0)with
      |true=>
       have u:=G (d.out (by rw[a.out,h0];simp));have Z:((c.toNat:Int) !=0)=false:=by rw[bne,h0];rfl
       have A:(c.toNat:Int)<32:=by rw[beq_iff_eq]at h0;omega
       clear d a h32;go_wp2_with fail;go_roundw
       case rel=>exact⟨j+1,by go_num,by omega,u,o⟩
       case measure=>simp[intOf];omega
      |false=>
       have Z:((c.toNat:Int) !=0)=true:=by rw[bne,h0];rfl
       have I:=G (ae.out (by rw[a.out,h10,h9,h0,<-Bool.decide_and,decide_eq_false h32];rfl));clear d a;by_cases A:(c.toNat:Int)<32
       ·clear h32;go_wp2_with fail;go_ret;exact⟨by rw[I.out];rfl,o.out⟩
       ·have ag:126<(c.toNat:Int):=Qa
        clear h32;go_wp2_with fail;go_ret;exact⟨by rw[I.out];rfl,o.out⟩
  ·have J: ¬(j:Int)<l.length:=Qa
   have M:j=l.length:=Qa
   subst M;have ac:=G (show l.all CA=true by have:=y.out;rwa [bY]at this);clear y;by_cases h128:l.length<=128
   ·have V:(l.length:Int)<=128:=Qa
    go_wp2_with fail;go_ret;exact⟨by unfold sK;rw[ac.out,decide_eq_true h128];rfl,o.out⟩
   ·have V: ¬(l.length:Int)<=128:=Qa
    go_wp2_with fail;go_ret;exact⟨by unfold sK;rw[decide_eq_false h128,lw];rfl,o.out⟩
def Ex.prec (x:Ex):Int:=if x.k=7 then my x.op else if x.k=6 then 7 else 8
theorem nv (x:Ex) (a:World) (w:Value) (y: ∃u n c,w= .slice u n c):Calls prog 257 #[.agg #[.int .i64 x.k, .string (ak x.op), .string (ak x.nm), .string (ak x.tx), .int .i64 x.v,w]] a λe w'=>e= .returned (.int .i64 x.prec)/\au a w':=by
 obtain⟨u,n,c,rfl⟩:=y;have o:=G (aa a (.cells #[.int .i64 x.k, .string (ak x.op), .string (ak x.nm), .string (ak x.tx), .int .i64 x.v, .slice u n c] 206));have A:=G (λa=>ma x.op a);have d:=G (show x.prec=if x.k=7 then my x.op else if x.k=6 then 7 else 8 from rfl);generalize x.k=k at*;by_cases h7:k=7
 ·subst h7;go_enter func257,ntmps257;go_wp2_with (refine(A.out _).mono ?_;rintro e w' ⟨rfl,rfl⟩);go_ret;exact⟨by rw[d.out];rfl,o.out⟩
 ·by_cases h6:k=6
  ·subst h6;go_enter func257,ntmps257;go_wp2_with fail;go_ret;exact⟨by rw[d.out];rfl,o.out⟩
  ·have F:(k==7)=false:=Qn.2 h7;have H:(k==6)=false:=Qn.2 h6;have z:=G (show x.prec=8 by rw[d.out,if_neg h7,if_neg h6]);clear d;go_enter func257,ntmps257;go_wp2_with fail;go_ret;exact⟨by rw[z.out];rfl,o.out⟩
def tC (w:World) (A:Option Addr) (n c:Nat) (r:Bool):Prop:= ∀w',au w w'->Calls prog 113 #[.slice A n c, .func (Fn.func 168) #[] #[]] w' λe w''=>e= .returned (.bool (!r))/\au w' w''
theorem aM.new2 (a:World) (h:Obj) (t:TypeId) (d:Array Value):aM ((a.alloc h).alloc (.cells d t)) (a.heap.size+1) t d:=by
 have:=aq (a.alloc h) t d;rwa [World.size_alloc]at this
def UW (p:Nat) (t:TypeId) (c0 c1:Array Value) (a b:World):Prop:=a.grownBy b (some p)/\(aM a p t c0->aM b p t c0\/aM b p t c1)/\(aM a p t c1->aM b p t c1)
theorem UW.refl (p:Nat) (t:TypeId) (d c1:Array Value) (a:World):UW p t d c1 a a:=⟨World.grownBy.refl a _, .inl,id⟩
theorem UW.trans (p:Nat) (t:TypeId) (d c1:Array Value) (h b c:World) (a:UW p t d c1 h b) (k:UW p t d c1 b c):UW p t d c1 h c:=⟨am a.1 k.1,λx=>(a.2.1 x).elim k.2.1 (λo=> .inr (k.2.2 o)),λx=>k.2.2 (a.2.2 x)⟩
theorem UW.of_ext {p:Nat} {t:TypeId} {h c1:Array Value} {d b:World} (a:au d b):UW p t h c1 d b:=⟨a.grownBy _,λx=> .inl (x.ext a),λx=>x.ext a⟩
theorem UW.store {p:Nat} {t:TypeId} {a c1:Array Value} {u b:World} (d:UW p t a c1 u b) (o:aM u p t a) (f:Nat) (v w:Value) (G:a.setIfInBounds f v=c1) (F:c1.setIfInBounds f v=c1) (A:a[f]? =some w) (z:c1[f]? =some v):
  (∃y,b.cell? ⟨p,f,none⟩=some y)/\b.frozen? ⟨p,f,none⟩=false/\UW p t a c1 u (b.setCell ⟨p,f,none⟩ v)/\aM (b.setCell ⟨p,f,none⟩ v) p t c1:=by
 have h:aM (b.setCell ⟨p,f,none⟩ v) p t c1:=by
  rcases d.2.1 o with k|k
  ·have:=k.set f v;rwa [G]at this
  ·have:=k.set f v;rwa [F]at this
 refine⟨?_,?_,⟨am d.1 (fu _ _ _ _),λ_=> .inr h,λ_=>h⟩,h⟩
 ·rcases d.2.1 o with k|k
  ·exact⟨w,(k.cell f).trans A⟩
  ·exact⟨v,(k.cell f).trans z⟩
 ·rcases d.2.1 o with k|k<;>exact k.frozen f
def sX (k:Nat):Code->Code
 | .seq (.region i o d) b=>if i=k then .seq (.region i o d) b else sX k b
 | .seq _ b=>sX k b
 |c=>c
theorem jZ (I J:Nat) (k v y w:Int) (op nm tx A F z:List UInt8) (X:Option Addr) (n c:Nat) (b r:Bool) (H W:World) (u:au H W) (V:aM W I 206 #[.int .i64 k, .string (ak op), .string (ak nm), .string (ak tx), .int .i64 v, .slice X n c]) (K:aM W J 206 #[.int .i64 k, .string (ak A), .string (ak F), .string (ak z), .int .i64 y, .slice none 0 0])
  (R:tC H X n c r) (a:Bool) (M:(b&&(op==A&&nm==F&&tx==z&&v==y)&&decide ((n:Int)=w)&&r)=a) (u0 u2 u6 u7 u8 u9 u10 u11 u12 u13 u14 u15 u16 u17 u18 u19 u20 u21 u22 u23 u24 u25 u26 u27 u28 u29 u30 u31 u32 u33 u34 u35 u36 u37 u38 u39 u40 u41 u42 u43 u44 u45 u46 u47 u48 u49 u50 u51 u52 u53 u54 u55 u56 u57 u58 u59 u60 u61 u62 u63 u64 u65 u66 u67 u68 u69 u70 u71 u72 u73 u74 u75 u76 u77 u78 u79 u80 u81 u82 u83 u84 u85 u86 u87 u88 u89 u90 u91 u92 u93 u94 u95 u96 u97 u98 u99 u100 u101 u102 u103 u104 u105 u106 u107 u108 u109 u110 u111 u112 u113 u114 u115 u116 u117 u118 u119 u120 u121 u122 u123 u124 u125 u126 u127 u128 u129 u130:Value):
  Code.wp prog (sX 18 (Tryz.f115.body.getD .skip)) (bodyPost prog Tryz.f115 λe w'=>e= .returned (.bool a)/\au H w') {tmps:= #[u0, .pointer (some ⟨I,0,none⟩),u2, .pointer (some ⟨J,0,none⟩), .bool b, .int .i64 w,u6,u7,u8,u9,u10,u11,u12,u13,u14,u15,u16,u17,u18,u19,u20,u21,u22,u23,u24,u25,u26,u27,u28,u29,u30,u31,u32,u33,u34,u35,u36,u37,u38,u39,u40,u41,u42,u43,u44,u45,u46,u47,u48,u49,u50,u51,u52,u53,u54,u55,u56,u57,u58,u59,u60,u61,u62,u63,u64,u65,u66,u67,u68,u69,u70,u71,u72,u73,u74,u75,u76,u77,u78,u79,u80,u81,u82,u83,u84,u85,u86,u87,u88,u89,u90,u91,u92,u93,u94,u95,u96,u97,u98,u99,u100,u101,u102,u103,u104,u105,u106,u107,u108,u109,u110,u111,u112,u113,u114,u115,u116,u117,u118,u119,u120,u121,u122,u123,u124,u125,u126,u127,u128,u129,u130],defers:=[]} W:=by
 have d:=G u;have aa:=G R;have o:=G M;have ad:=V.cell;have ac:=K.cell;clear u R V K M
 conv=>arg 2;whnf
 cases h1:(op==A)with
 |false=>
  cases b<;>(have e0:a=false:=(by rw[<-o.out,h1];simp);go_wp2_with fail;go_ret;exact⟨by rw[e0];rfl,d.out⟩)
 |true=>
  cases h2:(nm==F)with
  |false=>
   cases b<;>(have e0:a=false:=(by rw[<-o.out,h1,h2];simp);go_wp2_with fail;go_ret;exact⟨by rw[e0];rfl,d.out⟩)
  |true=>
   cases h3:(tx==z)with
   |false=>
    cases b<;>(have e0:a=false:=(by rw[<-o.out,h1,h2,h3];simp);go_wp2_with fail;go_ret;exact⟨by rw[e0];rfl,d.out⟩)
   |true=>
    cases h4:(v==y)with
    |false=>
     cases b<;>(have e0:a=false:=(by rw[<-o.out,h1,h2,h3,h4];simp);go_wp2_with fail;go_ret;exact⟨by rw[e0];rfl,d.out⟩)
    |true=>
     cases b with
     |false=>(have e0:a=false:=(by rw[<-o.out,h1,h2,h3,h4];simp);go_wp2_with fail;go_ret;exact⟨by rw[e0];rfl,d.out⟩)
     |true=>
      by_cases h5:(n:Int)=w
      ·subst h5;have e0:a=r:=by rw[<-o.out];simp[h1,h2,h3,h4]
       go_wp2_with (refine(aa.out _ d.out).mono ?_;rintro e ab ⟨rfl,u⟩;have Z:=G (d.out.trans u);clear u);go_ret;exact⟨by rw[e0];rfl,Z.out⟩
      ·have ae:((n:Int)==w)=false:=Qn.2 h5;have e0:a=false:=by rw[<-o.out,decide_eq_false h5];simp
       go_wp2_with fail;go_ret;exact⟨by rw[e0];rfl,d.out⟩
theorem I_ (op nm tx:List UInt8) (v:Int) (d:World) (u:Option Addr) (n c:Nat) (ay:n<=1073741824) (r:Bool) (I:tC d u n c r) (ad:nm.length<=1073741824):
  Calls prog 115 #[.agg #[.int .i64 3, .string (ak op), .string (ak nm), .string (ak tx), .int .i64 v, .slice u n c]] d λe w'=>e= .returned (.bool (eB nm&&(op==[]&&nm==nm&&tx==[]&&v==0)&&decide ((n:Int)=0)&&r))/\au d w':=by
 have ax:(n:Int)<=1073741824:=Qa
 have z:d.heap.size≠d.heap.size+1:=Qa
 have w:=G ((aq d 206 #[.int .i64 3, .string (ak op), .string (ak nm), .string (ak tx), .int .i64 v, .slice u n c]).ext (aa _ (.cells #[.int .i64 3, .string ⟨#[]⟩, .string ⟨#[]⟩, .string ⟨#[]⟩, .int .i64 0, .slice none 0 0] 206)));have K:=G (aM.new2 d (.cells #[.int .i64 3, .string (ak op), .string (ak nm), .string (ak tx), .int .i64 v, .slice u n c] 206) 206 #[.int .i64 3, .string ⟨#[]⟩, .string ⟨#[]⟩, .string ⟨#[]⟩, .int .i64 0, .slice none 0 0]);have am:=G ((aa d (.cells #[.int .i64 3, .string (ak op), .string (ak nm), .string (ak tx), .int .i64 v, .slice u n c] 206)).trans (aa _ (.cells #[.int .i64 3, .string ⟨#[]⟩, .string ⟨#[]⟩, .string ⟨#[]⟩, .int .i64 0, .slice none 0 0] 206)));have an:=G I;clear I;have al:=G (dJ nm ad);generalize eB nm=b at*;generalize H:(_&& _&& _&& _:Bool)=R;have aj:=G H;clear H;go_enter func115,ntmps115;go_wp2_with fail;refine cu (UW (d.heap.size+1) 206 #[.int .i64 3, .string ⟨#[]⟩, .string ⟨#[]⟩, .string ⟨#[]⟩, .int .i64 0, .slice none 0 0] #[.int .i64 3, .string ⟨#[]⟩, .string (ak nm), .string ⟨#[]⟩, .int .i64 0, .slice none 0 0]) (UW.refl _ _ _ _) (UW.trans _ _ _ _) 6 3 [(4,λv=>v= .bool b,λ_ _=>True)] [] mixed Qb Qb Qb Qf ⟨λ_ _ _ _ _=>trivial,trivial⟩ ?_;repeat (first|(refine bS Qf ?_;simp only[bA,bx,bw,br,bo])|(refine sx ?_ (λX a=> ?_) ?_;rotate_left;(focus have ag:=(w.out.grown (aJ a.1) (λe=>z (ab e))).cell;clear a;go_simp<;>with_reducible rfl);simp only[bA,bx,bw,br,bo]))
 refine so (λV a y J o=> ?_) ?_
 ·clear y a;go_simp;refine(al.out V).mono ?_;rintro e ar ⟨rfl,rfl⟩;exact o _ _ (UW.refl _ _ _ _ _) rfl trivial
 rintro _ rfl;simp only[bA,bx,bw,br,bo];repeat (first|(refine bS Qf ?_;simp only[bA,bx,bw,br,bo])|(refine sx ?_ (λX a=> ?_) ?_;rotate_left;(focus have ag:=(w.out.grown (aJ a.1) (λe=>z (ab e))).cell;clear a;go_simp<;>with_reducible rfl);simp only[bA,bx,bw,br,bo]))
 intro av A y;clear y;simp only[ae,aw];obtain⟨⟨ap,ac⟩,Z,a,F⟩:=A.store K.out 2 (.string (ak nm)) (.string ⟨#[]⟩) rfl rfl rfl rfl;have M:=G a;have ai:=G F;have ao:=G (w.out.grown (aJ a.1) (λe=>z (ab e)));have ah:=G (am.out.grown (aJ a.1) (λk e=>by injection e with e;omega));clear A a F w K;refine aO Qf Qe (λJ o=> ?_);go_simp;refine o _ _ M.out ?_;clear o ac Z;refine aO Qf Qe (λJ o=> ?_);go_simp;refine o _ _ M.out ?_;clear o;refine cL ?_;rename_i az aA af aB;refine af _ _ (jZ _ _ 3 v 0 _ op nm tx [] nm [] u n c _ r d _ ah.out ao.out ai.out an.out R aj.out _ _ _ _ _ _ _ _ _ _ _ _ _ _ _ _ _ _ _ _ _ _ _ _ _ _ _ _ _ _ _ _ _ _ _ _ _ _ _ _ _ _ _ _ _ _ _ _ _ _ _ _ _ _ _ _ _ _ _ _ _ _ _ _ _ _ _ _ _ _ _ _ _ _ _ _ _ _ _ _ _ _ _ _ _ _ _ _ _ _ _ _ _ _ _ _ _ _ _ _ _ _ _ _ _ _ _ _ _ _ _ _ _ _ _ _ _ _ _ _ _ _ _ _ _ _ _)
theorem I9 (op nm tx:List UInt8) (v:Int) (d:World) (u:Option Addr) (n c:Nat) (ay:n<=1073741824) (r:Bool) (K:tC d u n c r) (ad:nm.length<=1073741824):
  Calls prog 115 #[.agg #[.int .i64 4, .string (ak op), .string (ak nm), .string (ak tx), .int .i64 v, .slice u n c]] d λe w'=>e= .returned (.bool (eB nm&&(op==[]&&nm==nm&&tx==[]&&v==0)&&decide ((n:Int)=1)&&r))/\au d w':=by
 have ax:(n:Int)<=1073741824:=Qa
 have z:d.heap.size≠d.heap.size+1:=Qa
 have w:=G ((aq d 206 #[.int .i64 4, .string (ak op), .string (ak nm), .string (ak tx), .int .i64 v, .slice u n c]).ext (aa _ (.cells #[.int .i64 4, .string ⟨#[]⟩, .string ⟨#[]⟩, .string ⟨#[]⟩, .int .i64 0, .slice none 0 0] 206)));have M:=G (aM.new2 d (.cells #[.int .i64 4, .string (ak op), .string (ak nm), .string (ak tx), .int .i64 v, .slice u n c] 206) 206 #[.int .i64 4, .string ⟨#[]⟩, .string ⟨#[]⟩, .string ⟨#[]⟩, .int .i64 0, .slice none 0 0]);have am:=G ((aa d (.cells #[.int .i64 4, .string (ak op), .string (ak nm), .string (ak tx), .int .i64 v, .slice u n c] 206)).trans (aa _ (.cells #[.int .i64 4, .string ⟨#[]⟩, .string ⟨#[]⟩, .string ⟨#[]⟩, .int .i64 0, .slice none 0 0] 206)));have an:=G K;clear K;have al:=G (dJ nm ad);generalize eB nm=b at*;generalize J:(_&& _&& _&& _:Bool)=R;have aj:=G J;clear J;go_enter func115,ntmps115;go_wp2_with fail;refine cu (UW (d.heap.size+1) 206 #[.int .i64 4, .string ⟨#[]⟩, .string ⟨#[]⟩, .string ⟨#[]⟩, .int .i64 0, .slice none 0 0] #[.int .i64 4, .string ⟨#[]⟩, .string (ak nm), .string ⟨#[]⟩, .int .i64 0, .slice none 0 0]) (UW.refl _ _ _ _) (UW.trans _ _ _ _) 6 3 [(4,λv=>v= .bool b,λ_ _=>True)] [] mixed Qb Qb Qb Qf ⟨λ_ _ _ _ _=>trivial,trivial⟩ ?_;repeat (first|(refine bS Qf ?_;simp only[bA,bx,bw,br,bo])|(refine sx ?_ (λX a=> ?_) ?_;rotate_left;(focus have ag:=(w.out.grown (aJ a.1) (λe=>z (ab e))).cell;clear a;go_simp<;>with_reducible rfl);simp only[bA,bx,bw,br,bo]))
 refine so (λV a y A o=> ?_) ?_
 ·clear y a;go_simp;refine(al.out V).mono ?_;rintro e ar ⟨rfl,rfl⟩;exact o _ _ (UW.refl _ _ _ _ _) rfl trivial
 rintro _ rfl;simp only[bA,bx,bw,br,bo];repeat (first|(refine bS Qf ?_;simp only[bA,bx,bw,br,bo])|(refine sx ?_ (λX a=> ?_) ?_;rotate_left;(focus have ag:=(w.out.grown (aJ a.1) (λe=>z (ab e))).cell;clear a;go_simp<;>with_reducible rfl);simp only[bA,bx,bw,br,bo]))
 intro av H y;clear y;simp only[ae,aw];obtain⟨⟨ap,ac⟩,Z,a,I⟩:=H.store M.out 2 (.string (ak nm)) (.string ⟨#[]⟩) rfl rfl rfl rfl;have F:=G a;have ai:=G I;have ao:=G (w.out.grown (aJ a.1) (λe=>z (ab e)));have ah:=G (am.out.grown (aJ a.1) (λk e=>by injection e with e;omega));clear H a I w M;refine aO Qf Qe (λA o=> ?_);go_simp;refine o _ _ F.out ?_;clear o ac Z;refine aO Qf Qe (λA o=> ?_);go_simp;refine o _ _ F.out ?_;clear o;refine aO Qf Qe (λA o=> ?_);go_simp;refine o _ _ F.out ?_;clear o;refine cL ?_;rename_i az aA af aC aB;refine af _ _ (jZ _ _ 4 v 0 _ op nm tx [] nm [] u n c _ r d _ ah.out ao.out ai.out an.out R aj.out _ _ _ _ _ _ _ _ _ _ _ _ _ _ _ _ _ _ _ _ _ _ _ _ _ _ _ _ _ _ _ _ _ _ _ _ _ _ _ _ _ _ _ _ _ _ _ _ _ _ _ _ _ _ _ _ _ _ _ _ _ _ _ _ _ _ _ _ _ _ _ _ _ _ _ _ _ _ _ _ _ _ _ _ _ _ _ _ _ _ _ _ _ _ _ _ _ _ _ _ _ _ _ _ _ _ _ _ _ _ _ _ _ _ _ _ _ _ _ _ _ _ _ _ _ _ _)
theorem I' (op nm tx:List UInt8) (v:Int) (d:World) (u:Option Addr) (n c:Nat) (az:n<=1073741824) (r:Bool) (I:tC d u n c r) (ad:tx.length<=1073741824):
  Calls prog 115 #[.agg #[.int .i64 2, .string (ak op), .string (ak nm), .string (ak tx), .int .i64 v, .slice u n c]] d λe w'=>e= .returned (.bool (sK tx&&(op==[]&&nm==[]&&tx==tx&&v==0)&&decide ((n:Int)=0)&&r))/\au d w':=by
 have ay:(n:Int)<=1073741824:=Qa
 have z:d.heap.size≠d.heap.size+1:=Qa
 have w:=G ((aq d 206 #[.int .i64 2, .string (ak op), .string (ak nm), .string (ak tx), .int .i64 v, .slice u n c]).ext (aa _ (.cells #[.int .i64 2, .string ⟨#[]⟩, .string ⟨#[]⟩, .string ⟨#[]⟩, .int .i64 0, .slice none 0 0] 206)));have K:=G (aM.new2 d (.cells #[.int .i64 2, .string (ak op), .string (ak nm), .string (ak tx), .int .i64 v, .slice u n c] 206) 206 #[.int .i64 2, .string ⟨#[]⟩, .string ⟨#[]⟩, .string ⟨#[]⟩, .int .i64 0, .slice none 0 0]);have an:=G ((aa d (.cells #[.int .i64 2, .string (ak op), .string (ak nm), .string (ak tx), .int .i64 v, .slice u n c] 206)).trans (aa _ (.cells #[.int .i64 2, .string ⟨#[]⟩, .string ⟨#[]⟩, .string ⟨#[]⟩, .int .i64 0, .slice none 0 0] 206)));have ao:=G I;clear I;have am:=G (yB tx ad);generalize sK tx=b at*;generalize H:(_&& _&& _&& _:Bool)=R;have al:=G H;clear H;go_enter func115,ntmps115;go_wp2_with fail;refine cu (UW (d.heap.size+1) 206 #[.int .i64 2, .string ⟨#[]⟩, .string ⟨#[]⟩, .string ⟨#[]⟩, .int .i64 0, .slice none 0 0] #[.int .i64 2, .string ⟨#[]⟩, .string ⟨#[]⟩, .string (ak tx), .int .i64 0, .slice none 0 0]) (UW.refl _ _ _ _) (UW.trans _ _ _ _) 6 3 [(4,λv=>v= .bool b,λ_ _=>True)] [] mixed Qb Qb Qb Qf ⟨λ_ _ _ _ _=>trivial,trivial⟩ ?_;repeat (first|(refine bS Qf ?_;simp only[bA,bx,bw,br,bo])|(refine sx ?_ (λX a=> ?_) ?_;rotate_left;(focus have ah:=(w.out.grown (aJ a.1) (λe=>z (ab e))).cell;clear a;go_simp<;>with_reducible rfl);simp only[bA,bx,bw,br,bo]))
 refine so (λV a y J o=> ?_) ?_
 ·clear y a;go_simp;refine(am.out V).mono ?_;rintro e av ⟨rfl,ag⟩;exact o _ _ (UW.of_ext ag) rfl trivial
 rintro _ rfl;simp only[bA,bx,bw,br,bo];repeat (first|(refine bS Qf ?_;simp only[bA,bx,bw,br,bo])|(refine sx ?_ (λX a=> ?_) ?_;rotate_left;(focus have ah:=(w.out.grown (aJ a.1) (λe=>z (ab e))).cell;clear a;go_simp<;>with_reducible rfl);simp only[bA,bx,bw,br,bo]))
 intro ax A y;clear y;simp only[ae,aw];obtain⟨⟨ar,ac⟩,Z,a,F⟩:=A.store K.out 3 (.string (ak tx)) (.string ⟨#[]⟩) rfl rfl rfl rfl;have M:=G a;have aj:=G F;have ap:=G (w.out.grown (aJ a.1) (λe=>z (ab e)));have ai:=G (an.out.grown (aJ a.1) (λk e=>by injection e with e;omega));clear A a F w K;refine aO Qf Qe (λJ o=> ?_);go_simp;refine o _ _ M.out ?_;clear o ac Z;refine aO Qf Qe (λJ o=> ?_);go_simp;refine o _ _ M.out ?_;clear o;refine cL ?_;rename_i aA aB af aC;refine af _ _ (jZ _ _ 2 v 0 _ op nm tx [] [] tx u n c _ r d _ ai.out ap.out aj.out ao.out R al.out _ _ _ _ _ _ _ _ _ _ _ _ _ _ _ _ _ _ _ _ _ _ _ _ _ _ _ _ _ _ _ _ _ _ _ _ _ _ _ _ _ _ _ _ _ _ _ _ _ _ _ _ _ _ _ _ _ _ _ _ _ _ _ _ _ _ _ _ _ _ _ _ _ _ _ _ _ _ _ _ _ _ _ _ _ _ _ _ _ _ _ _ _ _ _ _ _ _ _ _ _ _ _ _ _ _ _ _ _ _ _ _ _ _ _ _ _ _ _ _ _ _ _ _ _ _ _)
theorem I6 (op nm tx:List UInt8) (v:Int) (d:World) (u:Option Addr) (n c:Nat) (ax:n<=1073741824) (r:Bool) (K:tC d u n c r):
  Calls prog 115 #[.agg #[.int .i64 7, .string (ak op), .string (ak nm), .string (ak tx), .int .i64 v, .slice u n c]] d λe w'=>e= .returned (.bool (decide (0<my op)&&(op==op&&nm==[]&&tx==[]&&v==0)&&decide ((n:Int)=2)&&r))/\au d w':=by
 have av:(n:Int)<=1073741824:=Qa
 have z:d.heap.size≠d.heap.size+1:=Qa
 have w:=G ((aq d 206 #[.int .i64 7, .string (ak op), .string (ak nm), .string (ak tx), .int .i64 v, .slice u n c]).ext (aa _ (.cells #[.int .i64 7, .string ⟨#[]⟩, .string ⟨#[]⟩, .string ⟨#[]⟩, .int .i64 0, .slice none 0 0] 206)));have M:=G (aM.new2 d (.cells #[.int .i64 7, .string (ak op), .string (ak nm), .string (ak tx), .int .i64 v, .slice u n c] 206) 206 #[.int .i64 7, .string ⟨#[]⟩, .string ⟨#[]⟩, .string ⟨#[]⟩, .int .i64 0, .slice none 0 0]);have al:=G ((aa d (.cells #[.int .i64 7, .string (ak op), .string (ak nm), .string (ak tx), .int .i64 v, .slice u n c] 206)).trans (aa _ (.cells #[.int .i64 7, .string ⟨#[]⟩, .string ⟨#[]⟩, .string ⟨#[]⟩, .int .i64 0, .slice none 0 0] 206)));have am:=G K;clear K;have aj:=G (ma op);generalize my op=L at*;generalize J:(_&& _&& _&& _:Bool)=R;have ai:=G J;clear J;go_enter func115,ntmps115;go_wp2_with fail;refine cu (UW (d.heap.size+1) 206 #[.int .i64 7, .string ⟨#[]⟩, .string ⟨#[]⟩, .string ⟨#[]⟩, .int .i64 0, .slice none 0 0] #[.int .i64 7, .string (ak op), .string ⟨#[]⟩, .string ⟨#[]⟩, .int .i64 0, .slice none 0 0]) (UW.refl _ _ _ _) (UW.trans _ _ _ _) 7 3 [(4,λx=>x= .int .i64 L,λ_ _=>True)] [5] mixed Qb Qb Qb Qf ⟨λ_ _ _ _ _=>trivial,trivial⟩ ?_;repeat (first|(refine bS Qf ?_;simp only[bA,bx,bw,br,bo])|(refine sx ?_ (λX a=> ?_) ?_;rotate_left;(focus have af:=(w.out.grown (aJ a.1) (λe=>z (ab e))).cell;clear a;go_simp<;>with_reducible rfl);simp only[bA,bx,bw,br,bo]))
 refine so (λV a y A o=> ?_) ?_
 ·clear y a;go_simp;refine(aj.out V).mono ?_;rintro e ap ⟨rfl,rfl⟩;exact o _ _ (UW.refl _ _ _ _ _) rfl trivial
 rintro _ rfl;simp only[bA,bx,bw,br,bo];repeat (first|(refine bS Qf ?_;simp only[bA,bx,bw,br,bo])|(refine sx ?_ (λX a=> ?_) ?_;rotate_left;(focus have af:=(w.out.grown (aJ a.1) (λe=>z (ab e))).cell;clear a;go_simp<;>with_reducible rfl);simp only[bA,bx,bw,br,bo]))
 intro ar H y;clear y;simp only[ae,aw];obtain⟨⟨ao,ac⟩,Z,a,I⟩:=H.store M.out 1 (.string (ak op)) (.string ⟨#[]⟩) rfl rfl rfl rfl;have F:=G a;have ah:=G I;have an:=G (w.out.grown (aJ a.1) (λe=>z (ab e)));have ag:=G (al.out.grown (aJ a.1) (λk e=>by injection e with e;omega));clear H a I w M;refine aO Qf Qe (λA o=> ?_);go_simp;refine o _ _ F.out ?_;clear o ac Z;refine aO Qf Qe (λA o=> ?_);go_simp;refine o _ _ F.out ?_;clear o;refine aO Qf Qe (λA o=> ?_);go_simp;refine o _ _ F.out ?_;clear o;refine cL ?_;rename_i ay az ad aB aA;refine ad _ _ (jZ _ _ 7 v 0 _ op nm tx op [] [] u n c _ r d _ ag.out an.out ah.out am.out R ai.out _ _ _ _ _ _ _ _ _ _ _ _ _ _ _ _ _ _ _ _ _ _ _ _ _ _ _ _ _ _ _ _ _ _ _ _ _ _ _ _ _ _ _ _ _ _ _ _ _ _ _ _ _ _ _ _ _ _ _ _ _ _ _ _ _ _ _ _ _ _ _ _ _ _ _ _ _ _ _ _ _ _ _ _ _ _ _ _ _ _ _ _ _ _ _ _ _ _ _ _ _ _ _ _ _ _ _ _ _ _ _ _ _ _ _ _ _ _ _ _ _ _ _ _ _ _ _)
theorem Ja (op nm tx:List UInt8) (v:Int) (d:World) (u:Option Addr) (n c:Nat) (ay:n<=1073741824) (r:Bool) (ah:tC d u n c r):
  Calls prog 115 #[.agg #[.int .i64 1, .string (ak op), .string (ak nm), .string (ak tx), .int .i64 v, .slice u n c]] d λe w'=>e= .returned (.bool ((decide (0<=v)&&decide (v<=2147483647))&&(op==[]&&nm==[]&&tx==[]&&v==v)&&decide ((n:Int)=0)&&r))/\au d w':=by
 have ax:(n:Int)<=1073741824:=Qa
 have H:d.heap.size≠d.heap.size+1:=Qa
 have w:=G ((aq d 206 #[.int .i64 1, .string (ak op), .string (ak nm), .string (ak tx), .int .i64 v, .slice u n c]).ext (aa _ (.cells #[.int .i64 1, .string ⟨#[]⟩, .string ⟨#[]⟩, .string ⟨#[]⟩, .int .i64 0, .slice none 0 0] 206)));have I:=G (aM.new2 d (.cells #[.int .i64 1, .string (ak op), .string (ak nm), .string (ak tx), .int .i64 v, .slice u n c] 206) 206 #[.int .i64 1, .string ⟨#[]⟩, .string ⟨#[]⟩, .string ⟨#[]⟩, .int .i64 0, .slice none 0 0]);have ai:=G ((aa d (.cells #[.int .i64 1, .string (ak op), .string (ak nm), .string (ak tx), .int .i64 v, .slice u n c] 206)).trans (aa _ (.cells #[.int .i64 1, .string ⟨#[]⟩, .string ⟨#[]⟩, .string ⟨#[]⟩, .int .i64 0, .slice none 0 0] 206)));have aj:=G ah;clear ah;by_cases h0:0<=v
 ·have V:decide (0<=v)=true:=decide_eq_true h0;rw[V,Bool.true_and];generalize A:(_&& _&& _&& _:Bool)=R;have af:=G A;clear A;go_enter func115,ntmps115;go_wp2_with fail;refine cu (UW (d.heap.size+1) 206 #[.int .i64 1, .string ⟨#[]⟩, .string ⟨#[]⟩, .string ⟨#[]⟩, .int .i64 0, .slice none 0 0] #[.int .i64 1, .string ⟨#[]⟩, .string ⟨#[]⟩, .string ⟨#[]⟩, .int .i64 v, .slice none 0 0]) (UW.refl _ _ _ _) (UW.trans _ _ _ _) 11 3 [] [6,7,8,9] mixed Qb Qb Qb Qf trivial ?_;repeat (first|(refine bS Qf ?_;simp only[bA,bx,bw,br,bo])|(refine sx ?_ (λan a=> ?_) ?_;rotate_left;(focus have ao:=(w.out.grown (aJ a.1) (λe=>H (ab e))).cell;clear a;go_simp<;>with_reducible rfl);simp only[bA,bx,bw,br,bo]))
  intro am y M;clear M;simp only[ae,aw];obtain⟨⟨al,K⟩,J,a,z⟩:=y.store I.out 4 (.int .i64 v) (.int .i64 0) rfl rfl rfl rfl;have F:=G a;have ad:=G z;have ag:=G (w.out.grown (aJ a.1) (λe=>H (ab e)));have ac:=G (ai.out.grown (aJ a.1) (λk e=>by injection e with e;omega));clear y a z w I;refine aO Qf Qe (λZ o=> ?_);go_simp;refine o _ _ F.out ?_;clear o K J;refine aO Qf Qe (λZ o=> ?_);go_simp;refine o _ _ F.out ?_;clear o;refine cL ?_;rename_i ap ar X av;refine X _ _ (jZ _ _ 1 v v _ op nm tx [] [] [] u n c _ r d _ ac.out ag.out ad.out aj.out R af.out _ _ _ _ _ _ _ _ _ _ _ _ _ _ _ _ _ _ _ _ _ _ _ _ _ _ _ _ _ _ _ _ _ _ _ _ _ _ _ _ _ _ _ _ _ _ _ _ _ _ _ _ _ _ _ _ _ _ _ _ _ _ _ _ _ _ _ _ _ _ _ _ _ _ _ _ _ _ _ _ _ _ _ _ _ _ _ _ _ _ _ _ _ _ _ _ _ _ _ _ _ _ _ _ _ _ _ _ _ _ _ _ _ _ _ _ _ _ _ _ _ _ _ _ _ _ _)
 ·have V:decide (0<=v)=false:=decide_eq_false h0;rw[V,Bool.false_and];generalize A:(_&& _&& _&& _:Bool)=R;have af:=G A;clear A;go_enter func115,ntmps115;go_wp2_with fail;refine cu (UW (d.heap.size+1) 206 #[.int .i64 1, .string ⟨#[]⟩, .string ⟨#[]⟩, .string ⟨#[]⟩, .int .i64 0, .slice none 0 0] #[.int .i64 1, .string ⟨#[]⟩, .string ⟨#[]⟩, .string ⟨#[]⟩, .int .i64 v, .slice none 0 0]) (UW.refl _ _ _ _) (UW.trans _ _ _ _) 11 3 [] [6,7,8,9] mixed Qb Qb Qb Qf trivial ?_;repeat (first|(refine bS Qf ?_;simp only[bA,bx,bw,br,bo])|(refine sx ?_ (λan a=> ?_) ?_;rotate_left;(focus have ao:=(w.out.grown (aJ a.1) (λe=>H (ab e))).cell;clear a;go_simp<;>with_reducible rfl);simp only[bA,bx,bw,br,bo]))
  intro am y M;clear M;simp only[ae,aw];obtain⟨⟨al,K⟩,J,a,z⟩:=y.store I.out 4 (.int .i64 v) (.int .i64 0) rfl rfl rfl rfl;have F:=G a;have ad:=G z;have ag:=G (w.out.grown (aJ a.1) (λe=>H (ab e)));have ac:=G (ai.out.grown (aJ a.1) (λk e=>by injection e with e;omega));clear y a z w I;refine aO Qf Qe (λZ o=> ?_);go_simp;refine o _ _ F.out ?_;clear o K J;refine aO Qf Qe (λZ o=> ?_);go_simp;refine o _ _ F.out ?_;clear o;refine cL ?_;rename_i ap ar X av;refine X _ _ (jZ _ _ 1 v v _ op nm tx [] [] [] u n c _ r d _ ac.out ag.out ad.out aj.out R af.out _ _ _ _ _ _ _ _ _ _ _ _ _ _ _ _ _ _ _ _ _ _ _ _ _ _ _ _ _ _ _ _ _ _ _ _ _ _ _ _ _ _ _ _ _ _ _ _ _ _ _ _ _ _ _ _ _ _ _ _ _ _ _ _ _ _ _ _ _ _ _ _ _ _ _ _ _ _ _ _ _ _ _ _ _ _ _ _ _ _ _ _ _ _ _ _ _ _ _ _ _ _ _ _ _ _ _ _ _ _ _ _ _ _ _ _ _ _ _ _ _ _ _ _ _ _ _)
theorem I7 (op nm tx:List UInt8) (v:Int) (o:World) (w:Option Addr) (n c:Nat) (ay:n<=1073741824) (r:Bool) (ag:tC o w n c r):
  Calls prog 115 #[.agg #[.int .i64 6, .string (ak op), .string (ak nm), .string (ak tx), .int .i64 v, .slice w n c]] o λe w'=>e= .returned (.bool ((op==[45]||op==[33])&&(op==op&&nm==[]&&tx==[]&&v==0)&&decide ((n:Int)=1)&&r))/\au o w':=by
 have ax:(n:Int)<=1073741824:=Qa
 have I:o.heap.size≠o.heap.size+1:=Qa
 have y:=G ((aq o 206 #[.int .i64 6, .string (ak op), .string (ak nm), .string (ak tx), .int .i64 v, .slice w n c]).ext (aa _ (.cells #[.int .i64 6, .string ⟨#[]⟩, .string ⟨#[]⟩, .string ⟨#[]⟩, .int .i64 0, .slice none 0 0] 206)));have J:=G (aM.new2 o (.cells #[.int .i64 6, .string (ak op), .string (ak nm), .string (ak tx), .int .i64 v, .slice w n c] 206) 206 #[.int .i64 6, .string ⟨#[]⟩, .string ⟨#[]⟩, .string ⟨#[]⟩, .int .i64 0, .slice none 0 0]);have ah:=G ((aa o (.cells #[.int .i64 6, .string (ak op), .string (ak nm), .string (ak tx), .int .i64 v, .slice w n c] 206)).trans (aa _ (.cells #[.int .i64 6, .string ⟨#[]⟩, .string ⟨#[]⟩, .string ⟨#[]⟩, .int .i64 0, .slice none 0 0] 206)));have ai:=G ag;clear ag
 cases h0:(op==[45])with
 |true=>
  rw[Bool.true_or];generalize F:(_&& _&& _&& _:Bool)=R;have ad:=G F;clear F;go_enter func115,ntmps115;go_wp2_with fail;refine cu (UW (o.heap.size+1) 206 #[.int .i64 6, .string ⟨#[]⟩, .string ⟨#[]⟩, .string ⟨#[]⟩, .int .i64 0, .slice none 0 0] #[.int .i64 6, .string (ak op), .string ⟨#[]⟩, .string ⟨#[]⟩, .int .i64 0, .slice none 0 0]) (UW.refl _ _ _ _) (UW.trans _ _ _ _) 11 3 [] [6,7,8,9] mixed Qb Qb Qb Qf trivial ?_;repeat (first|(refine bS Qf ?_;simp only[bA,bx,bw,br,bo])|(refine sx ?_ (λam d=> ?_) ?_;rotate_left;(focus have an:=(y.out.grown (aJ d.1) (λe=>I (ab e))).cell;clear d;go_simp<;>with_reducible rfl);simp only[bA,bx,bw,br,bo]))
  intro al z V;clear V;simp only[ae,aw];obtain⟨⟨aj,M⟩,K,d,A⟩:=z.store J.out 1 (.string (ak op)) (.string ⟨#[]⟩) rfl rfl rfl rfl;have u:=G d;have ac:=G A;have af:=G (y.out.grown (aJ d.1) (λe=>I (ab e)));have Z:=G (ah.out.grown (aJ d.1) (λk e=>by injection e with e;omega));clear z d A y J;refine aO Qf Qe (λH a=> ?_);go_simp;refine a _ _ u.out ?_;clear a M K;refine aO Qf Qe (λH a=> ?_);go_simp;refine a _ _ u.out ?_;clear a;refine aO Qf Qe (λH a=> ?_);go_simp;refine a _ _ u.out ?_;clear a;refine cL ?_;rename_i ao ap X av ar;refine X _ _ (jZ _ _ 6 v 0 _ op nm tx op [] [] w n c _ r o _ Z.out af.out ac.out ai.out R ad.out _ _ _ _ _ _ _ _ _ _ _ _ _ _ _ _ _ _ _ _ _ _ _ _ _ _ _ _ _ _ _ _ _ _ _ _ _ _ _ _ _ _ _ _ _ _ _ _ _ _ _ _ _ _ _ _ _ _ _ _ _ _ _ _ _ _ _ _ _ _ _ _ _ _ _ _ _ _ _ _ _ _ _ _ _ _ _ _ _ _ _ _ _ _ _ _ _ _ _ _ _ _ _ _ _ _ _ _ _ _ _ _ _ _ _ _ _ _ _ _ _ _ _ _ _ _ _)
 |false=>
  rw[Bool.false_or];generalize F:(_&& _&& _&& _:Bool)=R;have ad:=G F;clear F;go_enter func115,ntmps115;go_wp2_with fail;refine cu (UW (o.heap.size+1) 206 #[.int .i64 6, .string ⟨#[]⟩, .string ⟨#[]⟩, .string ⟨#[]⟩, .int .i64 0, .slice none 0 0] #[.int .i64 6, .string (ak op), .string ⟨#[]⟩, .string ⟨#[]⟩, .int .i64 0, .slice none 0 0]) (UW.refl _ _ _ _) (UW.trans _ _ _ _) 11 3 [] [6,7,8,9] mixed Qb Qb Qb Qf trivial ?_;repeat (first|(refine bS Qf ?_;simp only[bA,bx,bw,br,bo])|(refine sx ?_ (λam d=> ?_) ?_;rotate_left;(focus have an:=(y.out.grown (aJ d.1) (λe=>I (ab e))).cell;clear d;go_simp<;>with_reducible rfl);simp only[bA,bx,bw,br,bo]))
  intro al z V;clear V;simp only[ae,aw];obtain⟨⟨aj,M⟩,K,d,A⟩:=z.store J.out 1 (.string (ak op)) (.string ⟨#[]⟩) rfl rfl rfl rfl;have u:=G d;have ac:=G A;have af:=G (y.out.grown (aJ d.1) (λe=>I (ab e)));have Z:=G (ah.out.grown (aJ d.1) (λk e=>by injection e with e;omega));clear z d A y J;refine aO Qf Qe (λH a=> ?_);go_simp;refine a _ _ u.out ?_;clear a M K;refine aO Qf Qe (λH a=> ?_);go_simp;refine a _ _ u.out ?_;clear a;refine aO Qf Qe (λH a=> ?_);go_simp;refine a _ _ u.out ?_;clear a;refine cL ?_;rename_i ao ap X av ar;refine X _ _ (jZ _ _ 6 v 0 _ op nm tx op [] [] w n c _ r o _ Z.out af.out ac.out ai.out R ad.out _ _ _ _ _ _ _ _ _ _ _ _ _ _ _ _ _ _ _ _ _ _ _ _ _ _ _ _ _ _ _ _ _ _ _ _ _ _ _ _ _ _ _ _ _ _ _ _ _ _ _ _ _ _ _ _ _ _ _ _ _ _ _ _ _ _ _ _ _ _ _ _ _ _ _ _ _ _ _ _ _ _ _ _ _ _ _ _ _ _ _ _ _ _ _ _ _ _ _ _ _ _ _ _ _ _ _ _ _ _ _ _ _ _ _ _ _ _ _ _ _ _ _ _ _ _ _)
theorem I8 (op nm tx:List UInt8) (v:Int) (o:World) (A:Option Addr) (n c:Nat) (aC:n<=1073741824) (r:Bool) (aj:tC o A n c r) (av:nm.length<=1073741824):
  Calls prog 115 #[.agg #[.int .i64 5, .string (ak op), .string (ak nm), .string (ak tx), .int .i64 v, .slice A n c]] o λe w'=>e= .returned (.bool ((eB nm&&decide ((n:Int)<=4))&&(op==[]&&nm==nm&&tx==[]&&v==0)&&decide ((n:Int)=n)&&r))/\au o w':=by
 have aB:(n:Int)<=1073741824:=Qa
 have F:o.heap.size≠o.heap.size+1:=Qa
 have u:=G ((aq o 206 #[.int .i64 5, .string (ak op), .string (ak nm), .string (ak tx), .int .i64 v, .slice A n c]).ext (aa _ (.cells #[.int .i64 5, .string ⟨#[]⟩, .string ⟨#[]⟩, .string ⟨#[]⟩, .int .i64 0, .slice none 0 0] 206)));have K:=G (aM.new2 o (.cells #[.int .i64 5, .string (ak op), .string (ak nm), .string (ak tx), .int .i64 v, .slice A n c] 206) 206 #[.int .i64 5, .string ⟨#[]⟩, .string ⟨#[]⟩, .string ⟨#[]⟩, .int .i64 0, .slice none 0 0]);have am:=G ((aa o (.cells #[.int .i64 5, .string (ak op), .string (ak nm), .string (ak tx), .int .i64 v, .slice A n c] 206)).trans (aa _ (.cells #[.int .i64 5, .string ⟨#[]⟩, .string ⟨#[]⟩, .string ⟨#[]⟩, .int .i64 0, .slice none 0 0] 206)));have an:=G aj;clear aj;have al:=G (dJ nm av);generalize eB nm=b at*
 cases b with
 |true=>
  rw[Bool.true_and];generalize J:(_&& _&& _&& _:Bool)=R;have ah:=G J;clear J;go_enter func115,ntmps115;go_wp2_with fail;refine cu (UW (o.heap.size+1) 206 #[.int .i64 5, .string ⟨#[]⟩, .string ⟨#[]⟩, .string ⟨#[]⟩, .int .i64 0, .slice none 0 0] #[.int .i64 5, .string ⟨#[]⟩, .string (ak nm), .string ⟨#[]⟩, .int .i64 0, .slice none 0 0]) (UW.refl _ _ _ _) (UW.trans _ _ _ _) 15 3 [(4,λv=>v= .bool true,λ_ _=>True)] [6,7,8,9,10,11,12,13] mixed Qb Qb Qb Qf ⟨λ_ _ _ _ _=>trivial,trivial⟩ ?_;repeat (first|(refine bS Qf ?_;simp only[bA,bx,bw,br,bo])|(refine sx ?_ (λV a=> ?_) ?_;rotate_left;(focus have ad:=(u.out.grown (aJ a.1) (λe=>F (ab e))).cell;clear a;go_simp<;>with_reducible rfl);simp only[bA,bx,bw,br,bo]))
  refine so (λM a w y d=> ?_) ?_
  ·clear w a;go_simp;refine(al.out M).mono ?_;rintro e ap ⟨rfl,rfl⟩;exact d _ _ (UW.refl _ _ _ _ _) rfl trivial
  rintro _ rfl;simp only[bA,bx,bw,br,bo];repeat (first|(refine bS Qf ?_;simp only[bA,bx,bw,br,bo])|(refine sx ?_ (λV a=> ?_) ?_;rotate_left;(focus have ad:=(u.out.grown (aJ a.1) (λe=>F (ab e))).cell;clear a;go_simp<;>with_reducible rfl);simp only[bA,bx,bw,br,bo]))
  intro ar H w;clear w;simp only[ae,aw];obtain⟨⟨ao,Z⟩,X,a,I⟩:=H.store K.out 2 (.string (ak nm)) (.string ⟨#[]⟩) rfl rfl rfl rfl;have z:=G a;have ag:=G I;have ai:=G (u.out.grown (aJ a.1) (λe=>F (ab e)));have af:=G (am.out.grown (aJ a.1) (λk e=>by injection e with e;omega));clear H a I u K;refine aO Qf Qe (λy d=> ?_);go_simp;refine d _ _ z.out ?_;clear d Z X;refine aO Qf Qe (λy d=> ?_);go_simp;refine d _ _ z.out ?_;clear d;refine aO Qf Qe (λy d=> ?_);go_simp;refine d _ _ z.out ?_;clear d;refine cL ?_;rename_i ax ay ac aA az;refine ac _ _ (jZ _ _ 5 v 0 _ op nm tx [] nm [] A n c _ r o _ af.out ai.out ag.out an.out R (Eq.trans Qe ah.out) _ _ _ _ _ _ _ _ _ _ _ _ _ _ _ _ _ _ _ _ _ _ _ _ _ _ _ _ _ _ _ _ _ _ _ _ _ _ _ _ _ _ _ _ _ _ _ _ _ _ _ _ _ _ _ _ _ _ _ _ _ _ _ _ _ _ _ _ _ _ _ _ _ _ _ _ _ _ _ _ _ _ _ _ _ _ _ _ _ _ _ _ _ _ _ _ _ _ _ _ _ _ _ _ _ _ _ _ _ _ _ _ _ _ _ _ _ _ _ _ _ _ _ _ _ _ _)
 |false=>
  rw[Bool.false_and];generalize J:(_&& _&& _&& _:Bool)=R;have ah:=G J;clear J;go_enter func115,ntmps115;go_wp2_with fail;refine cu (UW (o.heap.size+1) 206 #[.int .i64 5, .string ⟨#[]⟩, .string ⟨#[]⟩, .string ⟨#[]⟩, .int .i64 0, .slice none 0 0] #[.int .i64 5, .string ⟨#[]⟩, .string (ak nm), .string ⟨#[]⟩, .int .i64 0, .slice none 0 0]) (UW.refl _ _ _ _) (UW.trans _ _ _ _) 15 3 [(4,λv=>v= .bool false,λ_ _=>True)] [6,7,8,9,10,11,12,13] mixed Qb Qb Qb Qf ⟨λ_ _ _ _ _=>trivial,trivial⟩ ?_;repeat (first|(refine bS Qf ?_;simp only[bA,bx,bw,br,bo])|(refine sx ?_ (λV a=> ?_) ?_;rotate_left;(focus have ad:=(u.out.grown (aJ a.1) (λe=>F (ab e))).cell;clear a;go_simp<;>with_reducible rfl);simp only[bA,bx,bw,br,bo]))
  refine so (λM a w y d=> ?_) ?_
  ·clear w a;go_simp;refine(al.out M).mono ?_;rintro e ap ⟨rfl,rfl⟩;exact d _ _ (UW.refl _ _ _ _ _) rfl trivial
  rintro _ rfl;simp only[bA,bx,bw,br,bo];repeat (first|(refine bS Qf ?_;simp only[bA,bx,bw,br,bo])|(refine sx ?_ (λV a=> ?_) ?_;rotate_left;(focus have ad:=(u.out.grown (aJ a.1) (λe=>F (ab e))).cell;clear a;go_simp<;>with_reducible rfl);simp only[bA,bx,bw,br,bo]))
  intro ar H w;clear w;simp only[ae,aw];obtain⟨⟨ao,Z⟩,X,a,I⟩:=H.store K.out 2 (.string (ak nm)) (.string ⟨#[]⟩) rfl rfl rfl rfl;have z:=G a;have ag:=G I;have ai:=G (u.out.grown (aJ a.1) (λe=>F (ab e)));have af:=G (am.out.grown (aJ a.1) (λk e=>by injection e with e;omega));clear H a I u K;refine aO Qf Qe (λy d=> ?_);go_simp;refine d _ _ z.out ?_;clear d Z X;refine aO Qf Qe (λy d=> ?_);go_simp;refine d _ _ z.out ?_;clear d;refine aO Qf Qe (λy d=> ?_);go_simp;refine d _ _ z.out ?_;clear d;refine cL ?_;rename_i ax ay ac aA az;refine ac _ _ (jZ _ _ 5 v 0 _ op nm tx [] nm [] A n c _ r o _ af.out ai.out ag.out an.out R (Eq.trans Qe ah.out) _ _ _ _ _ _ _ _ _ _ _ _ _ _ _ _ _ _ _ _ _ _ _ _ _ _ _ _ _ _ _ _ _ _ _ _ _ _ _ _ _ _ _ _ _ _ _ _ _ _ _ _ _ _ _ _ _ _ _ _ _ _ _ _ _ _ _ _ _ _ _ _ _ _ _ _ _ _ _ _ _ _ _ _ _ _ _ _ _ _ _ _ _ _ _ _ _ _ _ _ _ _ _ _ _ _ _ _ _ _ _ _ _ _ _ _ _ _ _ _ _ _ _ _ _ _ _)
theorem Jb (k:Int) (a: ∀i:Int,1<=i->i<=7->k≠i) (op nm tx:List UInt8) (v:Int) (o:World) (u:Option Addr) (n c:Nat) (w:n<=1073741824):
  Calls prog 115 #[.agg #[.int .i64 k, .string (ak op), .string (ak nm), .string (ak tx), .int .i64 v, .slice u n c]] o λe w'=>e= .returned (.bool false)/\au o w':=by
 have J:(k==1)=false:=Qn.2 (a 1 Qd Qd);have I:(k==2)=false:=Qn.2 (a 2 Qd Qd);have H:(k==3)=false:=Qn.2 (a 3 Qd Qd);have F:(k==4)=false:=Qn.2 (a 4 Qd Qd);have A:(k==5)=false:=Qn.2 (a 5 Qd Qd);have z:(k==6)=false:=Qn.2 (a 6 Qd Qd);have y:(k==7)=false:=Qn.2 (a 7 Qd Qd);have d:=G ((aa o (.cells #[.int .i64 k, .string (ak op), .string (ak nm), .string (ak tx), .int .i64 v, .slice u n c] 206)).trans (aa _ (.cells #[.int .i64 k, .string ⟨#[]⟩, .string ⟨#[]⟩, .string ⟨#[]⟩, .int .i64 0, .slice none 0 0] 206)));clear a
 cases h1:(op==[])with
 |false=>
  go_enter func115,ntmps115;go_wp2_with fail;go_ret;exact⟨rfl,d.out⟩
 |true=>
 cases h2:(nm==[])with
 |false=>
  go_enter func115,ntmps115;go_wp2_with fail;go_ret;exact⟨rfl,d.out⟩
 |true=>
 cases h3:(tx==[])with
 |false=>
  go_enter func115,ntmps115;go_wp2_with fail;go_ret;exact⟨rfl,d.out⟩
 |true=>
 cases h4:(v==0)with
 |false=>
  go_enter func115,ntmps115;go_wp2_with fail;go_ret;exact⟨rfl,d.out⟩
 |true=>
  go_enter func115,ntmps115;go_wp2_with fail;go_ret;exact⟨rfl,d.out⟩
theorem sM: ∀l:List Ex,l.any (λa=> !a.ok)= !zD l
 | []=>rfl
 |x::r=>by simp only[iu,zD,sM r,Bool.not_and]
theorem rp (a:Ex) (w':World) (B:Option Addr) (y:Nat) (F: ∀w,au w' w->Calls prog 115 #[.agg #[.int .i64 a.k, .string (ak a.op), .string (ak a.nm), .string (ak a.tx), .int .i64 a.v, .slice B a.args.length y]] w λe u=>e= .returned (.bool a.ok)/\au w u) (A:FuncId) (J:A=168\/A=114):
  Calls prog A #[.agg #[.int .i64 a.k, .string (ak a.op), .string (ak a.nm), .string (ak a.tx), .int .i64 a.v, .slice B a.args.length y]] w' λe u=>e= .returned (.bool (!a.ok))/\au w' u:=by
 have H:=G F;have o:=G (aa w' (.cells #[.int .i64 a.k, .string (ak a.op), .string (ak a.nm), .string (ak a.tx), .int .i64 a.v, .slice B a.args.length y] 206));clear F;generalize a.args.length=n at*;rcases J with rfl|rfl
 ·go_enter func168,ntmps168;go_wp2_with (refine(H.out _ o.out).mono ?_;rintro e I ⟨rfl,d⟩;have z:=G (o.out.trans d);clear d);go_ret;exact⟨rfl,z.out⟩
 ·go_enter func114,ntmps114;go_wp2_with (refine(H.out _ o.out).mono ?_;rintro e I ⟨rfl,d⟩;have z:=G (o.out.trans d);clear d);go_ret;exact⟨rfl,z.out⟩
theorem qa: ∀(m:Nat) (x:Ex),x.wt<=m->x.wt<=1073741824-> ∀(P:Nat->Prop) (a:World) (d:Option Addr) (n c:Nat),dL a P (.slice d n c) x.args->
  Calls prog 115 #[.agg #[.int .i64 x.k, .string (ak x.op), .string (ak x.nm), .string (ak x.tx), .int .i64 x.v, .slice d n c]] a λe w'=>e= .returned (.bool x.ok)/\au a w'
 |0,x,hm,_,_,_,_,_,_,_=>absurd hm (by have:=x.wt_eq;omega)
 |m+1,x,hm,hx,P,a,d,n,c,F=>by
  have ah:=x.wt_eq;have ai:=eg x.args;have w:=F.len;have y:tC a d n c (zD x.args):=λw' ab=>by
   refine(BW (λz=> !z.ok) x.args P w' d n c (F.keep (.of_ext ab) (λ_ I _=>I)) Qa (λz X K B R Z=> ?_)).mono ?_
   ·have ag:=em X;exact rp z K B R (λV aa=>qa m z Qa Qa P V B _ R (Z.keep (.of_ext aa) (λ_ I _=>I))) _ (.inl rfl)
   ·rintro e K ⟨rfl,h⟩;exact⟨by rw[sM],h⟩
  have o:n<=1073741824:=Qa
  obtain⟨k,op,nm,tx,v,xs⟩:=x;simp only[Ex.k,Ex.op,Ex.nm,Ex.tx,Ex.v,Ex.args]at*;have u: ∀J,J=Ex.ok (.mk k op nm tx v xs)->Calls prog 115 #[.agg #[.int .i64 k, .string (ak op), .string (ak nm), .string (ak tx), .int .i64 v, .slice d n c]] a (λe w'=>e= .returned (.bool J)/\au a w')->Calls prog 115 #[.agg #[.int .i64 k, .string (ak op), .string (ak nm), .string (ak tx), .int .i64 v, .slice d n c]] a λe w'=>e= .returned (.bool (Ex.ok (.mk k op nm tx v xs)))/\au a w':=λJ F ac=>by rw[<-F];exact ac
  have G: ∀j:Nat,decide ((n:Int)=(j:Int))=(n==j):=λj=>by rw[iV];simp;omega
  have A:=G 0;have H:=G 1;have M:=G 2;have e0:((0:Nat):Int)=0:=rfl;have af:((1:Nat):Int)=1:=rfl;have ae:((2:Nat):Int)=2:=rfl;rw[e0]at A;rw[af]at H;rw[ae]at M;by_cases h1:k=1
  ·subst h1;refine u _ ?_ (Ja op nm tx v a d n c o _ y);rw[A,Ex.ok,if_pos rfl,<-w];simp
  by_cases h:k=2
  ·subst h;refine u _ ?_ (I' op nm tx v a d n c o _ y Qa);rw[A,Ex.ok,if_neg h1,if_pos rfl,<-w];simp
  by_cases h3:k=3
  ·subst h3;refine u _ ?_ (I_ op nm tx v a d n c o _ y Qa);rw[A,Ex.ok,if_neg h1,if_neg h,if_pos rfl,<-w];simp
  by_cases h4:k=4
  ·subst h4;refine u _ ?_ (I9 op nm tx v a d n c o _ y Qa);rw[H,Ex.ok,if_neg h1,if_neg h,if_neg h3,if_pos rfl,<-w];simp
  by_cases h5:k=5
  ·subst h5;refine u _ ?_ (I8 op nm tx v a d n c o _ y Qa);have ad:decide ((n:Int)<=4)=decide (n<=4):=by rw[iV];simp;omega
   rw[ad,Ex.ok,if_neg h1,if_neg h,if_neg h3,if_neg h4,if_pos rfl,<-w];simp
  by_cases h6:k=6
  ·subst h6;refine u _ ?_ (I7 op nm tx v a d n c o _ y);rw[H,Ex.ok,if_neg h1,if_neg h,if_neg h3,if_neg h4,if_neg h5,if_pos rfl,<-w];simp
  by_cases h7:k=7
  ·subst h7;refine u _ ?_ (I6 op nm tx v a d n c o _ y);rw[M,Ex.ok,if_neg h1,if_neg h,if_neg h3,if_neg h4,if_neg h5,if_neg h6,if_pos rfl,<-w];simp
  ·refine u _ ?_ (Jb k (λi al aj=>by omega) op nm tx v a d n c o);rw[Ex.ok,if_neg h1,if_neg h,if_neg h3,if_neg h4,if_neg h5,if_neg h6,if_neg h7];rfl
theorem og {P:Program} (t h ty e:TypeId) (i:TypeInfo) (d:Value) (y:P.underlying t=some (.slice e)) (w:P.underlying h=some (.int .i64)) (F:P.info? e=some i) (u:i.zero=some d) (a:World) (n:Nat) (o:0<n) (z:0<i.size)
  (R:(n:Int)<=1073741824) (V:n*i.bytes<=281474976710656):
  (Builtin.append_ #[t,h] ty #[.slice none 0 0, .int .i64 n]).run P a=
   .ok (.slice (some ⟨a.heap.size,0,none⟩) n (grownCap a n 0 e)) (a.drew.alloc (.cells (Builtin.zeroCells d.cells n++Builtin.zeroCells d.cells (grownCap a n 0 e-n)) e)):=by
 have A:n≠0:=Qa
 have K:IntKind.i64.wrap (n:Int)=n:=Qc
 have J: ¬(n:Int)<0:=Qa
 have G: ¬(9223372036854775807<(n:Int)):=Qa
 have I: ¬(281474976710656<Builtin.nextslicecap n 0*i.bytes):=by rw[nextslicecap_zero o];omega
 have H: ¬(281474976710656<(n:Int)*(i.bytes:Int)):=by
  have:(n:Int)*(i.bytes:Int)=((n*i.bytes:Nat):Int):=Qe
  omega
 simp[Builtin.append_,run_underlying y,run_underlying w,sizeOf,typeInfo,zeroValue,F,u,K,J,A,G,I,H,Question.forced,run_firstCells_none,newRow,grownCap,asInt,asIntOf];intro M;exact absurd M (bU (Nat.mul_pos o z))
theorem kU (a:Array Value) (n:Nat):(Builtin.zeroCells a n).size=n*a.size:=by simp[Builtin.zeroCells]
theorem r9 {P:Program} {a:World} {ops:Array Oper} {rest:List Oper} {d:Oper} {o:Act} {Q:Exit->Act->World->Prop} {t u e:TypeId} {z F:Nat} {y:Value} (h:mY P t e z F y) (R:P.underlying u=some (.int .i64)) (aa:d.guard=none) (s x:Operand)
  (X:d.op= .call {callee:= .builtin .append,args:= #[s,x],argTypes:= #[t,u]}) (base n:Nat) (M:o.eval s= .slice none 0 0) (K:o.eval x= .int .i64 n) (ae:0<n) (ag:n<=1073741824) (J:F<=1000) (ac:base<=a.heap.size)
  (af: ∀g w w',w'.ownsRow base e z (.slice (some ⟨g,0,none⟩) 0 w) 0 []->n<=w->au a w'->wpList P ops Q rest (o.put d.dst (.slice (some ⟨g,0,none⟩) n w)) w'):
  wpList P ops Q (d::rest) o a:=by
 obtain⟨i,Z,I,H,G⟩:=info_parts h.info;have ah:n*i.bytes<=n*1000:=gu _ (by rw[G];exact J);have V:=og (P:=P) t u d.type e i y h.under R Z I a n ae (by rw[H];exact h.pos) Qa Qa;have A:=grownCap_ge a n 0 e;have ab:grownCap a n 0 e<=maxLen:=grownCap_le_maxLen a n 0 e Qh;refine wpList_plain aa λai ad=> ?_;unfold Oper.wp execOp;simp only[X,resolve,invoke,builtin,Sem.run_bind,Sem.run_pure,Result.andThen_ok,dt,b7,du,M,K,V];refine ad _ _ (af a.heap.size (grownCap a n 0 e) _ ?_ A ((aG a).drew.alloc' _));refine World.ownsRow_made a.drew _ _ ac ab ?_;rw[Array.size_append,kU,kU,h.cells,<-Nat.add_mul,Nat.add_sub_cancel' A]
theorem Ai:mY prog 78 147 5 96 (.agg #[.int .i64 0, .string ⟨#[]⟩, .slice none 0 0, .slice none 0 0, .slice none 0 0]):=⟨underlying78,by kernel_rfl,by rfl,by decide⟩
theorem Bv (n:Nat) (w:n<=1073741824) (a:World):Calls prog 164 #[.slice none 0 0, .int .i64 (n:Int)] a λe w'=>(∃u c,e= .returned (.slice u 0 c)/\w'.ownsRow a.heap.size 147 5 (.slice u 0 c) 0 [])/\au a w':=by
 have I: ¬(n:Int)<0:=Qa
 have H:wrap64 (n:Int)=n:=by simp only[wrap64];omega
 have F:IntKind.i64.wrap (n:Int)=n:=Qc
 rcases Nat.eq_zero_or_pos n with rfl|h0
 ·go_enter func164,ntmps164;go_wp2_with fail;go_ret;exact⟨⟨none,0,rfl,World.ownsRow_nil a _ _ 5⟩,aG a⟩
 ·have K:(0:Int)<n:=Qa
  go_enter func164,ntmps164;go_wp2_with (at_builtin;refine r9 Ai underlying3 rfl _ _ rfl a.heap.size n rfl rfl h0 w Qd (ah _) ?_;intro g M A d J o;have y:=G d;have z:=G o;clear d o);go_ret;exact⟨⟨_,_,rfl,y.out⟩,z.out⟩
theorem ed.svs {d:World} {P:Nat->Prop} {z:Option Addr} {n c:Nat} {l:List St} (F:ed d P (.slice z n c) l):
  ∃q:List SV,q.map (·.s)=l/\q.length=n/\(∀p,p∈q->p.ok d P)/\n<=maxLen/\(n=0\/n<=c/\ ∃b h,z=some ⟨b,h,none⟩/\b<d.heap.size/\ ∀j u,(eX q)[j]? =some u->d.cell? ⟨b,h+j,none⟩=some u):=by
 cases F with
 |nil=>exact⟨[],rfl,rfl,λp o=>(by cases o),by simp[maxLen], .inl rfl⟩
 |row b h n c xs es bs ls hP hb hn hnc hm hc he hs hl=>
  refine⟨List.ofFn (n:=l.length) (λi=>⟨l[i],es i,bs i,ls i⟩),?_,by simpa using hn,?_,by omega, .inr ⟨hnc,b,h,rfl,hb,λj u a=> ?_⟩⟩
  ·apply List.ext_getElem
   ·simp
   ·intro i I H;simp
  ·intro p o;rw[List.mem_ofFn]at o;obtain⟨i,rfl⟩:=o;exact⟨he i i.2,hs i i.2,hl i i.2⟩
  ·have G:j<l.length*5:=by
    have:=(List.getElem?_eq_some_iff.1 a).1;rw[kE]at this;simpa using this
   have y:j/5<l.length:=Qa
   have A:j%5<5:=Nat.mod_lt _ Qa;have w:j=j/5*5+j%5:=Qa
   rw[w,lZ _ (j/5) (by simpa using y) (j%5) A]at a;obtain⟨M,c1,c2,K,J⟩:=hc (j/5) y;rw[w,<-e_];simp only[List.getElem_ofFn]at a;generalize j%5=r at*;have:r=0\/r=1\/r=2\/r=3\/r=4:=Qa
   rcases this with rfl|rfl|rfl|rfl|rfl<;>(simp only[zC,cK,dg,gU]at a;subst a;assumption)
theorem ed.of_row {d:World} {base:Nat} {e:TypeId} {v:Value} {n:Nat} {q:List SV} {Q:Nat->Prop} (w:d.ownsRow base e 5 v n (eX q)) (A:q.length=n) (H: ∀b,base<=b->Q b) (z: ∀p,p∈q->p.ok d Q):ed d Q v (q.map (·.s)):=by
 rcases w.2 with⟨rfl,I⟩|⟨g,cap,cur,rfl,hb,hg,hnc,hcm,hcs,ht⟩
 ·have:q=[]:=aX Qa;subst this;exact .nil _ _
 ·have F:g<d.heap.size:=(Array.getElem?_eq_some_iff.1 hg).1;have o: ∀j y,(eX q)[j]? =some y->d.cell? ⟨g,j,none⟩=some y:=λj y u=>by
   rw[cell_of_row d g j cur e (0,0) hg];rw[<-ht,b_]at u;split at u
   ·simpa using u
   ·cases u
  refine .row g 0 n cap _ (λi=>if w:i<q.length then q[i].e else .slice none 0 0) (λi=>if w:i<q.length then q[i].b else .slice none 0 0) (λi=>if w:i<q.length then q[i].l else .slice none 0 0) (H _ hb) F (by simpa using A) hnc hcm (λi h=> ?_) (λi h=> ?_) (λi h=> ?_) (λi h=> ?_)
  ·have a:i<q.length:=by simpa using h
   have r:=λk G=>lZ q i a k G;have e0:(q.map (·.s))[i]=q[i].s:=Qe
   rw[e0,dif_pos a,dif_pos a,dif_pos a,aE];exact⟨o _ _ (r 0 Qa),o _ _ (r 1 Qa),o _ _ (r 2 Qa),o _ _ (r 3 Qa),o _ _ (r 4 Qa)⟩
  all_goals
   have a:i<q.length:=by simpa using h
   have e0:(q.map (·.s))[i]=q[i].s:=Qe
   rw[e0,dif_pos a]
  ·exact(z _ (ay a)).1
  ·exact(z _ (ay a)).2.1
  ·exact(z _ (ay a)).2.2
theorem yl {q:List SV} (d:Value) (a:d∈eX q) (w: ∀p,p∈q-> ∃u b c o e f g h i,p.e= .slice u b c/\p.b= .slice o e f/\p.l= .slice g h i):d.oneCell'=true:=by
 obtain⟨p,y,a⟩:=List.mem_flatMap.1 a;obtain⟨u,b,c,o,e,f,g,h,i,F,A,z⟩:=w p y;simp only[zC,F,A,z,bT,bB,or_false]at a;rcases a with rfl|rfl|rfl|rfl|rfl<;>rfl
theorem SV.ok.forms {o:World} {P:Nat->Prop} {p:SV} (a:p.ok o P): ∃h b c d e f g a i,p.e= .slice h b c/\p.b= .slice d e f/\p.l= .slice g a i:=by
 obtain⟨h,b,y,_⟩:=a.1.form;obtain⟨c,d,w,_⟩:=a.2.1.form;obtain⟨e,f,u,_⟩:=a.2.2.form;exact⟨_,_,_,_,_,_,_,_,_,y,w,u⟩
theorem oU {P:Program} {a:World} {ops:Array Oper} {rest:List Oper} {d:Oper} {z:Act} {Q:Exit->Act->World->Prop} {t e:TypeId} {o:Nat} {G:Value} (h:mY P t e 5 o G) (ao:d.guard=none) (s x:Operand)
  (ak:d.op= .call {callee:= .builtin .append,args:= #[s,x],argTypes:= #[t,t]}) (base:Nat) (u:Option Addr) (n c:Nat) (xs:List Value) (ag:z.eval s= .slice u n c) (F:a.ownsRow base e 5 (.slice u n c) n xs)
  (B:Option Addr) (m y:Nat) (q:List SV) (aC:Nat->Prop) (ae:z.eval x= .slice B m y) (aa:q.length=m) (aj: ∀p,p∈q->p.ok a aC)
  (aq:m=0\/m<=y/\ ∃b d,B=some ⟨b,d,none⟩/\b<a.heap.size/\ ∀j A,(eX q)[j]? =some A->a.cell? ⟨b,d+j,none⟩=some A) (aD:n+m<=1073741824) (Z:o<=1000) (ac:base<=a.heap.size) (al:n<=c)
  (aB: ∀C k w',w'.ownsRow base e 5 (.slice C (n+m) k) (n+m) (xs++eX q)->(∀w0,w0.heap.size<=base->au w0 a->au w0 w')->wpList P ops Q rest (z.put d.dst (.slice C (n+m) k)) w'):
  wpList P ops Q (d::rest) z a:=by
 obtain⟨i,I,X,V,R⟩:=info_parts h.info;have ar:=World.ownsRow.lt F;have M: ∀v' w',(Builtin.append_ #[t,t] d.type #[.slice u n c, .slice B m y]).run P a= .ok v' w'->w'.ownsRow base e 5 v' (n+m) (xs++eX q)->a.grownBy w' (Value.ownBlock (.slice u n c))->wpList P ops Q (d::rest) z a:=by
  intro v' w' w ab ap;obtain⟨C,k,rfl⟩: ∃C k,v'= .slice C (n+m) k:=by
   rcases ab.2 with⟨rfl,aA⟩|⟨g,cap,cur,rfl,_⟩
   ·exact⟨none,0,by rw[aA]⟩
   ·exact⟨_,_,rfl⟩
  refine wpList_plain ao λaE av=> ?_;unfold Oper.wp execOp;simp only[ak,resolve,invoke,builtin,Sem.run_bind,Sem.run_pure,Result.andThen_ok,dt,b7,du,ag,ae,w];exact av _ _ (aB C k w' ab λw0 af aw=>aw.grown ap (λk am=>ax af (ar k am).1))
 have az: ∀H∈eX q,H.oneCell'=true:=λH ah=>yl H ah λp ai=>(aj p ai).forms;rcases aq with rfl|⟨hmd,b,o',rfl,hlt,hcell⟩
 ·have:q=[]:=aX aa;subst this;rcases B with _|ad
  ·refine M (.slice u n c) a ?_ (by simpa[eX]using F) (World.grownBy.refl a _)
   cases u<;>simp[Builtin.append_,run_underlying h.under,sizeOf,typeInfo,I,Builtin.lenOf,Builtin.firstCells,al,storeCells]
  ·obtain⟨v',w',w,K,J,_,ay⟩:=run_append_own_at (P:=P) a base t d.type e i G 5 o h.under I X V R h.cells h.pos _ n xs F ad 0 y [] Qe Qe Qe Qh (by have:(n+0)*o<=(n+0)*1000:=(gu _ Z);omega) ac;exact M v' w' w (by simpa[eX]using K) J
 ·obtain⟨v',w',w,K,J,_,ay⟩:=run_append_own_at (P:=P) a base t d.type e i G 5 o h.under I X V R h.cells h.pos _ n xs F ⟨b,o',none⟩ m y (eX q) (by rw[kE,aa]) (λj A an=>by rw[Addr.add_lit];exact hcell j A an) az Qh (by
    have:(n+m)*o<=(n+m)*1000:=gu _ Z
    omega) ac
  exact M v' w' w K J
theorem FR {a:World} {h b:Nat} {e:TypeId} {k n:Nat} {v:Value} {xs:List Value} (d:a.ownsRow b e k v n xs) (y:h<=b):a.ownsRow h e k v n xs:=
 ⟨d.1,d.2.imp id fun⟨g,A,z,w,u,o⟩=>⟨g,A,z,w,ax y u,o⟩⟩
def ke {α:Type} (a b c:α):Nat->α|0=>a|1=>b| _=>c
theorem qB (P:Nat->Prop) (a:World) (g:Nat) (an B:Option Addr) (n m c af:Nat) (ap ao:List St) (ae:aM a g 78 #[.slice an n c, .slice B m af]) (aE:ed a P (.slice an n c) ap) (aD:ed a P (.slice B m af) ao) (o:n+m<=1073741824):
  Calls prog 112 #[.slice (some ⟨g,0,none⟩) 2 2] a λe w'=>(∃C k,e= .returned (.slice C (n+m) k)/\ed w' (λb=>P b\/a.heap.size<=b) (.slice C (n+m) k) (ap++ao))/\au a w':=by
 obtain⟨H,rfl,ar,aw,a1,az⟩:=aE.svs;obtain⟨aa,rfl,aq,av,aZ,ay⟩:=aD.svs;have al:=G ae;have aI:=G aw;have aH:=G av;have aQ:=G az;have aP:=G ay;have aN:=ae.cell;have aO:=G (aG a);have aY: ¬((n:Int)<0):=Qa
 have aX: ¬((n:Int)+m<0):=Qa
 have aV:wrap64 ((n:Int))=n:=by simp only[wrap64];omega
 have aU:wrap64 ((n:Int)+m)=(n+m:Nat):=by simp only[wrap64];omega
 have aT:IntKind.i64.wrap (n:Int)=n:=Qc
 have aS:IntKind.i64.wrap ((n:Int)+m)=(n+m:Nat):=Qc
 have aW: ¬(((n+m:Nat):Int)<0):=Qa
 clear aE aD aw av az ay ae;go_enter func112,ntmps112;go_wp2_with fail
 go_loopw [3,11] (λZ w wr=> ∃(j:Nat),w= .int .i64 (j:Int)/\j<=2/\Z= .int .i64 ((ke 0 n (n+m) j:Nat):Int)/\Hid (au a wr)) (λ_ w _=>2-(intOf w).toNat)
 case atStart=>exact⟨0,rfl,by omega,rfl,aO⟩
 case round=>
  obtain⟨j,rfl,I,rfl,V⟩:=hrel;have aK:=(al.out.ext V.out).cell;clear aN;obtain rfl|rfl|rfl:j=0\/j=1\/j=2:=Qa
  ·simp only[ke];go_wp2_with fail;go_roundw
   case rel=>exact⟨1,rfl,by omega,by simp,V⟩
   case measure=>simp[intOf]
  ·simp only[ke];go_wp2_with fail;go_roundw
   case rel=>exact⟨2,rfl,by omega,by simp,V⟩
   case measure=>simp[intOf]
  ·simp only[ke];go_wp2_with (go_at_call 164;refine(Bv (n+m) o _).mono ?_;rintro e aR ⟨⟨a4,c1,rfl,aB⟩,aC⟩;have ak:=G (V.out.trans aC);have aF:=G (FR aB (dm V.out));have aL:=(al.out.ext ak.out).cell;clear aK;clear aB aC)
   go_loopw [6,27] (λZ w wr=> ∃(j:Nat) (C:Option Addr) (k y:Nat),w= .int .i64 (j:Int)/\j<=2/\Z= .slice C k y/\k=ke 0 n (n+m) j/\Hid (wr.ownsRow a.heap.size 147 5 (.slice C k y) k (ke [] (eX H) (eX H++eX aa) j))/\Hid (au a wr)) (λ_ w _=>2-(intOf w).toNat)
   case atStart=>exact⟨0,_,_,_,rfl,by omega,rfl,rfl,aF,ak⟩
   case round=>
    obtain⟨j,C,k,y,rfl,I,rfl,F,A,d⟩:=hrel;have a2:=(al.out.ext d.out).cell;clear aL aF ak;have ax:k<=y:=by
     rcases A.out.2 with⟨ad,a3⟩|⟨g',c',cur,ad,_,_,hle,_⟩
     ·injection ad with R M z;omega
     ·injection ad with R M z;omega
    obtain rfl|rfl|rfl:j=0\/j=1\/j=2:=Qa
    ·simp only[ke]at F A;obtain rfl:k=0:=F;go_wp2_with (at_builtin;refine oU Ai rfl _ _ rfl a.heap.size C 0 y [] rfl A.out an n c H P rfl ar (λp u=>(aI.out p u).keep (.of_ext d.out) (λ_ o _=>o)) (aQ.out.imp id fun⟨R,b,ab,M,z,ag⟩=>⟨R,b,ab,M,aA z d.out.size,λj X I=>(d.out.cell b _ z).trans (ag j X I)⟩) Qa Qd d.out.size ax ?_;intro am ac aJ J K;have ai:=G J;have aj:=G (K a (ah _) d.out);clear J K);go_roundw
     case rel=>exact⟨1,am,0+n,ac,rfl,by omega,by simp,by simp[ke],by simpa[ke]using ai,aj⟩
     case measure=>simp[intOf]
    ·simp only[ke]at F A;obtain rfl:k=n:=F;go_wp2_with (at_builtin;refine oU Ai rfl _ _ rfl a.heap.size C k y (eX H) rfl A.out B m af aa P rfl aq (λp u=>(aH.out p u).keep (.of_ext d.out) (λ_ o _=>o)) (aP.out.imp id fun⟨R,b,ab,M,z,ag⟩=>⟨R,b,ab,M,aA z d.out.size,λj X I=>(d.out.cell b _ z).trans (ag j X I)⟩) Qa Qd d.out.size ax ?_;intro am ac aJ J K;have ai:=G J;have aj:=G (K a (ah _) d.out);clear J K);go_roundw
     case rel=>exact⟨2,am,k+m,ac,rfl,by omega,rfl,by simp[ke],by simpa[ke]using ai,aj⟩
     case measure=>simp[intOf]
    ·simp only[ke]at F A;subst F;go_wp2_with fail;go_ret;refine⟨⟨C,y,rfl,?_⟩,d.out⟩
     have:=ed.of_row (q:=H++aa) (Q:=λb=>P b\/a.heap.size<=b) (by rw[rz];exact A.out) (by simp[ar,aq]) (λb o=> .inr o) (λp u=>by
      rcases List.mem_append.1 u with u|u
      ·exact(aI.out p u).keep (.of_ext d.out) (λ_ o _=> .inl o)
      ·exact(aH.out p u).keep (.of_ext d.out) (λ_ o _=> .inl o))
     simpa using this
theorem y7 {l:List St} {j:Nat} (a:j<l.length):ig (l.take (j+1))=max (ig (l.take j)) l[j].dep:=by
 rw[aT a,lQ];simp[ig]
theorem y_ (l:List Ex) (j:Nat):gN (l.take j)<=gN l:=by
 have:=nN (l.take j) (l.drop j);rw[db]at this;omega
theorem y6 (l:List St) (j:Nat):ig (l.take j)<=ig l:=by
 have:=lQ (l.take j) (l.drop j);rw[db]at this;omega
theorem uc: ∀(m:Nat) (x:St),x.wt<=m->x.wt<=1073741824-> ∀(P:Nat->Prop) (u:World) (M B C:Option Addr) (n c o F d A:Nat),dL u P (.slice M n c) x.ex->ed u P (.slice B o F) x.body->ed u P (.slice C d A) x.els->
  Calls prog 60 #[.agg #[.int .i64 x.k, .string (ak x.nm), .slice M n c, .slice B o F, .slice C d A]] u λe w'=>e= .returned (.int .i64 (x.dep:Int))/\au u w'
 |0,x,hm,_,_,_,_,_,_,_,_,_,_,_,_,_,_,_=>absurd hm (by have:=x.wt_eq;omega)
 |m+1,x,hm,hx,P,u,M,B,C,n,c,o,F,d,A,hR,hRb,hRl=>by
  have aJ:=G (x.dep_eq);have bD:=x.wt_eq;have az:=hR.len;have aA:=hRb.len;have ax:=hRl.len;have bH:=eg x.ex;have bJ:=fd x.body;have bF:=fd x.els;have bP:=nM x.ex;have bQ:=nL x.body;have bO:=nL x.els;have aQ: ∀z,z∈x.body++x.els->z.wt<=m/\z.wt<=1073741824:=λz aP=>by
   rcases List.mem_append.1 aP with ao|ao
   ·have:=cI ao;omega
   ·have:=cI ao;omega
  have bn:=G (uc m);obtain⟨k,nm,xs,y,w⟩:=x;simp only[St.k,St.nm,St.ex,St.body,St.els]at*;have bi:=G hR;have bg:=G hRb;have be:=G hRl;have bp:=G (aa u (.cells #[.int .i64 k, .string (ak nm), .slice M n c, .slice B o F, .slice C d A] 147));have br:=G (aq u 147 #[.int .i64 k, .string (ak nm), .slice M n c, .slice B o F, .slice C d A]);have aI:=G az;have bm:=G aA;have bl:=G ax;have bG:n<=gD xs:=Qa
  have bI:o<=gd y:=Qa
  have bE:d<=gd w:=Qa
  clear hR hRb hRl az aA ax;go_enter func60,ntmps60;go_wp2_with fail
  go_loopw [3,11] (λad J wr=> ∃(j:Nat),J= .int .i64 (j:Int)/\j<=n/\ad= .int .i64 (gN (xs.take j):Int)/\Hid (au u wr)/\Hid (aM wr u.heap.size 147 #[.int .i64 k, .string (ak nm), .slice M n c, .slice B o F, .slice C d A])) (λ_ J _=>n-(intOf J).toNat)
  case atStart=>exact⟨0,rfl,aD _,by simp[gN],bp,br⟩
  case round=>
   obtain⟨j,rfl,bK,rfl,I,aK⟩:=hrel;have aW:=y_ xs j;by_cases hlt:j<n
   ·have aS:(j:Int)<n:=Qa
    have af:j<xs.length:=by have:=aI.out;omega
    obtain⟨b,aO,bT,rfl,a,a1,ab,Z,X,V,R,aE,am⟩:=bi.out.at_ j af;have ar:=G (rQ af);have bB:=em (ay af);generalize xs[j]=z at*;have e0:=(I.out.cell b _ a).trans ab;have a6:=(I.out.cell b _ a).trans Z;have a5:=(I.out.cell b _ a).trans X;have a4:=(I.out.cell b _ a).trans V;have a3:=(I.out.cell b _ a).trans R;have bS:=(I.out.cell b _ a).trans aE;obtain⟨D,ba,rfl,_⟩:=am.form;have bh:=G (am.keep (.of_ext I.out) (Q:=P) (λb a _=>a));have aV:=z.dep_le;clear ab Z X V R aE am;go_wp2_with (go_at_call 111;refine(xG _ z (ah _) Qa P _ D _ ba (bh.out.keep (.of_ext (aa _ _)) (λb a _=>a))).mono ?_;rintro e aL ⟨rfl,K⟩;have ap:=G ((I.out.alloc' _).trans K);have bq:=G ((aK.out.ext (aa _ _)).ext K);clear K);go_roundw
    case rel=>exact⟨j+1,by go_num,by omega,by rw[ar.out];congr 1;omega,ap,bq⟩
    case measure=>simp[intOf];omega
   ·have aS: ¬(j:Int)<n:=Qa
    have aT:j=n:=Qa
    subst aT;have bk:=G (show gN (xs.take j)=gN xs by rw[aI.out,bY]);rw[bk.out]at aW⊢;have aZ:=aK.out.cell;have av:=G (I.out.alloc' (.cells #[.slice B o F, .slice C d A] 78));have bt:=G (aq wr 78 #[.slice B o F, .slice C d A]);go_wp2_with (go_at_call 112;refine(qB P _ _ B C o d F A y w bt.out (bg.out.keep (.of_ext av.out) (λ_ a _=>a)) (be.out.keep (.of_ext av.out) (λ_ a _=>a)) Qa).mono ?_;rintro e aN ⟨⟨D,bA,rfl,aB⟩,aC⟩;have bo:=G (av.out.trans aC);have aH:=G aB;clear aC aB);generalize bR:(λb=>P b\/(wr.alloc (.cells #[.slice B o F, .slice C d A] 78)).heap.size<=b)=Q at*;have an:(y++w).length=o+d:=by have:=bm.out;have:=bl.out;simp;omega
    obtain⟨N,a2⟩: ∃N,o+d=N:=⟨_,rfl⟩
    rw[a2]at aH an⊢;have bN:=lQ y w;clear aZ
    go_loopw [3,27] (λad J aw=> ∃(i:Nat),J= .int .i64 (i:Int)/\i<=N/\ad= .int .i64 ((max (gN xs) (ig ((y++w).take i)):Nat):Int)/\Hid (au u aw)/\Hid (au aN aw)) (λ_ J _=>N-(intOf J).toNat)
    case atStart=>exact⟨0,rfl,aD _,by simp[ig],bo,G (aG _)⟩
    case round=>
     obtain⟨i,rfl,bL,rfl,aF,H⟩:=hrel;have aX:=y6 (y++w) i;by_cases hlt2:i<N
     ·have aR:(i:Int)<N:=Qa
      have ag:i<(y++w).length:=Qa
      obtain⟨b,aO,bz,v,bx,rfl,a,a1,ab,Z,X,V,R,al,aj,ai⟩:=aH.out.at_ i ag;have ar:=G (y7 ag);have ae:=aQ _ (ay ag);generalize (y++w)[i]=z at*;have e0:=(H.out.cell b _ a).trans ab;have a6:=(H.out.cell b _ a).trans Z;have a5:=(H.out.cell b _ a).trans X;have a4:=(H.out.cell b _ a).trans V;have a3:=(H.out.cell b _ a).trans R;obtain⟨bw,a9,rfl,_⟩:=al.form;obtain⟨bv,a8,rfl,_⟩:=aj.form;obtain⟨bu,a7,rfl,_⟩:=ai.form;have bf:=G (al.keep (.of_ext H.out) (Q:=Q) (λb a _=>a));have bd:=G (aj.keep (.of_ext H.out) (Q:=Q) (λb a _=>a));have bc:=G (ai.keep (.of_ext H.out) (Q:=Q) (λb a _=>a));have aV:=z.dep_le;have bM:=ae.2;clear ab Z X V R al aj ai;go_wp2_with (go_at_call 60;refine(bn.out z ae.1 ae.2 Q _ bw bv bu _ a9 _ a8 _ a7 (bf.out.keep (.of_ext (aa _ _)) (λb a _=>a)) (bd.out.keep (.of_ext (aa _ _)) (λb a _=>a)) (bc.out.keep (.of_ext (aa _ _)) (λb a _=>a))).mono ?_;rintro e aL ⟨rfl,K⟩;have ap:=G ((aF.out.alloc' _).trans K);have bb:=G ((H.out.alloc' _).trans K);clear K);go_roundw
      case rel=>exact⟨i+1,by go_num,by omega,by rw[ar.out];congr 1;omega,ap,bb⟩
      case measure=>simp[intOf];omega
     ·have aR: ¬(i:Int)<N:=Qa
      have aU:i=N:=Qa
      subst aU;have bj:=G (show ig ((y++w).take i)=max (ig y) (ig w) by rw[<-an,bY,lQ]);rw[bj.out]at aX⊢;obtain⟨ac,aY⟩: ∃ac,max (gN xs) (max (ig y) (ig w))=ac:=⟨_,rfl⟩
      rw[aY]at aJ⊢;have bC:IntKind.i64.wrap ((ac:Int)+1)=ac+1:=Qc
      clear an;go_wp2_with fail;go_ret;exact⟨by rw[aJ.out];rfl,aF.out⟩
end
end Go.Proofs.YtoedmpgicdekmaaGreatDoor
