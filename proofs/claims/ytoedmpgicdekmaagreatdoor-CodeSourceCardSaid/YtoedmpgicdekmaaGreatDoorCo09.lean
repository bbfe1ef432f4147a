/- Parts of the proof. -/
import Derived.Test.YtoedmpgicdekmaaGreatDoorCo07
import Derived.Test.YtoedmpgicdekmaaGreatDoorCo08
set_option maxRecDepth 100000
set_option maxHeartbeats 8000000
set_option linter.all false
namespace Go.Proofs.YtoedmpgicdekmaaGreatDoor
open IntKind(i64)
open Go.Proofs.Tryz
section
open Go.RowKit
mutual
def Ex.wt:Ex->Nat| .mk _ op nm tx _ a=>1+op.length+nm.length+tx.length+dU a
def dU:List Ex->Nat| []=>0|x::r=>x.wt+dU r
end
mutual
def St.wt:St->Nat| .mk _ nm e b l=>1+nm.length+dU e+eX b+eX l
def eX:List St->Nat| []=>0|x::r=>x.wt+eX r
end
theorem Ex.wt_eq (x:Ex):x.wt=1+x.op.length+x.nm.length+x.tx.length+dU x.args:=by cases x;rfl
theorem St.wt_eq (x:St):x.wt=1+x.nm.length+dU x.ex+eX x.body+eX x.els:=by cases x;rfl
theorem sK: ∀a b,dU (a++b)=dU a+dU b
 | [],b=>by simp[dU]
 |x::r,b=>by simp[dU,sK r b];omega
theorem xU: ∀a b,eX (a++b)=eX a+eX b
 | [],b=>by simp[eX]
 |x::r,b=>by simp[eX,xU r b];omega
theorem eE {x:Ex}: ∀{l:List Ex},x∈l->x.wt<=dU l
 |y::r,h=>by
  rcases List.mem_cons.1 h with rfl|h
  ·simp[dU]
  ·have:=eE h;simp[dU];omega
theorem cM {x:St}: ∀{l:List St},x∈l->x.wt<=eX l
 |y::r,h=>by
  rcases List.mem_cons.1 h with rfl|h
  ·simp[eX]
  ·have:=cM h;simp[eX];omega
theorem d7: ∀l,l.length<=dU l
 | []=>ah _
 |x::r=>by have:=d7 r;have:=x.wt_eq;simp[dU];omega
theorem fx: ∀l,l.length<=eX l
 | []=>ah _
 |x::r=>by have:=fx r;have:=x.wt_eq;simp[eX];omega
mutual
def Ex.dep:Ex->Nat| .mk _ _ _ _ _ a=>ie a+1
def ie:List Ex->Nat| []=>0|x::r=>max x.dep (ie r)
end
mutual
def St.dep:St->Nat| .mk _ _ e b l=>max (ie e) (max (iF b) (iF l))+1
def iF:List St->Nat| []=>0|x::r=>max x.dep (iF r)
end
theorem Ex.dep_eq (x:Ex):x.dep=ie x.args+1:=by cases x;rfl
theorem St.dep_eq (x:St):x.dep=max (ie x.ex) (max (iF x.body) (iF x.els))+1:=by cases x;rfl
theorem oJ: ∀a b,ie (a++b)=max (ie a) (ie b)
 | [],b=>by simp[ie]
 |x::r,b=>by simp[ie,oJ r b,Nat.max_assoc]
theorem me: ∀a b,iF (a++b)=max (iF a) (iF b)
 | [],b=>by simp[iF]
 |x::r,b=>by simp[iF,me r b,Nat.max_assoc]
mutual
theorem Ex.dep_le: ∀x:Ex,x.dep<=x.wt
 | .mk _ _ _ _ _ a=>by have:=oI a;simp only[Ex.dep,Ex.wt];omega
theorem oI: ∀l:List Ex,ie l<=dU l
 | []=>ah _
 |x::r=>by have:=x.dep_le;have:=oI r;simp only[ie,dU];omega
end
mutual
theorem St.dep_le: ∀x:St,x.dep<=x.wt
 | .mk _ _ e b l=>by have:=oI e;have:=oH b;have:=oH l;simp only[St.dep,St.wt];omega
theorem oH: ∀l:List St,iF l<=eX l
 | []=>ah _
 |x::r=>by have:=x.dep_le;have:=oH r;simp only[iF,eX];omega
end
def tz (l:List UInt8):Bool:=l.all DA&&decide (l.length<=128)
mutual
def Ex.ok:Ex->Bool
 | .mk k op nm tx v a=>
  (if k=1 then(decide (0<=v)&&decide (v<=2147483647))&&(op==[]&&nm==[]&&tx==[])&&a.length==0
  else if k=2 then tz tx&&(op==[]&&nm==[]&&v==0)&&a.length==0
  else if k=3 then eD nm&&(op==[]&&tx==[]&&v==0)&&a.length==0
  else if k=4 then eD nm&&(op==[]&&tx==[]&&v==0)&&a.length==1
  else if k=5 then(eD nm&&decide (a.length<=4))&&(op==[]&&tx==[]&&v==0)
  else if k=6 then(op==[45]||op==[33])&&(nm==[]&&tx==[]&&v==0)&&a.length==1
  else if k=7 then decide (0<mX op)&&(nm==[]&&tx==[]&&v==0)&&a.length==2
  else false)&&r7 a
def r7:List Ex->Bool| []=>true|x::r=>x.ok&&r7 r
end
theorem tC: ∀l,r7 l=l.all Ex.ok
 | []=>rfl
 |x::r=>by simp[r7,tC r]
mutual
def St.ok:St->Bool
 | .mk k nm e b l=>
  (if k=1 then eD nm&&decide (e.length<=1)&&b.length==0&&l.length==0
  else if k=2 then eD nm&&e.length==1&&b.length==0&&l.length==0
  else if k=3 then eD nm&&e.length==2&&b.length==0&&l.length==0
  else if k=4 then nm==[]&&e.length==1
  else if k=5 then nm==[]&&e.length==1&&l.length==0
  else if k=6 then nm==[]&&decide (e.length<=1)&&b.length==0&&l.length==0
  else if k=7 then nm==[]&&e.length==1&&(e.head?.map Ex.k==some 5)&&b.length==0&&l.length==0
  else false)&&r7 e&&(pM b&&pM l)
def pM:List St->Bool| []=>true|x::r=>x.ok&&pM r
end
theorem kY: ∀l,pM l=l.all St.ok
 | []=>rfl
 |x::r=>by simp[pM,kY r]
end
section
open Go.RowKit
theorem sw {l:List Ex} {j:Nat} (a:j<l.length):ie (l.take (j+1))=max (ie (l.take j)) l[j].dep:=by
 rw[aT a,oJ];simp[ie]
theorem yq: ∀(m:Nat) (x:Ex),x.wt<=m->x.wt<=1073741824-> ∀(P:Nat->Prop) (u:World) (z:Option Addr) (n c:Nat),dS u P (.slice z n c) x.args->
  Calls prog 111 #[.agg #[.int i64 x.k,.string (Z x.op),.string (Z x.nm),.string (Z x.tx),.int i64 x.v,.slice z n c]] u λe w'=>e=.returned (.int i64 (x.dep:Int))/\au u w'
 |0,x,hm,_,_,_,_,_,_,_=>absurd hm (by have:=x.wt_eq;omega)
 |m+1,x,hm,hx,P,u,z,n,c,hR=>by
  have aF:=G (x.dep_eq);have aK:=x.wt_eq;have ao: ∀o,o∈x.args->o.wt<=m:=λo ai=>by have:=eE ai;omega
  have aO:=oI x.args;have aL:=d7 x.args;have aC:=G (yq m);obtain⟨k,op,nm,tx,v,xs⟩:=x;simp only[Ex.k,Ex.op,Ex.nm,Ex.tx,Ex.v,Ex.args]at*;obtain⟨aW,c',an,ar⟩:=hR.form;injection an with am al aj;subst am al aj;have af:=G hR;obtain⟨N,y⟩: ∃N,xs.length=N:=⟨_,rfl⟩
  rw[y]at af;have aE:=G (aa u (.cells #[.int i64 k,.string (Z op),.string (Z nm),.string (Z tx),.int i64 v,.slice z N c] 206));clear hR ar;rw[y];go_enter func111,ntmps111;go_wp2_with fail
  go_loopw [3,9] (λag A wr=> ∃(j:Nat),A=.int i64 (j:Int)/\j<=N/\ag=.int i64 (ie (xs.take j):Int)/\Hid (au u wr)) (λ_ A _=>N-(intOf A).toNat)
  case atStart=>exact⟨0,rfl,aD _,by simp[ie],aE⟩
  case round=>
   obtain⟨j,rfl,aM,rfl,d⟩:=hrel;have av:ie (xs.take j)<=1073741824:=by
    have:=oJ (xs.take j) (xs.drop j);rw[df]at this;omega
   by_cases hlt:j<N
   ·have ap:(j:Int)<N:=J
    have w:j<xs.length:=J
    obtain⟨b,aH,aV,rfl,a,aP,ae,ad,H,I,X,V,F⟩:=af.out.at_ j w;have az:=G (sw w);have aI:=eE (ax w);have ah:=ao _ (ax w);generalize xs[j]=o at*;have e0:=(d.out.cell b _ a).trans ae;have aU:=(d.out.cell b _ a).trans ad;have aT:=(d.out.cell b _ a).trans H;have aS:=(d.out.cell b _ a).trans I;have aR:=(d.out.cell b _ a).trans X;have aQ:=(d.out.cell b _ a).trans V;obtain⟨B,aw,rfl,_⟩:=F.form;have aA:=G (F.keep (.of_ext d.out) (Q:=P) (λb a _=>a));have aN:=o.dep_le;clear ae ad H I X V F;go_wp2_with (go_at_call 111;refine(aC.out o ah J P _ B _ aw (aA.out.keep (.of_ext (aa _ _)) (λb a _=>a))).mono ?_;rintro e aG ⟨rfl,R⟩;have ay:=G ((d.out.alloc' _).trans R);clear R);go_roundw
    case rel=>exact⟨j+1,by go_num,by omega,by rw[az.out];congr 1;omega,ay⟩
    case measure=>simp[intOf];omega
   ·have ap: ¬(j:Int)<N:=J
    have aq:j=N:=J
    subst aq;have aB:=G (show ie (xs.take j)=ie xs by rw[<-y,b6]);rw[aB.out]at av⊢;have aJ:IntKind.i64.wrap ((ie xs:Int)+1)=ie xs+1:=Qc
    clear y;go_wp2_with fail;go_ret;exact⟨by rw[aF.out];rfl,d.out⟩
theorem i7 {a:Type} (p:a->Bool) {l:List a} {j:Nat} (d:j<l.length):(l.take (j+1)).any p=((l.take j).any p||p l[j]):=by
 rw[aT d,List.any_append,iY,List.any_nil,mU]
theorem oP {a:Type} (p:a->Bool) {l:List a} {j:Nat} (h:j<l.length) (d:p l[j]=true):l.any p=true:=by
 rw[List.any_eq_true];exact⟨l[j],ax h,d⟩
theorem rA.len {a:World} {P:Nat->Prop} {o:Option Addr} {n c:Nat} {ls:List (List UInt8)} (h:rA a P (.slice o n c) ls):n=ls.length:=by
 obtain⟨z,c',d,_⟩:=h;injection d with y w u
theorem dS.len {a:World} {P:Nat->Prop} {o:Option Addr} {n c:Nat} {ls:List Ex} (h:dS a P (.slice o n c) ls):n=ls.length:=by
 obtain⟨z,c',d,_⟩:=h.form;injection d with y w u
theorem eq.len {a:World} {P:Nat->Prop} {o:Option Addr} {n c:Nat} {ls:List St} (h:eq a P (.slice o n c) ls):n=ls.length:=by
 obtain⟨z,c',d,_⟩:=h.form;injection d with y w u
theorem Gv {h:World} {P:Nat->Prop} {o:Option Addr} {n c:Nat} {ls:List (List UInt8)} (a:rA h P (.slice o n c) ls) (i:Nat) (hi:i<ls.length):
  ∃b d,o=some ⟨b,d,none⟩/\b<h.heap.size/\h.cell? ⟨b,d+i,none⟩=some (.string (Z ls[i])):=by
 obtain⟨G,c',u,a⟩:=a;injection u with z F A;rcases a with a|a
 ·subst a;simp at hi
 ·obtain⟨_,_,b,d,ha,_,y,w⟩:=a;exact⟨b,d,by rw[z];exact ha,y,w i hi⟩
theorem Cj (p:Ex->Bool) (xs:List (Ex)) (P:Nat->Prop) (u:World) (al:Option Addr) (n c:Nat) (X:dS u P (.slice al n c) xs) (aF:xs.length<=1073741824)
  (H: ∀a,a∈xs-> ∀(w':World) (B:Option Addr) (A:Nat),dS w' P (.slice B a.args.length A) a.args->Calls prog 168 #[.agg #[.int i64 a.k,.string (Z a.op),.string (Z a.nm),.string (Z a.tx),.int i64 a.v,.slice B a.args.length A]] w' λe an=>e=.returned (.bool (p a))/\au w' an):
  Calls prog 165 #[.slice al n c,.func (Fn.func 168) #[] #[]] u λe w'=>(∃r:Int,e=.returned (.int i64 r)/\decide (0<=r)=xs.any p)/\au u w':=by
 have ao:=X.len;obtain⟨N,ar⟩: ∃N,xs.length=N:=⟨_,rfl⟩
 obtain rfl:n=N:=J
 have az:=G X;have aB:=G H;have aC:=G (aI u);clear X H ao;go_enter func165,ntmps165;go_wp2_with fail
 go_loopw [8] (λR wr=> ∃(j:Nat),R=.int i64 (j:Int)/\j<=n/\Hid ((xs.take j).any p=false)/\Hid (au u wr)) (λR _=>n-(intOf R).toNat)
 case atStart=>exact⟨0,rfl,aD _,G Qe,aC⟩
 case round=>
  obtain⟨j,rfl,aG,aj,d⟩:=hrel;by_cases hlt:j<n
  ·have ap:(j:Int)<n:=J
   have z:j<xs.length:=J
   obtain⟨b,aE,aO,rfl,o,aH,ai,ah,ag,af,ae,ad,V⟩:=az.out.at_ j z;have aw:=G (i7 p z);have aA:=G (λav=>oP p z av);have I:=aB.out _ (ax z);generalize xs[j]=a at*;have e0:=(d.out.cell b _ o).trans ai;have aN:=(d.out.cell b _ o).trans ah;have aM:=(d.out.cell b _ o).trans ag;have aL:=(d.out.cell b _ o).trans af;have aK:=(d.out.cell b _ o).trans ae;have aJ:=(d.out.cell b _ o).trans ad;obtain⟨B,A,rfl,_⟩:=V.form;have ay:=G (V.keep (.of_ext d.out) (Q:=P) (λb o _=>o));clear V;have F:=G (I wr B A ay.out);clear ai ah ag af ae ad;clear I
   cases hp:p a with
   |true=>
    rw[hp]at F;have y:=G (aA.out hp);clear hp;go_wp2_with (refine F.out.mono ?_;rintro e am ⟨rfl,w⟩;have aa:=G (d.out.trans w);clear w);go_ret;exact⟨⟨j,rfl,by rw[y.out];simp⟩,aa.out⟩
   |false=>
    rw[hp]at F;have y:=G (show(xs.take (j+1)).any p=false by rw[aw.out,aj.out,hp];rfl);clear hp;go_wp2_with (refine F.out.mono ?_;rintro e am ⟨rfl,w⟩;have aa:=G (d.out.trans w);clear w);go_roundw
    case rel=>exact⟨j+1,by go_num,by omega,y,aa⟩
    case measure=>simp[intOf];omega
  ·have ap: ¬(j:Int)<n:=J
   have aq:j=n:=J
   subst aq;have y:=G (show xs.any p=false by have:=aj.out;rwa [<-ar,b6]at this);go_wp2_with fail;go_ret;exact⟨⟨-1,rfl,by rw[y.out];rfl⟩,d.out⟩
theorem C5 (p:Ex->Bool) (xs:List (Ex)) (P:Nat->Prop) (d:World) (o:Option Addr) (n c:Nat) (y:dS d P (.slice o n c) xs) (R:xs.length<=1073741824)
  (w: ∀a,a∈xs-> ∀(w':World) (B:Option Addr) (A:Nat),dS w' P (.slice B a.args.length A) a.args->Calls prog 168 #[.agg #[.int i64 a.k,.string (Z a.op),.string (Z a.nm),.string (Z a.tx),.int i64 a.v,.slice B a.args.length A]] w' λe F=>e=.returned (.bool (p a))/\au w' F):
  Calls prog 113 #[.slice o n c,.func (Fn.func 168) #[] #[]] d λe w'=>e=.returned (.bool (xs.any p))/\au d w':=by
 have aa:=G (Cj p xs P d o n c y R w);clear y w;go_enter func113,ntmps113;go_wp2_with (refine aa.out.mono ?_;rintro e I ⟨⟨r,rfl,u⟩,z⟩;have X:=G u;have V:=G z;clear z u);go_ret;exact⟨by rw[<-X.out];rfl,V.out⟩
theorem zG (p:Ex->Bool) (xs:List (Ex)) (P:Nat->Prop) (u:World) (al:Option Addr) (n c:Nat) (X:dS u P (.slice al n c) xs) (aF:xs.length<=1073741824)
  (H: ∀a,a∈xs-> ∀(w':World) (B:Option Addr) (A:Nat),dS w' P (.slice B a.args.length A) a.args->Calls prog 114 #[.agg #[.int i64 a.k,.string (Z a.op),.string (Z a.nm),.string (Z a.tx),.int i64 a.v,.slice B a.args.length A]] w' λe an=>e=.returned (.bool (p a))/\au w' an):
  Calls prog 165 #[.slice al n c,.func (Fn.func 114) #[] #[]] u λe w'=>(∃r:Int,e=.returned (.int i64 r)/\decide (0<=r)=xs.any p)/\au u w':=by
 have ao:=X.len;obtain⟨N,ar⟩: ∃N,xs.length=N:=⟨_,rfl⟩
 obtain rfl:n=N:=J
 have az:=G X;have aB:=G H;have aC:=G (aI u);clear X H ao;go_enter func165,ntmps165;go_wp2_with fail
 go_loopw [8] (λR wr=> ∃(j:Nat),R=.int i64 (j:Int)/\j<=n/\Hid ((xs.take j).any p=false)/\Hid (au u wr)) (λR _=>n-(intOf R).toNat)
 case atStart=>exact⟨0,rfl,aD _,G Qe,aC⟩
 case round=>
  obtain⟨j,rfl,aG,aj,d⟩:=hrel;by_cases hlt:j<n
  ·have ap:(j:Int)<n:=J
   have z:j<xs.length:=J
   obtain⟨b,aE,aO,rfl,o,aH,ai,ah,ag,af,ae,ad,V⟩:=az.out.at_ j z;have aw:=G (i7 p z);have aA:=G (λav=>oP p z av);have I:=aB.out _ (ax z);generalize xs[j]=a at*;have e0:=(d.out.cell b _ o).trans ai;have aN:=(d.out.cell b _ o).trans ah;have aM:=(d.out.cell b _ o).trans ag;have aL:=(d.out.cell b _ o).trans af;have aK:=(d.out.cell b _ o).trans ae;have aJ:=(d.out.cell b _ o).trans ad;obtain⟨B,A,rfl,_⟩:=V.form;have ay:=G (V.keep (.of_ext d.out) (Q:=P) (λb o _=>o));clear V;have F:=G (I wr B A ay.out);clear ai ah ag af ae ad;clear I
   cases hp:p a with
   |true=>
    rw[hp]at F;have y:=G (aA.out hp);clear hp;go_wp2_with (refine F.out.mono ?_;rintro e am ⟨rfl,w⟩;have aa:=G (d.out.trans w);clear w);go_ret;exact⟨⟨j,rfl,by rw[y.out];simp⟩,aa.out⟩
   |false=>
    rw[hp]at F;have y:=G (show(xs.take (j+1)).any p=false by rw[aw.out,aj.out,hp];rfl);clear hp;go_wp2_with (refine F.out.mono ?_;rintro e am ⟨rfl,w⟩;have aa:=G (d.out.trans w);clear w);go_roundw
    case rel=>exact⟨j+1,by go_num,by omega,y,aa⟩
    case measure=>simp[intOf];omega
  ·have ap: ¬(j:Int)<n:=J
   have aq:j=n:=J
   subst aq;have y:=G (show xs.any p=false by have:=aj.out;rwa [<-ar,b6]at this);go_wp2_with fail;go_ret;exact⟨⟨-1,rfl,by rw[y.out];rfl⟩,d.out⟩
theorem zZ (p:Ex->Bool) (xs:List (Ex)) (P:Nat->Prop) (d:World) (o:Option Addr) (n c:Nat) (y:dS d P (.slice o n c) xs) (R:xs.length<=1073741824)
  (w: ∀a,a∈xs-> ∀(w':World) (B:Option Addr) (A:Nat),dS w' P (.slice B a.args.length A) a.args->Calls prog 114 #[.agg #[.int i64 a.k,.string (Z a.op),.string (Z a.nm),.string (Z a.tx),.int i64 a.v,.slice B a.args.length A]] w' λe F=>e=.returned (.bool (p a))/\au w' F):
  Calls prog 113 #[.slice o n c,.func (Fn.func 114) #[] #[]] d λe w'=>e=.returned (.bool (xs.any p))/\au d w':=by
 have aa:=G (zG p xs P d o n c y R w);clear y w;go_enter func113,ntmps113;go_wp2_with (refine aa.out.mono ?_;rintro e I ⟨⟨r,rfl,u⟩,z⟩;have X:=G u;have V:=G z;clear z u);go_ret;exact⟨by rw[<-X.out];rfl,V.out⟩
theorem Ch (p:St->Bool) (xs:List (St)) (P:Nat->Prop) (u:World) (aq:Option Addr) (n c:Nat) (af:eq u P (.slice aq n c) xs) (aN:xs.length<=1073741824)
  (ai: ∀a,a∈xs-> ∀(w':World) (B aa X:Option Addr) (R F A:Nat),(dS w' P (.slice B a.ex.length R) a.ex/\eq w' P (.slice aa a.body.length F) a.body/\eq w' P (.slice X a.els.length A) a.els)->Calls prog 117 #[.agg #[.int i64 a.k,.string (Z a.nm),.slice B a.ex.length R,.slice aa a.body.length F,.slice X a.els.length A]] w' λe av=>e=.returned (.bool (p a))/\au w' av):
  Calls prog 169 #[.slice aq n c,.func (Fn.func 117) #[] #[]] u λe w'=>(∃r:Int,e=.returned (.int i64 r)/\decide (0<=r)=xs.any p)/\au u w':=by
 have aw:=af.len;obtain⟨N,aA⟩: ∃N,xs.length=N:=⟨_,rfl⟩
 obtain rfl:n=N:=J
 have aF:=G af;have aH:=G ai;have aJ:=G (aI u);clear af ai aw;go_enter func169,ntmps169;go_wp2_with fail
 go_loopw [8] (λI wr=> ∃(j:Nat),I=.int i64 (j:Int)/\j<=n/\Hid ((xs.take j).any p=false)/\Hid (au u wr)) (λI _=>n-(intOf I).toNat)
 case atStart=>exact⟨0,rfl,aD _,G Qe,aJ⟩
 case round=>
  obtain⟨j,rfl,aO,ap,o⟩:=hrel;by_cases hlt:j<n
  ·have ay:(j:Int)<n:=J
   have z:j<xs.length:=J
   obtain⟨b,aM,aL,v,aK,rfl,d,aP,ao,an,am,al,aj,ae,ad,H⟩:=aF.out.at_ j z;have aC:=G (i7 p z);have aG:=G (λaB=>oP p z aB);have ah:=aH.out _ (ax z);generalize xs[j]=a at*;have e0:=(o.out.cell b _ d).trans ao;have aT:=(o.out.cell b _ d).trans an;have aS:=(o.out.cell b _ d).trans am;have aR:=(o.out.cell b _ d).trans al;have aQ:=(o.out.cell b _ d).trans aj;obtain⟨B,R,rfl,_⟩:=ae.form;obtain⟨aa,F,rfl,_⟩:=ad.form;obtain⟨X,A,rfl,_⟩:=H.form;have aE:=G (show dS wr P _ _/\eq wr P _ _/\eq wr P _ _ from⟨ae.keep (.of_ext o.out) (λb d _=>d),ad.keep (.of_ext o.out) (λb d _=>d),H.keep (.of_ext o.out) (λb d _=>d)⟩);clear ae ad H;have V:=G (ah wr B aa X R F A aE.out);clear ao an am al aj;clear ah
   cases hp:p a with
   |true=>
    rw[hp]at V;have y:=G (aG.out hp);clear hp;go_wp2_with (refine V.out.mono ?_;rintro e ar ⟨rfl,w⟩;have ag:=G (o.out.trans w);clear w);go_ret;exact⟨⟨j,rfl,by rw[y.out];simp⟩,ag.out⟩
   |false=>
    rw[hp]at V;have y:=G (show(xs.take (j+1)).any p=false by rw[aC.out,ap.out,hp];rfl);clear hp;go_wp2_with (refine V.out.mono ?_;rintro e ar ⟨rfl,w⟩;have ag:=G (o.out.trans w);clear w);go_roundw
    case rel=>exact⟨j+1,by go_num,by omega,y,ag⟩
    case measure=>simp[intOf];omega
  ·have ay: ¬(j:Int)<n:=J
   have az:j=n:=J
   subst az;have y:=G (show xs.any p=false by have:=ap.out;rwa [<-aA,b6]at this);go_wp2_with fail;go_ret;exact⟨⟨-1,rfl,by rw[y.out];rfl⟩,o.out⟩
theorem C1 (p:St->Bool) (xs:List (St)) (P:Nat->Prop) (d:World) (o:Option Addr) (n c:Nat) (y:eq d P (.slice o n c) xs) (I:xs.length<=1073741824)
  (w: ∀a,a∈xs-> ∀(w':World) (B X V:Option Addr) (R F A:Nat),(dS w' P (.slice B a.ex.length R) a.ex/\eq w' P (.slice X a.body.length F) a.body/\eq w' P (.slice V a.els.length A) a.els)->Calls prog 117 #[.agg #[.int i64 a.k,.string (Z a.nm),.slice B a.ex.length R,.slice X a.body.length F,.slice V a.els.length A]] w' λe aa=>e=.returned (.bool (p a))/\au w' aa):
  Calls prog 116 #[.slice o n c,.func (Fn.func 117) #[] #[]] d λe w'=>e=.returned (.bool (xs.any p))/\au d w':=by
 have ae:=G (Ch p xs P d o n c y I w);clear y w;go_enter func116,ntmps116;go_wp2_with (refine ae.out.mono ?_;rintro e af ⟨⟨r,rfl,u⟩,z⟩;have ad:=G u;have H:=G z;clear z u);go_ret;exact⟨by rw[<-ad.out];rfl,H.out⟩
theorem Ci (p:List UInt8->Bool) (xs:List (List UInt8)) (P:Nat->Prop) (d:World) (H:Option Addr) (n c:Nat) (F:rA d P (.slice H n c) xs) (av:xs.length<=1073741824)
  (X: ∀a,a∈xs-> ∀(w':World),True->Calls prog 59 #[.string (Z a)] w' λe ae=>e=.returned (.bool (p a))/\au w' ae):
  Calls prog 110 #[.slice H n c,.func (Fn.func 59) #[] #[]] d λe w'=>(∃r:Int,e=.returned (.int i64 r)/\decide (0<=r)=xs.any p)/\au d w':=by
 have af:=F.len;obtain⟨N,aj⟩: ∃N,xs.length=N:=⟨_,rfl⟩
 obtain rfl:n=N:=J
 have an:=G F;have ap:=G X;have aq:=G (aI d);clear F X af;go_enter func110,ntmps110;go_wp2_with fail
 go_loopw [8] (λA wr=> ∃(j:Nat),A=.int i64 (j:Int)/\j<=n/\Hid ((xs.take j).any p=false)/\Hid (au d wr)) (λA _=>n-(intOf A).toNat)
 case atStart=>exact⟨0,rfl,aD _,G Qe,aq⟩
 case round=>
  obtain⟨j,rfl,aw,I,z⟩:=hrel;by_cases hlt:j<n
  ·have ag:(j:Int)<n:=J
   have w:j<xs.length:=J
   obtain⟨b,ar,rfl,ai,aa⟩:=Gv an.out j w;have am:=G (i7 p w);have ao:=G (λal=>oP p w al);have V:=ap.out _ (ax w);generalize xs[j]=a at*;have e0:=(z.out.cell b _ ai).trans aa
   skip
   have y:=G (V wr  trivial);clear aa;clear V
   cases hp:p a with
   |true=>
    rw[hp]at y;have u:=G (ao.out hp);clear hp;go_wp2_with (refine y.out.mono ?_;rintro e ad ⟨rfl,o⟩;have R:=G (z.out.trans o);clear o);go_ret;exact⟨⟨j,rfl,by rw[u.out];simp⟩,R.out⟩
   |false=>
    rw[hp]at y;have u:=G (show(xs.take (j+1)).any p=false by rw[am.out,I.out,hp];rfl);clear hp;go_wp2_with (refine y.out.mono ?_;rintro e ad ⟨rfl,o⟩;have R:=G (z.out.trans o);clear o);go_roundw
    case rel=>exact⟨j+1,by go_num,by omega,u,R⟩
    case measure=>simp[intOf];omega
  ·have ag: ¬(j:Int)<n:=J
   have ah:j=n:=J
   subst ah;have u:=G (show xs.any p=false by have:=I.out;rwa [<-aj,b6]at this);go_wp2_with fail;go_ret;exact⟨⟨-1,rfl,by rw[u.out];rfl⟩,z.out⟩
theorem C4 (p:List UInt8->Bool) (xs:List (List UInt8)) (P:Nat->Prop) (a:World) (o:Option Addr) (n c:Nat) (y:rA a P (.slice o n c) xs) (F:xs.length<=1073741824)
  (w: ∀d,d∈xs-> ∀(w':World),True->Calls prog 59 #[.string (Z d)] w' λe A=>e=.returned (.bool (p d))/\au w' A):
  Calls prog 58 #[.slice o n c,.func (Fn.func 59) #[] #[]] a λe w'=>e=.returned (.bool (xs.any p))/\au a w':=by
 have X:=G (Ci p xs P a o n c y F w);clear y w;go_enter func58,ntmps58;go_wp2_with (refine X.out.mono ?_;rintro e aa ⟨⟨r,rfl,u⟩,z⟩;have V:=G u;have R:=G z;clear z u);go_ret;exact⟨by rw[<-V.out];rfl,R.out⟩
theorem Ek (c:UInt8):DA c=(decide (32<=(c.toNat:Int))&&decide ((c.toNat:Int)<=126)||(c.toNat:Int)==10||(c.toNat:Int)==9||(c.toNat:Int)==0):=by
 have d:=eG c 10 J;have a:=eG c 9 J;have h:=eG c 0 J;have u:(((10:Nat):Int))=10:=rfl;have o:(((9:Nat):Int))=9:=rfl;have e0:(((0:Nat):Int))=0:=rfl;rw[u]at d;rw[o]at a;rw[e0]at h;rw[d,a,h];unfold DA
 congr 3
 rw[jm];simp only[decide_eq_true_eq,am];omega
theorem Eh {l:List UInt8} {j:Nat} (d:j<l.length) (a:DA l[j]=false):tz l=false:=by
 unfold tz;rw[yE DA d a];rfl
theorem zo (l:List UInt8) (ao:l.length<=1073741824) (w:World):Calls prog 166 #[.string (Z l)] w λe w'=>e=.returned (.bool (tz l))/\au w w':=by
 have am:(Z l).size=l.length:=aZ l;have aj:=G (aI w);go_enter func166,ntmps166;go_wp2_with fail
 go_loopw [7] (λz wr=> ∃j:Nat,z=.int i64 (j:Int)/\j<=l.length/\Hid ((l.take j).all DA=true)/\Hid (au w wr)) (λz _=>l.length-(intOf z).toNat)
 case atStart=>exact⟨0,rfl,aD _,G Qe,aj⟩
 case round=>
  obtain⟨j,rfl,ap,y,o⟩:=hrel;by_cases hlt:j<l.length
  ·have aa:j<(Z l).size:=by rw[aZ];exact hlt
   have aq:=nV l j aa;have X:(j:Int)<l.length:=J
   have R:=G (m_ DA hlt);have al:=G (λF=>Eh hlt F);generalize l[j]'hlt=c at*;have a:=G (Ek c);have ar:(c.toNat:Int)<256:=by have:=c.toNat_lt;omega
   have d:=G (fun(F:DA c=true)=>show(l.take (j+1)).all DA=true by rw[R.out,y.out,F];rfl);clear R y;by_cases h32:32<=(c.toNat:Int)/\(c.toNat:Int)<=126
   ·obtain⟨ah,ag⟩:=h32;have u:=G (d.out (by rw[a.out,decide_eq_true ah,decide_eq_true ag];rfl));clear d a;go_wp2_with fail;go_roundw
    case rel=>exact⟨j+1,by go_num,by omega,u,o⟩
    case measure=>simp[intOf];omega
   ·cases h10:((c.toNat:Int)==10)with
    |true=>
     have u:=G (d.out (by rw[a.out,h10];simp));have ae:((c.toNat:Int) !=10)=false:=by rw[bne,h10];rfl
     have A:(c.toNat:Int)<32:=by rw[beq_iff_eq]at h10;omega
     clear d a h32;go_wp2_with fail;go_roundw
     case rel=>exact⟨j+1,by go_num,by omega,u,o⟩
     case measure=>simp[intOf];omega
    |false=>
     have ae:((c.toNat:Int) !=10)=true:=by rw[bne,h10];rfl
     cases h9:((c.toNat:Int)==9)with
     |true=>
      have u:=G (d.out (by rw[a.out,h9];simp));have H:((c.toNat:Int) !=9)=false:=by rw[bne,h9];rfl
      have A:(c.toNat:Int)<32:=by rw[beq_iff_eq]at h9;omega
      clear d a h32;go_wp2_with fail;go_roundw
      case rel=>exact⟨j+1,by go_num,by omega,u,o⟩
      case measure=>simp[intOf];omega
     |false=>
      have H:((c.toNat:Int) !=9)=true:=by rw[bne,h9];rfl
      cases h0:((c.toNat:Int)==0)with
      |true=>
       have u:=G (d.out (by rw[a.out,h0];simp));have af:((c.toNat:Int) !=0)=false:=by rw[bne,h0];rfl
       have A:(c.toNat:Int)<32:=by rw[beq_iff_eq]at h0;omega
       clear d a h32;go_wp2_with fail;go_roundw
       case rel=>exact⟨j+1,by go_num,by omega,u,o⟩
       case measure=>simp[intOf];omega
      |false=>
       have af:((c.toNat:Int) !=0)=true:=by rw[bne,h0];rfl
       have V:=G (al.out (by rw[a.out,h10,h9,h0,<-Bool.decide_and,decide_eq_false h32];rfl));clear d a;by_cases A:(c.toNat:Int)<32
       ·clear h32;go_wp2_with fail;go_ret;exact⟨by rw[V.out];rfl,o.out⟩
       ·have an:126<(c.toNat:Int):=J
        clear h32;go_wp2_with fail;go_ret;exact⟨by rw[V.out];rfl,o.out⟩
  ·have X: ¬(j:Int)<l.length:=J
   have I:j=l.length:=J
   subst I;have ai:=G (show l.all DA=true by have:=y.out;rwa [b6]at this);clear y;by_cases h128:l.length<=128
   ·have ad:(l.length:Int)<=128:=J
    go_wp2_with fail;go_ret;exact⟨by unfold tz;rw[ai.out,decide_eq_true h128];rfl,o.out⟩
   ·have ad: ¬(l.length:Int)<=128:=J
    go_wp2_with fail;go_ret;exact⟨by unfold tz;rw[decide_eq_false h128,lQ];rfl,o.out⟩
def Ex.prec (x:Ex):Int:=if x.k=7 then mX x.op else if x.k=6 then 7 else 8
theorem oh (x:Ex) (a:World) (w:Value) (y: ∃u n c,w=.slice u n c):Calls prog 257 #[.agg #[.int i64 x.k,.string (Z x.op),.string (Z x.nm),.string (Z x.tx),.int i64 x.v,w]] a λe w'=>e=.returned (.int i64 x.prec)/\au a w':=by
 obtain⟨u,n,c,rfl⟩:=y;have o:=G (aa a (.cells #[.int i64 x.k,.string (Z x.op),.string (Z x.nm),.string (Z x.tx),.int i64 x.v,.slice u n c] 206));have A:=G (λa=>mF x.op a);have d:=G (show x.prec=if x.k=7 then mX x.op else if x.k=6 then 7 else 8 from rfl);generalize x.k=k at*;by_cases h7:k=7
 ·subst h7;go_enter func257,ntmps257;go_wp2_with (refine(A.out _).mono ?_;rintro e w' ⟨rfl,rfl⟩);go_ret;exact⟨by rw[d.out];rfl,o.out⟩
 ·by_cases h6:k=6
  ·subst h6;go_enter func257,ntmps257;go_wp2_with fail;go_ret;exact⟨by rw[d.out];rfl,o.out⟩
  ·have F:(k==7)=false:=Qn.2 h7;have R:(k==6)=false:=Qn.2 h6;have z:=G (show x.prec=8 by rw[d.out,if_neg h7,if_neg h6]);clear d;go_enter func257,ntmps257;go_wp2_with fail;go_ret;exact⟨by rw[z.out];rfl,o.out⟩
def uf (w:World) (A:Option Addr) (n c:Nat) (r:Bool):Prop:= ∀w',au w w'->Calls prog 113 #[.slice A n c,.func (Fn.func 168) #[] #[]] w' λe w''=>e=.returned (.bool (!r))/\au w' w''
theorem aO.new2 (a:World) (h:Obj) (t:TypeId) (d:Array Value):aO ((a.alloc h).alloc (.cells d t)) (a.heap.size+1) t d:=by
 have:=aq (a.alloc h) t d;rwa [World.size_alloc]at this
def UW (p:Nat) (t:TypeId) (c0 c1:Array Value) (a b:World):Prop:=a.grownBy b (some p)/\(aO a p t c0->aO b p t c0\/aO b p t c1)/\(aO a p t c1->aO b p t c1)
theorem UW.refl (p:Nat) (t:TypeId) (d c1:Array Value) (a:World):UW p t d c1 a a:=⟨World.grownBy.refl a _,.inl,id⟩
theorem UW.trans (p:Nat) (t:TypeId) (d c1:Array Value) (h b c:World) (a:UW p t d c1 h b) (k:UW p t d c1 b c):UW p t d c1 h c:=⟨an a.1 k.1,λx=>(a.2.1 x).elim k.2.1 (λo=> .inr (k.2.2 o)),λx=>k.2.2 (a.2.2 x)⟩
theorem UW.of_ext {p:Nat} {t:TypeId} {h c1:Array Value} {d b:World} (a:au d b):UW p t h c1 d b:=⟨a.grownBy _,λx=> .inl (x.ext a),λx=>x.ext a⟩
theorem UW.store {p:Nat} {t:TypeId} {a c1:Array Value} {u b:World} (d:UW p t a c1 u b) (o:aO u p t a) (f:Nat) (v w:Value) (G:a.setIfInBounds f v=c1) (F:c1.setIfInBounds f v=c1) (A:a[f]? =some w) (z:c1[f]? =some v):
  (∃y,b.cell? ⟨p,f,none⟩=some y)/\b.frozen? ⟨p,f,none⟩=false/\UW p t a c1 u (b.setCell ⟨p,f,none⟩ v)/\aO (b.setCell ⟨p,f,none⟩ v) p t c1:=by
 have h:aO (b.setCell ⟨p,f,none⟩ v) p t c1:=by
  rcases d.2.1 o with k|k
  ·have:=k.set f v;rwa [G]at this
  ·have:=k.set f v;rwa [F]at this
 refine⟨?_,?_,⟨an d.1 (fK _ _ _ _),λ_=> .inr h,λ_=>h⟩,h⟩
 ·rcases d.2.1 o with k|k
  ·exact⟨w,(k.cell f).trans A⟩
  ·exact⟨v,(k.cell f).trans z⟩
 ·rcases d.2.1 o with k|k<;>exact k.frozen f
def tQ (k:Nat):Code->Code
 | .seq (.region i o d) b=>if i=k then .seq (.region i o d) b else tQ k b
 | .seq _ b=>tQ k b
 |c=>c
theorem ko (V X:Nat) (k v y w:Int) (op nm tx A F z:List UInt8) (ae:Option Addr) (n c:Nat) (b r:Bool) (R W:World) (u:au R W) (ad:aO W V 206 #[.int i64 k,.string (Z op),.string (Z nm),.string (Z tx),.int i64 v,.slice ae n c]) (aa:aO W X 206 #[.int i64 k,.string (Z A),.string (Z F),.string (Z z),.int i64 y,.slice none 0 0])
  (H:uf R ae n c r) (a:Bool) (I:(b&&(op==A&&nm==F&&tx==z&&v==y)&&decide ((n:Int)=w)&&r)=a) (u0 u2 u6 u7 u8 u9 u10 u11 u12 u13 u14 u15 u16 u17 u18 u19 u20 u21 u22 u23 u24 u25 u26 u27 u28 u29 u30 u31 u32 u33 u34 u35 u36 u37 u38 u39 u40 u41 u42 u43 u44 u45 u46 u47 u48 u49 u50 u51 u52 u53 u54 u55 u56 u57 u58 u59 u60 u61 u62 u63 u64 u65 u66 u67 u68 u69 u70 u71 u72 u73 u74 u75 u76 u77 u78 u79 u80 u81 u82 u83 u84 u85 u86 u87 u88 u89 u90 u91 u92 u93 u94 u95 u96 u97 u98 u99 u100 u101 u102 u103 u104 u105 u106 u107 u108 u109 u110 u111 u112 u113 u114 u115 u116 u117 u118 u119 u120 u121 u122 u123 u124 u125 u126 u127 u128 u129 u130:Value):
  Code.wp prog (tQ 18 (Tryz.f115.body.getD .skip)) (bodyPost prog Tryz.f115 λe w'=>e=.returned (.bool a)/\au R w') {tmps:= #[u0,.pointer (some ⟨V,0,none⟩),u2,.pointer (some ⟨X,0,none⟩),.bool b,.int i64 w,u6,u7,u8,u9,u10,u11,u12,u13,u14,u15,u16,u17,u18,u19,u20,u21,u22,u23,u24,u25,u26,u27,u28,u29,u30,u31,u32,u33,u34,u35,u36,u37,u38,u39,u40,u41,u42,u43,u44,u45,u46,u47,u48,u49,u50,u51,u52,u53,u54,u55,u56,u57,u58,u59,u60,u61,u62,u63,u64,u65,u66,u67,u68,u69,u70,u71,u72,u73,u74,u75,u76,u77,u78,u79,u80,u81,u82,u83,u84,u85,u86,u87,u88,u89,u90,u91,u92,u93,u94,u95,u96,u97,u98,u99,u100,u101,u102,u103,u104,u105,u106,u107,u108,u109,u110,u111,u112,u113,u114,u115,u116,u117,u118,u119,u120,u121,u122,u123,u124,u125,u126,u127,u128,u129,u130],defers:=[]} W:=by
 have d:=G u;have ag:=G H;have o:=G I;have aj:=ad.cell;have ai:=aa.cell;clear u H ad aa I
 conv=>arg 2;whnf
 cases h1:(op==A)with
 |false=>
  cases b<;>(have e0:a=false:=(by rw[<-o.out,h1];simp);go_wp2_with fail;go_ret;exact⟨by rw[e0];rfl,d.out⟩)
 |true=>
  cases h2:(nm==F)with
  |false=>
   cases b<;>(have e0:a=false:=(by rw[<-o.out,h1,h2];simp);go_wp2_with fail;go_ret;exact⟨by rw[e0];rfl,d.out⟩)
  |true=>
   cases h3:(tx==z)with
   |false=>
    cases b<;>(have e0:a=false:=(by rw[<-o.out,h1,h2,h3];simp);go_wp2_with fail;go_ret;exact⟨by rw[e0];rfl,d.out⟩)
   |true=>
    cases h4:(v==y)with
    |false=>
     cases b<;>(have e0:a=false:=(by rw[<-o.out,h1,h2,h3,h4];simp);go_wp2_with fail;go_ret;exact⟨by rw[e0];rfl,d.out⟩)
    |true=>
     cases b with
     |false=>(have e0:a=false:=(by rw[<-o.out,h1,h2,h3,h4];simp);go_wp2_with fail;go_ret;exact⟨by rw[e0];rfl,d.out⟩)
     |true=>
      by_cases h5:(n:Int)=w
      ·subst h5;have e0:a=r:=by rw[<-o.out];simp[h1,h2,h3,h4]
       go_wp2_with (refine(ag.out _ d.out).mono ?_;rintro e ah ⟨rfl,u⟩;have af:=G (d.out.trans u);clear u);go_ret;exact⟨by rw[e0];rfl,af.out⟩
      ·have al:((n:Int)==w)=false:=Qn.2 h5;have e0:a=false:=by rw[<-o.out,decide_eq_false h5];simp
       go_wp2_with fail;go_ret;exact⟨by rw[e0];rfl,d.out⟩
theorem Jq (op nm tx:List UInt8) (v:Int) (d:World) (u:Option Addr) (n c:Nat) (aD:n<=1073741824) (r:Bool) (X:uf d u n c r) (aj:nm.length<=1073741824):
  Calls prog 115 #[.agg #[.int i64 3,.string (Z op),.string (Z nm),.string (Z tx),.int i64 v,.slice u n c]] d λe w'=>e=.returned (.bool (eD nm&&(op==[]&&nm==nm&&tx==[]&&v==0)&&decide ((n:Int)=0)&&r))/\au d w':=by
 have aC:(n:Int)<=1073741824:=J
 have z:d.heap.size≠d.heap.size+1:=J
 have w:=G ((aq d 206 #[.int i64 3,.string (Z op),.string (Z nm),.string (Z tx),.int i64 v,.slice u n c]).ext (aa _ (.cells #[.int i64 3,.string ⟨#[]⟩,.string ⟨#[]⟩,.string ⟨#[]⟩,.int i64 0,.slice none 0 0] 206)));have H:=G (aO.new2 d (.cells #[.int i64 3,.string (Z op),.string (Z nm),.string (Z tx),.int i64 v,.slice u n c] 206) 206 #[.int i64 3,.string ⟨#[]⟩,.string ⟨#[]⟩,.string ⟨#[]⟩,.int i64 0,.slice none 0 0]);have av:=G ((aa d (.cells #[.int i64 3,.string (Z op),.string (Z nm),.string (Z tx),.int i64 v,.slice u n c] 206)).trans (aa _ (.cells #[.int i64 3,.string ⟨#[]⟩,.string ⟨#[]⟩,.string ⟨#[]⟩,.int i64 0,.slice none 0 0] 206)));have ax:=G X;clear X;have ar:=G (dR nm aj);generalize eD nm=b at*;generalize V:(_&& _&& _&& _:Bool)=R;have ap:=G V;clear V;go_enter func115,ntmps115;go_wp2_with fail;refine cC (UW (d.heap.size+1) 206 #[.int i64 3,.string ⟨#[]⟩,.string ⟨#[]⟩,.string ⟨#[]⟩,.int i64 0,.slice none 0 0] #[.int i64 3,.string ⟨#[]⟩,.string (Z nm),.string ⟨#[]⟩,.int i64 0,.slice none 0 0]) (UW.refl _ _ _ _) (UW.trans _ _ _ _) 6 3 [(4,λv=>v=.bool b,λ_ _=>True)] [] mixed Qb Qb Qb Qf ⟨λ_ _ _ _ _=>trivial,trivial⟩ ?_;repeat (first|(refine bU Qf ?_;simp only[bE,bD,bC,bB,bA])|(refine sx ?_ (λag a=> ?_) ?_;rotate_left;(focus have am:=(w.out.grown (aJ a.1) (λe=>z (I e))).cell;clear a;go_simp<;>with_reducible rfl);simp only[bE,bD,bC,bB,bA]))
 refine so (λaf a y K o=> ?_) ?_
 ·clear y a;go_simp;refine(ar.out af).mono ?_;rintro e aA ⟨rfl,rfl⟩;exact o _ _ (UW.refl _ _ _ _ _) rfl trivial
 rintro _ rfl;simp only[bE,bD,bC,bB,bA];repeat (first|(refine bU Qf ?_;simp only[bE,bD,bC,bB,bA])|(refine sx ?_ (λag a=> ?_) ?_;rotate_left;(focus have am:=(w.out.grown (aJ a.1) (λe=>z (I e))).cell;clear a;go_simp<;>with_reducible rfl);simp only[bE,bD,bC,bB,bA]))
 intro aB A y;clear y;simp only[ae,aw];obtain⟨⟨az,ai⟩,ah,a,F⟩:=A.store H.out 2 (.string (Z nm)) (.string ⟨#[]⟩) rfl rfl rfl rfl;have ad:=G a;have ao:=G F;have ay:=G (w.out.grown (aJ a.1) (λe=>z (I e)));have an:=G (av.out.grown (aJ a.1) (λk e=>by injection e with e;omega));clear A a F w H;refine aN Qf Qe (λK o=> ?_);go_simp;refine o _ _ ad.out ?_;clear o ai ah;refine aN Qf Qe (λK o=> ?_);go_simp;refine o _ _ ad.out ?_;clear o;refine cQ ?_;rename_i aE aF al aG;refine al _ _ (ko _ _ 3 v 0 _ op nm tx [] nm [] u n c _ r d _ an.out ay.out ao.out ax.out R ap.out _ _ _ _ _ _ _ _ _ _ _ _ _ _ _ _ _ _ _ _ _ _ _ _ _ _ _ _ _ _ _ _ _ _ _ _ _ _ _ _ _ _ _ _ _ _ _ _ _ _ _ _ _ _ _ _ _ _ _ _ _ _ _ _ _ _ _ _ _ _ _ _ _ _ _ _ _ _ _ _ _ _ _ _ _ _ _ _ _ _ _ _ _ _ _ _ _ _ _ _ _ _ _ _ _ _ _ _ _ _ _ _ _ _ _ _ _ _ _ _ _ _ _ _ _ _ _)
theorem Jp (op nm tx:List UInt8) (v:Int) (d:World) (u:Option Addr) (n c:Nat) (aD:n<=1073741824) (r:Bool) (H:uf d u n c r) (aj:nm.length<=1073741824):
  Calls prog 115 #[.agg #[.int i64 4,.string (Z op),.string (Z nm),.string (Z tx),.int i64 v,.slice u n c]] d λe w'=>e=.returned (.bool (eD nm&&(op==[]&&nm==nm&&tx==[]&&v==0)&&decide ((n:Int)=1)&&r))/\au d w':=by
 have aC:(n:Int)<=1073741824:=J
 have z:d.heap.size≠d.heap.size+1:=J
 have w:=G ((aq d 206 #[.int i64 4,.string (Z op),.string (Z nm),.string (Z tx),.int i64 v,.slice u n c]).ext (aa _ (.cells #[.int i64 4,.string ⟨#[]⟩,.string ⟨#[]⟩,.string ⟨#[]⟩,.int i64 0,.slice none 0 0] 206)));have ad:=G (aO.new2 d (.cells #[.int i64 4,.string (Z op),.string (Z nm),.string (Z tx),.int i64 v,.slice u n c] 206) 206 #[.int i64 4,.string ⟨#[]⟩,.string ⟨#[]⟩,.string ⟨#[]⟩,.int i64 0,.slice none 0 0]);have av:=G ((aa d (.cells #[.int i64 4,.string (Z op),.string (Z nm),.string (Z tx),.int i64 v,.slice u n c] 206)).trans (aa _ (.cells #[.int i64 4,.string ⟨#[]⟩,.string ⟨#[]⟩,.string ⟨#[]⟩,.int i64 0,.slice none 0 0] 206)));have ax:=G H;clear H;have ar:=G (dR nm aj);generalize eD nm=b at*;generalize X:(_&& _&& _&& _:Bool)=R;have ap:=G X;clear X;go_enter func115,ntmps115;go_wp2_with fail;refine cC (UW (d.heap.size+1) 206 #[.int i64 4,.string ⟨#[]⟩,.string ⟨#[]⟩,.string ⟨#[]⟩,.int i64 0,.slice none 0 0] #[.int i64 4,.string ⟨#[]⟩,.string (Z nm),.string ⟨#[]⟩,.int i64 0,.slice none 0 0]) (UW.refl _ _ _ _) (UW.trans _ _ _ _) 6 3 [(4,λv=>v=.bool b,λ_ _=>True)] [] mixed Qb Qb Qb Qf ⟨λ_ _ _ _ _=>trivial,trivial⟩ ?_;repeat (first|(refine bU Qf ?_;simp only[bE,bD,bC,bB,bA])|(refine sx ?_ (λag a=> ?_) ?_;rotate_left;(focus have am:=(w.out.grown (aJ a.1) (λe=>z (I e))).cell;clear a;go_simp<;>with_reducible rfl);simp only[bE,bD,bC,bB,bA]))
 refine so (λaf a y K o=> ?_) ?_
 ·clear y a;go_simp;refine(ar.out af).mono ?_;rintro e aA ⟨rfl,rfl⟩;exact o _ _ (UW.refl _ _ _ _ _) rfl trivial
 rintro _ rfl;simp only[bE,bD,bC,bB,bA];repeat (first|(refine bU Qf ?_;simp only[bE,bD,bC,bB,bA])|(refine sx ?_ (λag a=> ?_) ?_;rotate_left;(focus have am:=(w.out.grown (aJ a.1) (λe=>z (I e))).cell;clear a;go_simp<;>with_reducible rfl);simp only[bE,bD,bC,bB,bA]))
 intro aB F y;clear y;simp only[ae,aw];obtain⟨⟨az,ai⟩,ah,a,V⟩:=F.store ad.out 2 (.string (Z nm)) (.string ⟨#[]⟩) rfl rfl rfl rfl;have A:=G a;have ao:=G V;have ay:=G (w.out.grown (aJ a.1) (λe=>z (I e)));have an:=G (av.out.grown (aJ a.1) (λk e=>by injection e with e;omega));clear F a V w ad;refine aN Qf Qe (λK o=> ?_);go_simp;refine o _ _ A.out ?_;clear o ai ah;refine aN Qf Qe (λK o=> ?_);go_simp;refine o _ _ A.out ?_;clear o;refine aN Qf Qe (λK o=> ?_);go_simp;refine o _ _ A.out ?_;clear o;refine cQ ?_;rename_i aE aF al aH aG;refine al _ _ (ko _ _ 4 v 0 _ op nm tx [] nm [] u n c _ r d _ an.out ay.out ao.out ax.out R ap.out _ _ _ _ _ _ _ _ _ _ _ _ _ _ _ _ _ _ _ _ _ _ _ _ _ _ _ _ _ _ _ _ _ _ _ _ _ _ _ _ _ _ _ _ _ _ _ _ _ _ _ _ _ _ _ _ _ _ _ _ _ _ _ _ _ _ _ _ _ _ _ _ _ _ _ _ _ _ _ _ _ _ _ _ _ _ _ _ _ _ _ _ _ _ _ _ _ _ _ _ _ _ _ _ _ _ _ _ _ _ _ _ _ _ _ _ _ _ _ _ _ _ _ _ _ _ _)
theorem Jr (op nm tx:List UInt8) (v:Int) (d:World) (u:Option Addr) (n c:Nat) (aE:n<=1073741824) (r:Bool) (X:uf d u n c r) (aj:tx.length<=1073741824):
  Calls prog 115 #[.agg #[.int i64 2,.string (Z op),.string (Z nm),.string (Z tx),.int i64 v,.slice u n c]] d λe w'=>e=.returned (.bool (tz tx&&(op==[]&&nm==[]&&tx==tx&&v==0)&&decide ((n:Int)=0)&&r))/\au d w':=by
 have aD:(n:Int)<=1073741824:=J
 have z:d.heap.size≠d.heap.size+1:=J
 have w:=G ((aq d 206 #[.int i64 2,.string (Z op),.string (Z nm),.string (Z tx),.int i64 v,.slice u n c]).ext (aa _ (.cells #[.int i64 2,.string ⟨#[]⟩,.string ⟨#[]⟩,.string ⟨#[]⟩,.int i64 0,.slice none 0 0] 206)));have H:=G (aO.new2 d (.cells #[.int i64 2,.string (Z op),.string (Z nm),.string (Z tx),.int i64 v,.slice u n c] 206) 206 #[.int i64 2,.string ⟨#[]⟩,.string ⟨#[]⟩,.string ⟨#[]⟩,.int i64 0,.slice none 0 0]);have ax:=G ((aa d (.cells #[.int i64 2,.string (Z op),.string (Z nm),.string (Z tx),.int i64 v,.slice u n c] 206)).trans (aa _ (.cells #[.int i64 2,.string ⟨#[]⟩,.string ⟨#[]⟩,.string ⟨#[]⟩,.int i64 0,.slice none 0 0] 206)));have ay:=G X;clear X;have av:=G (zo tx aj);generalize tz tx=b at*;generalize V:(_&& _&& _&& _:Bool)=R;have ar:=G V;clear V;go_enter func115,ntmps115;go_wp2_with fail;refine cC (UW (d.heap.size+1) 206 #[.int i64 2,.string ⟨#[]⟩,.string ⟨#[]⟩,.string ⟨#[]⟩,.int i64 0,.slice none 0 0] #[.int i64 2,.string ⟨#[]⟩,.string ⟨#[]⟩,.string (Z tx),.int i64 0,.slice none 0 0]) (UW.refl _ _ _ _) (UW.trans _ _ _ _) 6 3 [(4,λv=>v=.bool b,λ_ _=>True)] [] mixed Qb Qb Qb Qf ⟨λ_ _ _ _ _=>trivial,trivial⟩ ?_;repeat (first|(refine bU Qf ?_;simp only[bE,bD,bC,bB,bA])|(refine sx ?_ (λag a=> ?_) ?_;rotate_left;(focus have an:=(w.out.grown (aJ a.1) (λe=>z (I e))).cell;clear a;go_simp<;>with_reducible rfl);simp only[bE,bD,bC,bB,bA]))
 refine so (λaf a y K o=> ?_) ?_
 ·clear y a;go_simp;refine(av.out af).mono ?_;rintro e aB ⟨rfl,am⟩;exact o _ _ (UW.of_ext am) rfl trivial
 rintro _ rfl;simp only[bE,bD,bC,bB,bA];repeat (first|(refine bU Qf ?_;simp only[bE,bD,bC,bB,bA])|(refine sx ?_ (λag a=> ?_) ?_;rotate_left;(focus have an:=(w.out.grown (aJ a.1) (λe=>z (I e))).cell;clear a;go_simp<;>with_reducible rfl);simp only[bE,bD,bC,bB,bA]))
 intro aC A y;clear y;simp only[ae,aw];obtain⟨⟨aA,ai⟩,ah,a,F⟩:=A.store H.out 3 (.string (Z tx)) (.string ⟨#[]⟩) rfl rfl rfl rfl;have ad:=G a;have ap:=G F;have az:=G (w.out.grown (aJ a.1) (λe=>z (I e)));have ao:=G (ax.out.grown (aJ a.1) (λk e=>by injection e with e;omega));clear A a F w H;refine aN Qf Qe (λK o=> ?_);go_simp;refine o _ _ ad.out ?_;clear o ai ah;refine aN Qf Qe (λK o=> ?_);go_simp;refine o _ _ ad.out ?_;clear o;refine cQ ?_;rename_i aF aG al aH;refine al _ _ (ko _ _ 2 v 0 _ op nm tx [] [] tx u n c _ r d _ ao.out az.out ap.out ay.out R ar.out _ _ _ _ _ _ _ _ _ _ _ _ _ _ _ _ _ _ _ _ _ _ _ _ _ _ _ _ _ _ _ _ _ _ _ _ _ _ _ _ _ _ _ _ _ _ _ _ _ _ _ _ _ _ _ _ _ _ _ _ _ _ _ _ _ _ _ _ _ _ _ _ _ _ _ _ _ _ _ _ _ _ _ _ _ _ _ _ _ _ _ _ _ _ _ _ _ _ _ _ _ _ _ _ _ _ _ _ _ _ _ _ _ _ _ _ _ _ _ _ _ _ _ _ _ _ _)
theorem Jm (op nm tx:List UInt8) (v:Int) (d:World) (u:Option Addr) (n c:Nat) (aC:n<=1073741824) (r:Bool) (H:uf d u n c r):
  Calls prog 115 #[.agg #[.int i64 7,.string (Z op),.string (Z nm),.string (Z tx),.int i64 v,.slice u n c]] d λe w'=>e=.returned (.bool (decide (0<mX op)&&(op==op&&nm==[]&&tx==[]&&v==0)&&decide ((n:Int)=2)&&r))/\au d w':=by
 have aB:(n:Int)<=1073741824:=J
 have z:d.heap.size≠d.heap.size+1:=J
 have w:=G ((aq d 206 #[.int i64 7,.string (Z op),.string (Z nm),.string (Z tx),.int i64 v,.slice u n c]).ext (aa _ (.cells #[.int i64 7,.string ⟨#[]⟩,.string ⟨#[]⟩,.string ⟨#[]⟩,.int i64 0,.slice none 0 0] 206)));have ad:=G (aO.new2 d (.cells #[.int i64 7,.string (Z op),.string (Z nm),.string (Z tx),.int i64 v,.slice u n c] 206) 206 #[.int i64 7,.string ⟨#[]⟩,.string ⟨#[]⟩,.string ⟨#[]⟩,.int i64 0,.slice none 0 0]);have ar:=G ((aa d (.cells #[.int i64 7,.string (Z op),.string (Z nm),.string (Z tx),.int i64 v,.slice u n c] 206)).trans (aa _ (.cells #[.int i64 7,.string ⟨#[]⟩,.string ⟨#[]⟩,.string ⟨#[]⟩,.int i64 0,.slice none 0 0] 206)));have av:=G H;clear H;have ap:=G (mF op);generalize mX op=L at*;generalize X:(_&& _&& _&& _:Bool)=R;have ao:=G X;clear X;go_enter func115,ntmps115;go_wp2_with fail;refine cC (UW (d.heap.size+1) 206 #[.int i64 7,.string ⟨#[]⟩,.string ⟨#[]⟩,.string ⟨#[]⟩,.int i64 0,.slice none 0 0] #[.int i64 7,.string (Z op),.string ⟨#[]⟩,.string ⟨#[]⟩,.int i64 0,.slice none 0 0]) (UW.refl _ _ _ _) (UW.trans _ _ _ _) 7 3 [(4,λx=>x=.int i64 L,λ_ _=>True)] [5] mixed Qb Qb Qb Qf ⟨λ_ _ _ _ _=>trivial,trivial⟩ ?_;repeat (first|(refine bU Qf ?_;simp only[bE,bD,bC,bB,bA])|(refine sx ?_ (λag a=> ?_) ?_;rotate_left;(focus have al:=(w.out.grown (aJ a.1) (λe=>z (I e))).cell;clear a;go_simp<;>with_reducible rfl);simp only[bE,bD,bC,bB,bA]))
 refine so (λaf a y K o=> ?_) ?_
 ·clear y a;go_simp;refine(ap.out af).mono ?_;rintro e az ⟨rfl,rfl⟩;exact o _ _ (UW.refl _ _ _ _ _) rfl trivial
 rintro _ rfl;simp only[bE,bD,bC,bB,bA];repeat (first|(refine bU Qf ?_;simp only[bE,bD,bC,bB,bA])|(refine sx ?_ (λag a=> ?_) ?_;rotate_left;(focus have al:=(w.out.grown (aJ a.1) (λe=>z (I e))).cell;clear a;go_simp<;>with_reducible rfl);simp only[bE,bD,bC,bB,bA]))
 intro aA F y;clear y;simp only[ae,aw];obtain⟨⟨ay,ai⟩,ah,a,V⟩:=F.store ad.out 1 (.string (Z op)) (.string ⟨#[]⟩) rfl rfl rfl rfl;have A:=G a;have an:=G V;have ax:=G (w.out.grown (aJ a.1) (λe=>z (I e)));have am:=G (ar.out.grown (aJ a.1) (λk e=>by injection e with e;omega));clear F a V w ad;refine aN Qf Qe (λK o=> ?_);go_simp;refine o _ _ A.out ?_;clear o ai ah;refine aN Qf Qe (λK o=> ?_);go_simp;refine o _ _ A.out ?_;clear o;refine aN Qf Qe (λK o=> ?_);go_simp;refine o _ _ A.out ?_;clear o;refine cQ ?_;rename_i aD aE aj aG aF;refine aj _ _ (ko _ _ 7 v 0 _ op nm tx op [] [] u n c _ r d _ am.out ax.out an.out av.out R ao.out _ _ _ _ _ _ _ _ _ _ _ _ _ _ _ _ _ _ _ _ _ _ _ _ _ _ _ _ _ _ _ _ _ _ _ _ _ _ _ _ _ _ _ _ _ _ _ _ _ _ _ _ _ _ _ _ _ _ _ _ _ _ _ _ _ _ _ _ _ _ _ _ _ _ _ _ _ _ _ _ _ _ _ _ _ _ _ _ _ _ _ _ _ _ _ _ _ _ _ _ _ _ _ _ _ _ _ _ _ _ _ _ _ _ _ _ _ _ _ _ _ _ _ _ _ _ _)
theorem Jt (op nm tx:List UInt8) (v:Int) (d:World) (u:Option Addr) (n c:Nat) (aD:n<=1073741824) (r:Bool) (an:uf d u n c r):
  Calls prog 115 #[.agg #[.int i64 1,.string (Z op),.string (Z nm),.string (Z tx),.int i64 v,.slice u n c]] d λe w'=>e=.returned (.bool ((decide (0<=v)&&decide (v<=2147483647))&&(op==[]&&nm==[]&&tx==[]&&v==v)&&decide ((n:Int)=0)&&r))/\au d w':=by
 have aC:(n:Int)<=1073741824:=J
 have V:d.heap.size≠d.heap.size+1:=J
 have w:=G ((aq d 206 #[.int i64 1,.string (Z op),.string (Z nm),.string (Z tx),.int i64 v,.slice u n c]).ext (aa _ (.cells #[.int i64 1,.string ⟨#[]⟩,.string ⟨#[]⟩,.string ⟨#[]⟩,.int i64 0,.slice none 0 0] 206)));have X:=G (aO.new2 d (.cells #[.int i64 1,.string (Z op),.string (Z nm),.string (Z tx),.int i64 v,.slice u n c] 206) 206 #[.int i64 1,.string ⟨#[]⟩,.string ⟨#[]⟩,.string ⟨#[]⟩,.int i64 0,.slice none 0 0]);have ao:=G ((aa d (.cells #[.int i64 1,.string (Z op),.string (Z nm),.string (Z tx),.int i64 v,.slice u n c] 206)).trans (aa _ (.cells #[.int i64 1,.string ⟨#[]⟩,.string ⟨#[]⟩,.string ⟨#[]⟩,.int i64 0,.slice none 0 0] 206)));have ap:=G an;clear an;by_cases h0:0<=v
 ·have ag:decide (0<=v)=true:=decide_eq_true h0;rw[ag,gP];generalize A:(_&& _&& _&& _:Bool)=R;have al:=G A;clear A;go_enter func115,ntmps115;go_wp2_with fail;refine cC (UW (d.heap.size+1) 206 #[.int i64 1,.string ⟨#[]⟩,.string ⟨#[]⟩,.string ⟨#[]⟩,.int i64 0,.slice none 0 0] #[.int i64 1,.string ⟨#[]⟩,.string ⟨#[]⟩,.string ⟨#[]⟩,.int i64 v,.slice none 0 0]) (UW.refl _ _ _ _) (UW.trans _ _ _ _) 11 3 [] [6,7,8,9] mixed Qb Qb Qb Qf trivial ?_;repeat (first|(refine bU Qf ?_;simp only[bE,bD,bC,bB,bA])|(refine sx ?_ (λax a=> ?_) ?_;rotate_left;(focus have ay:=(w.out.grown (aJ a.1) (λe=>V (I e))).cell;clear a;go_simp<;>with_reducible rfl);simp only[bE,bD,bC,bB,bA]))
  intro av y af;clear af;simp only[ae,aw];obtain⟨⟨ar,ad⟩,H,a,z⟩:=y.store X.out 4 (.int i64 v) (.int i64 0) rfl rfl rfl rfl;have F:=G a;have aj:=G z;have am:=G (w.out.grown (aJ a.1) (λe=>V (I e)));have ai:=G (ao.out.grown (aJ a.1) (λk e=>by injection e with e;omega));clear y a z w X;refine aN Qf Qe (λK o=> ?_);go_simp;refine o _ _ F.out ?_;clear o ad H;refine aN Qf Qe (λK o=> ?_);go_simp;refine o _ _ F.out ?_;clear o;refine cQ ?_;rename_i az aA ah aB;refine ah _ _ (ko _ _ 1 v v _ op nm tx [] [] [] u n c _ r d _ ai.out am.out aj.out ap.out R al.out _ _ _ _ _ _ _ _ _ _ _ _ _ _ _ _ _ _ _ _ _ _ _ _ _ _ _ _ _ _ _ _ _ _ _ _ _ _ _ _ _ _ _ _ _ _ _ _ _ _ _ _ _ _ _ _ _ _ _ _ _ _ _ _ _ _ _ _ _ _ _ _ _ _ _ _ _ _ _ _ _ _ _ _ _ _ _ _ _ _ _ _ _ _ _ _ _ _ _ _ _ _ _ _ _ _ _ _ _ _ _ _ _ _ _ _ _ _ _ _ _ _ _ _ _ _ _)
 ·have ag:decide (0<=v)=false:=decide_eq_false h0;rw[ag,Bool.false_and];generalize A:(_&& _&& _&& _:Bool)=R;have al:=G A;clear A;go_enter func115,ntmps115;go_wp2_with fail;refine cC (UW (d.heap.size+1) 206 #[.int i64 1,.string ⟨#[]⟩,.string ⟨#[]⟩,.string ⟨#[]⟩,.int i64 0,.slice none 0 0] #[.int i64 1,.string ⟨#[]⟩,.string ⟨#[]⟩,.string ⟨#[]⟩,.int i64 v,.slice none 0 0]) (UW.refl _ _ _ _) (UW.trans _ _ _ _) 11 3 [] [6,7,8,9] mixed Qb Qb Qb Qf trivial ?_;repeat (first|(refine bU Qf ?_;simp only[bE,bD,bC,bB,bA])|(refine sx ?_ (λax a=> ?_) ?_;rotate_left;(focus have ay:=(w.out.grown (aJ a.1) (λe=>V (I e))).cell;clear a;go_simp<;>with_reducible rfl);simp only[bE,bD,bC,bB,bA]))
  intro av y af;clear af;simp only[ae,aw];obtain⟨⟨ar,ad⟩,H,a,z⟩:=y.store X.out 4 (.int i64 v) (.int i64 0) rfl rfl rfl rfl;have F:=G a;have aj:=G z;have am:=G (w.out.grown (aJ a.1) (λe=>V (I e)));have ai:=G (ao.out.grown (aJ a.1) (λk e=>by injection e with e;omega));clear y a z w X;refine aN Qf Qe (λK o=> ?_);go_simp;refine o _ _ F.out ?_;clear o ad H;refine aN Qf Qe (λK o=> ?_);go_simp;refine o _ _ F.out ?_;clear o;refine cQ ?_;rename_i az aA ah aB;refine ah _ _ (ko _ _ 1 v v _ op nm tx [] [] [] u n c _ r d _ ai.out am.out aj.out ap.out R al.out _ _ _ _ _ _ _ _ _ _ _ _ _ _ _ _ _ _ _ _ _ _ _ _ _ _ _ _ _ _ _ _ _ _ _ _ _ _ _ _ _ _ _ _ _ _ _ _ _ _ _ _ _ _ _ _ _ _ _ _ _ _ _ _ _ _ _ _ _ _ _ _ _ _ _ _ _ _ _ _ _ _ _ _ _ _ _ _ _ _ _ _ _ _ _ _ _ _ _ _ _ _ _ _ _ _ _ _ _ _ _ _ _ _ _ _ _ _ _ _ _ _ _ _ _ _ _)
theorem Jn (op nm tx:List UInt8) (v:Int) (o:World) (w:Option Addr) (n c:Nat) (aD:n<=1073741824) (r:Bool) (am:uf o w n c r):
  Calls prog 115 #[.agg #[.int i64 6,.string (Z op),.string (Z nm),.string (Z tx),.int i64 v,.slice w n c]] o λe w'=>e=.returned (.bool ((op==[45]||op==[33])&&(op==op&&nm==[]&&tx==[]&&v==0)&&decide ((n:Int)=1)&&r))/\au o w':=by
 have aC:(n:Int)<=1073741824:=J
 have V:o.heap.size≠o.heap.size+1:=J
 have y:=G ((aq o 206 #[.int i64 6,.string (Z op),.string (Z nm),.string (Z tx),.int i64 v,.slice w n c]).ext (aa _ (.cells #[.int i64 6,.string ⟨#[]⟩,.string ⟨#[]⟩,.string ⟨#[]⟩,.int i64 0,.slice none 0 0] 206)));have X:=G (aO.new2 o (.cells #[.int i64 6,.string (Z op),.string (Z nm),.string (Z tx),.int i64 v,.slice w n c] 206) 206 #[.int i64 6,.string ⟨#[]⟩,.string ⟨#[]⟩,.string ⟨#[]⟩,.int i64 0,.slice none 0 0]);have an:=G ((aa o (.cells #[.int i64 6,.string (Z op),.string (Z nm),.string (Z tx),.int i64 v,.slice w n c] 206)).trans (aa _ (.cells #[.int i64 6,.string ⟨#[]⟩,.string ⟨#[]⟩,.string ⟨#[]⟩,.int i64 0,.slice none 0 0] 206)));have ao:=G am;clear am
 cases h0:(op==[45])with
 |true=>
  rw[Bool.true_or];generalize F:(_&& _&& _&& _:Bool)=R;have aj:=G F;clear F;go_enter func115,ntmps115;go_wp2_with fail;refine cC (UW (o.heap.size+1) 206 #[.int i64 6,.string ⟨#[]⟩,.string ⟨#[]⟩,.string ⟨#[]⟩,.int i64 0,.slice none 0 0] #[.int i64 6,.string (Z op),.string ⟨#[]⟩,.string ⟨#[]⟩,.int i64 0,.slice none 0 0]) (UW.refl _ _ _ _) (UW.trans _ _ _ _) 11 3 [] [6,7,8,9] mixed Qb Qb Qb Qf trivial ?_;repeat (first|(refine bU Qf ?_;simp only[bE,bD,bC,bB,bA])|(refine sx ?_ (λav d=> ?_) ?_;rotate_left;(focus have ax:=(y.out.grown (aJ d.1) (λe=>V (I e))).cell;clear d;go_simp<;>with_reducible rfl);simp only[bE,bD,bC,bB,bA]))
  intro ar z af;clear af;simp only[ae,aw];obtain⟨⟨ap,ad⟩,H,d,A⟩:=z.store X.out 1 (.string (Z op)) (.string ⟨#[]⟩) rfl rfl rfl rfl;have u:=G d;have ai:=G A;have al:=G (y.out.grown (aJ d.1) (λe=>V (I e)));have ah:=G (an.out.grown (aJ d.1) (λk e=>by injection e with e;omega));clear z d A y X;refine aN Qf Qe (λK a=> ?_);go_simp;refine a _ _ u.out ?_;clear a ad H;refine aN Qf Qe (λK a=> ?_);go_simp;refine a _ _ u.out ?_;clear a;refine aN Qf Qe (λK a=> ?_);go_simp;refine a _ _ u.out ?_;clear a;refine cQ ?_;rename_i ay az ag aB aA;refine ag _ _ (ko _ _ 6 v 0 _ op nm tx op [] [] w n c _ r o _ ah.out al.out ai.out ao.out R aj.out _ _ _ _ _ _ _ _ _ _ _ _ _ _ _ _ _ _ _ _ _ _ _ _ _ _ _ _ _ _ _ _ _ _ _ _ _ _ _ _ _ _ _ _ _ _ _ _ _ _ _ _ _ _ _ _ _ _ _ _ _ _ _ _ _ _ _ _ _ _ _ _ _ _ _ _ _ _ _ _ _ _ _ _ _ _ _ _ _ _ _ _ _ _ _ _ _ _ _ _ _ _ _ _ _ _ _ _ _ _ _ _ _ _ _ _ _ _ _ _ _ _ _ _ _ _ _)
 |false=>
  rw[Bool.false_or];generalize F:(_&& _&& _&& _:Bool)=R;have aj:=G F;clear F;go_enter func115,ntmps115;go_wp2_with fail;refine cC (UW (o.heap.size+1) 206 #[.int i64 6,.string ⟨#[]⟩,.string ⟨#[]⟩,.string ⟨#[]⟩,.int i64 0,.slice none 0 0] #[.int i64 6,.string (Z op),.string ⟨#[]⟩,.string ⟨#[]⟩,.int i64 0,.slice none 0 0]) (UW.refl _ _ _ _) (UW.trans _ _ _ _) 11 3 [] [6,7,8,9] mixed Qb Qb Qb Qf trivial ?_;repeat (first|(refine bU Qf ?_;simp only[bE,bD,bC,bB,bA])|(refine sx ?_ (λav d=> ?_) ?_;rotate_left;(focus have ax:=(y.out.grown (aJ d.1) (λe=>V (I e))).cell;clear d;go_simp<;>with_reducible rfl);simp only[bE,bD,bC,bB,bA]))
  intro ar z af;clear af;simp only[ae,aw];obtain⟨⟨ap,ad⟩,H,d,A⟩:=z.store X.out 1 (.string (Z op)) (.string ⟨#[]⟩) rfl rfl rfl rfl;have u:=G d;have ai:=G A;have al:=G (y.out.grown (aJ d.1) (λe=>V (I e)));have ah:=G (an.out.grown (aJ d.1) (λk e=>by injection e with e;omega));clear z d A y X;refine aN Qf Qe (λK a=> ?_);go_simp;refine a _ _ u.out ?_;clear a ad H;refine aN Qf Qe (λK a=> ?_);go_simp;refine a _ _ u.out ?_;clear a;refine aN Qf Qe (λK a=> ?_);go_simp;refine a _ _ u.out ?_;clear a;refine cQ ?_;rename_i ay az ag aB aA;refine ag _ _ (ko _ _ 6 v 0 _ op nm tx op [] [] w n c _ r o _ ah.out al.out ai.out ao.out R aj.out _ _ _ _ _ _ _ _ _ _ _ _ _ _ _ _ _ _ _ _ _ _ _ _ _ _ _ _ _ _ _ _ _ _ _ _ _ _ _ _ _ _ _ _ _ _ _ _ _ _ _ _ _ _ _ _ _ _ _ _ _ _ _ _ _ _ _ _ _ _ _ _ _ _ _ _ _ _ _ _ _ _ _ _ _ _ _ _ _ _ _ _ _ _ _ _ _ _ _ _ _ _ _ _ _ _ _ _ _ _ _ _ _ _ _ _ _ _ _ _ _ _ _ _ _ _ _)
theorem Jo (op nm tx:List UInt8) (v:Int) (o:World) (z:Option Addr) (n c:Nat) (aH:n<=1073741824) (r:Bool) (ap:uf o z n c r) (aB:nm.length<=1073741824):
  Calls prog 115 #[.agg #[.int i64 5,.string (Z op),.string (Z nm),.string (Z tx),.int i64 v,.slice z n c]] o λe w'=>e=.returned (.bool ((eD nm&&decide ((n:Int)<=4))&&(op==[]&&nm==nm&&tx==[]&&v==0)&&decide ((n:Int)=n)&&r))/\au o w':=by
 have aG:(n:Int)<=1073741824:=J
 have A:o.heap.size≠o.heap.size+1:=J
 have u:=G ((aq o 206 #[.int i64 5,.string (Z op),.string (Z nm),.string (Z tx),.int i64 v,.slice z n c]).ext (aa _ (.cells #[.int i64 5,.string ⟨#[]⟩,.string ⟨#[]⟩,.string ⟨#[]⟩,.int i64 0,.slice none 0 0] 206)));have H:=G (aO.new2 o (.cells #[.int i64 5,.string (Z op),.string (Z nm),.string (Z tx),.int i64 v,.slice z n c] 206) 206 #[.int i64 5,.string ⟨#[]⟩,.string ⟨#[]⟩,.string ⟨#[]⟩,.int i64 0,.slice none 0 0]);have av:=G ((aa o (.cells #[.int i64 5,.string (Z op),.string (Z nm),.string (Z tx),.int i64 v,.slice z n c] 206)).trans (aa _ (.cells #[.int i64 5,.string ⟨#[]⟩,.string ⟨#[]⟩,.string ⟨#[]⟩,.int i64 0,.slice none 0 0] 206)));have ax:=G ap;clear ap;have ar:=G (dR nm aB);generalize eD nm=b at*
 cases b with
 |true=>
  rw[gP];generalize X:(_&& _&& _&& _:Bool)=R;have an:=G X;clear X;go_enter func115,ntmps115;go_wp2_with fail;refine cC (UW (o.heap.size+1) 206 #[.int i64 5,.string ⟨#[]⟩,.string ⟨#[]⟩,.string ⟨#[]⟩,.int i64 0,.slice none 0 0] #[.int i64 5,.string ⟨#[]⟩,.string (Z nm),.string ⟨#[]⟩,.int i64 0,.slice none 0 0]) (UW.refl _ _ _ _) (UW.trans _ _ _ _) 15 3 [(4,λv=>v=.bool true,λ_ _=>True)] [6,7,8,9,10,11,12,13] mixed Qb Qb Qb Qf ⟨λ_ _ _ _ _=>trivial,trivial⟩ ?_;repeat (first|(refine bU Qf ?_;simp only[bE,bD,bC,bB,bA])|(refine sx ?_ (λaf a=> ?_) ?_;rotate_left;(focus have aj:=(u.out.grown (aJ a.1) (λe=>A (I e))).cell;clear a;go_simp<;>with_reducible rfl);simp only[bE,bD,bC,bB,bA]))
  refine so (λad a w K d=> ?_) ?_
  ·clear w a;go_simp;refine(ar.out ad).mono ?_;rintro e az ⟨rfl,rfl⟩;exact d _ _ (UW.refl _ _ _ _ _) rfl trivial
  rintro _ rfl;simp only[bE,bD,bC,bB,bA];repeat (first|(refine bU Qf ?_;simp only[bE,bD,bC,bB,bA])|(refine sx ?_ (λaf a=> ?_) ?_;rotate_left;(focus have aj:=(u.out.grown (aJ a.1) (λe=>A (I e))).cell;clear a;go_simp<;>with_reducible rfl);simp only[bE,bD,bC,bB,bA]))
  intro aA F w;clear w;simp only[ae,aw];obtain⟨⟨ay,ah⟩,ag,a,V⟩:=F.store H.out 2 (.string (Z nm)) (.string ⟨#[]⟩) rfl rfl rfl rfl;have y:=G a;have am:=G V;have ao:=G (u.out.grown (aJ a.1) (λe=>A (I e)));have al:=G (av.out.grown (aJ a.1) (λk e=>by injection e with e;omega));clear F a V u H;refine aN Qf Qe (λK d=> ?_);go_simp;refine d _ _ y.out ?_;clear d ah ag;refine aN Qf Qe (λK d=> ?_);go_simp;refine d _ _ y.out ?_;clear d;refine aN Qf Qe (λK d=> ?_);go_simp;refine d _ _ y.out ?_;clear d;refine cQ ?_;rename_i aC aD ai aF aE;refine ai _ _ (ko _ _ 5 v 0 _ op nm tx [] nm [] z n c _ r o _ al.out ao.out am.out ax.out R (Eq.trans Qe an.out) _ _ _ _ _ _ _ _ _ _ _ _ _ _ _ _ _ _ _ _ _ _ _ _ _ _ _ _ _ _ _ _ _ _ _ _ _ _ _ _ _ _ _ _ _ _ _ _ _ _ _ _ _ _ _ _ _ _ _ _ _ _ _ _ _ _ _ _ _ _ _ _ _ _ _ _ _ _ _ _ _ _ _ _ _ _ _ _ _ _ _ _ _ _ _ _ _ _ _ _ _ _ _ _ _ _ _ _ _ _ _ _ _ _ _ _ _ _ _ _ _ _ _ _ _ _ _)
 |false=>
  rw[Bool.false_and];generalize X:(_&& _&& _&& _:Bool)=R;have an:=G X;clear X;go_enter func115,ntmps115;go_wp2_with fail;refine cC (UW (o.heap.size+1) 206 #[.int i64 5,.string ⟨#[]⟩,.string ⟨#[]⟩,.string ⟨#[]⟩,.int i64 0,.slice none 0 0] #[.int i64 5,.string ⟨#[]⟩,.string (Z nm),.string ⟨#[]⟩,.int i64 0,.slice none 0 0]) (UW.refl _ _ _ _) (UW.trans _ _ _ _) 15 3 [(4,λv=>v=.bool false,λ_ _=>True)] [6,7,8,9,10,11,12,13] mixed Qb Qb Qb Qf ⟨λ_ _ _ _ _=>trivial,trivial⟩ ?_;repeat (first|(refine bU Qf ?_;simp only[bE,bD,bC,bB,bA])|(refine sx ?_ (λaf a=> ?_) ?_;rotate_left;(focus have aj:=(u.out.grown (aJ a.1) (λe=>A (I e))).cell;clear a;go_simp<;>with_reducible rfl);simp only[bE,bD,bC,bB,bA]))
  refine so (λad a w K d=> ?_) ?_
  ·clear w a;go_simp;refine(ar.out ad).mono ?_;rintro e az ⟨rfl,rfl⟩;exact d _ _ (UW.refl _ _ _ _ _) rfl trivial
  rintro _ rfl;simp only[bE,bD,bC,bB,bA];repeat (first|(refine bU Qf ?_;simp only[bE,bD,bC,bB,bA])|(refine sx ?_ (λaf a=> ?_) ?_;rotate_left;(focus have aj:=(u.out.grown (aJ a.1) (λe=>A (I e))).cell;clear a;go_simp<;>with_reducible rfl);simp only[bE,bD,bC,bB,bA]))
  intro aA F w;clear w;simp only[ae,aw];obtain⟨⟨ay,ah⟩,ag,a,V⟩:=F.store H.out 2 (.string (Z nm)) (.string ⟨#[]⟩) rfl rfl rfl rfl;have y:=G a;have am:=G V;have ao:=G (u.out.grown (aJ a.1) (λe=>A (I e)));have al:=G (av.out.grown (aJ a.1) (λk e=>by injection e with e;omega));clear F a V u H;refine aN Qf Qe (λK d=> ?_);go_simp;refine d _ _ y.out ?_;clear d ah ag;refine aN Qf Qe (λK d=> ?_);go_simp;refine d _ _ y.out ?_;clear d;refine aN Qf Qe (λK d=> ?_);go_simp;refine d _ _ y.out ?_;clear d;refine cQ ?_;rename_i aC aD ai aF aE;refine ai _ _ (ko _ _ 5 v 0 _ op nm tx [] nm [] z n c _ r o _ al.out ao.out am.out ax.out R (Eq.trans Qe an.out) _ _ _ _ _ _ _ _ _ _ _ _ _ _ _ _ _ _ _ _ _ _ _ _ _ _ _ _ _ _ _ _ _ _ _ _ _ _ _ _ _ _ _ _ _ _ _ _ _ _ _ _ _ _ _ _ _ _ _ _ _ _ _ _ _ _ _ _ _ _ _ _ _ _ _ _ _ _ _ _ _ _ _ _ _ _ _ _ _ _ _ _ _ _ _ _ _ _ _ _ _ _ _ _ _ _ _ _ _ _ _ _ _ _ _ _ _ _ _ _ _ _ _ _ _ _ _)
theorem Ju (k:Int) (a: ∀i:Int,1<=i->i<=7->k≠i) (op nm tx:List UInt8) (v:Int) (o:World) (u:Option Addr) (n c:Nat) (w:n<=1073741824):
  Calls prog 115 #[.agg #[.int i64 k,.string (Z op),.string (Z nm),.string (Z tx),.int i64 v,.slice u n c]] o λe w'=>e=.returned (.bool false)/\au o w':=by
 have X:(k==1)=false:=Qn.2 (a 1 Qd Qd);have V:(k==2)=false:=Qn.2 (a 2 Qd Qd);have R:(k==3)=false:=Qn.2 (a 3 Qd Qd);have F:(k==4)=false:=Qn.2 (a 4 Qd Qd);have A:(k==5)=false:=Qn.2 (a 5 Qd Qd);have z:(k==6)=false:=Qn.2 (a 6 Qd Qd);have y:(k==7)=false:=Qn.2 (a 7 Qd Qd);have d:=G ((aa o (.cells #[.int i64 k,.string (Z op),.string (Z nm),.string (Z tx),.int i64 v,.slice u n c] 206)).trans (aa _ (.cells #[.int i64 k,.string ⟨#[]⟩,.string ⟨#[]⟩,.string ⟨#[]⟩,.int i64 0,.slice none 0 0] 206)));clear a
 cases h1:(op==[])with
 |false=>
  go_enter func115,ntmps115;go_wp2_with fail;go_ret;exact⟨rfl,d.out⟩
 |true=>
 cases h2:(nm==[])with
 |false=>
  go_enter func115,ntmps115;go_wp2_with fail;go_ret;exact⟨rfl,d.out⟩
 |true=>
 cases h3:(tx==[])with
 |false=>
  go_enter func115,ntmps115;go_wp2_with fail;go_ret;exact⟨rfl,d.out⟩
 |true=>
 cases h4:(v==0)with
 |false=>
  go_enter func115,ntmps115;go_wp2_with fail;go_ret;exact⟨rfl,d.out⟩
 |true=>
  go_enter func115,ntmps115;go_wp2_with fail;go_ret;exact⟨rfl,d.out⟩
theorem tB: ∀l:List Ex,l.any (λa=> !a.ok)= !r7 l
 | []=>rfl
 |x::r=>by simp only[iY,r7,tB r,Bool.not_and]
theorem rO (a:Ex) (w':World) (B:Option Addr) (y:Nat) (F: ∀w,au w' w->Calls prog 115 #[.agg #[.int i64 a.k,.string (Z a.op),.string (Z a.nm),.string (Z a.tx),.int i64 a.v,.slice B a.args.length y]] w λe u=>e=.returned (.bool a.ok)/\au w u) (A:FuncId) (X:A=168\/A=114):
  Calls prog A #[.agg #[.int i64 a.k,.string (Z a.op),.string (Z a.nm),.string (Z a.tx),.int i64 a.v,.slice B a.args.length y]] w' λe u=>e=.returned (.bool (!a.ok))/\au w' u:=by
 have R:=G F;have o:=G (aa w' (.cells #[.int i64 a.k,.string (Z a.op),.string (Z a.nm),.string (Z a.tx),.int i64 a.v,.slice B a.args.length y] 206));clear F;generalize a.args.length=n at*;rcases X with rfl|rfl
 ·go_enter func168,ntmps168;go_wp2_with (refine(R.out _ o.out).mono ?_;rintro e V ⟨rfl,d⟩;have z:=G (o.out.trans d);clear d);go_ret;exact⟨rfl,z.out⟩
 ·go_enter func114,ntmps114;go_wp2_with (refine(R.out _ o.out).mono ?_;rintro e V ⟨rfl,d⟩;have z:=G (o.out.trans d);clear d);go_ret;exact⟨rfl,z.out⟩
theorem qC: ∀(m:Nat) (x:Ex),x.wt<=m->x.wt<=1073741824-> ∀(P:Nat->Prop) (a:World) (d:Option Addr) (n c:Nat),dS a P (.slice d n c) x.args->
  Calls prog 115 #[.agg #[.int i64 x.k,.string (Z x.op),.string (Z x.nm),.string (Z x.tx),.int i64 x.v,.slice d n c]] a λe w'=>e=.returned (.bool x.ok)/\au a w'
 |0,x,hm,_,_,_,_,_,_,_=>absurd hm (by have:=x.wt_eq;omega)
 |m+1,x,hm,hx,P,a,d,n,c,F=>by
  have ao:=x.wt_eq;have ap:=d7 x.args;have w:=F.len;have y:uf a d n c (r7 x.args):=λw' ah=>by
   refine(C5 (λz=> !z.ok) x.args P w' d n c (F.keep (.of_ext ah) (λ_ V _=>V)) J (λz ae aa B H af=> ?_)).mono ?_
   ·have an:=eE ae;exact rO z aa B H (λad ag=>qC m z J J P ad B _ H (af.keep (.of_ext ag) (λ_ V _=>V))) _ (.inl rfl)
   ·rintro e aa ⟨rfl,h⟩;exact⟨by rw[tB],h⟩
  have o:n<=1073741824:=J
  obtain⟨k,op,nm,tx,v,xs⟩:=x;simp only[Ex.k,Ex.op,Ex.nm,Ex.tx,Ex.v,Ex.args]at*;have u: ∀X,X=Ex.ok (.mk k op nm tx v xs)->Calls prog 115 #[.agg #[.int i64 k,.string (Z op),.string (Z nm),.string (Z tx),.int i64 v,.slice d n c]] a (λe w'=>e=.returned (.bool X)/\au a w')->Calls prog 115 #[.agg #[.int i64 k,.string (Z op),.string (Z nm),.string (Z tx),.int i64 v,.slice d n c]] a λe w'=>e=.returned (.bool (Ex.ok (.mk k op nm tx v xs)))/\au a w':=λX F ai=>by rw[<-F];exact ai
  have G: ∀j:Nat,decide ((n:Int)=(j:Int))=(n==j):=λj=>by rw[jm];simp;omega
  have A:=G 0;have R:=G 1;have I:=G 2;have e0:((0:Nat):Int)=0:=rfl;have am:((1:Nat):Int)=1:=rfl;have al:((2:Nat):Int)=2:=rfl;rw[e0]at A;rw[am]at R;rw[al]at I;by_cases h1:k=1
  ·subst h1;refine u _ ?_ (Jt op nm tx v a d n c o _ y);rw[A,Ex.ok,if_pos rfl,<-w];simp
  by_cases h:k=2
  ·subst h;refine u _ ?_ (Jr op nm tx v a d n c o _ y J);rw[A,Ex.ok,if_neg h1,if_pos rfl,<-w];simp
  by_cases h3:k=3
  ·subst h3;refine u _ ?_ (Jq op nm tx v a d n c o _ y J);rw[A,Ex.ok,if_neg h1,if_neg h,if_pos rfl,<-w];simp
  by_cases h4:k=4
  ·subst h4;refine u _ ?_ (Jp op nm tx v a d n c o _ y J);rw[R,Ex.ok,if_neg h1,if_neg h,if_neg h3,if_pos rfl,<-w];simp
  by_cases h5:k=5
  ·subst h5;refine u _ ?_ (Jo op nm tx v a d n c o _ y J);have aj:decide ((n:Int)<=4)=decide (n<=4):=by rw[jm];simp;omega
   rw[aj,Ex.ok,if_neg h1,if_neg h,if_neg h3,if_neg h4,if_pos rfl,<-w];simp
  by_cases h6:k=6
  ·subst h6;refine u _ ?_ (Jn op nm tx v a d n c o _ y);rw[R,Ex.ok,if_neg h1,if_neg h,if_neg h3,if_neg h4,if_neg h5,if_pos rfl,<-w];simp
  by_cases h7:k=7
  ·subst h7;refine u _ ?_ (Jm op nm tx v a d n c o _ y);rw[I,Ex.ok,if_neg h1,if_neg h,if_neg h3,if_neg h4,if_neg h5,if_neg h6,if_pos rfl,<-w];simp
  ·refine u _ ?_ (Ju k (λi hi aq=>by omega) op nm tx v a d n c o);rw[Ex.ok,if_neg h1,if_neg h,if_neg h3,if_neg h4,if_neg h5,if_neg h6,if_neg h7];rfl
theorem oY {P:Program} (t h ty e:TypeId) (i:TypeInfo) (d:Value) (y:P.underlying t=some (.slice e)) (w:P.underlying h=some (.int i64)) (hi:P.info? e=some i) (u:i.zero=some d) (a:World) (n:Nat) (o:0<n) (z:0<i.size)
  (I:(n:Int)<=1073741824) (H:n*i.bytes<=281474976710656):
  (Builtin.append_ #[t,h] ty #[.slice none 0 0,.int i64 n]).run P a=
   .ok (.slice (some ⟨a.heap.size,0,none⟩) n (grownCap a n 0 e)) (a.drew.alloc (.cells (Builtin.zeroCells d.cells n++Builtin.zeroCells d.cells (grownCap a n 0 e-n)) e)):=by
 have A:n≠0:=J
 have X:IntKind.i64.wrap (n:Int)=n:=Qc
 have V: ¬(n:Int)<0:=J
 have F: ¬(9223372036854775807<(n:Int)):=J
 have R: ¬(281474976710656<Builtin.nextslicecap n 0*i.bytes):=by rw[nextslicecap_zero o];omega
 have G: ¬(281474976710656<(n:Int)*(i.bytes:Int)):=by
  have:(n:Int)*(i.bytes:Int)=((n*i.bytes:Nat):Int):=Qe
  omega
 simp[Builtin.append_,run_underlying y,run_underlying w,sizeOf,typeInfo,zeroValue,hi,u,X,V,A,F,R,G,Question.forced,run_firstCells_none,newRow,grownCap,asInt,asIntOf];intro aa;exact absurd aa (bW (Nat.mul_pos o z))
theorem lx (a:Array Value) (n:Nat):(Builtin.zeroCells a n).size=n*a.size:=by simp[Builtin.zeroCells]
theorem sL {P:Program} {a:World} {ops:Array Oper} {rest:List Oper} {d:Oper} {o:Act} {Q:Exit->Act->World->Prop} {t u e:TypeId} {z F:Nat} {y:Value} (h:nL P t e z F y) (H:P.underlying u=some (.int i64)) (af:d.guard=none) (s x:Operand)
  (ae:d.op=.call {callee:=.builtin .append,args:= #[s,x],argTypes:= #[t,u]}) (base n:Nat) (I:o.eval s=.slice none 0 0) (aa:o.eval x=.int i64 n) (aj:0<n) (al:n<=1073741824) (X:F<=1000) (ah:base<=a.heap.size)
  (Z: ∀g w w',w'.ownsRow base e z (.slice (some ⟨g,0,none⟩) 0 w) 0 []->n<=w->au a w'->wpList P ops Q rest (o.put d.dst (.slice (some ⟨g,0,none⟩) n w)) w'):
  wpList P ops Q (d::rest) o a:=by
 obtain⟨i,hi,V,R,G⟩:=info_parts h.info;have am:n*i.bytes<=n*1000:=gI _ (by rw[G];exact X);have ad:=oY (P:=P) t u d.type e i y h.under H hi V a n aj (by rw[R];exact h.pos) J J;have A:=grownCap_ge a n 0 e;have ag:grownCap a n 0 e<=maxLen:=grownCap_le_maxLen a n 0 e Qh;refine wpList_plain af λK ai=> ?_;unfold Oper.wp execOp;simp only[ae,resolve,invoke,builtin,Sem.run_bind,Sem.run_pure,Result.andThen_ok,dx,bL,dz,I,aa,ad];refine ai _ _ (Z a.heap.size (grownCap a n 0 e) _ ?_ A ((aI a).drew.alloc' _));refine World.ownsRow_made a.drew _ _ ah ag ?_;rw[Array.size_append,lx,lx,h.cells,<-ef,Nat.add_sub_cancel' A]
theorem AZ:nL prog 78 147 5 96 (.agg #[.int i64 0,.string ⟨#[]⟩,.slice none 0 0,.slice none 0 0,.slice none 0 0]):=⟨underlying78,by kernel_rfl,by rfl,by decide⟩
theorem Ck (n:Nat) (w:n<=1073741824) (a:World):Calls prog 164 #[.slice none 0 0,.int i64 (n:Int)] a λe w'=>(∃u c,e=.returned (.slice u 0 c)/\w'.ownsRow a.heap.size 147 5 (.slice u 0 c) 0 [])/\au a w':=by
 have V: ¬(n:Int)<0:=J
 have R:wrap64 (n:Int)=n:=by simp only[wrap64];omega
 have F:IntKind.i64.wrap (n:Int)=n:=Qc
 rcases Nat.eq_zero_or_pos n with rfl|h0
 ·go_enter func164,ntmps164;go_wp2_with fail;go_ret;exact⟨⟨none,0,rfl,World.ownsRow_nil a _ _ 5⟩,aI a⟩
 ·have aa:(0:Int)<n:=J
  go_enter func164,ntmps164;go_wp2_with (at_builtin;refine sL AZ underlying3 rfl _ _ rfl a.heap.size n rfl rfl h0 w Qd (ah _) ?_;intro g I A d X o;have y:=G d;have z:=G o;clear d o);go_ret;exact⟨⟨_,_,rfl,y.out⟩,z.out⟩
theorem eq.svs {d:World} {P:Nat->Prop} {y:Option Addr} {n c:Nat} {l:List St} (A:eq d P (.slice y n c) l):
  ∃q:List SV,q.map (·.s)=l/\q.length=n/\(∀p,p∈q->p.ok d P)/\n<=maxLen/\(n=0\/n<=c/\ ∃b h,y=some ⟨b,h,none⟩/\b<d.heap.size/\ ∀j u,(fp q)[j]? =some u->d.cell? ⟨b,h+j,none⟩=some u):=by
 cases A with
 |nil=>exact⟨[],rfl,rfl,λp o=>(by cases o),by simp[maxLen],.inl rfl⟩
 |row b h n c xs es bs ls hP hb hn hnc hm hc he hs hl=>
  refine⟨List.ofFn (n:=l.length) (λi=>⟨l[i],es i,bs i,ls i⟩),?_,by simpa using hn,?_,by omega,.inr ⟨hnc,b,h,rfl,hb,λj u a=> ?_⟩⟩
  ·apply List.ext_getElem
   ·simp
   ·intro i R G;simp
  ·intro p o;rw[List.mem_ofFn]at o;obtain⟨i,rfl⟩:=o;exact⟨he i i.2,hs i i.2,hl i i.2⟩
  ·have F:j<l.length*5:=by
    have:=(List.getElem?_eq_some_iff.1 a).1;rw[kV]at this;simpa using this
   have hi:j/5<l.length:=J
   have z:j%5<5:=Nat.mod_lt _ J;have w:j=j/5*5+j%5:=J
   rw[w,mw _ (j/5) (by simpa using hi) (j%5) z]at a;obtain⟨aa,c1,c2,X,V⟩:=hc (j/5) hi;rw[w,<-fw];simp only[List.getElem_ofFn]at a;generalize j%5=r at*;have:r=0\/r=1\/r=2\/r=3\/r=4:=J
   rcases this with rfl|rfl|rfl|rfl|rfl<;>(simp only[Ar,cP,dh,io]at a;subst a;assumption)
theorem eq.of_row {d:World} {base:Nat} {e:TypeId} {v:Value} {n:Nat} {q:List SV} {Q:Nat->Prop} (u:d.ownsRow base e 5 v n (fp q)) (z:q.length=n) (G: ∀b,base<=b->Q b) (y: ∀p,p∈q->p.ok d Q):eq d Q v (q.map (·.s)):=by
 rcases u.2 with⟨rfl,R⟩|⟨g,cap,cur,rfl,hb,hg,hnc,hcm,hcs,ht⟩
 ·have:q=[]:=aX J;subst this;exact .nil _ _
 ·have A:g<d.heap.size:=(Array.getElem?_eq_some_iff.1 hg).1;have h: ∀j w,(fp q)[j]? =some w->d.cell? ⟨g,j,none⟩=some w:=λj w o=>by
   rw[cell_of_row d g j cur e (0,0) hg];rw[<-ht,ch]at o;split at o
   ·simpa using o
   ·cases o
  refine .row g 0 n cap _ (λi=>if u:i<q.length then q[i].e else .slice none 0 0) (λi=>if u:i<q.length then q[i].b else .slice none 0 0) (λi=>if u:i<q.length then q[i].l else .slice none 0 0) (G _ hb) A (by simpa using z) hnc hcm (λi hi=> ?_) (λi hi=> ?_) (λi hi=> ?_) (λi hi=> ?_)
  ·have a:i<q.length:=by simpa using hi
   have r:=λk F=>mw q i a k F;have e0:(q.map (·.s))[i]=q[i].s:=Qe
   rw[e0,dif_pos a,dif_pos a,dif_pos a,aE];exact⟨h _ _ (r 0 J),h _ _ (r 1 J),h _ _ (r 2 J),h _ _ (r 3 J),h _ _ (r 4 J)⟩
  all_goals
   have a:i<q.length:=by simpa using hi
   have e0:(q.map (·.s))[i]=q[i].s:=Qe
   rw[e0,dif_pos a]
  ·exact(y _ (ax a)).1
  ·exact(y _ (ax a)).2.1
  ·exact(y _ (ax a)).2.2
theorem za {q:List SV} (d:Value) (a:d∈fp q) (w: ∀p,p∈q-> ∃u b c o e f g h i,p.e=.slice u b c/\p.b=.slice o e f/\p.l=.slice g h i):d.oneCell'=true:=by
 obtain⟨p,y,a⟩:=List.mem_flatMap.1 a;obtain⟨u,b,c,o,e,f,g,h,i,F,A,z⟩:=w p y;simp only[Ar,F,A,z,bV,bF,or_false]at a;rcases a with rfl|rfl|rfl|rfl|rfl<;>rfl
theorem SV.ok.forms {o:World} {P:Nat->Prop} {p:SV} (a:p.ok o P): ∃h b c d e f g a i,p.e=.slice h b c/\p.b=.slice d e f/\p.l=.slice g a i:=by
 obtain⟨h,b,y,_⟩:=a.1.form;obtain⟨c,d,w,_⟩:=a.2.1.form;obtain⟨e,f,u,_⟩:=a.2.2.form;exact⟨_,_,_,_,_,_,_,_,_,y,w,u⟩
theorem pF {P:Program} {a:World} {ops:Array Oper} {rest:List Oper} {d:Oper} {z:Act} {Q:Exit->Act->World->Prop} {t e:TypeId} {o:Nat} {G:Value} (h:nL P t e 5 o G) (aw:d.guard=none) (s x:Operand)
  (ap:d.op=.call {callee:=.builtin .append,args:= #[s,x],argTypes:= #[t,t]}) (base:Nat) (u:Option Addr) (n c:Nat) (xs:List Value) (al:z.eval s=.slice u n c) (F:a.ownsRow base e 5 (.slice u n c) n xs)
  (B:Option Addr) (m y:Nat) (q:List SV) (aH:Nat->Prop) (aj:z.eval x=.slice B m y) (ag:q.length=m) (ao: ∀p,p∈q->p.ok a aH)
  (az:m=0\/m<=y/\ ∃b d,B=some ⟨b,d,none⟩/\b<a.heap.size/\ ∀j A,(fp q)[j]? =some A->a.cell? ⟨b,d+j,none⟩=some A) (aI:n+m<=1073741824) (af:o<=1000) (ai:base<=a.heap.size) (aq:n<=c)
  (aG: ∀C k w',w'.ownsRow base e 5 (.slice C (n+m) k) (n+m) (xs++fp q)->(∀w0,w0.heap.size<=base->au w0 a->au w0 w')->wpList P ops Q rest (z.put d.dst (.slice C (n+m) k)) w'):
  wpList P ops Q (d::rest) z a:=by
 obtain⟨i,hi,ae,H,I⟩:=info_parts h.info;have aA:=World.ownsRow.lt F;have aa: ∀v' w',(Builtin.append_ #[t,t] d.type #[.slice u n c,.slice B m y]).run P a=.ok v' w'->w'.ownsRow base e 5 v' (n+m) (xs++fp q)->a.grownBy w' (Value.ownBlock (.slice u n c))->wpList P ops Q (d::rest) z a:=by
  intro v' w' w ah ax;obtain⟨C,k,rfl⟩: ∃C k,v'=.slice C (n+m) k:=by
   rcases ah.2 with⟨rfl,aF⟩|⟨g,cap,cur,rfl,_⟩
   ·exact⟨none,0,by rw[aF]⟩
   ·exact⟨_,_,rfl⟩
  refine wpList_plain aw λK aB=> ?_;unfold Oper.wp execOp;simp only[ap,resolve,invoke,builtin,Sem.run_bind,Sem.run_pure,Result.andThen_ok,dx,bL,dz,al,aj,w];exact aB _ _ (aG C k w' ah λw0 Z aC=>aC.grown ax (λk ar=>ay Z (aA k ar).1))
 have aE: ∀R∈fp q,R.oneCell'=true:=λR am=>za R am λp an=>(ao p an).forms;rcases az with rfl|⟨hmd,b,o',rfl,hlt,hcell⟩
 ·have:q=[]:=aX ag;subst this;rcases B with _|ad
  ·refine aa (.slice u n c) a ?_ (by simpa[fp]using F) (World.grownBy.refl a _)
   cases u<;>simp[Builtin.append_,run_underlying h.under,sizeOf,typeInfo,hi,Builtin.lenOf,Builtin.firstCells,aq,storeCells]
  ·obtain⟨v',w',w,X,V,_,aD⟩:=run_append_own_at (P:=P) a base t d.type e i G 5 o h.under hi ae H I h.cells h.pos _ n xs F ad 0 y [] Qe Qe Qe Qh (by have:(n+0)*o<=(n+0)*1000:=(gI _ af);omega) ai;exact aa v' w' w (by simpa[fp]using X) V
 ·obtain⟨v',w',w,X,V,_,aD⟩:=run_append_own_at (P:=P) a base t d.type e i G 5 o h.under hi ae H I h.cells h.pos _ n xs F ⟨b,o',none⟩ m y (fp q) (by rw[kV,ag]) (λj A av=>by rw[Addr.add_lit];exact hcell j A av) aE Qh (by
    have:(n+m)*o<=(n+m)*1000:=gI _ af
    omega) ai
  exact aa v' w' w X V
theorem GA {a:World} {h b:Nat} {e:TypeId} {k n:Nat} {v:Value} {xs:List Value} (d:a.ownsRow b e k v n xs) (y:h<=b):a.ownsRow h e k v n xs:=
 ⟨d.1,d.2.imp id fun⟨g,A,z,w,u,o⟩=>⟨g,A,z,w,ay y u,o⟩⟩
def kD {α:Type} (a b c:α):Nat->α|0=>a|1=>b| _=>c
theorem rh (P:Nat->Prop) (a:World) (g:Nat) (aw B:Option Addr) (n m c am:Nat) (ay ax:List St) (al:aO a g 78 #[.slice aw n c,.slice B m am]) (aL:eq a P (.slice aw n c) ay) (aK:eq a P (.slice B m am) ax) (o:n+m<=1073741824):
  Calls prog 112 #[.slice (some ⟨g,0,none⟩) 2 2] a λe w'=>(∃C k,e=.returned (.slice C (n+m) k)/\eq w' (λb=>P b\/a.heap.size<=b) (.slice C (n+m) k) (ay++ax))/\au a w':=by
 obtain⟨R,rfl,aB,aD,a7,aG⟩:=aL.svs;obtain⟨ag,rfl,az,aC,a6,aF⟩:=aK.svs;have ar:=G al;have aP:=G aD;have aN:=G aC;have aW:=G aG;have aV:=G aF;have aT:=al.cell;have aU:=G (aI a);have a5: ¬((n:Int)<0):=J
 have a4: ¬((n:Int)+m<0):=J
 have a2:wrap64 ((n:Int))=n:=by simp only[wrap64];omega
 have a1:wrap64 ((n:Int)+m)=(n+m:Nat):=by simp only[wrap64];omega
 have aZ:IntKind.i64.wrap (n:Int)=n:=Qc
 have aY:IntKind.i64.wrap ((n:Int)+m)=(n+m:Nat):=Qc
 have a3: ¬(((n+m:Nat):Int)<0):=J
 clear aL aK aD aC aG aF al;go_enter func112,ntmps112;go_wp2_with fail
 go_loopw [3,11] (λaf w wr=> ∃(j:Nat),w=.int i64 (j:Int)/\j<=2/\af=.int i64 ((kD 0 n (n+m) j:Nat):Int)/\Hid (au a wr)) (λ_ w _=>2-(intOf w).toNat)
 case atStart=>exact⟨0,rfl,by omega,rfl,aU⟩
 case round=>
  obtain⟨j,rfl,V,rfl,ad⟩:=hrel;have aR:=(ar.out.ext ad.out).cell;clear aT;obtain rfl|rfl|rfl:j=0\/j=1\/j=2:=J
  ·simp only[kD];go_wp2_with fail;go_roundw
   case rel=>exact⟨1,rfl,by omega,by simp,ad⟩
   case measure=>simp[intOf]
  ·simp only[kD];go_wp2_with fail;go_roundw
   case rel=>exact⟨2,rfl,by omega,by simp,ad⟩
   case measure=>simp[intOf]
  ·simp only[kD];go_wp2_with (go_at_call 164;refine(Ck (n+m) o _).mono ?_;rintro e aX ⟨⟨ba,c1,rfl,aH⟩,aJ⟩;have aq:=G (ad.out.trans aJ);have aM:=G (GA aH (dr ad.out));have aS:=(ar.out.ext aq.out).cell;clear aR;clear aH aJ)
   go_loopw [6,27] (λaf w wr=> ∃(j:Nat) (C:Option Addr) (k y:Nat),w=.int i64 (j:Int)/\j<=2/\af=.slice C k y/\k=kD 0 n (n+m) j/\Hid (wr.ownsRow a.heap.size 147 5 (.slice C k y) k (kD [] (fp R) (fp R++fp ag) j))/\Hid (au a wr)) (λ_ w _=>2-(intOf w).toNat)
   case atStart=>exact⟨0,_,_,_,rfl,by omega,rfl,rfl,aM,aq⟩
   case round=>
    obtain⟨j,C,k,y,rfl,V,rfl,F,A,d⟩:=hrel;have a8:=(ar.out.ext d.out).cell;clear aS aM aq;have aE:k<=y:=by
     rcases A.out.2 with⟨Z,a9⟩|⟨g',c',cur,Z,_,_,hle,_⟩
     ·injection Z with H I z;omega
     ·injection Z with H I z;omega
    obtain rfl|rfl|rfl:j=0\/j=1\/j=2:=J
    ·simp only[kD]at F A;obtain rfl:k=0:=F;go_wp2_with (at_builtin;refine pF AZ rfl _ _ rfl a.heap.size C 0 y [] rfl A.out aw n c R P rfl aB (λp u=>(aP.out p u).keep (.of_ext d.out) (λ_ o _=>o)) (aW.out.imp id fun⟨H,b,ai,I,z,an⟩=>⟨H,b,ai,I,aA z d.out.size,λj ae V=>(d.out.cell b _ z).trans (an j ae V)⟩) J Qd d.out.size aE ?_;intro av aj aQ X aa;have ao:=G X;have ap:=G (aa a (ah _) d.out);clear X aa);go_roundw
     case rel=>exact⟨1,av,0+n,aj,rfl,by omega,by simp,by simp[kD],by simpa[kD]using ao,ap⟩
     case measure=>simp[intOf]
    ·simp only[kD]at F A;obtain rfl:k=n:=F;go_wp2_with (at_builtin;refine pF AZ rfl _ _ rfl a.heap.size C k y (fp R) rfl A.out B m am ag P rfl az (λp u=>(aN.out p u).keep (.of_ext d.out) (λ_ o _=>o)) (aV.out.imp id fun⟨H,b,ai,I,z,an⟩=>⟨H,b,ai,I,aA z d.out.size,λj ae V=>(d.out.cell b _ z).trans (an j ae V)⟩) J Qd d.out.size aE ?_;intro av aj aQ X aa;have ao:=G X;have ap:=G (aa a (ah _) d.out);clear X aa);go_roundw
     case rel=>exact⟨2,av,k+m,aj,rfl,by omega,rfl,by simp[kD],by simpa[kD]using ao,ap⟩
     case measure=>simp[intOf]
    ·simp only[kD]at F A;subst F;go_wp2_with fail;go_ret;refine⟨⟨C,y,rfl,?_⟩,d.out⟩
     have:=eq.of_row (q:=R++ag) (Q:=λb=>P b\/a.heap.size<=b) (by rw[rW];exact A.out) (by simp[aB,az]) (λb o=> .inr o) (λp u=>by
      rcases List.mem_append.1 u with u|u
      ·exact(aP.out p u).keep (.of_ext d.out) (λ_ o _=> .inl o)
      ·exact(aN.out p u).keep (.of_ext d.out) (λ_ o _=> .inl o))
     simpa using this
theorem zP {l:List St} {j:Nat} (a:j<l.length):iF (l.take (j+1))=max (iF (l.take j)) l[j].dep:=by
 rw[aT a,me];simp[iF]
theorem zQ (l:List Ex) (j:Nat):ie (l.take j)<=ie l:=by
 have:=oJ (l.take j) (l.drop j);rw[df]at this;omega
theorem zO (l:List St) (j:Nat):iF (l.take j)<=iF l:=by
 have:=me (l.take j) (l.drop j);rw[df]at this;omega
theorem uI: ∀(m:Nat) (x:St),x.wt<=m->x.wt<=1073741824-> ∀(P:Nat->Prop) (u:World) (H B C:Option Addr) (n c o F d A:Nat),dS u P (.slice H n c) x.ex->eq u P (.slice B o F) x.body->eq u P (.slice C d A) x.els->
  Calls prog 60 #[.agg #[.int i64 x.k,.string (Z x.nm),.slice H n c,.slice B o F,.slice C d A]] u λe w'=>e=.returned (.int i64 (x.dep:Int))/\au u w'
 |0,x,hm,_,_,_,_,_,_,_,_,_,_,_,_,_,_,_=>absurd hm (by have:=x.wt_eq;omega)
 |m+1,x,hm,hx,P,u,H,B,C,n,c,o,F,d,A,hR,hRb,hRl=>by
  have aQ:=G (x.dep_eq);have bJ:=x.wt_eq;have aG:=hR.len;have aH:=hRb.len;have aF:=hRl.len;have bN:=d7 x.ex;have bP:=fx x.body;have bL:=fx x.els;have bU:=oI x.ex;have bV:=oH x.body;have bT:=oH x.els;have aW: ∀z,z∈x.body++x.els->z.wt<=m/\z.wt<=1073741824:=λz aV=>by
   rcases List.mem_append.1 aV with az|az
   ·have:=cM az;omega
   ·have:=cM az;omega
  have bu:=G (uI m);obtain⟨k,nm,xs,y,w⟩:=x;simp only[St.k,St.nm,St.ex,St.body,St.els]at*;have bo:=G hR;have bm:=G hRb;have bk:=G hRl;have bw:=G (aa u (.cells #[.int i64 k,.string (Z nm),.slice H n c,.slice B o F,.slice C d A] 147));have bz:=G (aq u 147 #[.int i64 k,.string (Z nm),.slice H n c,.slice B o F,.slice C d A]);have aP:=G aG;have bt:=G aH;have br:=G aF;have bM:n<=dU xs:=J
  have bO:o<=eX y:=J
  have bK:d<=eX w:=J
  clear hR hRb hRl aG aH aF;go_enter func60,ntmps60;go_wp2_with fail
  go_loopw [3,11] (λal X wr=> ∃(j:Nat),X=.int i64 (j:Int)/\j<=n/\al=.int i64 (ie (xs.take j):Int)/\Hid (au u wr)/\Hid (aO wr u.heap.size 147 #[.int i64 k,.string (Z nm),.slice H n c,.slice B o F,.slice C d A])) (λ_ X _=>n-(intOf X).toNat)
  case atStart=>exact⟨0,rfl,aD _,by simp[ie],bw,bz⟩
  case round=>
   obtain⟨j,rfl,bQ,rfl,V,aR⟩:=hrel;have a3:=zQ xs j;by_cases hlt:j<n
   ·have aY:(j:Int)<n:=J
    have an:j<xs.length:=by have:=aP.out;omega
    obtain⟨b,aU,bY,rfl,a,a7,ai,ag,af,ae,ad,aL,aw⟩:=bo.out.at_ j an;have aB:=G (sw an);have bH:=eE (ax an);generalize xs[j]=z at*;have e0:=(V.out.cell b _ a).trans ai;have bc:=(V.out.cell b _ a).trans ag;have bb:=(V.out.cell b _ a).trans af;have ba:=(V.out.cell b _ a).trans ae;have a9:=(V.out.cell b _ a).trans ad;have bX:=(V.out.cell b _ a).trans aL;obtain⟨D,bg,rfl,_⟩:=aw.form;have bn:=G (aw.keep (.of_ext V.out) (Q:=P) (λb a _=>a));have a2:=z.dep_le;clear ai ag af ae ad aL aw;go_wp2_with (go_at_call 111;refine(yq _ z (ah _) J P _ D _ bg (bn.out.keep (.of_ext (aa _ _)) (λb a _=>a))).mono ?_;rintro e aS ⟨rfl,I⟩;have aA:=G ((V.out.alloc' _).trans I);have bx:=G ((aR.out.ext (aa _ _)).ext I);clear I);go_roundw
    case rel=>exact⟨j+1,by go_num,by omega,by rw[aB.out];congr 1;omega,aA,bx⟩
    case measure=>simp[intOf];omega
   ·have aY: ¬(j:Int)<n:=J
    have aZ:j=n:=J
    subst aZ;have bq:=G (show ie (xs.take j)=ie xs by rw[aP.out,b6]);rw[bq.out]at a3⊢;have a6:=aR.out.cell;have aC:=G (V.out.alloc' (.cells #[.slice B o F,.slice C d A] 78));have bA:=G (aq wr 78 #[.slice B o F,.slice C d A]);go_wp2_with (go_at_call 112;refine(rh P _ _ B C o d F A y w bA.out (bm.out.keep (.of_ext aC.out) (λ_ a _=>a)) (bk.out.keep (.of_ext aC.out) (λ_ a _=>a)) J).mono ?_;rintro e aT ⟨⟨D,bG,rfl,aJ⟩,aK⟩;have bv:=G (aC.out.trans aK);have aN:=G aJ;clear aK aJ);generalize bW:(λb=>P b\/(wr.alloc (.cells #[.slice B o F,.slice C d A] 78)).heap.size<=b)=Q at*;have ay:(y++w).length=o+d:=by have:=bt.out;have:=br.out;simp;omega
    obtain⟨N,a8⟩: ∃N,o+d=N:=⟨_,rfl⟩
    rw[a8]at aN ay⊢;have bS:=me y w;clear a6
    go_loopw [3,27] (λal X aE=> ∃(i:Nat),X=.int i64 (i:Int)/\i<=N/\al=.int i64 ((max (ie xs) (iF ((y++w).take i)):Nat):Int)/\Hid (au u aE)/\Hid (au aT aE)) (λ_ X _=>N-(intOf X).toNat)
    case atStart=>exact⟨0,rfl,aD _,by simp[iF],bv,G (aI _)⟩
    case round=>
     obtain⟨i,rfl,hi,rfl,aM,R⟩:=hrel;have a4:=zO (y++w) i;by_cases hlt2:i<N
     ·have aX:(i:Int)<N:=J
      have ao:i<(y++w).length:=J
      obtain⟨b,aU,bF,v,bE,rfl,a,a7,ai,ag,af,ae,ad,av,ar,ap⟩:=aN.out.at_ i ao;have aB:=G (zP ao);have am:=aW _ (ax ao);generalize (y++w)[i]=z at*;have e0:=(R.out.cell b _ a).trans ai;have bc:=(R.out.cell b _ a).trans ag;have bb:=(R.out.cell b _ a).trans af;have ba:=(R.out.cell b _ a).trans ae;have a9:=(R.out.cell b _ a).trans ad;obtain⟨bD,bf,rfl,_⟩:=av.form;obtain⟨bC,be,rfl,_⟩:=ar.form;obtain⟨bB,bd,rfl,_⟩:=ap.form;have bl:=G (av.keep (.of_ext R.out) (Q:=Q) (λb a _=>a));have bj:=G (ar.keep (.of_ext R.out) (Q:=Q) (λb a _=>a));have bi:=G (ap.keep (.of_ext R.out) (Q:=Q) (λb a _=>a));have a2:=z.dep_le;have bR:=am.2;clear ai ag af ae ad av ar ap;go_wp2_with (go_at_call 60;refine(bu.out z am.1 am.2 Q _ bD bC bB _ bf _ be _ bd (bl.out.keep (.of_ext (aa _ _)) (λb a _=>a)) (bj.out.keep (.of_ext (aa _ _)) (λb a _=>a)) (bi.out.keep (.of_ext (aa _ _)) (λb a _=>a))).mono ?_;rintro e aS ⟨rfl,I⟩;have aA:=G ((aM.out.alloc' _).trans I);have bh:=G ((R.out.alloc' _).trans I);clear I);go_roundw
      case rel=>exact⟨i+1,by go_num,by omega,by rw[aB.out];congr 1;omega,aA,bh⟩
      case measure=>simp[intOf];omega
     ·have aX: ¬(i:Int)<N:=J
      have a1:i=N:=J
      subst a1;have bp:=G (show iF ((y++w).take i)=max (iF y) (iF w) by rw[<-ay,b6,me]);rw[bp.out]at a4⊢;obtain⟨aj,a5⟩: ∃aj,max (ie xs) (max (iF y) (iF w))=aj:=⟨_,rfl⟩
      rw[a5]at aQ⊢;have bI:IntKind.i64.wrap ((aj:Int)+1)=aj+1:=Qc
      clear ay;go_wp2_with fail;go_ret;exact⟨by rw[aQ.out];rfl,aM.out⟩
def ru:=@Ex.wt_eq
end
end Go.Proofs.YtoedmpgicdekmaaGreatDoor
