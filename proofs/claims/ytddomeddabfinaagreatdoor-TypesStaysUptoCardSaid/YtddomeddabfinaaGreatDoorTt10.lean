/- Parts of the proof. -/
import Derived.Test.YtddomeddabfinaaGreatDoorTt00
import Derived.Test.YtddomeddabfinaaGreatDoorTt07
import Derived.Test.YtddomeddabfinaaGreatDoorTt09
import Derived.Test.YtddomeddabfinaaGreatDoorTt01
set_option maxRecDepth 100000
set_option maxHeartbeats 8000000
set_option linter.unusedVariables false
set_option linter.unusedSimpArgs false
set_option linter.unusedSectionVars false
namespace Go.Proofs.YtddomeddabfinaaGreatDoor
open IntKind(i64)
open Go.Proofs.Tryz
section
open Go.RowKit
mutual
def Ex.wt:Ex->Nat| .mk _ op nm tx _ a=>1+op.length+nm.length+tx.length+gA a
def gA:List Ex->Nat| []=>0|x::r=>x.wt+gA r
end
mutual
def St.wt:St->Nat| .mk _ nm e b l=>1+nm.length+gA e+fP b+fP l
def fP:List St->Nat| []=>0|x::r=>x.wt+fP r
end
theorem Ex.wt_eq (x:Ex):x.wt=1+x.op.length+x.nm.length+x.tx.length+gA x.args:=by cases x;rfl
theorem St.wt_eq (x:St):x.wt=1+x.nm.length+gA x.ex+fP x.body+fP x.els:=by cases x;rfl
theorem rP: ∀a b,gA (a++b)=gA a+gA b
 | [],b=>by simp[gA]
 |x::r,b=>by simp[gA,rP r b];omega
theorem wl: ∀a b,fP (a++b)=fP a+fP b
 | [],b=>by simp[fP]
 |x::r,b=>by simp[fP,wl r b];omega
theorem dG {x:Ex}: ∀{l:List Ex},x∈l->x.wt<=gA l
 |y::r,h=>by
  rcases List.mem_cons.1 h with rfl|h
  ·simp[gA]
  ·have:=dG h;simp[gA];omega
theorem bO {x:St}: ∀{l:List St},x∈l->x.wt<=fP l
 |y::r,h=>by
  rcases List.mem_cons.1 h with rfl|h
  ·simp[fP]
  ·have:=bO h;simp[fP];omega
theorem dH: ∀l,l.length<=gA l
 | []=>ak _
 |x::r=>by have:=dH r;have:=x.wt_eq;simp[gA];omega
theorem dF: ∀l,l.length<=fP l
 | []=>ak _
 |x::r=>by have:=dF r;have:=x.wt_eq;simp[fP];omega
mutual
def Ex.dep:Ex->Nat| .mk _ _ _ _ _ a=>gR a+1
def gR:List Ex->Nat| []=>0|x::r=>max x.dep (gR r)
end
mutual
def St.dep:St->Nat| .mk _ _ e b l=>max (gR e) (max (ie b) (ie l))+1
def ie:List St->Nat| []=>0|x::r=>max x.dep (ie r)
end
theorem Ex.dep_eq (x:Ex):x.dep=gR x.args+1:=by cases x;rfl
theorem St.dep_eq (x:St):x.dep=max (gR x.ex) (max (ie x.body) (ie x.els))+1:=by cases x;rfl
theorem nE: ∀a b,gR (a++b)=max (gR a) (gR b)
 | [],b=>by simp[gR]
 |x::r,b=>by simp[gR,nE r b,Nat.max_assoc]
theorem l_: ∀a b,ie (a++b)=max (ie a) (ie b)
 | [],b=>by simp[ie]
 |x::r,b=>by simp[ie,l_ r b,Nat.max_assoc]
mutual
theorem Ex.dep_le: ∀x:Ex,x.dep<=x.wt
 | .mk _ _ _ _ _ a=>by have:=nD a;simp only[Ex.dep,Ex.wt];omega
theorem nD: ∀l:List Ex,gR l<=gA l
 | []=>ak _
 |x::r=>by have:=x.dep_le;have:=nD r;simp only[gR,gA];omega
end
mutual
theorem St.dep_le: ∀x:St,x.dep<=x.wt
 | .mk _ _ e b l=>by have:=nD e;have:=nC b;have:=nC l;simp only[St.dep,St.wt];omega
theorem nC: ∀l:List St,ie l<=fP l
 | []=>ak _
 |x::r=>by have:=x.dep_le;have:=nC r;simp only[ie,fP];omega
end
def qA (l:List UInt8):Bool:=l.all vB&&decide (l.length<=128)
mutual
def Ex.ok:Ex->Bool
 | .mk k op nm tx v a=>
  (if k=1 then(decide (0<=v)&&decide (v<=2147483647))&&(op==[]&&nm==[]&&tx==[])&&a.length==0
  else if k=2 then qA tx&&(op==[]&&nm==[]&&v==0)&&a.length==0
  else if k=3 then dY nm&&(op==[]&&tx==[]&&v==0)&&a.length==0
  else if k=4 then dY nm&&(op==[]&&tx==[]&&v==0)&&a.length==1
  else if k=5 then(dY nm&&decide (a.length<=4))&&(op==[]&&tx==[]&&v==0)
  else if k=6 then(op==[45]||op==[33])&&(nm==[]&&tx==[]&&v==0)&&a.length==1
  else if k=7 then decide (0<im op)&&(nm==[]&&tx==[]&&v==0)&&a.length==2
  else false)&&sW a
def sW:List Ex->Bool| []=>true|x::r=>x.ok&&sW r
end
theorem kY: ∀l,sW l=l.all Ex.ok
 | []=>rfl
 |x::r=>by simp[sW,kY r]
mutual
def St.ok:St->Bool
 | .mk k nm e b l=>
  (if k=1 then dY nm&&decide (e.length<=1)&&b.length==0&&l.length==0
  else if k=2 then dY nm&&e.length==1&&b.length==0&&l.length==0
  else if k=3 then dY nm&&e.length==2&&b.length==0&&l.length==0
  else if k=4 then nm==[]&&e.length==1
  else if k=5 then nm==[]&&e.length==1&&l.length==0
  else if k=6 then nm==[]&&decide (e.length<=1)&&b.length==0&&l.length==0
  else if k=7 then nm==[]&&e.length==1&&(e.head?.map Ex.k==some 5)&&b.length==0&&l.length==0
  else false)&&sW e&&(qv b&&qv l)
def qv:List St->Bool| []=>true|x::r=>x.ok&&qv r
end
theorem ib: ∀l,qv l=l.all St.ok
 | []=>rfl
 |x::r=>by simp[qv,ib r]
end
section
open Go.RowKit
theorem rz {l:List Ex} {a:Nat} (h:a<l.length):gR (l.take (a+1))=max (gR (l.take a)) l[a].dep:=by
 rw[aX h,nE];simp[gR]
theorem xp: ∀(m:Nat) (x:Ex),x.wt<=m->x.wt<=1073741824-> ∀(P:Nat->Prop) (w:World) (G:Option Addr) (n c:Nat),c7 w P (.slice G n c) x.args->
  Calls prog 111 #[.agg #[.int i64 x.k,.string (J x.op),.string (J x.nm),.string (J x.tx),.int i64 x.v,.slice G n c]] w λe w'=>e=.returned (.int i64 (x.dep:Int))/\az w w'
 |0,x,hm,_,_,_,_,_,_,_=>absurd hm (by have:=x.wt_eq;omega)
 |m+1,x,hm,hx,P,w,G,n,c,hR=>by
  have aC:=O (x.dep_eq);have aH:=x.wt_eq;have an: ∀y,y∈x.args->y.wt<=m:=λy ah=>by have:=dG ah;omega
  have aM:=nD x.args;have aJ:=dH x.args;have aA:=O (xp m);obtain⟨k,op,nm,tx,v,xs⟩:=x;simp only[Ex.k,Ex.op,Ex.nm,Ex.tx,Ex.v,Ex.args]at*;obtain⟨aW,aU,al,aq⟩:=hR.form;injection al with ak aj ai;subst ak aj ai;have ae:=O hR;obtain⟨N,A⟩: ∃N,xs.length=N:=⟨_,rfl⟩
  rw[A]at ae;have aB:=O (Z w (.cells #[.int i64 k,.string (J op),.string (J nm),.string (J tx),.int i64 v,.slice G N c] 70));clear hR aq;rw[A];go_enter func111,ntmps111;go_wp2_with fail
  go_loopw [3,9] (λaf K wr=> ∃(a:Nat),K=.int i64 (a:Int)/\a<=N/\af=.int i64 (gR (xs.take a):Int)/\Hid (az w wr)) (λ_ K _=>N-(intOf K).toNat)
  case atStart=>exact⟨0,rfl,aI _,by simp[gR],aB⟩
  case round=>
   obtain⟨a,rfl,aK,rfl,o⟩:=hrel;have ar:gR (xs.take a)<=1073741824:=by
    have:=nE (xs.take a) (xs.drop a);rw[dm]at this;omega
   by_cases hlt:a<N
   ·have ao:(a:Int)<N:=Qa
    have z:a<xs.length:=Qa
    obtain⟨b,aE,aV,rfl,j,aN,ad,ac,ab,I,X,V,M⟩:=ae.out.at_ a z;have av:=O (rz z);have aF:=dG (ay z);have ag:=an _ (ay z);generalize xs[a]=y at*;have aT:=(o.out.cell b _ j).trans ad;have aS:=(o.out.cell b _ j).trans ac;have aR:=(o.out.cell b _ j).trans ab;have aQ:=(o.out.cell b _ j).trans I;have aP:=(o.out.cell b _ j).trans X;have aO:=(o.out.cell b _ j).trans V;obtain⟨B,d,rfl,_⟩:=M.form;have aw:=O (M.keep (.of_ext o.out) (Q:=P) (λb j _=>j));have aL:=y.dep_le;clear ad ac ab I X V M;go_wp2_with (go_at_call 111;refine(aA.out y ag Qa P _ B _ d (aw.out.keep (.of_ext (Z _ _)) (λb j _=>j))).mono ?_;rintro e aD ⟨rfl,R⟩;have au:=O ((o.out.alloc' _).trans R);clear R);go_roundw
    case rel=>exact⟨a+1,by go_num,by omega,by rw[av.out];congr 1;omega,au⟩
    case measure=>simp[intOf];omega
   ·have ao: ¬(a:Int)<N:=Qa
    have ap:a=N:=Qa
    subst ap;have ax:=O (show gR (xs.take a)=gR xs by rw[<-A,bU]);rw[ax.out]at ar⊢;have aG:IntKind.i64.wrap ((gR xs:Int)+1)=gR xs+1:=Qf
    clear A;go_wp2_with fail;go_ret;exact⟨by rw[aC.out];rfl,o.out⟩
theorem iz {α:Type} (p:α->Bool) {l:List α} {a:Nat} (h:a<l.length):(l.take (a+1)).any p=((l.take a).any p||p l[a]):=by
 rw[aX h,List.any_append,j7,List.any_nil,mI]
theorem nJ {α:Type} (p:α->Bool) {l:List α} {a:Nat} (j:a<l.length) (h:p l[a]=true):l.any p=true:=by
 rw[List.any_eq_true];exact⟨l[a],ay j,h⟩
theorem mQ.len {a:World} {P:Nat->Prop} {o:Option Addr} {n c:Nat} {ls:List (List UInt8)} (j:mQ a P (.slice o n c) ls):n=ls.length:=by
 obtain⟨K,G,h,_⟩:=j;injection h with A z w
theorem c7.len {a:World} {P:Nat->Prop} {o:Option Addr} {n c:Nat} {ls:List Ex} (j:c7 a P (.slice o n c) ls):n=ls.length:=by
 obtain⟨K,G,h,_⟩:=j.form;injection h with A z w
theorem db.len {a:World} {P:Nat->Prop} {o:Option Addr} {n c:Nat} {ls:List St} (j:db a P (.slice o n c) ls):n=ls.length:=by
 obtain⟨K,G,h,_⟩:=j.form;injection h with A z w
theorem EW {j:World} {P:Nat->Prop} {w:Option Addr} {n c:Nat} {ls:List (List UInt8)} (a:mQ j P (.slice w n c) ls) (i:Nat) (o:i<ls.length):
  ∃b h,w=some ⟨b,h,none⟩/\b<j.heap.size/\j.cell? ⟨b,h+i,none⟩=some (.string (J ls[i])):=by
 obtain⟨V,R,z,a⟩:=a;injection z with K O M;rcases a with a|a
 ·subst a;simp at o
 ·obtain⟨_,_,b,h,ha,_,G,A⟩:=a;exact⟨b,h,by rw[K];exact ha,G,A i o⟩
theorem Be (p:Ex->Bool) (xs:List (Ex)) (P:Nat->Prop) (w:World) (aj:Option Addr) (n c:Nat) (V:c7 w P (.slice aj n c) xs) (aD:xs.length<=1073741824)
  (ab: ∀y,y∈xs-> ∀(w':World) (B:Option Addr) (d:Nat),c7 w' P (.slice B y.args.length d) y.args->Calls prog 154 #[.agg #[.int i64 y.k,.string (J y.op),.string (J y.nm),.string (J y.tx),.int i64 y.v,.slice B y.args.length d]] w' λe al=>e=.returned (.bool (p y))/\az w' al):
  Calls prog 151 #[.slice aj n c,.func (Fn.func 154) #[] #[]] w λe w'=>(∃r:Int,e=.returned (.int i64 r)/\decide (0<=r)=xs.any p)/\az w w':=by
 have an:=V.len;obtain⟨N,aq⟩: ∃N,xs.length=N:=⟨_,rfl⟩
 obtain rfl:n=N:=Qa
 have aw:=O V;have aA:=O ab;have aB:=O (aS w);clear V ab an;go_enter func151,ntmps151;go_wp2_with fail
 go_loopw [8] (λM wr=> ∃(a:Nat),M=.int i64 (a:Int)/\a<=n/\Hid ((xs.take a).any p=false)/\Hid (az w wr)) (λM _=>n-(intOf M).toNat)
 case atStart=>exact⟨0,rfl,aI _,O Qd,aB⟩
 case round=>
  obtain⟨a,rfl,aE,ai,j⟩:=hrel;by_cases hlt:a<n
  ·have ao:(a:Int)<n:=Qa
   have G:a<xs.length:=Qa
   obtain⟨b,aC,aN,rfl,o,aF,ah,ag,af,ae,ad,ac,R⟩:=aw.out.at_ a G;have au:=O (iz p G);have ax:=O (λar=>nJ p G ar);have I:=aA.out _ (ay G);generalize xs[a]=y at*;have aM:=(j.out.cell b _ o).trans ah;have aL:=(j.out.cell b _ o).trans ag;have aK:=(j.out.cell b _ o).trans af;have aJ:=(j.out.cell b _ o).trans ae;have aH:=(j.out.cell b _ o).trans ad;have aG:=(j.out.cell b _ o).trans ac;obtain⟨B,d,rfl,_⟩:=R.form;have av:=O (R.keep (.of_ext j.out) (Q:=P) (λb o _=>o));clear R;have K:=O (I wr B d av.out);clear ah ag af ae ad ac;clear I
   cases hp:p y with
   |true=>
    rw[hp]at K;have A:=O (ax.out hp);clear hp;go_wp2_with (refine K.out.mono ?_;rintro e ak ⟨rfl,z⟩;have X:=O (j.out.trans z);clear z);go_ret;exact⟨⟨a,rfl,by rw[A.out];simp⟩,X.out⟩
   |false=>
    rw[hp]at K;have A:=O (show(xs.take (a+1)).any p=false by rw[au.out,ai.out,hp];rfl);clear hp;go_wp2_with (refine K.out.mono ?_;rintro e ak ⟨rfl,z⟩;have X:=O (j.out.trans z);clear z);go_roundw
    case rel=>exact⟨a+1,by go_num,by omega,A,X⟩
    case measure=>simp[intOf];omega
  ·have ao: ¬(a:Int)<n:=Qa
   have ap:a=n:=Qa
   subst ap;have A:=O (show xs.any p=false by have:=ai.out;rwa [<-aq,bU]at this);go_wp2_with fail;go_ret;exact⟨⟨-1,rfl,by rw[A.out];rfl⟩,j.out⟩
theorem BE (p:Ex->Bool) (xs:List (Ex)) (P:Nat->Prop) (a:World) (j:Option Addr) (n c:Nat) (z:c7 a P (.slice j n c) xs) (K:xs.length<=1073741824)
  (w: ∀y,y∈xs-> ∀(w':World) (B:Option Addr) (d:Nat),c7 w' P (.slice B y.args.length d) y.args->Calls prog 154 #[.agg #[.int i64 y.k,.string (J y.op),.string (J y.nm),.string (J y.tx),.int i64 y.v,.slice B y.args.length d]] w' λe G=>e=.returned (.bool (p y))/\az w' G):
  Calls prog 113 #[.slice j n c,.func (Fn.func 154) #[] #[]] a λe w'=>e=.returned (.bool (xs.any p))/\az a w':=by
 have V:=O (Be p xs P a j n c z K w);clear z w;go_enter func113,ntmps113;go_wp2_with (refine V.out.mono ?_;rintro e X ⟨⟨r,rfl,o⟩,A⟩;have R:=O o;have M:=O A;clear A o);go_ret;exact⟨by rw[<-R.out];rfl,M.out⟩
theorem yG (p:Ex->Bool) (xs:List (Ex)) (P:Nat->Prop) (w:World) (aj:Option Addr) (n c:Nat) (V:c7 w P (.slice aj n c) xs) (aD:xs.length<=1073741824)
  (ab: ∀y,y∈xs-> ∀(w':World) (B:Option Addr) (d:Nat),c7 w' P (.slice B y.args.length d) y.args->Calls prog 114 #[.agg #[.int i64 y.k,.string (J y.op),.string (J y.nm),.string (J y.tx),.int i64 y.v,.slice B y.args.length d]] w' λe al=>e=.returned (.bool (p y))/\az w' al):
  Calls prog 151 #[.slice aj n c,.func (Fn.func 114) #[] #[]] w λe w'=>(∃r:Int,e=.returned (.int i64 r)/\decide (0<=r)=xs.any p)/\az w w':=by
 have an:=V.len;obtain⟨N,aq⟩: ∃N,xs.length=N:=⟨_,rfl⟩
 obtain rfl:n=N:=Qa
 have aw:=O V;have aA:=O ab;have aB:=O (aS w);clear V ab an;go_enter func151,ntmps151;go_wp2_with fail
 go_loopw [8] (λM wr=> ∃(a:Nat),M=.int i64 (a:Int)/\a<=n/\Hid ((xs.take a).any p=false)/\Hid (az w wr)) (λM _=>n-(intOf M).toNat)
 case atStart=>exact⟨0,rfl,aI _,O Qd,aB⟩
 case round=>
  obtain⟨a,rfl,aE,ai,j⟩:=hrel;by_cases hlt:a<n
  ·have ao:(a:Int)<n:=Qa
   have G:a<xs.length:=Qa
   obtain⟨b,aC,aN,rfl,o,aF,ah,ag,af,ae,ad,ac,R⟩:=aw.out.at_ a G;have au:=O (iz p G);have ax:=O (λar=>nJ p G ar);have I:=aA.out _ (ay G);generalize xs[a]=y at*;have aM:=(j.out.cell b _ o).trans ah;have aL:=(j.out.cell b _ o).trans ag;have aK:=(j.out.cell b _ o).trans af;have aJ:=(j.out.cell b _ o).trans ae;have aH:=(j.out.cell b _ o).trans ad;have aG:=(j.out.cell b _ o).trans ac;obtain⟨B,d,rfl,_⟩:=R.form;have av:=O (R.keep (.of_ext j.out) (Q:=P) (λb o _=>o));clear R;have K:=O (I wr B d av.out);clear ah ag af ae ad ac;clear I
   cases hp:p y with
   |true=>
    rw[hp]at K;have A:=O (ax.out hp);clear hp;go_wp2_with (refine K.out.mono ?_;rintro e ak ⟨rfl,z⟩;have X:=O (j.out.trans z);clear z);go_ret;exact⟨⟨a,rfl,by rw[A.out];simp⟩,X.out⟩
   |false=>
    rw[hp]at K;have A:=O (show(xs.take (a+1)).any p=false by rw[au.out,ai.out,hp];rfl);clear hp;go_wp2_with (refine K.out.mono ?_;rintro e ak ⟨rfl,z⟩;have X:=O (j.out.trans z);clear z);go_roundw
    case rel=>exact⟨a+1,by go_num,by omega,A,X⟩
    case measure=>simp[intOf];omega
  ·have ao: ¬(a:Int)<n:=Qa
   have ap:a=n:=Qa
   subst ap;have A:=O (show xs.any p=false by have:=ai.out;rwa [<-aq,bU]at this);go_wp2_with fail;go_ret;exact⟨⟨-1,rfl,by rw[A.out];rfl⟩,j.out⟩
theorem yR (p:Ex->Bool) (xs:List (Ex)) (P:Nat->Prop) (a:World) (j:Option Addr) (n c:Nat) (z:c7 a P (.slice j n c) xs) (K:xs.length<=1073741824)
  (w: ∀y,y∈xs-> ∀(w':World) (B:Option Addr) (d:Nat),c7 w' P (.slice B y.args.length d) y.args->Calls prog 114 #[.agg #[.int i64 y.k,.string (J y.op),.string (J y.nm),.string (J y.tx),.int i64 y.v,.slice B y.args.length d]] w' λe G=>e=.returned (.bool (p y))/\az w' G):
  Calls prog 113 #[.slice j n c,.func (Fn.func 114) #[] #[]] a λe w'=>e=.returned (.bool (xs.any p))/\az a w':=by
 have V:=O (yG p xs P a j n c z K w);clear z w;go_enter func113,ntmps113;go_wp2_with (refine V.out.mono ?_;rintro e X ⟨⟨r,rfl,o⟩,A⟩;have R:=O o;have M:=O A;clear A o);go_ret;exact⟨by rw[<-R.out];rfl,M.out⟩
theorem Bb (p:St->Bool) (xs:List (St)) (P:Nat->Prop) (w:World) (ao:Option Addr) (n c:Nat) (ad:db w P (.slice ao n c) xs) (aJ:xs.length<=1073741824)
  (ag: ∀y,y∈xs-> ∀(w':World) (B V R:Option Addr) (d d' K:Nat),(c7 w' P (.slice B y.ex.length d) y.ex/\db w' P (.slice V y.body.length d') y.body/\db w' P (.slice R y.els.length K) y.els)->Calls prog 117 #[.agg #[.int i64 y.k,.string (J y.nm),.slice B y.ex.length d,.slice V y.body.length d',.slice R y.els.length K]] w' λe aq=>e=.returned (.bool (p y))/\az w' aq):
  Calls prog 155 #[.slice ao n c,.func (Fn.func 117) #[] #[]] w λe w'=>(∃r:Int,e=.returned (.int i64 r)/\decide (0<=r)=xs.any p)/\az w w':=by
 have ar:=ad.len;obtain⟨N,aw⟩: ∃N,xs.length=N:=⟨_,rfl⟩
 obtain rfl:n=N:=Qa
 have aC:=O ad;have aE:=O ag;have aF:=O (aS w);clear ad ag ar;go_enter func155,ntmps155;go_wp2_with fail
 go_loopw [8] (λX wr=> ∃(a:Nat),X=.int i64 (a:Int)/\a<=n/\Hid ((xs.take a).any p=false)/\Hid (az w wr)) (λX _=>n-(intOf X).toNat)
 case atStart=>exact⟨0,rfl,aI _,O Qd,aF⟩
 case round=>
  obtain⟨a,rfl,aK,an,o⟩:=hrel;by_cases hlt:a<n
  ·have au:(a:Int)<n:=Qa
   have G:a<xs.length:=Qa
   obtain⟨b,aH,u,v,aG,rfl,j,aL,al,ak,aj,ai,ah,ac,ab,I⟩:=aC.out.at_ a G;have aA:=O (iz p G);have aD:=O (λax=>nJ p G ax);have af:=aE.out _ (ay G);generalize xs[a]=y at*;have aQ:=(o.out.cell b _ j).trans al;have aP:=(o.out.cell b _ j).trans ak;have aO:=(o.out.cell b _ j).trans aj;have aN:=(o.out.cell b _ j).trans ai;have aM:=(o.out.cell b _ j).trans ah;obtain⟨B,d,rfl,_⟩:=ac.form;obtain⟨V,d',rfl,_⟩:=ab.form;obtain⟨R,K,rfl,_⟩:=I.form;have aB:=O (show c7 wr P _ _/\db wr P _ _/\db wr P _ _ from⟨ac.keep (.of_ext o.out) (λb j _=>j),ab.keep (.of_ext o.out) (λb j _=>j),I.keep (.of_ext o.out) (λb j _=>j)⟩);clear ac ab I;have M:=O (af wr B V R d d' K aB.out);clear al ak aj ai ah;clear af
   cases hp:p y with
   |true=>
    rw[hp]at M;have A:=O (aD.out hp);clear hp;go_wp2_with (refine M.out.mono ?_;rintro e ap ⟨rfl,z⟩;have ae:=O (o.out.trans z);clear z);go_ret;exact⟨⟨a,rfl,by rw[A.out];simp⟩,ae.out⟩
   |false=>
    rw[hp]at M;have A:=O (show(xs.take (a+1)).any p=false by rw[aA.out,an.out,hp];rfl);clear hp;go_wp2_with (refine M.out.mono ?_;rintro e ap ⟨rfl,z⟩;have ae:=O (o.out.trans z);clear z);go_roundw
    case rel=>exact⟨a+1,by go_num,by omega,A,ae⟩
    case measure=>simp[intOf];omega
  ·have au: ¬(a:Int)<n:=Qa
   have av:a=n:=Qa
   subst av;have A:=O (show xs.any p=false by have:=an.out;rwa [<-aw,bU]at this);go_wp2_with fail;go_ret;exact⟨⟨-1,rfl,by rw[A.out];rfl⟩,o.out⟩
theorem BC (p:St->Bool) (xs:List (St)) (P:Nat->Prop) (a:World) (j:Option Addr) (n c:Nat) (z:db a P (.slice j n c) xs) (V:xs.length<=1073741824)
  (w: ∀y,y∈xs-> ∀(w':World) (B M K:Option Addr) (d d' G:Nat),(c7 w' P (.slice B y.ex.length d) y.ex/\db w' P (.slice M y.body.length d') y.body/\db w' P (.slice K y.els.length G) y.els)->Calls prog 117 #[.agg #[.int i64 y.k,.string (J y.nm),.slice B y.ex.length d,.slice M y.body.length d',.slice K y.els.length G]] w' λe R=>e=.returned (.bool (p y))/\az w' R):
  Calls prog 116 #[.slice j n c,.func (Fn.func 117) #[] #[]] a λe w'=>e=.returned (.bool (xs.any p))/\az a w':=by
 have ab:=O (Bb p xs P a j n c z V w);clear z w;go_enter func116,ntmps116;go_wp2_with (refine ab.out.mono ?_;rintro e ac ⟨⟨r,rfl,o⟩,A⟩;have I:=O o;have X:=O A;clear A o);go_ret;exact⟨by rw[<-I.out];rfl,X.out⟩
theorem Bc (p:List UInt8->Bool) (xs:List (List UInt8)) (P:Nat->Prop) (j:World) (ac:Option Addr) (n c:Nat) (M:mQ j P (.slice ac n c) xs) (au:xs.length<=1073741824)
  (X: ∀y,y∈xs-> ∀(w':World),True->Calls prog 68 #[.string (J y)] w' λe ae=>e=.returned (.bool (p y))/\az w' ae):
  Calls prog 110 #[.slice ac n c,.func (Fn.func 68) #[] #[]] j λe w'=>(∃r:Int,e=.returned (.int i64 r)/\decide (0<=r)=xs.any p)/\az j w':=by
 have af:=M.len;obtain⟨N,aj⟩: ∃N,xs.length=N:=⟨_,rfl⟩
 obtain rfl:n=N:=Qa
 have an:=O M;have ap:=O X;have aq:=O (aS j);clear M X af;go_enter func110,ntmps110;go_wp2_with fail
 go_loopw [8] (λK wr=> ∃(a:Nat),K=.int i64 (a:Int)/\a<=n/\Hid ((xs.take a).any p=false)/\Hid (az j wr)) (λK _=>n-(intOf K).toNat)
 case atStart=>exact⟨0,rfl,aI _,O Qd,aq⟩
 case round=>
  obtain⟨a,rfl,av,ab,G⟩:=hrel;by_cases hlt:a<n
  ·have ag:(a:Int)<n:=Qa
   have z:a<xs.length:=Qa
   obtain⟨b,ar,rfl,ai,I⟩:=EW an.out a z;have al:=O (iz p z);have ao:=O (λak=>nJ p z ak);have V:=ap.out _ (ay z);generalize xs[a]=y at*;have aw:=(G.out.cell b _ ai).trans I
   skip
   have A:=O (V wr  trivial);clear I;clear V
   cases hp:p y with
   |true=>
    rw[hp]at A;have w:=O (ao.out hp);clear hp;go_wp2_with (refine A.out.mono ?_;rintro e ad ⟨rfl,o⟩;have R:=O (G.out.trans o);clear o);go_ret;exact⟨⟨a,rfl,by rw[w.out];simp⟩,R.out⟩
   |false=>
    rw[hp]at A;have w:=O (show(xs.take (a+1)).any p=false by rw[al.out,ab.out,hp];rfl);clear hp;go_wp2_with (refine A.out.mono ?_;rintro e ad ⟨rfl,o⟩;have R:=O (G.out.trans o);clear o);go_roundw
    case rel=>exact⟨a+1,by go_num,by omega,w,R⟩
    case measure=>simp[intOf];omega
  ·have ag: ¬(a:Int)<n:=Qa
   have ah:a=n:=Qa
   subst ah;have w:=O (show xs.any p=false by have:=ab.out;rwa [<-aj,bU]at this);go_wp2_with fail;go_ret;exact⟨⟨-1,rfl,by rw[w.out];rfl⟩,G.out⟩
theorem BD (p:List UInt8->Bool) (xs:List (List UInt8)) (P:Nat->Prop) (a:World) (j:Option Addr) (n c:Nat) (z:mQ a P (.slice j n c) xs) (K:xs.length<=1073741824)
  (w: ∀y,y∈xs-> ∀(w':World),True->Calls prog 68 #[.string (J y)] w' λe G=>e=.returned (.bool (p y))/\az w' G):
  Calls prog 67 #[.slice j n c,.func (Fn.func 68) #[] #[]] a λe w'=>e=.returned (.bool (xs.any p))/\az a w':=by
 have V:=O (Bc p xs P a j n c z K w);clear z w;go_enter func67,ntmps67;go_wp2_with (refine V.out.mono ?_;rintro e X ⟨⟨r,rfl,o⟩,A⟩;have R:=O o;have M:=O A;clear A o);go_ret;exact⟨by rw[<-R.out];rfl,M.out⟩
theorem Dc (c:UInt8):vB c=(decide (32<=(c.toNat:Int))&&decide ((c.toNat:Int)<=126)||(c.toNat:Int)==10||(c.toNat:Int)==9||(c.toNat:Int)==0):=by
 have h:=ef c 10 Qa;have a:=ef c 9 Qa;have j:=ef c 0 Qa;have w:(((10:Nat):Int))=10:=rfl;have o:(((9:Nat):Int))=9:=rfl;have z:(((0:Nat):Int))=0:=rfl;rw[w]at h;rw[o]at a;rw[z]at j;rw[h,a,j];unfold vB
 congr 3
 rw[gM];simp only[decide_eq_true_eq,ag];omega
theorem C_ {l:List UInt8} {a:Nat} (j:a<l.length) (h:vB l[a]=false):qA l=false:=by
 unfold qA;rw[xz vB j h];rfl
theorem ym (l:List UInt8) (ap:l.length<=1073741824) (A:World):Calls prog 152 #[.string (J l)] A λe w'=>e=.returned (.bool (qA l))/\az A w':=by
 have an:(J l).size=l.length:=bm l;have ak:=O (aS A);go_enter func152,ntmps152;go_wp2_with fail
 go_loopw [7] (λK wr=> ∃a:Nat,K=.int i64 (a:Int)/\a<=l.length/\Hid ((l.take a).all vB=true)/\Hid (az A wr)) (λK _=>l.length-(intOf K).toNat)
 case atStart=>exact⟨0,rfl,aI _,O Qd,ak⟩
 case round=>
  obtain⟨a,rfl,aq,G,w⟩:=hrel;by_cases hlt:a<l.length
  ·have ab:a<(J l).size:=by rw[bm];exact hlt
   have ar:=nh l a ab;have I:(a:Int)<l.length:=Qa
   have V:=O (mP vB hlt);have al:=O (λR=>C_ hlt R);generalize l[a]'hlt=c at*;have j:=O (Dc c);have au:(c.toNat:Int)<256:=by have:=c.toNat_lt;omega
   have o:=O (fun(R:vB c=true)=>show(l.take (a+1)).all vB=true by rw[V.out,G.out,R];rfl);clear V G;by_cases h32:32<=(c.toNat:Int)/\(c.toNat:Int)<=126
   ·obtain⟨ai,ah⟩:=h32;have z:=O (o.out (by rw[j.out,decide_eq_true ai,decide_eq_true ah];rfl));clear o j;go_wp2_with fail;go_roundw
    case rel=>exact⟨a+1,by go_num,by omega,z,w⟩
    case measure=>simp[intOf];omega
   ·cases h10:((c.toNat:Int)==10)with
    |true=>
     have z:=O (o.out (by rw[j.out,h10];simp));have af:((c.toNat:Int) !=10)=false:=by rw[bne,h10];rfl
     have M:(c.toNat:Int)<32:=by rw[beq_iff_eq]at h10;omega
     clear o j h32;go_wp2_with fail;go_roundw
     case rel=>exact⟨a+1,by go_num,by omega,z,w⟩
     case measure=>simp[intOf];omega
    |false=>
     have af:((c.toNat:Int) !=10)=true:=by rw[bne,h10];rfl
     cases h9:((c.toNat:Int)==9)with
     |true=>
      have z:=O (o.out (by rw[j.out,h9];simp));have ad:((c.toNat:Int) !=9)=false:=by rw[bne,h9];rfl
      have M:(c.toNat:Int)<32:=by rw[beq_iff_eq]at h9;omega
      clear o j h32;go_wp2_with fail;go_roundw
      case rel=>exact⟨a+1,by go_num,by omega,z,w⟩
      case measure=>simp[intOf];omega
     |false=>
      have ad:((c.toNat:Int) !=9)=true:=by rw[bne,h9];rfl
      cases h0:((c.toNat:Int)==0)with
      |true=>
       have z:=O (o.out (by rw[j.out,h0];simp));have ag:((c.toNat:Int) !=0)=false:=by rw[bne,h0];rfl
       have M:(c.toNat:Int)<32:=by rw[beq_iff_eq]at h0;omega
       clear o j h32;go_wp2_with fail;go_roundw
       case rel=>exact⟨a+1,by go_num,by omega,z,w⟩
       case measure=>simp[intOf];omega
      |false=>
       have ag:((c.toNat:Int) !=0)=true:=by rw[bne,h0];rfl
       have X:=O (al.out (by rw[j.out,h10,h9,h0,<-Bool.decide_and,decide_eq_false h32];rfl));clear o j;by_cases M:(c.toNat:Int)<32
       ·clear h32;go_wp2_with fail;go_ret;exact⟨by rw[X.out];rfl,w.out⟩
       ·have ao:126<(c.toNat:Int):=Qa
        clear h32;go_wp2_with fail;go_ret;exact⟨by rw[X.out];rfl,w.out⟩
  ·have I: ¬(a:Int)<l.length:=Qa
   have ac:a=l.length:=Qa
   subst ac;have aj:=O (show l.all vB=true by have:=G.out;rwa [bU]at this);clear G;by_cases h128:l.length<=128
   ·have ae:(l.length:Int)<=128:=Qa
    go_wp2_with fail;go_ret;exact⟨by unfold qA;rw[aj.out,decide_eq_true h128];rfl,w.out⟩
   ·have ae: ¬(l.length:Int)<=128:=Qa
    go_wp2_with fail;go_ret;exact⟨by unfold qA;rw[decide_eq_false h128,Bool.and_false];rfl,w.out⟩
def Ex.prec (x:Ex):Int:=if x.k=7 then im x.op else if x.k=6 then 7 else 8
theorem nr (x:Ex) (a:World) (z:Value) (A: ∃w n c,z=.slice w n c):Calls prog 217 #[.agg #[.int i64 x.k,.string (J x.op),.string (J x.nm),.string (J x.tx),.int i64 x.v,z]] a λe w'=>e=.returned (.int i64 x.prec)/\az a w':=by
 obtain⟨w,n,c,rfl⟩:=A;have o:=O (Z a (.cells #[.int i64 x.k,.string (J x.op),.string (J x.nm),.string (J x.tx),.int i64 x.v,.slice w n c] 70));have K:=O (λa=>my x.op a);have j:=O (show x.prec=if x.k=7 then im x.op else if x.k=6 then 7 else 8 from rfl);generalize x.k=k at*;by_cases h7:k=7
 ·subst h7;go_enter func217,ntmps217;go_wp2_with (refine(K.out _).mono ?_;rintro e w' ⟨rfl,rfl⟩);go_ret;exact⟨by rw[j.out];rfl,o.out⟩
 ·by_cases h6:k=6
  ·subst h6;go_enter func217,ntmps217;go_wp2_with fail;go_ret;exact⟨by rw[j.out];rfl,o.out⟩
  ·have M:(k==7)=false:=Ql.2 h7;have R:(k==6)=false:=Ql.2 h6;have G:=O (show x.prec=8 by rw[j.out,if_neg h7,if_neg h6]);clear j;go_enter func217,ntmps217;go_wp2_with fail;go_ret;exact⟨by rw[G.out];rfl,o.out⟩
def sP (w:World) (A:Option Addr) (n c:Nat) (r:Bool):Prop:= ∀w',az w w'->Calls prog 113 #[.slice A n c,.func (Fn.func 154) #[] #[]] w' λe w''=>e=.returned (.bool (!r))/\az w' w''
theorem aU.new2 (a:World) (j:Obj) (t:TypeId) (h:Array Value):aU ((a.alloc j).alloc (.cells h t)) (a.heap.size+1) t h:=by
 have:=aw (a.alloc j) t h;rwa [World.size_alloc]at this
def UW (p:Nat) (t:TypeId) (c0 c1:Array Value) (a b:World):Prop:=a.grownBy b (some p)/\(aU a p t c0->aU b p t c0\/aU b p t c1)/\(aU a p t c1->aU b p t c1)
theorem UW.refl (p:Nat) (t:TypeId) (j h:Array Value) (a:World):UW p t j h a a:=⟨World.grownBy.refl a _,.inl,id⟩
theorem UW.trans (p:Nat) (t:TypeId) (j h:Array Value) (o b c:World) (a:UW p t j h o b) (k:UW p t j h b c):UW p t j h o c:=⟨ap a.1 k.1,λx=>(a.2.1 x).elim k.2.1 (λy=> .inr (k.2.2 y)),λx=>k.2.2 (a.2.2 x)⟩
theorem UW.of_ext {p:Nat} {t:TypeId} {o j:Array Value} {h b:World} (a:az h b):UW p t o j h b:=⟨a.grownBy _,λx=> .inl (x.ext a),λx=>x.ext a⟩
theorem UW.store {p:Nat} {t:TypeId} {h a:Array Value} {z b:World} (j:UW p t h a z b) (w:aU z p t h) (f:Nat) (v A:Value) (O:h.setIfInBounds f v=a) (M:a.setIfInBounds f v=a) (K:h[f]? =some A) (G:a[f]? =some v):
  (∃u,b.cell? ⟨p,f,none⟩=some u)/\b.frozen? ⟨p,f,none⟩=false/\UW p t h a z (b.setCell ⟨p,f,none⟩ v)/\aU (b.setCell ⟨p,f,none⟩ v) p t a:=by
 have o:aU (b.setCell ⟨p,f,none⟩ v) p t a:=by
  rcases j.2.1 w with k|k
  ·have:=k.set f v;rwa [O]at this
  ·have:=k.set f v;rwa [M]at this
 refine⟨?_,?_,⟨ap j.1 (eF _ _ _ _),λ_=> .inr o,λ_=>o⟩,o⟩
 ·rcases j.2.1 w with k|k
  ·exact⟨A,(k.cell f).trans K⟩
  ·exact⟨v,(k.cell f).trans G⟩
 ·rcases j.2.1 w with k|k<;>exact k.frozen f
def sG (k:Nat):Code->Code
 | .seq (.region i o d) b=>if i=k then .seq (.region i o d) b else sG k b
 | .seq _ b=>sG k b
 |c=>c
theorem ka (X I:Nat) (k v G A:Int) (op nm tx M R K:List UInt8) (af:Option Addr) (n c:Nat) (b r:Bool) (V W:World) (z:az V W) (ae:aU W X 70 #[.int i64 k,.string (J op),.string (J nm),.string (J tx),.int i64 v,.slice af n c]) (ab:aU W I 70 #[.int i64 k,.string (J M),.string (J R),.string (J K),.int i64 G,.slice none 0 0])
  (ad:sP V af n c r) (j:Bool) (ac:(b&&(op==M&&nm==R&&tx==K&&v==G)&&decide ((n:Int)=A)&&r)=j) (u0 u2 u6 u7 u8 u9 u10 u11 u12 u13 u14 u15 u16 u17 u18 u19 u20 u21 u22 u23 u24 u25 u26 u27 u28 u29 u30 u31 u32 u33 u34 u35 u36 u37 u38 u39 u40 u41 u42 u43 u44 u45 u46 u47 u48 u49 u50 u51 u52 u53 u54 u55 u56 u57 u58 u59 u60 u61 u62 u63 u64 u65 u66 u67 u68 u69 u70 u71 u72 u73 u74 u75 u76 u77 u78 u79 u80 u81 u82 u83 u84 u85 u86 u87 u88 u89 u90 u91 u92 u93 u94 u95 u96 u97 u98 u99 u100 u101 u102 u103 u104 u105 u106 u107 u108 u109 u110 u111 u112 u113 u114 u115 u116 u117 u118 u119 u120 u121 u122 u123 u124 u125 u126 u127 u128 u129 u130:Value):
  Code.wp prog (sG 18 (Tryz.f115.body.getD .skip)) (bodyPost prog Tryz.f115 λe w'=>e=.returned (.bool j)/\az V w') {tmps:= #[u0,.pointer (some ⟨X,0,none⟩),u2,.pointer (some ⟨I,0,none⟩),.bool b,.int i64 A,u6,u7,u8,u9,u10,u11,u12,u13,u14,u15,u16,u17,u18,u19,u20,u21,u22,u23,u24,u25,u26,u27,u28,u29,u30,u31,u32,u33,u34,u35,u36,u37,u38,u39,u40,u41,u42,u43,u44,u45,u46,u47,u48,u49,u50,u51,u52,u53,u54,u55,u56,u57,u58,u59,u60,u61,u62,u63,u64,u65,u66,u67,u68,u69,u70,u71,u72,u73,u74,u75,u76,u77,u78,u79,u80,u81,u82,u83,u84,u85,u86,u87,u88,u89,u90,u91,u92,u93,u94,u95,u96,u97,u98,u99,u100,u101,u102,u103,u104,u105,u106,u107,u108,u109,u110,u111,u112,u113,u114,u115,u116,u117,u118,u119,u120,u121,u122,u123,u124,u125,u126,u127,u128,u129,u130],defers:=[]} W:=by
 have o:=O z;have ah:=O ad;have w:=O ac;have ak:=ae.cell;have aj:=ab.cell;clear z ad ae ab ac
 conv=>arg 2;whnf
 cases h1:(op==M)with
 |false=>
  cases b<;>(have a:j=false:=(by rw[<-w.out,h1];simp);go_wp2_with fail;go_ret;exact⟨by rw[a];rfl,o.out⟩)
 |true=>
  cases h2:(nm==R)with
  |false=>
   cases b<;>(have a:j=false:=(by rw[<-w.out,h1,h2];simp);go_wp2_with fail;go_ret;exact⟨by rw[a];rfl,o.out⟩)
  |true=>
   cases h3:(tx==K)with
   |false=>
    cases b<;>(have a:j=false:=(by rw[<-w.out,h1,h2,h3];simp);go_wp2_with fail;go_ret;exact⟨by rw[a];rfl,o.out⟩)
   |true=>
    cases h4:(v==G)with
    |false=>
     cases b<;>(have a:j=false:=(by rw[<-w.out,h1,h2,h3,h4];simp);go_wp2_with fail;go_ret;exact⟨by rw[a];rfl,o.out⟩)
    |true=>
     cases b with
     |false=>(have a:j=false:=(by rw[<-w.out,h1,h2,h3,h4];simp);go_wp2_with fail;go_ret;exact⟨by rw[a];rfl,o.out⟩)
     |true=>
      by_cases h5:(n:Int)=A
      ·subst h5;have a:j=r:=by rw[<-w.out];simp[h1,h2,h3,h4]
       go_wp2_with (refine(ah.out _ o.out).mono ?_;rintro e ai ⟨rfl,z⟩;have ag:=O (o.out.trans z);clear z);go_ret;exact⟨by rw[a];rfl,ag.out⟩
      ·have al:((n:Int)==A)=false:=Ql.2 h5;have a:j=false:=by rw[<-w.out,decide_eq_false h5];simp
       go_wp2_with fail;go_ret;exact⟨by rw[a];rfl,o.out⟩
theorem He (op nm tx:List UInt8) (v:Int) (j:World) (w:Option Addr) (n c:Nat) (aD:n<=1073741824) (r:Bool) (X:sP j w n c r) (aj:nm.length<=1073741824):
  Calls prog 115 #[.agg #[.int i64 3,.string (J op),.string (J nm),.string (J tx),.int i64 v,.slice w n c]] j λe w'=>e=.returned (.bool (dY nm&&(op==[]&&nm==nm&&tx==[]&&v==0)&&decide ((n:Int)=0)&&r))/\az j w':=by
 have aC:(n:Int)<=1073741824:=Qa
 have G:j.heap.size≠j.heap.size+1:=Qa
 have z:=O ((aw j 70 #[.int i64 3,.string (J op),.string (J nm),.string (J tx),.int i64 v,.slice w n c]).ext (Z _ (.cells #[.int i64 3,.string ⟨#[]⟩,.string ⟨#[]⟩,.string ⟨#[]⟩,.int i64 0,.slice none 0 0] 70)));have ac:=O (aU.new2 j (.cells #[.int i64 3,.string (J op),.string (J nm),.string (J tx),.int i64 v,.slice w n c] 70) 70 #[.int i64 3,.string ⟨#[]⟩,.string ⟨#[]⟩,.string ⟨#[]⟩,.int i64 0,.slice none 0 0]);have ar:=O ((Z j (.cells #[.int i64 3,.string (J op),.string (J nm),.string (J tx),.int i64 v,.slice w n c] 70)).trans (Z _ (.cells #[.int i64 3,.string ⟨#[]⟩,.string ⟨#[]⟩,.string ⟨#[]⟩,.int i64 0,.slice none 0 0] 70)));have av:=O X;clear X;have aq:=O (dJ nm aj);generalize dY nm=b at*;generalize V:(_&& _&& _&& _:Bool)=R;have ap:=O V;clear V;go_enter func115,ntmps115;go_wp2_with fail;refine cU (UW (j.heap.size+1) 70 #[.int i64 3,.string ⟨#[]⟩,.string ⟨#[]⟩,.string ⟨#[]⟩,.int i64 0,.slice none 0 0] #[.int i64 3,.string ⟨#[]⟩,.string (J nm),.string ⟨#[]⟩,.int i64 0,.slice none 0 0]) (UW.refl _ _ _ _) (UW.trans _ _ _ _) 6 3 [(4,λv=>v=.bool b,λ_ _=>True)] [] mixed Qb Qb Qb Qe ⟨λ_ _ _ _ _=>trivial,trivial⟩ ?_;repeat (first|(refine bQ Qe ?_;simp only[a8,a7,a6,aZ,aY])|(refine sx ?_ (λag a=> ?_) ?_;rotate_left;(focus have al:=(z.out.grown (aJ a.1) (λe=>G (I e))).cell;clear a;go_simp<;>with_reducible rfl);simp only[a8,a7,a6,aZ,aY]))
 refine so (λaf a A ab o=> ?_) ?_
 ·clear A a;go_simp;refine(aq.out af).mono ?_;rintro e aA ⟨rfl,rfl⟩;exact o _ _ (UW.refl _ _ _ _ _) rfl trivial
 rintro _ rfl;simp only[a8,a7,a6,aZ,aY];repeat (first|(refine bQ Qe ?_;simp only[a8,a7,a6,aZ,aY])|(refine sx ?_ (λag a=> ?_) ?_;rotate_left;(focus have al:=(z.out.grown (aJ a.1) (λe=>G (I e))).cell;clear a;go_simp<;>with_reducible rfl);simp only[a8,a7,a6,aZ,aY]))
 intro aB K A;clear A;simp only[ae,au];obtain⟨⟨ay,ai⟩,ah,a,M⟩:=K.store ac.out 2 (.string (J nm)) (.string ⟨#[]⟩) rfl rfl rfl rfl;have ad:=O a;have ao:=O M;have ax:=O (z.out.grown (aJ a.1) (λe=>G (I e)));have an:=O (ar.out.grown (aJ a.1) (λk e=>by injection e with e;omega));clear K a M z ac;refine aN Qe Qd (λab o=> ?_);go_simp;refine o _ _ ad.out ?_;clear o ai ah;refine aN Qe Qd (λab o=> ?_);go_simp;refine o _ _ ad.out ?_;clear o;refine cz ?_;rename_i aE aF ak aG;refine ak _ _ (ka _ _ 3 v 0 _ op nm tx [] nm [] w n c _ r j _ an.out ax.out ao.out av.out R ap.out _ _ _ _ _ _ _ _ _ _ _ _ _ _ _ _ _ _ _ _ _ _ _ _ _ _ _ _ _ _ _ _ _ _ _ _ _ _ _ _ _ _ _ _ _ _ _ _ _ _ _ _ _ _ _ _ _ _ _ _ _ _ _ _ _ _ _ _ _ _ _ _ _ _ _ _ _ _ _ _ _ _ _ _ _ _ _ _ _ _ _ _ _ _ _ _ _ _ _ _ _ _ _ _ _ _ _ _ _ _ _ _ _ _ _ _ _ _ _ _ _ _ _ _ _ _ _)
theorem Hc (op nm tx:List UInt8) (v:Int) (j:World) (w:Option Addr) (n c:Nat) (aD:n<=1073741824) (r:Bool) (ac:sP j w n c r) (aj:nm.length<=1073741824):
  Calls prog 115 #[.agg #[.int i64 4,.string (J op),.string (J nm),.string (J tx),.int i64 v,.slice w n c]] j λe w'=>e=.returned (.bool (dY nm&&(op==[]&&nm==nm&&tx==[]&&v==0)&&decide ((n:Int)=1)&&r))/\az j w':=by
 have aC:(n:Int)<=1073741824:=Qa
 have G:j.heap.size≠j.heap.size+1:=Qa
 have z:=O ((aw j 70 #[.int i64 4,.string (J op),.string (J nm),.string (J tx),.int i64 v,.slice w n c]).ext (Z _ (.cells #[.int i64 4,.string ⟨#[]⟩,.string ⟨#[]⟩,.string ⟨#[]⟩,.int i64 0,.slice none 0 0] 70)));have ad:=O (aU.new2 j (.cells #[.int i64 4,.string (J op),.string (J nm),.string (J tx),.int i64 v,.slice w n c] 70) 70 #[.int i64 4,.string ⟨#[]⟩,.string ⟨#[]⟩,.string ⟨#[]⟩,.int i64 0,.slice none 0 0]);have ar:=O ((Z j (.cells #[.int i64 4,.string (J op),.string (J nm),.string (J tx),.int i64 v,.slice w n c] 70)).trans (Z _ (.cells #[.int i64 4,.string ⟨#[]⟩,.string ⟨#[]⟩,.string ⟨#[]⟩,.int i64 0,.slice none 0 0] 70)));have av:=O ac;clear ac;have aq:=O (dJ nm aj);generalize dY nm=b at*;generalize ab:(_&& _&& _&& _:Bool)=R;have ap:=O ab;clear ab;go_enter func115,ntmps115;go_wp2_with fail;refine cU (UW (j.heap.size+1) 70 #[.int i64 4,.string ⟨#[]⟩,.string ⟨#[]⟩,.string ⟨#[]⟩,.int i64 0,.slice none 0 0] #[.int i64 4,.string ⟨#[]⟩,.string (J nm),.string ⟨#[]⟩,.int i64 0,.slice none 0 0]) (UW.refl _ _ _ _) (UW.trans _ _ _ _) 6 3 [(4,λv=>v=.bool b,λ_ _=>True)] [] mixed Qb Qb Qb Qe ⟨λ_ _ _ _ _=>trivial,trivial⟩ ?_;repeat (first|(refine bQ Qe ?_;simp only[a8,a7,a6,aZ,aY])|(refine sx ?_ (λag a=> ?_) ?_;rotate_left;(focus have al:=(z.out.grown (aJ a.1) (λe=>G (I e))).cell;clear a;go_simp<;>with_reducible rfl);simp only[a8,a7,a6,aZ,aY]))
 refine so (λaf a A K o=> ?_) ?_
 ·clear A a;go_simp;refine(aq.out af).mono ?_;rintro e aA ⟨rfl,rfl⟩;exact o _ _ (UW.refl _ _ _ _ _) rfl trivial
 rintro _ rfl;simp only[a8,a7,a6,aZ,aY];repeat (first|(refine bQ Qe ?_;simp only[a8,a7,a6,aZ,aY])|(refine sx ?_ (λag a=> ?_) ?_;rotate_left;(focus have al:=(z.out.grown (aJ a.1) (λe=>G (I e))).cell;clear a;go_simp<;>with_reducible rfl);simp only[a8,a7,a6,aZ,aY]))
 intro aB V A;clear A;simp only[ae,au];obtain⟨⟨ay,ai⟩,ah,a,X⟩:=V.store ad.out 2 (.string (J nm)) (.string ⟨#[]⟩) rfl rfl rfl rfl;have M:=O a;have ao:=O X;have ax:=O (z.out.grown (aJ a.1) (λe=>G (I e)));have an:=O (ar.out.grown (aJ a.1) (λk e=>by injection e with e;omega));clear V a X z ad;refine aN Qe Qd (λK o=> ?_);go_simp;refine o _ _ M.out ?_;clear o ai ah;refine aN Qe Qd (λK o=> ?_);go_simp;refine o _ _ M.out ?_;clear o;refine aN Qe Qd (λK o=> ?_);go_simp;refine o _ _ M.out ?_;clear o;refine cz ?_;rename_i aE aF ak aH aG;refine ak _ _ (ka _ _ 4 v 0 _ op nm tx [] nm [] w n c _ r j _ an.out ax.out ao.out av.out R ap.out _ _ _ _ _ _ _ _ _ _ _ _ _ _ _ _ _ _ _ _ _ _ _ _ _ _ _ _ _ _ _ _ _ _ _ _ _ _ _ _ _ _ _ _ _ _ _ _ _ _ _ _ _ _ _ _ _ _ _ _ _ _ _ _ _ _ _ _ _ _ _ _ _ _ _ _ _ _ _ _ _ _ _ _ _ _ _ _ _ _ _ _ _ _ _ _ _ _ _ _ _ _ _ _ _ _ _ _ _ _ _ _ _ _ _ _ _ _ _ _ _ _ _ _ _ _ _)
theorem Hf (op nm tx:List UInt8) (v:Int) (j:World) (w:Option Addr) (n c:Nat) (aE:n<=1073741824) (r:Bool) (X:sP j w n c r) (aj:tx.length<=1073741824):
  Calls prog 115 #[.agg #[.int i64 2,.string (J op),.string (J nm),.string (J tx),.int i64 v,.slice w n c]] j λe w'=>e=.returned (.bool (qA tx&&(op==[]&&nm==[]&&tx==tx&&v==0)&&decide ((n:Int)=0)&&r))/\az j w':=by
 have aD:(n:Int)<=1073741824:=Qa
 have G:j.heap.size≠j.heap.size+1:=Qa
 have z:=O ((aw j 70 #[.int i64 2,.string (J op),.string (J nm),.string (J tx),.int i64 v,.slice w n c]).ext (Z _ (.cells #[.int i64 2,.string ⟨#[]⟩,.string ⟨#[]⟩,.string ⟨#[]⟩,.int i64 0,.slice none 0 0] 70)));have ac:=O (aU.new2 j (.cells #[.int i64 2,.string (J op),.string (J nm),.string (J tx),.int i64 v,.slice w n c] 70) 70 #[.int i64 2,.string ⟨#[]⟩,.string ⟨#[]⟩,.string ⟨#[]⟩,.int i64 0,.slice none 0 0]);have av:=O ((Z j (.cells #[.int i64 2,.string (J op),.string (J nm),.string (J tx),.int i64 v,.slice w n c] 70)).trans (Z _ (.cells #[.int i64 2,.string ⟨#[]⟩,.string ⟨#[]⟩,.string ⟨#[]⟩,.int i64 0,.slice none 0 0] 70)));have ax:=O X;clear X;have ar:=O (ym tx aj);generalize qA tx=b at*;generalize V:(_&& _&& _&& _:Bool)=R;have aq:=O V;clear V;go_enter func115,ntmps115;go_wp2_with fail;refine cU (UW (j.heap.size+1) 70 #[.int i64 2,.string ⟨#[]⟩,.string ⟨#[]⟩,.string ⟨#[]⟩,.int i64 0,.slice none 0 0] #[.int i64 2,.string ⟨#[]⟩,.string ⟨#[]⟩,.string (J tx),.int i64 0,.slice none 0 0]) (UW.refl _ _ _ _) (UW.trans _ _ _ _) 6 3 [(4,λv=>v=.bool b,λ_ _=>True)] [] mixed Qb Qb Qb Qe ⟨λ_ _ _ _ _=>trivial,trivial⟩ ?_;repeat (first|(refine bQ Qe ?_;simp only[a8,a7,a6,aZ,aY])|(refine sx ?_ (λag a=> ?_) ?_;rotate_left;(focus have an:=(z.out.grown (aJ a.1) (λe=>G (I e))).cell;clear a;go_simp<;>with_reducible rfl);simp only[a8,a7,a6,aZ,aY]))
 refine so (λaf a A ab o=> ?_) ?_
 ·clear A a;go_simp;refine(ar.out af).mono ?_;rintro e aB ⟨rfl,al⟩;exact o _ _ (UW.of_ext al) rfl trivial
 rintro _ rfl;simp only[a8,a7,a6,aZ,aY];repeat (first|(refine bQ Qe ?_;simp only[a8,a7,a6,aZ,aY])|(refine sx ?_ (λag a=> ?_) ?_;rotate_left;(focus have an:=(z.out.grown (aJ a.1) (λe=>G (I e))).cell;clear a;go_simp<;>with_reducible rfl);simp only[a8,a7,a6,aZ,aY]))
 intro aC K A;clear A;simp only[ae,au];obtain⟨⟨aA,ai⟩,ah,a,M⟩:=K.store ac.out 3 (.string (J tx)) (.string ⟨#[]⟩) rfl rfl rfl rfl;have ad:=O a;have ap:=O M;have ay:=O (z.out.grown (aJ a.1) (λe=>G (I e)));have ao:=O (av.out.grown (aJ a.1) (λk e=>by injection e with e;omega));clear K a M z ac;refine aN Qe Qd (λab o=> ?_);go_simp;refine o _ _ ad.out ?_;clear o ai ah;refine aN Qe Qd (λab o=> ?_);go_simp;refine o _ _ ad.out ?_;clear o;refine cz ?_;rename_i aF aG ak aH;refine ak _ _ (ka _ _ 2 v 0 _ op nm tx [] [] tx w n c _ r j _ ao.out ay.out ap.out ax.out R aq.out _ _ _ _ _ _ _ _ _ _ _ _ _ _ _ _ _ _ _ _ _ _ _ _ _ _ _ _ _ _ _ _ _ _ _ _ _ _ _ _ _ _ _ _ _ _ _ _ _ _ _ _ _ _ _ _ _ _ _ _ _ _ _ _ _ _ _ _ _ _ _ _ _ _ _ _ _ _ _ _ _ _ _ _ _ _ _ _ _ _ _ _ _ _ _ _ _ _ _ _ _ _ _ _ _ _ _ _ _ _ _ _ _ _ _ _ _ _ _ _ _ _ _ _ _ _ _)
theorem G' (op nm tx:List UInt8) (v:Int) (j:World) (w:Option Addr) (n c:Nat) (aC:n<=1073741824) (r:Bool) (ac:sP j w n c r):
  Calls prog 115 #[.agg #[.int i64 7,.string (J op),.string (J nm),.string (J tx),.int i64 v,.slice w n c]] j λe w'=>e=.returned (.bool (decide (0<im op)&&(op==op&&nm==[]&&tx==[]&&v==0)&&decide ((n:Int)=2)&&r))/\az j w':=by
 have aB:(n:Int)<=1073741824:=Qa
 have G:j.heap.size≠j.heap.size+1:=Qa
 have z:=O ((aw j 70 #[.int i64 7,.string (J op),.string (J nm),.string (J tx),.int i64 v,.slice w n c]).ext (Z _ (.cells #[.int i64 7,.string ⟨#[]⟩,.string ⟨#[]⟩,.string ⟨#[]⟩,.int i64 0,.slice none 0 0] 70)));have ad:=O (aU.new2 j (.cells #[.int i64 7,.string (J op),.string (J nm),.string (J tx),.int i64 v,.slice w n c] 70) 70 #[.int i64 7,.string ⟨#[]⟩,.string ⟨#[]⟩,.string ⟨#[]⟩,.int i64 0,.slice none 0 0]);have aq:=O ((Z j (.cells #[.int i64 7,.string (J op),.string (J nm),.string (J tx),.int i64 v,.slice w n c] 70)).trans (Z _ (.cells #[.int i64 7,.string ⟨#[]⟩,.string ⟨#[]⟩,.string ⟨#[]⟩,.int i64 0,.slice none 0 0] 70)));have ar:=O ac;clear ac;have ap:=O (my op);generalize im op=L at*;generalize ab:(_&& _&& _&& _:Bool)=R;have ao:=O ab;clear ab;go_enter func115,ntmps115;go_wp2_with fail;refine cU (UW (j.heap.size+1) 70 #[.int i64 7,.string ⟨#[]⟩,.string ⟨#[]⟩,.string ⟨#[]⟩,.int i64 0,.slice none 0 0] #[.int i64 7,.string (J op),.string ⟨#[]⟩,.string ⟨#[]⟩,.int i64 0,.slice none 0 0]) (UW.refl _ _ _ _) (UW.trans _ _ _ _) 7 3 [(4,λx=>x=.int i64 L,λ_ _=>True)] [5] mixed Qb Qb Qb Qe ⟨λ_ _ _ _ _=>trivial,trivial⟩ ?_;repeat (first|(refine bQ Qe ?_;simp only[a8,a7,a6,aZ,aY])|(refine sx ?_ (λag a=> ?_) ?_;rotate_left;(focus have ak:=(z.out.grown (aJ a.1) (λe=>G (I e))).cell;clear a;go_simp<;>with_reducible rfl);simp only[a8,a7,a6,aZ,aY]))
 refine so (λaf a A K o=> ?_) ?_
 ·clear A a;go_simp;refine(ap.out af).mono ?_;rintro e ay ⟨rfl,rfl⟩;exact o _ _ (UW.refl _ _ _ _ _) rfl trivial
 rintro _ rfl;simp only[a8,a7,a6,aZ,aY];repeat (first|(refine bQ Qe ?_;simp only[a8,a7,a6,aZ,aY])|(refine sx ?_ (λag a=> ?_) ?_;rotate_left;(focus have ak:=(z.out.grown (aJ a.1) (λe=>G (I e))).cell;clear a;go_simp<;>with_reducible rfl);simp only[a8,a7,a6,aZ,aY]))
 intro aA V A;clear A;simp only[ae,au];obtain⟨⟨ax,ai⟩,ah,a,X⟩:=V.store ad.out 1 (.string (J op)) (.string ⟨#[]⟩) rfl rfl rfl rfl;have M:=O a;have an:=O X;have av:=O (z.out.grown (aJ a.1) (λe=>G (I e)));have al:=O (aq.out.grown (aJ a.1) (λk e=>by injection e with e;omega));clear V a X z ad;refine aN Qe Qd (λK o=> ?_);go_simp;refine o _ _ M.out ?_;clear o ai ah;refine aN Qe Qd (λK o=> ?_);go_simp;refine o _ _ M.out ?_;clear o;refine aN Qe Qd (λK o=> ?_);go_simp;refine o _ _ M.out ?_;clear o;refine cz ?_;rename_i aD aE aj aG aF;refine aj _ _ (ka _ _ 7 v 0 _ op nm tx op [] [] w n c _ r j _ al.out av.out an.out ar.out R ao.out _ _ _ _ _ _ _ _ _ _ _ _ _ _ _ _ _ _ _ _ _ _ _ _ _ _ _ _ _ _ _ _ _ _ _ _ _ _ _ _ _ _ _ _ _ _ _ _ _ _ _ _ _ _ _ _ _ _ _ _ _ _ _ _ _ _ _ _ _ _ _ _ _ _ _ _ _ _ _ _ _ _ _ _ _ _ _ _ _ _ _ _ _ _ _ _ _ _ _ _ _ _ _ _ _ _ _ _ _ _ _ _ _ _ _ _ _ _ _ _ _ _ _ _ _ _ _)
theorem Hg (op nm tx:List UInt8) (v:Int) (j:World) (w:Option Addr) (n c:Nat) (aD:n<=1073741824) (r:Bool) (an:sP j w n c r):
  Calls prog 115 #[.agg #[.int i64 1,.string (J op),.string (J nm),.string (J tx),.int i64 v,.slice w n c]] j λe w'=>e=.returned (.bool ((decide (0<=v)&&decide (v<=2147483647))&&(op==[]&&nm==[]&&tx==[]&&v==v)&&decide ((n:Int)=0)&&r))/\az j w':=by
 have aC:(n:Int)<=1073741824:=Qa
 have V:j.heap.size≠j.heap.size+1:=Qa
 have z:=O ((aw j 70 #[.int i64 1,.string (J op),.string (J nm),.string (J tx),.int i64 v,.slice w n c]).ext (Z _ (.cells #[.int i64 1,.string ⟨#[]⟩,.string ⟨#[]⟩,.string ⟨#[]⟩,.int i64 0,.slice none 0 0] 70)));have X:=O (aU.new2 j (.cells #[.int i64 1,.string (J op),.string (J nm),.string (J tx),.int i64 v,.slice w n c] 70) 70 #[.int i64 1,.string ⟨#[]⟩,.string ⟨#[]⟩,.string ⟨#[]⟩,.int i64 0,.slice none 0 0]);have ao:=O ((Z j (.cells #[.int i64 1,.string (J op),.string (J nm),.string (J tx),.int i64 v,.slice w n c] 70)).trans (Z _ (.cells #[.int i64 1,.string ⟨#[]⟩,.string ⟨#[]⟩,.string ⟨#[]⟩,.int i64 0,.slice none 0 0] 70)));have ap:=O an;clear an;by_cases h0:0<=v
 ·have af:decide (0<=v)=true:=decide_eq_true h0;rw[af,Bool.true_and];generalize K:(_&& _&& _&& _:Bool)=R;have ak:=O K;clear K;go_enter func115,ntmps115;go_wp2_with fail;refine cU (UW (j.heap.size+1) 70 #[.int i64 1,.string ⟨#[]⟩,.string ⟨#[]⟩,.string ⟨#[]⟩,.int i64 0,.slice none 0 0] #[.int i64 1,.string ⟨#[]⟩,.string ⟨#[]⟩,.string ⟨#[]⟩,.int i64 v,.slice none 0 0]) (UW.refl _ _ _ _) (UW.trans _ _ _ _) 11 3 [] [6,7,8,9] mixed Qb Qb Qb Qe trivial ?_;repeat (first|(refine bQ Qe ?_;simp only[a8,a7,a6,aZ,aY])|(refine sx ?_ (λav a=> ?_) ?_;rotate_left;(focus have ax:=(z.out.grown (aJ a.1) (λe=>V (I e))).cell;clear a;go_simp<;>with_reducible rfl);simp only[a8,a7,a6,aZ,aY]))
  intro ar A ad;clear ad;simp only[ae,au];obtain⟨⟨aq,ac⟩,ab,a,G⟩:=A.store X.out 4 (.int i64 v) (.int i64 0) rfl rfl rfl rfl;have M:=O a;have aj:=O G;have al:=O (z.out.grown (aJ a.1) (λe=>V (I e)));have ai:=O (ao.out.grown (aJ a.1) (λk e=>by injection e with e;omega));clear A a G z X;refine aN Qe Qd (λah o=> ?_);go_simp;refine o _ _ M.out ?_;clear o ac ab;refine aN Qe Qd (λah o=> ?_);go_simp;refine o _ _ M.out ?_;clear o;refine cz ?_;rename_i ay aA ag aB;refine ag _ _ (ka _ _ 1 v v _ op nm tx [] [] [] w n c _ r j _ ai.out al.out aj.out ap.out R ak.out _ _ _ _ _ _ _ _ _ _ _ _ _ _ _ _ _ _ _ _ _ _ _ _ _ _ _ _ _ _ _ _ _ _ _ _ _ _ _ _ _ _ _ _ _ _ _ _ _ _ _ _ _ _ _ _ _ _ _ _ _ _ _ _ _ _ _ _ _ _ _ _ _ _ _ _ _ _ _ _ _ _ _ _ _ _ _ _ _ _ _ _ _ _ _ _ _ _ _ _ _ _ _ _ _ _ _ _ _ _ _ _ _ _ _ _ _ _ _ _ _ _ _ _ _ _ _)
 ·have af:decide (0<=v)=false:=decide_eq_false h0;rw[af,Bool.false_and];generalize K:(_&& _&& _&& _:Bool)=R;have ak:=O K;clear K;go_enter func115,ntmps115;go_wp2_with fail;refine cU (UW (j.heap.size+1) 70 #[.int i64 1,.string ⟨#[]⟩,.string ⟨#[]⟩,.string ⟨#[]⟩,.int i64 0,.slice none 0 0] #[.int i64 1,.string ⟨#[]⟩,.string ⟨#[]⟩,.string ⟨#[]⟩,.int i64 v,.slice none 0 0]) (UW.refl _ _ _ _) (UW.trans _ _ _ _) 11 3 [] [6,7,8,9] mixed Qb Qb Qb Qe trivial ?_;repeat (first|(refine bQ Qe ?_;simp only[a8,a7,a6,aZ,aY])|(refine sx ?_ (λav a=> ?_) ?_;rotate_left;(focus have ax:=(z.out.grown (aJ a.1) (λe=>V (I e))).cell;clear a;go_simp<;>with_reducible rfl);simp only[a8,a7,a6,aZ,aY]))
  intro ar A ad;clear ad;simp only[ae,au];obtain⟨⟨aq,ac⟩,ab,a,G⟩:=A.store X.out 4 (.int i64 v) (.int i64 0) rfl rfl rfl rfl;have M:=O a;have aj:=O G;have al:=O (z.out.grown (aJ a.1) (λe=>V (I e)));have ai:=O (ao.out.grown (aJ a.1) (λk e=>by injection e with e;omega));clear A a G z X;refine aN Qe Qd (λah o=> ?_);go_simp;refine o _ _ M.out ?_;clear o ac ab;refine aN Qe Qd (λah o=> ?_);go_simp;refine o _ _ M.out ?_;clear o;refine cz ?_;rename_i ay aA ag aB;refine ag _ _ (ka _ _ 1 v v _ op nm tx [] [] [] w n c _ r j _ ai.out al.out aj.out ap.out R ak.out _ _ _ _ _ _ _ _ _ _ _ _ _ _ _ _ _ _ _ _ _ _ _ _ _ _ _ _ _ _ _ _ _ _ _ _ _ _ _ _ _ _ _ _ _ _ _ _ _ _ _ _ _ _ _ _ _ _ _ _ _ _ _ _ _ _ _ _ _ _ _ _ _ _ _ _ _ _ _ _ _ _ _ _ _ _ _ _ _ _ _ _ _ _ _ _ _ _ _ _ _ _ _ _ _ _ _ _ _ _ _ _ _ _ _ _ _ _ _ _ _ _ _ _ _ _ _)
theorem Ha (op nm tx:List UInt8) (v:Int) (o:World) (z:Option Addr) (n c:Nat) (aD:n<=1073741824) (r:Bool) (al:sP o z n c r):
  Calls prog 115 #[.agg #[.int i64 6,.string (J op),.string (J nm),.string (J tx),.int i64 v,.slice z n c]] o λe w'=>e=.returned (.bool ((op==[45]||op==[33])&&(op==op&&nm==[]&&tx==[]&&v==0)&&decide ((n:Int)=1)&&r))/\az o w':=by
 have aC:(n:Int)<=1073741824:=Qa
 have X:o.heap.size≠o.heap.size+1:=Qa
 have A:=O ((aw o 70 #[.int i64 6,.string (J op),.string (J nm),.string (J tx),.int i64 v,.slice z n c]).ext (Z _ (.cells #[.int i64 6,.string ⟨#[]⟩,.string ⟨#[]⟩,.string ⟨#[]⟩,.int i64 0,.slice none 0 0] 70)));have ab:=O (aU.new2 o (.cells #[.int i64 6,.string (J op),.string (J nm),.string (J tx),.int i64 v,.slice z n c] 70) 70 #[.int i64 6,.string ⟨#[]⟩,.string ⟨#[]⟩,.string ⟨#[]⟩,.int i64 0,.slice none 0 0]);have an:=O ((Z o (.cells #[.int i64 6,.string (J op),.string (J nm),.string (J tx),.int i64 v,.slice z n c] 70)).trans (Z _ (.cells #[.int i64 6,.string ⟨#[]⟩,.string ⟨#[]⟩,.string ⟨#[]⟩,.int i64 0,.slice none 0 0] 70)));have ao:=O al;clear al
 cases h0:(op==[45])with
 |true=>
  rw[Bool.true_or];generalize M:(_&& _&& _&& _:Bool)=R;have aj:=O M;clear M;go_enter func115,ntmps115;go_wp2_with fail;refine cU (UW (o.heap.size+1) 70 #[.int i64 6,.string ⟨#[]⟩,.string ⟨#[]⟩,.string ⟨#[]⟩,.int i64 0,.slice none 0 0] #[.int i64 6,.string (J op),.string ⟨#[]⟩,.string ⟨#[]⟩,.int i64 0,.slice none 0 0]) (UW.refl _ _ _ _) (UW.trans _ _ _ _) 11 3 [] [6,7,8,9] mixed Qb Qb Qb Qe trivial ?_;repeat (first|(refine bQ Qe ?_;simp only[a8,a7,a6,aZ,aY])|(refine sx ?_ (λar j=> ?_) ?_;rotate_left;(focus have av:=(A.out.grown (aJ j.1) (λe=>X (I e))).cell;clear j;go_simp<;>with_reducible rfl);simp only[a8,a7,a6,aZ,aY]))
  intro aq G af;clear af;simp only[ae,au];obtain⟨⟨ap,ad⟩,ac,j,K⟩:=G.store ab.out 1 (.string (J op)) (.string ⟨#[]⟩) rfl rfl rfl rfl;have w:=O j;have ai:=O K;have ak:=O (A.out.grown (aJ j.1) (λe=>X (I e)));have ah:=O (an.out.grown (aJ j.1) (λk e=>by injection e with e;omega));clear G j K A ab;refine aN Qe Qd (λV a=> ?_);go_simp;refine a _ _ w.out ?_;clear a ad ac;refine aN Qe Qd (λV a=> ?_);go_simp;refine a _ _ w.out ?_;clear a;refine aN Qe Qd (λV a=> ?_);go_simp;refine a _ _ w.out ?_;clear a;refine cz ?_;rename_i ax ay ag aB aA;refine ag _ _ (ka _ _ 6 v 0 _ op nm tx op [] [] z n c _ r o _ ah.out ak.out ai.out ao.out R aj.out _ _ _ _ _ _ _ _ _ _ _ _ _ _ _ _ _ _ _ _ _ _ _ _ _ _ _ _ _ _ _ _ _ _ _ _ _ _ _ _ _ _ _ _ _ _ _ _ _ _ _ _ _ _ _ _ _ _ _ _ _ _ _ _ _ _ _ _ _ _ _ _ _ _ _ _ _ _ _ _ _ _ _ _ _ _ _ _ _ _ _ _ _ _ _ _ _ _ _ _ _ _ _ _ _ _ _ _ _ _ _ _ _ _ _ _ _ _ _ _ _ _ _ _ _ _ _)
 |false=>
  rw[j9];generalize M:(_&& _&& _&& _:Bool)=R;have aj:=O M;clear M;go_enter func115,ntmps115;go_wp2_with fail;refine cU (UW (o.heap.size+1) 70 #[.int i64 6,.string ⟨#[]⟩,.string ⟨#[]⟩,.string ⟨#[]⟩,.int i64 0,.slice none 0 0] #[.int i64 6,.string (J op),.string ⟨#[]⟩,.string ⟨#[]⟩,.int i64 0,.slice none 0 0]) (UW.refl _ _ _ _) (UW.trans _ _ _ _) 11 3 [] [6,7,8,9] mixed Qb Qb Qb Qe trivial ?_;repeat (first|(refine bQ Qe ?_;simp only[a8,a7,a6,aZ,aY])|(refine sx ?_ (λar j=> ?_) ?_;rotate_left;(focus have av:=(A.out.grown (aJ j.1) (λe=>X (I e))).cell;clear j;go_simp<;>with_reducible rfl);simp only[a8,a7,a6,aZ,aY]))
  intro aq G af;clear af;simp only[ae,au];obtain⟨⟨ap,ad⟩,ac,j,K⟩:=G.store ab.out 1 (.string (J op)) (.string ⟨#[]⟩) rfl rfl rfl rfl;have w:=O j;have ai:=O K;have ak:=O (A.out.grown (aJ j.1) (λe=>X (I e)));have ah:=O (an.out.grown (aJ j.1) (λk e=>by injection e with e;omega));clear G j K A ab;refine aN Qe Qd (λV a=> ?_);go_simp;refine a _ _ w.out ?_;clear a ad ac;refine aN Qe Qd (λV a=> ?_);go_simp;refine a _ _ w.out ?_;clear a;refine aN Qe Qd (λV a=> ?_);go_simp;refine a _ _ w.out ?_;clear a;refine cz ?_;rename_i ax ay ag aB aA;refine ag _ _ (ka _ _ 6 v 0 _ op nm tx op [] [] z n c _ r o _ ah.out ak.out ai.out ao.out R aj.out _ _ _ _ _ _ _ _ _ _ _ _ _ _ _ _ _ _ _ _ _ _ _ _ _ _ _ _ _ _ _ _ _ _ _ _ _ _ _ _ _ _ _ _ _ _ _ _ _ _ _ _ _ _ _ _ _ _ _ _ _ _ _ _ _ _ _ _ _ _ _ _ _ _ _ _ _ _ _ _ _ _ _ _ _ _ _ _ _ _ _ _ _ _ _ _ _ _ _ _ _ _ _ _ _ _ _ _ _ _ _ _ _ _ _ _ _ _ _ _ _ _ _ _ _ _ _)
theorem Hb (op nm tx:List UInt8) (v:Int) (o:World) (K:Option Addr) (n c:Nat) (aH:n<=1073741824) (r:Bool) (ap:sP o K n c r) (aB:nm.length<=1073741824):
  Calls prog 115 #[.agg #[.int i64 5,.string (J op),.string (J nm),.string (J tx),.int i64 v,.slice K n c]] o λe w'=>e=.returned (.bool ((dY nm&&decide ((n:Int)<=4))&&(op==[]&&nm==nm&&tx==[]&&v==0)&&decide ((n:Int)=n)&&r))/\az o w':=by
 have aG:(n:Int)<=1073741824:=Qa
 have M:o.heap.size≠o.heap.size+1:=Qa
 have w:=O ((aw o 70 #[.int i64 5,.string (J op),.string (J nm),.string (J tx),.int i64 v,.slice K n c]).ext (Z _ (.cells #[.int i64 5,.string ⟨#[]⟩,.string ⟨#[]⟩,.string ⟨#[]⟩,.int i64 0,.slice none 0 0] 70)));have ac:=O (aU.new2 o (.cells #[.int i64 5,.string (J op),.string (J nm),.string (J tx),.int i64 v,.slice K n c] 70) 70 #[.int i64 5,.string ⟨#[]⟩,.string ⟨#[]⟩,.string ⟨#[]⟩,.int i64 0,.slice none 0 0]);have ar:=O ((Z o (.cells #[.int i64 5,.string (J op),.string (J nm),.string (J tx),.int i64 v,.slice K n c] 70)).trans (Z _ (.cells #[.int i64 5,.string ⟨#[]⟩,.string ⟨#[]⟩,.string ⟨#[]⟩,.int i64 0,.slice none 0 0] 70)));have av:=O ap;clear ap;have aq:=O (dJ nm aB);generalize dY nm=b at*
 cases b with
 |true=>
  rw[Bool.true_and];generalize ab:(_&& _&& _&& _:Bool)=R;have an:=O ab;clear ab;go_enter func115,ntmps115;go_wp2_with fail;refine cU (UW (o.heap.size+1) 70 #[.int i64 5,.string ⟨#[]⟩,.string ⟨#[]⟩,.string ⟨#[]⟩,.int i64 0,.slice none 0 0] #[.int i64 5,.string ⟨#[]⟩,.string (J nm),.string ⟨#[]⟩,.int i64 0,.slice none 0 0]) (UW.refl _ _ _ _) (UW.trans _ _ _ _) 15 3 [(4,λv=>v=.bool true,λ_ _=>True)] [6,7,8,9,10,11,12,13] mixed Qb Qb Qb Qe ⟨λ_ _ _ _ _=>trivial,trivial⟩ ?_;repeat (first|(refine bQ Qe ?_;simp only[a8,a7,a6,aZ,aY])|(refine sx ?_ (λaf a=> ?_) ?_;rotate_left;(focus have aj:=(w.out.grown (aJ a.1) (λe=>M (I e))).cell;clear a;go_simp<;>with_reducible rfl);simp only[a8,a7,a6,aZ,aY]))
  refine so (λad a z A j=> ?_) ?_
  ·clear z a;go_simp;refine(aq.out ad).mono ?_;rintro e ay ⟨rfl,rfl⟩;exact j _ _ (UW.refl _ _ _ _ _) rfl trivial
  rintro _ rfl;simp only[a8,a7,a6,aZ,aY];repeat (first|(refine bQ Qe ?_;simp only[a8,a7,a6,aZ,aY])|(refine sx ?_ (λaf a=> ?_) ?_;rotate_left;(focus have aj:=(w.out.grown (aJ a.1) (λe=>M (I e))).cell;clear a;go_simp<;>with_reducible rfl);simp only[a8,a7,a6,aZ,aY]))
  intro aA V z;clear z;simp only[ae,au];obtain⟨⟨ax,ah⟩,ag,a,X⟩:=V.store ac.out 2 (.string (J nm)) (.string ⟨#[]⟩) rfl rfl rfl rfl;have G:=O a;have al:=O X;have ao:=O (w.out.grown (aJ a.1) (λe=>M (I e)));have ak:=O (ar.out.grown (aJ a.1) (λk e=>by injection e with e;omega));clear V a X w ac;refine aN Qe Qd (λA j=> ?_);go_simp;refine j _ _ G.out ?_;clear j ah ag;refine aN Qe Qd (λA j=> ?_);go_simp;refine j _ _ G.out ?_;clear j;refine aN Qe Qd (λA j=> ?_);go_simp;refine j _ _ G.out ?_;clear j;refine cz ?_;rename_i aC aD ai aF aE;refine ai _ _ (ka _ _ 5 v 0 _ op nm tx [] nm [] K n c _ r o _ ak.out ao.out al.out av.out R (kf Qd an.out) _ _ _ _ _ _ _ _ _ _ _ _ _ _ _ _ _ _ _ _ _ _ _ _ _ _ _ _ _ _ _ _ _ _ _ _ _ _ _ _ _ _ _ _ _ _ _ _ _ _ _ _ _ _ _ _ _ _ _ _ _ _ _ _ _ _ _ _ _ _ _ _ _ _ _ _ _ _ _ _ _ _ _ _ _ _ _ _ _ _ _ _ _ _ _ _ _ _ _ _ _ _ _ _ _ _ _ _ _ _ _ _ _ _ _ _ _ _ _ _ _ _ _ _ _ _ _)
 |false=>
  rw[Bool.false_and];generalize ab:(_&& _&& _&& _:Bool)=R;have an:=O ab;clear ab;go_enter func115,ntmps115;go_wp2_with fail;refine cU (UW (o.heap.size+1) 70 #[.int i64 5,.string ⟨#[]⟩,.string ⟨#[]⟩,.string ⟨#[]⟩,.int i64 0,.slice none 0 0] #[.int i64 5,.string ⟨#[]⟩,.string (J nm),.string ⟨#[]⟩,.int i64 0,.slice none 0 0]) (UW.refl _ _ _ _) (UW.trans _ _ _ _) 15 3 [(4,λv=>v=.bool false,λ_ _=>True)] [6,7,8,9,10,11,12,13] mixed Qb Qb Qb Qe ⟨λ_ _ _ _ _=>trivial,trivial⟩ ?_;repeat (first|(refine bQ Qe ?_;simp only[a8,a7,a6,aZ,aY])|(refine sx ?_ (λaf a=> ?_) ?_;rotate_left;(focus have aj:=(w.out.grown (aJ a.1) (λe=>M (I e))).cell;clear a;go_simp<;>with_reducible rfl);simp only[a8,a7,a6,aZ,aY]))
  refine so (λad a z A j=> ?_) ?_
  ·clear z a;go_simp;refine(aq.out ad).mono ?_;rintro e ay ⟨rfl,rfl⟩;exact j _ _ (UW.refl _ _ _ _ _) rfl trivial
  rintro _ rfl;simp only[a8,a7,a6,aZ,aY];repeat (first|(refine bQ Qe ?_;simp only[a8,a7,a6,aZ,aY])|(refine sx ?_ (λaf a=> ?_) ?_;rotate_left;(focus have aj:=(w.out.grown (aJ a.1) (λe=>M (I e))).cell;clear a;go_simp<;>with_reducible rfl);simp only[a8,a7,a6,aZ,aY]))
  intro aA V z;clear z;simp only[ae,au];obtain⟨⟨ax,ah⟩,ag,a,X⟩:=V.store ac.out 2 (.string (J nm)) (.string ⟨#[]⟩) rfl rfl rfl rfl;have G:=O a;have al:=O X;have ao:=O (w.out.grown (aJ a.1) (λe=>M (I e)));have ak:=O (ar.out.grown (aJ a.1) (λk e=>by injection e with e;omega));clear V a X w ac;refine aN Qe Qd (λA j=> ?_);go_simp;refine j _ _ G.out ?_;clear j ah ag;refine aN Qe Qd (λA j=> ?_);go_simp;refine j _ _ G.out ?_;clear j;refine aN Qe Qd (λA j=> ?_);go_simp;refine j _ _ G.out ?_;clear j;refine cz ?_;rename_i aC aD ai aF aE;refine ai _ _ (ka _ _ 5 v 0 _ op nm tx [] nm [] K n c _ r o _ ak.out ao.out al.out av.out R (kf Qd an.out) _ _ _ _ _ _ _ _ _ _ _ _ _ _ _ _ _ _ _ _ _ _ _ _ _ _ _ _ _ _ _ _ _ _ _ _ _ _ _ _ _ _ _ _ _ _ _ _ _ _ _ _ _ _ _ _ _ _ _ _ _ _ _ _ _ _ _ _ _ _ _ _ _ _ _ _ _ _ _ _ _ _ _ _ _ _ _ _ _ _ _ _ _ _ _ _ _ _ _ _ _ _ _ _ _ _ _ _ _ _ _ _ _ _ _ _ _ _ _ _ _ _ _ _ _ _ _)
theorem Hh (k:Int) (a: ∀i:Int,1<=i->i<=7->k≠i) (op nm tx:List UInt8) (v:Int) (o:World) (w:Option Addr) (n c:Nat) (z:n<=1073741824):
  Calls prog 115 #[.agg #[.int i64 k,.string (J op),.string (J nm),.string (J tx),.int i64 v,.slice w n c]] o λe w'=>e=.returned (.bool false)/\az o w':=by
 have X:(k==1)=false:=Ql.2 (a 1 Qc Qc);have V:(k==2)=false:=Ql.2 (a 2 Qc Qc);have R:(k==3)=false:=Ql.2 (a 3 Qc Qc);have M:(k==4)=false:=Ql.2 (a 4 Qc Qc);have K:(k==5)=false:=Ql.2 (a 5 Qc Qc);have G:(k==6)=false:=Ql.2 (a 6 Qc Qc);have A:(k==7)=false:=Ql.2 (a 7 Qc Qc);have j:=O ((Z o (.cells #[.int i64 k,.string (J op),.string (J nm),.string (J tx),.int i64 v,.slice w n c] 70)).trans (Z _ (.cells #[.int i64 k,.string ⟨#[]⟩,.string ⟨#[]⟩,.string ⟨#[]⟩,.int i64 0,.slice none 0 0] 70)));clear a
 cases h1:(op==[])with
 |false=>
  go_enter func115,ntmps115;go_wp2_with fail;go_ret;exact⟨rfl,j.out⟩
 |true=>
 cases h2:(nm==[])with
 |false=>
  go_enter func115,ntmps115;go_wp2_with fail;go_ret;exact⟨rfl,j.out⟩
 |true=>
 cases h3:(tx==[])with
 |false=>
  go_enter func115,ntmps115;go_wp2_with fail;go_ret;exact⟨rfl,j.out⟩
 |true=>
 cases h4:(v==0)with
 |false=>
  go_enter func115,ntmps115;go_wp2_with fail;go_ret;exact⟨rfl,j.out⟩
 |true=>
  go_enter func115,ntmps115;go_wp2_with fail;go_ret;exact⟨rfl,j.out⟩
theorem sr: ∀l:List Ex,l.any (λy=> !y.ok)= !sW l
 | []=>rfl
 |x::r=>by simp only[j7,sW,sr r,Bool.not_and]
theorem qH (y:Ex) (w':World) (B:Option Addr) (d:Nat) (A: ∀w,az w' w->Calls prog 115 #[.agg #[.int i64 y.k,.string (J y.op),.string (J y.nm),.string (J y.tx),.int i64 y.v,.slice B y.args.length d]] w λe o=>e=.returned (.bool y.ok)/\az w o) (F:FuncId) (M:F=154\/F=114):
  Calls prog F #[.agg #[.int i64 y.k,.string (J y.op),.string (J y.nm),.string (J y.tx),.int i64 y.v,.slice B y.args.length d]] w' λe o=>e=.returned (.bool (!y.ok))/\az w' o:=by
 have G:=O A;have j:=O (Z w' (.cells #[.int i64 y.k,.string (J y.op),.string (J y.nm),.string (J y.tx),.int i64 y.v,.slice B y.args.length d] 70));clear A;generalize y.args.length=n at*;rcases M with rfl|rfl
 ·go_enter func154,ntmps154;go_wp2_with (refine(G.out _ j.out).mono ?_;rintro e K ⟨rfl,a⟩;have z:=O (j.out.trans a);clear a);go_ret;exact⟨rfl,z.out⟩
 ·go_enter func114,ntmps114;go_wp2_with (refine(G.out _ j.out).mono ?_;rintro e K ⟨rfl,a⟩;have z:=O (j.out.trans a);clear a);go_ret;exact⟨rfl,z.out⟩
theorem pM: ∀(m:Nat) (x:Ex),x.wt<=m->x.wt<=1073741824-> ∀(P:Nat->Prop) (a:World) (h:Option Addr) (n c:Nat),c7 a P (.slice h n c) x.args->
  Calls prog 115 #[.agg #[.int i64 x.k,.string (J x.op),.string (J x.nm),.string (J x.tx),.int i64 x.v,.slice h n c]] a λe w'=>e=.returned (.bool x.ok)/\az a w'
 |0,x,hm,_,_,_,_,_,_,_=>absurd hm (by have:=x.wt_eq;omega)
 |m+1,x,hm,hx,P,a,h,n,c,K=>by
  have ao:=x.wt_eq;have ap:=dH x.args;have z:=K.len;have A:sP a h n c (sW x.args):=λw' ag=>by
   refine(BE (λy=> !y.ok) x.args P w' h n c (K.keep (.of_ext ag) (λ_ V _=>V)) Qa (λy ad I B d ae=> ?_)).mono ?_
   ·have an:=dG ad;exact qH y I B d (λac af=>pM m y Qa Qa P ac B _ d (ae.keep (.of_ext af) (λ_ V _=>V))) _ (.inl rfl)
   ·rintro e I ⟨rfl,j⟩;exact⟨by rw[sr],j⟩
  have o:n<=1073741824:=Qa
  obtain⟨k,op,nm,tx,v,xs⟩:=x;simp only[Ex.k,Ex.op,Ex.nm,Ex.tx,Ex.v,Ex.args]at*;have w: ∀X,X=Ex.ok (.mk k op nm tx v xs)->Calls prog 115 #[.agg #[.int i64 k,.string (J op),.string (J nm),.string (J tx),.int i64 v,.slice h n c]] a (λe w'=>e=.returned (.bool X)/\az a w')->Calls prog 115 #[.agg #[.int i64 k,.string (J op),.string (J nm),.string (J tx),.int i64 v,.slice h n c]] a λe w'=>e=.returned (.bool (Ex.ok (.mk k op nm tx v xs)))/\az a w':=λX K ah=>by rw[<-K];exact ah
  have M: ∀R:Nat,decide ((n:Int)=(R:Int))=(n==R):=λR=>by rw[gM];simp;omega
  have G:=M 0;have O:=M 1;have ab:=M 2;have al:((0:Nat):Int)=0:=rfl;have ak:((1:Nat):Int)=1:=rfl;have aj:((2:Nat):Int)=2:=rfl;rw[al]at G;rw[ak]at O;rw[aj]at ab;by_cases h1:k=1
  ·subst h1;refine w _ ?_ (Hg op nm tx v a h n c o _ A);rw[G,Ex.ok,if_pos rfl,<-z];simp
  by_cases j:k=2
  ·subst j;refine w _ ?_ (Hf op nm tx v a h n c o _ A Qa);rw[G,Ex.ok,if_neg h1,if_pos rfl,<-z];simp
  by_cases h3:k=3
  ·subst h3;refine w _ ?_ (He op nm tx v a h n c o _ A Qa);rw[G,Ex.ok,if_neg h1,if_neg j,if_pos rfl,<-z];simp
  by_cases h4:k=4
  ·subst h4;refine w _ ?_ (Hc op nm tx v a h n c o _ A Qa);rw[O,Ex.ok,if_neg h1,if_neg j,if_neg h3,if_pos rfl,<-z];simp
  by_cases h5:k=5
  ·subst h5;refine w _ ?_ (Hb op nm tx v a h n c o _ A Qa);have ai:decide ((n:Int)<=4)=decide (n<=4):=by rw[gM];simp;omega
   rw[ai,Ex.ok,if_neg h1,if_neg j,if_neg h3,if_neg h4,if_pos rfl,<-z];simp
  by_cases h6:k=6
  ·subst h6;refine w _ ?_ (Ha op nm tx v a h n c o _ A);rw[O,Ex.ok,if_neg h1,if_neg j,if_neg h3,if_neg h4,if_neg h5,if_pos rfl,<-z];simp
  by_cases h7:k=7
  ·subst h7;refine w _ ?_ (G' op nm tx v a h n c o _ A);rw[ab,Ex.ok,if_neg h1,if_neg j,if_neg h3,if_neg h4,if_neg h5,if_neg h6,if_pos rfl,<-z];simp
  ·refine w _ ?_ (Hh k (λi ar aq=>by omega) op nm tx v a h n c o);rw[Ex.ok,if_neg h1,if_neg j,if_neg h3,if_neg h4,if_neg h5,if_neg h6,if_neg h7];rfl
theorem nX {P:Program} (t u o e:TypeId) (i:TypeInfo) (h:Value) (A:P.underlying t=some (.slice e)) (z:P.underlying u=some (.int i64)) (M:P.info? e=some i) (w:i.zero=some h) (a:World) (n:Nat) (j:0<n) (G:0<i.size)
  (ac:(n:Int)<=1073741824) (ad:n*i.bytes<=281474976710656):
  (Builtin.append_ #[t,u] o #[.slice none 0 0,.int i64 n]).run P a=
   .ok (.slice (some ⟨a.heap.size,0,none⟩) n (grownCap a n 0 e)) (a.drew.alloc (.cells (Builtin.zeroCells h.cells n++Builtin.zeroCells h.cells (grownCap a n 0 e-n)) e)):=by
 have K:n≠0:=Qa
 have I:IntKind.i64.wrap (n:Int)=n:=Qf
 have X: ¬(n:Int)<0:=Qa
 have O: ¬(9223372036854775807<(n:Int)):=Qa
 have V: ¬(281474976710656<Builtin.nextslicecap n 0*i.bytes):=by rw[nextslicecap_zero j];omega
 have R: ¬(281474976710656<(n:Int)*(i.bytes:Int)):=by
  have:(n:Int)*(i.bytes:Int)=((n*i.bytes:Nat):Int):=Qd
  omega
 simp[Builtin.append_,run_underlying A,run_underlying z,sizeOf,typeInfo,zeroValue,M,w,I,X,K,O,V,R,Question.forced,run_firstCells_none,newRow,grownCap,asInt,asIntOf];intro ab;exact absurd ab (bP (Nat.mul_pos j G))
theorem ln (a:Array Value) (n:Nat):(Builtin.zeroCells a n).size=n*a.size:=by simp[Builtin.zeroCells]
theorem rR {P:Program} {a:World} {ops:Array Oper} {rest:List Oper} {h:Oper} {o:Act} {Q:Exit->Act->World->Prop} {t u e:TypeId} {A K:Nat} {z:Value} (j:ox P t e A K z) (ab:P.underlying u=some (.int i64)) (af:h.guard=none) (s x:Operand)
  (ad:h.op=.call {callee:=.builtin .append,args:= #[s,x],argTypes:= #[t,u]}) (base n:Nat) (I:o.eval s=.slice none 0 0) (X:o.eval x=.int i64 n) (aj:0<n) (al:n<=1073741824) (V:K<=1000) (ah:base<=a.heap.size)
  (ak: ∀g w w',w'.ownsRow base e A (.slice (some ⟨g,0,none⟩) 0 w) 0 []->n<=w->az a w'->wpList P ops Q rest (o.put h.dst (.slice (some ⟨g,0,none⟩) n w)) w'):
  wpList P ops Q (h::rest) o a:=by
 obtain⟨i,ae,R,O,M⟩:=info_parts j.info;have J:n*i.bytes<=n*1000:=gC _ (by rw[M];exact V);have ac:=nX (P:=P) t u h.type e i z j.under ab ae R a n aj (by rw[O];exact j.pos) Qa Qa;have G:=grownCap_ge a n 0 e;have ag:grownCap a n 0 e<=maxLen:=grownCap_le_maxLen a n 0 e Qi;refine wpList_plain af λan ai=> ?_;unfold Oper.wp execOp;simp only[ad,resolve,invoke,builtin,Sem.run_bind,Sem.run_pure,Result.andThen_ok,dQ,bF,cY,I,X,ac];refine ai _ _ (ak a.heap.size (grownCap a n 0 e) _ ?_ G ((aS a).drew.alloc' _));refine World.ownsRow_made a.drew _ _ ah ag ?_;rw[Array.size_append,ln,ln,j.cells,<-Nat.add_mul,Nat.add_sub_cancel' G]
theorem zQ:ox prog 57 72 5 96 (.agg #[.int i64 0,.string ⟨#[]⟩,.slice none 0 0,.slice none 0 0,.slice none 0 0]):=⟨underlying57,by kernel_rfl,by rfl,by decide⟩
theorem Bh (n:Nat) (z:n<=1073741824) (a:World):Calls prog 150 #[.slice none 0 0,.int i64 (n:Int)] a λe w'=>(∃w c,e=.returned (.slice w 0 c)/\w'.ownsRow a.heap.size 72 5 (.slice w 0 c) 0 [])/\az a w':=by
 have V: ¬(n:Int)<0:=Qa
 have R:wrap64 (n:Int)=n:=by simp only[wrap64];omega
 have M:IntKind.i64.wrap (n:Int)=n:=Qf
 rcases Nat.eq_zero_or_pos n with rfl|h0
 ·go_enter func150,ntmps150;go_wp2_with fail;go_ret;exact⟨⟨none,0,rfl,World.ownsRow_nil a _ _ 5⟩,aS a⟩
 ·have I:(0:Int)<n:=Qa
  go_enter func150,ntmps150;go_wp2_with (at_builtin;refine rR zQ underlying3 rfl _ _ rfl a.heap.size n rfl rfl h0 z Qc (ak _) ?_;intro g ab K j X o;have A:=O j;have G:=O o;clear j o);go_ret;exact⟨⟨_,_,rfl,A.out⟩,G.out⟩
theorem db.svs {j:World} {P:Nat->Prop} {G:Option Addr} {n c:Nat} {l:List St} (M:db j P (.slice G n c) l):
  ∃q:List SV,q.map (·.s)=l/\q.length=n/\(∀p,p∈q->p.ok j P)/\n<=maxLen/\(n=0\/n<=c/\ ∃b o,G=some ⟨b,o,none⟩/\b<j.heap.size/\ ∀a y,(eN q)[a]? =some y->j.cell? ⟨b,o+a,none⟩=some y):=by
 cases M with
 |nil=>exact⟨[],rfl,rfl,λp w=>(by cases w),by simp[maxLen],.inl rfl⟩
 |row b o n c xs es bs ls hP hb hn hnc hm hc he hs hl=>
  refine⟨List.ofFn (n:=l.length) (λi=>⟨l[i],es i,bs i,ls i⟩),?_,by simpa using hn,?_,by omega,.inr ⟨hnc,b,o,rfl,hb,λa y h=> ?_⟩⟩
  ·apply List.ext_getElem
   ·simp
   ·intro i V R;simp
  ·intro p w;rw[List.mem_ofFn]at w;obtain⟨i,rfl⟩:=w;exact⟨he i i.2,hs i i.2,hl i i.2⟩
  ·have O:a<l.length*5:=by
    have:=(List.getElem?_eq_some_iff.1 h).1;rw[kR]at this;simpa using this
   have A:a/5<l.length:=Qa
   have K:a%5<5:=Nat.mod_lt _ Qa;have z:a=a/5*5+a%5:=Qa
   rw[z,mo _ (a/5) (by simpa using A) (a%5) K]at h;obtain⟨ad,ac,ab,I,X⟩:=hc (a/5) A;rw[z,<-dT];simp only[List.getElem_ofFn]at h;generalize a%5=r at*;have:r=0\/r=1\/r=2\/r=3\/r=4:=Qa
   rcases this with rfl|rfl|rfl|rfl|rfl<;>(simp only[uS,fx,fA,gV]at h;subst h;assumption)
theorem db.of_row {h:World} {base:Nat} {e:TypeId} {v:Value} {n:Nat} {q:List SV} {Q:Nat->Prop} (A:h.ownsRow base e 5 v n (eN q)) (M:q.length=n) (V: ∀b,base<=b->Q b) (G: ∀p,p∈q->p.ok h Q):db h Q v (q.map (·.s)):=by
 rcases A.2 with⟨rfl,X⟩|⟨g,cap,cur,rfl,hb,hg,hnc,hcm,hcs,ht⟩
 ·have:q=[]:=ax Qa;subst this;exact .nil _ _
 ·have O:g<h.heap.size:=(Array.getElem?_eq_some_iff.1 hg).1;have o: ∀w y,(eN q)[w]? =some y->h.cell? ⟨g,w,none⟩=some y:=λw y z=>by
   rw[cell_of_row h g w cur e (0,0) hg];rw[<-ht,bL]at z;split at z
   ·simpa using z
   ·cases z
  refine .row g 0 n cap _ (λi=>if A:i<q.length then q[i].e else .slice none 0 0) (λi=>if A:i<q.length then q[i].b else .slice none 0 0) (λi=>if A:i<q.length then q[i].l else .slice none 0 0) (V _ hb) O (by simpa using M) hnc hcm (λi j=> ?_) (λi j=> ?_) (λi j=> ?_) (λi j=> ?_)
  ·have a:i<q.length:=by simpa using j
   have r:=λk R=>mo q i a k R;have K:(q.map (·.s))[i]=q[i].s:=Qd
   rw[K,dif_pos a,dif_pos a,dif_pos a,aG];exact⟨o _ _ (r 0 Qa),o _ _ (r 1 Qa),o _ _ (r 2 Qa),o _ _ (r 3 Qa),o _ _ (r 4 Qa)⟩
  all_goals
   have a:i<q.length:=by simpa using j
   have K:(q.map (·.s))[i]=q[i].s:=Qd
   rw[K,dif_pos a]
  ·exact(G _ (ay a)).1
  ·exact(G _ (ay a)).2.1
  ·exact(G _ (ay a)).2.2
theorem xX {q:List SV} (u:Value) (a:u∈eN q) (o: ∀p,p∈q-> ∃j b c d e f g h i,p.e=.slice j b c/\p.b=.slice d e f/\p.l=.slice g h i):u.oneCell'=true:=by
 obtain⟨p,w,a⟩:=List.mem_flatMap.1 a;obtain⟨j,b,c,d,e,f,g,h,i,G,A,z⟩:=o p w;simp only[uS,G,A,z,ew,dw,or_false]at a;rcases a with rfl|rfl|rfl|rfl|rfl<;>rfl
theorem SV.ok.forms {j:World} {P:Nat->Prop} {p:SV} (a:p.ok j P): ∃h b c d e f g a i,p.e=.slice h b c/\p.b=.slice d e f/\p.l=.slice g a i:=by
 obtain⟨h,b,z,_⟩:=a.1.form;obtain⟨c,d,w,_⟩:=a.2.1.form;obtain⟨e,f,o,_⟩:=a.2.2.form;exact⟨_,_,_,_,_,_,_,_,_,z,w,o⟩
theorem oC {P:Program} {a:World} {ops:Array Oper} {rest:List Oper} {h:Oper} {G:Act} {Q:Exit->Act->World->Prop} {t e:TypeId} {w:Nat} {O:Value} (o:ox P t e 5 w O) (av:h.guard=none) (s x:Operand)
  (ap:h.op=.call {callee:=.builtin .append,args:= #[s,x],argTypes:= #[t,t]}) (base:Nat) (z:Option Addr) (n c:Nat) (xs:List Value) (al:G.eval s=.slice z n c) (M:a.ownsRow base e 5 (.slice z n c) n xs)
  (B:Option Addr) (m d:Nat) (q:List SV) (aH:Nat->Prop) (aj:G.eval x=.slice B m d) (ag:q.length=m) (ao: ∀p,p∈q->p.ok a aH)
  (ay:m=0\/m<=d/\ ∃b h,B=some ⟨b,h,none⟩/\b<a.heap.size/\ ∀K y,(eN q)[K]? =some y->a.cell? ⟨b,h+K,none⟩=some y) (aI:n+m<=1073741824) (af:w<=1000) (ai:base<=a.heap.size) (aq:n<=c)
  (aG: ∀C k w',w'.ownsRow base e 5 (.slice C (n+m) k) (n+m) (xs++eN q)->(∀w0,w0.heap.size<=base->az w0 a->az w0 w')->wpList P ops Q rest (G.put h.dst (.slice C (n+m) k)) w'):
  wpList P ops Q (h::rest) G a:=by
 obtain⟨i,R,ae,ac,ab⟩:=info_parts o.info;have aA:=World.ownsRow.lt M;have I: ∀j w',(Builtin.append_ #[t,t] h.type #[.slice z n c,.slice B m d]).run P a=.ok j w'->w'.ownsRow base e 5 j (n+m) (xs++eN q)->a.grownBy w' (Value.ownBlock (.slice z n c))->wpList P ops Q (h::rest) G a:=by
  intro j w' A ah aw;obtain⟨C,k,rfl⟩: ∃C k,j=.slice C (n+m) k:=by
   rcases ah.2 with⟨rfl,aF⟩|⟨g,cap,cur,rfl,_⟩
   ·exact⟨none,0,by rw[aF]⟩
   ·exact⟨_,_,rfl⟩
  refine wpList_plain av λaJ aB=> ?_;unfold Oper.wp execOp;simp only[ap,resolve,invoke,builtin,Sem.run_bind,Sem.run_pure,Result.andThen_ok,dQ,bF,cY,al,aj,A];exact aB _ _ (aG C k w' ah λw0 ak aC=>aC.grown aw (λk ar=>aR ak (aA k ar).1))
 have aE: ∀u∈eN q,u.oneCell'=true:=λu J=>xX u J λp an=>(ao p an).forms;rcases ay with rfl|⟨hmd,b,o',rfl,hlt,hcell⟩
 ·have:q=[]:=ax ag;subst this;rcases B with _|ad
  ·refine I (.slice z n c) a ?_ (by simpa[eN]using M) (World.grownBy.refl a _)
   cases z<;>simp[Builtin.append_,run_underlying o.under,sizeOf,typeInfo,R,Builtin.lenOf,Builtin.firstCells,aq,storeCells]
  ·obtain⟨j,w',A,X,V,_,aD⟩:=run_append_own_at (P:=P) a base t h.type e i O 5 w o.under R ae ac ab o.cells o.pos _ n xs M ad 0 d [] Qd Qd Qd Qi (by have:(n+0)*w<=(n+0)*1000:=(gC _ af);omega) ai;exact I j w' A (by simpa[eN]using X) V
 ·obtain⟨j,w',A,X,V,_,aD⟩:=run_append_own_at (P:=P) a base t h.type e i O 5 w o.under R ae ac ab o.cells o.pos _ n xs M ⟨b,o',none⟩ m d (eN q) (by rw[kR,ag]) (λK y au=>by rw[Addr.add_lit];exact hcell K y au) aE Qi (by
    have:(n+m)*w<=(n+m)*1000:=gC _ af
    omega) ai
  exact I j w' A X V
theorem E9 {a:World} {j b:Nat} {e:TypeId} {k n:Nat} {v:Value} {xs:List Value} (h:a.ownsRow b e k v n xs) (A:j<=b):a.ownsRow j e k v n xs:=
 ⟨h.1,h.2.imp id fun⟨g,K,G,z,w,o⟩=>⟨g,K,G,z,aR A w,o⟩⟩
def kq {α:Type} (a b c:α):Nat->α|0=>a|1=>b| _=>c
theorem qa (P:Nat->Prop) (j:World) (g:Nat) (ar B:Option Addr) (n m c d:Nat) (av au:List St) (aj:aU j g 57 #[.slice ar n c,.slice B m d]) (aI:db j P (.slice ar n c) av) (aH:db j P (.slice B m d) au) (w:n+m<=1073741824):
  Calls prog 112 #[.slice (some ⟨g,0,none⟩) 2 2] j λe w'=>(∃C k,e=.returned (.slice C (n+m) k)/\db w' (λb=>P b\/j.heap.size<=b) (.slice C (n+m) k) (av++au))/\az j w':=by
 obtain⟨V,rfl,ax,aA,a5,aD⟩:=aI.svs;obtain⟨af,rfl,aw,ay,a4,aC⟩:=aH.svs;have ap:=O aj;have aL:=O aA;have aK:=O ay;have aT:=O aD;have aR:=O aC;have aP:=aj.cell;have aQ:=O (aS j);have a3: ¬((n:Int)<0):=Qa
 have a2: ¬((n:Int)+m<0):=Qa
 have aZ:wrap64 ((n:Int))=n:=by simp only[wrap64];omega
 have aY:wrap64 ((n:Int)+m)=(n+m:Nat):=by simp only[wrap64];omega
 have aX:IntKind.i64.wrap (n:Int)=n:=Qf
 have aW:IntKind.i64.wrap ((n:Int)+m)=(n+m:Nat):=Qf
 have a1: ¬(((n+m:Nat):Int)<0):=Qa
 clear aI aH aA ay aD aC aj;go_enter func112,ntmps112;go_wp2_with fail
 go_loopw [3,11] (λvs A wr=> ∃(a:Nat),A=.int i64 (a:Int)/\a<=2/\vs=.int i64 ((kq 0 n (n+m) a:Nat):Int)/\Hid (az j wr)) (λ_ A _=>2-(intOf A).toNat)
 case atStart=>exact⟨0,rfl,by omega,rfl,aQ⟩
 case round=>
  obtain⟨a,rfl,X,rfl,ae⟩:=hrel;have aN:=(ap.out.ext ae.out).cell;clear aP;obtain rfl|rfl|rfl:a=0\/a=1\/a=2:=Qa
  ·simp only[kq];go_wp2_with fail;go_roundw
   case rel=>exact⟨1,rfl,by omega,by simp,ae⟩
   case measure=>simp[intOf]
  ·simp only[kq];go_wp2_with fail;go_roundw
   case rel=>exact⟨2,rfl,by omega,by simp,ae⟩
   case measure=>simp[intOf]
  ·simp only[kq];go_wp2_with (go_at_call 150;refine(Bh (n+m) w _).mono ?_;rintro e aV ⟨⟨a9,a8,rfl,aE⟩,aG⟩;have ao:=O (ae.out.trans aG);have aJ:=O (E9 aE (dz ae.out));have aO:=(ap.out.ext ao.out).cell;clear aN;clear aE aG)
   go_loopw [6,27] (λvs A wr=> ∃(a:Nat) (C:Option Addr) (k G:Nat),A=.int i64 (a:Int)/\a<=2/\vs=.slice C k G/\k=kq 0 n (n+m) a/\Hid (wr.ownsRow j.heap.size 72 5 (.slice C k G) k (kq [] (eN V) (eN V++eN af) a))/\Hid (az j wr)) (λ_ A _=>2-(intOf A).toNat)
   case atStart=>exact⟨0,_,_,_,rfl,by omega,rfl,rfl,aJ,ao⟩
   case round=>
    obtain⟨a,C,k,G,rfl,X,rfl,R,M,o⟩:=hrel;have a6:=(ap.out.ext o.out).cell;clear aO aJ ao;have aB:k<=G:=by
     rcases M.out.2 with⟨ai,a7⟩|⟨g',c',cur,ai,_,_,hle,_⟩
     ·injection ai with ad ac K;omega
     ·injection ai with ad ac K;omega
    obtain rfl|rfl|rfl:a=0\/a=1\/a=2:=Qa
    ·simp only[kq]at R M;obtain rfl:k=0:=R;go_wp2_with (at_builtin;refine oC zQ rfl _ _ rfl j.heap.size C 0 G [] rfl M.out ar n c V P rfl ax (λp z=>(aL.out p z).keep (.of_ext o.out) (λ_ w _=>w)) (aT.out.imp id fun⟨ad,b,ag,ac,K,al⟩=>⟨ad,b,ag,ac,aF K o.out.size,λa y X=>(o.out.cell b _ K).trans (al a y X)⟩) Qa Qc o.out.size aB ?_;intro aq ah aM I ab;have J:=O I;have an:=O (ab j (ak _) o.out);clear I ab);go_roundw
     case rel=>exact⟨1,aq,0+n,ah,rfl,by omega,by simp,by simp[kq],by simpa[kq]using J,an⟩
     case measure=>simp[intOf]
    ·simp only[kq]at R M;obtain rfl:k=n:=R;go_wp2_with (at_builtin;refine oC zQ rfl _ _ rfl j.heap.size C k G (eN V) rfl M.out B m d af P rfl aw (λp z=>(aK.out p z).keep (.of_ext o.out) (λ_ w _=>w)) (aR.out.imp id fun⟨ad,b,ag,ac,K,al⟩=>⟨ad,b,ag,ac,aF K o.out.size,λa y X=>(o.out.cell b _ K).trans (al a y X)⟩) Qa Qc o.out.size aB ?_;intro aq ah aM I ab;have J:=O I;have an:=O (ab j (ak _) o.out);clear I ab);go_roundw
     case rel=>exact⟨2,aq,k+m,ah,rfl,by omega,rfl,by simp[kq],by simpa[kq]using J,an⟩
     case measure=>simp[intOf]
    ·simp only[kq]at R M;subst R;go_wp2_with fail;go_ret;refine⟨⟨C,G,rfl,?_⟩,o.out⟩
     have:=db.of_row (q:=V++af) (Q:=λb=>P b\/j.heap.size<=b) (by rw[qO];exact M.out) (by simp[ax,aw]) (λb w=> .inr w) (λp z=>by
      rcases List.mem_append.1 z with z|z
      ·exact(aL.out p z).keep (.of_ext o.out) (λ_ w _=> .inl w)
      ·exact(aK.out p z).keep (.of_ext o.out) (λ_ w _=> .inl w))
     simpa using this
theorem yM {l:List St} {a:Nat} (h:a<l.length):ie (l.take (a+1))=max (ie (l.take a)) l[a].dep:=by
 rw[aX h,l_];simp[ie]
theorem yN (l:List Ex) (a:Nat):gR (l.take a)<=gR l:=by
 have:=nE (l.take a) (l.drop a);rw[dm]at this;omega
theorem yL (l:List St) (a:Nat):ie (l.take a)<=ie l:=by
 have:=l_ (l.take a) (l.drop a);rw[dm]at this;omega
theorem tz: ∀(m:Nat) (x:St),x.wt<=m->x.wt<=1073741824-> ∀(P:Nat->Prop) (z:World) (ab B C:Option Addr) (n c w M o K:Nat),c7 z P (.slice ab n c) x.ex->db z P (.slice B w M) x.body->db z P (.slice C o K) x.els->
  Calls prog 69 #[.agg #[.int i64 x.k,.string (J x.nm),.slice ab n c,.slice B w M,.slice C o K]] z λe w'=>e=.returned (.int i64 (x.dep:Int))/\az z w'
 |0,x,hm,_,_,_,_,_,_,_,_,_,_,_,_,_,_,_=>absurd hm (by have:=x.wt_eq;omega)
 |m+1,x,hm,hx,P,z,ab,B,C,n,c,w,M,o,K,hR,hRb,hRl=>by
  have aN:=O (x.dep_eq);have bH:=x.wt_eq;have aE:=hR.len;have aF:=hRb.len;have aD:=hRl.len;have bL:=dH x.ex;have bN:=dF x.body;have bJ:=dF x.els;have bV:=nD x.ex;have bW:=nC x.body;have bT:=nC x.els;have aV: ∀y,y∈x.body++x.els->y.wt<=m/\y.wt<=1073741824:=λy aT=>by
   rcases List.mem_append.1 aT with av|av
   ·have:=bO av;omega
   ·have:=bO av;omega
  have bt:=O (tz m);obtain⟨k,nm,xs,G,A⟩:=x;simp only[St.k,St.nm,St.ex,St.body,St.els]at*;have bn:=O hR;have bl:=O hRb;have bj:=O hRl;have bv:=O (Z z (.cells #[.int i64 k,.string (J nm),.slice ab n c,.slice B w M,.slice C o K] 72));have bx:=O (aw z 72 #[.int i64 k,.string (J nm),.slice ab n c,.slice B w M,.slice C o K]);have aM:=O aE;have br:=O aF;have bq:=O aD;have bK:n<=gA xs:=Qa
  have bM:w<=fP G:=Qa
  have bI:o<=fP A:=Qa
  clear hR hRb hRl aE aF aD;go_enter func69,ntmps69;go_wp2_with fail
  go_loopw [3,11] (λai X wr=> ∃(j:Nat),X=.int i64 (j:Int)/\j<=n/\ai=.int i64 (gR (xs.take j):Int)/\Hid (az z wr)/\Hid (aU wr z.heap.size 72 #[.int i64 k,.string (J nm),.slice ab n c,.slice B w M,.slice C o K])) (λ_ X _=>n-(intOf X).toNat)
  case atStart=>exact⟨0,rfl,aI _,by simp[gR],bv,bx⟩
  case round=>
   obtain⟨j,rfl,bP,rfl,V,aO⟩:=hrel;have a2:=yN xs j;by_cases hlt:j<n
   ·have aX:(j:Int)<n:=Qa
    have al:j<xs.length:=by have:=aM.out;omega
    obtain⟨b,aR,bZ,rfl,a,a6,ag,af,ae,ad,ac,aJ,ar⟩:=bn.out.at_ j al;have aA:=O (rz al);have bF:=dG (ay al);generalize xs[j]=y at*;have bc:=(V.out.cell b _ a).trans ag;have bb:=(V.out.cell b _ a).trans af;have ba:=(V.out.cell b _ a).trans ae;have a9:=(V.out.cell b _ a).trans ad;have a8:=(V.out.cell b _ a).trans ac;have bY:=(V.out.cell b _ a).trans aJ;obtain⟨D,d,rfl,_⟩:=ar.form;have bm:=O (ar.keep (.of_ext V.out) (Q:=P) (λb a _=>a));have a1:=y.dep_le;clear ag af ae ad ac aJ ar;go_wp2_with (go_at_call 111;refine(xp _ y (ak _) Qa P _ D _ d (bm.out.keep (.of_ext (Z _ _)) (λb a _=>a))).mono ?_;rintro e aP ⟨rfl,I⟩;have ax:=O ((V.out.alloc' _).trans I);have bw:=O ((aO.out.ext (Z _ _)).ext I);clear I);go_roundw
    case rel=>exact⟨j+1,by go_num,by omega,by rw[aA.out];congr 1;omega,ax,bw⟩
    case measure=>simp[intOf];omega
   ·have aX: ¬(j:Int)<n:=Qa
    have aY:j=n:=Qa
    subst aY;have bp:=O (show gR (xs.take j)=gR xs by rw[aM.out,bU]);rw[bp.out]at a2⊢;have a5:=aO.out.cell;have aB:=O (V.out.alloc' (.cells #[.slice B w M,.slice C o K] 57));have bz:=O (aw wr 57 #[.slice B w M,.slice C o K]);go_wp2_with (go_at_call 112;refine(qa P _ _ B C w o M K G A bz.out (bl.out.keep (.of_ext aB.out) (λ_ a _=>a)) (bj.out.keep (.of_ext aB.out) (λ_ a _=>a)) Qa).mono ?_;rintro e aQ ⟨⟨D,bE,rfl,aG⟩,aH⟩;have bu:=O (aB.out.trans aH);have aL:=O aG;clear aH aG);generalize bX:(λb=>P b\/(wr.alloc (.cells #[.slice B w M,.slice C o K] 57)).heap.size<=b)=Q at*;have au:(G++A).length=w+o:=by have:=br.out;have:=bq.out;simp;omega
    obtain⟨N,a7⟩: ∃N,w+o=N:=⟨_,rfl⟩
    rw[a7]at aL au⊢;have bS:=l_ G A;clear a5
    go_loopw [3,27] (λai X aC=> ∃(i:Nat),X=.int i64 (i:Int)/\i<=N/\ai=.int i64 ((max (gR xs) (ie ((G++A).take i)):Nat):Int)/\Hid (az z aC)/\Hid (az aQ aC)) (λ_ X _=>N-(intOf X).toNat)
    case atStart=>exact⟨0,rfl,aI _,by simp[ie],bu,O (aS _)⟩
    case round=>
     obtain⟨i,rfl,bQ,rfl,aK,R⟩:=hrel;have a3:=yL (G++A) i;by_cases hlt2:i<N
     ·have aW:(i:Int)<N:=Qa
      have an:i<(G++A).length:=Qa
      obtain⟨b,aR,u,v,bD,rfl,a,a6,ag,af,ae,ad,ac,aq,ap,ao⟩:=aL.out.at_ i an;have aA:=O (yM an);have aj:=aV _ (ay an);generalize (G++A)[i]=y at*;have bc:=(R.out.cell b _ a).trans ag;have bb:=(R.out.cell b _ a).trans af;have ba:=(R.out.cell b _ a).trans ae;have a9:=(R.out.cell b _ a).trans ad;have a8:=(R.out.cell b _ a).trans ac;obtain⟨bC,bf,rfl,_⟩:=aq.form;obtain⟨bB,be,rfl,_⟩:=ap.form;obtain⟨bA,bd,rfl,_⟩:=ao.form;have bk:=O (aq.keep (.of_ext R.out) (Q:=Q) (λb a _=>a));have bi:=O (ap.keep (.of_ext R.out) (Q:=Q) (λb a _=>a));have bh:=O (ao.keep (.of_ext R.out) (Q:=Q) (λb a _=>a));have a1:=y.dep_le;have bR:=aj.2;clear ag af ae ad ac aq ap ao;go_wp2_with (go_at_call 69;refine(bt.out y aj.1 aj.2 Q _ bC bB bA _ bf _ be _ bd (bk.out.keep (.of_ext (Z _ _)) (λb a _=>a)) (bi.out.keep (.of_ext (Z _ _)) (λb a _=>a)) (bh.out.keep (.of_ext (Z _ _)) (λb a _=>a))).mono ?_;rintro e aP ⟨rfl,I⟩;have ax:=O ((aK.out.alloc' _).trans I);have bg:=O ((R.out.alloc' _).trans I);clear I);go_roundw
      case rel=>exact⟨i+1,by go_num,by omega,by rw[aA.out];congr 1;omega,ax,bg⟩
      case measure=>simp[intOf];omega
     ·have aW: ¬(i:Int)<N:=Qa
      have aZ:i=N:=Qa
      subst aZ;have bo:=O (show ie ((G++A).take i)=max (ie G) (ie A) by rw[<-au,bU,l_]);rw[bo.out]at a3⊢;obtain⟨ah,a4⟩: ∃ah,max (gR xs) (max (ie G) (ie A))=ah:=⟨_,rfl⟩
      rw[a4]at aN⊢;have bG:IntKind.i64.wrap ((ah:Int)+1)=ah+1:=Qf
      clear au;go_wp2_with fail;go_ret;exact⟨by rw[aN.out];rfl,aK.out⟩
end
end Go.Proofs.YtddomeddabfinaaGreatDoor
