/- Parts of the proof. -/
import Derived.Test.YtoedmpgicdekmaaGreatDoorCo16
set_option maxRecDepth 100000
set_option maxHeartbeats 8000000
set_option linter.all false
namespace Go.Proofs.YtoedmpgicdekmaaGreatDoor
open IntKind(i64)
open Go.Proofs.Tryz
section
open Go.RowKit
theorem mt (a:List UInt8) (i:Nat) (u:i<a.length) (d:World):(Instr.index 9 (.string (Z a)) (.int i64 (i:Int))).run prog d=.ok (.int .u8 (a[i].toNat:Int)) d:=by
 have h:(Z a)[i]? =some a[i]:=by
  have o:i<(Z a).size:=by rw[aZ];exact u
  rw[getElem?_pos (Z a) i o];rfl
 simp[Instr.index,run_underlying underlying9,asIntOf,h]
def Fm (b:Bi):List UInt8:=match b with
 |none=>[]
 |some (_,a)=>a
theorem l9 (b:Bi) (i:Nat) (hi:i<=1073741824) (R:(Fm b).length<=1073741824) (o:World):Calls prog 177 #[.string (Z (Fm b)),.bool b.isSome,.int i64 (i:Int)] o λe w'=>e=.returned (.bool (nB b i))/\au o w':=by
 cases b with
 |none=>
  have d:=G (show nB none i=true from rfl);simp only[dY];go_enter func177,ntmps177;go_wp2_with fail;go_ret;exact⟨by rw[d.out];rfl,aI _⟩
 |some x=>
  obtain⟨c,a⟩:=x;have d:=G (show nB (some (c,a)) i=(decide (a.length<=i)||a.getD i 0==105)from rfl);simp only[Fm,dK]at*;have F:=aZ a;by_cases u:a.length<=i
  ·have z:(a.length:Int)<=i:=J
   go_enter func177,ntmps177;go_wp2_with fail;go_ret;exact⟨by rw[d.out,decide_eq_true u];rfl,aI _⟩
  ·have z: ¬(a.length:Int)<=i:=J
   have y:=λo=>mt a i J o;have w:a.getD i 0=a[i]' J:=by rw[bN,aH J];rfl
   have d:=G (show nB (some (c,a)) i=(a.getD i 0==105) by rw[d.out,decide_eq_false u];rfl);rw[<-w]at y;generalize a.getD i 0=q at*
   have A:=G (show((q.toNat:Int)==105)=(q==105) by
    by_cases e:q=105
    ·subst e;rfl
    ·have: ¬(q.toNat:Int)=105:=λu=>e (UInt8.toNat_inj.1 (by have:(105:UInt8).toNat=105:=rfl;omega))
     rw[Qn.2 this,Qn.2 e])
   clear w;go_enter func177,ntmps177;go_wp2_with fail;go_ret;exact⟨by rw[d.out,<-A.out];rfl,aI _⟩
theorem uV: ∀(l:List Ex) (m:Nat),m<=jc m l
 | [],m=>by rw[jc];exact ah _
 |y::r,m=>by rw[jc];have:=uV r (max m (ek y));omega
theorem uX (lg:Bool): ∀(l:List Ex) (i m:Nat),m<=gy lg i m l
 | [],i,m=>by rw[gy];exact ah _
 |y::r,i,m=>by rw[gy];have:=uX lg r (i+1) (max m (if 0<i/\lg=false then ek y+1 else ek y));omega
theorem qM (b:Bi): ∀(l:List Ex) (i fr m:Nat),m<=gx b i fr m l
 | [],i,fr,m=>by rw[gx];exact ah _
 |y::r,i,fr,m=>by
  rw[gx];split
  ·have:=qM b r (i+1) (fr+1) (max m (fr+ek y));omega
  ·exact qM b r (i+1) fr m
mutual
theorem jz: ∀x:Ex,ek x<=x.wt
 | .mk k op nm tx v a=>by
  have o:=uU a 1;have h:=uW (xr op) a 0 1;have d:=qL (fX nm) a 0 0 1;rw[ek,Ex.wt];repeat' split
  all_goals omega
theorem uU: ∀(l:List Ex) (m:Nat),jc m l<=max m (dU l)
 | [],m=>by rw[jc];omega
 |y::r,m=>by
  rw[jc,dU];have:=uU r (max m (ek y));have:=jz y;omega
theorem uW (lg:Bool): ∀(l:List Ex) (i m:Nat),gy lg i m l<=max m (dU l+1)
 | [],i,m=>by rw[gy];omega
 |y::r,i,m=>by
  rw[gy,dU];have o:=uW lg r (i+1) (max m (if 0<i/\lg=false then ek y+1 else ek y));have h:=jz y;have d:(if 0<i/\lg=false then ek y+1 else ek y)<=ek y+1:=by split<;>omega
  have a:y.wt=1+y.op.length+y.nm.length+y.tx.length+dU y.args:=y.wt_eq;omega
theorem qL (b:Bi): ∀(l:List Ex) (i fr m:Nat),gx b i fr m l<=max m (fr+dU l)
 | [],i,fr,m=>by rw[gx];omega
 |y::r,i,fr,m=>by
  rw[gx,dU];have d:=jz y;have a:y.wt=1+y.op.length+y.nm.length+y.tx.length+dU y.args:=y.wt_eq;split
  ·have:=qL b r (i+1) (fr+1) (max m (fr+ek y));omega
  ·have:=qL b r (i+1) fr m;omega
end
def Fu (x:Ex):Prop:= ∀(P:Nat->Prop) (w:World) (A:Option Addr) (n c:Nat),dS w P (.slice A n c) x.args->BT w->
 Calls prog 127 #[.agg #[.int i64 x.k,.string (Z x.op),.string (Z x.nm),.string (Z x.tx),.int i64 x.v,.slice A n c]] w λe w'=>e=.returned (.int i64 (ek x:Int))/\au w w'
theorem xi {l:List Ex} {j m:Nat} (a:j<l.length):jc m (l.drop j)=jc (max m (ek l[j])) (l.drop (j+1)):=by
 rw[ap a,jc]
theorem xk {lg:Bool} {l:List Ex} {i j m:Nat} (a:j<l.length):gy lg i m (l.drop j)=gy lg (i+1) (max m (if 0<i/\lg=false then ek l[j]+1 else ek l[j])) (l.drop (j+1)):=by
 rw[ap a,gy]
theorem xj {b:Bi} {l:List Ex} {i j fr m:Nat} (a:j<l.length):gx b i fr m (l.drop j)=if nB b i=true then gx b (i+1) (fr+1) (max m (fr+ek l[j])) (l.drop (j+1))else gx b (i+1) fr m (l.drop (j+1)):=by
 rw[ap a,gx]
theorem GI (k:Int) (ad:k=4\/k=6) (op nm tx:List UInt8) (v:Int) (xs:List Ex) (H:(Ex.mk k op nm tx v xs).wt<=1073741824) (ag: ∀u∈xs,Fu u):Fu (.mk k op nm tx v xs):=by
 intro P I aQ n c F ae;have V:=G (show ek (.mk k op nm tx v xs)=jc 1 xs by rw[ek,if_pos ad]);have a:jc 1 xs<=1073741824:=by have:=jz (.mk k op nm tx v xs);rw[V.out]at this;omega
 have aA:=d7 xs;rw[Ex.wt]at H;simp only[Ex.k,Ex.op,Ex.nm,Ex.tx,Ex.v,Ex.args]at*;obtain⟨a4,c',az,aC⟩:=F.form;injection az with ay aw av;subst ay aw av;have ap:=G F;have aO:=G ag;have aH:=G ae;obtain⟨N,o⟩: ∃N,xs.length=N:=⟨_,rfl⟩
 have aW:N<=1073741824:=J
 have aq:=G o;rw[o]at ap;have aP:=G (aa I (.cells #[.int i64 k,.string (Z op),.string (Z nm),.string (Z tx),.int i64 v,.slice aQ N c] 206));obtain⟨R,z⟩: ∃aF,jc 1 xs=aF:=⟨_,rfl⟩
 rw[z]at a V;have aL:=G (show jc 1 (xs.drop 0)=R from z);clear F aC ag ae H z aA;rw[o];clear o;rcases ad with rfl|rfl;all_goals
  go_enter func127,ntmps127;go_wp2_with fail
  go_loopw [3,23] (λar w wr=> ∃(j m:Nat),w=.int i64 (j:Int)/\ar=.int i64 (m:Int)/\j<=N/\Hid (jc m (xs.drop j)=R)/\Hid (au I wr)) (λ_ w _=>N-(intOf w).toNat)
  case atStart=>exact⟨0,1,rfl,rfl,aD _,aL,aP⟩
  case round=>
   obtain⟨j,m,rfl,rfl,aU,X,d⟩:=hrel;have aT:m<=1073741824:=by have:=uV (xs.drop j) m;rw[X.out]at this;omega
   by_cases hlt:j<N
   ·have aB:(j:Int)<N:=J
    have y:j<xs.length:=by have:=aq.out;omega
    obtain⟨b,aS,a3,rfl,a,aV,ao,an,am,al,aj,ai,A⟩:=ap.out.at_ j y;have aI:=G (xi (m:=m) y);have af:=aO.out _ (ax y);generalize xs[j]=u at*;have e0:=(d.out.cell b _ a).trans ao;have a2:=(d.out.cell b _ a).trans an;have a1:=(d.out.cell b _ a).trans am;have aZ:=(d.out.cell b _ a).trans al;have aY:=(d.out.cell b _ a).trans aj;have aX:=(d.out.cell b _ a).trans ai;obtain⟨B,aE,rfl,_⟩:=A.form;have aJ:=G (A.keep (.of_ext d.out) (Q:=P) (λb a _=>a));have aN:=G af;clear ao an am al aj ai A af;go_wp2_with (go_at_call 127;refine(aN.out P _ B _ aE (aJ.out.keep (.of_ext (aa _ _)) (λb a _=>a)) ((aH.out.ext d.out).ext (aa _ _))).mono ?_;rintro e aR ⟨rfl,ah⟩;have aG:=G ((d.out.alloc' _).trans ah);clear ah);go_roundw
    case rel=>exact⟨j+1,max m (ek u),by go_num,by congr 1;omega,by omega,G (aI.out.symm.trans X.out),aG⟩
    case measure=>simp[intOf];omega
   ·have aB: ¬(j:Int)<N:=J
    have aM:=G (show m=R by
     have:=X.out;rw[aK (by have:=aq.out;omega),jc]at this
     exact this)
    go_wp2_with fail;go_ret;exact⟨by rw[V.out,<-aM.out];rfl,d.out⟩
theorem GH (op nm tx:List UInt8) (v:Int) (xs:List Ex) (ap:(Ex.mk 7 op nm tx v xs).wt<=1073741824) (aw: ∀o∈xs,Fu o):Fu (.mk 7 op nm tx v xs):=by
 intro P F am n c af ar;have ai:=G (show ek (.mk 7 op nm tx v xs)=gy (xr op) 0 1 xs by rw[ek,if_neg Qd,if_pos rfl]);have a:gy (xr op) 0 1 xs<=1073741824:=by have:=jz (.mk 7 op nm tx v xs);rw[ai.out]at this;omega
 have aT:=d7 xs;rw[Ex.wt]at ap;have bc:dU xs<=1073741823:=J
 simp only[Ex.k,Ex.op,Ex.nm,Ex.tx,Ex.v,Ex.args]at*;obtain⟨bk,c',aS,aV⟩:=af.form;injection aS with aR aQ aP;subst aR aQ aP;have aG:=G af;have a6:=G aw;have aE:=G ar;obtain⟨N,V⟩: ∃N,xs.length=N:=⟨_,rfl⟩
 have bi:N<=1073741824:=J
 have aI:=G V;rw[V]at aG;have a7:=G (aa F (.cells #[.int i64 7,.string (Z op),.string (Z nm),.string (Z tx),.int i64 v,.slice am N c] 206));have a8:=G (aq F 206 #[.int i64 7,.string (Z op),.string (Z nm),.string (Z tx),.int i64 v,.slice am N c]);obtain⟨ag,ad⟩: ∃a4,gy (xr op) 0 1 xs=a4:=⟨_,rfl⟩
 rw[ad]at a ai;have aH:=G (show gy (xr op) 0 1 (xs.drop 0)=ag from ad);clear af aV aw ar ap ad aT;rw[V];clear V;obtain⟨lg,H⟩: ∃b,xr op=b:=⟨_,rfl⟩
 rw[H]at aH;have al:=G (show(op==[38,38]||op==[124,124])=lg from H);clear H
 cases z:(op==[38,38])<;>cases y:(op==[124,124]);all_goals
  rw[z,y]at al;have aj:=G al.out.symm;simp only[Bool.or_true,mU,Bool.true_or,Bool.false_or]at aj;have ao:=congrArg (!·) z;have an:=congrArg (!·) y;change(op !=[38,38])=_ at ao;change(op !=[124,124])=_ at an;simp only[Bool.not_true,Bool.not_false]at ao an;clear al;go_enter func127,ntmps127;go_wp2_with fail
  go_loopw [3,37] (λaN I wr=> ∃(j m:Nat),I=.int i64 (j:Int)/\aN=.int i64 (m:Int)/\j<=N/\Hid (gy lg j m (xs.drop j)=ag)/\Hid (au F wr)/\Hid (aO wr F.heap.size 206 #[.int i64 7,.string (Z op),.string (Z nm),.string (Z tx),.int i64 v,.slice am N c])) (λ_ I _=>N-(intOf I).toNat)
  case atStart=>exact⟨0,1,rfl,rfl,aD _,aH,a7,a8⟩
  case round=>
   obtain⟨j,m,rfl,rfl,bg,A,d,aL⟩:=hrel;have be:m<=1073741824:=by have:=uX lg (xs.drop j) j m;rw[A.out]at this;omega
   by_cases hlt:j<N
   ·have aU:(j:Int)<N:=J
    have R:j<xs.length:=by have:=aI.out;omega
    obtain⟨b,a9,bj,rfl,a,bh,aB,z,y,aA,az,ay,ae⟩:=aG.out.at_ j R;have ah:=G (xk (lg:=lg) (i:=j) (m:=m) R);have bb:=jz xs[j];have ba:=eE (ax R);have av:=a6.out _ (ax R);generalize xs[j]=o at*;have e0:=(d.out.cell b _ a).trans aB;have a3:=(d.out.cell b _ a).trans z;have a2:=(d.out.cell b _ a).trans y;have a1:=(d.out.cell b _ a).trans aA;have aZ:=(d.out.cell b _ a).trans az;have aX:=(d.out.cell b _ a).trans ay;obtain⟨B,aC,rfl,_⟩:=ae.form;have aF:=G (ae.keep (.of_ext d.out) (Q:=P) (λb a _=>a));have aJ:=G av;clear aB z y aA az ay ae av;have bd:ek o<=1073741823:=J
    by_cases hj0:j=0
    ·subst hj0;simp only[aY,bx]at e0 a3 a2 a1 aZ aX;go_wp2_with (go_at_call 127;refine(aJ.out P _ B _ aC (aF.out.keep (.of_ext (aa _ _)) (λb a _=>a)) ((aE.out.ext d.out).ext (aa _ _))).mono ?_;rintro e aM ⟨rfl,u⟩;have X:=G ((d.out.alloc' _).trans u);have w:=G ((aL.out.ext (aa _ _)).ext u);have aW:=w.out.cell;clear u);go_roundw
     case rel=>exact⟨1,max m (ek o),by go_num,by congr 1;omega,by omega,G ((by rw[ah.out,if_neg Qe]:gy lg 0 m (xs.drop 0)=gy lg 1 (max m (ek o)) (xs.drop 1)).symm.trans A.out),X,w⟩
     case measure=>simp[intOf];omega
    ·have bf:(0:Int)<j:=J
     go_wp2_with (go_at_call 127;refine(aJ.out P _ B _ aC (aF.out.keep (.of_ext (aa _ _)) (λb a _=>a)) ((aE.out.ext d.out).ext (aa _ _))).mono ?_;rintro e aM ⟨rfl,u⟩;have X:=G ((d.out.alloc' _).trans u);have w:=G ((aL.out.ext (aa _ _)).ext u);have aW:=w.out.cell;clear u);go_roundw
     case rel=>first|exact⟨j+1,max m (ek o+1),by go_num,by congr 1;omega,by omega,G ((by rw[ah.out,if_pos ⟨by omega,aj.out⟩]:gy lg j m (xs.drop j)=gy lg (j+1) (max m (ek o+1)) (xs.drop (j+1))).symm.trans A.out),X,w⟩|exact⟨j+1,max m (ek o),by go_num,by congr 1;omega,by omega,G ((by rw[ah.out,if_neg (by rw[aj.out];simp)]:gy lg j m (xs.drop j)=gy lg (j+1) (max m (ek o)) (xs.drop (j+1))).symm.trans A.out),X,w⟩
     case measure=>simp[intOf];omega
   ·have aU: ¬(j:Int)<N:=J
    have a5:=G (show m=ag by
     have:=A.out;rw[aK (by have:=aI.out;omega),gy]at this
     exact this)
    go_wp2_with fail;go_ret;exact⟨by rw[ai.out,<-a5.out];rfl,d.out⟩
end
section
open Go.RowKit
def Kb (b:Bi):Int:=match b with
 |none=>0
 |some (c,_)=>c
theorem Do (s:List UInt8) (a:World) (o:BT a):Calls prog 175 #[.string (Z s)] a λe w'=>e=.returned (.tuple #[.int i64 (Kb (fX s)),.string (Z (Fm (fX s))),.bool (fX s).isSome])/\au a w':=by
 refine(mL s a o).mono λe w' ⟨d,h⟩=>⟨?_,h⟩
 rw[d]
 cases fX s<;>rfl
theorem G_: ∀x∈sD,x.2.2.length<=3:=Qd
theorem yB (s:List UInt8):(Fm (fX s)).length<=3:=by
 cases h:fX s with
 |none=>simp[Fm]
 |some x=>
  unfold fX at h;rw[fP]at h;obtain⟨a,d,rfl⟩:=h;exact G_ a (dA d)
theorem GF (op nm tx:List UInt8) (v:Int) (xs:List Ex) (al:(Ex.mk 5 op nm tx v xs).wt<=1073741824) (an: ∀a∈xs,Fu a):Fu (.mk 5 op nm tx v xs):=by
 intro P X aE n c af H;have aj:=G (show ek (.mk 5 op nm tx v xs)=gx (fX nm) 0 0 1 xs by rw[ek,if_neg Qd,if_neg Qd,if_pos rfl]);have d:gx (fX nm) 0 0 1 xs<=1073741824:=by have:=jz (.mk 5 op nm tx v xs);rw[aj.out]at this;omega
 have aP:=d7 xs;rw[Ex.wt]at al;have bc:dU xs<=1073741823:=J
 have aS:=yB nm;simp only[Ex.k,Ex.op,Ex.nm,Ex.tx,Ex.v,Ex.args]at*;obtain⟨br,c',aO,aR⟩:=af.form;injection aO with aN aM aL;subst aN aM aL;have aA:=G af;have a4:=G an;have aX:=G H;obtain⟨N,A⟩: ∃N,xs.length=N:=⟨_,rfl⟩
 have bi:N<=1073741823:=J
 have aB:=G A;rw[A]at aA;have ag:=aa X (.cells #[.int i64 5,.string (Z op),.string (Z nm),.string (Z tx),.int i64 v,.slice aE N c] 206);have a6:=G ag;have a8:=G (aq X 206 #[.int i64 5,.string (Z op),.string (Z nm),.string (Z tx),.int i64 v,.slice aE N c]);have aC:=G (Do nm _ (H.ext ag));have a3:=G (fun(i:Nat) (hi:i<=1073741824) (W:World)=>l9 (fX nm) i hi J W);generalize fX nm=u at*;generalize Fm u=ls at*;generalize Kb u=bp at*;generalize u.isSome=bs at*;obtain⟨ai,ad⟩: ∃aU,gx u 0 0 1 xs=aU:=⟨_,rfl⟩
 rw[ad]at d aj;have aZ:=G (show gx u 0 0 1 (xs.drop 0)=ai from ad);clear af aR an H al ad aP ag aS;rw[A];clear A;go_enter func127,ntmps127;go_wp2_with (go_at_call 175;refine aC.out.mono ?_;rintro e ba ⟨rfl,o⟩;have aW:=G (a6.out.trans o);have bj:=(a8.out.ext o).cell;clear o aC)
 go_loopw [3,12,74] (λaG aH I wr=> ∃(j m fr:Nat),I=.int i64 (j:Int)/\aG=.int i64 (m:Int)/\aH=.int i64 (fr:Int)/\j<=N/\fr<=j/\Hid (gx u j fr m (xs.drop j)=ai)/\Hid (au X wr)) (λ_ _ I _=>N-(intOf I).toNat)
 case atStart=>exact⟨0,1,0,rfl,rfl,rfl,aD _,aD _,aZ,aW⟩
 case round=>
  obtain⟨j,m,fr,rfl,rfl,rfl,bf,bg,V,w⟩:=hrel;have be:m<=1073741824:=by have:=qM u (xs.drop j) j fr m;rw[V.out]at this;omega
  by_cases hlt:j<N
  ·have aQ:(j:Int)<N:=J
   have z:j<xs.length:=by have:=aB.out;omega
   obtain⟨b,bb,bq,rfl,d,bh,ay,aw,av,ar,ap,ao,ae⟩:=aA.out.at_ j z;have R:=G (xj (b:=u) (i:=j) (fr:=fr) (m:=m) z);have aJ:=jz xs[j];have aI:=eE (ax z);have am:=a4.out _ (ax z);generalize xs[j]=a at*;have y:=G (a3.out j J);have e0:=(w.out.cell b _ d).trans ay;have bo:=(w.out.cell b _ d).trans aw;have bn:=(w.out.cell b _ d).trans av;have bm:=(w.out.cell b _ d).trans ar;have bl:=(w.out.cell b _ d).trans ap;have bk:=(w.out.cell b _ d).trans ao;obtain⟨B,ah,rfl,_⟩:=ae.form;have aY:=G (ae.keep (.of_ext w.out) (Q:=P) (λb d _=>d));have a2:=G am;have bd:ek a<=1073741823:=J
   have a7:=G (aq wr 206 #[.int i64 a.k,.string (Z a.op),.string (Z a.nm),.string (Z a.tx),.int i64 a.v,.slice B a.args.length ah]);have az:=G (w.out.alloc' (.cells #[.int i64 a.k,.string (Z a.op),.string (Z a.nm),.string (Z a.tx),.int i64 a.v,.slice B a.args.length ah] 206));clear ay aw av ar ap ao ae am aJ aI
   cases hia:nB u j with
   |true=>
    rw[hia]at R y;go_wp2_with (first|(go_at_call 177;refine(y.out _).mono ?_;rintro e aF ⟨rfl,o⟩;have F:=G (az.out.trans o);have a5:=G o;have aT:=(a7.out.ext o).cell;clear o y)|(go_at_call 127;refine(a2.out P _ B _ ah ((aY.out.keep (.of_ext (aa _ _)) (λb d _=>d)).keep (.of_ext a5.out) (λb d _=>d)) (aX.out.ext F.out)).mono ?_;rintro e a9 ⟨rfl,o⟩;have aV:=G (F.out.trans o);clear o aT));go_roundw
    case rel=>exact⟨j+1,max m (fr+ek a),fr+1,by go_num,by congr 1;omega,by go_num,by omega,by omega,G ((by rw[R.out,if_pos trivial]:gx u j fr m (xs.drop j)=gx u (j+1) (fr+1) (max m (fr+ek a)) (xs.drop (j+1))).symm.trans V.out),aV⟩
    case measure=>simp[intOf];omega
   |false=>
    rw[hia]at R y;go_wp2_with (go_at_call 177;refine(y.out _).mono ?_;rintro e aF ⟨rfl,o⟩;have F:=G (az.out.trans o);clear o y);go_roundw
    case rel=>exact⟨j+1,m,fr,by go_num,rfl,rfl,by omega,by omega,G ((by rw[R.out,if_neg Qe]:gx u j fr m (xs.drop j)=gx u (j+1) fr m (xs.drop (j+1))).symm.trans V.out),F⟩
    case measure=>simp[intOf];omega
  ·have aQ: ¬(j:Int)<N:=J
   have a1:=G (show m=ai by
    have:=V.out;rw[aK (by have:=aB.out;omega),gx]at this
    exact this)
   go_wp2_with fail;go_ret;exact⟨by rw[aj.out,<-a1.out];rfl,w.out⟩
theorem GE (k:Int) (z:(k==4)=false) (w:(k==6)=false) (u:(k==7)=false) (y:(k==5)=false) (op nm tx:List UInt8) (v:Int) (xs:List Ex):Fu (.mk k op nm tx v xs):=by
 intro P a R n c o d
 have A:=G (show ek (.mk k op nm tx v xs)=1 by
  rw[ek,if_neg (by simp only[Qn]at z w;omega),if_neg (by simpa using u),if_neg (by simpa using y)])
 have F:=G (aa a (.cells #[.int i64 k,.string (Z op),.string (Z nm),.string (Z tx),.int i64 v,.slice R n c] 206));simp only[Ex.k,Ex.op,Ex.nm,Ex.tx,Ex.v,Ex.args]at*;clear o d;go_enter func127,ntmps127;go_wp2_with fail;go_ret;exact⟨by rw[A.out];rfl,F.out⟩
theorem rS: ∀(m:Nat) (x:Ex),x.wt<=m->x.wt<=1073741824->Fu x
 |0,x,h,_=>absurd h (by have:=x.wt_eq;omega)
 |m+1,.mk k op nm tx v xs,h,hw=>by
  have d: ∀a∈xs,Fu a:=λa o=>rS m a (by have:=eE o;rw[Ex.wt]at h;omega) (by have:=eE o;rw[Ex.wt]at hw;omega);by_cases h46:k=4\/k=6
  ·exact GI k h46 op nm tx v xs hw d
  by_cases h7:k=7
  ·subst h7;exact GH op nm tx v xs hw d
  by_cases h5:k=5
  ·subst h5;exact GF op nm tx v xs hw d
  exact GE k (Qn.2 J) (Qn.2 J) (Qn.2 h7) (Qn.2 h5) op nm tx v xs
def Ho (x:Ex):Prop:= ∀(X:CB) (gl:Gl) (lv:Value) (lo:Ls) (P:Nat->Prop) (w:World) (A:Option Addr) (n c:Nat),CK X gl lv lo w->dS w P (.slice A n c) x.args->
 Calls prog 176 #[X.p,.agg #[.int i64 x.k,.string (Z x.op),.string (Z x.nm),.string (Z x.tx),.int i64 x.v,.slice A n c]] w λe w'=>e=cL (qj gl lo x)/\au w w'
def Fw (xs:List Ex):Prop:= ∀(X:CB) (gl:Gl) (lv:Value) (lo:Ls) (P:Nat->Prop) (w:World) (A:Option Addr) (n c:Nat),CK X gl lv lo w->dS w P (.slice A n c) xs->
 Calls prog 126 #[X.p,.slice A n c] w λe w'=>e=cL (p8 gl lo xs)/\au w w'
theorem Df {gl:Gl} {lo:Ls} {l:List Ex} {j:Nat} (a:j<l.length):p8 gl lo (l.drop j)=CR.then (qj gl lo l[j]) λ_=>p8 gl lo (l.drop (j+1)):=by
 rw[ap a,p8]
theorem si (xs:List Ex) (aL:xs.length<=1073741824) (am: ∀a∈xs,Ho a):Fw xs:=by
 intro ad gl aC lo P ah a6 n c aj I;obtain⟨a5,c',aH,aM⟩:=I.form;injection aH with aG aF aE;subst aG aF aE;have az:=G I;have aS:=G am;have aR:=G aj;obtain⟨N,A⟩: ∃N,xs.length=N:=⟨_,rfl⟩
 have aA:=G A;rw[A]at az aL;obtain⟨F,z⟩: ∃aP,p8 gl lo xs=aP:=⟨_,rfl⟩
 have a4:=G z;have aQ:=G (show p8 gl lo (xs.drop 0)=F from z);have aT:=G (aI ah);obtain⟨aO,ai⟩: ∃p,ad.p=p:=⟨_,rfl⟩
 have aN:aO=.pointer (some ⟨ad.g,0,none⟩):=ai.symm;clear I aM am aj;rw[A,z];clear A z;subst aN;simp only[CB.p]at*;clear ai;go_enter func126,ntmps126;go_wp2_with fail
 go_loopw [8] (λR wr=> ∃(j:Nat),R=.int i64 (j:Int)/\j<=N/\Hid (p8 gl lo (xs.drop j)=F)/\Hid (au ah wr)) (λR _=>N-(intOf R).toNat)
 case atStart=>exact⟨0,rfl,aD _,aQ,aT⟩
 case round=>
  obtain⟨j,rfl,aV,af,o⟩:=hrel;by_cases hlt:j<N
  ·have aJ:(j:Int)<N:=J
   have V:j<xs.length:=by have:=aA.out;omega
   obtain⟨b,aU,a3,rfl,d,aW,av,ar,aq,ap,ao,an,X⟩:=az.out.at_ j V;have ay:=G (Df (gl:=gl) (lo:=lo) V);have al:=aS.out _ (ax V);generalize xs[j]=a at*;have e0:=(o.out.cell b _ d).trans av;have a2:=(o.out.cell b _ d).trans ar;have a1:=(o.out.cell b _ d).trans aq;have aZ:=(o.out.cell b _ d).trans ap;have aY:=(o.out.cell b _ d).trans ao;have aX:=(o.out.cell b _ d).trans an;obtain⟨B,H,rfl,_⟩:=X.form;have y:=G (al ad gl aC lo P _ B _ H ((aR.out.ext o.out).ext (aa _ (.cells #[.int i64 a.k,.string (Z a.op),.string (Z a.nm),.string (Z a.tx),.int i64 a.v,.slice B a.args.length H] 206))) ((X.keep (.of_ext o.out) (Q:=P) (λb d _=>d)).keep (.of_ext (aa _ _)) (λb d _=>d)));have aw:=G (o.out.alloc' (.cells #[.int i64 a.k,.string (Z a.op),.string (Z a.nm),.string (Z a.tx),.int i64 a.v,.slice B a.args.length H] 206));clear av ar aq ap ao an X al;generalize qj gl lo a=r at*;simp only[CB.p]at y
   cases r with
   |ok u=>
    go_wp2_with (go_at_call 176;refine y.out.mono ?_;unfold cL;rintro e aB ⟨rfl,w⟩;have ae:=G (aw.out.trans w);clear w y);go_roundw
    case rel=>exact⟨j+1,by go_num,by omega,G (ay.out.symm.trans af.out),ae⟩
    case measure=>simp[intOf];omega
   |error q=>
    obtain⟨nm,n⟩:=q;have ag:=G (show F=.error (nm,n)from af.out.symm.trans ay.out);go_wp2_with (go_at_call 176;refine y.out.mono ?_;unfold cL bw;rintro e aB ⟨rfl,w⟩;have ae:=G (aw.out.trans w);clear w y);exact⟨rfl,by rw[ag.out];rfl,ae.out⟩
  ·have aJ: ¬(j:Int)<N:=J
   have ag:=G (show F=.ok () by
    have:=af.out;rw[aK (by have:=aA.out;omega),p8]at this
    exact this.symm)
   go_wp2_with fail;exact bodyPost_end (results_none rfl _ _ _) rfl ⟨by rw[ag.out];rfl,o.out⟩
end
section
def FA (vs:List Vr) (s:List UInt8):Option Vr:=vs.find? (λv=>decide (s=v.nm))
def JG (fs:List Fc) (s:List UInt8):Option Fc:=fs.find? (λf=>decide (s=f.nm))
structure GL (p:Pg) (g:Gl):Prop where
 arr: ∀s,g.arr s=(FA p.vs s).bind λv=>if 0<v.sz then some v.sz else none
 int: ∀s,g.int s=(FA p.vs s).any λv=> !decide (0<v.sz)
 fn: ∀s,g.fn s=(JG p.fs s).map (·.ps.length)
 nb: ∀n∈p.vs.map (·.nm)++p.fs.map (·.nm),Ip n=false
 nd:(p.vs.map (·.nm)++p.fs.map (·.nm)).Pairwise (· ≠ ·)
theorem G9: ∀x∈sD,∀c∈x.2.2,c=105\/c=115\/c=97\/c=98:=Qd
theorem Dn {s:List UInt8} {c:Int} {ls:List UInt8} (a:fX s=some (c,ls)): ∀x∈ls,x=105\/x=115\/x=97\/x=98:=by
 unfold fX at a;rw[fP]at a;obtain⟨x,d,a⟩:=a;have:=G9 x (dA d);rw[a]at this;exact this
end
section
open Go.RowKit
theorem vP {gl:Gl} {lo:Ls} {nm:List UInt8} {b:Bi} {l:List Ex} {j:Nat} (a:j<l.length):rK gl lo nm b j (l.drop j)=CR.then (if nB b j=true then qj gl lo l[j]else if uc (Ez b j) l[j].k=true then .error (nm,16)else if l[j].k=3 then mg gl lo l[j].nm else .ok ()) λ_=>rK gl lo nm b (j+1) (l.drop (j+1)):=by
 rw[ap a,rK]
def J7 (op nm tx:List UInt8) (v:Int) (xs:List Ex):Prop:= ∀(X:CB) (gl:Gl) (lv:Value) (lo:Ls) (P:Nat->Prop) (w:World) (A:Option Addr) (n c:Nat),CK X gl lv lo w->dS w P (.slice A n c) xs->
 Calls prog 218 #[X.p,.agg #[.int i64 5,.string (Z op),.string (Z nm),.string (Z tx),.int i64 v,.slice A n c]] w λe w'=>e=cL (qj gl lo (.mk 5 op nm tx v xs))/\au w w'
theorem wD (op nm tx:List UInt8) (v:Int) (xs:List Ex) (bl:xs.length<=1073741824) (aF:nm.length<=1073741824) (o:fX nm=none) (aZ: ∀d∈xs,Ho d):J7 op nm tx v xs:=by
 intro bo gl aW lo P am aA n c aX aJ;obtain⟨bN,c',bj,bm⟩:=aJ.form;injection bj with bi bh bg;subst bi bh bg;have bc:=G aJ;have aP:=G aZ;obtain⟨N,an⟩: ∃N,xs.length=N:=⟨_,rfl⟩
 have bd:=G an;rw[an]at bc bl;obtain⟨I,aH⟩: ∃bp,qj gl lo (.mk 5 op nm tx v xs)=bp:=⟨_,rfl⟩
 have ag:=G (show I=match gl.fn nm with|none=> .error (nm,15)|some n=>if n=N then rK gl lo nm none 0 xs else .error (nm,16) by
  rw[<-aH,qj,if_neg Qd,if_neg Qd,if_neg Qd,if_pos rfl];unfold yD;rw[o,<-an]
  cases gl.fn nm<;>rfl)
 have aL:=aa am (.cells #[.int i64 5,.string (Z op),.string (Z nm),.string (Z tx),.int i64 v,.slice aA N c] 206);have ah:=G aL;have aj:=G (aq am 206 #[.int i64 5,.string (Z op),.string (Z nm),.string (Z tx),.int i64 v,.slice aA N c]);have ad:=G (aX.ext aL)
 have ai:=G (show Calls prog 175 #[.string (Z nm)] (am.alloc (.cells #[.int i64 5,.string (Z op),.string (Z nm),.string (Z tx),.int i64 v,.slice aA N c] 206)) λe w'=>e=.returned (.tuple #[.int i64 0,.string ⟨#[]⟩,.bool false])/\au (am.alloc (.cells #[.int i64 5,.string (Z op),.string (Z nm),.string (Z tx),.int i64 v,.slice aA N c] 206)) w' from by
  have:=mL nm _ ad.out.t;rw[o]at this
  exact this)
 have aO:=G (fun(i:Nat) (hi:i<=1073741824) (W:World)=>show Calls prog 177 #[.string ⟨#[]⟩,.bool false,.int i64 (i:Int)] W λe w'=>e=.returned (.bool true)/\au W w' from l9 none i hi (by simp[Fm]) W);have az:=G (λn W=>eJ nm n W);clear aJ bm aZ o aL aX;rw[an,aH];clear an aH;obtain⟨g,a8,ba,a9,aT,aU⟩:=bo;simp only[CB.p]at*
 cases hfn:gl.fn nm with
 |none=>
  have ar:=G (show I=.error (nm,15) by rw[ag.out,hfn]);clear aP aO ag;go_enter func218,ntmps218;go_wp2_with (go_at_call 175;refine ai.out.mono ?_;rintro e al ⟨rfl,a⟩;have R:=G (ah.out.trans a);have w:=G (aj.out.ext a);have F:=w.out.cell;have z:=G (ad.out.ext a);clear a ai aj ad ah);refine aB 12 1 [] mixed Qb trivial ?_;repeat (refine sx ?_ (λal y=> ?_) ?_;rotate_left;(focus have F:=(w.out.ext y.un).cell;have a7:=(z.out.ext y.un).blk.cell;have X:=(z.out.ext y.un).lookF aF;rw[hfn]at X;simp only[fE,dY]at X;clear y;go_simp<;>with_reducible rfl);simp only[bE,bD,bC,bB,bA])
  intro aS A _;simp only[ae,aV];have ao:=G (R.out.trans A.un);clear F;have F:=(w.out.ext A.un).cell;clear A;go_wp2_with (go_at_call 65;refine(az.out _ _).mono ?_;unfold bw;rintro e aC ⟨rfl,a⟩;have H:=G (ao.out.trans a);clear a az);exact⟨rfl,by rw[ar.out];rfl,H.out⟩
 |some k=>
  by_cases hkN:k=N
  ·subst hkN;have ar:=G (show I=rK gl lo nm none 0 xs by rw[ag.out,hfn];simp);have bq:=G (show rK gl lo nm none 0 (xs.drop 0)=I from ar.out.symm);clear ag;go_enter func218,ntmps218;go_wp2_with (go_at_call 175;refine ai.out.mono ?_;rintro e al ⟨rfl,a⟩;have R:=G (ah.out.trans a);have w:=G (aj.out.ext a);have F:=w.out.cell;have z:=G (ad.out.ext a);clear a ai aj ad ah);refine aB 12 1 [] mixed Qb trivial ?_;repeat (refine sx ?_ (λal y=> ?_) ?_;rotate_left;(focus have F:=(w.out.ext y.un).cell;have a7:=(z.out.ext y.un).blk.cell;have X:=(z.out.ext y.un).lookF aF;rw[hfn]at X;simp only[bZ,dK]at X;clear y;go_simp<;>with_reducible rfl);simp only[bE,bD,bC,bB,bA])
   intro aS A _;simp only[ae,aV];have ao:=G (R.out.trans A.un);have bu:=G (z.out.ext A.un);clear F;have F:=(w.out.ext A.un).cell;clear A R z w;go_wp2_with fail;clear F
   go_loopw [53] (λaE wr=> ∃(j:Nat),aE=.int i64 (j:Int)/\j<=k/\Hid (rK gl lo nm none j (xs.drop j)=I)/\Hid (au am wr)/\Hid (CK ⟨g,a8,ba,a9,aT,aU⟩ gl aW lo wr)) (λaE _=>k-(intOf aE).toNat)
   case atStart=>exact⟨0,rfl,aD _,bq,ao,bu⟩
   case round=>
    obtain⟨j,rfl,bF,aN,V,br⟩:=hrel;by_cases hlt:j<k
    ·have bk:(j:Int)<k:=J
     have aG:j<xs.length:=by have:=bd.out;omega
     obtain⟨b,bv,bM,rfl,o,bG,a6,a5,a4,a3,a2,a1,aI⟩:=bc.out.at_ j aG;have av:=G (vP (gl:=gl) (lo:=lo) (nm:=nm) (b:=none) aG);have aY:=aP.out _ (ax aG);generalize xs[j]=d at*;have e0:=(V.out.cell b _ o).trans a6;have bL:=(V.out.cell b _ o).trans a5;have bK:=(V.out.cell b _ o).trans a4;have bJ:=(V.out.cell b _ o).trans a3;have bI:=(V.out.cell b _ o).trans a2;have bH:=(V.out.cell b _ o).trans a1;obtain⟨B,af,rfl,_⟩:=aI.form;have bb:=G ((aI.keep (.of_ext V.out) (Q:=P) (λb o _=>o)).keep (.of_ext (aa _ (.cells #[.int i64 d.k,.string (Z d.op),.string (Z d.nm),.string (Z d.tx),.int i64 d.v,.slice B d.args.length af] 206))) (Q:=P) (λb o _=>o));have w:=G (aq wr 206 #[.int i64 d.k,.string (Z d.op),.string (Z d.nm),.string (Z d.tx),.int i64 d.v,.slice B d.args.length af]);have R:=G (V.out.alloc' (.cells #[.int i64 d.k,.string (Z d.op),.string (Z d.nm),.string (Z d.tx),.int i64 d.v,.slice B d.args.length af] 206));have z:=G (br.out.ext (aa wr (.cells #[.int i64 d.k,.string (Z d.op),.string (Z d.nm),.string (Z d.tx),.int i64 d.v,.slice B d.args.length af] 206)));have ap:=G (aY ⟨g,a8,ba,a9,aT,aU⟩ gl aW lo P);have ay:=G (aO.out j J);clear a6 a5 a4 a3 a2 a1 aI aY;simp only[CB.p]at ap;generalize qj gl lo d=r at*;rw[show nB none j=true from rfl]at av;simp only[if_true]at av
     cases r with
     |ok u=>
      go_wp2_with (first|(go_at_call 177;refine(ay.out _).mono ?_;rintro e aC ⟨rfl,a⟩;have aM:=G (R.out.trans a);have aR:=G a;have bn:=(w.out.ext a).cell;have aw:=G (z.out.ext a);clear a ay)|(go_at_call 176;refine(ap.out _ B _ af aw.out (bb.out.keep (.of_ext aR.out) (λb o _=>o))).mono ?_;unfold cL;rintro e be ⟨rfl,a⟩;have H:=G (aM.out.trans a);have bt:=G (aw.out.ext a);clear a ap));go_roundw
      case rel=>exact⟨j+1,by go_num,by omega,G (av.out.symm.trans aN.out),H,bt⟩
      case measure=>simp[intOf];omega
     |error q=>
      obtain⟨bf,n⟩:=q;have aQ:=G (show I=.error (bf,n)from aN.out.symm.trans av.out);go_wp2_with (first|(go_at_call 177;refine(ay.out _).mono ?_;rintro e aC ⟨rfl,a⟩;have aM:=G (R.out.trans a);have aR:=G a;have bn:=(w.out.ext a).cell;have aw:=G (z.out.ext a);clear a ay)|(go_at_call 176;refine(ap.out _ B _ af aw.out (bb.out.keep (.of_ext aR.out) (λb o _=>o))).mono ?_;unfold cL bw;rintro e be ⟨rfl,a⟩;have H:=G (aM.out.trans a);clear a ap));exact⟨rfl,by rw[aQ.out];rfl,H.out⟩
    ·have bk: ¬(j:Int)<k:=J
     have aQ:=G (show I=.ok () by
      have:=aN.out;rw[aK (by have:=bd.out;omega),rK]at this
      exact this.symm)
     go_wp2_with fail;exact bodyPost_end (results_none rfl _ _ _) rfl ⟨by rw[aQ.out];rfl,V.out⟩
  ·have ar:=G (show I=.error (nm,16) by rw[ag.out,hfn];simp[hkN]);have bz:((k:Int) !=(N:Int))=true:=Qg
   have bx:((k:Int)==(N:Int))=false:=Qg
   clear aP aO ag;go_enter func218,ntmps218;go_wp2_with (go_at_call 175;refine ai.out.mono ?_;rintro e al ⟨rfl,a⟩;have R:=G (ah.out.trans a);have w:=G (aj.out.ext a);have F:=w.out.cell;have z:=G (ad.out.ext a);clear a ai aj ad ah);refine aB 12 1 [] mixed Qb trivial ?_;repeat (refine sx ?_ (λal y=> ?_) ?_;rotate_left;(focus have F:=(w.out.ext y.un).cell;have a7:=(z.out.ext y.un).blk.cell;have X:=(z.out.ext y.un).lookF aF;rw[hfn]at X;simp only[bZ,dK]at X;clear y;go_simp<;>with_reducible rfl);simp only[bE,bD,bC,bB,bA])
   intro aS A _;simp only[ae,aV];have ao:=G (R.out.trans A.un);clear F;have F:=(w.out.ext A.un).cell;clear A;go_wp2_with (go_at_call 65;refine(az.out _ _).mono ?_;unfold bw;rintro e aC ⟨rfl,a⟩;have H:=G (ao.out.trans a);clear a az);exact⟨rfl,by rw[ar.out];rfl,H.out⟩
theorem wC (op nm tx:List UInt8) (v:Int) (xs:List Ex) (b4:xs.length<=1073741824) (bu:nm.length<=1073741824) (ah:Int) (ls:List UInt8) (F:fX nm=some (ah,ls)) (cf:ls.length<=3) (bG: ∀aw∈xs,Ho aw) (bz: ∀aw∈xs,aw.nm.length<=1073741824):J7 op nm tx v xs:=by
 intro b7 gl aC lo P X a3 n c bF bj;obtain⟨cs,c',bX,b5⟩:=bj.form;injection bX with bW bV bU;subst bW bV bU;have bJ:=G bj;have bO:=G bG;have b9:=G bz;have cb:=G (Dn F);obtain⟨N,aU⟩: ∃N,xs.length=N:=⟨_,rfl⟩
 have bK:=G aU;rw[aU]at bJ b4;obtain⟨ai,bi⟩: ∃b8,qj gl lo (.mk 5 op nm tx v xs)=b8:=⟨_,rfl⟩
 have bb:=G (show ai=if ls.length=N then rK gl lo nm (some (ah,ls)) 0 xs else .error (nm,16) by
  rw[<-bi,qj,if_neg Qd,if_neg Qd,if_neg Qd,if_pos rfl];unfold yD
  rw[F,<-aU])
 have bl:=aa X (.cells #[.int i64 5,.string (Z op),.string (Z nm),.string (Z tx),.int i64 v,.slice a3 N c] 206);have bc:=G bl;have bf:=G (aq X 206 #[.int i64 5,.string (Z op),.string (Z nm),.string (Z tx),.int i64 v,.slice a3 N c]);have a1:=G (bF.ext bl)
 have bd:=G (show Calls prog 175 #[.string (Z nm)] (X.alloc (.cells #[.int i64 5,.string (Z op),.string (Z nm),.string (Z tx),.int i64 v,.slice a3 N c] 206)) λe w'=>e=.returned (.tuple #[.int i64 ah,.string (Z ls),.bool true])/\au (X.alloc (.cells #[.int i64 5,.string (Z op),.string (Z nm),.string (Z tx),.int i64 v,.slice a3 N c] 206)) w' from by
  have:=mL nm _ a1.out.t;rw[F]at this
  exact this)
 have bM:=G (fun(i:Nat) (hi:i<=1073741824) (W:World)=>show Calls prog 177 #[.string (Z ls),.bool true,.int i64 (i:Int)] W λe w'=>e=.returned (.bool (nB (some (ah,ls)) i))/\au W w' from l9 (some (ah,ls)) i hi (by simp only[Fm];omega) W);have av:=G (λn W=>eJ nm n W);have ce:=aZ ls;clear bj b5 bG bz F bl bF;rw[aU,bi];clear aU bi;obtain⟨g,aG,aJ,aI,az,aA⟩:=b7;simp only[CB.p]at*;obtain⟨bm,bx⟩: ∃bm,gl.fn nm=bm:=⟨_,rfl⟩
 cases bm;all_goals
  by_cases hkN:ls.length=N
  ·have bo:=G (show ai=rK gl lo nm (some (ah,ls)) 0 xs by rw[bb.out,if_pos hkN]);have ca:=G (show rK gl lo nm (some (ah,ls)) 0 (xs.drop 0)=ai from bo.out.symm);have ch:((ls.length:Int) !=(N:Int))=false:=by simp[hkN]
   clear bb;go_enter func218,ntmps218;go_wp2_with (go_at_call 175;refine bd.out.mono ?_;rintro e bg ⟨rfl,a⟩;have H:=G (bc.out.trans a);have A:=G (bf.out.ext a);have R:=A.out.cell;have z:=G (a1.out.ext a);clear a bd bf a1 bc);refine aB 12 1 [] mixed Qb trivial ?_;repeat (refine sx ?_ (λbg ap=> ?_) ?_;rotate_left;(focus have R:=(A.out.ext ap.un).cell;have b6:=(z.out.ext ap.un).blk.cell;have aW:=(z.out.ext ap.un).lookF bu;rw[bx]at aW;simp only[bZ,fE,dK,dY]at aW;clear ap;go_simp<;>with_reducible rfl);simp only[bE,bD,bC,bB,bA])
   intro bP ao _;simp only[ae,aV];have bn:=G (H.out.trans ao.un);have bL:=G (z.out.ext ao.un);have be:=G (A.out.ext ao.un);clear R;have R:=be.out.cell;clear ao H z A;go_wp2_with fail;clear R
   go_loopw [53] (λbh wr=> ∃(j:Nat),bh=.int i64 (j:Int)/\j<=N/\Hid (rK gl lo nm (some (ah,ls)) j (xs.drop j)=ai)/\Hid (au X wr)/\Hid (CK ⟨g,aG,aJ,aI,az,aA⟩ gl aC lo wr)/\Hid (aO wr X.heap.size 206 #[.int i64 5,.string (Z op),.string (Z nm),.string (Z tx),.int i64 v,.slice a3 N c])) (λbh _=>N-(intOf bh).toNat)
   case atStart=>exact⟨0,rfl,aD _,ca,bn,bL,be⟩
   case round=>
    obtain⟨j,rfl,ck,aj,ar,cc,af⟩:=hrel;by_cases hlt:j<N
    ·have bY:(j:Int)<N:=J
     have a5:j<xs.length:=by have:=bK.out;omega
     have a4:j<ls.length:=J
     obtain⟨b,cd,cr,rfl,F,cl,ba,a9,a8,a7,a6,bH,aT⟩:=bJ.out.at_ j a5;have d:=vP (gl:=gl) (lo:=lo) (nm:=nm) (b:=some (ah,ls)) a5;have bk:=bO.out _ (ax a5);have aE:=b9.out _ (ax a5);obtain⟨aw,bq⟩: ∃aw,xs[j]=aw:=⟨_,rfl⟩
     rw[bq]at ba a9 a8 a7 a6 aT d bk aE;clear bq;obtain⟨I,aS,am,aP,aN,aX⟩:=aw;simp only[Ex.k,Ex.op,Ex.nm,Ex.tx,Ex.v,Ex.args]at ba a9 a8 a7 a6 aT d aE;have e0:=(ar.out.cell b _ F).trans ba;have cq:=(ar.out.cell b _ F).trans a9;have cp:=(ar.out.cell b _ F).trans a8;have co:=(ar.out.cell b _ F).trans a7;have cn:=(ar.out.cell b _ F).trans a6;have cm:=(ar.out.cell b _ F).trans bH;obtain⟨B,aF,rfl,_⟩:=aT.form;have bI:=G ((aT.keep (.of_ext ar.out) (Q:=P) (λb F _=>F)).keep (.of_ext (aa _ (.cells #[.int i64 I,.string (Z aS),.string (Z am),.string (Z aP),.int i64 aN,.slice B aX.length aF] 206))) (Q:=P) (λb F _=>F));have A:=G (aq wr 206 #[.int i64 I,.string (Z aS),.string (Z am),.string (Z aP),.int i64 aN,.slice B aX.length aF]);have H:=G (ar.out.alloc' (.cells #[.int i64 I,.string (Z aS),.string (Z am),.string (Z aP),.int i64 aN,.slice B aX.length aF] 206));have z:=G (cc.out.ext (aa wr (.cells #[.int i64 I,.string (Z aS),.string (Z am),.string (Z aP),.int i64 aN,.slice B aX.length aF] 206)));have aL:=G (bk ⟨g,aG,aJ,aI,az,aA⟩ gl aC lo P);have o:=G (bM.out j J);clear ba a9 a8 a7 a6 bH aT bk;simp only[CB.p,Ex.k,Ex.op,Ex.nm,Ex.tx,Ex.v,Ex.args]at aL
     cases hia:nB (some (ah,ls)) j with
     |true=>
      rw[hia]at d o;simp only[if_true]at d;generalize qj gl lo (.mk I aS am aP aN aX)=r at*
      cases r with
      |ok u=>
       have d:=G d;go_wp2_with (first|(go_at_call 177;refine(o.out _).mono ?_;rintro e al ⟨rfl,a⟩;have w:=G (H.out.trans a);have ad:=G a;have an:=(A.out.ext a).cell;have R:=(af.out.ext ((aa _ _).trans a)).cell;have y:=G (z.out.ext a);clear a o)|(go_at_call 176;refine(aL.out _ B _ aF y.out (bI.out.keep (.of_ext ad.out) (λb F _=>F))).mono ?_;unfold cL;rintro e aM ⟨rfl,a⟩;have V:=G (w.out.trans a);have aY:=G (y.out.ext a);have a2:=G (af.out.ext ((aa _ _).trans (ad.out.trans a)));clear a aL));go_roundw
       case rel=>exact⟨j+1,by go_num,by omega,G (d.out.symm.trans aj.out),V,aY,a2⟩
       case measure=>simp[intOf];omega
      |error q=>
       obtain⟨aQ,n⟩:=q;have d:=G d;have ag:=G (show ai=.error (aQ,n)from aj.out.symm.trans d.out);go_wp2_with (first|(go_at_call 177;refine(o.out _).mono ?_;rintro e al ⟨rfl,a⟩;have w:=G (H.out.trans a);have ad:=G a;have an:=(A.out.ext a).cell;have R:=(af.out.ext ((aa _ _).trans a)).cell;have y:=G (z.out.ext a);clear a o)|(go_at_call 176;refine(aL.out _ B _ aF y.out (bI.out.keep (.of_ext ad.out) (λb F _=>F))).mono ?_;unfold cL bw;rintro e aM ⟨rfl,a⟩;have V:=G (w.out.trans a);clear a aL));exact⟨rfl,by rw[ag.out];rfl,V.out⟩
     |false=>
      rw[hia]at d o;have bt:=cb.out _ (ax a4);have ay:=λX=>mt ls j a4 X;have br:ls[j]≠105:=by
       intro e;have:nB (some (ah,ls)) j=true:=by
        simp only[nB];rw[du];right;rw[bN,aH a4];simp[e]
       rw[this]at hia
       cases hia
      have bv:Ez (some (ah,ls)) j=ls[j]:=by simp only[Ez];rw[bN,aH a4];rfl
      rw[bv]at d;have cj:(j:Int)<ls.length:=J
      generalize ls[j]=q at bt ay br d;simp only[aR,if_false]at d;clear hia bv aL;rcases bt with rfl|rfl|rfl|rfl
      ·exact absurd rfl br
      ·have ay: ∀X,(Instr.index 9 (.string (Z ls)) (.int i64 (j:Int))).run prog X=.ok (.int .u8 115) X:=ay;by_cases hk2:I=2
       ·subst hk2;simp[uc]at d;have d:=G d;go_wp2_with (go_at_call 177;refine(o.out _).mono ?_;rintro e al ⟨rfl,a⟩;have w:=G (H.out.trans a);have ad:=G a;have an:=(A.out.ext a).cell;have R:=(af.out.ext ((aa _ _).trans a)).cell;have y:=G (z.out.ext a);clear a o);go_roundw
        case rel=>exact⟨j+1,by go_num,by omega,G (d.out.symm.trans aj.out),w,y,G (af.out.ext ((aa _ _).trans ad.out))⟩
        case measure=>simp[intOf];omega
       ·have bR:(I !=2)=true:=by simpa using hk2
        have bT:(I==2)=false:=by simpa using hk2
        simp[uc,hk2]at d;have d:=G d;have ag:=G (show ai=.error (nm,16)from aj.out.symm.trans d.out);go_wp2_with (first|(go_at_call 177;refine(o.out _).mono ?_;rintro e al ⟨rfl,a⟩;have w:=G (H.out.trans a);have ad:=G a;have an:=(A.out.ext a).cell;have R:=(af.out.ext ((aa _ _).trans a)).cell;have y:=G (z.out.ext a);clear a o)|(go_at_call 65;refine(av.out _ _).mono ?_;unfold bw;rintro e bp ⟨rfl,a⟩;have V:=G (w.out.trans a);clear a av));exact⟨rfl,by rw[ag.out];rfl,V.out⟩
      ·have ay: ∀X,(Instr.index 9 (.string (Z ls)) (.int i64 (j:Int))).run prog X=.ok (.int .u8 97) X:=ay;by_cases hk3:I=3
       ·subst hk3;simp[uc]at d
        cases hca:mg gl lo am with
        |ok u=>
         rw[hca]at d;have d:=G d;go_wp2_with (first|(go_at_call 177;refine(o.out _).mono ?_;rintro e al ⟨rfl,a⟩;have w:=G (H.out.trans a);have ad:=G a;have an:=(A.out.ext a).cell;have R:=(af.out.ext ((aa _ _).trans a)).cell;have y:=G (z.out.ext a);clear a o)|(go_at_call 125;refine(fe ⟨g,aG,aJ,aI,az,aA⟩ gl aC lo _ y.out am aE).mono ?_;rw[hca];unfold cL;rintro e aM ⟨rfl,a⟩;have V:=G (w.out.trans a);have aY:=G (y.out.ext a);have a2:=G (af.out.ext ((aa _ _).trans (ad.out.trans a)));clear a));go_roundw
         case rel=>exact⟨j+1,by go_num,by omega,G (d.out.symm.trans aj.out),V,aY,a2⟩
         case measure=>simp[intOf];omega
        |error q=>
         obtain⟨aQ,n⟩:=q;rw[hca]at d;have d:=G d;have ag:=G (show ai=.error (aQ,n)from aj.out.symm.trans d.out);go_wp2_with (first|(go_at_call 177;refine(o.out _).mono ?_;rintro e al ⟨rfl,a⟩;have w:=G (H.out.trans a);have ad:=G a;have an:=(A.out.ext a).cell;have R:=(af.out.ext ((aa _ _).trans a)).cell;have y:=G (z.out.ext a);clear a o)|(go_at_call 125;refine(fe ⟨g,aG,aJ,aI,az,aA⟩ gl aC lo _ y.out am aE).mono ?_;rw[hca];unfold cL bw;rintro e aM ⟨rfl,a⟩;have V:=G (w.out.trans a);clear a));exact⟨rfl,by rw[ag.out];rfl,V.out⟩
       ·have bQ:(I !=3)=true:=by simpa using hk3
        have bS:(I==3)=false:=by simpa using hk3
        simp[uc,hk3]at d;have d:=G d;have ag:=G (show ai=.error (nm,16)from aj.out.symm.trans d.out);go_wp2_with (first|(go_at_call 177;refine(o.out _).mono ?_;rintro e al ⟨rfl,a⟩;have w:=G (H.out.trans a);have ad:=G a;have an:=(A.out.ext a).cell;have R:=(af.out.ext ((aa _ _).trans a)).cell;have y:=G (z.out.ext a);clear a o)|(go_at_call 65;refine(av.out _ _).mono ?_;unfold bw;rintro e bp ⟨rfl,a⟩;have V:=G (w.out.trans a);clear a av));exact⟨rfl,by rw[ag.out];rfl,V.out⟩
      ·have ay: ∀X,(Instr.index 9 (.string (Z ls)) (.int i64 (j:Int))).run prog X=.ok (.int .u8 98) X:=ay;by_cases hk3:I=3
       ·subst hk3;simp[uc]at d
        cases hca:mg gl lo am with
        |ok u=>
         rw[hca]at d;have d:=G d;go_wp2_with (first|(go_at_call 177;refine(o.out _).mono ?_;rintro e al ⟨rfl,a⟩;have w:=G (H.out.trans a);have ad:=G a;have an:=(A.out.ext a).cell;have R:=(af.out.ext ((aa _ _).trans a)).cell;have y:=G (z.out.ext a);clear a o)|(go_at_call 125;refine(fe ⟨g,aG,aJ,aI,az,aA⟩ gl aC lo _ y.out am aE).mono ?_;rw[hca];unfold cL;rintro e aM ⟨rfl,a⟩;have V:=G (w.out.trans a);have aY:=G (y.out.ext a);have a2:=G (af.out.ext ((aa _ _).trans (ad.out.trans a)));clear a));go_roundw
         case rel=>exact⟨j+1,by go_num,by omega,G (d.out.symm.trans aj.out),V,aY,a2⟩
         case measure=>simp[intOf];omega
        |error q=>
         obtain⟨aQ,n⟩:=q;rw[hca]at d;have d:=G d;have ag:=G (show ai=.error (aQ,n)from aj.out.symm.trans d.out);go_wp2_with (first|(go_at_call 177;refine(o.out _).mono ?_;rintro e al ⟨rfl,a⟩;have w:=G (H.out.trans a);have ad:=G a;have an:=(A.out.ext a).cell;have R:=(af.out.ext ((aa _ _).trans a)).cell;have y:=G (z.out.ext a);clear a o)|(go_at_call 125;refine(fe ⟨g,aG,aJ,aI,az,aA⟩ gl aC lo _ y.out am aE).mono ?_;rw[hca];unfold cL bw;rintro e aM ⟨rfl,a⟩;have V:=G (w.out.trans a);clear a));exact⟨rfl,by rw[ag.out];rfl,V.out⟩
       ·have bQ:(I !=3)=true:=by simpa using hk3
        have bS:(I==3)=false:=by simpa using hk3
        by_cases hk2:I=2
        ·subst hk2;simp[uc]at d;have d:=G d;go_wp2_with (go_at_call 177;refine(o.out _).mono ?_;rintro e al ⟨rfl,a⟩;have w:=G (H.out.trans a);have ad:=G a;have an:=(A.out.ext a).cell;have R:=(af.out.ext ((aa _ _).trans a)).cell;have y:=G (z.out.ext a);clear a o);go_roundw
         case rel=>exact⟨j+1,by go_num,by omega,G (d.out.symm.trans aj.out),w,y,G (af.out.ext ((aa _ _).trans ad.out))⟩
         case measure=>simp[intOf];omega
        ·have bR:(I !=2)=true:=by simpa using hk2
         have bT:(I==2)=false:=by simpa using hk2
         simp[uc,hk3,hk2]at d;have d:=G d;have ag:=G (show ai=.error (nm,16)from aj.out.symm.trans d.out);go_wp2_with (first|(go_at_call 177;refine(o.out _).mono ?_;rintro e al ⟨rfl,a⟩;have w:=G (H.out.trans a);have ad:=G a;have an:=(A.out.ext a).cell;have R:=(af.out.ext ((aa _ _).trans a)).cell;have y:=G (z.out.ext a);clear a o)|(go_at_call 65;refine(av.out _ _).mono ?_;unfold bw;rintro e bp ⟨rfl,a⟩;have V:=G (w.out.trans a);clear a av));exact⟨rfl,by rw[ag.out];rfl,V.out⟩
    ·have bY: ¬(j:Int)<N:=J
     have ag:=G (show ai=.ok () by
      have:=aj.out;rw[aK (by have:=bK.out;omega),rK]at this
      exact this.symm)
     go_wp2_with fail;exact bodyPost_end (results_none rfl _ _ _) rfl ⟨by rw[ag.out];rfl,ar.out⟩
  ·have bo:=G (show ai=.error (nm,16) by rw[bb.out,if_neg hkN]);have ci:((ls.length:Int) !=(N:Int))=true:=Qg
   have cg:((ls.length:Int)==(N:Int))=false:=Qg
   clear bO bM bb;go_enter func218,ntmps218;go_wp2_with (go_at_call 175;refine bd.out.mono ?_;rintro e bg ⟨rfl,a⟩;have H:=G (bc.out.trans a);have A:=G (bf.out.ext a);have R:=A.out.cell;have z:=G (a1.out.ext a);clear a bd bf a1 bc);refine aB 12 1 [] mixed Qb trivial ?_;repeat (refine sx ?_ (λbg ap=> ?_) ?_;rotate_left;(focus have R:=(A.out.ext ap.un).cell;have b6:=(z.out.ext ap.un).blk.cell;have aW:=(z.out.ext ap.un).lookF bu;rw[bx]at aW;simp only[bZ,fE,dK,dY]at aW;clear ap;go_simp<;>with_reducible rfl);simp only[bE,bD,bC,bB,bA])
   intro bP ao _;simp only[ae,aV];have bn:=G (H.out.trans ao.un);have bL:=G (z.out.ext ao.un);have be:=G (A.out.ext ao.un);clear R;have R:=be.out.cell;clear ao H z A;go_wp2_with (go_at_call 65;refine(av.out _ _).mono ?_;unfold bw;rintro e al ⟨rfl,a⟩;have V:=G (bn.out.trans a);clear a av);exact⟨rfl,by rw[bo.out];rfl,V.out⟩
theorem wB (k:Int) (op nm tx:List UInt8) (v:Int) (xs:List Ex) (aj:nm.length<=1073741824) (ah:Fw xs) (ar:k=5->J7 op nm tx v xs):Ho (.mk k op nm tx v xs):=by
 intro H gl V lo P R y n c I X;obtain⟨aw,am⟩: ∃ax,qj gl lo (.mk k op nm tx v xs)=ax:=⟨_,rfl⟩
 have af:=G (am.symm.trans (qj.eq_1 gl lo k op nm tx v xs));simp only[Ex.k,Ex.op,Ex.nm,Ex.tx,Ex.v,Ex.args]at*;rw[am];clear am;by_cases h3:k=3
 ·subst h3;have a:=af.out;rw[if_pos rfl]at a;have d:=G (aa R (.cells #[.int i64 3,.string (Z op),.string (Z nm),.string (Z tx),.int i64 v,.slice y n c] 206));have A:=aq R 206 #[.int i64 3,.string (Z op),.string (Z nm),.string (Z tx),.int i64 v,.slice y n c];have ag:=G A;have z:=G (I.ext d.out);have ad:=G (X.keep (.of_ext d.out) (Q:=P) (λb F _=>F));clear I X A
  cases hr:rj gl lo nm with
  |ok u=>
   have w:=G (a.trans hr);go_enter func176,ntmps176;go_wp2_with (go_at_call 124;refine(fS H gl V lo _ z.out nm aj).mono ?_;rw[hr];unfold cL;rintro e ae ⟨rfl,a⟩;have o:=G (d.out.trans a);clear a);exact bodyPost_end (results_none rfl _ _ _) rfl ⟨by rw[w.out];rfl,o.out⟩
  |error q=>
   obtain⟨ai,m⟩:=q;have w:=G (a.trans hr);go_enter func176,ntmps176;go_wp2_with (go_at_call 124;refine(fS H gl V lo _ z.out nm aj).mono ?_;rw[hr];unfold cL bw;rintro e ae ⟨rfl,a⟩;have o:=G (d.out.trans a);clear a);exact⟨rfl,by rw[w.out];rfl,o.out⟩
 by_cases h4:k=4
 ·subst h4;have a:=af.out;rw[if_neg Qd,if_pos rfl]at a;have d:=G (aa R (.cells #[.int i64 4,.string (Z op),.string (Z nm),.string (Z tx),.int i64 v,.slice y n c] 206));have A:=aq R 206 #[.int i64 4,.string (Z op),.string (Z nm),.string (Z tx),.int i64 v,.slice y n c];have ag:=G A;have z:=G (I.ext d.out);have ad:=G (X.keep (.of_ext d.out) (Q:=P) (λb F _=>F));clear I X A
  cases hr:mg gl lo nm with
  |ok u=>
   rw[hr,fA]at a
   cases hs:p8 gl lo xs with
   |ok u=>
    have w:=G (a.trans hs);go_enter func176,ntmps176;go_wp2_with (first|(go_at_call 125;refine(fe H gl V lo _ z.out nm aj).mono ?_;rw[hr];unfold cL;rintro e ae ⟨rfl,a⟩;have o:=G (d.out.trans a);have al:=G a;have av:=(ag.out.ext a).cell;clear a)|(go_at_call 126;refine(ah H gl V lo P _ y n c (z.out.ext al.out) (ad.out.keep (.of_ext al.out) (λb F _=>F))).mono ?_;rw[hs];unfold cL;rintro e ap ⟨rfl,a⟩;have an:=G (o.out.trans a);clear a));exact bodyPost_end (results_none rfl _ _ _) rfl ⟨by rw[w.out];rfl,an.out⟩
   |error q=>
    obtain⟨ai,m⟩:=q;have w:=G (a.trans hs);go_enter func176,ntmps176;go_wp2_with (first|(go_at_call 125;refine(fe H gl V lo _ z.out nm aj).mono ?_;rw[hr];unfold cL;rintro e ae ⟨rfl,a⟩;have o:=G (d.out.trans a);have al:=G a;have av:=(ag.out.ext a).cell;clear a)|(go_at_call 126;refine(ah H gl V lo P _ y n c (z.out.ext al.out) (ad.out.keep (.of_ext al.out) (λb F _=>F))).mono ?_;rw[hs];unfold cL bw;rintro e ap ⟨rfl,a⟩;have an:=G (o.out.trans a);clear a));exact⟨rfl,by rw[w.out];rfl,an.out⟩
  |error q=>
   obtain⟨ai,m⟩:=q;rw[hr,gN]at a;have w:=G a;go_enter func176,ntmps176;go_wp2_with (go_at_call 125;refine(fe H gl V lo _ z.out nm aj).mono ?_;rw[hr];unfold cL bw;rintro e ae ⟨rfl,a⟩;have o:=G (d.out.trans a);clear a);exact⟨rfl,by rw[w.out];rfl,o.out⟩
 by_cases h2:k=2
 ·subst h2;have a:=af.out;rw[if_neg Qd,if_neg Qd,if_pos rfl]at a;have w:=G a;have d:=G (aa R (.cells #[.int i64 2,.string (Z op),.string (Z nm),.string (Z tx),.int i64 v,.slice y n c] 206));have A:=aq R 206 #[.int i64 2,.string (Z op),.string (Z nm),.string (Z tx),.int i64 v,.slice y n c];have ag:=G A;have z:=G (I.ext d.out);have ad:=G (X.keep (.of_ext d.out) (Q:=P) (λb F _=>F));clear I X A;have ay:=G (λW=>show Calls prog 65 #[.string ⟨#[]⟩,.int i64 16] W λe w'=>e=bw [] 16/\au W w' from eJ [] 16 W);go_enter func176,ntmps176;go_wp2_with (go_at_call 65;refine(ay.out _).mono ?_;unfold bw;rintro e ae ⟨rfl,a⟩;have o:=G (d.out.trans a);clear a);exact⟨rfl,by rw[w.out];rfl,o.out⟩
 by_cases h5:k=5
 ·subst h5;have ao:=G (ar rfl);have af:=G (show qj gl lo (.mk 5 op nm tx v xs)=aw by rw[af.out,qj]);have d:=G (aa R (.cells #[.int i64 5,.string (Z op),.string (Z nm),.string (Z tx),.int i64 v,.slice y n c] 206));have A:=aq R 206 #[.int i64 5,.string (Z op),.string (Z nm),.string (Z tx),.int i64 v,.slice y n c];have ag:=G A;have z:=G (I.ext d.out);have ad:=G (X.keep (.of_ext d.out) (Q:=P) (λb F _=>F));clear I X A
  cases hr:qj gl lo (.mk 5 op nm tx v xs)with
  |ok u=>
   have w:=G (af.out.symm.trans hr);go_enter func176,ntmps176;go_wp2_with (go_at_call 218;refine(ao.out H gl V lo P _ y n c z.out ad.out).mono ?_;rw[hr];unfold cL;rintro e ae ⟨rfl,a⟩;have o:=G (d.out.trans a);clear a);exact bodyPost_end (results_none rfl _ _ _) rfl ⟨by rw[w.out];rfl,o.out⟩
  |error q=>
   obtain⟨ai,m⟩:=q;have w:=G (af.out.symm.trans hr);go_enter func176,ntmps176;go_wp2_with (go_at_call 218;refine(ao.out H gl V lo P _ y n c z.out ad.out).mono ?_;rw[hr];unfold cL bw;rintro e ae ⟨rfl,a⟩;have o:=G (d.out.trans a);clear a);exact⟨rfl,by rw[w.out];rfl,o.out⟩
 by_cases h6:k=6
 ·subst h6;have a:=af.out;rw[if_neg Qd,if_neg Qd,if_neg Qd,if_neg Qd,if_pos Qd]at a;have d:=G (aa R (.cells #[.int i64 6,.string (Z op),.string (Z nm),.string (Z tx),.int i64 v,.slice y n c] 206));have A:=aq R 206 #[.int i64 6,.string (Z op),.string (Z nm),.string (Z tx),.int i64 v,.slice y n c];have ag:=G A;have z:=G (I.ext d.out);have ad:=G (X.keep (.of_ext d.out) (Q:=P) (λb F _=>F));clear I X A
  cases hr:p8 gl lo xs with
  |ok u=>
   have w:=G (a.trans hr);go_enter func176,ntmps176;go_wp2_with (go_at_call 126;refine(ah H gl V lo P _ y n c z.out ad.out).mono ?_;rw[hr];unfold cL;rintro e ae ⟨rfl,a⟩;have o:=G (d.out.trans a);clear a);exact bodyPost_end (results_none rfl _ _ _) rfl ⟨by rw[w.out];rfl,o.out⟩
  |error q=>
   obtain⟨ai,m⟩:=q;have w:=G (a.trans hr);go_enter func176,ntmps176;go_wp2_with (go_at_call 126;refine(ah H gl V lo P _ y n c z.out ad.out).mono ?_;rw[hr];unfold cL bw;rintro e ae ⟨rfl,a⟩;have o:=G (d.out.trans a);clear a);exact⟨rfl,by rw[w.out];rfl,o.out⟩
 by_cases h7:k=7
 ·subst h7;have a:=af.out;rw[if_neg Qd,if_neg Qd,if_neg Qd,if_neg Qd,if_pos Qd]at a;have d:=G (aa R (.cells #[.int i64 7,.string (Z op),.string (Z nm),.string (Z tx),.int i64 v,.slice y n c] 206));have A:=aq R 206 #[.int i64 7,.string (Z op),.string (Z nm),.string (Z tx),.int i64 v,.slice y n c];have ag:=G A;have z:=G (I.ext d.out);have ad:=G (X.keep (.of_ext d.out) (Q:=P) (λb F _=>F));clear I X A
  cases hr:p8 gl lo xs with
  |ok u=>
   have w:=G (a.trans hr);go_enter func176,ntmps176;go_wp2_with (go_at_call 126;refine(ah H gl V lo P _ y n c z.out ad.out).mono ?_;rw[hr];unfold cL;rintro e ae ⟨rfl,a⟩;have o:=G (d.out.trans a);clear a);exact bodyPost_end (results_none rfl _ _ _) rfl ⟨by rw[w.out];rfl,o.out⟩
  |error q=>
   obtain⟨ai,m⟩:=q;have w:=G (a.trans hr);go_enter func176,ntmps176;go_wp2_with (go_at_call 126;refine(ah H gl V lo P _ y n c z.out ad.out).mono ?_;rw[hr];unfold cL bw;rintro e ae ⟨rfl,a⟩;have o:=G (d.out.trans a);clear a);exact⟨rfl,by rw[w.out];rfl,o.out⟩
 have a:=af.out;rw[if_neg h3,if_neg h4,if_neg h2,if_neg h5,if_neg J]at a;have w:=G a;have o:=G (aa R (.cells #[.int i64 k,.string (Z op),.string (Z nm),.string (Z tx),.int i64 v,.slice y n c] 206));have aD:=Qn.2 h3;have aC:=Qn.2 h4;have aE:=Qn.2 h2;have aB:=Qn.2 h5;have aA:=Qn.2 h6;have az:=Qn.2 h7;clear I X;go_enter func176,ntmps176;go_wp2_with fail;exact bodyPost_end (results_none rfl _ _ _) rfl ⟨by rw[w.out];rfl,o.out⟩
theorem rT: ∀(m:Nat) (x:Ex),x.wt<=m->x.wt<=1073741824->Ho x
 |0,x,h,_=>absurd h (by have:=x.wt_eq;omega)
 |m+1,.mk k op nm tx v xs,h,hw=>by
  rw[Ex.wt]at h hw;have o: ∀a∈xs,Ho a:=λa d=>rT m a (by have:=eE d;omega) (by have:=eE d;omega);have z:=d7 xs;have w: ∀a∈xs,a.nm.length<=1073741824:=λa d=>by have:=eE d;have:=a.wt_eq;omega
  refine wB k op nm tx v xs J (si xs J o) λA=> ?_
  cases hb:fX nm with
  |none=>exact wD op nm tx v xs J J hb o
  |some b=>
   obtain⟨y,ls⟩:=b;have u:=yB nm;rw[hb]at u;exact wC op nm tx v xs J J y ls hb u o w
theorem wA (xs:List Ex) (h:dU xs<=1073741824):Fw xs:=si xs (by have:=d7 xs;omega) λa d=>rT _ a (ah _) (by have:=eE d;omega)
def rq (X:CB) (gl:Gl) (bl:Nat) (r:SR) (w:World) (e:Ending) (w':World):Prop:=w.grownBy w' (some bl)/\match r with
 | .ok lo=>e=.returned (.tuple #[])/\CK X gl (.map (some bl)) lo w'
 | .error (nm,n)=>e=bw nm n
section
variable {X:CB} {gl:Gl} {lo lo':Ls} {w W W':World} {bl pb:Nat} {P:Nat->Prop}
theorem CK.ml (a:CK X gl (.map (some bl)) lo w):cH w bl (GN lo)/\bl≠X.g/\bl≠X.bi/\bl≠X.ba/\bl≠X.bf:=by
 rcases a.l with⟨a,_⟩|⟨b,a,hm⟩
 ·cases a
 ·injection a with a;injection a with a;subst a;exact hm
theorem CK.lt_bl (a:CK X gl (.map (some bl)) lo w):bl<w.heap.size:=a.ml.1.lt
theorem CK.t_ne (d:CK X gl (.map (some bl)) lo w):bl≠1:=by
 rintro rfl;obtain⟨t,fr,h⟩:=d.t;obtain⟨es,c,a,_⟩:=d.ml.1;rw[h]at a;cases a
theorem CK.add {nm:List UInt8} (d:CK X gl (.map (some bl)) lo w) (G:cH W bl ((GN lo).upd nm (.bool true))) (o:w.grownBy W (some bl)):CK X gl (.map (some bl)) (lo.add nm) W:=by
 obtain⟨V,F,A,z,y⟩:=d.ml;have h: ∀k,bl≠k->some k≠some bl:=λk R e=>R (by injection e with e;exact e.symm);refine⟨d.blk.grown o (h _ F),d.i.grown o (h _ A),d.a.grown o (h _ z),d.f.grown o (h _ y),.inr ⟨bl,rfl,G.congr λs=> ?_,F,A,z,y⟩,?_⟩
 ·unfold KF.upd GN Ls.add;by_cases e:s=nm
  ·subst e;simp
  ·simp[e]
 ·obtain⟨t,fr,u⟩:=d.t;exact⟨t,fr,(o.block _ (Array.getElem?_eq_some_iff.1 u).1 (h _ d.t_ne)).trans u⟩
structure SQ (w:World) (pb bl:Nat) (P:Nat->Prop) (X:CB) (gl:Gl) (lo:Ls) (cs:Array Value) (ex:List Ex) (bd el:List St) (A1 A2 A3:Option Addr) (c1 c2 c3:Nat) (W:World):Prop where
 gr:w.grownBy W (some bl)
 ck:CK X gl (.map (some bl)) lo W
 bk:aO W pb 147 cs
 re:dS W P (.slice A1 ex.length c1) ex
 rb:eq W P (.slice A2 bd.length c2) bd
 rl:eq W P (.slice A3 el.length c3) el
 hP: ∀b,P b->b≠bl
 ne:bl≠pb
variable {cs:Array Value} {ex:List Ex} {bd el:List St} {A1 A2 A3:Option Addr} {c1 c2 c3:Nat}
theorem SQ.ext (a:SQ w pb bl P X gl lo cs ex bd el A1 A2 A3 c1 c2 c3 W) (d:au W W'):SQ w pb bl P X gl lo cs ex bd el A1 A2 A3 c1 c2 c3 W':=
 ⟨a.gr.trans (d.grownBy _),a.ck.ext d,a.bk.ext d,a.re.keep (.of_ext d) (λb h _=>h),a.rb.keep (.of_ext d) (λb h _=>h),a.rl.keep (.of_ext d) (λb h _=>h),a.hP,a.ne⟩
theorem SQ.grown (a:SQ w pb bl P X gl lo cs ex bd el A1 A2 A3 c1 c2 c3 W) (o:W.grownBy W' (some bl)) (u:CK X gl (.map (some bl)) lo' W'):SQ w pb bl P X gl lo' cs ex bd el A1 A2 A3 c1 c2 c3 W':=by
 have h:dM P W W':=.of_grown o (λb d e=>a.hP b d (by injection e));exact⟨a.gr.trans o,u,a.bk.grown o (λe=>a.ne (by injection e with e;exact e.symm)),a.re.keep h (λb d _=>d),a.rb.keep h (λb d _=>d),a.rl.keep h (λb d _=>d),a.hP,a.ne⟩
theorem SQ.ml (a:SQ w pb bl P X gl lo cs ex bd el A1 A2 A3 c1 c2 c3 W):cH W bl (GN lo):=a.ck.ml.1
end
theorem z_ {gl:Gl} {lo:Ls} {l:List St} {j:Nat} (d:j<l.length):gV gl lo (l.drop j)=CR.then (vO gl lo l[j]) λa=>gV gl a (l.drop (j+1)):=by
 rw[ap d,gV]
def Fv (xs:List St):Prop:= ∀(X:CB) (gl:Gl) (bl:Nat) (lo:Ls) (P:Nat->Prop) (w:World) (A:Option Addr) (n c:Nat),CK X gl (.map (some bl)) lo w->eq w P (.slice A n c) xs->(∀b,P b->b≠bl)->
 Calls prog 66 #[X.p,.slice A n c] w (rq X gl bl (gV gl lo xs) w)
theorem qv (xs:List St) (bq:xs.length<=1073741824) (a8: ∀s∈xs,s.nm.length<=1073741824) (bb: ∀s∈xs,Fw s.ex) (ba: ∀s∈xs,Fv s.body/\Fv s.els):Fv xs:=by
 intro F gl af lo P aR bQ n c a9 aZ ah;obtain⟨bP,c',bo,br⟩:=aZ.form;injection bo with bn bm bl;subst bn bm bl;have a2:=G aZ;have bi:=G ba;have bg:=G a8;have bj:=G bb;have bx:=G a9;obtain⟨N,aS⟩: ∃N,xs.length=N:=⟨_,rfl⟩
 have bh:=G aS;rw[aS]at a2 bq;obtain⟨an,aY⟩: ∃bt,gV gl lo xs=bt:=⟨_,rfl⟩
 have bv:=G (show gV gl lo (xs.drop 0)=an from aY);have bu:=G (World.grownBy.refl aR (some af));clear aZ br ba a9 a8 bb;rw[aS,aY];clear aS aY;simp only[CB.p]at*;go_enter func66,ntmps66;go_wp2_with fail
 go_loopw [8] (λaX wr=> ∃(j:Nat) (y:Ls),aX=.int i64 (j:Int)/\j<=N/\Hid (gV gl y (xs.drop j)=an)/\Hid (aR.grownBy wr (some af))/\Hid (CK F gl (.map (some af)) y wr)) (λaX _=>N-(intOf aX).toNat)
 case atStart=>exact⟨0,lo,rfl,aD _,bv,bu,bx⟩
 case round=>
  obtain⟨j,y,rfl,bJ,al,a1,a3⟩:=hrel;by_cases hlt:j<N
  ·have bp:(j:Int)<N:=J
   have aL:j<xs.length:=by have:=bh.out;omega
   obtain⟨b,bz,e,bO,bI,rfl,am,aP,aV,aU,be,bd,bc,aN,aO,aM⟩:=a2.out.at_ j aL;have z:=z_ (gl:=gl) (lo:=y) aL;have ap:=bg.out _ (ax aL);have aT:=bj.out _ (ax aL);have aQ:=bi.out _ (ax aL);obtain⟨aW,a7⟩: ∃aW,xs[j]=aW:=⟨_,rfl⟩
   rw[a7]at aV aU aN aO aM z ap aT aQ;clear a7;obtain⟨k,nm,ad,aj,ar⟩:=aW;simp only[St.k,St.nm,St.ex,St.body,St.els]at aV aU aN aO aM ap aT aQ;have aF:dM P aR wr:=.of_grown a1.out (λb am e=>ah b am (by injection e));have e0:=(aF.cell _ aP am).trans aV;have bN:=(aF.cell _ aP am).trans aU;have bM:=(aF.cell _ aP am).trans be;have bL:=(aF.cell _ aP am).trans bd;have bK:=(aF.cell _ aP am).trans bc;obtain⟨ai,c1,rfl,_⟩:=aN.form;obtain⟨av,c2,rfl,_⟩:=aO.form;obtain⟨az,ay,rfl,_⟩:=aM.form;have aJ:=aa wr (.cells #[.int i64 k,.string (Z nm),.slice ai ad.length c1,.slice av aj.length c2,.slice az ar.length ay] 147)
   have a:=G (show SQ aR wr.heap.size af P F gl y #[.int i64 k,.string (Z nm),.slice ai ad.length c1,.slice av aj.length c2,.slice az ar.length ay] ad aj ar ai av az c1 c2 ay (wr.alloc (.cells #[.int i64 k,.string (Z nm),.slice ai ad.length c1,.slice av aj.length c2,.slice az ar.length ay] 147))from
    ⟨a1.out.trans (aJ.grownBy _),a3.out.ext aJ,aq wr _ _,(aN.keep aF (Q:=P) (λb am _=>am)).keep (.of_ext aJ) (λb am _=>am),(aO.keep aF (Q:=P) (λb am _=>am)).keep (.of_ext aJ) (λb am _=>am),(aM.keep aF (Q:=P) (λb am _=>am)).keep (.of_ext aJ) (λb am _=>am),ah,gD a3.out.lt_bl⟩)
   have ao:=G aT;have ag:=G aQ.1;have au:=G aQ.2;clear aV aU be bd bc aN aO aM aT aQ aJ aF a2 bi bj bg;rw[vO]at z;by_cases hk2:k=2
   ·subst hk2;rw[if_pos rfl]at z
    cases hr1:rj gl y nm with
    |error q=>
     obtain⟨H,m⟩:=q;rw[hr1,gN]at z;have X:=G (show an=.error (H,m)from al.out.symm.trans z);go_wp2_with (go_at_call 124;refine(fS F gl _ y _ a.out.ck nm ap).mono ?_;rw[hr1];unfold cL bw;rintro e R ⟨rfl,d⟩;have I:=G (a.out.gr.trans (d.grownBy _));clear d);exact⟨rfl,by rw[X.out];exact⟨I.out,rfl⟩⟩
    |ok u=>
     rw[hr1,fA]at z
     cases hr2:p8 gl y ad with
     |error q=>
      obtain⟨H,m⟩:=q;rw[hr2,gN]at z;have X:=G (show an=.error (H,m)from al.out.symm.trans z);go_wp2_with (first|(go_at_call 124;refine(fS F gl _ y _ a.out.ck nm ap).mono ?_;rw[hr1];unfold cL;rintro e R ⟨rfl,d⟩;replace a:=G (a.out.ext d);clear d;(try clear o);have o:=a.out.bk.cell;)|(go_at_call 126;refine(ao.out F gl _ y P _ ai ad.length c1 a.out.ck a.out.re).mono ?_;rw[hr2];unfold cL bw;rintro e R ⟨rfl,d⟩;have I:=G (a.out.gr.trans (d.grownBy _));clear d));exact⟨rfl,by rw[X.out];exact⟨I.out,rfl⟩⟩
     |ok u=>
      rw[hr2,fA]at z;rw[if_neg Qd,fA]at z;obtain⟨aI,aE⟩: ∃l,y=l:=⟨_,rfl⟩
      subst aE
      cases hr4:gV gl y aj with
      |error q=>
       obtain⟨H,m⟩:=q;rw[hr4,gN]at z;have X:=G (show an=.error (H,m)from al.out.symm.trans z);go_wp2_with (first|(go_at_call 124;refine(fS F gl _ y _ a.out.ck nm ap).mono ?_;rw[hr1];unfold cL;rintro e R ⟨rfl,d⟩;replace a:=G (a.out.ext d);clear d;(try clear o);have o:=a.out.bk.cell;)|(go_at_call 126;refine(ao.out F gl _ y P _ ai ad.length c1 a.out.ck a.out.re).mono ?_;rw[hr2];unfold cL;rintro e R ⟨rfl,d⟩;replace a:=G (a.out.ext d);clear d;(try clear o);have o:=a.out.bk.cell;)|(go_at_call 66;have w:=ag.out F gl af y P _ av aj.length c2 a.out.ck a.out.rb ah;rw[hr4]at w;clear ag;refine w.mono ?_;unfold rq bw;rintro e R ⟨A,rfl⟩;have I:=G (a.out.gr.trans A);clear A w));exact⟨rfl,by rw[X.out];exact⟨I.out,rfl⟩⟩
      |ok lo2=>
       rw[hr4,fA]at z
       cases hr5:gV gl lo2 ar with
       |error q=>
        obtain⟨H,m⟩:=q;rw[hr5,gN]at z;have X:=G (show an=.error (H,m)from al.out.symm.trans z);go_wp2_with (first|(go_at_call 124;refine(fS F gl _ y _ a.out.ck nm ap).mono ?_;rw[hr1];unfold cL;rintro e R ⟨rfl,d⟩;replace a:=G (a.out.ext d);clear d;(try clear o);have o:=a.out.bk.cell;)|(go_at_call 126;refine(ao.out F gl _ y P _ ai ad.length c1 a.out.ck a.out.re).mono ?_;rw[hr2];unfold cL;rintro e R ⟨rfl,d⟩;replace a:=G (a.out.ext d);clear d;(try clear o);have o:=a.out.bk.cell;)|(go_at_call 66;have w:=ag.out F gl af y P _ av aj.length c2 a.out.ck a.out.rb ah;rw[hr4]at w;clear ag;refine w.mono ?_;unfold rq;rintro e R ⟨A,rfl,V⟩;replace a:=G (a.out.grown A V);clear A V w;(try clear o);have o:=a.out.bk.cell;)|(go_at_call 66;have w:=au.out F gl af lo2 P _ az ar.length ay a.out.ck a.out.rl ah;rw[hr5]at w;clear au;refine w.mono ?_;unfold rq bw;rintro e R ⟨A,rfl⟩;have I:=G (a.out.gr.trans A);clear A w));exact⟨rfl,by rw[X.out];exact⟨I.out,rfl⟩⟩
       |ok lo3=>
        rw[hr5,fA]at z;go_wp2_with (first|(go_at_call 124;refine(fS F gl _ y _ a.out.ck nm ap).mono ?_;rw[hr1];unfold cL;rintro e R ⟨rfl,d⟩;replace a:=G (a.out.ext d);clear d;(try clear o);have o:=a.out.bk.cell;)|(go_at_call 126;refine(ao.out F gl _ y P _ ai ad.length c1 a.out.ck a.out.re).mono ?_;rw[hr2];unfold cL;rintro e R ⟨rfl,d⟩;replace a:=G (a.out.ext d);clear d;(try clear o);have o:=a.out.bk.cell;)|(go_at_call 66;have w:=ag.out F gl af y P _ av aj.length c2 a.out.ck a.out.rb ah;rw[hr4]at w;clear ag;refine w.mono ?_;unfold rq;rintro e R ⟨A,rfl,V⟩;replace a:=G (a.out.grown A V);clear A V w;(try clear o);have o:=a.out.bk.cell;)|(go_at_call 66;have w:=au.out F gl af lo2 P _ az ar.length ay a.out.ck a.out.rl ah;rw[hr5]at w;clear au;refine w.mono ?_;unfold rq;rintro e R ⟨A,rfl,V⟩;replace a:=G (a.out.grown A V);clear A V w;(try clear o);have o:=a.out.bk.cell;));go_roundw
        case rel=>exact⟨j+1,lo3,by go_num,by omega,G (z.symm.trans al.out),G a.out.gr,G a.out.ck⟩
        case measure=>simp[intOf];omega
   by_cases hk3:k=3
   ·subst hk3;rw[if_neg Qd,if_pos rfl]at z
    cases hr1:mg gl y nm with
    |error q=>
     obtain⟨H,m⟩:=q;rw[hr1,gN]at z;have X:=G (show an=.error (H,m)from al.out.symm.trans z);go_wp2_with (go_at_call 125;refine(fe F gl _ y _ a.out.ck nm ap).mono ?_;rw[hr1];unfold cL bw;rintro e R ⟨rfl,d⟩;have I:=G (a.out.gr.trans (d.grownBy _));clear d);exact⟨rfl,by rw[X.out];exact⟨I.out,rfl⟩⟩
    |ok u=>
     rw[hr1,fA]at z
     cases hr2:p8 gl y ad with
     |error q=>
      obtain⟨H,m⟩:=q;rw[hr2,gN]at z;have X:=G (show an=.error (H,m)from al.out.symm.trans z);go_wp2_with (first|(go_at_call 125;refine(fe F gl _ y _ a.out.ck nm ap).mono ?_;rw[hr1];unfold cL;rintro e R ⟨rfl,d⟩;replace a:=G (a.out.ext d);clear d;(try clear o);have o:=a.out.bk.cell;)|(go_at_call 126;refine(ao.out F gl _ y P _ ai ad.length c1 a.out.ck a.out.re).mono ?_;rw[hr2];unfold cL bw;rintro e R ⟨rfl,d⟩;have I:=G (a.out.gr.trans (d.grownBy _));clear d));exact⟨rfl,by rw[X.out];exact⟨I.out,rfl⟩⟩
     |ok u=>
      rw[hr2,fA]at z;rw[if_neg Qd,fA]at z;obtain⟨aI,aE⟩: ∃l,y=l:=⟨_,rfl⟩
      subst aE
      cases hr4:gV gl y aj with
      |error q=>
       obtain⟨H,m⟩:=q;rw[hr4,gN]at z;have X:=G (show an=.error (H,m)from al.out.symm.trans z);go_wp2_with (first|(go_at_call 125;refine(fe F gl _ y _ a.out.ck nm ap).mono ?_;rw[hr1];unfold cL;rintro e R ⟨rfl,d⟩;replace a:=G (a.out.ext d);clear d;(try clear o);have o:=a.out.bk.cell;)|(go_at_call 126;refine(ao.out F gl _ y P _ ai ad.length c1 a.out.ck a.out.re).mono ?_;rw[hr2];unfold cL;rintro e R ⟨rfl,d⟩;replace a:=G (a.out.ext d);clear d;(try clear o);have o:=a.out.bk.cell;)|(go_at_call 66;have w:=ag.out F gl af y P _ av aj.length c2 a.out.ck a.out.rb ah;rw[hr4]at w;clear ag;refine w.mono ?_;unfold rq bw;rintro e R ⟨A,rfl⟩;have I:=G (a.out.gr.trans A);clear A w));exact⟨rfl,by rw[X.out];exact⟨I.out,rfl⟩⟩
      |ok lo2=>
       rw[hr4,fA]at z
       cases hr5:gV gl lo2 ar with
       |error q=>
        obtain⟨H,m⟩:=q;rw[hr5,gN]at z;have X:=G (show an=.error (H,m)from al.out.symm.trans z);go_wp2_with (first|(go_at_call 125;refine(fe F gl _ y _ a.out.ck nm ap).mono ?_;rw[hr1];unfold cL;rintro e R ⟨rfl,d⟩;replace a:=G (a.out.ext d);clear d;(try clear o);have o:=a.out.bk.cell;)|(go_at_call 126;refine(ao.out F gl _ y P _ ai ad.length c1 a.out.ck a.out.re).mono ?_;rw[hr2];unfold cL;rintro e R ⟨rfl,d⟩;replace a:=G (a.out.ext d);clear d;(try clear o);have o:=a.out.bk.cell;)|(go_at_call 66;have w:=ag.out F gl af y P _ av aj.length c2 a.out.ck a.out.rb ah;rw[hr4]at w;clear ag;refine w.mono ?_;unfold rq;rintro e R ⟨A,rfl,V⟩;replace a:=G (a.out.grown A V);clear A V w;(try clear o);have o:=a.out.bk.cell;)|(go_at_call 66;have w:=au.out F gl af lo2 P _ az ar.length ay a.out.ck a.out.rl ah;rw[hr5]at w;clear au;refine w.mono ?_;unfold rq bw;rintro e R ⟨A,rfl⟩;have I:=G (a.out.gr.trans A);clear A w));exact⟨rfl,by rw[X.out];exact⟨I.out,rfl⟩⟩
       |ok lo3=>
        rw[hr5,fA]at z;go_wp2_with (first|(go_at_call 125;refine(fe F gl _ y _ a.out.ck nm ap).mono ?_;rw[hr1];unfold cL;rintro e R ⟨rfl,d⟩;replace a:=G (a.out.ext d);clear d;(try clear o);have o:=a.out.bk.cell;)|(go_at_call 126;refine(ao.out F gl _ y P _ ai ad.length c1 a.out.ck a.out.re).mono ?_;rw[hr2];unfold cL;rintro e R ⟨rfl,d⟩;replace a:=G (a.out.ext d);clear d;(try clear o);have o:=a.out.bk.cell;)|(go_at_call 66;have w:=ag.out F gl af y P _ av aj.length c2 a.out.ck a.out.rb ah;rw[hr4]at w;clear ag;refine w.mono ?_;unfold rq;rintro e R ⟨A,rfl,V⟩;replace a:=G (a.out.grown A V);clear A V w;(try clear o);have o:=a.out.bk.cell;)|(go_at_call 66;have w:=au.out F gl af lo2 P _ az ar.length ay a.out.ck a.out.rl ah;rw[hr5]at w;clear au;refine w.mono ?_;unfold rq;rintro e R ⟨A,rfl,V⟩;replace a:=G (a.out.grown A V);clear A V w;(try clear o);have o:=a.out.bk.cell;));go_roundw
        case rel=>exact⟨j+1,lo3,by go_num,by omega,G (z.symm.trans al.out),G a.out.gr,G a.out.ck⟩
        case measure=>simp[intOf];omega
   by_cases hk1:k=1
   ·subst hk1;rw[if_neg Qd,if_neg Qd,fA]at z
    cases hr2:p8 gl y ad with
    |error q=>
     obtain⟨H,m⟩:=q;rw[hr2,gN]at z;have X:=G (show an=.error (H,m)from al.out.symm.trans z);go_wp2_with (go_at_call 126;refine(ao.out F gl _ y P _ ai ad.length c1 a.out.ck a.out.re).mono ?_;rw[hr2];unfold cL bw;rintro e R ⟨rfl,d⟩;have I:=G (a.out.gr.trans (d.grownBy _));clear d);exact⟨rfl,by rw[X.out];exact⟨I.out,rfl⟩⟩
    |ok u=>
     rw[hr2,fA]at z;rw[if_pos rfl]at z
     cases hr3:gl.known y nm with
     |true=>
      rw[hr3,if_pos rfl,gN]at z;have X:=G (show an=.error (nm,9)from al.out.symm.trans z);go_wp2_with (first|(go_at_call 126;refine(ao.out F gl _ y P _ ai ad.length c1 a.out.ck a.out.re).mono ?_;rw[hr2];unfold cL;rintro e R ⟨rfl,d⟩;replace a:=G (a.out.ext d);clear d;(try clear o);have o:=a.out.bk.cell;)|(go_at_call 64;refine(eK F gl _ y _ a.out.ck nm ap).mono ?_;rw[hr3];rintro e R ⟨rfl,d⟩;replace a:=G (a.out.ext d);clear d;(try clear o);have o:=a.out.bk.cell;)|(go_at_call 65;refine(eJ nm 9 _).mono ?_;unfold bw;rintro e R ⟨rfl,d⟩;have I:=G (a.out.gr.trans (d.grownBy _));clear d));exact⟨rfl,by rw[X.out];exact⟨I.out,rfl⟩⟩
     |false=>
      rw[hr3,if_neg Qd,fA]at z;obtain⟨aI,aE⟩: ∃l,y.add nm=l:=⟨_,rfl⟩
      rw[aE]at z
      cases hr4:gV gl aI aj with
      |error q=>
       obtain⟨H,m⟩:=q;rw[hr4,gN]at z;have X:=G (show an=.error (H,m)from al.out.symm.trans z);go_wp2_with (first|(go_at_call 126;refine(ao.out F gl _ y P _ ai ad.length c1 a.out.ck a.out.re).mono ?_;rw[hr2];unfold cL;rintro e R ⟨rfl,d⟩;replace a:=G (a.out.ext d);clear d;(try clear o);have o:=a.out.bk.cell;)|(go_at_call 64;refine(eK F gl _ y _ a.out.ck nm ap).mono ?_;rw[hr3];rintro e R ⟨rfl,d⟩;replace a:=G (a.out.ext d);clear d;(try clear o);have o:=a.out.bk.cell;));refine aB 6 1 [] mixed Qb trivial ?_;repeat (refine sx ?_ (λa6 aC=> ?_) ?_;rotate_left;(focus have o:=(a.out.ext aC.un).bk.cell;have bf:=(a.out.ext aC.un).ck.blk.cell;clear aC;go_simp<;>with_reducible rfl);simp only[bE,bD,bC,bB,bA])
       intro a5 aG _;simp only[ae,aw];replace a:=G (a.out.ext aG.un);clear aG;(try clear o);go_wp2_with (at_mapUpdate;refine fi FR rfl _ _ _ rfl a.out.ml rfl Qj rfl _ rfl ?_;intro a4 aH aA;replace a:=G (a.out.grown aA (a.out.ck.add aH aA));clear aH aA;have o:=a.out.bk.cell);rw[aE]at a;go_wp2_with (go_at_call 66;have w:=ag.out F gl af aI P _ av aj.length c2 a.out.ck a.out.rb ah;rw[hr4]at w;clear ag;refine w.mono ?_;unfold rq bw;rintro e R ⟨A,rfl⟩;have I:=G (a.out.gr.trans A);clear A w);exact⟨rfl,by rw[X.out];exact⟨I.out,rfl⟩⟩
      |ok lo2=>
       rw[hr4,fA]at z
       cases hr5:gV gl lo2 ar with
       |error q=>
        obtain⟨H,m⟩:=q;rw[hr5,gN]at z;have X:=G (show an=.error (H,m)from al.out.symm.trans z);go_wp2_with (first|(go_at_call 126;refine(ao.out F gl _ y P _ ai ad.length c1 a.out.ck a.out.re).mono ?_;rw[hr2];unfold cL;rintro e R ⟨rfl,d⟩;replace a:=G (a.out.ext d);clear d;(try clear o);have o:=a.out.bk.cell;)|(go_at_call 64;refine(eK F gl _ y _ a.out.ck nm ap).mono ?_;rw[hr3];rintro e R ⟨rfl,d⟩;replace a:=G (a.out.ext d);clear d;(try clear o);have o:=a.out.bk.cell;));refine aB 6 1 [] mixed Qb trivial ?_;repeat (refine sx ?_ (λa6 aC=> ?_) ?_;rotate_left;(focus have o:=(a.out.ext aC.un).bk.cell;have bf:=(a.out.ext aC.un).ck.blk.cell;clear aC;go_simp<;>with_reducible rfl);simp only[bE,bD,bC,bB,bA])
        intro a5 aG _;simp only[ae,aw];replace a:=G (a.out.ext aG.un);clear aG;(try clear o);go_wp2_with (at_mapUpdate;refine fi FR rfl _ _ _ rfl a.out.ml rfl Qj rfl _ rfl ?_;intro a4 aH aA;replace a:=G (a.out.grown aA (a.out.ck.add aH aA));clear aH aA;have o:=a.out.bk.cell);rw[aE]at a;go_wp2_with (first|(go_at_call 66;have w:=ag.out F gl af aI P _ av aj.length c2 a.out.ck a.out.rb ah;rw[hr4]at w;clear ag;refine w.mono ?_;unfold rq;rintro e R ⟨A,rfl,V⟩;replace a:=G (a.out.grown A V);clear A V w;(try clear o);have o:=a.out.bk.cell;)|(go_at_call 66;have w:=au.out F gl af lo2 P _ az ar.length ay a.out.ck a.out.rl ah;rw[hr5]at w;clear au;refine w.mono ?_;unfold rq bw;rintro e R ⟨A,rfl⟩;have I:=G (a.out.gr.trans A);clear A w));exact⟨rfl,by rw[X.out];exact⟨I.out,rfl⟩⟩
       |ok lo3=>
        rw[hr5,fA]at z;go_wp2_with (first|(go_at_call 126;refine(ao.out F gl _ y P _ ai ad.length c1 a.out.ck a.out.re).mono ?_;rw[hr2];unfold cL;rintro e R ⟨rfl,d⟩;replace a:=G (a.out.ext d);clear d;(try clear o);have o:=a.out.bk.cell;)|(go_at_call 64;refine(eK F gl _ y _ a.out.ck nm ap).mono ?_;rw[hr3];rintro e R ⟨rfl,d⟩;replace a:=G (a.out.ext d);clear d;(try clear o);have o:=a.out.bk.cell;));refine aB 6 1 [] mixed Qb trivial ?_;repeat (refine sx ?_ (λa6 aC=> ?_) ?_;rotate_left;(focus have o:=(a.out.ext aC.un).bk.cell;have bf:=(a.out.ext aC.un).ck.blk.cell;clear aC;go_simp<;>with_reducible rfl);simp only[bE,bD,bC,bB,bA])
        intro a5 aG _;simp only[ae,aw];replace a:=G (a.out.ext aG.un);clear aG;(try clear o);go_wp2_with (at_mapUpdate;refine fi FR rfl _ _ _ rfl a.out.ml rfl Qj rfl _ rfl ?_;intro a4 aH aA;replace a:=G (a.out.grown aA (a.out.ck.add aH aA));clear aH aA;have o:=a.out.bk.cell);rw[aE]at a;go_wp2_with (first|(go_at_call 66;have w:=ag.out F gl af aI P _ av aj.length c2 a.out.ck a.out.rb ah;rw[hr4]at w;clear ag;refine w.mono ?_;unfold rq;rintro e R ⟨A,rfl,V⟩;replace a:=G (a.out.grown A V);clear A V w;(try clear o);have o:=a.out.bk.cell;)|(go_at_call 66;have w:=au.out F gl af lo2 P _ az ar.length ay a.out.ck a.out.rl ah;rw[hr5]at w;clear au;refine w.mono ?_;unfold rq;rintro e R ⟨A,rfl,V⟩;replace a:=G (a.out.grown A V);clear A V w;(try clear o);have o:=a.out.bk.cell;));go_roundw
        case rel=>exact⟨j+1,lo3,by go_num,by omega,G (z.symm.trans al.out),G a.out.gr,G a.out.ck⟩
        case measure=>simp[intOf];omega
   have bG:=Qn.2 hk2;have bF:=Qn.2 hk3;have bH:=Qn.2 hk1;rw[if_neg hk2,if_neg hk3,fA]at z
   cases hr2:p8 gl y ad with
   |error q=>
    obtain⟨H,m⟩:=q;rw[hr2,gN]at z;have X:=G (show an=.error (H,m)from al.out.symm.trans z);go_wp2_with (go_at_call 126;refine(ao.out F gl _ y P _ ai ad.length c1 a.out.ck a.out.re).mono ?_;rw[hr2];unfold cL bw;rintro e R ⟨rfl,d⟩;have I:=G (a.out.gr.trans (d.grownBy _));clear d);exact⟨rfl,by rw[X.out];exact⟨I.out,rfl⟩⟩
   |ok u=>
    rw[hr2,fA]at z;rw[if_neg (hk1),fA]at z;obtain⟨aI,aE⟩: ∃l,y=l:=⟨_,rfl⟩
    subst aE
    cases hr4:gV gl y aj with
    |error q=>
     obtain⟨H,m⟩:=q;rw[hr4,gN]at z;have X:=G (show an=.error (H,m)from al.out.symm.trans z);go_wp2_with (first|(go_at_call 126;refine(ao.out F gl _ y P _ ai ad.length c1 a.out.ck a.out.re).mono ?_;rw[hr2];unfold cL;rintro e R ⟨rfl,d⟩;replace a:=G (a.out.ext d);clear d;(try clear o);have o:=a.out.bk.cell;)|(go_at_call 66;have w:=ag.out F gl af y P _ av aj.length c2 a.out.ck a.out.rb ah;rw[hr4]at w;clear ag;refine w.mono ?_;unfold rq bw;rintro e R ⟨A,rfl⟩;have I:=G (a.out.gr.trans A);clear A w));exact⟨rfl,by rw[X.out];exact⟨I.out,rfl⟩⟩
    |ok lo2=>
     rw[hr4,fA]at z
     cases hr5:gV gl lo2 ar with
     |error q=>
      obtain⟨H,m⟩:=q;rw[hr5,gN]at z;have X:=G (show an=.error (H,m)from al.out.symm.trans z);go_wp2_with (first|(go_at_call 126;refine(ao.out F gl _ y P _ ai ad.length c1 a.out.ck a.out.re).mono ?_;rw[hr2];unfold cL;rintro e R ⟨rfl,d⟩;replace a:=G (a.out.ext d);clear d;(try clear o);have o:=a.out.bk.cell;)|(go_at_call 66;have w:=ag.out F gl af y P _ av aj.length c2 a.out.ck a.out.rb ah;rw[hr4]at w;clear ag;refine w.mono ?_;unfold rq;rintro e R ⟨A,rfl,V⟩;replace a:=G (a.out.grown A V);clear A V w;(try clear o);have o:=a.out.bk.cell;)|(go_at_call 66;have w:=au.out F gl af lo2 P _ az ar.length ay a.out.ck a.out.rl ah;rw[hr5]at w;clear au;refine w.mono ?_;unfold rq bw;rintro e R ⟨A,rfl⟩;have I:=G (a.out.gr.trans A);clear A w));exact⟨rfl,by rw[X.out];exact⟨I.out,rfl⟩⟩
     |ok lo3=>
      rw[hr5,fA]at z;go_wp2_with (first|(go_at_call 126;refine(ao.out F gl _ y P _ ai ad.length c1 a.out.ck a.out.re).mono ?_;rw[hr2];unfold cL;rintro e R ⟨rfl,d⟩;replace a:=G (a.out.ext d);clear d;(try clear o);have o:=a.out.bk.cell;)|(go_at_call 66;have w:=ag.out F gl af y P _ av aj.length c2 a.out.ck a.out.rb ah;rw[hr4]at w;clear ag;refine w.mono ?_;unfold rq;rintro e R ⟨A,rfl,V⟩;replace a:=G (a.out.grown A V);clear A V w;(try clear o);have o:=a.out.bk.cell;)|(go_at_call 66;have w:=au.out F gl af lo2 P _ az ar.length ay a.out.ck a.out.rl ah;rw[hr5]at w;clear au;refine w.mono ?_;unfold rq;rintro e R ⟨A,rfl,V⟩;replace a:=G (a.out.grown A V);clear A V w;(try clear o);have o:=a.out.bk.cell;));go_roundw
      case rel=>exact⟨j+1,lo3,by go_num,by omega,G (z.symm.trans al.out),G a.out.gr,G a.out.ck⟩
      case measure=>simp[intOf];omega
  ·have bp: ¬(j:Int)<N:=J
   have X:=G (show an=.ok y by
    have:=al.out;rw[aK (by have:=bh.out;omega),gV]at this
    exact this.symm)
   go_wp2_with fail;exact bodyPost_end (results_none rfl _ _ _) rfl (by rw[X.out];exact⟨a1.out,rfl,a3.out⟩)
theorem na: ∀(m:Nat) (xs:List St),eX xs<=m->eX xs<=1073741824->Fv xs
 |0,xs,h,hw=>qv xs (by have:=fx xs;omega) (λs a=>by have:=cM a;have:=s.wt_eq;omega) (λs a=>by have:=cM a;have:=s.wt_eq;omega) (λs a=>by have:=cM a;have:=s.wt_eq;omega)
 |m+1,xs,h,hw=>qv xs (by have:=fx xs;omega) (λs a=>by have:=cM a;have:=s.wt_eq;omega) (λs a=>wA s.ex (by have:=cM a;have:=s.wt_eq;omega))
   (λs a=>⟨na m s.body (by have:=cM a;have:=s.wt_eq;omega) (by have:=cM a;have:=s.wt_eq;omega),na m s.els (by have:=cM a;have:=s.wt_eq;omega) (by have:=cM a;have:=s.wt_eq;omega)⟩)
end
end Go.Proofs.YtoedmpgicdekmaaGreatDoor
