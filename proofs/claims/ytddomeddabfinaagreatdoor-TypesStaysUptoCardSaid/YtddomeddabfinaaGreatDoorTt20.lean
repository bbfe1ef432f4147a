/- Parts of the proof. -/
import Derived.Test.YtddomeddabfinaaGreatDoorTt00
import Derived.Test.YtddomeddabfinaaGreatDoorTt19
import Derived.Test.YtddomeddabfinaaGreatDoorTt10
set_option maxRecDepth 100000
set_option maxHeartbeats 8000000
set_option linter.unusedVariables false
set_option linter.unusedSimpArgs false
set_option linter.unusedSectionVars false
namespace Go.Proofs.YtddomeddabfinaaGreatDoor
open IntKind(i64)
open Go.Proofs.Tryz
section
open Go.RowKit
theorem nW (a:List UInt8) (i:Nat) (w:i<a.length) (h:World):(Instr.index 9 (.string (J a)) (.int i64 (i:Int))).run prog h=.ok (.int .u8 (a[i].toNat:Int)) h:=by
 have j:(J a)[i]? =some a[i]:=by
  have o:i<(J a).size:=by rw[bm];exact w
  rw[getElem?_pos (J a) i o];rfl
 simp[Instr.index,run_underlying underlying9,asIntOf,j]
def D8 (b:Bi):List UInt8:=match b with
 |none=>[]
 |some (_,a)=>a
theorem lZ (b:Bi) (i:Nat) (V:i<=1073741824) (R:(D8 b).length<=1073741824) (o:World):Calls prog 55 #[.string (J (D8 b)),.bool b.isSome,.int i64 (i:Int)] o λe w'=>e=.returned (.bool (lA b i))/\az o w':=by
 cases b with
 |none=>
  have j:=O (show lA none i=true from rfl);simp only[dq];go_enter func55,ntmps55;go_wp2_with fail;go_ret;exact⟨by rw[j.out];rfl,aS _⟩
 |some x=>
  obtain⟨c,a⟩:=x;have j:=O (show lA (some (c,a)) i=(decide (a.length<=i)||a.getD i 0==105)from rfl);simp only[D8,c8]at*;have M:=bm a;by_cases w:a.length<=i
  ·have G:(a.length:Int)<=i:=Qa
   go_enter func55,ntmps55;go_wp2_with fail;go_ret;exact⟨by rw[j.out,decide_eq_true w];rfl,aS _⟩
  ·have G: ¬(a.length:Int)<=i:=Qa
   have A:=λo=>nW a i Qa o;have z:a.getD i 0=a[i]' Qa:=by rw[ch,aO Qa];rfl
   have j:=O (show lA (some (c,a)) i=(a.getD i 0==105) by rw[j.out,decide_eq_false w];rfl);rw[<-z]at A;generalize a.getD i 0=q at*
   have K:=O (show((q.toNat:Int)==105)=(q==105) by
    by_cases e:q=105
    ·subst e;rfl
    ·have: ¬(q.toNat:Int)=105:=λw=>e (UInt8.toNat_inj.1 (by have:(105:UInt8).toNat=105:=rfl;omega))
     rw[Ql.2 this,Ql.2 e])
   clear z;go_enter func55,ntmps55;go_wp2_with fail;go_ret;exact⟨by rw[j.out,<-K.out];rfl,aS _⟩
theorem tL: ∀(l:List Ex) (m:Nat),m<=iG m l
 | [],m=>by rw[iG];exact ak _
 |y::r,m=>by rw[iG];have:=tL r (max m (dZ y));omega
theorem tN (lg:Bool): ∀(l:List Ex) (i m:Nat),m<=ge lg i m l
 | [],i,m=>by rw[ge];exact ak _
 |y::r,i,m=>by rw[ge];have:=tN lg r (i+1) (max m (if 0<i/\lg=false then dZ y+1 else dZ y));omega
theorem pU (b:Bi): ∀(l:List Ex) (i fr m:Nat),m<=gd b i fr m l
 | [],i,fr,m=>by rw[gd];exact ak _
 |y::r,i,fr,m=>by
  rw[gd];split
  ·have:=pU b r (i+1) (fr+1) (max m (fr+dZ y));omega
  ·exact pU b r (i+1) fr m
mutual
theorem jj: ∀x:Ex,dZ x<=x.wt
 | .mk k op nm tx v a=>by
  have o:=tK a 1;have j:=tM (vQ op) a 0 1;have h:=pT (fp nm) a 0 0 1;rw[dZ,Ex.wt];repeat' split
  all_goals omega
theorem tK: ∀(l:List Ex) (m:Nat),iG m l<=max m (gA l)
 | [],m=>by rw[iG];omega
 |y::r,m=>by
  rw[iG,gA];have:=tK r (max m (dZ y));have:=jj y;omega
theorem tM (lg:Bool): ∀(l:List Ex) (i m:Nat),ge lg i m l<=max m (gA l+1)
 | [],i,m=>by rw[ge];omega
 |y::r,i,m=>by
  rw[ge,gA];have o:=tM lg r (i+1) (max m (if 0<i/\lg=false then dZ y+1 else dZ y));have j:=jj y;have h:(if 0<i/\lg=false then dZ y+1 else dZ y)<=dZ y+1:=by split<;>omega
  have a:y.wt=1+y.op.length+y.nm.length+y.tx.length+gA y.args:=y.wt_eq;omega
theorem pT (b:Bi): ∀(l:List Ex) (i fr m:Nat),gd b i fr m l<=max m (fr+gA l)
 | [],i,fr,m=>by rw[gd];omega
 |y::r,i,fr,m=>by
  rw[gd,gA];have h:=jj y;have a:y.wt=1+y.op.length+y.nm.length+y.tx.length+gA y.args:=y.wt_eq;split
  ·have:=pT b r (i+1) (fr+1) (max m (fr+dZ y));omega
  ·have:=pT b r (i+1) fr m;omega
end
def Ec (x:Ex):Prop:= ∀(P:Nat->Prop) (w:World) (A:Option Addr) (n c:Nat),c7 w P (.slice A n c) x.args->BT w->
 Calls prog 26 #[.agg #[.int i64 x.k,.string (J x.op),.string (J x.nm),.string (J x.tx),.int i64 x.v,.slice A n c]] w λe w'=>e=.returned (.int i64 (dZ x:Int))/\az w w'
theorem vG {l:List Ex} {a m:Nat} (h:a<l.length):iG m (l.drop a)=iG (max m (dZ l[a])) (l.drop (a+1)):=by
 rw[aD h,iG]
theorem vI {lg:Bool} {l:List Ex} {i a m:Nat} (h:a<l.length):ge lg i m (l.drop a)=ge lg (i+1) (max m (if 0<i/\lg=false then dZ l[a]+1 else dZ l[a])) (l.drop (a+1)):=by
 rw[aD h,ge]
theorem vH {b:Bi} {l:List Ex} {i a fr m:Nat} (h:a<l.length):gd b i fr m (l.drop a)=if lA b i=true then gd b (i+1) (fr+1) (max m (fr+dZ l[a])) (l.drop (a+1))else gd b (i+1) fr m (l.drop (a+1)):=by
 rw[aD h,gd]
theorem Fg (k:Int) (ac:k=4\/k=6) (op nm tx:List UInt8) (v:Int) (xs:List Ex) (ab:(Ex.mk k op nm tx v xs).wt<=1073741824) (af: ∀y∈xs,Ec y):Ec (.mk k op nm tx v xs):=by
 intro P I aO n c M ad;have V:=O (show dZ (.mk k op nm tx v xs)=iG 1 xs by rw[dZ,if_pos ac]);have j:iG 1 xs<=1073741824:=by have:=jj (.mk k op nm tx v xs);rw[V.out]at this;omega
 have ax:=dH xs;rw[Ex.wt]at ab;simp only[Ex.k,Ex.op,Ex.nm,Ex.tx,Ex.v,Ex.args]at*;obtain⟨a4,a2,aw,aB⟩:=M.form;injection aw with av au ar;subst av au ar;have ao:=O M;have aM:=O af;have aE:=O ad;obtain⟨N,w⟩: ∃N,xs.length=N:=⟨_,rfl⟩
 have aU:N<=1073741824:=Qa
 have ap:=O w;rw[w]at ao;have aN:=O (Z I (.cells #[.int i64 k,.string (J op),.string (J nm),.string (J tx),.int i64 v,.slice aO N c] 70));obtain⟨R,G⟩: ∃aC,iG 1 xs=aC:=⟨_,rfl⟩
 rw[G]at j V;have aH:=O (show iG 1 (xs.drop 0)=R from G);clear M aB af ad ab G ax;rw[w];clear w;rcases ac with rfl|rfl;all_goals
  go_enter func26,ntmps26;go_wp2_with fail
  go_loopw [3,23] (λaq z wr=> ∃(a m:Nat),z=.int i64 (a:Int)/\aq=.int i64 (m:Int)/\a<=N/\Hid (iG m (xs.drop a)=R)/\Hid (az I wr)) (λ_ z _=>N-(intOf z).toNat)
  case atStart=>exact⟨0,1,rfl,rfl,aI _,aH,aN⟩
  case round=>
   obtain⟨a,m,rfl,rfl,aS,X,o⟩:=hrel;have aR:m<=1073741824:=by have:=tL (xs.drop a) m;rw[X.out]at this;omega
   by_cases hlt:a<N
   ·have aA:(a:Int)<N:=Qa
    have A:a<xs.length:=by have:=ap.out;omega
    obtain⟨b,aQ,a3,rfl,j,aT,an,al,ak,aj,ai,ah,K⟩:=ao.out.at_ a A;have aF:=O (vG (m:=m) A);have ae:=aM.out _ (ay A);generalize xs[a]=y at*;have a1:=(o.out.cell b _ j).trans an;have aZ:=(o.out.cell b _ j).trans al;have aY:=(o.out.cell b _ j).trans ak;have aX:=(o.out.cell b _ j).trans aj;have aW:=(o.out.cell b _ j).trans ai;have aV:=(o.out.cell b _ j).trans ah;obtain⟨B,d,rfl,_⟩:=K.form;have aG:=O (K.keep (.of_ext o.out) (Q:=P) (λb j _=>j));have aK:=O ae;clear an al ak aj ai ah K ae;go_wp2_with (go_at_call 26;refine(aK.out P _ B _ d (aG.out.keep (.of_ext (Z _ _)) (λb j _=>j)) ((aE.out.ext o.out).ext (Z _ _))).mono ?_;rintro e aP ⟨rfl,ag⟩;have aD:=O ((o.out.alloc' _).trans ag);clear ag);go_roundw
    case rel=>exact⟨a+1,max m (dZ y),by go_num,by congr 1;omega,by omega,O (aF.out.symm.trans X.out),aD⟩
    case measure=>simp[intOf];omega
   ·have aA: ¬(a:Int)<N:=Qa
    have aJ:=O (show m=R by
     have:=X.out;rw[aL (by have:=ap.out;omega),iG]at this
     exact this)
    go_wp2_with fail;go_ret;exact⟨by rw[V.out,<-aJ.out];rfl,o.out⟩
theorem Ff (op nm tx:List UInt8) (v:Int) (xs:List Ex) (ao:(Ex.mk 7 op nm tx v xs).wt<=1073741824) (ar: ∀y∈xs,Ec y):Ec (.mk 7 op nm tx v xs):=by
 intro P M ak n c ae ap;have ah:=O (show dZ (.mk 7 op nm tx v xs)=ge (vQ op) 0 1 xs by rw[dZ,if_neg Qc,if_pos rfl]);have j:ge (vQ op) 0 1 xs<=1073741824:=by have:=jj (.mk 7 op nm tx v xs);rw[ah.out]at this;omega
 have aQ:=dH xs;rw[Ex.wt]at ao;have ba:gA xs<=1073741823:=Qa
 simp only[Ex.k,Ex.op,Ex.nm,Ex.tx,Ex.v,Ex.args]at*;obtain⟨bj,bh,aP,aS⟩:=ae.form;injection aP with aO aN aM;subst aO aN aM;have aD:=O ae;have a4:=O ar;have aB:=O ap;obtain⟨N,V⟩: ∃N,xs.length=N:=⟨_,rfl⟩
 have bg:N<=1073741824:=Qa
 have aF:=O V;rw[V]at aD;have a5:=O (Z M (.cells #[.int i64 7,.string (J op),.string (J nm),.string (J tx),.int i64 v,.slice ak N c] 70));have a6:=O (aw M 70 #[.int i64 7,.string (J op),.string (J nm),.string (J tx),.int i64 v,.slice ak N c]);obtain⟨af,ac⟩: ∃a2,ge (vQ op) 0 1 xs=a2:=⟨_,rfl⟩
 rw[ac]at j ah;have aE:=O (show ge (vQ op) 0 1 (xs.drop 0)=af from ac);clear ae aS ar ap ao ac aQ;rw[V];clear V;obtain⟨lg,ab⟩: ∃b,vQ op=b:=⟨_,rfl⟩
 rw[ab]at aE;have aj:=O (show(op==[38,38]||op==[124,124])=lg from ab);clear ab
 cases G:(op==[38,38])<;>cases A:(op==[124,124]);all_goals
  rw[G,A]at aj;have ai:=O aj.out.symm;simp only[Bool.or_true,mI,Bool.true_or,j9]at ai;have an:=congrArg (!·) G;have al:=congrArg (!·) A;change(op !=[38,38])=_ at an;change(op !=[124,124])=_ at al;simp only[Bool.not_true,Bool.not_false]at an al;clear aj;go_enter func26,ntmps26;go_wp2_with fail
  go_loopw [3,37] (λaK I wr=> ∃(a m:Nat),I=.int i64 (a:Int)/\aK=.int i64 (m:Int)/\a<=N/\Hid (ge lg a m (xs.drop a)=af)/\Hid (az M wr)/\Hid (aU wr M.heap.size 70 #[.int i64 7,.string (J op),.string (J nm),.string (J tx),.int i64 v,.slice ak N c])) (λ_ I _=>N-(intOf I).toNat)
  case atStart=>exact⟨0,1,rfl,rfl,aI _,aE,a5,a6⟩
  case round=>
   obtain⟨a,m,rfl,rfl,be,K,o,aH⟩:=hrel;have bc:m<=1073741824:=by have:=tN lg (xs.drop a) a m;rw[K.out]at this;omega
   by_cases hlt:a<N
   ·have aR:(a:Int)<N:=Qa
    have R:a<xs.length:=by have:=aF.out;omega
    obtain⟨b,a7,bi,rfl,j,bf,aA,G,A,ax,av,au,ad⟩:=aD.out.at_ a R;have ag:=O (vI (lg:=lg) (i:=a) (m:=m) R);have a9:=jj xs[a];have a8:=dG (ay R);have aq:=a4.out _ (ay R);generalize xs[a]=y at*;have a1:=(o.out.cell b _ j).trans aA;have aZ:=(o.out.cell b _ j).trans G;have aY:=(o.out.cell b _ j).trans A;have aX:=(o.out.cell b _ j).trans ax;have aW:=(o.out.cell b _ j).trans av;have aV:=(o.out.cell b _ j).trans au;obtain⟨B,d,rfl,_⟩:=ad.form;have aC:=O (ad.keep (.of_ext o.out) (Q:=P) (λb j _=>j));have aG:=O aq;clear aA G A ax av au ad aq;have bb:dZ y<=1073741823:=Qa
    by_cases hj0:a=0
    ·subst hj0;simp only[bp,bE]at a1 aZ aY aX aW aV;go_wp2_with (go_at_call 26;refine(aG.out P _ B _ d (aC.out.keep (.of_ext (Z _ _)) (λb j _=>j)) ((aB.out.ext o.out).ext (Z _ _))).mono ?_;rintro e aJ ⟨rfl,w⟩;have X:=O ((o.out.alloc' _).trans w);have z:=O ((aH.out.ext (Z _ _)).ext w);have aT:=z.out.cell;clear w);go_roundw
     case rel=>exact⟨1,max m (dZ y),by go_num,by congr 1;omega,by omega,O ((by rw[ag.out,if_neg Qd]:ge lg 0 m (xs.drop 0)=ge lg 1 (max m (dZ y)) (xs.drop 1)).symm.trans K.out),X,z⟩
     case measure=>simp[intOf];omega
    ·have bd:(0:Int)<a:=Qa
     go_wp2_with (go_at_call 26;refine(aG.out P _ B _ d (aC.out.keep (.of_ext (Z _ _)) (λb j _=>j)) ((aB.out.ext o.out).ext (Z _ _))).mono ?_;rintro e aJ ⟨rfl,w⟩;have X:=O ((o.out.alloc' _).trans w);have z:=O ((aH.out.ext (Z _ _)).ext w);have aT:=z.out.cell;clear w);go_roundw
     case rel=>first|exact⟨a+1,max m (dZ y+1),by go_num,by congr 1;omega,by omega,O ((by rw[ag.out,if_pos ⟨by omega,ai.out⟩]:ge lg a m (xs.drop a)=ge lg (a+1) (max m (dZ y+1)) (xs.drop (a+1))).symm.trans K.out),X,z⟩|exact⟨a+1,max m (dZ y),by go_num,by congr 1;omega,by omega,O ((by rw[ag.out,if_neg (by rw[ai.out];simp)]:ge lg a m (xs.drop a)=ge lg (a+1) (max m (dZ y)) (xs.drop (a+1))).symm.trans K.out),X,z⟩
     case measure=>simp[intOf];omega
   ·have aR: ¬(a:Int)<N:=Qa
    have a3:=O (show m=af by
     have:=K.out;rw[aL (by have:=aF.out;omega),ge]at this
     exact this)
    go_wp2_with fail;go_ret;exact⟨by rw[ah.out,<-a3.out];rfl,o.out⟩
end
section
open Go.RowKit
def Il (b:Bi):Int:=match b with
 |none=>0
 |some (c,_)=>c
theorem BU (s:List UInt8) (a:World) (o:BT a):Calls prog 22 #[.string (J s)] a λe w'=>e=.returned (.tuple #[.int i64 (Il (fp s)),.string (J (D8 (fp s))),.bool (fp s).isSome])/\az a w':=by
 refine(mC s a o).mono λe w' ⟨h,j⟩=>⟨?_,j⟩
 rw[h]
 cases fp s<;>rfl
theorem Fz: ∀x∈rC,x.2.2.length<=3:=Qc
theorem sM (s:List UInt8):(D8 (fp s)).length<=3:=by
 cases h:fp s with
 |none=>simp[D8]
 |some x=>
  unfold fp at h;rw[fN]at h;obtain⟨y,a,rfl⟩:=h;exact Fz y (cr a)
theorem Fe (op nm tx:List UInt8) (v:Int) (xs:List Ex) (ai:(Ex.mk 5 op nm tx v xs).wt<=1073741824) (ak: ∀y∈xs,Ec y):Ec (.mk 5 op nm tx v xs):=by
 intro P X aB n c ae ab;have ah:=O (show dZ (.mk 5 op nm tx v xs)=gd (fp nm) 0 0 1 xs by rw[dZ,if_neg Qc,if_neg Qc,if_pos rfl]);have j:gd (fp nm) 0 0 1 xs<=1073741824:=by have:=jj (.mk 5 op nm tx v xs);rw[ah.out]at this;omega
 have aN:=dH xs;rw[Ex.wt]at ai;have bb:gA xs<=1073741823:=Qa
 have aR:=sM nm;simp only[Ex.k,Ex.op,Ex.nm,Ex.tx,Ex.v,Ex.args]at*;obtain⟨bt,bp,aM,aQ⟩:=ae.form;injection aM with aK aJ aH;subst aK aJ aH;have av:=O ae;have a3:=O ak;have aW:=O ab;obtain⟨N,K⟩: ∃N,xs.length=N:=⟨_,rfl⟩
 have bh:N<=1073741823:=Qa
 have ax:=O K;rw[K]at av;have af:=Z X (.cells #[.int i64 5,.string (J op),.string (J nm),.string (J tx),.int i64 v,.slice aB N c] 70);have a5:=O af;have a7:=O (aw X 70 #[.int i64 5,.string (J op),.string (J nm),.string (J tx),.int i64 v,.slice aB N c]);have aA:=O (BU nm _ (ab.ext af));have a2:=O (fun(i:Nat) (aP:i<=1073741824) (W:World)=>lZ (fp nm) i aP Qa W);generalize fp nm=w at*;generalize D8 w=ls at*;generalize Il w=bq at*;generalize w.isSome=bs at*;obtain⟨ag,ac⟩: ∃aT,gd w 0 0 1 xs=aT:=⟨_,rfl⟩
 rw[ac]at j ah;have aY:=O (show gd w 0 0 1 (xs.drop 0)=ag from ac);clear ae aQ ak ab ai ac aN af aR;rw[K];clear K;go_enter func26,ntmps26;go_wp2_with (go_at_call 22;refine aA.out.mono ?_;rintro e a9 ⟨rfl,o⟩;have aV:=O (a5.out.trans o);have bi:=(a7.out.ext o).cell;clear o aA)
 go_loopw [3,12,74] (λaD aE I wr=> ∃(a m fr:Nat),I=.int i64 (a:Int)/\aD=.int i64 (m:Int)/\aE=.int i64 (fr:Int)/\a<=N/\fr<=a/\Hid (gd w a fr m (xs.drop a)=ag)/\Hid (az X wr)) (λ_ _ I _=>N-(intOf I).toNat)
 case atStart=>exact⟨0,1,0,rfl,rfl,rfl,aI _,aI _,aY,aV⟩
 case round=>
  obtain⟨a,m,fr,rfl,rfl,rfl,be,bf,V,z⟩:=hrel;have bd:m<=1073741824:=by have:=pU w (xs.drop a) a fr m;rw[V.out]at this;omega
  by_cases hlt:a<N
  ·have aO:(a:Int)<N:=Qa
   have G:a<xs.length:=by have:=ax.out;omega
   obtain⟨b,ba,br,rfl,j,bg,ar,aq,ap,ao,an,al,ad⟩:=av.out.at_ a G;have R:=O (vH (b:=w) (i:=a) (fr:=fr) (m:=m) G);have aG:=jj xs[a];have aF:=dG (ay G);have aj:=a3.out _ (ay G);generalize xs[a]=y at*;have A:=O (a2.out a Qa);have bo:=(z.out.cell b _ j).trans ar;have bn:=(z.out.cell b _ j).trans aq;have bm:=(z.out.cell b _ j).trans ap;have bl:=(z.out.cell b _ j).trans ao;have bk:=(z.out.cell b _ j).trans an;have bj:=(z.out.cell b _ j).trans al;obtain⟨B,d,rfl,_⟩:=ad.form;have aX:=O (ad.keep (.of_ext z.out) (Q:=P) (λb j _=>j));have a1:=O aj;have bc:dZ y<=1073741823:=Qa
   have a6:=O (aw wr 70 #[.int i64 y.k,.string (J y.op),.string (J y.nm),.string (J y.tx),.int i64 y.v,.slice B y.args.length d]);have au:=O (z.out.alloc' (.cells #[.int i64 y.k,.string (J y.op),.string (J y.nm),.string (J y.tx),.int i64 y.v,.slice B y.args.length d] 70));clear ar aq ap ao an al ad aj aG aF
   cases hia:lA w a with
   |true=>
    rw[hia]at R A;go_wp2_with (first|(go_at_call 55;refine(A.out _).mono ?_;rintro e aC ⟨rfl,o⟩;have M:=O (au.out.trans o);have a4:=O o;have aS:=(a6.out.ext o).cell;clear o A)|(go_at_call 26;refine(a1.out P _ B _ d ((aX.out.keep (.of_ext (Z _ _)) (λb j _=>j)).keep (.of_ext a4.out) (λb j _=>j)) (aW.out.ext M.out)).mono ?_;rintro e a8 ⟨rfl,o⟩;have aU:=O (M.out.trans o);clear o aS));go_roundw
    case rel=>exact⟨a+1,max m (fr+dZ y),fr+1,by go_num,by congr 1;omega,by go_num,by omega,by omega,O ((by rw[R.out,if_pos trivial]:gd w a fr m (xs.drop a)=gd w (a+1) (fr+1) (max m (fr+dZ y)) (xs.drop (a+1))).symm.trans V.out),aU⟩
    case measure=>simp[intOf];omega
   |false=>
    rw[hia]at R A;go_wp2_with (go_at_call 55;refine(A.out _).mono ?_;rintro e aC ⟨rfl,o⟩;have M:=O (au.out.trans o);clear o A);go_roundw
    case rel=>exact⟨a+1,m,fr,by go_num,rfl,rfl,by omega,by omega,O ((by rw[R.out,if_neg Qd]:gd w a fr m (xs.drop a)=gd w (a+1) fr m (xs.drop (a+1))).symm.trans V.out),M⟩
    case measure=>simp[intOf];omega
  ·have aO: ¬(a:Int)<N:=Qa
   have aZ:=O (show m=ag by
    have:=V.out;rw[aL (by have:=ax.out;omega),gd]at this
    exact this)
   go_wp2_with fail;go_ret;exact⟨by rw[ah.out,<-aZ.out];rfl,z.out⟩
theorem Fd (k:Int) (G:(k==4)=false) (z:(k==6)=false) (w:(k==7)=false) (A:(k==5)=false) (op nm tx:List UInt8) (v:Int) (xs:List Ex):Ec (.mk k op nm tx v xs):=by
 intro P a R n c o j
 have K:=O (show dZ (.mk k op nm tx v xs)=1 by
  rw[dZ,if_neg (by simp only[Ql]at G z;omega),if_neg (by simpa using w),if_neg (by simpa using A)])
 have M:=O (Z a (.cells #[.int i64 k,.string (J op),.string (J nm),.string (J tx),.int i64 v,.slice R n c] 70));simp only[Ex.k,Ex.op,Ex.nm,Ex.tx,Ex.v,Ex.args]at*;clear o j;go_enter func26,ntmps26;go_wp2_with fail;go_ret;exact⟨by rw[K.out];rfl,M.out⟩
theorem qK: ∀(m:Nat) (x:Ex),x.wt<=m->x.wt<=1073741824->Ec x
 |0,x,h,_=>absurd h (by have:=x.wt_eq;omega)
 |m+1,.mk k op nm tx v xs,h,hw=>by
  have a: ∀y∈xs,Ec y:=λy j=>qK m y (by have:=dG j;rw[Ex.wt]at h;omega) (by have:=dG j;rw[Ex.wt]at hw;omega);by_cases h46:k=4\/k=6
  ·exact Fg k h46 op nm tx v xs hw a
  by_cases h7:k=7
  ·subst h7;exact Ff op nm tx v xs hw a
  by_cases h5:k=5
  ·subst h5;exact Fe op nm tx v xs hw a
  exact Fd k (Ql.2 Qa) (Ql.2 Qa) (Ql.2 h7) (Ql.2 h5) op nm tx v xs
def FZ (x:Ex):Prop:= ∀(X:CB) (gl:Gl) (lv:Value) (lo:Ls) (P:Nat->Prop) (w:World) (A:Option Addr) (n c:Nat),CK X gl lv lo w->c7 w P (.slice A n c) x.args->
 Calls prog 156 #[X.p,.agg #[.int i64 x.k,.string (J x.op),.string (J x.nm),.string (J x.tx),.int i64 x.v,.slice A n c]] w λe w'=>e=cu (oM gl lo x)/\az w w'
def Ef (xs:List Ex):Prop:= ∀(X:CB) (gl:Gl) (lv:Value) (lo:Ls) (P:Nat->Prop) (w:World) (A:Option Addr) (n c:Nat),CK X gl lv lo w->c7 w P (.slice A n c) xs->
 Calls prog 121 #[X.p,.slice A n c] w λe w'=>e=cu (oL gl lo xs)/\az w w'
theorem BI {gl:Gl} {lo:Ls} {l:List Ex} {a:Nat} (h:a<l.length):oL gl lo (l.drop a)=CR.then (oM gl lo l[a]) λ_=>oL gl lo (l.drop (a+1)):=by
 rw[aD h,oL]
theorem ro (xs:List Ex) (aF:xs.length<=1073741824) (ai: ∀y∈xs,FZ y):Ef xs:=by
 intro I gl ax lo P ae a5 n c ag X;obtain⟨a4,a1,aD,aG⟩:=X.form;injection aD with aC aB aA;subst aC aB aA;have au:=O X;have aO:=O ai;have aN:=O ag;obtain⟨N,G⟩: ∃N,xs.length=N:=⟨_,rfl⟩
 have av:=O G;rw[G]at au aF;obtain⟨K,A⟩: ∃aK,oL gl lo xs=aK:=⟨_,rfl⟩
 have a3:=O A;have aM:=O (show oL gl lo (xs.drop 0)=K from A);have aP:=O (aS ae);obtain⟨aJ,af⟩: ∃p,I.p=p:=⟨_,rfl⟩
 have aH:aJ=.pointer (some ⟨I.g,0,none⟩):=af.symm;clear X aG ai ag;rw[G,A];clear G A;subst aH;simp only[CB.p]at*;clear af;go_enter func121,ntmps121;go_wp2_with fail
 go_loopw [8] (λM wr=> ∃(a:Nat),M=.int i64 (a:Int)/\a<=N/\Hid (oL gl lo (xs.drop a)=K)/\Hid (az ae wr)) (λM _=>N-(intOf M).toNat)
 case atStart=>exact⟨0,rfl,aI _,aM,aP⟩
 case round=>
  obtain⟨a,rfl,aR,ac,o⟩:=hrel;by_cases hlt:a<N
  ·have aE:(a:Int)<N:=Qa
   have R:a<xs.length:=by have:=av.out;omega
   obtain⟨b,aQ,a2,rfl,j,aT,ap,ao,an,al,ak,aj,V⟩:=au.out.at_ a R;have ar:=O (BI (gl:=gl) (lo:=lo) R);have ah:=aO.out _ (ay R);generalize xs[a]=y at*;have aZ:=(o.out.cell b _ j).trans ap;have aY:=(o.out.cell b _ j).trans ao;have aX:=(o.out.cell b _ j).trans an;have aW:=(o.out.cell b _ j).trans al;have aV:=(o.out.cell b _ j).trans ak;have aU:=(o.out.cell b _ j).trans aj;obtain⟨B,d,rfl,_⟩:=V.form;have z:=O (ah I gl ax lo P _ B _ d ((aN.out.ext o.out).ext (Z _ (.cells #[.int i64 y.k,.string (J y.op),.string (J y.nm),.string (J y.tx),.int i64 y.v,.slice B y.args.length d] 70))) ((V.keep (.of_ext o.out) (Q:=P) (λb j _=>j)).keep (.of_ext (Z _ _)) (λb j _=>j)));have aq:=O (o.out.alloc' (.cells #[.int i64 y.k,.string (J y.op),.string (J y.nm),.string (J y.tx),.int i64 y.v,.slice B y.args.length d] 70));clear ap ao an al ak aj V ah;generalize oM gl lo y=r at*;simp only[CB.p]at z
   cases r with
   |ok u=>
    go_wp2_with (go_at_call 156;refine z.out.mono ?_;unfold cu;rintro e aw ⟨rfl,w⟩;have ab:=O (aq.out.trans w);clear w z);go_roundw
    case rel=>exact⟨a+1,by go_num,by omega,O (ar.out.symm.trans ac.out),ab⟩
    case measure=>simp[intOf];omega
   |error q=>
    obtain⟨nm,n⟩:=q;have ad:=O (show K=.error (nm,n)from ac.out.symm.trans ar.out);go_wp2_with (go_at_call 156;refine z.out.mono ?_;unfold cu bq;rintro e aw ⟨rfl,w⟩;have ab:=O (aq.out.trans w);clear w z);exact⟨rfl,by rw[ad.out];rfl,ab.out⟩
  ·have aE: ¬(a:Int)<N:=Qa
   have ad:=O (show K=.ok () by
    have:=ac.out;rw[aL (by have:=av.out;omega),oL]at this
    exact this.symm)
   go_wp2_with fail;exact bodyPost_end (results_none rfl _ _ _) rfl ⟨by rw[ad.out];rfl,o.out⟩
end
end Go.Proofs.YtddomeddabfinaaGreatDoor
