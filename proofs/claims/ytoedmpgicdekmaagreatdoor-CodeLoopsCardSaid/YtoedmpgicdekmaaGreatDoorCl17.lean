/- Parts of the proof. -/
import Derived.Test.YtoedmpgicdekmaaGreatDoorCl16
set_option maxRecDepth 100000
set_option maxHeartbeats 8000000
set_option linter.all false
namespace Go.Proofs.YtoedmpgicdekmaaGreatDoor
open Value renaming int->Zr,slice->Zs,string->Zt,bool->Zv,tuple->Zx
open Go.Proofs.Tryz
section
open Go.RowKit
theorem lX (a:Zy) (i:Nat) (o:i<a.length) (w:World):(Instr.index 9 (Zt (ak a)) (Zr .i64 (i:Int))).run prog w= .ok (Zr .u8 (a[i].toNat:Int)) w:=by
 have d:(ak a)[i]? =some a[i]:=by
  have h:i<(ak a).size:=by rw[a7];exact o
  rw[getElem?_pos (ak a) i h];rfl
 simp[Instr.index,run_underlying underlying9,asIntOf,d]
def EQ (b:Bi):Zy:=match b with
 |none=>[]
 |some (_,a)=>a
theorem lL (b:Bi) (i:Nat) (I:i<=1073741824) (H:(EQ b).length<=1073741824) (w:World):Calls prog 177 #[Zt (ak (EQ b)),Zv b.isSome,Zr .i64 (i:Int)] w λe w'=>e= .returned (Zv (nF b i))/\au w w':=by
 cases b with
 |none=>
  have d:=G (show nF none i=true from rfl);simp only[dQ];go_enter func177,ntmps177;go_wp2_with fail;go_ret;exact⟨by rw[d.o];rfl,aG _⟩
 |some x=>
  obtain⟨c,a⟩:=x;have d:=G (show nF (some (c,a)) i=(decide (a.length<=i)||a.getD i 0==105)from rfl);simp only[EQ,dC]at*;have F:=a7 a;by_cases o:a.length<=i
  ·have z:(a.length:Int)<=i:=Qa
   go_enter func177,ntmps177;go_wp2_with fail;go_ret;exact⟨by rw[d.o,decide_eq_true o];rfl,aG _⟩
  ·have z: ¬(a.length:Int)<=i:=Qa
   have y:=λw=>lX a i Qa w;have u:a.getD i 0=a[i]' Qa:=by rw[bP,aI Qa];rfl
   have d:=G (show nF (some (c,a)) i=(a.getD i 0==105) by rw[d.o,decide_eq_false o];rfl);rw[<-u]at y;generalize a.getD i 0=q at*
   have A:=G (show((q.toNat:Int)==105)=(q==105) by
    by_cases e:q=105
    ·subst e;rfl
    ·have: ¬(q.toNat:Int)=105:=λo=>e (UInt8.toNat_inj.1 (by have:(105:UInt8).toNat=105:=rfl;omega))
     rw[Qn.2 this,Qn.2 e])
   clear u;go_enter func177,ntmps177;go_wp2_with fail;go_ret;exact⟨by rw[d.o,<-A.o];rfl,aG _⟩
theorem uq: ∀(l:List Ex) (m:Nat),m<=iH m l
 | [],m=>by rw[iH];exact ah _
 |y::r,m=>by rw[iH];have:=uq r (max m (eh y));omega
theorem ut (lg:Bool): ∀(l:List Ex) (i m:Nat),m<=f6 lg i m l
 | [],i,m=>by rw[f6];exact ah _
 |y::r,i,m=>by rw[f6];have:=ut lg r (i+1) (max m (if 0<i/\lg=false then eh y+1 else eh y));omega
theorem qj (b:Bi): ∀(l:List Ex) (i fr m:Nat),m<=fZ b i fr m l
 | [],i,fr,m=>by rw[fZ];exact ah _
 |y::r,i,fr,m=>by
  rw[fZ];split
  ·have:=qj b r (i+1) (fr+1) (max m (fr+eh y));omega
  ·exact qj b r (i+1) fr m
mutual
theorem jg: ∀x:Ex,eh x<=x.wt
 | .mk k op nm tx v a=>by
  have o:=up a 1;have h:=ur (wC op) a 0 1;have d:=qi (gh nm) a 0 0 1;rw[eh,Ex.wt];repeat' split
  all_goals omega
theorem up: ∀(l:List Ex) (m:Nat),iH m l<=max m (gD l)
 | [],m=>by rw[iH];omega
 |y::r,m=>by
  rw[iH,gD];have:=up r (max m (eh y));have:=jg y;omega
theorem ur (lg:Bool): ∀(l:List Ex) (i m:Nat),f6 lg i m l<=max m (gD l+1)
 | [],i,m=>by rw[f6];omega
 |y::r,i,m=>by
  rw[f6,gD];have o:=ur lg r (i+1) (max m (if 0<i/\lg=false then eh y+1 else eh y));have h:=jg y;have d:(if 0<i/\lg=false then eh y+1 else eh y)<=eh y+1:=by split<;>omega
  have a:y.wt=1+y.op.length+y.nm.length+y.tx.length+gD y.args:=y.wt_eq;omega
theorem qi (b:Bi): ∀(l:List Ex) (i fr m:Nat),fZ b i fr m l<=max m (fr+gD l)
 | [],i,fr,m=>by rw[fZ];omega
 |y::r,i,fr,m=>by
  rw[fZ,gD];have d:=jg y;have a:y.wt=1+y.op.length+y.nm.length+y.tx.length+gD y.args:=y.wt_eq;split
  ·have:=qi b r (i+1) (fr+1) (max m (fr+eh y));omega
  ·have:=qi b r (i+1) fr m;omega
end
def EW (x:Ex):Prop:= ∀(P:Nat->Prop) (w:World) (A:Option Addr) (n c:Nat),dL w P (Zs A n c) x.args->BT w->
 Calls prog 127 #[.agg #[Zr .i64 x.k,Zt (ak x.op),Zt (ak x.nm),Zt (ak x.tx),Zr .i64 x.v,Zs A n c]] w λe w'=>e= .returned (Zr .i64 (eh x:Int))/\au w w'
theorem wk {l:List Ex} {j m:Nat} (a:j<l.length):iH m (l.drop j)=iH (max m (eh l[j])) (l.drop (j+1)):=by
 rw[ap a,iH]
theorem wm {lg:Bool} {l:List Ex} {i j m:Nat} (a:j<l.length):f6 lg i m (l.drop j)=f6 lg (i+1) (max m (if 0<i/\lg=false then eh l[j]+1 else eh l[j])) (l.drop (j+1)):=by
 rw[ap a,f6]
theorem wl {b:Bi} {l:List Ex} {i j fr m:Nat} (a:j<l.length):fZ b i fr m (l.drop j)=if nF b i=true then fZ b (i+1) (fr+1) (max m (fr+eh l[j])) (l.drop (j+1))else fZ b (i+1) fr m (l.drop (j+1)):=by
 rw[ap a,fZ]
theorem F1 (k:Int) (R:k=4\/k=6) (op nm tx:Zy) (v:Int) (xs:List Ex) (M:(Ex.mk k op nm tx v xs).wt<=1073741824) (ab: ∀u∈xs,EW u):EW (.mk k op nm tx v xs):=by
 intro P w aL n c H V;have J:=G (show eh (.mk k op nm tx v xs)=iH 1 xs by rw[eh,if_pos R]);have a:iH 1 xs<=1073741824:=by have:=jg (.mk k op nm tx v xs);rw[J.o]at this;omega
 have ar:=eg xs;rw[Ex.wt]at M;simp only[Ex.k,Ex.op,Ex.nm,Ex.tx,Ex.v,Ex.args]at*;obtain⟨aY,c',aq,aw⟩:=H.form;injection aq with ap ao an;subst ap ao an;obtain⟨aj,aI,aB⟩:=Zg H ab V;obtain⟨N,o⟩: ∃N,xs.length=N:=⟨_,rfl⟩
 have aR:N<=1073741824:=Qa
 have al:=G o;rw[o]at aj;have aJ:=G (aa w (.cells #[Zr .i64 k,Zt (ak op),Zt (ak nm),Zt (ak tx),Zr .i64 v,Zs aL N c] 206));obtain⟨I,A⟩: ∃az,iH 1 xs=az:=⟨_,rfl⟩
 rw[A]at a J;have aF:=G (show iH 1 (xs.drop 0)=I from A);clear H aw ab V M A ar;rw[o];clear o;rcases R with rfl|rfl;all_goals
  go_enter func127,ntmps127;go_wp2_with fail
  go_loopw [3,23] (λam y wr=> ∃(j m:Nat),y=Zr .i64 (j:Int)/\am=Zr .i64 (m:Int)/\j<=N/\Hid (iH m (xs.drop j)=I)/\Hid (au w wr)) (λ_ y _=>N-(intOf y).toNat)
  case atStart=>exact⟨0,1,rfl,rfl,aD _,aF,aJ⟩
  case round=>
   obtain⟨j,m,rfl,rfl,aP,K,d⟩:=hrel;have aO:m<=1073741824:=by have:=uq (xs.drop j) m;rw[K.o]at this;omega
   by_cases hlt:j<N
   ·have av:(j:Int)<N:=Qa
    have z:j<xs.length:=by have:=al.o;omega
    obtain⟨b,aN,aX,rfl,a,aQ,ai,ah,ag,af,ae,ad,F⟩:=aj.o.at_ j z;have aC:=G (wk (m:=m) z);have Z:=aI.o _ (ay z);generalize xs[j]=u at*;obtain⟨e0,aW,aV,aU,aT,aS⟩:=Zp ((d.o.cell b _ a).trans ai) ((d.o.cell b _ a).trans ah) ((d.o.cell b _ a).trans ag) ((d.o.cell b _ a).trans af) ((d.o.cell b _ a).trans ae) ((d.o.cell b _ a).trans ad);obtain⟨B,ax,rfl,_⟩:=F.form;obtain⟨aE,aH⟩:=Zf (F.keep (.of_ext d.o) (Q:=P) (λb a _=>a)) Z;clear ai ah ag af ae ad F Z;go_wp2_with (go_at_call 127;refine(aH.o P _ B _ ax (aE.o.keep (.of_ext (aa _ _)) (λb a _=>a)) ((aB.o.ext d).ext (aa _ _))).mono ?_;rintro e aM ⟨rfl,ac⟩;have aA:=G ((d.o.alloc' _).trans ac);clear ac);go_roundw
    case rel=>exact⟨j+1,max m (eh u),by go_num,by congr 1;omega,by omega,G (aC.o.symm.trans K),aA⟩
    case measure=>simp[intOf];omega
   ·have av: ¬(j:Int)<N:=Qa
    have aG:=G (show m=I by
     have:=K.o;rw[aK (by have:=al.o;omega),iH]at this
     exact this)
    go_wp2_with fail;go_ret;exact⟨by rw[J.o,<-aG.o];rfl,d⟩
theorem FZ (op nm tx:Zy) (v:Int) (xs:List Ex) (aj:(Ex.mk 7 op nm tx v xs).wt<=1073741824) (an: ∀o∈xs,EW o):EW (.mk 7 op nm tx v xs):=by
 intro P w ag n c Z al;have ad:=G (show eh (.mk 7 op nm tx v xs)=f6 (wC op) 0 1 xs by rw[eh,if_neg Qd,if_pos rfl]);have a:f6 (wC op) 0 1 xs<=1073741824:=by have:=jg (.mk 7 op nm tx v xs);rw[ad.o]at this;omega
 have aO:=eg xs;rw[Ex.wt]at aj;have a7:gD xs<=1073741823:=Qa
 simp only[Ex.k,Ex.op,Ex.nm,Ex.tx,Ex.v,Ex.args]at*;obtain⟨bg,c',aN,aQ⟩:=Z.form;injection aN with aL aJ aI;subst aL aJ aI;obtain⟨aA,a1,ax⟩:=Zg Z an al;obtain⟨N,I⟩: ∃N,xs.length=N:=⟨_,rfl⟩
 have be:N<=1073741824:=Qa
 have aC:=G I;rw[I]at aA;obtain⟨a2,a3⟩:=Zf (aa w (.cells #[Zr .i64 7,Zt (ak op),Zt (ak nm),Zt (ak tx),Zr .i64 v,Zs ag N c] 206)) (aq w 206 #[Zr .i64 7,Zt (ak op),Zt (ak nm),Zt (ak tx),Zr .i64 v,Zs ag N c]);obtain⟨ab,R⟩: ∃aX,f6 (wC op) 0 1 xs=aX:=⟨_,rfl⟩
 rw[R]at a ad;have aB:=G (show f6 (wC op) 0 1 (xs.drop 0)=ab from R);clear Z aQ an al aj R aO;rw[I];clear I;obtain⟨lg,M⟩: ∃b,wC op=b:=⟨_,rfl⟩
 rw[M]at aB;have af:=G (show(op==[38,38]||op==[124,124])=lg from M);clear M
 cases A:(op==[38,38])<;>cases z:(op==[124,124]);all_goals
  rw[A,z]at af;have ae:=G af.o.symm;simp only[Bool.or_true,mu,Bool.true_or,Bool.false_or]at ae;have ai:=congrArg (!·) A;have ah:=congrArg (!·) z;change(op !=[38,38])=_ at ai;change(op !=[124,124])=_ at ah;simp only[Bool.not_true,Bool.not_false]at ai ah;clear af;go_enter func127,ntmps127;go_wp2_with fail
  go_loopw [3,37] (λaH K wr=> ∃(j m:Nat),K=Zr .i64 (j:Int)/\aH=Zr .i64 (m:Int)/\j<=N/\Hid (f6 lg j m (xs.drop j)=ab)/\Hid (au w wr)/\Hid (aM wr w.heap.size 206 #[Zr .i64 7,Zt (ak op),Zt (ak nm),Zt (ak tx),Zr .i64 v,Zs ag N c])) (λ_ K _=>N-(intOf K).toNat)
  case atStart=>exact⟨0,1,rfl,rfl,aD _,aB,a2,a3⟩
  case round=>
   obtain⟨j,m,rfl,rfl,bb,F,d,aF⟩:=hrel;have a9:m<=1073741824:=by have:=ut lg (xs.drop j) j m;rw[F.o]at this;omega
   by_cases hlt:j<N
   ·have aP:(j:Int)<N:=Qa
    have H:j<xs.length:=by have:=aC.o;omega
    obtain⟨b,a4,bf,rfl,a,bc,av,A,z,ar,ap,ao,V⟩:=aA.o.at_ j H;obtain⟨ac,a6,a5,am⟩:=Zn (G (wm (lg:=lg) (i:=j) (m:=m) H)) (jg xs[j]) (em (ay H)) (a1.o _ (ay H));generalize xs[j]=o at*;obtain⟨e0,aW,aV,aU,aT,aS⟩:=Zp ((d.o.cell b _ a).trans av) ((d.o.cell b _ a).trans A) ((d.o.cell b _ a).trans z) ((d.o.cell b _ a).trans ar) ((d.o.cell b _ a).trans ap) ((d.o.cell b _ a).trans ao);obtain⟨B,aw,rfl,_⟩:=V.form;obtain⟨az,aE⟩:=Zf (V.keep (.of_ext d.o) (Q:=P) (λb a _=>a)) am;clear av A z ar ap ao V am;have a8:eh o<=1073741823:=Qa
    by_cases hj0:j=0
    ·subst hj0;simp only[aY,bm]at e0 aW aV aU aT aS;go_wp2_with (go_at_call 127;refine(aE.o P _ B _ aw (az.o.keep (.of_ext (aa _ _)) (λb a _=>a)) ((ax.o.ext d).ext (aa _ _))).mono ?_;rintro e aG ⟨rfl,u⟩;obtain⟨J,y⟩:=Zf ((d.o.alloc' _).trans u) ((aF.o.ext (aa _ _)).ext u);have aR:=y.o.cell;clear u);go_roundw
     case rel=>exact⟨1,max m (eh o),by go_num,by congr 1;omega,by omega,G ((by rw[ac.o,if_neg Qe]:f6 lg 0 m (xs.drop 0)=f6 lg 1 (max m (eh o)) (xs.drop 1)).symm.trans F.o),J,y⟩
     case measure=>simp[intOf];omega
    ·have ba:(0:Int)<j:=Qa
     go_wp2_with (go_at_call 127;refine(aE.o P _ B _ aw (az.o.keep (.of_ext (aa _ _)) (λb a _=>a)) ((ax.o.ext d).ext (aa _ _))).mono ?_;rintro e aG ⟨rfl,u⟩;obtain⟨J,y⟩:=Zf ((d.o.alloc' _).trans u) ((aF.o.ext (aa _ _)).ext u);have aR:=y.o.cell;clear u);go_roundw
     case rel=>first|exact⟨j+1,max m (eh o+1),by go_num,by congr 1;omega,by omega,G ((by rw[ac.o,if_pos ⟨by omega,ae⟩]:f6 lg j m (xs.drop j)=f6 lg (j+1) (max m (eh o+1)) (xs.drop (j+1))).symm.trans F.o),J,y⟩|exact⟨j+1,max m (eh o),by go_num,by congr 1;omega,by omega,G ((by rw[ac.o,if_neg (by rw[ae.o];simp)]:f6 lg j m (xs.drop j)=f6 lg (j+1) (max m (eh o)) (xs.drop (j+1))).symm.trans F.o),J,y⟩
     case measure=>simp[intOf];omega
   ·have aP: ¬(j:Int)<N:=Qa
    have aZ:=G (show m=ab by
     have:=F.o;rw[aK (by have:=aC.o;omega),f6]at this
     exact this)
    go_wp2_with fail;go_ret;exact⟨by rw[ad.o,<-aZ.o];rfl,d⟩
end
section
open Go.RowKit
def JQ (b:Bi):Int:=match b with
 |none=>0
 |some (c,_)=>c
theorem Ck (s:Zy) (w:World) (h:BT w):Calls prog 175 #[Zt (ak s)] w λe w'=>e= .returned (Zx #[Zr .i64 (JQ (gh s)),Zt (ak (EQ (gh s))),Zv (gh s).isSome])/\au w w':=by
 refine(mh s w h).mono λe w' ⟨a,d⟩=>⟨?_,d⟩
 rw[a]
 cases gh s<;>rfl
theorem GV: ∀x∈tw,x.2.2.length<=3:=Qd
theorem xP (s:Zy):(EQ (gh s)).length<=3:=by
 cases h:gh s with
 |none=>simp[EQ]
 |some x=>
  unfold gh at h;rw[gV]at h;obtain⟨a,d,rfl⟩:=h;exact GV a (eO d)
theorem FY (op nm tx:Zy) (v:Int) (xs:List Ex) (af:(Ex.mk 5 op nm tx v xs).wt<=1073741824) (ah: ∀a∈xs,EW a):EW (.mk 5 op nm tx v xs):=by
 intro P w ax n c Z M;have ae:=G (show eh (.mk 5 op nm tx v xs)=fZ (gh nm) 0 0 1 xs by rw[eh,if_neg Qd,if_neg Qd,if_pos rfl]);have d:fZ (gh nm) 0 0 1 xs<=1073741824:=by have:=jg (.mk 5 op nm tx v xs);rw[ae.o]at this;omega
 have aJ:=eg xs;rw[Ex.wt]at af;have a8:gD xs<=1073741823:=Qa
 have aO:=xP nm;simp only[Ex.k,Ex.op,Ex.nm,Ex.tx,Ex.v,Ex.args]at*;obtain⟨bp,c',aI,aN⟩:=Z.form;injection aI with aH aG aF;subst aH aG aF;obtain⟨ar,aZ,aT⟩:=Zg Z ah M;obtain⟨N,F⟩: ∃N,xs.length=N:=⟨_,rfl⟩
 have bf:N<=1073741823:=Qa
 have av:=G F;rw[F]at ar;have ab:=aa w (.cells #[Zr .i64 5,Zt (ak op),Zt (ak nm),Zt (ak tx),Zr .i64 v,Zs ax N c] 206);obtain⟨a2,a4,aw,aY⟩:=Zh ab (aq w 206 #[Zr .i64 5,Zt (ak op),Zt (ak nm),Zt (ak tx),Zr .i64 v,Zs ax N c]) (Ck nm _ (M.ext ab)) (fun(i:Nat) (aM:i<=1073741824) (W:World)=>lL (gh nm) i aM Qa W);generalize gh nm=u at*;generalize EQ u=ls at*;generalize JQ u=bn at*;generalize u.isSome=bs at*;obtain⟨ad,R⟩: ∃aQ,fZ u 0 0 1 xs=aQ:=⟨_,rfl⟩
 rw[R]at d ae;have aV:=G (show fZ u 0 0 1 (xs.drop 0)=ad from R);clear Z aN ah M af R aJ ab aO;rw[F];clear F;go_enter func127,ntmps127;go_wp2_with (go_at_call 175;refine aw.o.mono ?_;rintro e a6 ⟨rfl,o⟩;have aS:=G (a2.o.trans o);have bg:=(a4.o.ext o).cell;clear o aw)
 go_loopw [3,12,74] (λaA aB K wr=> ∃(j m fr:Nat),K=Zr .i64 (j:Int)/\aA=Zr .i64 (m:Int)/\aB=Zr .i64 (fr:Int)/\j<=N/\fr<=j/\Hid (fZ u j fr m (xs.drop j)=ad)/\Hid (au w wr)) (λ_ _ K _=>N-(intOf K).toNat)
 case atStart=>exact⟨0,1,0,rfl,rfl,rfl,aD _,aD _,aV,aS⟩
 case round=>
  obtain⟨j,m,fr,rfl,rfl,rfl,bb,bc,J,y⟩:=hrel;have ba:m<=1073741824:=by have:=qj u (xs.drop j) j fr m;rw[J.o]at this;omega
  by_cases hlt:j<N
  ·have aL:(j:Int)<N:=Qa
   have A:j<xs.length:=by have:=av.o;omega
   obtain⟨b,a7,bo,rfl,d,be,ao,an,am,al,aj,ai,V⟩:=ar.o.at_ j A;obtain⟨I,aE,aC,ag⟩:=Zn (G (wl (b:=u) (i:=j) (fr:=fr) (m:=m) A)) (jg xs[j]) (em (ay A)) (aZ.o _ (ay A));generalize xs[j]=a at*;obtain⟨z,e0,bm,bk,bj,bi,bh⟩:=Zq (G (aY.o j Qa)) ((y.o.cell b _ d).trans ao) ((y.o.cell b _ d).trans an) ((y.o.cell b _ d).trans am) ((y.o.cell b _ d).trans al) ((y.o.cell b _ d).trans aj) ((y.o.cell b _ d).trans ai);obtain⟨B,ac,rfl,_⟩:=V.form;obtain⟨aU,aX⟩:=Zf (V.keep (.of_ext y.o) (Q:=P) (λb d _=>d)) ag;have a9:eh a<=1073741823:=Qa
   obtain⟨a3,ap⟩:=Zf (aq wr 206 #[Zr .i64 a.k,Zt (ak a.op),Zt (ak a.nm),Zt (ak a.tx),Zr .i64 a.v,Zs B a.args.length ac]) (y.o.alloc' (.cells #[Zr .i64 a.k,Zt (ak a.op),Zt (ak a.nm),Zt (ak a.tx),Zr .i64 a.v,Zs B a.args.length ac] 206));clear ao an am al aj ai V ag aE aC
   cases hia:nF u j with
   |true=>
    rw[hia]at I z;go_wp2_with (first|(go_at_call 177;refine(z.o _).mono ?_;rintro e az ⟨rfl,o⟩;have H:=G (ap.o.trans o);have a1:=G o;have aP:=(a3.o.ext o).cell;clear o z)|(go_at_call 127;refine(aX.o P _ B _ ac ((aU.o.keep (.of_ext (aa _ _)) (λb d _=>d)).keep (.of_ext a1.o) (λb d _=>d)) (aT.o.ext H)).mono ?_;rintro e a5 ⟨rfl,o⟩;have aR:=G (H.o.trans o);clear o aP));go_roundw
    case rel=>exact⟨j+1,max m (fr+eh a),fr+1,by go_num,by congr 1;omega,by go_num,by omega,by omega,G ((by rw[I.o,if_pos trivial]:fZ u j fr m (xs.drop j)=fZ u (j+1) (fr+1) (max m (fr+eh a)) (xs.drop (j+1))).symm.trans J.o),aR⟩
    case measure=>simp[intOf];omega
   |false=>
    rw[hia]at I z;go_wp2_with (go_at_call 177;refine(z.o _).mono ?_;rintro e az ⟨rfl,o⟩;have H:=G (ap.o.trans o);clear o z);go_roundw
    case rel=>exact⟨j+1,m,fr,by go_num,rfl,rfl,by omega,by omega,G ((by rw[I.o,if_neg Qe]:fZ u j fr m (xs.drop j)=fZ u (j+1) fr m (xs.drop (j+1))).symm.trans J.o),H⟩
    case measure=>simp[intOf];omega
  ·have aL: ¬(j:Int)<N:=Qa
   have aW:=G (show m=ad by
    have:=J.o;rw[aK (by have:=av.o;omega),fZ]at this
    exact this)
   go_wp2_with fail;go_ret;exact⟨by rw[ae.o,<-aW.o];rfl,y⟩
theorem FX (k:Int) (z:(k==4)=false) (u:(k==6)=false) (o:(k==7)=false) (y:(k==5)=false) (op nm tx:Zy) (v:Int) (xs:List Ex):EW (.mk k op nm tx v xs):=by
 intro P w H n c d a
 have A:=G (show eh (.mk k op nm tx v xs)=1 by
  rw[eh,if_neg (by simp only[Qn]at z u;omega),if_neg (by simpa using o),if_neg (by simpa using y)])
 have F:=G (aa w (.cells #[Zr .i64 k,Zt (ak op),Zt (ak nm),Zt (ak tx),Zr .i64 v,Zs H n c] 206));simp only[Ex.k,Ex.op,Ex.nm,Ex.tx,Ex.v,Ex.args]at*;clear d a;go_enter func127,ntmps127;go_wp2_with fail;go_ret;exact⟨by rw[A.o];rfl,F⟩
theorem rt: ∀(m:Nat) (x:Ex),x.wt<=m->x.wt<=1073741824->EW x
 |0,x,h,_=>absurd h (by have:=x.wt_eq;omega)
 |m+1, .mk k op nm tx v xs,h,hw=>by
  have d: ∀a∈xs,EW a:=λa o=>rt m a (by have:=em o;rw[Ex.wt]at h;omega) (by have:=em o;rw[Ex.wt]at hw;omega);by_cases h46:k=4\/k=6
  ·exact F1 k h46 op nm tx v xs hw d
  by_cases h7:k=7
  ·subst h7;exact FZ op nm tx v xs hw d
  by_cases h5:k=5
  ·subst h5;exact FY op nm tx v xs hw d
  exact FX k (Qn.2 Qa) (Qn.2 Qa) (Qn.2 h7) (Qn.2 h5) op nm tx v xs
def Hb (x:Ex):Prop:= ∀(X:CB) (gl:Gl) (lv:Value) (lo:Ls) (P:Nat->Prop) (w:World) (A:Option Addr) (n c:Nat),CK X gl lv lo w->dL w P (Zs A n c) x.args->
 Calls prog 176 #[X.p, .agg #[Zr .i64 x.k,Zt (ak x.op),Zt (ak x.nm),Zt (ak x.tx),Zr .i64 x.v,Zs A n c]] w λe w'=>e=cG (tK gl lo x)/\au w w'
def EY (xs:List Ex):Prop:= ∀(X:CB) (gl:Gl) (lv:Value) (lo:Ls) (P:Nat->Prop) (w:World) (A:Option Addr) (n c:Nat),CK X gl lv lo w->dL w P (Zs A n c) xs->
 Calls prog 126 #[X.p,Zs A n c] w λe w'=>e=cG (tn gl lo xs)/\au w w'
theorem Cd {gl:Gl} {lo:Ls} {l:List Ex} {j:Nat} (a:j<l.length):tn gl lo (l.drop j)=CR.then (tK gl lo l[j]) λ_=>tn gl lo (l.drop (j+1)):=by
 rw[ap a,tn]
theorem rL (xs:List Ex) (aC:xs.length<=1073741824) (af: ∀a∈xs,Hb a):EY xs:=by
 intro X gl av lo P w aZ n c ad M;obtain⟨aY,c',aA,aE⟩:=M.form;injection aA with az ax aw;subst az ax aw;obtain⟨ap,aM,aL⟩:=Zg M af ad;obtain⟨N,F⟩: ∃N,xs.length=N:=⟨_,rfl⟩
 have aq:=G F;rw[F]at ap aC;obtain⟨H,A⟩: ∃aI,tn gl lo xs=aI:=⟨_,rfl⟩
 obtain⟨aX,aJ,aN⟩:=Zg A (show tn gl lo (xs.drop 0)=H from A) (aG w);obtain⟨aH,ac⟩: ∃p,X.p=p:=⟨_,rfl⟩
 have aF:aH= .pointer (some ⟨X.g,0,none⟩):=ac.symm;clear M aE af ad;rw[F,A];clear F A;subst aF;simp only[CB.p]at*;clear ac;go_enter func126,ntmps126;go_wp2_with fail
 go_loopw [8] (λI wr=> ∃(j:Nat),I=Zr .i64 (j:Int)/\j<=N/\Hid (tn gl lo (xs.drop j)=H)/\Hid (au w wr)) (λI _=>N-(intOf I).toNat)
 case atStart=>exact⟨0,rfl,aD _,aJ,aN⟩
 case round=>
  obtain⟨j,rfl,aP,Z,o⟩:=hrel;by_cases hlt:j<N
  ·have aB:(j:Int)<N:=Qa
   have J:j<xs.length:=by have:=aq.o;omega
   obtain⟨b,aO,aW,rfl,d,aQ,am,al,aj,ai,ah,ag,K⟩:=ap.o.at_ j J;have ao:=G (Cd (gl:=gl) (lo:=lo) J);have ae:=aM.o _ (ay J);generalize xs[j]=a at*;obtain⟨e0,aV,aU,aT,aS,aR⟩:=Zp ((o.o.cell b _ d).trans am) ((o.o.cell b _ d).trans al) ((o.o.cell b _ d).trans aj) ((o.o.cell b _ d).trans ai) ((o.o.cell b _ d).trans ah) ((o.o.cell b _ d).trans ag);obtain⟨B,R,rfl,_⟩:=K.form;obtain⟨z,an⟩:=Zf (ae X gl av lo P _ B _ R ((aL.o.ext o).ext (aa _ (.cells #[Zr .i64 a.k,Zt (ak a.op),Zt (ak a.nm),Zt (ak a.tx),Zr .i64 a.v,Zs B a.args.length R] 206))) ((K.keep (.of_ext o.o) (Q:=P) (λb d _=>d)).keep (.of_ext (aa _ _)) (λb d _=>d))) (o.o.alloc' (.cells #[Zr .i64 a.k,Zt (ak a.op),Zt (ak a.nm),Zt (ak a.tx),Zr .i64 a.v,Zs B a.args.length R] 206));clear am al aj ai ah ag K ae;generalize tK gl lo a=r at*;simp only[CB.p]at z
   cases r with
   |ok u=>
    go_wp2_with (go_at_call 176;refine z.o.mono ?_;unfold cG;rintro e ar ⟨rfl,y⟩;have V:=G (an.o.trans y);clear y z);go_roundw
    case rel=>exact⟨j+1,by go_num,by omega,G (ao.o.symm.trans Z),V⟩
    case measure=>simp[intOf];omega
   |error q=>
    obtain⟨nm,n⟩:=q;have ab:=G (show H= .error (nm,n)from Z.o.symm.trans ao);go_wp2_with (go_at_call 176;refine z.o.mono ?_;unfold cG bh;rintro e ar ⟨rfl,y⟩;have V:=G (an.o.trans y);clear y z);exact⟨rfl,by rw[ab.o];rfl,V⟩
  ·have aB: ¬(j:Int)<N:=Qa
   have ab:=G (show H= .ok () by
    have:=Z.o;rw[aK (by have:=aq.o;omega),tn]at this
    exact this.symm)
   go_wp2_with fail;exact bodyPost_end (results_none rfl _ _ _) rfl ⟨by rw[ab.o];rfl,o⟩
end
section
def E5 (vs:List Vr) (s:Zy):Option Vr:=vs.find? (λv=>decide (s=v.nm))
def Jn (fs:List Fc) (s:Zy):Option Fc:=fs.find? (λf=>decide (s=f.nm))
structure GL (p:Pg) (g:Gl):Prop where
 arr: ∀s,g.arr s=(E5 p.vs s).bind λv=>if 0<v.sz then some v.sz else none
 int: ∀s,g.int s=(E5 p.vs s).any λv=> !decide (0<v.sz)
 fn: ∀s,g.fn s=(Jn p.fs s).map (·.ps.length)
 nb: ∀n∈p.vs.map (·.nm)++p.fs.map (·.nm),H' n=false
 nd:(p.vs.map (·.nm)++p.fs.map (·.nm)).Pairwise (· ≠ ·)
theorem GU: ∀x∈tw,∀c∈x.2.2,c=105\/c=115\/c=97\/c=98:=Qd
theorem Cj {s:Zy} {c:Int} {ls:Zy} (a:gh s=some (c,ls)): ∀x∈ls,x=105\/x=115\/x=97\/x=98:=by
 unfold gh at a;rw[gV]at a;obtain⟨x,d,a⟩:=a;have:=GU x (eO d);rw[a]at this;exact this
end
section
open Go.RowKit
theorem uW {gl:Gl} {lo:Ls} {nm:Zy} {b:Bi} {l:List Ex} {j:Nat} (a:j<l.length):wP gl lo nm b j (l.drop j)=CR.then (if nF b j=true then tK gl lo l[j]else if tA (DG b j) l[j].k=true then .error (nm,16)else if l[j].k=3 then mC gl lo l[j].nm else .ok ()) λ_=>wP gl lo nm b (j+1) (l.drop (j+1)):=by
 rw[ap a,wP]
def JL (op nm tx:Zy) (v:Int) (xs:List Ex):Prop:= ∀(X:CB) (gl:Gl) (lv:Value) (lo:Ls) (P:Nat->Prop) (w:World) (A:Option Addr) (n c:Nat),CK X gl lv lo w->dL w P (Zs A n c) xs->
 Calls prog 218 #[X.p, .agg #[Zr .i64 5,Zt (ak op),Zt (ak nm),Zt (ak tx),Zr .i64 v,Zs A n c]] w λe w'=>e=cG (tK gl lo (.mk 5 op nm tx v xs))/\au w w'
theorem vM (op nm tx:Zy) (v:Int) (xs:List Ex) (bi:xs.length<=1073741824) (ax:nm.length<=1073741824) (o:gh nm=none) (aT: ∀d∈xs,Hb d):JL op nm tx v xs:=by
 intro X gl aQ lo P w ar n c aR aE;obtain⟨bK,c',bf,bk⟩:=aE.form;injection bf with be bc bb;subst be bc bb;obtain⟨a7,aJ⟩:=Zf aE aT;obtain⟨N,ah⟩: ∃N,xs.length=N:=⟨_,rfl⟩
 have a8:=G ah;rw[ah]at a7 bi;obtain⟨M,aA⟩: ∃bn,tK gl lo (.mk 5 op nm tx v xs)=bn:=⟨_,rfl⟩
 have ab:=G (show M=match gl.fn nm with|none=> .error (nm,15)|some n=>if n=N then wP gl lo nm none 0 xs else .error (nm,16) by
  rw[<-aA,tK,if_neg Qd,if_neg Qd,if_neg Qd,if_pos rfl];unfold Cr;rw[o,<-ah]
  cases gl.fn nm<;>rfl)
 have aF:=aa w (.cells #[Zr .i64 5,Zt (ak op),Zt (ak nm),Zt (ak tx),Zr .i64 v,Zs ar N c] 206);obtain⟨ac,af,V⟩:=Zg aF (aq w 206 #[Zr .i64 5,Zt (ak op),Zt (ak nm),Zt (ak tx),Zr .i64 v,Zs ar N c]) (aR.ext aF)
 have ad:=G (show Calls prog 175 #[Zt (ak nm)] (w.alloc (.cells #[Zr .i64 5,Zt (ak op),Zt (ak nm),Zt (ak tx),Zr .i64 v,Zs ar N c] 206)) λe w'=>e= .returned (Zx #[Zr .i64 0,Zt ⟨#[]⟩,Zv false])/\au (w.alloc (.cells #[Zr .i64 5,Zt (ak op),Zt (ak nm),Zt (ak tx),Zr .i64 v,Zs ar N c] 206)) w' from by
  have:=mh nm _ V.o.t;rw[o]at this
  exact this)
 obtain⟨aI,ap⟩:=Zf (fun(i:Nat) (bj:i<=1073741824) (W:World)=>show Calls prog 177 #[Zt ⟨#[]⟩,Zv false,Zr .i64 (i:Int)] W λe w'=>e= .returned (Zv true)/\au W w' from lL none i bj (by simp[EQ]) W) (λn W=>ew nm n W);clear aE bk aT o aF aR;rw[ah,aA];clear ah aA;obtain⟨g,a3,a5,a4,aO,aP⟩:=X;simp only[CB.p]at*
 cases hfn:gl.fn nm with
 |none=>
  have al:=G (show M= .error (nm,15) by rw[ab.o,hfn]);clear aJ aI ab;go_enter func218,ntmps218;go_wp2_with (go_at_call 175;refine ad.o.mono ?_;rintro e ag ⟨rfl,a⟩;obtain⟨I,y⟩:=Zf (ac.o.trans a) (af.o.ext a);have H:=y.o.cell;have A:=G (V.o.ext a);clear a ad af V ac);refine aB 12 1 [] mixed Qb trivial ?_;repeat (refine sx ?_ (λag z=> ?_) ?_;rotate_left;(focus have H:=(y.o.ext z.un).cell;have a2:=(A.o.ext z.un).blk.cell;have K:=(A.o.ext z.un).lookF ax;rw[hfn]at K;simp only[fi,dQ]at K;clear z;go_simp<;>with_reducible rfl);simp only[Za])
  intro aN F _;simp only[ae,aU];have ai:=G (I.o.trans F.un);clear H;have H:=(y.o.ext F.un).cell;clear F;go_wp2_with (go_at_call 65;refine(ap.o _ _).mono ?_;unfold bh;rintro e av ⟨rfl,a⟩;have R:=G (ai.o.trans a);clear a ap);exact⟨rfl,by rw[al.o];rfl,R⟩
 |some k=>
  by_cases hkN:k=N
  ·subst hkN;have al:=G (show M=wP gl lo nm none 0 xs by rw[ab.o,hfn];simp);have bp:=G (show wP gl lo nm none 0 (xs.drop 0)=M from al.o.symm);clear ab;go_enter func218,ntmps218;go_wp2_with (go_at_call 175;refine ad.o.mono ?_;rintro e ag ⟨rfl,a⟩;obtain⟨I,y⟩:=Zf (ac.o.trans a) (af.o.ext a);have H:=y.o.cell;have A:=G (V.o.ext a);clear a ad af V ac);refine aB 12 1 [] mixed Qb trivial ?_;repeat (refine sx ?_ (λag z=> ?_) ?_;rotate_left;(focus have H:=(y.o.ext z.un).cell;have a2:=(A.o.ext z.un).blk.cell;have K:=(A.o.ext z.un).lookF ax;rw[hfn]at K;simp only[bX,dC]at K;clear z;go_simp<;>with_reducible rfl);simp only[Za])
   intro aN F _;simp only[ae,aU];obtain⟨ai,bu⟩:=Zf (I.o.trans F.un) (A.o.ext F.un);clear H;have H:=(y.o.ext F.un).cell;clear F I A y;go_wp2_with fail;clear H
   go_loopw [53] (λaw wr=> ∃(j:Nat),aw=Zr .i64 (j:Int)/\j<=k/\Hid (wP gl lo nm none j (xs.drop j)=M)/\Hid (au w wr)/\Hid (CK ⟨g,a3,a5,a4,aO,aP⟩ gl aQ lo wr)) (λaw _=>k-(intOf aw).toNat)
   case atStart=>exact⟨0,rfl,aD _,bp,ai,bu⟩
   case round=>
    obtain⟨j,rfl,bC,aH,J,bq⟩:=hrel;by_cases hlt:j<k
    ·have bg:(j:Int)<k:=Qa
     have az:j<xs.length:=by have:=a8.o;omega
     obtain⟨b,bv,bJ,rfl,o,bD,a1,aZ,aY,aX,aW,aV,aC⟩:=a7.o.at_ j az;have am:=G (uW (gl:=gl) (lo:=lo) (nm:=nm) (b:=none) az);have aS:=aJ.o _ (ay az);generalize xs[j]=d at*;obtain⟨e0,bI,bH,bG,bF,bE⟩:=Zp ((J.o.cell b _ o).trans a1) ((J.o.cell b _ o).trans aZ) ((J.o.cell b _ o).trans aY) ((J.o.cell b _ o).trans aX) ((J.o.cell b _ o).trans aW) ((J.o.cell b _ o).trans aV);obtain⟨B,Z,rfl,_⟩:=aC.form;obtain⟨a6,y,I,A,aj,ao⟩:=Zj ((aC.keep (.of_ext J.o) (Q:=P) (λb o _=>o)).keep (.of_ext (aa _ (.cells #[Zr .i64 d.k,Zt (ak d.op),Zt (ak d.nm),Zt (ak d.tx),Zr .i64 d.v,Zs B d.args.length Z] 206))) (Q:=P) (λb o _=>o)) (aq wr 206 #[Zr .i64 d.k,Zt (ak d.op),Zt (ak d.nm),Zt (ak d.tx),Zr .i64 d.v,Zs B d.args.length Z]) (J.o.alloc' (.cells #[Zr .i64 d.k,Zt (ak d.op),Zt (ak d.nm),Zt (ak d.tx),Zr .i64 d.v,Zs B d.args.length Z] 206)) (bq.o.ext (aa wr (.cells #[Zr .i64 d.k,Zt (ak d.op),Zt (ak d.nm),Zt (ak d.tx),Zr .i64 d.v,Zs B d.args.length Z] 206))) (aS ⟨g,a3,a5,a4,aO,aP⟩ gl aQ lo P) (aI.o j Qa);clear a1 aZ aY aX aW aV aC aS;simp only[CB.p]at aj;generalize tK gl lo d=r at*;rw[show nF none j=true from rfl]at am;simp only[if_true]at am
     cases r with
     |ok u=>
      go_wp2_with (first|(go_at_call 177;refine(ao.o _).mono ?_;rintro e av ⟨rfl,a⟩;obtain⟨aG,aM,bm,an⟩:=Zn (G (I.o.trans a)) (G a) ((y.o.ext a).cell) (G (A.o.ext a));clear a ao)|(go_at_call 176;refine(aj.o _ B _ Z an (a6.o.keep (.of_ext aM.o) (λb o _=>o))).mono ?_;unfold cG;rintro e a9 ⟨rfl,a⟩;obtain⟨R,bt⟩:=Zf (aG.o.trans a) (an.o.ext a);clear a aj));go_roundw
      case rel=>exact⟨j+1,by go_num,by omega,G (am.o.symm.trans aH),R,bt⟩
      case measure=>simp[intOf];omega
     |error q=>
      obtain⟨ba,n⟩:=q;have aL:=G (show M= .error (ba,n)from aH.o.symm.trans am);go_wp2_with (first|(go_at_call 177;refine(ao.o _).mono ?_;rintro e av ⟨rfl,a⟩;obtain⟨aG,aM,bm,an⟩:=Zn (G (I.o.trans a)) (G a) ((y.o.ext a).cell) (G (A.o.ext a));clear a ao)|(go_at_call 176;refine(aj.o _ B _ Z an (a6.o.keep (.of_ext aM.o) (λb o _=>o))).mono ?_;unfold cG bh;rintro e a9 ⟨rfl,a⟩;have R:=G (aG.o.trans a);clear a aj));exact⟨rfl,by rw[aL.o];rfl,R⟩
    ·have bg: ¬(j:Int)<k:=Qa
     have aL:=G (show M= .ok () by
      have:=aH.o;rw[aK (by have:=a8.o;omega),wP]at this
      exact this.symm)
     go_wp2_with fail;exact bodyPost_end (results_none rfl _ _ _) rfl ⟨by rw[aL.o];rfl,J⟩
  ·have al:=G (show M= .error (nm,16) by rw[ab.o,hfn];simp[hkN]);have bB:((k:Int) !=(N:Int))=true:=Qg
   have bz:((k:Int)==(N:Int))=false:=Qg
   clear aJ aI ab;go_enter func218,ntmps218;go_wp2_with (go_at_call 175;refine ad.o.mono ?_;rintro e ag ⟨rfl,a⟩;obtain⟨I,y⟩:=Zf (ac.o.trans a) (af.o.ext a);have H:=y.o.cell;have A:=G (V.o.ext a);clear a ad af V ac);refine aB 12 1 [] mixed Qb trivial ?_;repeat (refine sx ?_ (λag z=> ?_) ?_;rotate_left;(focus have H:=(y.o.ext z.un).cell;have a2:=(A.o.ext z.un).blk.cell;have K:=(A.o.ext z.un).lookF ax;rw[hfn]at K;simp only[bX,dC]at K;clear z;go_simp<;>with_reducible rfl);simp only[Za])
   intro aN F _;simp only[ae,aU];have ai:=G (I.o.trans F.un);clear H;have H:=(y.o.ext F.un).cell;clear F;go_wp2_with (go_at_call 65;refine(ap.o _ _).mono ?_;unfold bh;rintro e av ⟨rfl,a⟩;have R:=G (ai.o.trans a);clear a ap);exact⟨rfl,by rw[al.o];rfl,R⟩
theorem vL (op nm tx:Zy) (v:Int) (xs:List Ex) (bW:xs.length<=1073741824) (bu:nm.length<=1073741824) (ab:Int) (ls:Zy) (H:gh nm=some (ab,ls)) (cc:ls.length<=3) (bD: ∀an∈xs,Hb an) (bB: ∀an∈xs,an.nm.length<=1073741824):JL op nm tx v xs:=by
 intro X gl av lo P w aW n c bC bf;obtain⟨cp,c',bU,bZ⟩:=bf.form;injection bU with bT bS bR;subst bT bS bR;obtain⟨bG,bK,b6,b8⟩:=Zh bf bD bB (Cj H);obtain⟨N,aO⟩: ∃N,xs.length=N:=⟨_,rfl⟩
 have bH:=G aO;rw[aO]at bG bW;obtain⟨ac,be⟩: ∃b5,tK gl lo (.mk 5 op nm tx v xs)=b5:=⟨_,rfl⟩
 have a5:=G (show ac=if ls.length=N then wP gl lo nm (some (ab,ls)) 0 xs else .error (nm,16) by
  rw[<-be,tK,if_neg Qd,if_neg Qd,if_neg Qd,if_pos rfl];unfold Cr
  rw[H,<-aO])
 have bi:=aa w (.cells #[Zr .i64 5,Zt (ak op),Zt (ak nm),Zt (ak tx),Zr .i64 v,Zs aW N c] 206);obtain⟨a6,ba,aT⟩:=Zg bi (aq w 206 #[Zr .i64 5,Zt (ak op),Zt (ak nm),Zt (ak tx),Zr .i64 v,Zs aW N c]) (bC.ext bi)
 have a8:=G (show Calls prog 175 #[Zt (ak nm)] (w.alloc (.cells #[Zr .i64 5,Zt (ak op),Zt (ak nm),Zt (ak tx),Zr .i64 v,Zs aW N c] 206)) λe w'=>e= .returned (Zx #[Zr .i64 ab,Zt (ak ls),Zv true])/\au (w.alloc (.cells #[Zr .i64 5,Zt (ak op),Zt (ak nm),Zt (ak tx),Zr .i64 v,Zs aW N c] 206)) w' from by
  have:=mh nm _ aT.o.t;rw[H]at this
  exact this)
 have bJ:=G (fun(i:Nat) (bY:i<=1073741824) (W:World)=>show Calls prog 177 #[Zt (ak ls),Zv true,Zr .i64 (i:Int)] W λe w'=>e= .returned (Zv (nF (some (ab,ls)) i))/\au W w' from lL (some (ab,ls)) i bY (by simp only[EQ];omega) W);have am:=G (λn W=>ew nm n W);have cb:=a7 ls;clear bf bZ bD bB H bi bC;rw[aO,be];clear aO be;obtain⟨g,az,aC,aA,ap,ar⟩:=X;simp only[CB.p]at*;obtain⟨bj,bz⟩: ∃bj,gl.fn nm=bj:=⟨_,rfl⟩
 cases bj;all_goals
  by_cases hkN:ls.length=N
  ·have bm:=G (show ac=wP gl lo nm (some (ab,ls)) 0 xs by rw[a5.o,if_pos hkN]);have b7:=G (show wP gl lo nm (some (ab,ls)) 0 (xs.drop 0)=ac from bm.o.symm);have ce:((ls.length:Int) !=(N:Int))=false:=by simp[hkN]
   clear a5;go_enter func218,ntmps218;go_wp2_with (go_at_call 175;refine a8.o.mono ?_;rintro e bb ⟨rfl,a⟩;obtain⟨M,F⟩:=Zf (a6.o.trans a) (ba.o.ext a);have I:=F.o.cell;have A:=G (aT.o.ext a);clear a a8 ba aT a6);refine aB 12 1 [] mixed Qb trivial ?_;repeat (refine sx ?_ (λbb aj=> ?_) ?_;rotate_left;(focus have I:=(F.o.ext aj.un).cell;have b4:=(A.o.ext aj.un).blk.cell;have aP:=(A.o.ext aj.un).lookF bu;rw[bz]at aP;simp only[bX,fi,dC,dQ]at aP;clear aj;go_simp<;>with_reducible rfl);simp only[Za])
   intro bL ai _;simp only[ae,aU];obtain⟨bk,bI,a9⟩:=Zg (M.o.trans ai.un) (A.o.ext ai.un) (F.o.ext ai.un);clear I;have I:=a9.o.cell;clear ai M A F;go_wp2_with fail;clear I
   go_loopw [53] (λbc wr=> ∃(j:Nat),bc=Zr .i64 (j:Int)/\j<=N/\Hid (wP gl lo nm (some (ab,ls)) j (xs.drop j)=ac)/\Hid (au w wr)/\Hid (CK ⟨g,az,aC,aA,ap,ar⟩ gl av lo wr)/\Hid (aM wr w.heap.size 206 #[Zr .i64 5,Zt (ak op),Zt (ak nm),Zt (ak tx),Zr .i64 v,Zs aW N c])) (λbc _=>N-(intOf bc).toNat)
   case atStart=>exact⟨0,rfl,aD _,b7,bk,bI,a9⟩
   case round=>
    obtain⟨j,rfl,ch,ad,al,b9,V⟩:=hrel;by_cases hlt:j<N
    ·have bV:(j:Int)<N:=Qa
     have aY:j<xs.length:=by have:=bH.o;omega
     have aX:j<ls.length:=Qa
     obtain⟨b,ca,co,rfl,H,ci,a4,a3,a2,a1,aZ,bE,aN⟩:=bG.o.at_ j aY;have d:=uW (gl:=gl) (lo:=lo) (nm:=nm) (b:=some (ab,ls)) aY;have bg:=bK.o _ (ay aY);have aw:=b6.o _ (ay aY);obtain⟨an,bp⟩: ∃an,xs[j]=an:=⟨_,rfl⟩
     rw[bp]at a4 a3 a2 a1 aZ aN d bg aw;clear bp;obtain⟨K,aL,ag,aH,aG,aR⟩:=an;simp only[Ex.k,Ex.op,Ex.nm,Ex.tx,Ex.v,Ex.args]at a4 a3 a2 a1 aZ aN d aw;obtain⟨e0,cn,cm,cl,ck,cj⟩:=Zp ((al.o.cell b _ H).trans a4) ((al.o.cell b _ H).trans a3) ((al.o.cell b _ H).trans a2) ((al.o.cell b _ H).trans a1) ((al.o.cell b _ H).trans aZ) ((al.o.cell b _ H).trans bE);obtain⟨B,ax,rfl,_⟩:=aN.form;obtain⟨bF,F,M,A,aE,o⟩:=Zj ((aN.keep (.of_ext al.o) (Q:=P) (λb H _=>H)).keep (.of_ext (aa _ (.cells #[Zr .i64 K,Zt (ak aL),Zt (ak ag),Zt (ak aH),Zr .i64 aG,Zs B aR.length ax] 206))) (Q:=P) (λb H _=>H)) (aq wr 206 #[Zr .i64 K,Zt (ak aL),Zt (ak ag),Zt (ak aH),Zr .i64 aG,Zs B aR.length ax]) (al.o.alloc' (.cells #[Zr .i64 K,Zt (ak aL),Zt (ak ag),Zt (ak aH),Zr .i64 aG,Zs B aR.length ax] 206)) (b9.o.ext (aa wr (.cells #[Zr .i64 K,Zt (ak aL),Zt (ak ag),Zt (ak aH),Zr .i64 aG,Zs B aR.length ax] 206))) (bg ⟨g,az,aC,aA,ap,ar⟩ gl av lo P) (bJ.o j Qa);clear a4 a3 a2 a1 aZ bE aN bg;simp only[CB.p,Ex.k,Ex.op,Ex.nm,Ex.tx,Ex.v,Ex.args]at aE
     cases hia:nF (some (ab,ls)) j with
     |true=>
      rw[hia]at d o;simp only[if_true]at d;generalize tK gl lo (.mk K aL ag aH aG aR)=r at*
      cases r with
      |ok u=>
       have d:=G d;go_wp2_with (first|(go_at_call 177;refine(o.o _).mono ?_;rintro e af ⟨rfl,a⟩;obtain⟨y,R,ah,I,z⟩:=Zo (G (M.o.trans a)) (G a) ((F.o.ext a).cell) ((V.o.ext ((aa _ _).trans a)).cell) (G (A.o.ext a));clear a o)|(go_at_call 176;refine(aE.o _ B _ ax z (bF.o.keep (.of_ext R.o) (λb H _=>H))).mono ?_;unfold cG;rintro e aF ⟨rfl,a⟩;obtain⟨J,aS,aV⟩:=Zg (y.o.trans a) (z.o.ext a) (V.o.ext ((aa _ _).trans (R.o.trans a)));clear a aE));go_roundw
       case rel=>exact⟨j+1,by go_num,by omega,G (d.o.symm.trans ad),J,aS,aV⟩
       case measure=>simp[intOf];omega
      |error q=>
       obtain⟨aJ,n⟩:=q;have d:=G d;have Z:=G (show ac= .error (aJ,n)from ad.o.symm.trans d);go_wp2_with (first|(go_at_call 177;refine(o.o _).mono ?_;rintro e af ⟨rfl,a⟩;obtain⟨y,R,ah,I,z⟩:=Zo (G (M.o.trans a)) (G a) ((F.o.ext a).cell) ((V.o.ext ((aa _ _).trans a)).cell) (G (A.o.ext a));clear a o)|(go_at_call 176;refine(aE.o _ B _ ax z (bF.o.keep (.of_ext R.o) (λb H _=>H))).mono ?_;unfold cG bh;rintro e aF ⟨rfl,a⟩;have J:=G (y.o.trans a);clear a aE));exact⟨rfl,by rw[Z.o];rfl,J⟩
     |false=>
      rw[hia]at d o;have bt:=b8.o _ (ay aX);have ao:=λw=>lX ls j aX w;have bq:ls[j]≠105:=by
       intro e;have:nF (some (ab,ls)) j=true:=by
        simp only[nF];rw[dn];right;rw[bP,aI aX];simp[e]
       rw[this]at hia
       cases hia
      have bv:DG (some (ab,ls)) j=ls[j]:=by simp only[DG];rw[bP,aI aX];rfl
      rw[bv]at d;have cg:(j:Int)<ls.length:=Qa
      generalize ls[j]=q at bt ao bq d;simp only[aQ,if_false]at d;clear hia bv aE;rcases bt with rfl|rfl|rfl|rfl
      ·exact absurd rfl bq
      ·have ao: ∀w,(Instr.index 9 (Zt (ak ls)) (Zr .i64 (j:Int))).run prog w= .ok (Zr .u8 115) w:=ao;by_cases hk2:K=2
       ·subst hk2;simp[tA]at d;have d:=G d;go_wp2_with (go_at_call 177;refine(o.o _).mono ?_;rintro e af ⟨rfl,a⟩;obtain⟨y,R,ah,I,z⟩:=Zo (G (M.o.trans a)) (G a) ((F.o.ext a).cell) ((V.o.ext ((aa _ _).trans a)).cell) (G (A.o.ext a));clear a o);go_roundw
        case rel=>exact⟨j+1,by go_num,by omega,G (d.o.symm.trans ad),y,z,G (V.o.ext ((aa _ _).trans R.o))⟩
        case measure=>simp[intOf];omega
       ·have bN:(K !=2)=true:=by simpa using hk2
        have bQ:(K==2)=false:=by simpa using hk2
        simp[tA,hk2]at d;have d:=G d;have Z:=G (show ac= .error (nm,16)from ad.o.symm.trans d);go_wp2_with (first|(go_at_call 177;refine(o.o _).mono ?_;rintro e af ⟨rfl,a⟩;obtain⟨y,R,ah,I,z⟩:=Zo (G (M.o.trans a)) (G a) ((F.o.ext a).cell) ((V.o.ext ((aa _ _).trans a)).cell) (G (A.o.ext a));clear a o)|(go_at_call 65;refine(am.o _ _).mono ?_;unfold bh;rintro e bn ⟨rfl,a⟩;have J:=G (y.o.trans a);clear a am));exact⟨rfl,by rw[Z.o];rfl,J⟩
      ·have ao: ∀w,(Instr.index 9 (Zt (ak ls)) (Zr .i64 (j:Int))).run prog w= .ok (Zr .u8 97) w:=ao;by_cases hk3:K=3
       ·subst hk3;simp[tA]at d
        cases hca:mC gl lo ag with
        |ok u=>
         rw[hca]at d;have d:=G d;go_wp2_with (first|(go_at_call 177;refine(o.o _).mono ?_;rintro e af ⟨rfl,a⟩;obtain⟨y,R,ah,I,z⟩:=Zo (G (M.o.trans a)) (G a) ((F.o.ext a).cell) ((V.o.ext ((aa _ _).trans a)).cell) (G (A.o.ext a));clear a o)|(go_at_call 125;refine(eQ ⟨g,az,aC,aA,ap,ar⟩ gl av lo _ z ag aw).mono ?_;rw[hca];unfold cG;rintro e aF ⟨rfl,a⟩;obtain⟨J,aS,aV⟩:=Zg (y.o.trans a) (z.o.ext a) (V.o.ext ((aa _ _).trans (R.o.trans a)));clear a));go_roundw
         case rel=>exact⟨j+1,by go_num,by omega,G (d.o.symm.trans ad),J,aS,aV⟩
         case measure=>simp[intOf];omega
        |error q=>
         obtain⟨aJ,n⟩:=q;rw[hca]at d;have d:=G d;have Z:=G (show ac= .error (aJ,n)from ad.o.symm.trans d);go_wp2_with (first|(go_at_call 177;refine(o.o _).mono ?_;rintro e af ⟨rfl,a⟩;obtain⟨y,R,ah,I,z⟩:=Zo (G (M.o.trans a)) (G a) ((F.o.ext a).cell) ((V.o.ext ((aa _ _).trans a)).cell) (G (A.o.ext a));clear a o)|(go_at_call 125;refine(eQ ⟨g,az,aC,aA,ap,ar⟩ gl av lo _ z ag aw).mono ?_;rw[hca];unfold cG bh;rintro e aF ⟨rfl,a⟩;have J:=G (y.o.trans a);clear a));exact⟨rfl,by rw[Z.o];rfl,J⟩
       ·have bM:(K !=3)=true:=by simpa using hk3
        have bO:(K==3)=false:=by simpa using hk3
        simp[tA,hk3]at d;have d:=G d;have Z:=G (show ac= .error (nm,16)from ad.o.symm.trans d);go_wp2_with (first|(go_at_call 177;refine(o.o _).mono ?_;rintro e af ⟨rfl,a⟩;obtain⟨y,R,ah,I,z⟩:=Zo (G (M.o.trans a)) (G a) ((F.o.ext a).cell) ((V.o.ext ((aa _ _).trans a)).cell) (G (A.o.ext a));clear a o)|(go_at_call 65;refine(am.o _ _).mono ?_;unfold bh;rintro e bn ⟨rfl,a⟩;have J:=G (y.o.trans a);clear a am));exact⟨rfl,by rw[Z.o];rfl,J⟩
      ·have ao: ∀w,(Instr.index 9 (Zt (ak ls)) (Zr .i64 (j:Int))).run prog w= .ok (Zr .u8 98) w:=ao;by_cases hk3:K=3
       ·subst hk3;simp[tA]at d
        cases hca:mC gl lo ag with
        |ok u=>
         rw[hca]at d;have d:=G d;go_wp2_with (first|(go_at_call 177;refine(o.o _).mono ?_;rintro e af ⟨rfl,a⟩;obtain⟨y,R,ah,I,z⟩:=Zo (G (M.o.trans a)) (G a) ((F.o.ext a).cell) ((V.o.ext ((aa _ _).trans a)).cell) (G (A.o.ext a));clear a o)|(go_at_call 125;refine(eQ ⟨g,az,aC,aA,ap,ar⟩ gl av lo _ z ag aw).mono ?_;rw[hca];unfold cG;rintro e aF ⟨rfl,a⟩;obtain⟨J,aS,aV⟩:=Zg (y.o.trans a) (z.o.ext a) (V.o.ext ((aa _ _).trans (R.o.trans a)));clear a));go_roundw
         case rel=>exact⟨j+1,by go_num,by omega,G (d.o.symm.trans ad),J,aS,aV⟩
         case measure=>simp[intOf];omega
        |error q=>
         obtain⟨aJ,n⟩:=q;rw[hca]at d;have d:=G d;have Z:=G (show ac= .error (aJ,n)from ad.o.symm.trans d);go_wp2_with (first|(go_at_call 177;refine(o.o _).mono ?_;rintro e af ⟨rfl,a⟩;obtain⟨y,R,ah,I,z⟩:=Zo (G (M.o.trans a)) (G a) ((F.o.ext a).cell) ((V.o.ext ((aa _ _).trans a)).cell) (G (A.o.ext a));clear a o)|(go_at_call 125;refine(eQ ⟨g,az,aC,aA,ap,ar⟩ gl av lo _ z ag aw).mono ?_;rw[hca];unfold cG bh;rintro e aF ⟨rfl,a⟩;have J:=G (y.o.trans a);clear a));exact⟨rfl,by rw[Z.o];rfl,J⟩
       ·have bM:(K !=3)=true:=by simpa using hk3
        have bO:(K==3)=false:=by simpa using hk3
        by_cases hk2:K=2
        ·subst hk2;simp[tA]at d;have d:=G d;go_wp2_with (go_at_call 177;refine(o.o _).mono ?_;rintro e af ⟨rfl,a⟩;obtain⟨y,R,ah,I,z⟩:=Zo (G (M.o.trans a)) (G a) ((F.o.ext a).cell) ((V.o.ext ((aa _ _).trans a)).cell) (G (A.o.ext a));clear a o);go_roundw
         case rel=>exact⟨j+1,by go_num,by omega,G (d.o.symm.trans ad),y,z,G (V.o.ext ((aa _ _).trans R.o))⟩
         case measure=>simp[intOf];omega
        ·have bN:(K !=2)=true:=by simpa using hk2
         have bQ:(K==2)=false:=by simpa using hk2
         simp[tA,hk3,hk2]at d;have d:=G d;have Z:=G (show ac= .error (nm,16)from ad.o.symm.trans d);go_wp2_with (first|(go_at_call 177;refine(o.o _).mono ?_;rintro e af ⟨rfl,a⟩;obtain⟨y,R,ah,I,z⟩:=Zo (G (M.o.trans a)) (G a) ((F.o.ext a).cell) ((V.o.ext ((aa _ _).trans a)).cell) (G (A.o.ext a));clear a o)|(go_at_call 65;refine(am.o _ _).mono ?_;unfold bh;rintro e bn ⟨rfl,a⟩;have J:=G (y.o.trans a);clear a am));exact⟨rfl,by rw[Z.o];rfl,J⟩
    ·have bV: ¬(j:Int)<N:=Qa
     have Z:=G (show ac= .ok () by
      have:=ad.o;rw[aK (by have:=bH.o;omega),wP]at this
      exact this.symm)
     go_wp2_with fail;exact bodyPost_end (results_none rfl _ _ _) rfl ⟨by rw[Z.o];rfl,al⟩
  ·have bm:=G (show ac= .error (nm,16) by rw[a5.o,if_neg hkN]);have cf:((ls.length:Int) !=(N:Int))=true:=Qg
   have cd:((ls.length:Int)==(N:Int))=false:=Qg
   clear bK bJ a5;go_enter func218,ntmps218;go_wp2_with (go_at_call 175;refine a8.o.mono ?_;rintro e bb ⟨rfl,a⟩;obtain⟨M,F⟩:=Zf (a6.o.trans a) (ba.o.ext a);have I:=F.o.cell;have A:=G (aT.o.ext a);clear a a8 ba aT a6);refine aB 12 1 [] mixed Qb trivial ?_;repeat (refine sx ?_ (λbb aj=> ?_) ?_;rotate_left;(focus have I:=(F.o.ext aj.un).cell;have b4:=(A.o.ext aj.un).blk.cell;have aP:=(A.o.ext aj.un).lookF bu;rw[bz]at aP;simp only[bX,fi,dC,dQ]at aP;clear aj;go_simp<;>with_reducible rfl);simp only[Za])
   intro bL ai _;simp only[ae,aU];obtain⟨bk,bI,a9⟩:=Zg (M.o.trans ai.un) (A.o.ext ai.un) (F.o.ext ai.un);clear I;have I:=a9.o.cell;clear ai M A F;go_wp2_with (go_at_call 65;refine(am.o _ _).mono ?_;unfold bh;rintro e af ⟨rfl,a⟩;have J:=G (bk.o.trans a);clear a am);exact⟨rfl,by rw[bm.o];rfl,J⟩
theorem vK (k:Int) (op nm tx:Zy) (v:Int) (xs:List Ex) (ad:nm.length<=1073741824) (ab:EY xs) (aj:k=5->JL op nm tx v xs):Hb (.mk k op nm tx v xs):=by
 intro X gl I lo P w z n c K J;obtain⟨am,af⟩: ∃an,tK gl lo (.mk k op nm tx v xs)=an:=⟨_,rfl⟩
 have V:=G (af.symm.trans (tK.eq_1 gl lo k op nm tx v xs));simp only[Ex.k,Ex.op,Ex.nm,Ex.tx,Ex.v,Ex.args]at*;rw[af];clear af;by_cases h3:k=3
 ·subst h3;have a:=V.o;rw[if_pos rfl]at a;have d:=G (aa w (.cells #[Zr .i64 3,Zt (ak op),Zt (ak nm),Zt (ak tx),Zr .i64 v,Zs z n c] 206));have F:=aq w 206 #[Zr .i64 3,Zt (ak op),Zt (ak nm),Zt (ak tx),Zr .i64 v,Zs z n c];obtain⟨Z,A,M⟩:=Zg F (K.ext d) (J.keep (.of_ext d.o) (Q:=P) (λb H _=>H));clear K J F
  cases hr:rT gl lo nm with
  |ok u=>
   have y:=G (a.trans hr);go_enter func176,ntmps176;go_wp2_with (go_at_call 124;refine(fE X gl I lo _ A nm ad).mono ?_;rw[hr];unfold cG;rintro e R ⟨rfl,a⟩;have o:=G (d.o.trans a);clear a);exact bodyPost_end (results_none rfl _ _ _) rfl ⟨by rw[y.o];rfl,o⟩
  |error q=>
   obtain⟨ac,m⟩:=q;have y:=G (a.trans hr);go_enter func176,ntmps176;go_wp2_with (go_at_call 124;refine(fE X gl I lo _ A nm ad).mono ?_;rw[hr];unfold cG bh;rintro e R ⟨rfl,a⟩;have o:=G (d.o.trans a);clear a);exact⟨rfl,by rw[y.o];rfl,o⟩
 by_cases h4:k=4
 ·subst h4;have a:=V.o;rw[if_neg Qd,if_pos rfl]at a;have d:=G (aa w (.cells #[Zr .i64 4,Zt (ak op),Zt (ak nm),Zt (ak tx),Zr .i64 v,Zs z n c] 206));have F:=aq w 206 #[Zr .i64 4,Zt (ak op),Zt (ak nm),Zt (ak tx),Zr .i64 v,Zs z n c];obtain⟨Z,A,M⟩:=Zg F (K.ext d) (J.keep (.of_ext d.o) (Q:=P) (λb H _=>H));clear K J F
  cases hr:mC gl lo nm with
  |ok u=>
   rw[hr,fI]at a
   cases hs:tn gl lo xs with
   |ok u=>
    have y:=G (a.trans hs);go_enter func176,ntmps176;go_wp2_with (first|(go_at_call 125;refine(eQ X gl I lo _ A nm ad).mono ?_;rw[hr];unfold cG;rintro e R ⟨rfl,a⟩;have o:=G (d.o.trans a);have ae:=G a;have al:=(Z.o.ext a).cell;clear a)|(go_at_call 126;refine(ab X gl I lo P _ z n c (A.o.ext ae) (M.o.keep (.of_ext ae.o) (λb H _=>H))).mono ?_;rw[hs];unfold cG;rintro e ai ⟨rfl,a⟩;have ag:=G (o.o.trans a);clear a));exact bodyPost_end (results_none rfl _ _ _) rfl ⟨by rw[y.o];rfl,ag⟩
   |error q=>
    obtain⟨ac,m⟩:=q;have y:=G (a.trans hs);go_enter func176,ntmps176;go_wp2_with (first|(go_at_call 125;refine(eQ X gl I lo _ A nm ad).mono ?_;rw[hr];unfold cG;rintro e R ⟨rfl,a⟩;have o:=G (d.o.trans a);have ae:=G a;have al:=(Z.o.ext a).cell;clear a)|(go_at_call 126;refine(ab X gl I lo P _ z n c (A.o.ext ae) (M.o.keep (.of_ext ae.o) (λb H _=>H))).mono ?_;rw[hs];unfold cG bh;rintro e ai ⟨rfl,a⟩;have ag:=G (o.o.trans a);clear a));exact⟨rfl,by rw[y.o];rfl,ag⟩
  |error q=>
   obtain⟨ac,m⟩:=q;rw[hr,gz]at a;have y:=G a;go_enter func176,ntmps176;go_wp2_with (go_at_call 125;refine(eQ X gl I lo _ A nm ad).mono ?_;rw[hr];unfold cG bh;rintro e R ⟨rfl,a⟩;have o:=G (d.o.trans a);clear a);exact⟨rfl,by rw[y.o];rfl,o⟩
 by_cases h2:k=2
 ·subst h2;have a:=V.o;rw[if_neg Qd,if_neg Qd,if_pos rfl]at a;have y:=G a;have d:=G (aa w (.cells #[Zr .i64 2,Zt (ak op),Zt (ak nm),Zt (ak tx),Zr .i64 v,Zs z n c] 206));have F:=aq w 206 #[Zr .i64 2,Zt (ak op),Zt (ak nm),Zt (ak tx),Zr .i64 v,Zs z n c];obtain⟨Z,A,M⟩:=Zg F (K.ext d) (J.keep (.of_ext d.o) (Q:=P) (λb H _=>H));clear K J F;have ao:=G (λW=>show Calls prog 65 #[Zt ⟨#[]⟩,Zr .i64 16] W λe w'=>e=bh [] 16/\au W w' from ew [] 16 W);go_enter func176,ntmps176;go_wp2_with (go_at_call 65;refine(ao.o _).mono ?_;unfold bh;rintro e R ⟨rfl,a⟩;have o:=G (d.o.trans a);clear a);exact⟨rfl,by rw[y.o];rfl,o⟩
 by_cases h5:k=5
 ·subst h5;obtain⟨ah,V,d,F⟩:=Zn (G (aj rfl)) (G (show tK gl lo (.mk 5 op nm tx v xs)=am by rw[V.o,tK])) (G (aa w (.cells #[Zr .i64 5,Zt (ak op),Zt (ak nm),Zt (ak tx),Zr .i64 v,Zs z n c] 206))) (aq w 206 #[Zr .i64 5,Zt (ak op),Zt (ak nm),Zt (ak tx),Zr .i64 v,Zs z n c]);obtain⟨Z,A,M⟩:=Zg F (K.ext d) (J.keep (.of_ext d.o) (Q:=P) (λb H _=>H));clear K J F
  cases hr:tK gl lo (.mk 5 op nm tx v xs)with
  |ok u=>
   have y:=G (V.o.symm.trans hr);go_enter func176,ntmps176;go_wp2_with (go_at_call 218;refine(ah.o X gl I lo P _ z n c A M).mono ?_;rw[hr];unfold cG;rintro e R ⟨rfl,a⟩;have o:=G (d.o.trans a);clear a);exact bodyPost_end (results_none rfl _ _ _) rfl ⟨by rw[y.o];rfl,o⟩
  |error q=>
   obtain⟨ac,m⟩:=q;have y:=G (V.o.symm.trans hr);go_enter func176,ntmps176;go_wp2_with (go_at_call 218;refine(ah.o X gl I lo P _ z n c A M).mono ?_;rw[hr];unfold cG bh;rintro e R ⟨rfl,a⟩;have o:=G (d.o.trans a);clear a);exact⟨rfl,by rw[y.o];rfl,o⟩
 by_cases h6:k=6
 ·subst h6;have a:=V.o;rw[if_neg Qd,if_neg Qd,if_neg Qd,if_neg Qd,if_pos Qd]at a;have d:=G (aa w (.cells #[Zr .i64 6,Zt (ak op),Zt (ak nm),Zt (ak tx),Zr .i64 v,Zs z n c] 206));have F:=aq w 206 #[Zr .i64 6,Zt (ak op),Zt (ak nm),Zt (ak tx),Zr .i64 v,Zs z n c];obtain⟨Z,A,M⟩:=Zg F (K.ext d) (J.keep (.of_ext d.o) (Q:=P) (λb H _=>H));clear K J F
  cases hr:tn gl lo xs with
  |ok u=>
   have y:=G (a.trans hr);go_enter func176,ntmps176;go_wp2_with (go_at_call 126;refine(ab X gl I lo P _ z n c A M).mono ?_;rw[hr];unfold cG;rintro e R ⟨rfl,a⟩;have o:=G (d.o.trans a);clear a);exact bodyPost_end (results_none rfl _ _ _) rfl ⟨by rw[y.o];rfl,o⟩
  |error q=>
   obtain⟨ac,m⟩:=q;have y:=G (a.trans hr);go_enter func176,ntmps176;go_wp2_with (go_at_call 126;refine(ab X gl I lo P _ z n c A M).mono ?_;rw[hr];unfold cG bh;rintro e R ⟨rfl,a⟩;have o:=G (d.o.trans a);clear a);exact⟨rfl,by rw[y.o];rfl,o⟩
 by_cases h7:k=7
 ·subst h7;have a:=V.o;rw[if_neg Qd,if_neg Qd,if_neg Qd,if_neg Qd,if_pos Qd]at a;have d:=G (aa w (.cells #[Zr .i64 7,Zt (ak op),Zt (ak nm),Zt (ak tx),Zr .i64 v,Zs z n c] 206));have F:=aq w 206 #[Zr .i64 7,Zt (ak op),Zt (ak nm),Zt (ak tx),Zr .i64 v,Zs z n c];obtain⟨Z,A,M⟩:=Zg F (K.ext d) (J.keep (.of_ext d.o) (Q:=P) (λb H _=>H));clear K J F
  cases hr:tn gl lo xs with
  |ok u=>
   have y:=G (a.trans hr);go_enter func176,ntmps176;go_wp2_with (go_at_call 126;refine(ab X gl I lo P _ z n c A M).mono ?_;rw[hr];unfold cG;rintro e R ⟨rfl,a⟩;have o:=G (d.o.trans a);clear a);exact bodyPost_end (results_none rfl _ _ _) rfl ⟨by rw[y.o];rfl,o⟩
  |error q=>
   obtain⟨ac,m⟩:=q;have y:=G (a.trans hr);go_enter func176,ntmps176;go_wp2_with (go_at_call 126;refine(ab X gl I lo P _ z n c A M).mono ?_;rw[hr];unfold cG bh;rintro e R ⟨rfl,a⟩;have o:=G (d.o.trans a);clear a);exact⟨rfl,by rw[y.o];rfl,o⟩
 have a:=V.o;rw[if_neg h3,if_neg h4,if_neg h2,if_neg h5,if_neg Qa]at a;obtain⟨y,o,ax,aw,ay,av,ar⟩:=Zq (G a) (G (aa w (.cells #[Zr .i64 k,Zt (ak op),Zt (ak nm),Zt (ak tx),Zr .i64 v,Zs z n c] 206))) (Qn.2 h3) (Qn.2 h4) (Qn.2 h2) (Qn.2 h5) (Qn.2 h6);have ap:=Qn.2 h7;clear K J;go_enter func176,ntmps176;go_wp2_with fail;exact bodyPost_end (results_none rfl _ _ _) rfl ⟨by rw[y.o];rfl,o⟩
theorem ru: ∀(m:Nat) (x:Ex),x.wt<=m->x.wt<=1073741824->Hb x
 |0,x,h,_=>absurd h (by have:=x.wt_eq;omega)
 |m+1, .mk k op nm tx v xs,h,hw=>by
  rw[Ex.wt]at h hw;have o: ∀a∈xs,Hb a:=λa d=>ru m a (by have:=em d;omega) (by have:=em d;omega);have A:=eg xs;have y: ∀a∈xs,a.nm.length<=1073741824:=λa d=>by have:=em d;have:=a.wt_eq;omega
  refine vK k op nm tx v xs Qa (rL xs Qa o) λF=> ?_
  cases hb:gh nm with
  |none=>exact vM op nm tx v xs Qa Qa hb o
  |some b=>
   obtain⟨z,ls⟩:=b;have u:=xP nm;rw[hb]at u;exact vL op nm tx v xs Qa Qa z ls hb u o y
theorem vJ (xs:List Ex) (h:gD xs<=1073741824):EY xs:=rL xs (by have:=eg xs;omega) λa d=>ru _ a (ah _) (by have:=em d;omega)
def qL (X:CB) (gl:Gl) (bl:Nat) (r:SR) (w:World) (e:Ending) (w':World):Prop:=w.grownBy w' (some bl)/\match r with
 | .ok lo=>e= .returned (Zx #[])/\CK X gl (.map (some bl)) lo w'
 | .error (nm,n)=>e=bh nm n
section
variable {X:CB} {gl:Gl} {lo lo':Ls} {w W W':World} {bl pb:Nat} {P:Nat->Prop}
theorem CK.ml (a:CK X gl (.map (some bl)) lo w):cB w bl (F6 lo)/\bl≠X.g/\bl≠X.bi/\bl≠X.ba/\bl≠X.bf:=by
 rcases a.l with⟨a,_⟩|⟨b,a,hm⟩
 ·cases a
 ·injection a with a;injection a with a;subst a;exact hm
theorem CK.lt_bl (a:CK X gl (.map (some bl)) lo w):bl<w.heap.size:=a.ml.1.lt
theorem CK.t_ne (d:CK X gl (.map (some bl)) lo w):bl≠1:=by
 rintro rfl;obtain⟨t,fr,h⟩:=d.t;obtain⟨es,c,a,_⟩:=d.ml.1;rw[h]at a;cases a
theorem CK.add {nm:Zy} (d:CK X gl (.map (some bl)) lo w) (G:cB W bl ((F6 lo).upd nm (Zv true))) (o:w.grownBy W (some bl)):CK X gl (.map (some bl)) (lo.add nm) W:=by
 obtain⟨I,F,A,z,y⟩:=d.ml;have h: ∀k,bl≠k->some k≠some bl:=λk H e=>H (by injection e with e;exact e.symm);refine⟨d.blk.grown o (h _ F),d.i.grown o (h _ A),d.a.grown o (h _ z),d.f.grown o (h _ y), .inr ⟨bl,rfl,G.congr λs=> ?_,F,A,z,y⟩,?_⟩
 ·unfold KF.upd F6 Ls.add;by_cases e:s=nm
  ·subst e;simp
  ·simp[e]
 ·obtain⟨t,fr,u⟩:=d.t;exact⟨t,fr,(o.block _ (Array.getElem?_eq_some_iff.1 u).1 (h _ d.t_ne)).trans u⟩
structure SQ (w:World) (pb bl:Nat) (P:Nat->Prop) (X:CB) (gl:Gl) (lo:Ls) (cs:Array Value) (ex:List Ex) (bd el:List St) (A1 A2 A3:Option Addr) (c1 c2 c3:Nat) (W:World):Prop where
 gr:w.grownBy W (some bl)
 ck:CK X gl (.map (some bl)) lo W
 bk:aM W pb 147 cs
 re:dL W P (Zs A1 ex.length c1) ex
 rb:ed W P (Zs A2 bd.length c2) bd
 rl:ed W P (Zs A3 el.length c3) el
 hP: ∀b,P b->b≠bl
 ne:bl≠pb
variable {cs:Array Value} {ex:List Ex} {bd el:List St} {A1 A2 A3:Option Addr} {c1 c2 c3:Nat}
theorem SQ.ext (a:SQ w pb bl P X gl lo cs ex bd el A1 A2 A3 c1 c2 c3 W) (d:au W W'):SQ w pb bl P X gl lo cs ex bd el A1 A2 A3 c1 c2 c3 W':=
 ⟨a.gr.trans (d.grownBy _),a.ck.ext d,a.bk.ext d,a.re.keep (.of_ext d) (λb h _=>h),a.rb.keep (.of_ext d) (λb h _=>h),a.rl.keep (.of_ext d) (λb h _=>h),a.hP,a.ne⟩
theorem SQ.grown (a:SQ w pb bl P X gl lo cs ex bd el A1 A2 A3 c1 c2 c3 W) (o:W.grownBy W' (some bl)) (u:CK X gl (.map (some bl)) lo' W'):SQ w pb bl P X gl lo' cs ex bd el A1 A2 A3 c1 c2 c3 W':=by
 have h:dE P W W':= .of_grown o (λb d e=>a.hP b d (by injection e));exact⟨a.gr.trans o,u,a.bk.grown o (λe=>a.ne (by injection e with e;exact e.symm)),a.re.keep h (λb d _=>d),a.rb.keep h (λb d _=>d),a.rl.keep h (λb d _=>d),a.hP,a.ne⟩
theorem SQ.ml (a:SQ w pb bl P X gl lo cs ex bd el A1 A2 A3 c1 c2 c3 W):cB W bl (F6 lo):=a.ck.ml.1
end
theorem zj {gl:Gl} {lo:Ls} {l:List St} {j:Nat} (d:j<l.length):iX gl lo (l.drop j)=CR.then (GR gl lo l[j]) λa=>iX gl a (l.drop (j+1)):=by
 rw[ap d,iX]
def EX (xs:List St):Prop:= ∀(X:CB) (gl:Gl) (bl:Nat) (lo:Ls) (P:Nat->Prop) (w:World) (A:Option Addr) (n c:Nat),CK X gl (.map (some bl)) lo w->ed w P (Zs A n c) xs->(∀b,P b->b≠bl)->
 Calls prog 66 #[X.p,Zs A n c] w (qL X gl bl (iX gl lo xs) w)
theorem p5 (xs:List St) (bb:xs.length<=1073741824) (aT: ∀s∈xs,s.nm.length<=1073741824) (aW: ∀s∈xs,EY s.ex) (aV: ∀s∈xs,EX s.body/\EX s.els):EX xs:=by
 intro X gl bl lo P w bE n c aU aL V;obtain⟨bD,c',a9,bc⟩:=aL.form;injection a9 with a8 a7 a6;subst a8 a7 a6;obtain⟨aN,a4,a2,a5,bi⟩:=Zi aL aV aT aW aU;obtain⟨N,aC⟩: ∃N,xs.length=N:=⟨_,rfl⟩
 have a3:=G aC;rw[aC]at aN bb;obtain⟨ac,aJ⟩: ∃be,iX gl lo xs=be:=⟨_,rfl⟩
 obtain⟨bg,bf⟩:=Zf (show iX gl lo (xs.drop 0)=ac from aJ) (World.grownBy.refl w (some bl));clear aL bc aV aU aT aW;rw[aC,aJ];clear aC aJ;simp only[CB.p]at*;go_enter func66,ntmps66;go_wp2_with fail
 go_loopw [8] (λaI wr=> ∃(j:Nat) (z:Ls),aI=Zr .i64 (j:Int)/\j<=N/\Hid (iX gl z (xs.drop j)=ac)/\Hid (w.grownBy wr (some bl))/\Hid (CK X gl (.map (some bl)) z wr)) (λaI _=>N-(intOf aI).toNat)
 case atStart=>exact⟨0,lo,rfl,aD _,bg,bf,bi⟩
 case round=>
  obtain⟨j,z,rfl,bt,Z,aM,aO⟩:=hrel;by_cases hlt:j<N
  ·have ba:(j:Int)<N:=Qa
   have ar:j<xs.length:=by have:=a3.o;omega
   obtain⟨b,bj,e,bC,bq,rfl,ab,az,aG,aF,aZ,aY,aX,av,ax,au⟩:=aN.o.at_ j ar;obtain⟨A,af,aE,aA⟩:=Zn (zj (gl:=gl) (lo:=z) ar) (a2.o _ (ay ar)) (a5.o _ (ay ar)) (a4.o _ (ay ar));obtain⟨aH,aS⟩: ∃aH,xs[j]=aH:=⟨_,rfl⟩
   rw[aS]at aG aF av ax au A af aE aA;clear aS;obtain⟨k,nm,ex,bd,el⟩:=aH;simp only[St.k,St.nm,St.ex,St.body,St.els]at aG aF av ax au af aE aA;have al:dE P w wr:= .of_grown aM.o (λb ab e=>V b ab (by injection e));obtain⟨e0,bB,bz,bv,bu⟩:=Zo ((al.cell _ az ab).trans aG) ((al.cell _ az ab).trans aF) ((al.cell _ az ab).trans aZ) ((al.cell _ az ab).trans aY) ((al.cell _ az ab).trans aX);obtain⟨A1,c1,rfl,_⟩:=av.form;obtain⟨A2,c2,rfl,_⟩:=ax.form;obtain⟨A3,c3,rfl,_⟩:=au.form;have ap:=aa wr (.cells #[Zr .i64 k,Zt (ak nm),Zs A1 ex.length c1,Zs A2 bd.length c2,Zs A3 el.length c3] 147)
   have a:=G (show SQ w wr.heap.size bl P X gl z #[Zr .i64 k,Zt (ak nm),Zs A1 ex.length c1,Zs A2 bd.length c2,Zs A3 el.length c3] ex bd el A1 A2 A3 c1 c2 c3 (wr.alloc (.cells #[Zr .i64 k,Zt (ak nm),Zs A1 ex.length c1,Zs A2 bd.length c2,Zs A3 el.length c3] 147))from
    ⟨aM.o.trans (ap.grownBy _),aO.o.ext ap,aq wr _ _,(av.keep al (Q:=P) (λb ab _=>ab)).keep (.of_ext ap) (λb ab _=>ab),(ax.keep al (Q:=P) (λb ab _=>ab)).keep (.of_ext ap) (λb ab _=>ab),(au.keep al (Q:=P) (λb ab _=>ab)).keep (.of_ext ap) (λb ab _=>ab),V,ge aO.o.lt_bl⟩)
   obtain⟨ad,R,ag⟩:=Zg aE aA.1 aA.2;clear aG aF aZ aY aX av ax au aE aA ap al aN a4 a5 a2;rw[GR]at A;by_cases hk2:k=2
   ·subst hk2;rw[if_pos rfl]at A
    cases hr1:rT gl z nm with
    |error q=>
     obtain⟨M,m⟩:=q;rw[hr1,gz]at A;have J:=G (show ac= .error (M,m)from Z.o.symm.trans A);go_wp2_with (go_at_call 124;refine(fE X gl _ z _ a.o.ck nm af).mono ?_;rw[hr1];unfold cG bh;rintro e H ⟨rfl,d⟩;have K:=G (a.o.gr.trans (d.grownBy _));clear d);exact⟨rfl,by rw[J.o];exact⟨K,rfl⟩⟩
    |ok u=>
     rw[hr1,fI]at A
     cases hr2:tn gl z ex with
     |error q=>
      obtain⟨M,m⟩:=q;rw[hr2,gz]at A;have J:=G (show ac= .error (M,m)from Z.o.symm.trans A);go_wp2_with (first|(go_at_call 124;refine(fE X gl _ z _ a.o.ck nm af).mono ?_;rw[hr1];unfold cG;rintro e H ⟨rfl,d⟩;replace a:=G (a.o.ext d);clear d;(try clear o);have o:=a.o.bk.cell;)|(go_at_call 126;refine(ad.o X gl _ z P _ A1 ex.length c1 a.o.ck a.o.re).mono ?_;rw[hr2];unfold cG bh;rintro e H ⟨rfl,d⟩;have K:=G (a.o.gr.trans (d.grownBy _));clear d));exact⟨rfl,by rw[J.o];exact⟨K,rfl⟩⟩
     |ok u=>
      rw[hr2,fI]at A;rw[if_neg Qd,fI]at A;obtain⟨ao,aj⟩: ∃l,z=l:=⟨_,rfl⟩
      subst aj
      cases hr4:iX gl z bd with
      |error q=>
       obtain⟨M,m⟩:=q;rw[hr4,gz]at A;have J:=G (show ac= .error (M,m)from Z.o.symm.trans A);go_wp2_with (first|(go_at_call 124;refine(fE X gl _ z _ a.o.ck nm af).mono ?_;rw[hr1];unfold cG;rintro e H ⟨rfl,d⟩;replace a:=G (a.o.ext d);clear d;(try clear o);have o:=a.o.bk.cell;)|(go_at_call 126;refine(ad.o X gl _ z P _ A1 ex.length c1 a.o.ck a.o.re).mono ?_;rw[hr2];unfold cG;rintro e H ⟨rfl,d⟩;replace a:=G (a.o.ext d);clear d;(try clear o);have o:=a.o.bk.cell;)|(go_at_call 66;have y:=R.o X gl bl z P _ A2 bd.length c2 a.o.ck a.o.rb V;rw[hr4]at y;clear R;refine y.mono ?_;unfold qL bh;rintro e H ⟨F,rfl⟩;have K:=G (a.o.gr.trans F);clear F y));exact⟨rfl,by rw[J.o];exact⟨K,rfl⟩⟩
      |ok lo2=>
       rw[hr4,fI]at A
       cases hr5:iX gl lo2 el with
       |error q=>
        obtain⟨M,m⟩:=q;rw[hr5,gz]at A;have J:=G (show ac= .error (M,m)from Z.o.symm.trans A);go_wp2_with (first|(go_at_call 124;refine(fE X gl _ z _ a.o.ck nm af).mono ?_;rw[hr1];unfold cG;rintro e H ⟨rfl,d⟩;replace a:=G (a.o.ext d);clear d;(try clear o);have o:=a.o.bk.cell;)|(go_at_call 126;refine(ad.o X gl _ z P _ A1 ex.length c1 a.o.ck a.o.re).mono ?_;rw[hr2];unfold cG;rintro e H ⟨rfl,d⟩;replace a:=G (a.o.ext d);clear d;(try clear o);have o:=a.o.bk.cell;)|(go_at_call 66;have y:=R.o X gl bl z P _ A2 bd.length c2 a.o.ck a.o.rb V;rw[hr4]at y;clear R;refine y.mono ?_;unfold qL;rintro e H ⟨F,rfl,I⟩;replace a:=G (a.o.grown F I);clear F I y;(try clear o);have o:=a.o.bk.cell;)|(go_at_call 66;have y:=ag.o X gl bl lo2 P _ A3 el.length c3 a.o.ck a.o.rl V;rw[hr5]at y;clear ag;refine y.mono ?_;unfold qL bh;rintro e H ⟨F,rfl⟩;have K:=G (a.o.gr.trans F);clear F y));exact⟨rfl,by rw[J.o];exact⟨K,rfl⟩⟩
       |ok lo3=>
        rw[hr5,fI]at A;go_wp2_with (first|(go_at_call 124;refine(fE X gl _ z _ a.o.ck nm af).mono ?_;rw[hr1];unfold cG;rintro e H ⟨rfl,d⟩;replace a:=G (a.o.ext d);clear d;(try clear o);have o:=a.o.bk.cell;)|(go_at_call 126;refine(ad.o X gl _ z P _ A1 ex.length c1 a.o.ck a.o.re).mono ?_;rw[hr2];unfold cG;rintro e H ⟨rfl,d⟩;replace a:=G (a.o.ext d);clear d;(try clear o);have o:=a.o.bk.cell;)|(go_at_call 66;have y:=R.o X gl bl z P _ A2 bd.length c2 a.o.ck a.o.rb V;rw[hr4]at y;clear R;refine y.mono ?_;unfold qL;rintro e H ⟨F,rfl,I⟩;replace a:=G (a.o.grown F I);clear F I y;(try clear o);have o:=a.o.bk.cell;)|(go_at_call 66;have y:=ag.o X gl bl lo2 P _ A3 el.length c3 a.o.ck a.o.rl V;rw[hr5]at y;clear ag;refine y.mono ?_;unfold qL;rintro e H ⟨F,rfl,I⟩;replace a:=G (a.o.grown F I);clear F I y;(try clear o);have o:=a.o.bk.cell;));go_roundw
        case rel=>exact⟨j+1,lo3,by go_num,by omega,G (A.symm.trans Z),G a.o.gr,G a.o.ck⟩
        case measure=>simp[intOf];omega
   by_cases hk3:k=3
   ·subst hk3;rw[if_neg Qd,if_pos rfl]at A
    cases hr1:mC gl z nm with
    |error q=>
     obtain⟨M,m⟩:=q;rw[hr1,gz]at A;have J:=G (show ac= .error (M,m)from Z.o.symm.trans A);go_wp2_with (go_at_call 125;refine(eQ X gl _ z _ a.o.ck nm af).mono ?_;rw[hr1];unfold cG bh;rintro e H ⟨rfl,d⟩;have K:=G (a.o.gr.trans (d.grownBy _));clear d);exact⟨rfl,by rw[J.o];exact⟨K,rfl⟩⟩
    |ok u=>
     rw[hr1,fI]at A
     cases hr2:tn gl z ex with
     |error q=>
      obtain⟨M,m⟩:=q;rw[hr2,gz]at A;have J:=G (show ac= .error (M,m)from Z.o.symm.trans A);go_wp2_with (first|(go_at_call 125;refine(eQ X gl _ z _ a.o.ck nm af).mono ?_;rw[hr1];unfold cG;rintro e H ⟨rfl,d⟩;replace a:=G (a.o.ext d);clear d;(try clear o);have o:=a.o.bk.cell;)|(go_at_call 126;refine(ad.o X gl _ z P _ A1 ex.length c1 a.o.ck a.o.re).mono ?_;rw[hr2];unfold cG bh;rintro e H ⟨rfl,d⟩;have K:=G (a.o.gr.trans (d.grownBy _));clear d));exact⟨rfl,by rw[J.o];exact⟨K,rfl⟩⟩
     |ok u=>
      rw[hr2,fI]at A;rw[if_neg Qd,fI]at A;obtain⟨ao,aj⟩: ∃l,z=l:=⟨_,rfl⟩
      subst aj
      cases hr4:iX gl z bd with
      |error q=>
       obtain⟨M,m⟩:=q;rw[hr4,gz]at A;have J:=G (show ac= .error (M,m)from Z.o.symm.trans A);go_wp2_with (first|(go_at_call 125;refine(eQ X gl _ z _ a.o.ck nm af).mono ?_;rw[hr1];unfold cG;rintro e H ⟨rfl,d⟩;replace a:=G (a.o.ext d);clear d;(try clear o);have o:=a.o.bk.cell;)|(go_at_call 126;refine(ad.o X gl _ z P _ A1 ex.length c1 a.o.ck a.o.re).mono ?_;rw[hr2];unfold cG;rintro e H ⟨rfl,d⟩;replace a:=G (a.o.ext d);clear d;(try clear o);have o:=a.o.bk.cell;)|(go_at_call 66;have y:=R.o X gl bl z P _ A2 bd.length c2 a.o.ck a.o.rb V;rw[hr4]at y;clear R;refine y.mono ?_;unfold qL bh;rintro e H ⟨F,rfl⟩;have K:=G (a.o.gr.trans F);clear F y));exact⟨rfl,by rw[J.o];exact⟨K,rfl⟩⟩
      |ok lo2=>
       rw[hr4,fI]at A
       cases hr5:iX gl lo2 el with
       |error q=>
        obtain⟨M,m⟩:=q;rw[hr5,gz]at A;have J:=G (show ac= .error (M,m)from Z.o.symm.trans A);go_wp2_with (first|(go_at_call 125;refine(eQ X gl _ z _ a.o.ck nm af).mono ?_;rw[hr1];unfold cG;rintro e H ⟨rfl,d⟩;replace a:=G (a.o.ext d);clear d;(try clear o);have o:=a.o.bk.cell;)|(go_at_call 126;refine(ad.o X gl _ z P _ A1 ex.length c1 a.o.ck a.o.re).mono ?_;rw[hr2];unfold cG;rintro e H ⟨rfl,d⟩;replace a:=G (a.o.ext d);clear d;(try clear o);have o:=a.o.bk.cell;)|(go_at_call 66;have y:=R.o X gl bl z P _ A2 bd.length c2 a.o.ck a.o.rb V;rw[hr4]at y;clear R;refine y.mono ?_;unfold qL;rintro e H ⟨F,rfl,I⟩;replace a:=G (a.o.grown F I);clear F I y;(try clear o);have o:=a.o.bk.cell;)|(go_at_call 66;have y:=ag.o X gl bl lo2 P _ A3 el.length c3 a.o.ck a.o.rl V;rw[hr5]at y;clear ag;refine y.mono ?_;unfold qL bh;rintro e H ⟨F,rfl⟩;have K:=G (a.o.gr.trans F);clear F y));exact⟨rfl,by rw[J.o];exact⟨K,rfl⟩⟩
       |ok lo3=>
        rw[hr5,fI]at A;go_wp2_with (first|(go_at_call 125;refine(eQ X gl _ z _ a.o.ck nm af).mono ?_;rw[hr1];unfold cG;rintro e H ⟨rfl,d⟩;replace a:=G (a.o.ext d);clear d;(try clear o);have o:=a.o.bk.cell;)|(go_at_call 126;refine(ad.o X gl _ z P _ A1 ex.length c1 a.o.ck a.o.re).mono ?_;rw[hr2];unfold cG;rintro e H ⟨rfl,d⟩;replace a:=G (a.o.ext d);clear d;(try clear o);have o:=a.o.bk.cell;)|(go_at_call 66;have y:=R.o X gl bl z P _ A2 bd.length c2 a.o.ck a.o.rb V;rw[hr4]at y;clear R;refine y.mono ?_;unfold qL;rintro e H ⟨F,rfl,I⟩;replace a:=G (a.o.grown F I);clear F I y;(try clear o);have o:=a.o.bk.cell;)|(go_at_call 66;have y:=ag.o X gl bl lo2 P _ A3 el.length c3 a.o.ck a.o.rl V;rw[hr5]at y;clear ag;refine y.mono ?_;unfold qL;rintro e H ⟨F,rfl,I⟩;replace a:=G (a.o.grown F I);clear F I y;(try clear o);have o:=a.o.bk.cell;));go_roundw
        case rel=>exact⟨j+1,lo3,by go_num,by omega,G (A.symm.trans Z),G a.o.gr,G a.o.ck⟩
        case measure=>simp[intOf];omega
   by_cases hk1:k=1
   ·subst hk1;rw[if_neg Qd,if_neg Qd,fI]at A
    cases hr2:tn gl z ex with
    |error q=>
     obtain⟨M,m⟩:=q;rw[hr2,gz]at A;have J:=G (show ac= .error (M,m)from Z.o.symm.trans A);go_wp2_with (go_at_call 126;refine(ad.o X gl _ z P _ A1 ex.length c1 a.o.ck a.o.re).mono ?_;rw[hr2];unfold cG bh;rintro e H ⟨rfl,d⟩;have K:=G (a.o.gr.trans (d.grownBy _));clear d);exact⟨rfl,by rw[J.o];exact⟨K,rfl⟩⟩
    |ok u=>
     rw[hr2,fI]at A;rw[if_pos rfl]at A
     cases hr3:gl.known z nm with
     |true=>
      rw[hr3,if_pos rfl,gz]at A;have J:=G (show ac= .error (nm,9)from Z.o.symm.trans A);go_wp2_with (first|(go_at_call 126;refine(ad.o X gl _ z P _ A1 ex.length c1 a.o.ck a.o.re).mono ?_;rw[hr2];unfold cG;rintro e H ⟨rfl,d⟩;replace a:=G (a.o.ext d);clear d;(try clear o);have o:=a.o.bk.cell;)|(go_at_call 64;refine(eA X gl _ z _ a.o.ck nm af).mono ?_;rw[hr3];rintro e H ⟨rfl,d⟩;replace a:=G (a.o.ext d);clear d;(try clear o);have o:=a.o.bk.cell;)|(go_at_call 65;refine(ew nm 9 _).mono ?_;unfold bh;rintro e H ⟨rfl,d⟩;have K:=G (a.o.gr.trans (d.grownBy _));clear d));exact⟨rfl,by rw[J.o];exact⟨K,rfl⟩⟩
     |false=>
      rw[hr3,if_neg Qd,fI]at A;obtain⟨ao,aj⟩: ∃l,z.add nm=l:=⟨_,rfl⟩
      rw[aj]at A
      cases hr4:iX gl ao bd with
      |error q=>
       obtain⟨M,m⟩:=q;rw[hr4,gz]at A;have J:=G (show ac= .error (M,m)from Z.o.symm.trans A);go_wp2_with (first|(go_at_call 126;refine(ad.o X gl _ z P _ A1 ex.length c1 a.o.ck a.o.re).mono ?_;rw[hr2];unfold cG;rintro e H ⟨rfl,d⟩;replace a:=G (a.o.ext d);clear d;(try clear o);have o:=a.o.bk.cell;)|(go_at_call 64;refine(eA X gl _ z _ a.o.ck nm af).mono ?_;rw[hr3];rintro e H ⟨rfl,d⟩;replace a:=G (a.o.ext d);clear d;(try clear o);have o:=a.o.bk.cell;));refine aB 6 1 [] mixed Qb trivial ?_;repeat (refine Zd (λ_ ai=>(a.o.ext ai.un).bk.cell) (λ_ ai=>(a.o.ext ai.un).ck.blk.cell) ?_;simp only[Za])
       intro aQ am _;simp only[ae,aw];replace a:=G (a.o.ext am.un);clear am;(try clear o);go_wp2_with (at_mapUpdate;refine eU Ff rfl _ _ _ rfl a.o.ml rfl Qj rfl _ rfl ?_;intro aP an ah;replace a:=G (a.o.grown ah (a.o.ck.add an ah));clear an ah;have o:=a.o.bk.cell);rw[aj]at a;go_wp2_with (go_at_call 66;have y:=R.o X gl bl ao P _ A2 bd.length c2 a.o.ck a.o.rb V;rw[hr4]at y;clear R;refine y.mono ?_;unfold qL bh;rintro e H ⟨F,rfl⟩;have K:=G (a.o.gr.trans F);clear F y);exact⟨rfl,by rw[J.o];exact⟨K,rfl⟩⟩
      |ok lo2=>
       rw[hr4,fI]at A
       cases hr5:iX gl lo2 el with
       |error q=>
        obtain⟨M,m⟩:=q;rw[hr5,gz]at A;have J:=G (show ac= .error (M,m)from Z.o.symm.trans A);go_wp2_with (first|(go_at_call 126;refine(ad.o X gl _ z P _ A1 ex.length c1 a.o.ck a.o.re).mono ?_;rw[hr2];unfold cG;rintro e H ⟨rfl,d⟩;replace a:=G (a.o.ext d);clear d;(try clear o);have o:=a.o.bk.cell;)|(go_at_call 64;refine(eA X gl _ z _ a.o.ck nm af).mono ?_;rw[hr3];rintro e H ⟨rfl,d⟩;replace a:=G (a.o.ext d);clear d;(try clear o);have o:=a.o.bk.cell;));refine aB 6 1 [] mixed Qb trivial ?_;repeat (refine Zd (λ_ ai=>(a.o.ext ai.un).bk.cell) (λ_ ai=>(a.o.ext ai.un).ck.blk.cell) ?_;simp only[Za])
        intro aQ am _;simp only[ae,aw];replace a:=G (a.o.ext am.un);clear am;(try clear o);go_wp2_with (at_mapUpdate;refine eU Ff rfl _ _ _ rfl a.o.ml rfl Qj rfl _ rfl ?_;intro aP an ah;replace a:=G (a.o.grown ah (a.o.ck.add an ah));clear an ah;have o:=a.o.bk.cell);rw[aj]at a;go_wp2_with (first|(go_at_call 66;have y:=R.o X gl bl ao P _ A2 bd.length c2 a.o.ck a.o.rb V;rw[hr4]at y;clear R;refine y.mono ?_;unfold qL;rintro e H ⟨F,rfl,I⟩;replace a:=G (a.o.grown F I);clear F I y;(try clear o);have o:=a.o.bk.cell;)|(go_at_call 66;have y:=ag.o X gl bl lo2 P _ A3 el.length c3 a.o.ck a.o.rl V;rw[hr5]at y;clear ag;refine y.mono ?_;unfold qL bh;rintro e H ⟨F,rfl⟩;have K:=G (a.o.gr.trans F);clear F y));exact⟨rfl,by rw[J.o];exact⟨K,rfl⟩⟩
       |ok lo3=>
        rw[hr5,fI]at A;go_wp2_with (first|(go_at_call 126;refine(ad.o X gl _ z P _ A1 ex.length c1 a.o.ck a.o.re).mono ?_;rw[hr2];unfold cG;rintro e H ⟨rfl,d⟩;replace a:=G (a.o.ext d);clear d;(try clear o);have o:=a.o.bk.cell;)|(go_at_call 64;refine(eA X gl _ z _ a.o.ck nm af).mono ?_;rw[hr3];rintro e H ⟨rfl,d⟩;replace a:=G (a.o.ext d);clear d;(try clear o);have o:=a.o.bk.cell;));refine aB 6 1 [] mixed Qb trivial ?_;repeat (refine Zd (λ_ ai=>(a.o.ext ai.un).bk.cell) (λ_ ai=>(a.o.ext ai.un).ck.blk.cell) ?_;simp only[Za])
        intro aQ am _;simp only[ae,aw];replace a:=G (a.o.ext am.un);clear am;(try clear o);go_wp2_with (at_mapUpdate;refine eU Ff rfl _ _ _ rfl a.o.ml rfl Qj rfl _ rfl ?_;intro aP an ah;replace a:=G (a.o.grown ah (a.o.ck.add an ah));clear an ah;have o:=a.o.bk.cell);rw[aj]at a;go_wp2_with (first|(go_at_call 66;have y:=R.o X gl bl ao P _ A2 bd.length c2 a.o.ck a.o.rb V;rw[hr4]at y;clear R;refine y.mono ?_;unfold qL;rintro e H ⟨F,rfl,I⟩;replace a:=G (a.o.grown F I);clear F I y;(try clear o);have o:=a.o.bk.cell;)|(go_at_call 66;have y:=ag.o X gl bl lo2 P _ A3 el.length c3 a.o.ck a.o.rl V;rw[hr5]at y;clear ag;refine y.mono ?_;unfold qL;rintro e H ⟨F,rfl,I⟩;replace a:=G (a.o.grown F I);clear F I y;(try clear o);have o:=a.o.bk.cell;));go_roundw
        case rel=>exact⟨j+1,lo3,by go_num,by omega,G (A.symm.trans Z),G a.o.gr,G a.o.ck⟩
        case measure=>simp[intOf];omega
   have bn:=Qn.2 hk2;have bm:=Qn.2 hk3;have bp:=Qn.2 hk1;rw[if_neg hk2,if_neg hk3,fI]at A
   cases hr2:tn gl z ex with
   |error q=>
    obtain⟨M,m⟩:=q;rw[hr2,gz]at A;have J:=G (show ac= .error (M,m)from Z.o.symm.trans A);go_wp2_with (go_at_call 126;refine(ad.o X gl _ z P _ A1 ex.length c1 a.o.ck a.o.re).mono ?_;rw[hr2];unfold cG bh;rintro e H ⟨rfl,d⟩;have K:=G (a.o.gr.trans (d.grownBy _));clear d);exact⟨rfl,by rw[J.o];exact⟨K,rfl⟩⟩
   |ok u=>
    rw[hr2,fI]at A;rw[if_neg (hk1),fI]at A;obtain⟨ao,aj⟩: ∃l,z=l:=⟨_,rfl⟩
    subst aj
    cases hr4:iX gl z bd with
    |error q=>
     obtain⟨M,m⟩:=q;rw[hr4,gz]at A;have J:=G (show ac= .error (M,m)from Z.o.symm.trans A);go_wp2_with (first|(go_at_call 126;refine(ad.o X gl _ z P _ A1 ex.length c1 a.o.ck a.o.re).mono ?_;rw[hr2];unfold cG;rintro e H ⟨rfl,d⟩;replace a:=G (a.o.ext d);clear d;(try clear o);have o:=a.o.bk.cell;)|(go_at_call 66;have y:=R.o X gl bl z P _ A2 bd.length c2 a.o.ck a.o.rb V;rw[hr4]at y;clear R;refine y.mono ?_;unfold qL bh;rintro e H ⟨F,rfl⟩;have K:=G (a.o.gr.trans F);clear F y));exact⟨rfl,by rw[J.o];exact⟨K,rfl⟩⟩
    |ok lo2=>
     rw[hr4,fI]at A
     cases hr5:iX gl lo2 el with
     |error q=>
      obtain⟨M,m⟩:=q;rw[hr5,gz]at A;have J:=G (show ac= .error (M,m)from Z.o.symm.trans A);go_wp2_with (first|(go_at_call 126;refine(ad.o X gl _ z P _ A1 ex.length c1 a.o.ck a.o.re).mono ?_;rw[hr2];unfold cG;rintro e H ⟨rfl,d⟩;replace a:=G (a.o.ext d);clear d;(try clear o);have o:=a.o.bk.cell;)|(go_at_call 66;have y:=R.o X gl bl z P _ A2 bd.length c2 a.o.ck a.o.rb V;rw[hr4]at y;clear R;refine y.mono ?_;unfold qL;rintro e H ⟨F,rfl,I⟩;replace a:=G (a.o.grown F I);clear F I y;(try clear o);have o:=a.o.bk.cell;)|(go_at_call 66;have y:=ag.o X gl bl lo2 P _ A3 el.length c3 a.o.ck a.o.rl V;rw[hr5]at y;clear ag;refine y.mono ?_;unfold qL bh;rintro e H ⟨F,rfl⟩;have K:=G (a.o.gr.trans F);clear F y));exact⟨rfl,by rw[J.o];exact⟨K,rfl⟩⟩
     |ok lo3=>
      rw[hr5,fI]at A;go_wp2_with (first|(go_at_call 126;refine(ad.o X gl _ z P _ A1 ex.length c1 a.o.ck a.o.re).mono ?_;rw[hr2];unfold cG;rintro e H ⟨rfl,d⟩;replace a:=G (a.o.ext d);clear d;(try clear o);have o:=a.o.bk.cell;)|(go_at_call 66;have y:=R.o X gl bl z P _ A2 bd.length c2 a.o.ck a.o.rb V;rw[hr4]at y;clear R;refine y.mono ?_;unfold qL;rintro e H ⟨F,rfl,I⟩;replace a:=G (a.o.grown F I);clear F I y;(try clear o);have o:=a.o.bk.cell;)|(go_at_call 66;have y:=ag.o X gl bl lo2 P _ A3 el.length c3 a.o.ck a.o.rl V;rw[hr5]at y;clear ag;refine y.mono ?_;unfold qL;rintro e H ⟨F,rfl,I⟩;replace a:=G (a.o.grown F I);clear F I y;(try clear o);have o:=a.o.bk.cell;));go_roundw
      case rel=>exact⟨j+1,lo3,by go_num,by omega,G (A.symm.trans Z),G a.o.gr,G a.o.ck⟩
      case measure=>simp[intOf];omega
  ·have ba: ¬(j:Int)<N:=Qa
   have J:=G (show ac= .ok z by
    have:=Z.o;rw[aK (by have:=a3.o;omega),iX]at this
    exact this.symm)
   go_wp2_with fail;exact bodyPost_end (results_none rfl _ _ _) rfl (by rw[J.o];exact⟨aM,rfl,aO⟩)
theorem mF: ∀(m:Nat) (xs:List St),gd xs<=m->gd xs<=1073741824->EX xs
 |0,xs,h,hw=>p5 xs (by have:=fd xs;omega) (λs a=>by have:=cI a;have:=s.wt_eq;omega) (λs a=>by have:=cI a;have:=s.wt_eq;omega) (λs a=>by have:=cI a;have:=s.wt_eq;omega)
 |m+1,xs,h,hw=>p5 xs (by have:=fd xs;omega) (λs a=>by have:=cI a;have:=s.wt_eq;omega) (λs a=>vJ s.ex (by have:=cI a;have:=s.wt_eq;omega))
   (λs a=>⟨mF m s.body (by have:=cI a;have:=s.wt_eq;omega) (by have:=cI a;have:=s.wt_eq;omega),mF m s.els (by have:=cI a;have:=s.wt_eq;omega) (by have:=cI a;have:=s.wt_eq;omega)⟩)
end
end Go.Proofs.YtoedmpgicdekmaaGreatDoor
