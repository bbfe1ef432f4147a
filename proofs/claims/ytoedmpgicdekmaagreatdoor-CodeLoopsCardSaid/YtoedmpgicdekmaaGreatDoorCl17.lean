/- Parts of the proof. -/
import Derived.Test.YtoedmpgicdekmaaGreatDoorCl00
import Derived.Test.YtoedmpgicdekmaaGreatDoorCl16
import Derived.Test.YtoedmpgicdekmaaGreatDoorCl09
import Derived.Test.YtoedmpgicdekmaaGreatDoorCl15
import Derived.Test.YtoedmpgicdekmaaGreatDoorCl01
set_option maxRecDepth 100000
set_option maxHeartbeats 8000000
set_option linter.unusedVariables false
set_option linter.unusedSimpArgs false
set_option linter.unusedSectionVars false
namespace Go.Proofs.YtoedmpgicdekmaaGreatDoor
open Go.Proofs.Tryz
section
open Go.RowKit
theorem lX (a:List UInt8) (i:Nat) (o:i<a.length) (w:World):(Instr.index 9 (.string (ak a)) (.int .i64 (i:Int))).run prog w= .ok (.int .u8 (a[i].toNat:Int)) w:=by
 have d:(ak a)[i]? =some a[i]:=by
  have h:i<(ak a).size:=by rw[a7];exact o
  rw[getElem?_pos (ak a) i h];rfl
 simp[Instr.index,run_underlying underlying9,asIntOf,d]
def EQ (b:Bi):List UInt8:=match b with
 |none=>[]
 |some (_,a)=>a
theorem lL (b:Bi) (i:Nat) (I:i<=1073741824) (H:(EQ b).length<=1073741824) (w:World):Calls prog 177 #[.string (ak (EQ b)), .bool b.isSome, .int .i64 (i:Int)] w λe w'=>e= .returned (.bool (nF b i))/\au w w':=by
 cases b with
 |none=>
  have d:=G (show nF none i=true from rfl);simp only[dQ];go_enter func177,ntmps177;go_wp2_with fail;go_ret;exact⟨by rw[d.out];rfl,aG _⟩
 |some x=>
  obtain⟨c,a⟩:=x;have d:=G (show nF (some (c,a)) i=(decide (a.length<=i)||a.getD i 0==105)from rfl);simp only[EQ,dC]at*;have F:=a7 a;by_cases o:a.length<=i
  ·have z:(a.length:Int)<=i:=Qa
   go_enter func177,ntmps177;go_wp2_with fail;go_ret;exact⟨by rw[d.out,decide_eq_true o];rfl,aG _⟩
  ·have z: ¬(a.length:Int)<=i:=Qa
   have y:=λw=>lX a i Qa w;have u:a.getD i 0=a[i]' Qa:=by rw[bP,aI Qa];rfl
   have d:=G (show nF (some (c,a)) i=(a.getD i 0==105) by rw[d.out,decide_eq_false o];rfl);rw[<-u]at y;generalize a.getD i 0=q at*
   have A:=G (show((q.toNat:Int)==105)=(q==105) by
    by_cases e:q=105
    ·subst e;rfl
    ·have: ¬(q.toNat:Int)=105:=λo=>e (UInt8.toNat_inj.1 (by have:(105:UInt8).toNat=105:=rfl;omega))
     rw[Qn.2 this,Qn.2 e])
   clear u;go_enter func177,ntmps177;go_wp2_with fail;go_ret;exact⟨by rw[d.out,<-A.out];rfl,aG _⟩
theorem uq: ∀(l:List Ex) (m:Nat),m<=iH m l
 | [],m=>by rw[iH];exact ah _
 |y::r,m=>by rw[iH];have:=uq r (max m (eh y));omega
theorem ut (lg:Bool): ∀(l:List Ex) (i m:Nat),m<=f6 lg i m l
 | [],i,m=>by rw[f6];exact ah _
 |y::r,i,m=>by rw[f6];have:=ut lg r (i+1) (max m (if 0<i/\lg=false then eh y+1 else eh y));omega
theorem qj (b:Bi): ∀(l:List Ex) (i fr m:Nat),m<=fZ b i fr m l
 | [],i,fr,m=>by rw[fZ];exact ah _
 |y::r,i,fr,m=>by
  rw[fZ];split
  ·have:=qj b r (i+1) (fr+1) (max m (fr+eh y));omega
  ·exact qj b r (i+1) fr m
mutual
theorem jg: ∀x:Ex,eh x<=x.wt
 | .mk k op nm tx v a=>by
  have o:=up a 1;have h:=ur (wC op) a 0 1;have d:=qi (gh nm) a 0 0 1;rw[eh,Ex.wt];repeat' split
  all_goals omega
theorem up: ∀(l:List Ex) (m:Nat),iH m l<=max m (gD l)
 | [],m=>by rw[iH];omega
 |y::r,m=>by
  rw[iH,gD];have:=up r (max m (eh y));have:=jg y;omega
theorem ur (lg:Bool): ∀(l:List Ex) (i m:Nat),f6 lg i m l<=max m (gD l+1)
 | [],i,m=>by rw[f6];omega
 |y::r,i,m=>by
  rw[f6,gD];have o:=ur lg r (i+1) (max m (if 0<i/\lg=false then eh y+1 else eh y));have h:=jg y;have d:(if 0<i/\lg=false then eh y+1 else eh y)<=eh y+1:=by split<;>omega
  have a:y.wt=1+y.op.length+y.nm.length+y.tx.length+gD y.args:=y.wt_eq;omega
theorem qi (b:Bi): ∀(l:List Ex) (i fr m:Nat),fZ b i fr m l<=max m (fr+gD l)
 | [],i,fr,m=>by rw[fZ];omega
 |y::r,i,fr,m=>by
  rw[fZ,gD];have d:=jg y;have a:y.wt=1+y.op.length+y.nm.length+y.tx.length+gD y.args:=y.wt_eq;split
  ·have:=qi b r (i+1) (fr+1) (max m (fr+eh y));omega
  ·have:=qi b r (i+1) fr m;omega
end
def EW (x:Ex):Prop:= ∀(P:Nat->Prop) (w:World) (A:Option Addr) (n c:Nat),dL w P (.slice A n c) x.args->BT w->
 Calls prog 127 #[.agg #[.int .i64 x.k, .string (ak x.op), .string (ak x.nm), .string (ak x.tx), .int .i64 x.v, .slice A n c]] w λe w'=>e= .returned (.int .i64 (eh x:Int))/\au w w'
theorem wk {l:List Ex} {j m:Nat} (a:j<l.length):iH m (l.drop j)=iH (max m (eh l[j])) (l.drop (j+1)):=by
 rw[ap a,iH]
theorem wm {lg:Bool} {l:List Ex} {i j m:Nat} (a:j<l.length):f6 lg i m (l.drop j)=f6 lg (i+1) (max m (if 0<i/\lg=false then eh l[j]+1 else eh l[j])) (l.drop (j+1)):=by
 rw[ap a,f6]
theorem wl {b:Bi} {l:List Ex} {i j fr m:Nat} (a:j<l.length):fZ b i fr m (l.drop j)=if nF b i=true then fZ b (i+1) (fr+1) (max m (fr+eh l[j])) (l.drop (j+1))else fZ b (i+1) fr m (l.drop (j+1)):=by
 rw[ap a,fZ]
theorem F1 (k:Int) (R:k=4\/k=6) (op nm tx:List UInt8) (v:Int) (xs:List Ex) (M:(Ex.mk k op nm tx v xs).wt<=1073741824) (ab: ∀u∈xs,EW u):EW (.mk k op nm tx v xs):=by
 intro P w aL n c H V;have J:=G (show eh (.mk k op nm tx v xs)=iH 1 xs by rw[eh,if_pos R]);have a:iH 1 xs<=1073741824:=by have:=jg (.mk k op nm tx v xs);rw[J.out]at this;omega
 have ar:=eg xs;rw[Ex.wt]at M;simp only[Ex.k,Ex.op,Ex.nm,Ex.tx,Ex.v,Ex.args]at*;obtain⟨aY,c',aq,aw⟩:=H.form;injection aq with ap ao an;subst ap ao an;have aj:=G H;have aI:=G ab;have aB:=G V;obtain⟨N,o⟩: ∃N,xs.length=N:=⟨_,rfl⟩
 have aR:N<=1073741824:=Qa
 have al:=G o;rw[o]at aj;have aJ:=G (aa w (.cells #[.int .i64 k, .string (ak op), .string (ak nm), .string (ak tx), .int .i64 v, .slice aL N c] 206));obtain⟨I,A⟩: ∃az,iH 1 xs=az:=⟨_,rfl⟩
 rw[A]at a J;have aF:=G (show iH 1 (xs.drop 0)=I from A);clear H aw ab V M A ar;rw[o];clear o;rcases R with rfl|rfl;all_goals
  go_enter func127,ntmps127;go_wp2_with fail
  go_loopw [3,23] (λam y wr=> ∃(j m:Nat),y= .int .i64 (j:Int)/\am= .int .i64 (m:Int)/\j<=N/\Hid (iH m (xs.drop j)=I)/\Hid (au w wr)) (λ_ y _=>N-(intOf y).toNat)
  case atStart=>exact⟨0,1,rfl,rfl,aD _,aF,aJ⟩
  case round=>
   obtain⟨j,m,rfl,rfl,aP,K,d⟩:=hrel;have aO:m<=1073741824:=by have:=uq (xs.drop j) m;rw[K.out]at this;omega
   by_cases hlt:j<N
   ·have av:(j:Int)<N:=Qa
    have z:j<xs.length:=by have:=al.out;omega
    obtain⟨b,aN,aX,rfl,a,aQ,ai,ah,ag,af,ae,ad,F⟩:=aj.out.at_ j z;have aC:=G (wk (m:=m) z);have Z:=aI.out _ (ay z);generalize xs[j]=u at*;have e0:=(d.out.cell b _ a).trans ai;have aW:=(d.out.cell b _ a).trans ah;have aV:=(d.out.cell b _ a).trans ag;have aU:=(d.out.cell b _ a).trans af;have aT:=(d.out.cell b _ a).trans ae;have aS:=(d.out.cell b _ a).trans ad;obtain⟨B,ax,rfl,_⟩:=F.form;have aE:=G (F.keep (.of_ext d.out) (Q:=P) (λb a _=>a));have aH:=G Z;clear ai ah ag af ae ad F Z;go_wp2_with (go_at_call 127;refine(aH.out P _ B _ ax (aE.out.keep (.of_ext (aa _ _)) (λb a _=>a)) ((aB.out.ext d.out).ext (aa _ _))).mono ?_;rintro e aM ⟨rfl,ac⟩;have aA:=G ((d.out.alloc' _).trans ac);clear ac);go_roundw
    case rel=>exact⟨j+1,max m (eh u),by go_num,by congr 1;omega,by omega,G (aC.out.symm.trans K.out),aA⟩
    case measure=>simp[intOf];omega
   ·have av: ¬(j:Int)<N:=Qa
    have aG:=G (show m=I by
     have:=K.out;rw[aK (by have:=al.out;omega),iH]at this
     exact this)
    go_wp2_with fail;go_ret;exact⟨by rw[J.out,<-aG.out];rfl,d.out⟩
theorem FZ (op nm tx:List UInt8) (v:Int) (xs:List Ex) (aj:(Ex.mk 7 op nm tx v xs).wt<=1073741824) (an: ∀o∈xs,EW o):EW (.mk 7 op nm tx v xs):=by
 intro P w ag n c Z al;have ad:=G (show eh (.mk 7 op nm tx v xs)=f6 (wC op) 0 1 xs by rw[eh,if_neg Qd,if_pos rfl]);have a:f6 (wC op) 0 1 xs<=1073741824:=by have:=jg (.mk 7 op nm tx v xs);rw[ad.out]at this;omega
 have aO:=eg xs;rw[Ex.wt]at aj;have a7:gD xs<=1073741823:=Qa
 simp only[Ex.k,Ex.op,Ex.nm,Ex.tx,Ex.v,Ex.args]at*;obtain⟨bg,c',aN,aQ⟩:=Z.form;injection aN with aL aJ aI;subst aL aJ aI;have aA:=G Z;have a1:=G an;have ax:=G al;obtain⟨N,I⟩: ∃N,xs.length=N:=⟨_,rfl⟩
 have be:N<=1073741824:=Qa
 have aC:=G I;rw[I]at aA;have a2:=G (aa w (.cells #[.int .i64 7, .string (ak op), .string (ak nm), .string (ak tx), .int .i64 v, .slice ag N c] 206));have a3:=G (aq w 206 #[.int .i64 7, .string (ak op), .string (ak nm), .string (ak tx), .int .i64 v, .slice ag N c]);obtain⟨ab,R⟩: ∃aX,f6 (wC op) 0 1 xs=aX:=⟨_,rfl⟩
 rw[R]at a ad;have aB:=G (show f6 (wC op) 0 1 (xs.drop 0)=ab from R);clear Z aQ an al aj R aO;rw[I];clear I;obtain⟨lg,M⟩: ∃b,wC op=b:=⟨_,rfl⟩
 rw[M]at aB;have af:=G (show(op==[38,38]||op==[124,124])=lg from M);clear M
 cases A:(op==[38,38])<;>cases z:(op==[124,124]);all_goals
  rw[A,z]at af;have ae:=G af.out.symm;simp only[Bool.or_true,mu,Bool.true_or,Bool.false_or]at ae;have ai:=congrArg (!·) A;have ah:=congrArg (!·) z;change(op !=[38,38])=_ at ai;change(op !=[124,124])=_ at ah;simp only[Bool.not_true,Bool.not_false]at ai ah;clear af;go_enter func127,ntmps127;go_wp2_with fail
  go_loopw [3,37] (λaH K wr=> ∃(j m:Nat),K= .int .i64 (j:Int)/\aH= .int .i64 (m:Int)/\j<=N/\Hid (f6 lg j m (xs.drop j)=ab)/\Hid (au w wr)/\Hid (aM wr w.heap.size 206 #[.int .i64 7, .string (ak op), .string (ak nm), .string (ak tx), .int .i64 v, .slice ag N c])) (λ_ K _=>N-(intOf K).toNat)
  case atStart=>exact⟨0,1,rfl,rfl,aD _,aB,a2,a3⟩
  case round=>
   obtain⟨j,m,rfl,rfl,bb,F,d,aF⟩:=hrel;have a9:m<=1073741824:=by have:=ut lg (xs.drop j) j m;rw[F.out]at this;omega
   by_cases hlt:j<N
   ·have aP:(j:Int)<N:=Qa
    have H:j<xs.length:=by have:=aC.out;omega
    obtain⟨b,a4,bf,rfl,a,bc,av,A,z,ar,ap,ao,V⟩:=aA.out.at_ j H;have ac:=G (wm (lg:=lg) (i:=j) (m:=m) H);have a6:=jg xs[j];have a5:=em (ay H);have am:=a1.out _ (ay H);generalize xs[j]=o at*;have e0:=(d.out.cell b _ a).trans av;have aW:=(d.out.cell b _ a).trans A;have aV:=(d.out.cell b _ a).trans z;have aU:=(d.out.cell b _ a).trans ar;have aT:=(d.out.cell b _ a).trans ap;have aS:=(d.out.cell b _ a).trans ao;obtain⟨B,aw,rfl,_⟩:=V.form;have az:=G (V.keep (.of_ext d.out) (Q:=P) (λb a _=>a));have aE:=G am;clear av A z ar ap ao V am;have a8:eh o<=1073741823:=Qa
    by_cases hj0:j=0
    ·subst hj0;simp only[aY,bm]at e0 aW aV aU aT aS;go_wp2_with (go_at_call 127;refine(aE.out P _ B _ aw (az.out.keep (.of_ext (aa _ _)) (λb a _=>a)) ((ax.out.ext d.out).ext (aa _ _))).mono ?_;rintro e aG ⟨rfl,u⟩;have J:=G ((d.out.alloc' _).trans u);have y:=G ((aF.out.ext (aa _ _)).ext u);have aR:=y.out.cell;clear u);go_roundw
     case rel=>exact⟨1,max m (eh o),by go_num,by congr 1;omega,by omega,G ((by rw[ac.out,if_neg Qe]:f6 lg 0 m (xs.drop 0)=f6 lg 1 (max m (eh o)) (xs.drop 1)).symm.trans F.out),J,y⟩
     case measure=>simp[intOf];omega
    ·have ba:(0:Int)<j:=Qa
     go_wp2_with (go_at_call 127;refine(aE.out P _ B _ aw (az.out.keep (.of_ext (aa _ _)) (λb a _=>a)) ((ax.out.ext d.out).ext (aa _ _))).mono ?_;rintro e aG ⟨rfl,u⟩;have J:=G ((d.out.alloc' _).trans u);have y:=G ((aF.out.ext (aa _ _)).ext u);have aR:=y.out.cell;clear u);go_roundw
     case rel=>first|exact⟨j+1,max m (eh o+1),by go_num,by congr 1;omega,by omega,G ((by rw[ac.out,if_pos ⟨by omega,ae.out⟩]:f6 lg j m (xs.drop j)=f6 lg (j+1) (max m (eh o+1)) (xs.drop (j+1))).symm.trans F.out),J,y⟩|exact⟨j+1,max m (eh o),by go_num,by congr 1;omega,by omega,G ((by rw[ac.out,if_neg (by rw[ae.out];simp)]:f6 lg j m (xs.drop j)=f6 lg (j+1) (max m (eh o)) (xs.drop (j+1))).symm.trans F.out),J,y⟩
     case measure=>simp[intOf];omega
   ·have aP: ¬(j:Int)<N:=Qa
    have aZ:=G (show m=ab by
     have:=F.out;rw[aK (by have:=aC.out;omega),f6]at this
     exact this)
    go_wp2_with fail;go_ret;exact⟨by rw[ad.out,<-aZ.out];rfl,d.out⟩
end
section
open Go.RowKit
def JQ (b:Bi):Int:=match b with
 |none=>0
 |some (c,_)=>c
theorem Ck (s:List UInt8) (w:World) (h:BT w):Calls prog 175 #[.string (ak s)] w λe w'=>e= .returned (.tuple #[.int .i64 (JQ (gh s)), .string (ak (EQ (gh s))), .bool (gh s).isSome])/\au w w':=by
 refine(mh s w h).mono λe w' ⟨a,d⟩=>⟨?_,d⟩
 rw[a]
 cases gh s<;>rfl
theorem GV: ∀x∈tw,x.2.2.length<=3:=Qd
theorem xP (s:List UInt8):(EQ (gh s)).length<=3:=by
 cases h:gh s with
 |none=>simp[EQ]
 |some x=>
  unfold gh at h;rw[gV]at h;obtain⟨a,d,rfl⟩:=h;exact GV a (eO d)
theorem FY (op nm tx:List UInt8) (v:Int) (xs:List Ex) (af:(Ex.mk 5 op nm tx v xs).wt<=1073741824) (ah: ∀a∈xs,EW a):EW (.mk 5 op nm tx v xs):=by
 intro P w ax n c Z M;have ae:=G (show eh (.mk 5 op nm tx v xs)=fZ (gh nm) 0 0 1 xs by rw[eh,if_neg Qd,if_neg Qd,if_pos rfl]);have d:fZ (gh nm) 0 0 1 xs<=1073741824:=by have:=jg (.mk 5 op nm tx v xs);rw[ae.out]at this;omega
 have aJ:=eg xs;rw[Ex.wt]at af;have a8:gD xs<=1073741823:=Qa
 have aO:=xP nm;simp only[Ex.k,Ex.op,Ex.nm,Ex.tx,Ex.v,Ex.args]at*;obtain⟨bp,c',aI,aN⟩:=Z.form;injection aI with aH aG aF;subst aH aG aF;have ar:=G Z;have aZ:=G ah;have aT:=G M;obtain⟨N,F⟩: ∃N,xs.length=N:=⟨_,rfl⟩
 have bf:N<=1073741823:=Qa
 have av:=G F;rw[F]at ar;have ab:=aa w (.cells #[.int .i64 5, .string (ak op), .string (ak nm), .string (ak tx), .int .i64 v, .slice ax N c] 206);have a2:=G ab;have a4:=G (aq w 206 #[.int .i64 5, .string (ak op), .string (ak nm), .string (ak tx), .int .i64 v, .slice ax N c]);have aw:=G (Ck nm _ (M.ext ab));have aY:=G (fun(i:Nat) (aM:i<=1073741824) (W:World)=>lL (gh nm) i aM Qa W);generalize gh nm=u at*;generalize EQ u=ls at*;generalize JQ u=bn at*;generalize u.isSome=bs at*;obtain⟨ad,R⟩: ∃aQ,fZ u 0 0 1 xs=aQ:=⟨_,rfl⟩
 rw[R]at d ae;have aV:=G (show fZ u 0 0 1 (xs.drop 0)=ad from R);clear Z aN ah M af R aJ ab aO;rw[F];clear F;go_enter func127,ntmps127;go_wp2_with (go_at_call 175;refine aw.out.mono ?_;rintro e a6 ⟨rfl,o⟩;have aS:=G (a2.out.trans o);have bg:=(a4.out.ext o).cell;clear o aw)
 go_loopw [3,12,74] (λaA aB K wr=> ∃(j m fr:Nat),K= .int .i64 (j:Int)/\aA= .int .i64 (m:Int)/\aB= .int .i64 (fr:Int)/\j<=N/\fr<=j/\Hid (fZ u j fr m (xs.drop j)=ad)/\Hid (au w wr)) (λ_ _ K _=>N-(intOf K).toNat)
 case atStart=>exact⟨0,1,0,rfl,rfl,rfl,aD _,aD _,aV,aS⟩
 case round=>
  obtain⟨j,m,fr,rfl,rfl,rfl,bb,bc,J,y⟩:=hrel;have ba:m<=1073741824:=by have:=qj u (xs.drop j) j fr m;rw[J.out]at this;omega
  by_cases hlt:j<N
  ·have aL:(j:Int)<N:=Qa
   have A:j<xs.length:=by have:=av.out;omega
   obtain⟨b,a7,bo,rfl,d,be,ao,an,am,al,aj,ai,V⟩:=ar.out.at_ j A;have I:=G (wl (b:=u) (i:=j) (fr:=fr) (m:=m) A);have aE:=jg xs[j];have aC:=em (ay A);have ag:=aZ.out _ (ay A);generalize xs[j]=a at*;have z:=G (aY.out j Qa);have e0:=(y.out.cell b _ d).trans ao;have bm:=(y.out.cell b _ d).trans an;have bk:=(y.out.cell b _ d).trans am;have bj:=(y.out.cell b _ d).trans al;have bi:=(y.out.cell b _ d).trans aj;have bh:=(y.out.cell b _ d).trans ai;obtain⟨B,ac,rfl,_⟩:=V.form;have aU:=G (V.keep (.of_ext y.out) (Q:=P) (λb d _=>d));have aX:=G ag;have a9:eh a<=1073741823:=Qa
   have a3:=G (aq wr 206 #[.int .i64 a.k, .string (ak a.op), .string (ak a.nm), .string (ak a.tx), .int .i64 a.v, .slice B a.args.length ac]);have ap:=G (y.out.alloc' (.cells #[.int .i64 a.k, .string (ak a.op), .string (ak a.nm), .string (ak a.tx), .int .i64 a.v, .slice B a.args.length ac] 206));clear ao an am al aj ai V ag aE aC
   cases hia:nF u j with
   |true=>
    rw[hia]at I z;go_wp2_with (first|(go_at_call 177;refine(z.out _).mono ?_;rintro e az ⟨rfl,o⟩;have H:=G (ap.out.trans o);have a1:=G o;have aP:=(a3.out.ext o).cell;clear o z)|(go_at_call 127;refine(aX.out P _ B _ ac ((aU.out.keep (.of_ext (aa _ _)) (λb d _=>d)).keep (.of_ext a1.out) (λb d _=>d)) (aT.out.ext H.out)).mono ?_;rintro e a5 ⟨rfl,o⟩;have aR:=G (H.out.trans o);clear o aP));go_roundw
    case rel=>exact⟨j+1,max m (fr+eh a),fr+1,by go_num,by congr 1;omega,by go_num,by omega,by omega,G ((by rw[I.out,if_pos trivial]:fZ u j fr m (xs.drop j)=fZ u (j+1) (fr+1) (max m (fr+eh a)) (xs.drop (j+1))).symm.trans J.out),aR⟩
    case measure=>simp[intOf];omega
   |false=>
    rw[hia]at I z;go_wp2_with (go_at_call 177;refine(z.out _).mono ?_;rintro e az ⟨rfl,o⟩;have H:=G (ap.out.trans o);clear o z);go_roundw
    case rel=>exact⟨j+1,m,fr,by go_num,rfl,rfl,by omega,by omega,G ((by rw[I.out,if_neg Qe]:fZ u j fr m (xs.drop j)=fZ u (j+1) fr m (xs.drop (j+1))).symm.trans J.out),H⟩
    case measure=>simp[intOf];omega
  ·have aL: ¬(j:Int)<N:=Qa
   have aW:=G (show m=ad by
    have:=J.out;rw[aK (by have:=av.out;omega),fZ]at this
    exact this)
   go_wp2_with fail;go_ret;exact⟨by rw[ae.out,<-aW.out];rfl,y.out⟩
theorem FX (k:Int) (z:(k==4)=false) (u:(k==6)=false) (o:(k==7)=false) (y:(k==5)=false) (op nm tx:List UInt8) (v:Int) (xs:List Ex):EW (.mk k op nm tx v xs):=by
 intro P w H n c d a
 have A:=G (show eh (.mk k op nm tx v xs)=1 by
  rw[eh,if_neg (by simp only[Qn]at z u;omega),if_neg (by simpa using o),if_neg (by simpa using y)])
 have F:=G (aa w (.cells #[.int .i64 k, .string (ak op), .string (ak nm), .string (ak tx), .int .i64 v, .slice H n c] 206));simp only[Ex.k,Ex.op,Ex.nm,Ex.tx,Ex.v,Ex.args]at*;clear d a;go_enter func127,ntmps127;go_wp2_with fail;go_ret;exact⟨by rw[A.out];rfl,F.out⟩
theorem rt: ∀(m:Nat) (x:Ex),x.wt<=m->x.wt<=1073741824->EW x
 |0,x,h,_=>absurd h (by have:=x.wt_eq;omega)
 |m+1, .mk k op nm tx v xs,h,hw=>by
  have d: ∀a∈xs,EW a:=λa o=>rt m a (by have:=em o;rw[Ex.wt]at h;omega) (by have:=em o;rw[Ex.wt]at hw;omega);by_cases h46:k=4\/k=6
  ·exact F1 k h46 op nm tx v xs hw d
  by_cases h7:k=7
  ·subst h7;exact FZ op nm tx v xs hw d
  by_cases h5:k=5
  ·subst h5;exact FY op nm tx v xs hw d
  exact FX k (Qn.2 Qa) (Qn.2 Qa) (Qn.2 h7) (Qn.2 h5) op nm tx v xs
def Hb (x:Ex):Prop:= ∀(X:CB) (gl:Gl) (lv:Value) (lo:Ls) (P:Nat->Prop) (w:World) (A:Option Addr) (n c:Nat),CK X gl lv lo w->dL w P (.slice A n c) x.args->
 Calls prog 176 #[X.p, .agg #[.int .i64 x.k, .string (ak x.op), .string (ak x.nm), .string (ak x.tx), .int .i64 x.v, .slice A n c]] w λe w'=>e=cG (tK gl lo x)/\au w w'
def EY (xs:List Ex):Prop:= ∀(X:CB) (gl:Gl) (lv:Value) (lo:Ls) (P:Nat->Prop) (w:World) (A:Option Addr) (n c:Nat),CK X gl lv lo w->dL w P (.slice A n c) xs->
 Calls prog 126 #[X.p, .slice A n c] w λe w'=>e=cG (tn gl lo xs)/\au w w'
theorem Cd {gl:Gl} {lo:Ls} {l:List Ex} {j:Nat} (a:j<l.length):tn gl lo (l.drop j)=CR.then (tK gl lo l[j]) λ_=>tn gl lo (l.drop (j+1)):=by
 rw[ap a,tn]
theorem rL (xs:List Ex) (aC:xs.length<=1073741824) (af: ∀a∈xs,Hb a):EY xs:=by
 intro X gl av lo P w aZ n c ad M;obtain⟨aY,c',aA,aE⟩:=M.form;injection aA with az ax aw;subst az ax aw;have ap:=G M;have aM:=G af;have aL:=G ad;obtain⟨N,F⟩: ∃N,xs.length=N:=⟨_,rfl⟩
 have aq:=G F;rw[F]at ap aC;obtain⟨H,A⟩: ∃aI,tn gl lo xs=aI:=⟨_,rfl⟩
 have aX:=G A;have aJ:=G (show tn gl lo (xs.drop 0)=H from A);have aN:=G (aG w);obtain⟨aH,ac⟩: ∃p,X.p=p:=⟨_,rfl⟩
 have aF:aH= .pointer (some ⟨X.g,0,none⟩):=ac.symm;clear M aE af ad;rw[F,A];clear F A;subst aF;simp only[CB.p]at*;clear ac;go_enter func126,ntmps126;go_wp2_with fail
 go_loopw [8] (λI wr=> ∃(j:Nat),I= .int .i64 (j:Int)/\j<=N/\Hid (tn gl lo (xs.drop j)=H)/\Hid (au w wr)) (λI _=>N-(intOf I).toNat)
 case atStart=>exact⟨0,rfl,aD _,aJ,aN⟩
 case round=>
  obtain⟨j,rfl,aP,Z,o⟩:=hrel;by_cases hlt:j<N
  ·have aB:(j:Int)<N:=Qa
   have J:j<xs.length:=by have:=aq.out;omega
   obtain⟨b,aO,aW,rfl,d,aQ,am,al,aj,ai,ah,ag,K⟩:=ap.out.at_ j J;have ao:=G (Cd (gl:=gl) (lo:=lo) J);have ae:=aM.out _ (ay J);generalize xs[j]=a at*;have e0:=(o.out.cell b _ d).trans am;have aV:=(o.out.cell b _ d).trans al;have aU:=(o.out.cell b _ d).trans aj;have aT:=(o.out.cell b _ d).trans ai;have aS:=(o.out.cell b _ d).trans ah;have aR:=(o.out.cell b _ d).trans ag;obtain⟨B,R,rfl,_⟩:=K.form;have z:=G (ae X gl av lo P _ B _ R ((aL.out.ext o.out).ext (aa _ (.cells #[.int .i64 a.k, .string (ak a.op), .string (ak a.nm), .string (ak a.tx), .int .i64 a.v, .slice B a.args.length R] 206))) ((K.keep (.of_ext o.out) (Q:=P) (λb d _=>d)).keep (.of_ext (aa _ _)) (λb d _=>d)));have an:=G (o.out.alloc' (.cells #[.int .i64 a.k, .string (ak a.op), .string (ak a.nm), .string (ak a.tx), .int .i64 a.v, .slice B a.args.length R] 206));clear am al aj ai ah ag K ae;generalize tK gl lo a=r at*;simp only[CB.p]at z
   cases r with
   |ok u=>
    go_wp2_with (go_at_call 176;refine z.out.mono ?_;unfold cG;rintro e ar ⟨rfl,y⟩;have V:=G (an.out.trans y);clear y z);go_roundw
    case rel=>exact⟨j+1,by go_num,by omega,G (ao.out.symm.trans Z.out),V⟩
    case measure=>simp[intOf];omega
   |error q=>
    obtain⟨nm,n⟩:=q;have ab:=G (show H= .error (nm,n)from Z.out.symm.trans ao.out);go_wp2_with (go_at_call 176;refine z.out.mono ?_;unfold cG bh;rintro e ar ⟨rfl,y⟩;have V:=G (an.out.trans y);clear y z);exact⟨rfl,by rw[ab.out];rfl,V.out⟩
  ·have aB: ¬(j:Int)<N:=Qa
   have ab:=G (show H= .ok () by
    have:=Z.out;rw[aK (by have:=aq.out;omega),tn]at this
    exact this.symm)
   go_wp2_with fail;exact bodyPost_end (results_none rfl _ _ _) rfl ⟨by rw[ab.out];rfl,o.out⟩
end
section
def E5 (vs:List Vr) (s:List UInt8):Option Vr:=vs.find? (λv=>decide (s=v.nm))
def Jn (fs:List Fc) (s:List UInt8):Option Fc:=fs.find? (λf=>decide (s=f.nm))
structure GL (p:Pg) (g:Gl):Prop where
 arr: ∀s,g.arr s=(E5 p.vs s).bind λv=>if 0<v.sz then some v.sz else none
 int: ∀s,g.int s=(E5 p.vs s).any λv=> !decide (0<v.sz)
 fn: ∀s,g.fn s=(Jn p.fs s).map (·.ps.length)
 nb: ∀n∈p.vs.map (·.nm)++p.fs.map (·.nm),H' n=false
 nd:(p.vs.map (·.nm)++p.fs.map (·.nm)).Pairwise (· ≠ ·)
theorem GU: ∀x∈tw,∀c∈x.2.2,c=105\/c=115\/c=97\/c=98:=Qd
theorem Cj {s:List UInt8} {c:Int} {ls:List UInt8} (a:gh s=some (c,ls)): ∀x∈ls,x=105\/x=115\/x=97\/x=98:=by
 unfold gh at a;rw[gV]at a;obtain⟨x,d,a⟩:=a;have:=GU x (eO d);rw[a]at this;exact this
end
section
open Go.RowKit
theorem uW {gl:Gl} {lo:Ls} {nm:List UInt8} {b:Bi} {l:List Ex} {j:Nat} (a:j<l.length):wP gl lo nm b j (l.drop j)=CR.then (if nF b j=true then tK gl lo l[j]else if tA (DG b j) l[j].k=true then .error (nm,16)else if l[j].k=3 then mC gl lo l[j].nm else .ok ()) λ_=>wP gl lo nm b (j+1) (l.drop (j+1)):=by
 rw[ap a,wP]
def JL (op nm tx:List UInt8) (v:Int) (xs:List Ex):Prop:= ∀(X:CB) (gl:Gl) (lv:Value) (lo:Ls) (P:Nat->Prop) (w:World) (A:Option Addr) (n c:Nat),CK X gl lv lo w->dL w P (.slice A n c) xs->
 Calls prog 218 #[X.p, .agg #[.int .i64 5, .string (ak op), .string (ak nm), .string (ak tx), .int .i64 v, .slice A n c]] w λe w'=>e=cG (tK gl lo (.mk 5 op nm tx v xs))/\au w w'
theorem vM (op nm tx:List UInt8) (v:Int) (xs:List Ex) (bi:xs.length<=1073741824) (ax:nm.length<=1073741824) (o:gh nm=none) (aT: ∀d∈xs,Hb d):JL op nm tx v xs:=by
 intro X gl aQ lo P w ar n c aR aE;obtain⟨bK,c',bf,bk⟩:=aE.form;injection bf with be bc bb;subst be bc bb;have a7:=G aE;have aJ:=G aT;obtain⟨N,ah⟩: ∃N,xs.length=N:=⟨_,rfl⟩
 have a8:=G ah;rw[ah]at a7 bi;obtain⟨M,aA⟩: ∃bn,tK gl lo (.mk 5 op nm tx v xs)=bn:=⟨_,rfl⟩
 have ab:=G (show M=match gl.fn nm with|none=> .error (nm,15)|some n=>if n=N then wP gl lo nm none 0 xs else .error (nm,16) by
  rw[<-aA,tK,if_neg Qd,if_neg Qd,if_neg Qd,if_pos rfl];unfold Cr;rw[o,<-ah]
  cases gl.fn nm<;>rfl)
 have aF:=aa w (.cells #[.int .i64 5, .string (ak op), .string (ak nm), .string (ak tx), .int .i64 v, .slice ar N c] 206);have ac:=G aF;have af:=G (aq w 206 #[.int .i64 5, .string (ak op), .string (ak nm), .string (ak tx), .int .i64 v, .slice ar N c]);have V:=G (aR.ext aF)
 have ad:=G (show Calls prog 175 #[.string (ak nm)] (w.alloc (.cells #[.int .i64 5, .string (ak op), .string (ak nm), .string (ak tx), .int .i64 v, .slice ar N c] 206)) λe w'=>e= .returned (.tuple #[.int .i64 0, .string ⟨#[]⟩, .bool false])/\au (w.alloc (.cells #[.int .i64 5, .string (ak op), .string (ak nm), .string (ak tx), .int .i64 v, .slice ar N c] 206)) w' from by
  have:=mh nm _ V.out.t;rw[o]at this
  exact this)
 have aI:=G (fun(i:Nat) (bj:i<=1073741824) (W:World)=>show Calls prog 177 #[.string ⟨#[]⟩, .bool false, .int .i64 (i:Int)] W λe w'=>e= .returned (.bool true)/\au W w' from lL none i bj (by simp[EQ]) W);have ap:=G (λn W=>ew nm n W);clear aE bk aT o aF aR;rw[ah,aA];clear ah aA;obtain⟨g,a3,a5,a4,aO,aP⟩:=X;simp only[CB.p]at*
 cases hfn:gl.fn nm with
 |none=>
  have al:=G (show M= .error (nm,15) by rw[ab.out,hfn]);clear aJ aI ab;go_enter func218,ntmps218;go_wp2_with (go_at_call 175;refine ad.out.mono ?_;rintro e ag ⟨rfl,a⟩;have I:=G (ac.out.trans a);have y:=G (af.out.ext a);have H:=y.out.cell;have A:=G (V.out.ext a);clear a ad af V ac);refine aB 12 1 [] mixed Qb trivial ?_;repeat (refine sx ?_ (λag z=> ?_) ?_;rotate_left;(focus have H:=(y.out.ext z.un).cell;have a2:=(A.out.ext z.un).blk.cell;have K:=(A.out.ext z.un).lookF ax;rw[hfn]at K;simp only[fi,dQ]at K;clear z;go_simp<;>with_reducible rfl);simp only[bA,bx,bw,br,bo])
  intro aN F _;simp only[ae,aU];have ai:=G (I.out.trans F.un);clear H;have H:=(y.out.ext F.un).cell;clear F;go_wp2_with (go_at_call 65;refine(ap.out _ _).mono ?_;unfold bh;rintro e av ⟨rfl,a⟩;have R:=G (ai.out.trans a);clear a ap);exact⟨rfl,by rw[al.out];rfl,R.out⟩
 |some k=>
  by_cases hkN:k=N
  ·subst hkN;have al:=G (show M=wP gl lo nm none 0 xs by rw[ab.out,hfn];simp);have bp:=G (show wP gl lo nm none 0 (xs.drop 0)=M from al.out.symm);clear ab;go_enter func218,ntmps218;go_wp2_with (go_at_call 175;refine ad.out.mono ?_;rintro e ag ⟨rfl,a⟩;have I:=G (ac.out.trans a);have y:=G (af.out.ext a);have H:=y.out.cell;have A:=G (V.out.ext a);clear a ad af V ac);refine aB 12 1 [] mixed Qb trivial ?_;repeat (refine sx ?_ (λag z=> ?_) ?_;rotate_left;(focus have H:=(y.out.ext z.un).cell;have a2:=(A.out.ext z.un).blk.cell;have K:=(A.out.ext z.un).lookF ax;rw[hfn]at K;simp only[bX,dC]at K;clear z;go_simp<;>with_reducible rfl);simp only[bA,bx,bw,br,bo])
   intro aN F _;simp only[ae,aU];have ai:=G (I.out.trans F.un);have bu:=G (A.out.ext F.un);clear H;have H:=(y.out.ext F.un).cell;clear F I A y;go_wp2_with fail;clear H
   go_loopw [53] (λaw wr=> ∃(j:Nat),aw= .int .i64 (j:Int)/\j<=k/\Hid (wP gl lo nm none j (xs.drop j)=M)/\Hid (au w wr)/\Hid (CK ⟨g,a3,a5,a4,aO,aP⟩ gl aQ lo wr)) (λaw _=>k-(intOf aw).toNat)
   case atStart=>exact⟨0,rfl,aD _,bp,ai,bu⟩
   case round=>
    obtain⟨j,rfl,bC,aH,J,bq⟩:=hrel;by_cases hlt:j<k
    ·have bg:(j:Int)<k:=Qa
     have az:j<xs.length:=by have:=a8.out;omega
     obtain⟨b,bv,bJ,rfl,o,bD,a1,aZ,aY,aX,aW,aV,aC⟩:=a7.out.at_ j az;have am:=G (uW (gl:=gl) (lo:=lo) (nm:=nm) (b:=none) az);have aS:=aJ.out _ (ay az);generalize xs[j]=d at*;have e0:=(J.out.cell b _ o).trans a1;have bI:=(J.out.cell b _ o).trans aZ;have bH:=(J.out.cell b _ o).trans aY;have bG:=(J.out.cell b _ o).trans aX;have bF:=(J.out.cell b _ o).trans aW;have bE:=(J.out.cell b _ o).trans aV;obtain⟨B,Z,rfl,_⟩:=aC.form;have a6:=G ((aC.keep (.of_ext J.out) (Q:=P) (λb o _=>o)).keep (.of_ext (aa _ (.cells #[.int .i64 d.k, .string (ak d.op), .string (ak d.nm), .string (ak d.tx), .int .i64 d.v, .slice B d.args.length Z] 206))) (Q:=P) (λb o _=>o));have y:=G (aq wr 206 #[.int .i64 d.k, .string (ak d.op), .string (ak d.nm), .string (ak d.tx), .int .i64 d.v, .slice B d.args.length Z]);have I:=G (J.out.alloc' (.cells #[.int .i64 d.k, .string (ak d.op), .string (ak d.nm), .string (ak d.tx), .int .i64 d.v, .slice B d.args.length Z] 206));have A:=G (bq.out.ext (aa wr (.cells #[.int .i64 d.k, .string (ak d.op), .string (ak d.nm), .string (ak d.tx), .int .i64 d.v, .slice B d.args.length Z] 206)));have aj:=G (aS ⟨g,a3,a5,a4,aO,aP⟩ gl aQ lo P);have ao:=G (aI.out j Qa);clear a1 aZ aY aX aW aV aC aS;simp only[CB.p]at aj;generalize tK gl lo d=r at*;rw[show nF none j=true from rfl]at am;simp only[if_true]at am
     cases r with
     |ok u=>
      go_wp2_with (first|(go_at_call 177;refine(ao.out _).mono ?_;rintro e av ⟨rfl,a⟩;have aG:=G (I.out.trans a);have aM:=G a;have bm:=(y.out.ext a).cell;have an:=G (A.out.ext a);clear a ao)|(go_at_call 176;refine(aj.out _ B _ Z an.out (a6.out.keep (.of_ext aM.out) (λb o _=>o))).mono ?_;unfold cG;rintro e a9 ⟨rfl,a⟩;have R:=G (aG.out.trans a);have bt:=G (an.out.ext a);clear a aj));go_roundw
      case rel=>exact⟨j+1,by go_num,by omega,G (am.out.symm.trans aH.out),R,bt⟩
      case measure=>simp[intOf];omega
     |error q=>
      obtain⟨ba,n⟩:=q;have aL:=G (show M= .error (ba,n)from aH.out.symm.trans am.out);go_wp2_with (first|(go_at_call 177;refine(ao.out _).mono ?_;rintro e av ⟨rfl,a⟩;have aG:=G (I.out.trans a);have aM:=G a;have bm:=(y.out.ext a).cell;have an:=G (A.out.ext a);clear a ao)|(go_at_call 176;refine(aj.out _ B _ Z an.out (a6.out.keep (.of_ext aM.out) (λb o _=>o))).mono ?_;unfold cG bh;rintro e a9 ⟨rfl,a⟩;have R:=G (aG.out.trans a);clear a aj));exact⟨rfl,by rw[aL.out];rfl,R.out⟩
    ·have bg: ¬(j:Int)<k:=Qa
     have aL:=G (show M= .ok () by
      have:=aH.out;rw[aK (by have:=a8.out;omega),wP]at this
      exact this.symm)
     go_wp2_with fail;exact bodyPost_end (results_none rfl _ _ _) rfl ⟨by rw[aL.out];rfl,J.out⟩
  ·have al:=G (show M= .error (nm,16) by rw[ab.out,hfn];simp[hkN]);have bB:((k:Int) !=(N:Int))=true:=Qg
   have bz:((k:Int)==(N:Int))=false:=Qg
   clear aJ aI ab;go_enter func218,ntmps218;go_wp2_with (go_at_call 175;refine ad.out.mono ?_;rintro e ag ⟨rfl,a⟩;have I:=G (ac.out.trans a);have y:=G (af.out.ext a);have H:=y.out.cell;have A:=G (V.out.ext a);clear a ad af V ac);refine aB 12 1 [] mixed Qb trivial ?_;repeat (refine sx ?_ (λag z=> ?_) ?_;rotate_left;(focus have H:=(y.out.ext z.un).cell;have a2:=(A.out.ext z.un).blk.cell;have K:=(A.out.ext z.un).lookF ax;rw[hfn]at K;simp only[bX,dC]at K;clear z;go_simp<;>with_reducible rfl);simp only[bA,bx,bw,br,bo])
   intro aN F _;simp only[ae,aU];have ai:=G (I.out.trans F.un);clear H;have H:=(y.out.ext F.un).cell;clear F;go_wp2_with (go_at_call 65;refine(ap.out _ _).mono ?_;unfold bh;rintro e av ⟨rfl,a⟩;have R:=G (ai.out.trans a);clear a ap);exact⟨rfl,by rw[al.out];rfl,R.out⟩
theorem vL (op nm tx:List UInt8) (v:Int) (xs:List Ex) (bW:xs.length<=1073741824) (bu:nm.length<=1073741824) (ab:Int) (ls:List UInt8) (H:gh nm=some (ab,ls)) (cc:ls.length<=3) (bD: ∀an∈xs,Hb an) (bB: ∀an∈xs,an.nm.length<=1073741824):JL op nm tx v xs:=by
 intro X gl av lo P w aW n c bC bf;obtain⟨cp,c',bU,bZ⟩:=bf.form;injection bU with bT bS bR;subst bT bS bR;have bG:=G bf;have bK:=G bD;have b6:=G bB;have b8:=G (Cj H);obtain⟨N,aO⟩: ∃N,xs.length=N:=⟨_,rfl⟩
 have bH:=G aO;rw[aO]at bG bW;obtain⟨ac,be⟩: ∃b5,tK gl lo (.mk 5 op nm tx v xs)=b5:=⟨_,rfl⟩
 have a5:=G (show ac=if ls.length=N then wP gl lo nm (some (ab,ls)) 0 xs else .error (nm,16) by
  rw[<-be,tK,if_neg Qd,if_neg Qd,if_neg Qd,if_pos rfl];unfold Cr
  rw[H,<-aO])
 have bi:=aa w (.cells #[.int .i64 5, .string (ak op), .string (ak nm), .string (ak tx), .int .i64 v, .slice aW N c] 206);have a6:=G bi;have ba:=G (aq w 206 #[.int .i64 5, .string (ak op), .string (ak nm), .string (ak tx), .int .i64 v, .slice aW N c]);have aT:=G (bC.ext bi)
 have a8:=G (show Calls prog 175 #[.string (ak nm)] (w.alloc (.cells #[.int .i64 5, .string (ak op), .string (ak nm), .string (ak tx), .int .i64 v, .slice aW N c] 206)) λe w'=>e= .returned (.tuple #[.int .i64 ab, .string (ak ls), .bool true])/\au (w.alloc (.cells #[.int .i64 5, .string (ak op), .string (ak nm), .string (ak tx), .int .i64 v, .slice aW N c] 206)) w' from by
  have:=mh nm _ aT.out.t;rw[H]at this
  exact this)
 have bJ:=G (fun(i:Nat) (bY:i<=1073741824) (W:World)=>show Calls prog 177 #[.string (ak ls), .bool true, .int .i64 (i:Int)] W λe w'=>e= .returned (.bool (nF (some (ab,ls)) i))/\au W w' from lL (some (ab,ls)) i bY (by simp only[EQ];omega) W);have am:=G (λn W=>ew nm n W);have cb:=a7 ls;clear bf bZ bD bB H bi bC;rw[aO,be];clear aO be;obtain⟨g,az,aC,aA,ap,ar⟩:=X;simp only[CB.p]at*;obtain⟨bj,bz⟩: ∃bj,gl.fn nm=bj:=⟨_,rfl⟩
 cases bj;all_goals
  by_cases hkN:ls.length=N
  ·have bm:=G (show ac=wP gl lo nm (some (ab,ls)) 0 xs by rw[a5.out,if_pos hkN]);have b7:=G (show wP gl lo nm (some (ab,ls)) 0 (xs.drop 0)=ac from bm.out.symm);have ce:((ls.length:Int) !=(N:Int))=false:=by simp[hkN]
   clear a5;go_enter func218,ntmps218;go_wp2_with (go_at_call 175;refine a8.out.mono ?_;rintro e bb ⟨rfl,a⟩;have M:=G (a6.out.trans a);have F:=G (ba.out.ext a);have I:=F.out.cell;have A:=G (aT.out.ext a);clear a a8 ba aT a6);refine aB 12 1 [] mixed Qb trivial ?_;repeat (refine sx ?_ (λbb aj=> ?_) ?_;rotate_left;(focus have I:=(F.out.ext aj.un).cell;have b4:=(A.out.ext aj.un).blk.cell;have aP:=(A.out.ext aj.un).lookF bu;rw[bz]at aP;simp only[bX,fi,dC,dQ]at aP;clear aj;go_simp<;>with_reducible rfl);simp only[bA,bx,bw,br,bo])
   intro bL ai _;simp only[ae,aU];have bk:=G (M.out.trans ai.un);have bI:=G (A.out.ext ai.un);have a9:=G (F.out.ext ai.un);clear I;have I:=a9.out.cell;clear ai M A F;go_wp2_with fail;clear I
   go_loopw [53] (λbc wr=> ∃(j:Nat),bc= .int .i64 (j:Int)/\j<=N/\Hid (wP gl lo nm (some (ab,ls)) j (xs.drop j)=ac)/\Hid (au w wr)/\Hid (CK ⟨g,az,aC,aA,ap,ar⟩ gl av lo wr)/\Hid (aM wr w.heap.size 206 #[.int .i64 5, .string (ak op), .string (ak nm), .string (ak tx), .int .i64 v, .slice aW N c])) (λbc _=>N-(intOf bc).toNat)
   case atStart=>exact⟨0,rfl,aD _,b7,bk,bI,a9⟩
   case round=>
    obtain⟨j,rfl,ch,ad,al,b9,V⟩:=hrel;by_cases hlt:j<N
    ·have bV:(j:Int)<N:=Qa
     have aY:j<xs.length:=by have:=bH.out;omega
     have aX:j<ls.length:=Qa
     obtain⟨b,ca,co,rfl,H,ci,a4,a3,a2,a1,aZ,bE,aN⟩:=bG.out.at_ j aY;have d:=uW (gl:=gl) (lo:=lo) (nm:=nm) (b:=some (ab,ls)) aY;have bg:=bK.out _ (ay aY);have aw:=b6.out _ (ay aY);obtain⟨an,bp⟩: ∃an,xs[j]=an:=⟨_,rfl⟩
     rw[bp]at a4 a3 a2 a1 aZ aN d bg aw;clear bp;obtain⟨K,aL,ag,aH,aG,aR⟩:=an;simp only[Ex.k,Ex.op,Ex.nm,Ex.tx,Ex.v,Ex.args]at a4 a3 a2 a1 aZ aN d aw;have e0:=(al.out.cell b _ H).trans a4;have cn:=(al.out.cell b _ H).trans a3;have cm:=(al.out.cell b _ H).trans a2;have cl:=(al.out.cell b _ H).trans a1;have ck:=(al.out.cell b _ H).trans aZ;have cj:=(al.out.cell b _ H).trans bE;obtain⟨B,ax,rfl,_⟩:=aN.form;have bF:=G ((aN.keep (.of_ext al.out) (Q:=P) (λb H _=>H)).keep (.of_ext (aa _ (.cells #[.int .i64 K, .string (ak aL), .string (ak ag), .string (ak aH), .int .i64 aG, .slice B aR.length ax] 206))) (Q:=P) (λb H _=>H));have F:=G (aq wr 206 #[.int .i64 K, .string (ak aL), .string (ak ag), .string (ak aH), .int .i64 aG, .slice B aR.length ax]);have M:=G (al.out.alloc' (.cells #[.int .i64 K, .string (ak aL), .string (ak ag), .string (ak aH), .int .i64 aG, .slice B aR.length ax] 206));have A:=G (b9.out.ext (aa wr (.cells #[.int .i64 K, .string (ak aL), .string (ak ag), .string (ak aH), .int .i64 aG, .slice B aR.length ax] 206)));have aE:=G (bg ⟨g,az,aC,aA,ap,ar⟩ gl av lo P);have o:=G (bJ.out j Qa);clear a4 a3 a2 a1 aZ bE aN bg;simp only[CB.p,Ex.k,Ex.op,Ex.nm,Ex.tx,Ex.v,Ex.args]at aE
     cases hia:nF (some (ab,ls)) j with
     |true=>
      rw[hia]at d o;simp only[if_true]at d;generalize tK gl lo (.mk K aL ag aH aG aR)=r at*
      cases r with
      |ok u=>
       have d:=G d;go_wp2_with (first|(go_at_call 177;refine(o.out _).mono ?_;rintro e af ⟨rfl,a⟩;have y:=G (M.out.trans a);have R:=G a;have ah:=(F.out.ext a).cell;have I:=(V.out.ext ((aa _ _).trans a)).cell;have z:=G (A.out.ext a);clear a o)|(go_at_call 176;refine(aE.out _ B _ ax z.out (bF.out.keep (.of_ext R.out) (λb H _=>H))).mono ?_;unfold cG;rintro e aF ⟨rfl,a⟩;have J:=G (y.out.trans a);have aS:=G (z.out.ext a);have aV:=G (V.out.ext ((aa _ _).trans (R.out.trans a)));clear a aE));go_roundw
       case rel=>exact⟨j+1,by go_num,by omega,G (d.out.symm.trans ad.out),J,aS,aV⟩
       case measure=>simp[intOf];omega
      |error q=>
       obtain⟨aJ,n⟩:=q;have d:=G d;have Z:=G (show ac= .error (aJ,n)from ad.out.symm.trans d.out);go_wp2_with (first|(go_at_call 177;refine(o.out _).mono ?_;rintro e af ⟨rfl,a⟩;have y:=G (M.out.trans a);have R:=G a;have ah:=(F.out.ext a).cell;have I:=(V.out.ext ((aa _ _).trans a)).cell;have z:=G (A.out.ext a);clear a o)|(go_at_call 176;refine(aE.out _ B _ ax z.out (bF.out.keep (.of_ext R.out) (λb H _=>H))).mono ?_;unfold cG bh;rintro e aF ⟨rfl,a⟩;have J:=G (y.out.trans a);clear a aE));exact⟨rfl,by rw[Z.out];rfl,J.out⟩
     |false=>
      rw[hia]at d o;have bt:=b8.out _ (ay aX);have ao:=λw=>lX ls j aX w;have bq:ls[j]≠105:=by
       intro e;have:nF (some (ab,ls)) j=true:=by
        simp only[nF];rw[dn];right;rw[bP,aI aX];simp[e]
       rw[this]at hia
       cases hia
      have bv:DG (some (ab,ls)) j=ls[j]:=by simp only[DG];rw[bP,aI aX];rfl
      rw[bv]at d;have cg:(j:Int)<ls.length:=Qa
      generalize ls[j]=q at bt ao bq d;simp only[aQ,if_false]at d;clear hia bv aE;rcases bt with rfl|rfl|rfl|rfl
      ·exact absurd rfl bq
      ·have ao: ∀w,(Instr.index 9 (.string (ak ls)) (.int .i64 (j:Int))).run prog w= .ok (.int .u8 115) w:=ao;by_cases hk2:K=2
       ·subst hk2;simp[tA]at d;have d:=G d;go_wp2_with (go_at_call 177;refine(o.out _).mono ?_;rintro e af ⟨rfl,a⟩;have y:=G (M.out.trans a);have R:=G a;have ah:=(F.out.ext a).cell;have I:=(V.out.ext ((aa _ _).trans a)).cell;have z:=G (A.out.ext a);clear a o);go_roundw
        case rel=>exact⟨j+1,by go_num,by omega,G (d.out.symm.trans ad.out),y,z,G (V.out.ext ((aa _ _).trans R.out))⟩
        case measure=>simp[intOf];omega
       ·have bN:(K !=2)=true:=by simpa using hk2
        have bQ:(K==2)=false:=by simpa using hk2
        simp[tA,hk2]at d;have d:=G d;have Z:=G (show ac= .error (nm,16)from ad.out.symm.trans d.out);go_wp2_with (first|(go_at_call 177;refine(o.out _).mono ?_;rintro e af ⟨rfl,a⟩;have y:=G (M.out.trans a);have R:=G a;have ah:=(F.out.ext a).cell;have I:=(V.out.ext ((aa _ _).trans a)).cell;have z:=G (A.out.ext a);clear a o)|(go_at_call 65;refine(am.out _ _).mono ?_;unfold bh;rintro e bn ⟨rfl,a⟩;have J:=G (y.out.trans a);clear a am));exact⟨rfl,by rw[Z.out];rfl,J.out⟩
      ·have ao: ∀w,(Instr.index 9 (.string (ak ls)) (.int .i64 (j:Int))).run prog w= .ok (.int .u8 97) w:=ao;by_cases hk3:K=3
       ·subst hk3;simp[tA]at d
        cases hca:mC gl lo ag with
        |ok u=>
         rw[hca]at d;have d:=G d;go_wp2_with (first|(go_at_call 177;refine(o.out _).mono ?_;rintro e af ⟨rfl,a⟩;have y:=G (M.out.trans a);have R:=G a;have ah:=(F.out.ext a).cell;have I:=(V.out.ext ((aa _ _).trans a)).cell;have z:=G (A.out.ext a);clear a o)|(go_at_call 125;refine(eQ ⟨g,az,aC,aA,ap,ar⟩ gl av lo _ z.out ag aw).mono ?_;rw[hca];unfold cG;rintro e aF ⟨rfl,a⟩;have J:=G (y.out.trans a);have aS:=G (z.out.ext a);have aV:=G (V.out.ext ((aa _ _).trans (R.out.trans a)));clear a));go_roundw
         case rel=>exact⟨j+1,by go_num,by omega,G (d.out.symm.trans ad.out),J,aS,aV⟩
         case measure=>simp[intOf];omega
        |error q=>
         obtain⟨aJ,n⟩:=q;rw[hca]at d;have d:=G d;have Z:=G (show ac= .error (aJ,n)from ad.out.symm.trans d.out);go_wp2_with (first|(go_at_call 177;refine(o.out _).mono ?_;rintro e af ⟨rfl,a⟩;have y:=G (M.out.trans a);have R:=G a;have ah:=(F.out.ext a).cell;have I:=(V.out.ext ((aa _ _).trans a)).cell;have z:=G (A.out.ext a);clear a o)|(go_at_call 125;refine(eQ ⟨g,az,aC,aA,ap,ar⟩ gl av lo _ z.out ag aw).mono ?_;rw[hca];unfold cG bh;rintro e aF ⟨rfl,a⟩;have J:=G (y.out.trans a);clear a));exact⟨rfl,by rw[Z.out];rfl,J.out⟩
       ·have bM:(K !=3)=true:=by simpa using hk3
        have bO:(K==3)=false:=by simpa using hk3
        simp[tA,hk3]at d;have d:=G d;have Z:=G (show ac= .error (nm,16)from ad.out.symm.trans d.out);go_wp2_with (first|(go_at_call 177;refine(o.out _).mono ?_;rintro e af ⟨rfl,a⟩;have y:=G (M.out.trans a);have R:=G a;have ah:=(F.out.ext a).cell;have I:=(V.out.ext ((aa _ _).trans a)).cell;have z:=G (A.out.ext a);clear a o)|(go_at_call 65;refine(am.out _ _).mono ?_;unfold bh;rintro e bn ⟨rfl,a⟩;have J:=G (y.out.trans a);clear a am));exact⟨rfl,by rw[Z.out];rfl,J.out⟩
      ·have ao: ∀w,(Instr.index 9 (.string (ak ls)) (.int .i64 (j:Int))).run prog w= .ok (.int .u8 98) w:=ao;by_cases hk3:K=3
       ·subst hk3;simp[tA]at d
        cases hca:mC gl lo ag with
        |ok u=>
         rw[hca]at d;have d:=G d;go_wp2_with (first|(go_at_call 177;refine(o.out _).mono ?_;rintro e af ⟨rfl,a⟩;have y:=G (M.out.trans a);have R:=G a;have ah:=(F.out.ext a).cell;have I:=(V.out.ext ((aa _ _).trans a)).cell;have z:=G (A.out.ext a);clear a o)|(go_at_call 125;refine(eQ ⟨g,az,aC,aA,ap,ar⟩ gl av lo _ z.out ag aw).mono ?_;rw[hca];unfold cG;rintro e aF ⟨rfl,a⟩;have J:=G (y.out.trans a);have aS:=G (z.out.ext a);have aV:=G (V.out.ext ((aa _ _).trans (R.out.trans a)));clear a));go_roundw
         case rel=>exact⟨j+1,by go_num,by omega,G (d.out.symm.trans ad.out),J,aS,aV⟩
         case measure=>simp[intOf];omega
        |error q=>
         obtain⟨aJ,n⟩:=q;rw[hca]at d;have d:=G d;have Z:=G (show ac= .error (aJ,n)from ad.out.symm.trans d.out);go_wp2_with (first|(go_at_call 177;refine(o.out _).mono ?_;rintro e af ⟨rfl,a⟩;have y:=G (M.out.trans a);have R:=G a;have ah:=(F.out.ext a).cell;have I:=(V.out.ext ((aa _ _).trans a)).cell;have z:=G (A.out.ext a);clear a o)|(go_at_call 125;refine(eQ ⟨g,az,aC,aA,ap,ar⟩ gl av lo _ z.out ag aw).mono ?_;rw[hca];unfold cG bh;rintro e aF ⟨rfl,a⟩;have J:=G (y.out.trans a);clear a));exact⟨rfl,by rw[Z.out];rfl,J.out⟩
       ·have bM:(K !=3)=true:=by simpa using hk3
        have bO:(K==3)=false:=by simpa using hk3
        by_cases hk2:K=2
        ·subst hk2;simp[tA]at d;have d:=G d;go_wp2_with (go_at_call 177;refine(o.out _).mono ?_;rintro e af ⟨rfl,a⟩;have y:=G (M.out.trans a);have R:=G a;have ah:=(F.out.ext a).cell;have I:=(V.out.ext ((aa _ _).trans a)).cell;have z:=G (A.out.ext a);clear a o);go_roundw
         case rel=>exact⟨j+1,by go_num,by omega,G (d.out.symm.trans ad.out),y,z,G (V.out.ext ((aa _ _).trans R.out))⟩
         case measure=>simp[intOf];omega
        ·have bN:(K !=2)=true:=by simpa using hk2
         have bQ:(K==2)=false:=by simpa using hk2
         simp[tA,hk3,hk2]at d;have d:=G d;have Z:=G (show ac= .error (nm,16)from ad.out.symm.trans d.out);go_wp2_with (first|(go_at_call 177;refine(o.out _).mono ?_;rintro e af ⟨rfl,a⟩;have y:=G (M.out.trans a);have R:=G a;have ah:=(F.out.ext a).cell;have I:=(V.out.ext ((aa _ _).trans a)).cell;have z:=G (A.out.ext a);clear a o)|(go_at_call 65;refine(am.out _ _).mono ?_;unfold bh;rintro e bn ⟨rfl,a⟩;have J:=G (y.out.trans a);clear a am));exact⟨rfl,by rw[Z.out];rfl,J.out⟩
    ·have bV: ¬(j:Int)<N:=Qa
     have Z:=G (show ac= .ok () by
      have:=ad.out;rw[aK (by have:=bH.out;omega),wP]at this
      exact this.symm)
     go_wp2_with fail;exact bodyPost_end (results_none rfl _ _ _) rfl ⟨by rw[Z.out];rfl,al.out⟩
  ·have bm:=G (show ac= .error (nm,16) by rw[a5.out,if_neg hkN]);have cf:((ls.length:Int) !=(N:Int))=true:=Qg
   have cd:((ls.length:Int)==(N:Int))=false:=Qg
   clear bK bJ a5;go_enter func218,ntmps218;go_wp2_with (go_at_call 175;refine a8.out.mono ?_;rintro e bb ⟨rfl,a⟩;have M:=G (a6.out.trans a);have F:=G (ba.out.ext a);have I:=F.out.cell;have A:=G (aT.out.ext a);clear a a8 ba aT a6);refine aB 12 1 [] mixed Qb trivial ?_;repeat (refine sx ?_ (λbb aj=> ?_) ?_;rotate_left;(focus have I:=(F.out.ext aj.un).cell;have b4:=(A.out.ext aj.un).blk.cell;have aP:=(A.out.ext aj.un).lookF bu;rw[bz]at aP;simp only[bX,fi,dC,dQ]at aP;clear aj;go_simp<;>with_reducible rfl);simp only[bA,bx,bw,br,bo])
   intro bL ai _;simp only[ae,aU];have bk:=G (M.out.trans ai.un);have bI:=G (A.out.ext ai.un);have a9:=G (F.out.ext ai.un);clear I;have I:=a9.out.cell;clear ai M A F;go_wp2_with (go_at_call 65;refine(am.out _ _).mono ?_;unfold bh;rintro e af ⟨rfl,a⟩;have J:=G (bk.out.trans a);clear a am);exact⟨rfl,by rw[bm.out];rfl,J.out⟩
theorem vK (k:Int) (op nm tx:List UInt8) (v:Int) (xs:List Ex) (ad:nm.length<=1073741824) (ab:EY xs) (aj:k=5->JL op nm tx v xs):Hb (.mk k op nm tx v xs):=by
 intro X gl I lo P w z n c K J;obtain⟨am,af⟩: ∃an,tK gl lo (.mk k op nm tx v xs)=an:=⟨_,rfl⟩
 have V:=G (af.symm.trans (tK.eq_1 gl lo k op nm tx v xs));simp only[Ex.k,Ex.op,Ex.nm,Ex.tx,Ex.v,Ex.args]at*;rw[af];clear af;by_cases h3:k=3
 ·subst h3;have a:=V.out;rw[if_pos rfl]at a;have d:=G (aa w (.cells #[.int .i64 3, .string (ak op), .string (ak nm), .string (ak tx), .int .i64 v, .slice z n c] 206));have F:=aq w 206 #[.int .i64 3, .string (ak op), .string (ak nm), .string (ak tx), .int .i64 v, .slice z n c];have Z:=G F;have A:=G (K.ext d.out);have M:=G (J.keep (.of_ext d.out) (Q:=P) (λb H _=>H));clear K J F
  cases hr:rT gl lo nm with
  |ok u=>
   have y:=G (a.trans hr);go_enter func176,ntmps176;go_wp2_with (go_at_call 124;refine(fE X gl I lo _ A.out nm ad).mono ?_;rw[hr];unfold cG;rintro e R ⟨rfl,a⟩;have o:=G (d.out.trans a);clear a);exact bodyPost_end (results_none rfl _ _ _) rfl ⟨by rw[y.out];rfl,o.out⟩
  |error q=>
   obtain⟨ac,m⟩:=q;have y:=G (a.trans hr);go_enter func176,ntmps176;go_wp2_with (go_at_call 124;refine(fE X gl I lo _ A.out nm ad).mono ?_;rw[hr];unfold cG bh;rintro e R ⟨rfl,a⟩;have o:=G (d.out.trans a);clear a);exact⟨rfl,by rw[y.out];rfl,o.out⟩
 by_cases h4:k=4
 ·subst h4;have a:=V.out;rw[if_neg Qd,if_pos rfl]at a;have d:=G (aa w (.cells #[.int .i64 4, .string (ak op), .string (ak nm), .string (ak tx), .int .i64 v, .slice z n c] 206));have F:=aq w 206 #[.int .i64 4, .string (ak op), .string (ak nm), .string (ak tx), .int .i64 v, .slice z n c];have Z:=G F;have A:=G (K.ext d.out);have M:=G (J.keep (.of_ext d.out) (Q:=P) (λb H _=>H));clear K J F
  cases hr:mC gl lo nm with
  |ok u=>
   rw[hr,fI]at a
   cases hs:tn gl lo xs with
   |ok u=>
    have y:=G (a.trans hs);go_enter func176,ntmps176;go_wp2_with (first|(go_at_call 125;refine(eQ X gl I lo _ A.out nm ad).mono ?_;rw[hr];unfold cG;rintro e R ⟨rfl,a⟩;have o:=G (d.out.trans a);have ae:=G a;have al:=(Z.out.ext a).cell;clear a)|(go_at_call 126;refine(ab X gl I lo P _ z n c (A.out.ext ae.out) (M.out.keep (.of_ext ae.out) (λb H _=>H))).mono ?_;rw[hs];unfold cG;rintro e ai ⟨rfl,a⟩;have ag:=G (o.out.trans a);clear a));exact bodyPost_end (results_none rfl _ _ _) rfl ⟨by rw[y.out];rfl,ag.out⟩
   |error q=>
    obtain⟨ac,m⟩:=q;have y:=G (a.trans hs);go_enter func176,ntmps176;go_wp2_with (first|(go_at_call 125;refine(eQ X gl I lo _ A.out nm ad).mono ?_;rw[hr];unfold cG;rintro e R ⟨rfl,a⟩;have o:=G (d.out.trans a);have ae:=G a;have al:=(Z.out.ext a).cell;clear a)|(go_at_call 126;refine(ab X gl I lo P _ z n c (A.out.ext ae.out) (M.out.keep (.of_ext ae.out) (λb H _=>H))).mono ?_;rw[hs];unfold cG bh;rintro e ai ⟨rfl,a⟩;have ag:=G (o.out.trans a);clear a));exact⟨rfl,by rw[y.out];rfl,ag.out⟩
  |error q=>
   obtain⟨ac,m⟩:=q;rw[hr,gz]at a;have y:=G a;go_enter func176,ntmps176;go_wp2_with (go_at_call 125;refine(eQ X gl I lo _ A.out nm ad).mono ?_;rw[hr];unfold cG bh;rintro e R ⟨rfl,a⟩;have o:=G (d.out.trans a);clear a);exact⟨rfl,by rw[y.out];rfl,o.out⟩
 by_cases h2:k=2
 ·subst h2;have a:=V.out;rw[if_neg Qd,if_neg Qd,if_pos rfl]at a;have y:=G a;have d:=G (aa w (.cells #[.int .i64 2, .string (ak op), .string (ak nm), .string (ak tx), .int .i64 v, .slice z n c] 206));have F:=aq w 206 #[.int .i64 2, .string (ak op), .string (ak nm), .string (ak tx), .int .i64 v, .slice z n c];have Z:=G F;have A:=G (K.ext d.out);have M:=G (J.keep (.of_ext d.out) (Q:=P) (λb H _=>H));clear K J F;have ao:=G (λW=>show Calls prog 65 #[.string ⟨#[]⟩, .int .i64 16] W λe w'=>e=bh [] 16/\au W w' from ew [] 16 W);go_enter func176,ntmps176;go_wp2_with (go_at_call 65;refine(ao.out _).mono ?_;unfold bh;rintro e R ⟨rfl,a⟩;have o:=G (d.out.trans a);clear a);exact⟨rfl,by rw[y.out];rfl,o.out⟩
 by_cases h5:k=5
 ·subst h5;have ah:=G (aj rfl);have V:=G (show tK gl lo (.mk 5 op nm tx v xs)=am by rw[V.out,tK]);have d:=G (aa w (.cells #[.int .i64 5, .string (ak op), .string (ak nm), .string (ak tx), .int .i64 v, .slice z n c] 206));have F:=aq w 206 #[.int .i64 5, .string (ak op), .string (ak nm), .string (ak tx), .int .i64 v, .slice z n c];have Z:=G F;have A:=G (K.ext d.out);have M:=G (J.keep (.of_ext d.out) (Q:=P) (λb H _=>H));clear K J F
  cases hr:tK gl lo (.mk 5 op nm tx v xs)with
  |ok u=>
   have y:=G (V.out.symm.trans hr);go_enter func176,ntmps176;go_wp2_with (go_at_call 218;refine(ah.out X gl I lo P _ z n c A.out M.out).mono ?_;rw[hr];unfold cG;rintro e R ⟨rfl,a⟩;have o:=G (d.out.trans a);clear a);exact bodyPost_end (results_none rfl _ _ _) rfl ⟨by rw[y.out];rfl,o.out⟩
  |error q=>
   obtain⟨ac,m⟩:=q;have y:=G (V.out.symm.trans hr);go_enter func176,ntmps176;go_wp2_with (go_at_call 218;refine(ah.out X gl I lo P _ z n c A.out M.out).mono ?_;rw[hr];unfold cG bh;rintro e R ⟨rfl,a⟩;have o:=G (d.out.trans a);clear a);exact⟨rfl,by rw[y.out];rfl,o.out⟩
 by_cases h6:k=6
 ·subst h6;have a:=V.out;rw[if_neg Qd,if_neg Qd,if_neg Qd,if_neg Qd,if_pos Qd]at a;have d:=G (aa w (.cells #[.int .i64 6, .string (ak op), .string (ak nm), .string (ak tx), .int .i64 v, .slice z n c] 206));have F:=aq w 206 #[.int .i64 6, .string (ak op), .string (ak nm), .string (ak tx), .int .i64 v, .slice z n c];have Z:=G F;have A:=G (K.ext d.out);have M:=G (J.keep (.of_ext d.out) (Q:=P) (λb H _=>H));clear K J F
  cases hr:tn gl lo xs with
  |ok u=>
   have y:=G (a.trans hr);go_enter func176,ntmps176;go_wp2_with (go_at_call 126;refine(ab X gl I lo P _ z n c A.out M.out).mono ?_;rw[hr];unfold cG;rintro e R ⟨rfl,a⟩;have o:=G (d.out.trans a);clear a);exact bodyPost_end (results_none rfl _ _ _) rfl ⟨by rw[y.out];rfl,o.out⟩
  |error q=>
   obtain⟨ac,m⟩:=q;have y:=G (a.trans hr);go_enter func176,ntmps176;go_wp2_with (go_at_call 126;refine(ab X gl I lo P _ z n c A.out M.out).mono ?_;rw[hr];unfold cG bh;rintro e R ⟨rfl,a⟩;have o:=G (d.out.trans a);clear a);exact⟨rfl,by rw[y.out];rfl,o.out⟩
 by_cases h7:k=7
 ·subst h7;have a:=V.out;rw[if_neg Qd,if_neg Qd,if_neg Qd,if_neg Qd,if_pos Qd]at a;have d:=G (aa w (.cells #[.int .i64 7, .string (ak op), .string (ak nm), .string (ak tx), .int .i64 v, .slice z n c] 206));have F:=aq w 206 #[.int .i64 7, .string (ak op), .string (ak nm), .string (ak tx), .int .i64 v, .slice z n c];have Z:=G F;have A:=G (K.ext d.out);have M:=G (J.keep (.of_ext d.out) (Q:=P) (λb H _=>H));clear K J F
  cases hr:tn gl lo xs with
  |ok u=>
   have y:=G (a.trans hr);go_enter func176,ntmps176;go_wp2_with (go_at_call 126;refine(ab X gl I lo P _ z n c A.out M.out).mono ?_;rw[hr];unfold cG;rintro e R ⟨rfl,a⟩;have o:=G (d.out.trans a);clear a);exact bodyPost_end (results_none rfl _ _ _) rfl ⟨by rw[y.out];rfl,o.out⟩
  |error q=>
   obtain⟨ac,m⟩:=q;have y:=G (a.trans hr);go_enter func176,ntmps176;go_wp2_with (go_at_call 126;refine(ab X gl I lo P _ z n c A.out M.out).mono ?_;rw[hr];unfold cG bh;rintro e R ⟨rfl,a⟩;have o:=G (d.out.trans a);clear a);exact⟨rfl,by rw[y.out];rfl,o.out⟩
 have a:=V.out;rw[if_neg h3,if_neg h4,if_neg h2,if_neg h5,if_neg Qa]at a;have y:=G a;have o:=G (aa w (.cells #[.int .i64 k, .string (ak op), .string (ak nm), .string (ak tx), .int .i64 v, .slice z n c] 206));have ax:=Qn.2 h3;have aw:=Qn.2 h4;have ay:=Qn.2 h2;have av:=Qn.2 h5;have ar:=Qn.2 h6;have ap:=Qn.2 h7;clear K J;go_enter func176,ntmps176;go_wp2_with fail;exact bodyPost_end (results_none rfl _ _ _) rfl ⟨by rw[y.out];rfl,o.out⟩
theorem ru: ∀(m:Nat) (x:Ex),x.wt<=m->x.wt<=1073741824->Hb x
 |0,x,h,_=>absurd h (by have:=x.wt_eq;omega)
 |m+1, .mk k op nm tx v xs,h,hw=>by
  rw[Ex.wt]at h hw;have o: ∀a∈xs,Hb a:=λa d=>ru m a (by have:=em d;omega) (by have:=em d;omega);have A:=eg xs;have y: ∀a∈xs,a.nm.length<=1073741824:=λa d=>by have:=em d;have:=a.wt_eq;omega
  refine vK k op nm tx v xs Qa (rL xs Qa o) λF=> ?_
  cases hb:gh nm with
  |none=>exact vM op nm tx v xs Qa Qa hb o
  |some b=>
   obtain⟨z,ls⟩:=b;have u:=xP nm;rw[hb]at u;exact vL op nm tx v xs Qa Qa z ls hb u o y
theorem vJ (xs:List Ex) (h:gD xs<=1073741824):EY xs:=rL xs (by have:=eg xs;omega) λa d=>ru _ a (ah _) (by have:=em d;omega)
def qL (X:CB) (gl:Gl) (bl:Nat) (r:SR) (w:World) (e:Ending) (w':World):Prop:=w.grownBy w' (some bl)/\match r with
 | .ok lo=>e= .returned (.tuple #[])/\CK X gl (.map (some bl)) lo w'
 | .error (nm,n)=>e=bh nm n
section
variable {X:CB} {gl:Gl} {lo lo':Ls} {w W W':World} {bl pb:Nat} {P:Nat->Prop}
theorem CK.ml (a:CK X gl (.map (some bl)) lo w):cB w bl (F6 lo)/\bl≠X.g/\bl≠X.bi/\bl≠X.ba/\bl≠X.bf:=by
 rcases a.l with⟨a,_⟩|⟨b,a,hm⟩
 ·cases a
 ·injection a with a;injection a with a;subst a;exact hm
theorem CK.lt_bl (a:CK X gl (.map (some bl)) lo w):bl<w.heap.size:=a.ml.1.lt
theorem CK.t_ne (d:CK X gl (.map (some bl)) lo w):bl≠1:=by
 rintro rfl;obtain⟨t,fr,h⟩:=d.t;obtain⟨es,c,a,_⟩:=d.ml.1;rw[h]at a;cases a
theorem CK.add {nm:List UInt8} (d:CK X gl (.map (some bl)) lo w) (G:cB W bl ((F6 lo).upd nm (.bool true))) (o:w.grownBy W (some bl)):CK X gl (.map (some bl)) (lo.add nm) W:=by
 obtain⟨I,F,A,z,y⟩:=d.ml;have h: ∀k,bl≠k->some k≠some bl:=λk H e=>H (by injection e with e;exact e.symm);refine⟨d.blk.grown o (h _ F),d.i.grown o (h _ A),d.a.grown o (h _ z),d.f.grown o (h _ y), .inr ⟨bl,rfl,G.congr λs=> ?_,F,A,z,y⟩,?_⟩
 ·unfold KF.upd F6 Ls.add;by_cases e:s=nm
  ·subst e;simp
  ·simp[e]
 ·obtain⟨t,fr,u⟩:=d.t;exact⟨t,fr,(o.block _ (Array.getElem?_eq_some_iff.1 u).1 (h _ d.t_ne)).trans u⟩
structure SQ (w:World) (pb bl:Nat) (P:Nat->Prop) (X:CB) (gl:Gl) (lo:Ls) (cs:Array Value) (ex:List Ex) (bd el:List St) (A1 A2 A3:Option Addr) (c1 c2 c3:Nat) (W:World):Prop where
 gr:w.grownBy W (some bl)
 ck:CK X gl (.map (some bl)) lo W
 bk:aM W pb 147 cs
 re:dL W P (.slice A1 ex.length c1) ex
 rb:ed W P (.slice A2 bd.length c2) bd
 rl:ed W P (.slice A3 el.length c3) el
 hP: ∀b,P b->b≠bl
 ne:bl≠pb
variable {cs:Array Value} {ex:List Ex} {bd el:List St} {A1 A2 A3:Option Addr} {c1 c2 c3:Nat}
theorem SQ.ext (a:SQ w pb bl P X gl lo cs ex bd el A1 A2 A3 c1 c2 c3 W) (d:au W W'):SQ w pb bl P X gl lo cs ex bd el A1 A2 A3 c1 c2 c3 W':=
 ⟨a.gr.trans (d.grownBy _),a.ck.ext d,a.bk.ext d,a.re.keep (.of_ext d) (λb h _=>h),a.rb.keep (.of_ext d) (λb h _=>h),a.rl.keep (.of_ext d) (λb h _=>h),a.hP,a.ne⟩
theorem SQ.grown (a:SQ w pb bl P X gl lo cs ex bd el A1 A2 A3 c1 c2 c3 W) (o:W.grownBy W' (some bl)) (u:CK X gl (.map (some bl)) lo' W'):SQ w pb bl P X gl lo' cs ex bd el A1 A2 A3 c1 c2 c3 W':=by
 have h:dE P W W':= .of_grown o (λb d e=>a.hP b d (by injection e));exact⟨a.gr.trans o,u,a.bk.grown o (λe=>a.ne (by injection e with e;exact e.symm)),a.re.keep h (λb d _=>d),a.rb.keep h (λb d _=>d),a.rl.keep h (λb d _=>d),a.hP,a.ne⟩
theorem SQ.ml (a:SQ w pb bl P X gl lo cs ex bd el A1 A2 A3 c1 c2 c3 W):cB W bl (F6 lo):=a.ck.ml.1
end
theorem zj {gl:Gl} {lo:Ls} {l:List St} {j:Nat} (d:j<l.length):iX gl lo (l.drop j)=CR.then (GR gl lo l[j]) λa=>iX gl a (l.drop (j+1)):=by
 rw[ap d,iX]
def EX (xs:List St):Prop:= ∀(X:CB) (gl:Gl) (bl:Nat) (lo:Ls) (P:Nat->Prop) (w:World) (A:Option Addr) (n c:Nat),CK X gl (.map (some bl)) lo w->ed w P (.slice A n c) xs->(∀b,P b->b≠bl)->
 Calls prog 66 #[X.p, .slice A n c] w (qL X gl bl (iX gl lo xs) w)
theorem p5 (xs:List St) (bb:xs.length<=1073741824) (aT: ∀s∈xs,s.nm.length<=1073741824) (aW: ∀s∈xs,EY s.ex) (aV: ∀s∈xs,EX s.body/\EX s.els):EX xs:=by
 intro X gl bl lo P w bE n c aU aL V;obtain⟨bD,c',a9,bc⟩:=aL.form;injection a9 with a8 a7 a6;subst a8 a7 a6;have aN:=G aL;have a4:=G aV;have a2:=G aT;have a5:=G aW;have bi:=G aU;obtain⟨N,aC⟩: ∃N,xs.length=N:=⟨_,rfl⟩
 have a3:=G aC;rw[aC]at aN bb;obtain⟨ac,aJ⟩: ∃be,iX gl lo xs=be:=⟨_,rfl⟩
 have bg:=G (show iX gl lo (xs.drop 0)=ac from aJ);have bf:=G (World.grownBy.refl w (some bl));clear aL bc aV aU aT aW;rw[aC,aJ];clear aC aJ;simp only[CB.p]at*;go_enter func66,ntmps66;go_wp2_with fail
 go_loopw [8] (λaI wr=> ∃(j:Nat) (z:Ls),aI= .int .i64 (j:Int)/\j<=N/\Hid (iX gl z (xs.drop j)=ac)/\Hid (w.grownBy wr (some bl))/\Hid (CK X gl (.map (some bl)) z wr)) (λaI _=>N-(intOf aI).toNat)
 case atStart=>exact⟨0,lo,rfl,aD _,bg,bf,bi⟩
 case round=>
  obtain⟨j,z,rfl,bt,Z,aM,aO⟩:=hrel;by_cases hlt:j<N
  ·have ba:(j:Int)<N:=Qa
   have ar:j<xs.length:=by have:=a3.out;omega
   obtain⟨b,bj,e,bC,bq,rfl,ab,az,aG,aF,aZ,aY,aX,av,ax,au⟩:=aN.out.at_ j ar;have A:=zj (gl:=gl) (lo:=z) ar;have af:=a2.out _ (ay ar);have aE:=a5.out _ (ay ar);have aA:=a4.out _ (ay ar);obtain⟨aH,aS⟩: ∃aH,xs[j]=aH:=⟨_,rfl⟩
   rw[aS]at aG aF av ax au A af aE aA;clear aS;obtain⟨k,nm,ex,bd,el⟩:=aH;simp only[St.k,St.nm,St.ex,St.body,St.els]at aG aF av ax au af aE aA;have al:dE P w wr:= .of_grown aM.out (λb ab e=>V b ab (by injection e));have e0:=(al.cell _ az ab).trans aG;have bB:=(al.cell _ az ab).trans aF;have bz:=(al.cell _ az ab).trans aZ;have bv:=(al.cell _ az ab).trans aY;have bu:=(al.cell _ az ab).trans aX;obtain⟨A1,c1,rfl,_⟩:=av.form;obtain⟨A2,c2,rfl,_⟩:=ax.form;obtain⟨A3,c3,rfl,_⟩:=au.form;have ap:=aa wr (.cells #[.int .i64 k, .string (ak nm), .slice A1 ex.length c1, .slice A2 bd.length c2, .slice A3 el.length c3] 147)
   have a:=G (show SQ w wr.heap.size bl P X gl z #[.int .i64 k, .string (ak nm), .slice A1 ex.length c1, .slice A2 bd.length c2, .slice A3 el.length c3] ex bd el A1 A2 A3 c1 c2 c3 (wr.alloc (.cells #[.int .i64 k, .string (ak nm), .slice A1 ex.length c1, .slice A2 bd.length c2, .slice A3 el.length c3] 147))from
    ⟨aM.out.trans (ap.grownBy _),aO.out.ext ap,aq wr _ _,(av.keep al (Q:=P) (λb ab _=>ab)).keep (.of_ext ap) (λb ab _=>ab),(ax.keep al (Q:=P) (λb ab _=>ab)).keep (.of_ext ap) (λb ab _=>ab),(au.keep al (Q:=P) (λb ab _=>ab)).keep (.of_ext ap) (λb ab _=>ab),V,ge aO.out.lt_bl⟩)
   have ad:=G aE;have R:=G aA.1;have ag:=G aA.2;clear aG aF aZ aY aX av ax au aE aA ap al aN a4 a5 a2;rw[GR]at A;by_cases hk2:k=2
   ·subst hk2;rw[if_pos rfl]at A
    cases hr1:rT gl z nm with
    |error q=>
     obtain⟨M,m⟩:=q;rw[hr1,gz]at A;have J:=G (show ac= .error (M,m)from Z.out.symm.trans A);go_wp2_with (go_at_call 124;refine(fE X gl _ z _ a.out.ck nm af).mono ?_;rw[hr1];unfold cG bh;rintro e H ⟨rfl,d⟩;have K:=G (a.out.gr.trans (d.grownBy _));clear d);exact⟨rfl,by rw[J.out];exact⟨K.out,rfl⟩⟩
    |ok u=>
     rw[hr1,fI]at A
     cases hr2:tn gl z ex with
     |error q=>
      obtain⟨M,m⟩:=q;rw[hr2,gz]at A;have J:=G (show ac= .error (M,m)from Z.out.symm.trans A);go_wp2_with (first|(go_at_call 124;refine(fE X gl _ z _ a.out.ck nm af).mono ?_;rw[hr1];unfold cG;rintro e H ⟨rfl,d⟩;replace a:=G (a.out.ext d);clear d;(try clear o);have o:=a.out.bk.cell;)|(go_at_call 126;refine(ad.out X gl _ z P _ A1 ex.length c1 a.out.ck a.out.re).mono ?_;rw[hr2];unfold cG bh;rintro e H ⟨rfl,d⟩;have K:=G (a.out.gr.trans (d.grownBy _));clear d));exact⟨rfl,by rw[J.out];exact⟨K.out,rfl⟩⟩
     |ok u=>
      rw[hr2,fI]at A;rw[if_neg Qd,fI]at A;obtain⟨ao,aj⟩: ∃l,z=l:=⟨_,rfl⟩
      subst aj
      cases hr4:iX gl z bd with
      |error q=>
       obtain⟨M,m⟩:=q;rw[hr4,gz]at A;have J:=G (show ac= .error (M,m)from Z.out.symm.trans A);go_wp2_with (first|(go_at_call 124;refine(fE X gl _ z _ a.out.ck nm af).mono ?_;rw[hr1];unfold cG;rintro e H ⟨rfl,d⟩;replace a:=G (a.out.ext d);clear d;(try clear o);have o:=a.out.bk.cell;)|(go_at_call 126;refine(ad.out X gl _ z P _ A1 ex.length c1 a.out.ck a.out.re).mono ?_;rw[hr2];unfold cG;rintro e H ⟨rfl,d⟩;replace a:=G (a.out.ext d);clear d;(try clear o);have o:=a.out.bk.cell;)|(go_at_call 66;have y:=R.out X gl bl z P _ A2 bd.length c2 a.out.ck a.out.rb V;rw[hr4]at y;clear R;refine y.mono ?_;unfold qL bh;rintro e H ⟨F,rfl⟩;have K:=G (a.out.gr.trans F);clear F y));exact⟨rfl,by rw[J.out];exact⟨K.out,rfl⟩⟩
      |ok lo2=>
       rw[hr4,fI]at A
       cases hr5:iX gl lo2 el with
       |error q=>
        obtain⟨M,m⟩:=q;rw[hr5,gz]at A;have J:=G (show ac= .error (M,m)from Z.out.symm.trans A);go_wp2_with (first|(go_at_call 124;refine(fE X gl _ z _ a.out.ck nm af).mono ?_;rw[hr1];unfold cG;rintro e H ⟨rfl,d⟩;replace a:=G (a.out.ext d);clear d;(try clear o);have o:=a.out.bk.cell;)|(go_at_call 126;refine(ad.out X gl _ z P _ A1 ex.length c1 a.out.ck a.out.re).mono ?_;rw[hr2];unfold cG;rintro e H ⟨rfl,d⟩;replace a:=G (a.out.ext d);clear d;(try clear o);have o:=a.out.bk.cell;)|(go_at_call 66;have y:=R.out X gl bl z P _ A2 bd.length c2 a.out.ck a.out.rb V;rw[hr4]at y;clear R;refine y.mono ?_;unfold qL;rintro e H ⟨F,rfl,I⟩;replace a:=G (a.out.grown F I);clear F I y;(try clear o);have o:=a.out.bk.cell;)|(go_at_call 66;have y:=ag.out X gl bl lo2 P _ A3 el.length c3 a.out.ck a.out.rl V;rw[hr5]at y;clear ag;refine y.mono ?_;unfold qL bh;rintro e H ⟨F,rfl⟩;have K:=G (a.out.gr.trans F);clear F y));exact⟨rfl,by rw[J.out];exact⟨K.out,rfl⟩⟩
       |ok lo3=>
        rw[hr5,fI]at A;go_wp2_with (first|(go_at_call 124;refine(fE X gl _ z _ a.out.ck nm af).mono ?_;rw[hr1];unfold cG;rintro e H ⟨rfl,d⟩;replace a:=G (a.out.ext d);clear d;(try clear o);have o:=a.out.bk.cell;)|(go_at_call 126;refine(ad.out X gl _ z P _ A1 ex.length c1 a.out.ck a.out.re).mono ?_;rw[hr2];unfold cG;rintro e H ⟨rfl,d⟩;replace a:=G (a.out.ext d);clear d;(try clear o);have o:=a.out.bk.cell;)|(go_at_call 66;have y:=R.out X gl bl z P _ A2 bd.length c2 a.out.ck a.out.rb V;rw[hr4]at y;clear R;refine y.mono ?_;unfold qL;rintro e H ⟨F,rfl,I⟩;replace a:=G (a.out.grown F I);clear F I y;(try clear o);have o:=a.out.bk.cell;)|(go_at_call 66;have y:=ag.out X gl bl lo2 P _ A3 el.length c3 a.out.ck a.out.rl V;rw[hr5]at y;clear ag;refine y.mono ?_;unfold qL;rintro e H ⟨F,rfl,I⟩;replace a:=G (a.out.grown F I);clear F I y;(try clear o);have o:=a.out.bk.cell;));go_roundw
        case rel=>exact⟨j+1,lo3,by go_num,by omega,G (A.symm.trans Z.out),G a.out.gr,G a.out.ck⟩
        case measure=>simp[intOf];omega
   by_cases hk3:k=3
   ·subst hk3;rw[if_neg Qd,if_pos rfl]at A
    cases hr1:mC gl z nm with
    |error q=>
     obtain⟨M,m⟩:=q;rw[hr1,gz]at A;have J:=G (show ac= .error (M,m)from Z.out.symm.trans A);go_wp2_with (go_at_call 125;refine(eQ X gl _ z _ a.out.ck nm af).mono ?_;rw[hr1];unfold cG bh;rintro e H ⟨rfl,d⟩;have K:=G (a.out.gr.trans (d.grownBy _));clear d);exact⟨rfl,by rw[J.out];exact⟨K.out,rfl⟩⟩
    |ok u=>
     rw[hr1,fI]at A
     cases hr2:tn gl z ex with
     |error q=>
      obtain⟨M,m⟩:=q;rw[hr2,gz]at A;have J:=G (show ac= .error (M,m)from Z.out.symm.trans A);go_wp2_with (first|(go_at_call 125;refine(eQ X gl _ z _ a.out.ck nm af).mono ?_;rw[hr1];unfold cG;rintro e H ⟨rfl,d⟩;replace a:=G (a.out.ext d);clear d;(try clear o);have o:=a.out.bk.cell;)|(go_at_call 126;refine(ad.out X gl _ z P _ A1 ex.length c1 a.out.ck a.out.re).mono ?_;rw[hr2];unfold cG bh;rintro e H ⟨rfl,d⟩;have K:=G (a.out.gr.trans (d.grownBy _));clear d));exact⟨rfl,by rw[J.out];exact⟨K.out,rfl⟩⟩
     |ok u=>
      rw[hr2,fI]at A;rw[if_neg Qd,fI]at A;obtain⟨ao,aj⟩: ∃l,z=l:=⟨_,rfl⟩
      subst aj
      cases hr4:iX gl z bd with
      |error q=>
       obtain⟨M,m⟩:=q;rw[hr4,gz]at A;have J:=G (show ac= .error (M,m)from Z.out.symm.trans A);go_wp2_with (first|(go_at_call 125;refine(eQ X gl _ z _ a.out.ck nm af).mono ?_;rw[hr1];unfold cG;rintro e H ⟨rfl,d⟩;replace a:=G (a.out.ext d);clear d;(try clear o);have o:=a.out.bk.cell;)|(go_at_call 126;refine(ad.out X gl _ z P _ A1 ex.length c1 a.out.ck a.out.re).mono ?_;rw[hr2];unfold cG;rintro e H ⟨rfl,d⟩;replace a:=G (a.out.ext d);clear d;(try clear o);have o:=a.out.bk.cell;)|(go_at_call 66;have y:=R.out X gl bl z P _ A2 bd.length c2 a.out.ck a.out.rb V;rw[hr4]at y;clear R;refine y.mono ?_;unfold qL bh;rintro e H ⟨F,rfl⟩;have K:=G (a.out.gr.trans F);clear F y));exact⟨rfl,by rw[J.out];exact⟨K.out,rfl⟩⟩
      |ok lo2=>
       rw[hr4,fI]at A
       cases hr5:iX gl lo2 el with
       |error q=>
        obtain⟨M,m⟩:=q;rw[hr5,gz]at A;have J:=G (show ac= .error (M,m)from Z.out.symm.trans A);go_wp2_with (first|(go_at_call 125;refine(eQ X gl _ z _ a.out.ck nm af).mono ?_;rw[hr1];unfold cG;rintro e H ⟨rfl,d⟩;replace a:=G (a.out.ext d);clear d;(try clear o);have o:=a.out.bk.cell;)|(go_at_call 126;refine(ad.out X gl _ z P _ A1 ex.length c1 a.out.ck a.out.re).mono ?_;rw[hr2];unfold cG;rintro e H ⟨rfl,d⟩;replace a:=G (a.out.ext d);clear d;(try clear o);have o:=a.out.bk.cell;)|(go_at_call 66;have y:=R.out X gl bl z P _ A2 bd.length c2 a.out.ck a.out.rb V;rw[hr4]at y;clear R;refine y.mono ?_;unfold qL;rintro e H ⟨F,rfl,I⟩;replace a:=G (a.out.grown F I);clear F I y;(try clear o);have o:=a.out.bk.cell;)|(go_at_call 66;have y:=ag.out X gl bl lo2 P _ A3 el.length c3 a.out.ck a.out.rl V;rw[hr5]at y;clear ag;refine y.mono ?_;unfold qL bh;rintro e H ⟨F,rfl⟩;have K:=G (a.out.gr.trans F);clear F y));exact⟨rfl,by rw[J.out];exact⟨K.out,rfl⟩⟩
       |ok lo3=>
        rw[hr5,fI]at A;go_wp2_with (first|(go_at_call 125;refine(eQ X gl _ z _ a.out.ck nm af).mono ?_;rw[hr1];unfold cG;rintro e H ⟨rfl,d⟩;replace a:=G (a.out.ext d);clear d;(try clear o);have o:=a.out.bk.cell;)|(go_at_call 126;refine(ad.out X gl _ z P _ A1 ex.length c1 a.out.ck a.out.re).mono ?_;rw[hr2];unfold cG;rintro e H ⟨rfl,d⟩;replace a:=G (a.out.ext d);clear d;(try clear o);have o:=a.out.bk.cell;)|(go_at_call 66;have y:=R.out X gl bl z P _ A2 bd.length c2 a.out.ck a.out.rb V;rw[hr4]at y;clear R;refine y.mono ?_;unfold qL;rintro e H ⟨F,rfl,I⟩;replace a:=G (a.out.grown F I);clear F I y;(try clear o);have o:=a.out.bk.cell;)|(go_at_call 66;have y:=ag.out X gl bl lo2 P _ A3 el.length c3 a.out.ck a.out.rl V;rw[hr5]at y;clear ag;refine y.mono ?_;unfold qL;rintro e H ⟨F,rfl,I⟩;replace a:=G (a.out.grown F I);clear F I y;(try clear o);have o:=a.out.bk.cell;));go_roundw
        case rel=>exact⟨j+1,lo3,by go_num,by omega,G (A.symm.trans Z.out),G a.out.gr,G a.out.ck⟩
        case measure=>simp[intOf];omega
   by_cases hk1:k=1
   ·subst hk1;rw[if_neg Qd,if_neg Qd,fI]at A
    cases hr2:tn gl z ex with
    |error q=>
     obtain⟨M,m⟩:=q;rw[hr2,gz]at A;have J:=G (show ac= .error (M,m)from Z.out.symm.trans A);go_wp2_with (go_at_call 126;refine(ad.out X gl _ z P _ A1 ex.length c1 a.out.ck a.out.re).mono ?_;rw[hr2];unfold cG bh;rintro e H ⟨rfl,d⟩;have K:=G (a.out.gr.trans (d.grownBy _));clear d);exact⟨rfl,by rw[J.out];exact⟨K.out,rfl⟩⟩
    |ok u=>
     rw[hr2,fI]at A;rw[if_pos rfl]at A
     cases hr3:gl.known z nm with
     |true=>
      rw[hr3,if_pos rfl,gz]at A;have J:=G (show ac= .error (nm,9)from Z.out.symm.trans A);go_wp2_with (first|(go_at_call 126;refine(ad.out X gl _ z P _ A1 ex.length c1 a.out.ck a.out.re).mono ?_;rw[hr2];unfold cG;rintro e H ⟨rfl,d⟩;replace a:=G (a.out.ext d);clear d;(try clear o);have o:=a.out.bk.cell;)|(go_at_call 64;refine(eA X gl _ z _ a.out.ck nm af).mono ?_;rw[hr3];rintro e H ⟨rfl,d⟩;replace a:=G (a.out.ext d);clear d;(try clear o);have o:=a.out.bk.cell;)|(go_at_call 65;refine(ew nm 9 _).mono ?_;unfold bh;rintro e H ⟨rfl,d⟩;have K:=G (a.out.gr.trans (d.grownBy _));clear d));exact⟨rfl,by rw[J.out];exact⟨K.out,rfl⟩⟩
     |false=>
      rw[hr3,if_neg Qd,fI]at A;obtain⟨ao,aj⟩: ∃l,z.add nm=l:=⟨_,rfl⟩
      rw[aj]at A
      cases hr4:iX gl ao bd with
      |error q=>
       obtain⟨M,m⟩:=q;rw[hr4,gz]at A;have J:=G (show ac= .error (M,m)from Z.out.symm.trans A);go_wp2_with (first|(go_at_call 126;refine(ad.out X gl _ z P _ A1 ex.length c1 a.out.ck a.out.re).mono ?_;rw[hr2];unfold cG;rintro e H ⟨rfl,d⟩;replace a:=G (a.out.ext d);clear d;(try clear o);have o:=a.out.bk.cell;)|(go_at_call 64;refine(eA X gl _ z _ a.out.ck nm af).mono ?_;rw[hr3];rintro e H ⟨rfl,d⟩;replace a:=G (a.out.ext d);clear d;(try clear o);have o:=a.out.bk.cell;));refine aB 6 1 [] mixed Qb trivial ?_;repeat (refine sx ?_ (λaR ai=> ?_) ?_;rotate_left;(focus have o:=(a.out.ext ai.un).bk.cell;have a1:=(a.out.ext ai.un).ck.blk.cell;clear ai;go_simp<;>with_reducible rfl);simp only[bA,bx,bw,br,bo])
       intro aQ am _;simp only[ae,aw];replace a:=G (a.out.ext am.un);clear am;(try clear o);go_wp2_with (at_mapUpdate;refine eU Ff rfl _ _ _ rfl a.out.ml rfl Qj rfl _ rfl ?_;intro aP an ah;replace a:=G (a.out.grown ah (a.out.ck.add an ah));clear an ah;have o:=a.out.bk.cell);rw[aj]at a;go_wp2_with (go_at_call 66;have y:=R.out X gl bl ao P _ A2 bd.length c2 a.out.ck a.out.rb V;rw[hr4]at y;clear R;refine y.mono ?_;unfold qL bh;rintro e H ⟨F,rfl⟩;have K:=G (a.out.gr.trans F);clear F y);exact⟨rfl,by rw[J.out];exact⟨K.out,rfl⟩⟩
      |ok lo2=>
       rw[hr4,fI]at A
       cases hr5:iX gl lo2 el with
       |error q=>
        obtain⟨M,m⟩:=q;rw[hr5,gz]at A;have J:=G (show ac= .error (M,m)from Z.out.symm.trans A);go_wp2_with (first|(go_at_call 126;refine(ad.out X gl _ z P _ A1 ex.length c1 a.out.ck a.out.re).mono ?_;rw[hr2];unfold cG;rintro e H ⟨rfl,d⟩;replace a:=G (a.out.ext d);clear d;(try clear o);have o:=a.out.bk.cell;)|(go_at_call 64;refine(eA X gl _ z _ a.out.ck nm af).mono ?_;rw[hr3];rintro e H ⟨rfl,d⟩;replace a:=G (a.out.ext d);clear d;(try clear o);have o:=a.out.bk.cell;));refine aB 6 1 [] mixed Qb trivial ?_;repeat (refine sx ?_ (λaR ai=> ?_) ?_;rotate_left;(focus have o:=(a.out.ext ai.un).bk.cell;have a1:=(a.out.ext ai.un).ck.blk.cell;clear ai;go_simp<;>with_reducible rfl);simp only[bA,bx,bw,br,bo])
        intro aQ am _;simp only[ae,aw];replace a:=G (a.out.ext am.un);clear am;(try clear o);go_wp2_with (at_mapUpdate;refine eU Ff rfl _ _ _ rfl a.out.ml rfl Qj rfl _ rfl ?_;intro aP an ah;replace a:=G (a.out.grown ah (a.out.ck.add an ah));clear an ah;have o:=a.out.bk.cell);rw[aj]at a;go_wp2_with (first|(go_at_call 66;have y:=R.out X gl bl ao P _ A2 bd.length c2 a.out.ck a.out.rb V;rw[hr4]at y;clear R;refine y.mono ?_;unfold qL;rintro e H ⟨F,rfl,I⟩;replace a:=G (a.out.grown F I);clear F I y;(try clear o);have o:=a.out.bk.cell;)|(go_at_call 66;have y:=ag.out X gl bl lo2 P _ A3 el.length c3 a.out.ck a.out.rl V;rw[hr5]at y;clear ag;refine y.mono ?_;unfold qL bh;rintro e H ⟨F,rfl⟩;have K:=G (a.out.gr.trans F);clear F y));exact⟨rfl,by rw[J.out];exact⟨K.out,rfl⟩⟩
       |ok lo3=>
        rw[hr5,fI]at A;go_wp2_with (first|(go_at_call 126;refine(ad.out X gl _ z P _ A1 ex.length c1 a.out.ck a.out.re).mono ?_;rw[hr2];unfold cG;rintro e H ⟨rfl,d⟩;replace a:=G (a.out.ext d);clear d;(try clear o);have o:=a.out.bk.cell;)|(go_at_call 64;refine(eA X gl _ z _ a.out.ck nm af).mono ?_;rw[hr3];rintro e H ⟨rfl,d⟩;replace a:=G (a.out.ext d);clear d;(try clear o);have o:=a.out.bk.cell;));refine aB 6 1 [] mixed Qb trivial ?_;repeat (refine sx ?_ (λaR ai=> ?_) ?_;rotate_left;(focus have o:=(a.out.ext ai.un).bk.cell;have a1:=(a.out.ext ai.un).ck.blk.cell;clear ai;go_simp<;>with_reducible rfl);simp only[bA,bx,bw,br,bo])
        intro aQ am _;simp only[ae,aw];replace a:=G (a.out.ext am.un);clear am;(try clear o);go_wp2_with (at_mapUpdate;refine eU Ff rfl _ _ _ rfl a.out.ml rfl Qj rfl _ rfl ?_;intro aP an ah;replace a:=G (a.out.grown ah (a.out.ck.add an ah));clear an ah;have o:=a.out.bk.cell);rw[aj]at a;go_wp2_with (first|(go_at_call 66;have y:=R.out X gl bl ao P _ A2 bd.length c2 a.out.ck a.out.rb V;rw[hr4]at y;clear R;refine y.mono ?_;unfold qL;rintro e H ⟨F,rfl,I⟩;replace a:=G (a.out.grown F I);clear F I y;(try clear o);have o:=a.out.bk.cell;)|(go_at_call 66;have y:=ag.out X gl bl lo2 P _ A3 el.length c3 a.out.ck a.out.rl V;rw[hr5]at y;clear ag;refine y.mono ?_;unfold qL;rintro e H ⟨F,rfl,I⟩;replace a:=G (a.out.grown F I);clear F I y;(try clear o);have o:=a.out.bk.cell;));go_roundw
        case rel=>exact⟨j+1,lo3,by go_num,by omega,G (A.symm.trans Z.out),G a.out.gr,G a.out.ck⟩
        case measure=>simp[intOf];omega
   have bn:=Qn.2 hk2;have bm:=Qn.2 hk3;have bp:=Qn.2 hk1;rw[if_neg hk2,if_neg hk3,fI]at A
   cases hr2:tn gl z ex with
   |error q=>
    obtain⟨M,m⟩:=q;rw[hr2,gz]at A;have J:=G (show ac= .error (M,m)from Z.out.symm.trans A);go_wp2_with (go_at_call 126;refine(ad.out X gl _ z P _ A1 ex.length c1 a.out.ck a.out.re).mono ?_;rw[hr2];unfold cG bh;rintro e H ⟨rfl,d⟩;have K:=G (a.out.gr.trans (d.grownBy _));clear d);exact⟨rfl,by rw[J.out];exact⟨K.out,rfl⟩⟩
   |ok u=>
    rw[hr2,fI]at A;rw[if_neg (hk1),fI]at A;obtain⟨ao,aj⟩: ∃l,z=l:=⟨_,rfl⟩
    subst aj
    cases hr4:iX gl z bd with
    |error q=>
     obtain⟨M,m⟩:=q;rw[hr4,gz]at A;have J:=G (show ac= .error (M,m)from Z.out.symm.trans A);go_wp2_with (first|(go_at_call 126;refine(ad.out X gl _ z P _ A1 ex.length c1 a.out.ck a.out.re).mono ?_;rw[hr2];unfold cG;rintro e H ⟨rfl,d⟩;replace a:=G (a.out.ext d);clear d;(try clear o);have o:=a.out.bk.cell;)|(go_at_call 66;have y:=R.out X gl bl z P _ A2 bd.length c2 a.out.ck a.out.rb V;rw[hr4]at y;clear R;refine y.mono ?_;unfold qL bh;rintro e H ⟨F,rfl⟩;have K:=G (a.out.gr.trans F);clear F y));exact⟨rfl,by rw[J.out];exact⟨K.out,rfl⟩⟩
    |ok lo2=>
     rw[hr4,fI]at A
     cases hr5:iX gl lo2 el with
     |error q=>
      obtain⟨M,m⟩:=q;rw[hr5,gz]at A;have J:=G (show ac= .error (M,m)from Z.out.symm.trans A);go_wp2_with (first|(go_at_call 126;refine(ad.out X gl _ z P _ A1 ex.length c1 a.out.ck a.out.re).mono ?_;rw[hr2];unfold cG;rintro e H ⟨rfl,d⟩;replace a:=G (a.out.ext d);clear d;(try clear o);have o:=a.out.bk.cell;)|(go_at_call 66;have y:=R.out X gl bl z P _ A2 bd.length c2 a.out.ck a.out.rb V;rw[hr4]at y;clear R;refine y.mono ?_;unfold qL;rintro e H ⟨F,rfl,I⟩;replace a:=G (a.out.grown F I);clear F I y;(try clear o);have o:=a.out.bk.cell;)|(go_at_call 66;have y:=ag.out X gl bl lo2 P _ A3 el.length c3 a.out.ck a.out.rl V;rw[hr5]at y;clear ag;refine y.mono ?_;unfold qL bh;rintro e H ⟨F,rfl⟩;have K:=G (a.out.gr.trans F);clear F y));exact⟨rfl,by rw[J.out];exact⟨K.out,rfl⟩⟩
     |ok lo3=>
      rw[hr5,fI]at A;go_wp2_with (first|(go_at_call 126;refine(ad.out X gl _ z P _ A1 ex.length c1 a.out.ck a.out.re).mono ?_;rw[hr2];unfold cG;rintro e H ⟨rfl,d⟩;replace a:=G (a.out.ext d);clear d;(try clear o);have o:=a.out.bk.cell;)|(go_at_call 66;have y:=R.out X gl bl z P _ A2 bd.length c2 a.out.ck a.out.rb V;rw[hr4]at y;clear R;refine y.mono ?_;unfold qL;rintro e H ⟨F,rfl,I⟩;replace a:=G (a.out.grown F I);clear F I y;(try clear o);have o:=a.out.bk.cell;)|(go_at_call 66;have y:=ag.out X gl bl lo2 P _ A3 el.length c3 a.out.ck a.out.rl V;rw[hr5]at y;clear ag;refine y.mono ?_;unfold qL;rintro e H ⟨F,rfl,I⟩;replace a:=G (a.out.grown F I);clear F I y;(try clear o);have o:=a.out.bk.cell;));go_roundw
      case rel=>exact⟨j+1,lo3,by go_num,by omega,G (A.symm.trans Z.out),G a.out.gr,G a.out.ck⟩
      case measure=>simp[intOf];omega
  ·have ba: ¬(j:Int)<N:=Qa
   have J:=G (show ac= .ok z by
    have:=Z.out;rw[aK (by have:=a3.out;omega),iX]at this
    exact this.symm)
   go_wp2_with fail;exact bodyPost_end (results_none rfl _ _ _) rfl (by rw[J.out];exact⟨aM.out,rfl,aO.out⟩)
theorem mF: ∀(m:Nat) (xs:List St),gd xs<=m->gd xs<=1073741824->EX xs
 |0,xs,h,hw=>p5 xs (by have:=fd xs;omega) (λs a=>by have:=cI a;have:=s.wt_eq;omega) (λs a=>by have:=cI a;have:=s.wt_eq;omega) (λs a=>by have:=cI a;have:=s.wt_eq;omega)
 |m+1,xs,h,hw=>p5 xs (by have:=fd xs;omega) (λs a=>by have:=cI a;have:=s.wt_eq;omega) (λs a=>vJ s.ex (by have:=cI a;have:=s.wt_eq;omega))
   (λs a=>⟨mF m s.body (by have:=cI a;have:=s.wt_eq;omega) (by have:=cI a;have:=s.wt_eq;omega),mF m s.els (by have:=cI a;have:=s.wt_eq;omega) (by have:=cI a;have:=s.wt_eq;omega)⟩)
end
end Go.Proofs.YtoedmpgicdekmaaGreatDoor
