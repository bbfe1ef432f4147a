/-
  Parts of the proof: TyC TyD TyE.
-/
import Derived.Test.YtddomeddabfinaaGreatDoorTu00
import Derived.Test.YtddomeddabfinaaGreatDoorTu16
import Derived.Test.YtddomeddabfinaaGreatDoorTu09
set_option maxRecDepth 100000
set_option maxHeartbeats 8000000
set_option linter.unusedVariables false
set_option linter.unusedSimpArgs false
set_option linter.unusedSectionVars false
namespace Go.Proofs.YtddomeddabfinaaGreatDoor
open Go.Proofs.Tryz
section
open Go.RowKit
theorem kW (a:List UInt8) (i:Nat) (h:i<a.length) (w:World):(Instr.index 9 (.string (ag a)) (.int .i64 (i:Int))).run prog w= .ok (.int .u8 (a[i].toNat:Int)) w:=by
 have h3:(ag a)[i]? =some a[i]:=by
  have h2:i<(ag a).size:=by rw[aL];exact h
  rw[getElem?_pos (ag a) i h2];rfl
 simp[Instr.index,run_underlying underlying9,asIntOf,h3]
def nc (b:Bi):List UInt8:=match b with
 |none=>[]
 |some (_,a)=>a
theorem jC (b:Bi) (i:Nat) (hi:i<=1073741824) (hl:(nc b).length<=1073741824) (w:World):Calls prog 55 #[.string (ag (nc b)), .bool b.isSome, .int .i64 (i:Int)] w fun e w'=>e= .returned (.bool (iE b i))/\au w w':=by
 cases b with
 |none=>
  have HI:=G (show iE none i=true from rfl);simp only[dE];go_enter func55,ntmps55;go_wp2_with fail;go_ret;exact⟨by rw[HI.out];rfl,aH _⟩
 |some x=>
  obtain⟨c,a⟩:=x;have HI:=G (show iE (some (c,a)) i=(decide (a.length<=i)||a.getD i 0==105)from rfl);simp only[nc,cQ]at*;have hsz:=aL a;by_cases h:a.length<=i
  ·have h':(a.length:Int)<=i:=by omega
   go_enter func55,ntmps55;go_wp2_with fail;go_ret;exact⟨by rw[HI.out,decide_eq_true h];rfl,aH _⟩
  ·have h': ¬(a.length:Int)<=i:=by omega
   have hix:=fun w=>kW a i (by omega) w;have hg:a.getD i 0=a[i]'(by omega):=by rw[bK,aN (by omega)];rfl
   have HI:=G (show iE (some (c,a)) i=(a.getD i 0==105) by rw[HI.out,decide_eq_false h];rfl);rw[<-hg]at hix;generalize a.getD i 0=q at*
   have HE:=G (show((q.toNat:Int)==105)=(q==105) by
    by_cases e:q=105
    ·subst e;rfl
    ·have: ¬(q.toNat:Int)=105:=fun h=>e (UInt8.toNat_inj.1 (by have:(105:UInt8).toNat=105:=rfl;omega))
     rw[beq_eq_false_iff_ne.2 this,beq_eq_false_iff_ne.2 e])
   clear hg;go_enter func55,ntmps55;go_wp2_with fail;go_ret;exact⟨by rw[HI.out,<-HE.out];rfl,aH _⟩
theorem pP: ∀(l:List Ex) (m:Nat),m<=eB m l
 | [],m=>by rw[eB];exact an _
 |y::r,m=>by rw[eB];have:=pP r (max m (ci y));omega
theorem pR (lg:Bool): ∀(l:List Ex) (i m:Nat),m<=d7 lg i m l
 | [],i,m=>by rw[d7];exact an _
 |y::r,i,m=>by rw[d7];have:=pR lg r (i+1) (max m (if 0<i/\lg=false then ci y+1 else ci y));omega
theorem mE (b:Bi): ∀(l:List Ex) (i fr m:Nat),m<=ed b i fr m l
 | [],i,fr,m=>by rw[ed];exact an _
 |y::r,i,fr,m=>by
  rw[ed];split
  ·have:=mE b r (i+1) (fr+1) (max m (fr+ci y));omega
  ·exact mE b r (i+1) fr m
mutual
theorem eL: ∀x:Ex,ci x<=x.wt
 | .mk k op nm tx v a=>by
  have h1:=pO a 1;have h2:=pQ (lM op) a 0 1;have h3:=mD (bD nm) a 0 0 1;rw[ci,Ex.wt];repeat' split
  all_goals omega
theorem pO: ∀(l:List Ex) (m:Nat),eB m l<=max m (gt l)
 | [],m=>by rw[eB];omega
 |y::r,m=>by
  rw[eB,gt];have:=pO r (max m (ci y));have:=eL y;omega
theorem pQ (lg:Bool): ∀(l:List Ex) (i m:Nat),d7 lg i m l<=max m (gt l+1)
 | [],i,m=>by rw[d7];omega
 |y::r,i,m=>by
  rw[d7,gt];have h1:=pQ lg r (i+1) (max m (if 0<i/\lg=false then ci y+1 else ci y));have h2:=eL y;have h3:(if 0<i/\lg=false then ci y+1 else ci y)<=ci y+1:=by split<;>omega
  have h4:y.wt=1+y.op.length+y.nm.length+y.tx.length+gt y.args:=y.wt_eq;omega
theorem mD (b:Bi): ∀(l:List Ex) (i fr m:Nat),ed b i fr m l<=max m (fr+gt l)
 | [],i,fr,m=>by rw[ed];omega
 |y::r,i,fr,m=>by
  rw[ed,gt];have h2:=eL y;have h4:y.wt=1+y.op.length+y.nm.length+y.tx.length+gt y.args:=y.wt_eq;split
  ·have:=mD b r (i+1) (fr+1) (max m (fr+ci y));omega
  ·have:=mD b r (i+1) fr m;omega
end
def xR (x:Ex):Prop:= ∀(P:Nat->Prop) (w:World) (A:Option Addr) (n c:Nat),b8 w P (.slice A n c) x.args->BT w->
 Calls prog 26 #[.agg #[.int .i64 x.k, .string (ag x.op), .string (ag x.nm), .string (ag x.tx), .int .i64 x.v, .slice A n c]] w fun e w'=>e= .returned (.int .i64 (ci x:Int))/\au w w'
theorem q_ {l:List Ex} {j m:Nat} (h:j<l.length):eB m (l.drop j)=eB (max m (ci l[j])) (l.drop (j+1)):=by
 rw[ay h,eB]
theorem rh {lg:Bool} {l:List Ex} {i j m:Nat} (h:j<l.length):d7 lg i m (l.drop j)=d7 lg (i+1) (max m (if 0<i/\lg=false then ci l[j]+1 else ci l[j])) (l.drop (j+1)):=by
 rw[ay h,d7]
theorem rg {b:Bi} {l:List Ex} {i j fr m:Nat} (h:j<l.length):ed b i fr m (l.drop j)=if iE b i=true then ed b (i+1) (fr+1) (max m (fr+ci l[j])) (l.drop (j+1))else ed b (i+1) fr m (l.drop (j+1)):=by
 rw[ay h,ed]
theorem zl (k:Int) (hk:k=4\/k=6) (op nm tx:List UInt8) (v:Int) (xs:List Ex) (hw:(Ex.mk k op nm tx v xs).wt<=1073741824) (hIH: ∀y∈xs,xR y):xR (.mk k op nm tx v xs):=by
 intro P w A n c hR hT;have HRs:=G (show ci (.mk k op nm tx v xs)=eB 1 xs by rw[ci,if_pos hk]);have hb:eB 1 xs<=1073741824:=by have:=eL (.mk k op nm tx v xs);rw[HRs.out]at this;omega
 have hnl:=bF xs;rw[Ex.wt]at hw;simp only[Ex.k,Ex.op,Ex.nm,Ex.tx,Ex.v,Ex.args]at*;obtain⟨A',c',hv,hf⟩:=hR.form;injection hv with hv1 hv2 hv3;subst hv1 hv2 hv3;have HR:=G hR;have HI:=G hIH;have HT:=G hT;obtain⟨N,hN⟩: ∃N,xs.length=N:=⟨_,rfl⟩
 have hNb:N<=1073741824:=by omega
 have HN:=G hN;rw[hN]at HR;have HE0:=G (O w (.cells #[.int .i64 k, .string (ag op), .string (ag nm), .string (ag tx), .int .i64 v, .slice A N c] 70));obtain⟨Rv,hRv⟩: ∃R,eB 1 xs=R:=⟨_,rfl⟩
 rw[hRv]at hb HRs;have HQ0:=G (show eB 1 (xs.drop 0)=Rv from hRv);clear hR hf hIH hT hw hRv hnl;rw[hN];clear hN;rcases hk with rfl|rfl;all_goals
  go_enter func26,ntmps26;go_wp2_with fail
  go_loopw [3,23] (fun vm vi wr=> ∃(j m:Nat),vi= .int .i64 (j:Int)/\vm= .int .i64 (m:Int)/\j<=N/\Hid (eB m (xs.drop j)=Rv)/\Hid (au w wr)) (fun _ vi _=>N-(intOf vi).toNat)
  case atStart=>exact⟨0,1,rfl,rfl,az _,HQ0,HE0⟩
  case round=>
   obtain⟨j,m,rfl,rfl,hj,HQ,HX⟩:=hrel;have hm:m<=1073741824:=by have:=pP (xs.drop j) m;rw[HQ.out]at this;omega
   by_cases hlt:j<N
   ·have hlt':(j:Int)<N:=by omega
    have hjl:j<xs.length:=by have:=HN.out;omega
    obtain⟨b,o,a,rfl,hb,hP,h0,h1,h2,h3,h4,h5,hRa⟩:=HR.out.at_ j hjl;have HS:=G (q_ (m:=m) hjl);have hIy:=HI.out _ (ai hjl);generalize xs[j]=y at*;have e0:=(HX.out.cell b _ hb).trans h0;have e1:=(HX.out.cell b _ hb).trans h1;have e2:=(HX.out.cell b _ hb).trans h2;have e3:=(HX.out.cell b _ hb).trans h3;have e4:=(HX.out.cell b _ hb).trans h4;have e5:=(HX.out.cell b _ hb).trans h5;obtain⟨B,d,rfl,_⟩:=hRa.form;have HRa:=G (hRa.keep (.of_ext HX.out) (Q:=P) (fun b hb _=>hb));have HIy:=G hIy;clear h0 h1 h2 h3 h4 h5 hRa hIy;go_wp2_with (go_at_call 26;refine(HIy.out P _ B _ d (HRa.out.keep (.of_ext (O _ _)) (fun b hb _=>hb)) ((HT.out.ext HX.out).ext (O _ _))).mono ?_;rintro e w3 ⟨rfl,hE⟩;have HY:=G ((HX.out.alloc' _).trans hE);clear hE);go_roundw
    case rel=>exact⟨j+1,max m (ci y),by go_num,by congr 1;omega,by omega,G (HS.out.symm.trans HQ.out),HY⟩
    case measure=>simp[intOf];omega
   ·have hlt': ¬(j:Int)<N:=by omega
    have HM:=G (show m=Rv by
     have:=HQ.out;rw[aB (by have:=HN.out;omega),eB]at this
     exact this)
    go_wp2_with fail;go_ret;exact⟨by rw[HRs.out,<-HM.out];rfl,HX.out⟩
theorem zk (op nm tx:List UInt8) (v:Int) (xs:List Ex) (hw:(Ex.mk 7 op nm tx v xs).wt<=1073741824) (hIH: ∀y∈xs,xR y):xR (.mk 7 op nm tx v xs):=by
 intro P w A n c hR hT;have HRs:=G (show ci (.mk 7 op nm tx v xs)=d7 (lM op) 0 1 xs by rw[ci,if_neg (by decide),if_pos rfl]);have hb:d7 (lM op) 0 1 xs<=1073741824:=by have:=eL (.mk 7 op nm tx v xs);rw[HRs.out]at this;omega
 have hnl:=bF xs;rw[Ex.wt]at hw;have hwl:gt xs<=1073741823:=by omega
 simp only[Ex.k,Ex.op,Ex.nm,Ex.tx,Ex.v,Ex.args]at*;obtain⟨A',c',hv,hf⟩:=hR.form;injection hv with hv1 hv2 hv3;subst hv1 hv2 hv3;have HR:=G hR;have HI:=G hIH;have HT:=G hT;obtain⟨N,hN⟩: ∃N,xs.length=N:=⟨_,rfl⟩
 have hNb:N<=1073741824:=by omega
 have HN:=G hN;rw[hN]at HR;have HE0:=G (O w (.cells #[.int .i64 7, .string (ag op), .string (ag nm), .string (ag tx), .int .i64 v, .slice A N c] 70));have HB0:=G (ax w 70 #[.int .i64 7, .string (ag op), .string (ag nm), .string (ag tx), .int .i64 v, .slice A N c]);obtain⟨Rv,hRv⟩: ∃R,d7 (lM op) 0 1 xs=R:=⟨_,rfl⟩
 rw[hRv]at hb HRs;have HQ0:=G (show d7 (lM op) 0 1 (xs.drop 0)=Rv from hRv);clear hR hf hIH hT hw hRv hnl;rw[hN];clear hN;obtain⟨lg,hlg⟩: ∃b,lM op=b:=⟨_,rfl⟩
 rw[hlg]at HQ0;have HL:=G (show(op==[38,38]||op==[124,124])=lg from hlg);clear hlg
 cases h1:(op==[38,38])<;>cases h2:(op==[124,124]);all_goals
  rw[h1,h2]at HL;have HLG:=G HL.out.symm;simp only[Bool.or_true,ie,ge,cK]at HLG;have n1:=congrArg (!·) h1;have n2:=congrArg (!·) h2;change(op !=[38,38])=_ at n1;change(op !=[124,124])=_ at n2;simp only[Bool.not_true,Bool.not_false]at n1 n2;clear HL;go_enter func26,ntmps26;go_wp2_with fail
  go_loopw [3,37] (fun vm vi wr=> ∃(j m:Nat),vi= .int .i64 (j:Int)/\vm= .int .i64 (m:Int)/\j<=N/\Hid (d7 lg j m (xs.drop j)=Rv)/\Hid (au w wr)/\Hid (aO wr w.heap.size 70 #[.int .i64 7, .string (ag op), .string (ag nm), .string (ag tx), .int .i64 v, .slice A N c])) (fun _ vi _=>N-(intOf vi).toNat)
  case atStart=>exact⟨0,1,rfl,rfl,az _,HQ0,HE0,HB0⟩
  case round=>
   obtain⟨j,m,rfl,rfl,hj,HQ,HX,HB⟩:=hrel;have hm:m<=1073741824:=by have:=pR lg (xs.drop j) j m;rw[HQ.out]at this;omega
   by_cases hlt:j<N
   ·have hlt':(j:Int)<N:=by omega
    have hjl:j<xs.length:=by have:=HN.out;omega
    obtain⟨b,o,a,rfl,hb,hP,h0,h1,h2,h3,h4,h5,hRa⟩:=HR.out.at_ j hjl;have HS:=G (rh (lg:=lg) (i:=j) (m:=m) hjl);have hyb:=eL xs[j];have hyw:=bX (ai hjl);have hIy:=HI.out _ (ai hjl);generalize xs[j]=y at*;have e0:=(HX.out.cell b _ hb).trans h0;have e1:=(HX.out.cell b _ hb).trans h1;have e2:=(HX.out.cell b _ hb).trans h2;have e3:=(HX.out.cell b _ hb).trans h3;have e4:=(HX.out.cell b _ hb).trans h4;have e5:=(HX.out.cell b _ hb).trans h5;obtain⟨B,d,rfl,_⟩:=hRa.form;have HRa:=G (hRa.keep (.of_ext HX.out) (Q:=P) (fun b hb _=>hb));have HIy:=G hIy;clear h0 h1 h2 h3 h4 h5 hRa hIy;have hnb:ci y<=1073741823:=by omega
    by_cases hj0:j=0
    ·subst hj0;simp only[aW,bg]at e0 e1 e2 e3 e4 e5;go_wp2_with (go_at_call 26;refine(HIy.out P _ B _ d (HRa.out.keep (.of_ext (O _ _)) (fun b hb _=>hb)) ((HT.out.ext HX.out).ext (O _ _))).mono ?_;rintro e w3 ⟨rfl,hE⟩;have HY:=G ((HX.out.alloc' _).trans hE);have HBY:=G ((HB.out.ext (O _ _)).ext hE);have fc:=HBY.out.cell;clear hE);go_roundw
     case rel=>exact⟨1,max m (ci y),by go_num,by congr 1;omega,by omega,G ((by rw[HS.out,if_neg (by simp)]:d7 lg 0 m (xs.drop 0)=d7 lg 1 (max m (ci y)) (xs.drop 1)).symm.trans HQ.out),HY,HBY⟩
     case measure=>simp[intOf];omega
    ·have hj0':(0:Int)<j:=by omega
     go_wp2_with (go_at_call 26;refine(HIy.out P _ B _ d (HRa.out.keep (.of_ext (O _ _)) (fun b hb _=>hb)) ((HT.out.ext HX.out).ext (O _ _))).mono ?_;rintro e w3 ⟨rfl,hE⟩;have HY:=G ((HX.out.alloc' _).trans hE);have HBY:=G ((HB.out.ext (O _ _)).ext hE);have fc:=HBY.out.cell;clear hE);go_roundw
     case rel=>first|exact⟨j+1,max m (ci y+1),by go_num,by congr 1;omega,by omega,G ((by rw[HS.out,if_pos ⟨by omega,HLG.out⟩]:d7 lg j m (xs.drop j)=d7 lg (j+1) (max m (ci y+1)) (xs.drop (j+1))).symm.trans HQ.out),HY,HBY⟩|exact⟨j+1,max m (ci y),by go_num,by congr 1;omega,by omega,G ((by rw[HS.out,if_neg (by rw[HLG.out];simp)]:d7 lg j m (xs.drop j)=d7 lg (j+1) (max m (ci y)) (xs.drop (j+1))).symm.trans HQ.out),HY,HBY⟩
     case measure=>simp[intOf];omega
   ·have hlt': ¬(j:Int)<N:=by omega
    have HM:=G (show m=Rv by
     have:=HQ.out;rw[aB (by have:=HN.out;omega),d7]at this
     exact this)
    go_wp2_with fail;go_ret;exact⟨by rw[HRs.out,<-HM.out];rfl,HX.out⟩
end
section
open Go.RowKit
def wg (b:Bi):Int:=match b with
 |none=>0
 |some (c,_)=>c
theorem qf (s:List UInt8) (w:World) (h:BT w):Calls prog 22 #[.string (ag s)] w fun e w'=>e= .returned (.tuple #[.int .i64 (wg (bD s)), .string (ag (nc (bD s))), .bool (bD s).isSome])/\au w w':=by
 refine(l6 s w h).mono fun e w' ⟨he,hE⟩=>⟨?_,hE⟩
 rw[he]
 cases bD s<;>rfl
theorem zD: ∀x∈lN,x.2.2.length<=3:=by decide
theorem l7 (s:List UInt8):(nc (bD s)).length<=3:=by
 cases h:bD s with
 |none=>simp[nc]
 |some x=>
  unfold bD at h;rw[iN]at h;obtain⟨y,hy,rfl⟩:=h;exact zD y (c8 hy)
theorem zj (op nm tx:List UInt8) (v:Int) (xs:List Ex) (hw:(Ex.mk 5 op nm tx v xs).wt<=1073741824) (hIH: ∀y∈xs,xR y):xR (.mk 5 op nm tx v xs):=by
 intro P w A n c hR hT;have HRs:=G (show ci (.mk 5 op nm tx v xs)=ed (bD nm) 0 0 1 xs by rw[ci,if_neg (by decide),if_neg (by decide),if_pos rfl]);have hb:ed (bD nm) 0 0 1 xs<=1073741824:=by have:=eL (.mk 5 op nm tx v xs);rw[HRs.out]at this;omega
 have hnl:=bF xs;rw[Ex.wt]at hw;have hwl:gt xs<=1073741823:=by omega
 have hbl:=l7 nm;simp only[Ex.k,Ex.op,Ex.nm,Ex.tx,Ex.v,Ex.args]at*;obtain⟨A',c',hv,hf⟩:=hR.form;injection hv with hv1 hv2 hv3;subst hv1 hv2 hv3;have HR:=G hR;have HI:=G hIH;have HT:=G hT;obtain⟨N,hN⟩: ∃N,xs.length=N:=⟨_,rfl⟩
 have hNb:N<=1073741823:=by omega
 have HN:=G hN;rw[hN]at HR;have hEA:=O w (.cells #[.int .i64 5, .string (ag op), .string (ag nm), .string (ag tx), .int .i64 v, .slice A N c] 70);have HE0:=G hEA;have HB0:=G (ax w 70 #[.int .i64 5, .string (ag op), .string (ag nm), .string (ag tx), .int .i64 v, .slice A N c]);have HBL:=G (qf nm _ (hT.ext hEA));have HIN:=G (fun(i:Nat) (hi:i<=1073741824) (W:World)=>jC (bD nm) i hi (by omega) W);generalize bD nm=bi at*;generalize nc bi=ls at*;generalize wg bi=bk at*;generalize bi.isSome=bs at*;obtain⟨Rv,hRv⟩: ∃R,ed bi 0 0 1 xs=R:=⟨_,rfl⟩
 rw[hRv]at hb HRs;have HQ0:=G (show ed bi 0 0 1 (xs.drop 0)=Rv from hRv);clear hR hf hIH hT hw hRv hnl hEA hbl;rw[hN];clear hN;go_enter func26,ntmps26;go_wp2_with (go_at_call 22;refine HBL.out.mono ?_;rintro e w1 ⟨rfl,hE⟩;have HX0:=G (HE0.out.trans hE);have f0:=(HB0.out.ext hE).cell;clear hE HBL)
 go_loopw [3,12,74] (fun vm vf vi wr=> ∃(j m fr:Nat),vi= .int .i64 (j:Int)/\vm= .int .i64 (m:Int)/\vf= .int .i64 (fr:Int)/\j<=N/\fr<=j/\Hid (ed bi j fr m (xs.drop j)=Rv)/\Hid (au w wr)) (fun _ _ vi _=>N-(intOf vi).toNat)
 case atStart=>exact⟨0,1,0,rfl,rfl,rfl,az _,az _,HQ0,HX0⟩
 case round=>
  obtain⟨j,m,fr,rfl,rfl,rfl,hj,hfr,HQ,HX⟩:=hrel;have hm:m<=1073741824:=by have:=mE bi (xs.drop j) j fr m;rw[HQ.out]at this;omega
  by_cases hlt:j<N
  ·have hlt':(j:Int)<N:=by omega
   have hjl:j<xs.length:=by have:=HN.out;omega
   obtain⟨b,o,a,rfl,hb,hP,h0,h1,h2,h3,h4,h5,hRa⟩:=HR.out.at_ j hjl;have HS:=G (rg (b:=bi) (i:=j) (fr:=fr) (m:=m) hjl);have hyb:=eL xs[j];have hyw:=bX (ai hjl);have hIy:=HI.out _ (ai hjl);generalize xs[j]=y at*;have HIN1:=G (HIN.out j (by omega));have e0:=(HX.out.cell b _ hb).trans h0;have e1:=(HX.out.cell b _ hb).trans h1;have e2:=(HX.out.cell b _ hb).trans h2;have e3:=(HX.out.cell b _ hb).trans h3;have e4:=(HX.out.cell b _ hb).trans h4;have e5:=(HX.out.cell b _ hb).trans h5;obtain⟨B,d,rfl,_⟩:=hRa.form;have HRa:=G (hRa.keep (.of_ext HX.out) (Q:=P) (fun b hb _=>hb));have HIy:=G hIy;have hnb:ci y<=1073741823:=by omega
   have HB1:=G (ax wr 70 #[.int .i64 y.k, .string (ag y.op), .string (ag y.nm), .string (ag y.tx), .int .i64 y.v, .slice B y.args.length d]);have HX1:=G (HX.out.alloc' (.cells #[.int .i64 y.k, .string (ag y.op), .string (ag y.nm), .string (ag y.tx), .int .i64 y.v, .slice B y.args.length d] 70));clear h0 h1 h2 h3 h4 h5 hRa hIy hyb hyw
   cases hia:iE bi j with
   |true=>
    rw[hia]at HS HIN1;go_wp2_with (first|(go_at_call 55;refine(HIN1.out _).mono ?_;rintro e w2 ⟨rfl,hE⟩;have HX2:=G (HX1.out.trans hE);have HE2:=G hE;have f1:=(HB1.out.ext hE).cell;clear hE HIN1)|(go_at_call 26;refine(HIy.out P _ B _ d ((HRa.out.keep (.of_ext (O _ _)) (fun b hb _=>hb)).keep (.of_ext HE2.out) (fun b hb _=>hb)) (HT.out.ext HX2.out)).mono ?_;rintro e w3 ⟨rfl,hE⟩;have HY:=G (HX2.out.trans hE);clear hE f1));go_roundw
    case rel=>exact⟨j+1,max m (fr+ci y),fr+1,by go_num,by congr 1;omega,by go_num,by omega,by omega,G ((by rw[HS.out,if_pos trivial]:ed bi j fr m (xs.drop j)=ed bi (j+1) (fr+1) (max m (fr+ci y)) (xs.drop (j+1))).symm.trans HQ.out),HY⟩
    case measure=>simp[intOf];omega
   |false=>
    rw[hia]at HS HIN1;go_wp2_with (go_at_call 55;refine(HIN1.out _).mono ?_;rintro e w2 ⟨rfl,hE⟩;have HX2:=G (HX1.out.trans hE);clear hE HIN1);go_roundw
    case rel=>exact⟨j+1,m,fr,by go_num,rfl,rfl,by omega,by omega,G ((by rw[HS.out,if_neg (by simp)]:ed bi j fr m (xs.drop j)=ed bi (j+1) fr m (xs.drop (j+1))).symm.trans HQ.out),HX2⟩
    case measure=>simp[intOf];omega
  ·have hlt': ¬(j:Int)<N:=by omega
   have HM:=G (show m=Rv by
    have:=HQ.out;rw[aB (by have:=HN.out;omega),ed]at this
    exact this)
   go_wp2_with fail;go_ret;exact⟨by rw[HRs.out,<-HM.out];rfl,HX.out⟩
theorem zi (k:Int) (h4:(k==4)=false) (h6:(k==6)=false) (h7:(k==7)=false) (h5:(k==5)=false) (op nm tx:List UInt8) (v:Int) (xs:List Ex):xR (.mk k op nm tx v xs):=by
 intro P w A n c hR hT
 have HRs:=G (show ci (.mk k op nm tx v xs)=1 by
  rw[ci,if_neg (by simp only[beq_eq_false_iff_ne]at h4 h6;omega),if_neg (by simpa using h7),if_neg (by simpa using h5)])
 have HE0:=G (O w (.cells #[.int .i64 k, .string (ag op), .string (ag nm), .string (ag tx), .int .i64 v, .slice A n c] 70));simp only[Ex.k,Ex.op,Ex.nm,Ex.tx,Ex.v,Ex.args]at*;clear hR hT;go_enter func26,ntmps26;go_wp2_with fail;go_ret;exact⟨by rw[HRs.out];rfl,HE0.out⟩
theorem kV: ∀(m:Nat) (x:Ex),x.wt<=m->x.wt<=1073741824->xR x
 |0,x,h,_=>absurd h (by have:=x.wt_eq;omega)
 |m+1, .mk k op nm tx v xs,h,hw=>by
  have hIH: ∀y∈xs,xR y:=fun y hy=>kV m y (by have:=bX hy;rw[Ex.wt]at h;omega) (by have:=bX hy;rw[Ex.wt]at hw;omega);by_cases h46:k=4\/k=6
  ·exact zl k h46 op nm tx v xs hw hIH
  by_cases h7:k=7
  ·subst h7;exact zk op nm tx v xs hw hIH
  by_cases h5:k=5
  ·subst h5;exact zj op nm tx v xs hw hIH
  exact zi k (beq_eq_false_iff_ne.2 (by omega)) (beq_eq_false_iff_ne.2 (by omega)) (beq_eq_false_iff_ne.2 h7) (beq_eq_false_iff_ne.2 h5) op nm tx v xs
end
section
open Go.RowKit
def zZ (x:Ex):Prop:= ∀(X:CB) (gl:Gl) (lv:Value) (lo:Ls) (P:Nat->Prop) (w:World) (A:Option Addr) (n c:Nat),CK X gl lv lo w->b8 w P (.slice A n c) x.args->
 Calls prog 156 #[X.p, .agg #[.int .i64 x.k, .string (ag x.op), .string (ag x.nm), .string (ag x.tx), .int .i64 x.v, .slice A n c]] w fun e w'=>e=bQ (io gl lo x)/\au w w'
def xU (xs:List Ex):Prop:= ∀(X:CB) (gl:Gl) (lv:Value) (lo:Ls) (P:Nat->Prop) (w:World) (A:Option Addr) (n c:Nat),CK X gl lv lo w->b8 w P (.slice A n c) xs->
 Calls prog 121 #[X.p, .slice A n c] w fun e w'=>e=bQ (gX gl lo xs)/\au w w'
theorem v7 {gl:Gl} {lo:Ls} {l:List Ex} {j:Nat} (h:j<l.length):gX gl lo (l.drop j)=CR.then (io gl lo l[j]) fun _=>gX gl lo (l.drop (j+1)):=by
 rw[ay h,gX]
theorem nR (xs:List Ex) (hl:xs.length<=1073741824) (hIH: ∀y∈xs,zZ y):xU xs:=by
 intro X gl lv lo P w A n c hK hR;obtain⟨A',c',hv,hf⟩:=hR.form;injection hv with hv1 hv2 hv3;subst hv1 hv2 hv3;have HR:=G hR;have HI:=G hIH;have HK:=G hK;obtain⟨N,hN⟩: ∃N,xs.length=N:=⟨_,rfl⟩
 have HN:=G hN;rw[hN]at HR hl;obtain⟨Rv,hRv⟩: ∃R,gX gl lo xs=R:=⟨_,rfl⟩
 have HRv:=G hRv;have HQ0:=G (show gX gl lo (xs.drop 0)=Rv from hRv);have HE0:=G (aH w);obtain⟨Xp,hXp⟩: ∃p,X.p=p:=⟨_,rfl⟩
 have hXp':Xp= .pointer (some ⟨X.g,0,none⟩):=hXp.symm;clear hR hf hIH hK;rw[hN,hRv];clear hN hRv;subst hXp';simp only[CB.p]at*;clear hXp;go_enter func121,ntmps121;go_wp2_with fail
 go_loopw [8] (fun vi wr=> ∃(j:Nat),vi= .int .i64 (j:Int)/\j<=N/\Hid (gX gl lo (xs.drop j)=Rv)/\Hid (au w wr)) (fun vi _=>N-(intOf vi).toNat)
 case atStart=>exact⟨0,rfl,az _,HQ0,HE0⟩
 case round=>
  obtain⟨j,rfl,hj,HQ,HX⟩:=hrel;by_cases hlt:j<N
  ·have hlt':(j:Int)<N:=by omega
   have hjl:j<xs.length:=by have:=HN.out;omega
   obtain⟨b,o,a,rfl,hb,hP,h0,h1,h2,h3,h4,h5,hRa⟩:=HR.out.at_ j hjl;have HS:=G (v7 (gl:=gl) (lo:=lo) hjl);have hIy:=HI.out _ (ai hjl);generalize xs[j]=y at*;have e0:=(HX.out.cell b _ hb).trans h0;have e1:=(HX.out.cell b _ hb).trans h1;have e2:=(HX.out.cell b _ hb).trans h2;have e3:=(HX.out.cell b _ hb).trans h3;have e4:=(HX.out.cell b _ hb).trans h4;have e5:=(HX.out.cell b _ hb).trans h5;obtain⟨B,d,rfl,_⟩:=hRa.form;have HC:=G (hIy X gl lv lo P _ B _ d ((HK.out.ext HX.out).ext (O _ (.cells #[.int .i64 y.k, .string (ag y.op), .string (ag y.nm), .string (ag y.tx), .int .i64 y.v, .slice B y.args.length d] 70))) ((hRa.keep (.of_ext HX.out) (Q:=P) (fun b hb _=>hb)).keep (.of_ext (O _ _)) (fun b hb _=>hb)));have HX1:=G (HX.out.alloc' (.cells #[.int .i64 y.k, .string (ag y.op), .string (ag y.nm), .string (ag y.tx), .int .i64 y.v, .slice B y.args.length d] 70));clear h0 h1 h2 h3 h4 h5 hRa hIy;generalize io gl lo y=r at*;simp only[CB.p]at HC
   cases r with
   |ok u=>
    go_wp2_with (go_at_call 156;refine HC.out.mono ?_;unfold bQ;rintro e w3 ⟨rfl,hE⟩;have HY:=G (HX1.out.trans hE);clear hE HC);go_roundw
    case rel=>exact⟨j+1,by go_num,by omega,G (HS.out.symm.trans HQ.out),HY⟩
    case measure=>simp[intOf];omega
   |error q=>
    obtain⟨nm,n⟩:=q;have HF:=G (show Rv= .error (nm,n)from HQ.out.symm.trans HS.out);go_wp2_with (go_at_call 156;refine HC.out.mono ?_;unfold bQ bh;rintro e w3 ⟨rfl,hE⟩;have HY:=G (HX1.out.trans hE);clear hE HC);exact⟨rfl,by rw[HF.out];rfl,HY.out⟩
  ·have hlt': ¬(j:Int)<N:=by omega
   have HF:=G (show Rv= .ok () by
    have:=HQ.out;rw[aB (by have:=HN.out;omega),gX]at this
    exact this.symm)
   go_wp2_with fail;exact bodyPost_end (results_none rfl _ _ _) rfl ⟨by rw[HF.out];rfl,HX.out⟩
end
end Go.Proofs.YtddomeddabfinaaGreatDoor
