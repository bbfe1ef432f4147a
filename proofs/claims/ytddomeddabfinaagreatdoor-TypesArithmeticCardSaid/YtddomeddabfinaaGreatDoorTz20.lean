/-
  Parts of the proof: TyC TyD TyE.
-/
import Derived.Test.YtddomeddabfinaaGreatDoorTz00
import Derived.Test.YtddomeddabfinaaGreatDoorTz19
import Derived.Test.YtddomeddabfinaaGreatDoorTz10
set_option maxRecDepth 100000
set_option maxHeartbeats 8000000
set_option linter.unusedVariables false
set_option linter.unusedSimpArgs false
set_option linter.unusedSectionVars false
namespace Go.Proofs.YtddomeddabfinaaGreatDoor
open Go.Proofs.Tryz
section
open Go.RowKit
theorem mr (a:List UInt8) (i:Nat) (h:i<a.length) (w:World):(Instr.index 9 (.string (ai a)) (.int .i64 (i:Int))).run prog w= .ok (.int .u8 (a[i].toNat:Int)) w:=by
 have h3:(ai a)[i]? =some a[i]:=by
  have h2:i<(ai a).size:=by rw[a7];exact h
  rw[getElem?_pos (ai a) i h2];rfl
 simp[Instr.index,run_underlying underlying9,asIntOf,h3]
def AN (b:Bi):List UInt8:=match b with
 |none=>[]
 |some (_,a)=>a
theorem kf (b:Bi) (i:Nat) (hi:i<=1073741824) (hl:(AN b).length<=1073741824) (w:World):Calls prog 55 #[.string (ai (AN b)), .bool b.isSome, .int .i64 (i:Int)] w fun e w'=>e= .returned (.bool (jW b i))/\aq w w':=by
 cases b with
 |none=>
  have HI:=G (show jW none i=true from rfl);simp only[cQ];go_enter func55,ntmps55;go_wp2_with fail;go_ret;exact⟨by rw[HI.out];rfl,aR _⟩
 |some x=>
  obtain⟨c,a⟩:=x;have HI:=G (show jW (some (c,a)) i=(decide (a.length<=i)||a.getD i 0==105)from rfl);simp only[AN,cF]at*;have hsz:=a7 a;by_cases h:a.length<=i
  ·have h':(a.length:Int)<=i:=by omega
   go_enter func55,ntmps55;go_wp2_with fail;go_ret;exact⟨by rw[HI.out,decide_eq_true h];rfl,aR _⟩
  ·have h': ¬(a.length:Int)<=i:=by omega
   have hix:=fun w=>mr a i (by omega) w;have hg:a.getD i 0=a[i]'(by omega):=by rw[bB,aI (by omega)];rfl
   have HI:=G (show jW (some (c,a)) i=(a.getD i 0==105) by rw[HI.out,decide_eq_false h];rfl);rw[<-hg]at hix;generalize a.getD i 0=q at*
   have HE:=G (show((q.toNat:Int)==105)=(q==105) by
    by_cases e:q=105
    ·subst e;rfl
    ·have: ¬(q.toNat:Int)=105:=fun h=>e (UInt8.toNat_inj.1 (by have:(105:UInt8).toNat=105:=rfl;omega))
     rw[beq_eq_false_iff_ne.2 this,beq_eq_false_iff_ne.2 e])
   clear hg;go_enter func55,ntmps55;go_wp2_with fail;go_ret;exact⟨by rw[HI.out,<-HE.out];rfl,aR _⟩
theorem qZ: ∀(l:List Ex) (m:Nat),m<=gg m l
 | [],m=>by rw[gg];exact ah _
 |y::r,m=>by rw[gg];have:=qZ r (max m (cX y));omega
theorem rg (lg:Bool): ∀(l:List Ex) (i m:Nat),m<=eL lg i m l
 | [],i,m=>by rw[eL];exact ah _
 |y::r,i,m=>by rw[eL];have:=rg lg r (i+1) (max m (if 0<i/\lg=false then cX y+1 else cX y));omega
theorem n_ (b:Bi): ∀(l:List Ex) (i fr m:Nat),m<=eZ b i fr m l
 | [],i,fr,m=>by rw[eZ];exact ah _
 |y::r,i,fr,m=>by
  rw[eZ];split
  ·have:=n_ b r (i+1) (fr+1) (max m (fr+cX y));omega
  ·exact n_ b r (i+1) fr m
mutual
theorem gR: ∀x:Ex,cX x<=x.wt
 | .mk k op nm tx v a=>by
  have h1:=qY a 1;have h2:=q_ (rn op) a 0 1;have h3:=nZ (ee nm) a 0 0 1;rw[cX,Ex.wt];repeat' split
  all_goals omega
theorem qY: ∀(l:List Ex) (m:Nat),gg m l<=max m (fL l)
 | [],m=>by rw[gg];omega
 |y::r,m=>by
  rw[gg,fL];have:=qY r (max m (cX y));have:=gR y;omega
theorem q_ (lg:Bool): ∀(l:List Ex) (i m:Nat),eL lg i m l<=max m (fL l+1)
 | [],i,m=>by rw[eL];omega
 |y::r,i,m=>by
  rw[eL,fL];have h1:=q_ lg r (i+1) (max m (if 0<i/\lg=false then cX y+1 else cX y));have h2:=gR y;have h3:(if 0<i/\lg=false then cX y+1 else cX y)<=cX y+1:=by split<;>omega
  have h4:y.wt=1+y.op.length+y.nm.length+y.tx.length+fL y.args:=y.wt_eq;omega
theorem nZ (b:Bi): ∀(l:List Ex) (i fr m:Nat),eZ b i fr m l<=max m (fr+fL l)
 | [],i,fr,m=>by rw[eZ];omega
 |y::r,i,fr,m=>by
  rw[eZ,fL];have h2:=gR y;have h4:y.wt=1+y.op.length+y.nm.length+y.tx.length+fL y.args:=y.wt_eq;split
  ·have:=nZ b r (i+1) (fr+1) (max m (fr+cX y));omega
  ·have:=nZ b r (i+1) fr m;omega
end
def AV (x:Ex):Prop:= ∀(P:Nat->Prop) (w:World) (A:Option Addr) (n c:Nat),cE w P (.slice A n c) x.args->BT w->
 Calls prog 26 #[.agg #[.int .i64 x.k, .string (ai x.op), .string (ai x.nm), .string (ai x.tx), .int .i64 x.v, .slice A n c]] w fun e w'=>e= .returned (.int .i64 (cX x:Int))/\aq w w'
theorem sO {l:List Ex} {j m:Nat} (h:j<l.length):gg m (l.drop j)=gg (max m (cX l[j])) (l.drop (j+1)):=by
 rw[ay h,gg]
theorem sQ {lg:Bool} {l:List Ex} {i j m:Nat} (h:j<l.length):eL lg i m (l.drop j)=eL lg (i+1) (max m (if 0<i/\lg=false then cX l[j]+1 else cX l[j])) (l.drop (j+1)):=by
 rw[ay h,eL]
theorem sP {b:Bi} {l:List Ex} {i j fr m:Nat} (h:j<l.length):eZ b i fr m (l.drop j)=if jW b i=true then eZ b (i+1) (fr+1) (max m (fr+cX l[j])) (l.drop (j+1))else eZ b (i+1) fr m (l.drop (j+1)):=by
 rw[ay h,eZ]
theorem B4 (k:Int) (hk:k=4\/k=6) (op nm tx:List UInt8) (v:Int) (xs:List Ex) (hw:(Ex.mk k op nm tx v xs).wt<=1073741824) (hIH: ∀y∈xs,AV y):AV (.mk k op nm tx v xs):=by
 intro P w A n c hR hT;have HRs:=G (show cX (.mk k op nm tx v xs)=gg 1 xs by rw[cX,if_pos hk]);have hb:gg 1 xs<=1073741824:=by have:=gR (.mk k op nm tx v xs);rw[HRs.out]at this;omega
 have hnl:=dB xs;rw[Ex.wt]at hw;simp only[Ex.k,Ex.op,Ex.nm,Ex.tx,Ex.v,Ex.args]at*;obtain⟨A',c',hv,hf⟩:=hR.form;injection hv with hv1 hv2 hv3;subst hv1 hv2 hv3;have HR:=G hR;have HI:=G hIH;have HT:=G hT;obtain⟨N,hN⟩: ∃N,xs.length=N:=⟨_,rfl⟩
 have hNb:N<=1073741824:=by omega
 have HN:=G hN;rw[hN]at HR;have HE0:=G (O w (.cells #[.int .i64 k, .string (ai op), .string (ai nm), .string (ai tx), .int .i64 v, .slice A N c] 70));obtain⟨Rv,hRv⟩: ∃R,gg 1 xs=R:=⟨_,rfl⟩
 rw[hRv]at hb HRs;have HQ0:=G (show gg 1 (xs.drop 0)=Rv from hRv);clear hR hf hIH hT hw hRv hnl;rw[hN];clear hN;rcases hk with rfl|rfl;all_goals
  go_enter func26,ntmps26;go_wp2_with fail
  go_loopw [3,23] (fun vm vi wr=> ∃(j m:Nat),vi= .int .i64 (j:Int)/\vm= .int .i64 (m:Int)/\j<=N/\Hid (gg m (xs.drop j)=Rv)/\Hid (aq w wr)) (fun _ vi _=>N-(intOf vi).toNat)
  case atStart=>exact⟨0,1,rfl,rfl,aG _,HQ0,HE0⟩
  case round=>
   obtain⟨j,m,rfl,rfl,hj,HQ,HX⟩:=hrel;have hm:m<=1073741824:=by have:=qZ (xs.drop j) m;rw[HQ.out]at this;omega
   by_cases hlt:j<N
   ·have hlt':(j:Int)<N:=by omega
    have hjl:j<xs.length:=by have:=HN.out;omega
    obtain⟨b,o,a,rfl,hb,hP,h0,h1,h2,h3,h4,h5,hRa⟩:=HR.out.at_ j hjl;have HS:=G (sO (m:=m) hjl);have hIy:=HI.out _ (au hjl);generalize xs[j]=y at*;have e0:=(HX.out.cell b _ hb).trans h0;have e1:=(HX.out.cell b _ hb).trans h1;have e2:=(HX.out.cell b _ hb).trans h2;have e3:=(HX.out.cell b _ hb).trans h3;have e4:=(HX.out.cell b _ hb).trans h4;have e5:=(HX.out.cell b _ hb).trans h5;obtain⟨B,d,rfl,_⟩:=hRa.form;have HRa:=G (hRa.keep (.of_ext HX.out) (Q:=P) (fun b hb _=>hb));have HIy:=G hIy;clear h0 h1 h2 h3 h4 h5 hRa hIy;go_wp2_with (go_at_call 26;refine(HIy.out P _ B _ d (HRa.out.keep (.of_ext (O _ _)) (fun b hb _=>hb)) ((HT.out.ext HX.out).ext (O _ _))).mono ?_;rintro e w3 ⟨rfl,hE⟩;have HY:=G ((HX.out.alloc' _).trans hE);clear hE);go_roundw
    case rel=>exact⟨j+1,max m (cX y),by go_num,by congr 1;omega,by omega,G (HS.out.symm.trans HQ.out),HY⟩
    case measure=>simp[intOf];omega
   ·have hlt': ¬(j:Int)<N:=by omega
    have HM:=G (show m=Rv by
     have:=HQ.out;rw[aF (by have:=HN.out;omega),gg]at this
     exact this)
    go_wp2_with fail;go_ret;exact⟨by rw[HRs.out,<-HM.out];rfl,HX.out⟩
theorem BZ (op nm tx:List UInt8) (v:Int) (xs:List Ex) (hw:(Ex.mk 7 op nm tx v xs).wt<=1073741824) (hIH: ∀y∈xs,AV y):AV (.mk 7 op nm tx v xs):=by
 intro P w A n c hR hT;have HRs:=G (show cX (.mk 7 op nm tx v xs)=eL (rn op) 0 1 xs by rw[cX,if_neg (by decide),if_pos rfl]);have hb:eL (rn op) 0 1 xs<=1073741824:=by have:=gR (.mk 7 op nm tx v xs);rw[HRs.out]at this;omega
 have hnl:=dB xs;rw[Ex.wt]at hw;have hwl:fL xs<=1073741823:=by omega
 simp only[Ex.k,Ex.op,Ex.nm,Ex.tx,Ex.v,Ex.args]at*;obtain⟨A',c',hv,hf⟩:=hR.form;injection hv with hv1 hv2 hv3;subst hv1 hv2 hv3;have HR:=G hR;have HI:=G hIH;have HT:=G hT;obtain⟨N,hN⟩: ∃N,xs.length=N:=⟨_,rfl⟩
 have hNb:N<=1073741824:=by omega
 have HN:=G hN;rw[hN]at HR;have HE0:=G (O w (.cells #[.int .i64 7, .string (ai op), .string (ai nm), .string (ai tx), .int .i64 v, .slice A N c] 70));have HB0:=G (an w 70 #[.int .i64 7, .string (ai op), .string (ai nm), .string (ai tx), .int .i64 v, .slice A N c]);obtain⟨Rv,hRv⟩: ∃R,eL (rn op) 0 1 xs=R:=⟨_,rfl⟩
 rw[hRv]at hb HRs;have HQ0:=G (show eL (rn op) 0 1 (xs.drop 0)=Rv from hRv);clear hR hf hIH hT hw hRv hnl;rw[hN];clear hN;obtain⟨lg,hlg⟩: ∃b,rn op=b:=⟨_,rfl⟩
 rw[hlg]at HQ0;have HL:=G (show(op==[38,38]||op==[124,124])=lg from hlg);clear hlg
 cases h1:(op==[38,38])<;>cases h2:(op==[124,124]);all_goals
  rw[h1,h2]at HL;have HLG:=G HL.out.symm;simp only[Bool.or_true,kU,Bool.true_or,iO]at HLG;have n1:=congrArg (!·) h1;have n2:=congrArg (!·) h2;change(op !=[38,38])=_ at n1;change(op !=[124,124])=_ at n2;simp only[Bool.not_true,Bool.not_false]at n1 n2;clear HL;go_enter func26,ntmps26;go_wp2_with fail
  go_loopw [3,37] (fun vm vi wr=> ∃(j m:Nat),vi= .int .i64 (j:Int)/\vm= .int .i64 (m:Int)/\j<=N/\Hid (eL lg j m (xs.drop j)=Rv)/\Hid (aq w wr)/\Hid (aL wr w.heap.size 70 #[.int .i64 7, .string (ai op), .string (ai nm), .string (ai tx), .int .i64 v, .slice A N c])) (fun _ vi _=>N-(intOf vi).toNat)
  case atStart=>exact⟨0,1,rfl,rfl,aG _,HQ0,HE0,HB0⟩
  case round=>
   obtain⟨j,m,rfl,rfl,hj,HQ,HX,HB⟩:=hrel;have hm:m<=1073741824:=by have:=rg lg (xs.drop j) j m;rw[HQ.out]at this;omega
   by_cases hlt:j<N
   ·have hlt':(j:Int)<N:=by omega
    have hjl:j<xs.length:=by have:=HN.out;omega
    obtain⟨b,o,a,rfl,hb,hP,h0,h1,h2,h3,h4,h5,hRa⟩:=HR.out.at_ j hjl;have HS:=G (sQ (lg:=lg) (i:=j) (m:=m) hjl);have hyb:=gR xs[j];have hyw:=dG (au hjl);have hIy:=HI.out _ (au hjl);generalize xs[j]=y at*;have e0:=(HX.out.cell b _ hb).trans h0;have e1:=(HX.out.cell b _ hb).trans h1;have e2:=(HX.out.cell b _ hb).trans h2;have e3:=(HX.out.cell b _ hb).trans h3;have e4:=(HX.out.cell b _ hb).trans h4;have e5:=(HX.out.cell b _ hb).trans h5;obtain⟨B,d,rfl,_⟩:=hRa.form;have HRa:=G (hRa.keep (.of_ext HX.out) (Q:=P) (fun b hb _=>hb));have HIy:=G hIy;clear h0 h1 h2 h3 h4 h5 hRa hIy;have hnb:cX y<=1073741823:=by omega
    by_cases hj0:j=0
    ·subst hj0;simp only[a8,br]at e0 e1 e2 e3 e4 e5;go_wp2_with (go_at_call 26;refine(HIy.out P _ B _ d (HRa.out.keep (.of_ext (O _ _)) (fun b hb _=>hb)) ((HT.out.ext HX.out).ext (O _ _))).mono ?_;rintro e w3 ⟨rfl,hE⟩;have HY:=G ((HX.out.alloc' _).trans hE);have HBY:=G ((HB.out.ext (O _ _)).ext hE);have fc:=HBY.out.cell;clear hE);go_roundw
     case rel=>exact⟨1,max m (cX y),by go_num,by congr 1;omega,by omega,G ((by rw[HS.out,if_neg (by simp)]:eL lg 0 m (xs.drop 0)=eL lg 1 (max m (cX y)) (xs.drop 1)).symm.trans HQ.out),HY,HBY⟩
     case measure=>simp[intOf];omega
    ·have hj0':(0:Int)<j:=by omega
     go_wp2_with (go_at_call 26;refine(HIy.out P _ B _ d (HRa.out.keep (.of_ext (O _ _)) (fun b hb _=>hb)) ((HT.out.ext HX.out).ext (O _ _))).mono ?_;rintro e w3 ⟨rfl,hE⟩;have HY:=G ((HX.out.alloc' _).trans hE);have HBY:=G ((HB.out.ext (O _ _)).ext hE);have fc:=HBY.out.cell;clear hE);go_roundw
     case rel=>first|exact⟨j+1,max m (cX y+1),by go_num,by congr 1;omega,by omega,G ((by rw[HS.out,if_pos ⟨by omega,HLG.out⟩]:eL lg j m (xs.drop j)=eL lg (j+1) (max m (cX y+1)) (xs.drop (j+1))).symm.trans HQ.out),HY,HBY⟩|exact⟨j+1,max m (cX y),by go_num,by congr 1;omega,by omega,G ((by rw[HS.out,if_neg (by rw[HLG.out];simp)]:eL lg j m (xs.drop j)=eL lg (j+1) (max m (cX y)) (xs.drop (j+1))).symm.trans HQ.out),HY,HBY⟩
     case measure=>simp[intOf];omega
   ·have hlt': ¬(j:Int)<N:=by omega
    have HM:=G (show m=Rv by
     have:=HQ.out;rw[aF (by have:=HN.out;omega),eL]at this
     exact this)
    go_wp2_with fail;go_ret;exact⟨by rw[HRs.out,<-HM.out];rfl,HX.out⟩
end
section
open Go.RowKit
def EG (b:Bi):Int:=match b with
 |none=>0
 |some (c,_)=>c
theorem yH (s:List UInt8) (w:World) (h:BT w):Calls prog 22 #[.string (ai s)] w fun e w'=>e= .returned (.tuple #[.int .i64 (EG (ee s)), .string (ai (AN (ee s))), .bool (ee s).isSome])/\aq w w':=by
 refine(kG s w h).mono fun e w' ⟨he,hE⟩=>⟨?_,hE⟩
 rw[he]
 cases ee s<;>rfl
theorem Cm: ∀x∈pF,x.2.2.length<=3:=by decide
theorem qt (s:List UInt8):(AN (ee s)).length<=3:=by
 cases h:ee s with
 |none=>simp[AN]
 |some x=>
  unfold ee at h;rw[eG]at h;obtain⟨y,hy,rfl⟩:=h;exact Cm y (bT hy)
theorem BY (op nm tx:List UInt8) (v:Int) (xs:List Ex) (hw:(Ex.mk 5 op nm tx v xs).wt<=1073741824) (hIH: ∀y∈xs,AV y):AV (.mk 5 op nm tx v xs):=by
 intro P w A n c hR hT;have HRs:=G (show cX (.mk 5 op nm tx v xs)=eZ (ee nm) 0 0 1 xs by rw[cX,if_neg (by decide),if_neg (by decide),if_pos rfl]);have hb:eZ (ee nm) 0 0 1 xs<=1073741824:=by have:=gR (.mk 5 op nm tx v xs);rw[HRs.out]at this;omega
 have hnl:=dB xs;rw[Ex.wt]at hw;have hwl:fL xs<=1073741823:=by omega
 have hbl:=qt nm;simp only[Ex.k,Ex.op,Ex.nm,Ex.tx,Ex.v,Ex.args]at*;obtain⟨A',c',hv,hf⟩:=hR.form;injection hv with hv1 hv2 hv3;subst hv1 hv2 hv3;have HR:=G hR;have HI:=G hIH;have HT:=G hT;obtain⟨N,hN⟩: ∃N,xs.length=N:=⟨_,rfl⟩
 have hNb:N<=1073741823:=by omega
 have HN:=G hN;rw[hN]at HR;have hEA:=O w (.cells #[.int .i64 5, .string (ai op), .string (ai nm), .string (ai tx), .int .i64 v, .slice A N c] 70);have HE0:=G hEA;have HB0:=G (an w 70 #[.int .i64 5, .string (ai op), .string (ai nm), .string (ai tx), .int .i64 v, .slice A N c]);have HBL:=G (yH nm _ (hT.ext hEA));have HIN:=G (fun(i:Nat) (hi:i<=1073741824) (W:World)=>kf (ee nm) i hi (by omega) W);generalize ee nm=bi at*;generalize AN bi=ls at*;generalize EG bi=bk at*;generalize bi.isSome=bs at*;obtain⟨Rv,hRv⟩: ∃R,eZ bi 0 0 1 xs=R:=⟨_,rfl⟩
 rw[hRv]at hb HRs;have HQ0:=G (show eZ bi 0 0 1 (xs.drop 0)=Rv from hRv);clear hR hf hIH hT hw hRv hnl hEA hbl;rw[hN];clear hN;go_enter func26,ntmps26;go_wp2_with (go_at_call 22;refine HBL.out.mono ?_;rintro e w1 ⟨rfl,hE⟩;have HX0:=G (HE0.out.trans hE);have f0:=(HB0.out.ext hE).cell;clear hE HBL)
 go_loopw [3,12,74] (fun vm vf vi wr=> ∃(j m fr:Nat),vi= .int .i64 (j:Int)/\vm= .int .i64 (m:Int)/\vf= .int .i64 (fr:Int)/\j<=N/\fr<=j/\Hid (eZ bi j fr m (xs.drop j)=Rv)/\Hid (aq w wr)) (fun _ _ vi _=>N-(intOf vi).toNat)
 case atStart=>exact⟨0,1,0,rfl,rfl,rfl,aG _,aG _,HQ0,HX0⟩
 case round=>
  obtain⟨j,m,fr,rfl,rfl,rfl,hj,hfr,HQ,HX⟩:=hrel;have hm:m<=1073741824:=by have:=n_ bi (xs.drop j) j fr m;rw[HQ.out]at this;omega
  by_cases hlt:j<N
  ·have hlt':(j:Int)<N:=by omega
   have hjl:j<xs.length:=by have:=HN.out;omega
   obtain⟨b,o,a,rfl,hb,hP,h0,h1,h2,h3,h4,h5,hRa⟩:=HR.out.at_ j hjl;have HS:=G (sP (b:=bi) (i:=j) (fr:=fr) (m:=m) hjl);have hyb:=gR xs[j];have hyw:=dG (au hjl);have hIy:=HI.out _ (au hjl);generalize xs[j]=y at*;have HIN1:=G (HIN.out j (by omega));have e0:=(HX.out.cell b _ hb).trans h0;have e1:=(HX.out.cell b _ hb).trans h1;have e2:=(HX.out.cell b _ hb).trans h2;have e3:=(HX.out.cell b _ hb).trans h3;have e4:=(HX.out.cell b _ hb).trans h4;have e5:=(HX.out.cell b _ hb).trans h5;obtain⟨B,d,rfl,_⟩:=hRa.form;have HRa:=G (hRa.keep (.of_ext HX.out) (Q:=P) (fun b hb _=>hb));have HIy:=G hIy;have hnb:cX y<=1073741823:=by omega
   have HB1:=G (an wr 70 #[.int .i64 y.k, .string (ai y.op), .string (ai y.nm), .string (ai y.tx), .int .i64 y.v, .slice B y.args.length d]);have HX1:=G (HX.out.alloc' (.cells #[.int .i64 y.k, .string (ai y.op), .string (ai y.nm), .string (ai y.tx), .int .i64 y.v, .slice B y.args.length d] 70));clear h0 h1 h2 h3 h4 h5 hRa hIy hyb hyw
   cases hia:jW bi j with
   |true=>
    rw[hia]at HS HIN1;go_wp2_with (first|(go_at_call 55;refine(HIN1.out _).mono ?_;rintro e w2 ⟨rfl,hE⟩;have HX2:=G (HX1.out.trans hE);have HE2:=G hE;have f1:=(HB1.out.ext hE).cell;clear hE HIN1)|(go_at_call 26;refine(HIy.out P _ B _ d ((HRa.out.keep (.of_ext (O _ _)) (fun b hb _=>hb)).keep (.of_ext HE2.out) (fun b hb _=>hb)) (HT.out.ext HX2.out)).mono ?_;rintro e w3 ⟨rfl,hE⟩;have HY:=G (HX2.out.trans hE);clear hE f1));go_roundw
    case rel=>exact⟨j+1,max m (fr+cX y),fr+1,by go_num,by congr 1;omega,by go_num,by omega,by omega,G ((by rw[HS.out,if_pos trivial]:eZ bi j fr m (xs.drop j)=eZ bi (j+1) (fr+1) (max m (fr+cX y)) (xs.drop (j+1))).symm.trans HQ.out),HY⟩
    case measure=>simp[intOf];omega
   |false=>
    rw[hia]at HS HIN1;go_wp2_with (go_at_call 55;refine(HIN1.out _).mono ?_;rintro e w2 ⟨rfl,hE⟩;have HX2:=G (HX1.out.trans hE);clear hE HIN1);go_roundw
    case rel=>exact⟨j+1,m,fr,by go_num,rfl,rfl,by omega,by omega,G ((by rw[HS.out,if_neg (by simp)]:eZ bi j fr m (xs.drop j)=eZ bi (j+1) fr m (xs.drop (j+1))).symm.trans HQ.out),HX2⟩
    case measure=>simp[intOf];omega
  ·have hlt': ¬(j:Int)<N:=by omega
   have HM:=G (show m=Rv by
    have:=HQ.out;rw[aF (by have:=HN.out;omega),eZ]at this
    exact this)
   go_wp2_with fail;go_ret;exact⟨by rw[HRs.out,<-HM.out];rfl,HX.out⟩
theorem BX (k:Int) (h4:(k==4)=false) (h6:(k==6)=false) (h7:(k==7)=false) (h5:(k==5)=false) (op nm tx:List UInt8) (v:Int) (xs:List Ex):AV (.mk k op nm tx v xs):=by
 intro P w A n c hR hT
 have HRs:=G (show cX (.mk k op nm tx v xs)=1 by
  rw[cX,if_neg (by simp only[beq_eq_false_iff_ne]at h4 h6;omega),if_neg (by simpa using h7),if_neg (by simpa using h5)])
 have HE0:=G (O w (.cells #[.int .i64 k, .string (ai op), .string (ai nm), .string (ai tx), .int .i64 v, .slice A n c] 70));simp only[Ex.k,Ex.op,Ex.nm,Ex.tx,Ex.v,Ex.args]at*;clear hR hT;go_enter func26,ntmps26;go_wp2_with fail;go_ret;exact⟨by rw[HRs.out];rfl,HE0.out⟩
theorem oW: ∀(m:Nat) (x:Ex),x.wt<=m->x.wt<=1073741824->AV x
 |0,x,h,_=>absurd h (by have:=x.wt_eq;omega)
 |m+1, .mk k op nm tx v xs,h,hw=>by
  have hIH: ∀y∈xs,AV y:=fun y hy=>oW m y (by have:=dG hy;rw[Ex.wt]at h;omega) (by have:=dG hy;rw[Ex.wt]at hw;omega);by_cases h46:k=4\/k=6
  ·exact B4 k h46 op nm tx v xs hw hIH
  by_cases h7:k=7
  ·subst h7;exact BZ op nm tx v xs hw hIH
  by_cases h5:k=5
  ·subst h5;exact BY op nm tx v xs hw hIH
  exact BX k (beq_eq_false_iff_ne.2 (by omega)) (beq_eq_false_iff_ne.2 (by omega)) (beq_eq_false_iff_ne.2 h7) (beq_eq_false_iff_ne.2 h5) op nm tx v xs
end
section
open Go.RowKit
def CO (x:Ex):Prop:= ∀(X:CB) (gl:Gl) (lv:Value) (lo:Ls) (P:Nat->Prop) (w:World) (A:Option Addr) (n c:Nat),CK X gl lv lo w->cE w P (.slice A n c) x.args->
 Calls prog 156 #[X.p, .agg #[.int .i64 x.k, .string (ai x.op), .string (ai x.nm), .string (ai x.tx), .int .i64 x.v, .slice A n c]] w fun e w'=>e=bW (lw gl lo x)/\aq w w'
def AZ (xs:List Ex):Prop:= ∀(X:CB) (gl:Gl) (lv:Value) (lo:Ls) (P:Nat->Prop) (w:World) (A:Option Addr) (n c:Nat),CK X gl lv lo w->cE w P (.slice A n c) xs->
 Calls prog 121 #[X.p, .slice A n c] w fun e w'=>e=bW (l7 gl lo xs)/\aq w w'
theorem yy {gl:Gl} {lo:Ls} {l:List Ex} {j:Nat} (h:j<l.length):l7 gl lo (l.drop j)=CR.then (lw gl lo l[j]) fun _=>l7 gl lo (l.drop (j+1)):=by
 rw[ay h,l7]
theorem py (xs:List Ex) (hl:xs.length<=1073741824) (hIH: ∀y∈xs,CO y):AZ xs:=by
 intro X gl lv lo P w A n c hK hR;obtain⟨A',c',hv,hf⟩:=hR.form;injection hv with hv1 hv2 hv3;subst hv1 hv2 hv3;have HR:=G hR;have HI:=G hIH;have HK:=G hK;obtain⟨N,hN⟩: ∃N,xs.length=N:=⟨_,rfl⟩
 have HN:=G hN;rw[hN]at HR hl;obtain⟨Rv,hRv⟩: ∃R,l7 gl lo xs=R:=⟨_,rfl⟩
 have HRv:=G hRv;have HQ0:=G (show l7 gl lo (xs.drop 0)=Rv from hRv);have HE0:=G (aR w);obtain⟨Xp,hXp⟩: ∃p,X.p=p:=⟨_,rfl⟩
 have hXp':Xp= .pointer (some ⟨X.g,0,none⟩):=hXp.symm;clear hR hf hIH hK;rw[hN,hRv];clear hN hRv;subst hXp';simp only[CB.p]at*;clear hXp;go_enter func121,ntmps121;go_wp2_with fail
 go_loopw [8] (fun vi wr=> ∃(j:Nat),vi= .int .i64 (j:Int)/\j<=N/\Hid (l7 gl lo (xs.drop j)=Rv)/\Hid (aq w wr)) (fun vi _=>N-(intOf vi).toNat)
 case atStart=>exact⟨0,rfl,aG _,HQ0,HE0⟩
 case round=>
  obtain⟨j,rfl,hj,HQ,HX⟩:=hrel;by_cases hlt:j<N
  ·have hlt':(j:Int)<N:=by omega
   have hjl:j<xs.length:=by have:=HN.out;omega
   obtain⟨b,o,a,rfl,hb,hP,h0,h1,h2,h3,h4,h5,hRa⟩:=HR.out.at_ j hjl;have HS:=G (yy (gl:=gl) (lo:=lo) hjl);have hIy:=HI.out _ (au hjl);generalize xs[j]=y at*;have e0:=(HX.out.cell b _ hb).trans h0;have e1:=(HX.out.cell b _ hb).trans h1;have e2:=(HX.out.cell b _ hb).trans h2;have e3:=(HX.out.cell b _ hb).trans h3;have e4:=(HX.out.cell b _ hb).trans h4;have e5:=(HX.out.cell b _ hb).trans h5;obtain⟨B,d,rfl,_⟩:=hRa.form;have HC:=G (hIy X gl lv lo P _ B _ d ((HK.out.ext HX.out).ext (O _ (.cells #[.int .i64 y.k, .string (ai y.op), .string (ai y.nm), .string (ai y.tx), .int .i64 y.v, .slice B y.args.length d] 70))) ((hRa.keep (.of_ext HX.out) (Q:=P) (fun b hb _=>hb)).keep (.of_ext (O _ _)) (fun b hb _=>hb)));have HX1:=G (HX.out.alloc' (.cells #[.int .i64 y.k, .string (ai y.op), .string (ai y.nm), .string (ai y.tx), .int .i64 y.v, .slice B y.args.length d] 70));clear h0 h1 h2 h3 h4 h5 hRa hIy;generalize lw gl lo y=r at*;simp only[CB.p]at HC
   cases r with
   |ok u=>
    go_wp2_with (go_at_call 156;refine HC.out.mono ?_;unfold bW;rintro e w3 ⟨rfl,hE⟩;have HY:=G (HX1.out.trans hE);clear hE HC);go_roundw
    case rel=>exact⟨j+1,by go_num,by omega,G (HS.out.symm.trans HQ.out),HY⟩
    case measure=>simp[intOf];omega
   |error q=>
    obtain⟨nm,n⟩:=q;have HF:=G (show Rv= .error (nm,n)from HQ.out.symm.trans HS.out);go_wp2_with (go_at_call 156;refine HC.out.mono ?_;unfold bW a_;rintro e w3 ⟨rfl,hE⟩;have HY:=G (HX1.out.trans hE);clear hE HC);exact⟨rfl,by rw[HF.out];rfl,HY.out⟩
  ·have hlt': ¬(j:Int)<N:=by omega
   have HF:=G (show Rv= .ok () by
    have:=HQ.out;rw[aF (by have:=HN.out;omega),l7]at this
    exact this.symm)
   go_wp2_with fail;exact bodyPost_end (results_none rfl _ _ _) rfl ⟨by rw[HF.out];rfl,HX.out⟩
end
end Go.Proofs.YtddomeddabfinaaGreatDoor
