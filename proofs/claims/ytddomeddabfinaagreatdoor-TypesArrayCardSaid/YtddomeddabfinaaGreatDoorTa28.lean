/-
  Parts of the proof: TyC TyD TyE.
-/
import Derived.Test.YtddomeddabfinaaGreatDoorTa00
import Derived.Test.YtddomeddabfinaaGreatDoorTa27
import Derived.Test.YtddomeddabfinaaGreatDoorTa15
set_option maxRecDepth 100000
set_option maxHeartbeats 8000000
set_option linter.unusedVariables false
set_option linter.unusedSimpArgs false
set_option linter.unusedSectionVars false
namespace Go.Proofs.YtddomeddabfinaaGreatDoor
open Go.Proofs.Tryz
section
open Go.RowKit
theorem l9 (a:List UInt8) (i:Nat) (h:i<a.length) (w:World):(Instr.index 9 (.string (ah a)) (.int .i64 (i:Int))).run prog w= .ok (.int .u8 (a[i].toNat:Int)) w:=by
 have h3:(ah a)[i]? =some a[i]:=by
  have h2:i<(ah a).size:=by rw[a6];exact h
  rw[getElem?_pos (ah a) i h2];rfl
 simp[Instr.index,run_underlying underlying9,asIntOf,h3]
def z7 (b:Bi):List UInt8:=match b with
 |none=>[]
 |some (_,a)=>a
theorem j9 (b:Bi) (i:Nat) (hi:i<=1073741824) (hl:(z7 b).length<=1073741824) (w:World):Calls prog 55 #[.string (ah (z7 b)), .bool b.isSome, .int .i64 (i:Int)] w fun e w'=>e= .returned (.bool (jb b i))/\au w w':=by
 cases b with
 |none=>
  have HI:=G (show jb none i=true from rfl);simp only[cJ];go_enter func55,ntmps55;go_wp2_with fail;go_ret;exact⟨by rw[HI.out];rfl,aO _⟩
 |some x=>
  obtain⟨c,a⟩:=x;have HI:=G (show jb (some (c,a)) i=(decide (a.length<=i)||a.getD i 0==105)from rfl);simp only[z7,cz]at*;have hsz:=a6 a;by_cases h:a.length<=i
  ·have h':(a.length:Int)<=i:=by omega
   go_enter func55,ntmps55;go_wp2_with fail;go_ret;exact⟨by rw[HI.out,decide_eq_true h];rfl,aO _⟩
  ·have h': ¬(a.length:Int)<=i:=by omega
   have hix:=fun w=>l9 a i (by omega) w;have hg:a.getD i 0=a[i]'(by omega):=by rw[bM,aL (by omega)];rfl
   have HI:=G (show jb (some (c,a)) i=(a.getD i 0==105) by rw[HI.out,decide_eq_false h];rfl);rw[<-hg]at hix;generalize a.getD i 0=q at*
   have HE:=G (show((q.toNat:Int)==105)=(q==105) by
    by_cases e:q=105
    ·subst e;rfl
    ·have: ¬(q.toNat:Int)=105:=fun h=>e (UInt8.toNat_inj.1 (by have:(105:UInt8).toNat=105:=rfl;omega))
     rw[beq_eq_false_iff_ne.2 this,beq_eq_false_iff_ne.2 e])
   clear hg;go_enter func55,ntmps55;go_wp2_with fail;go_ret;exact⟨by rw[HI.out,<-HE.out];rfl,aO _⟩
theorem qJ: ∀(l:List Ex) (m:Nat),m<=gd m l
 | [],m=>by rw[gd];exact ag _
 |y::r,m=>by rw[gd];have:=qJ r (max m (cN y));omega
theorem qL (lg:Bool): ∀(l:List Ex) (i m:Nat),m<=eQ lg i m l
 | [],i,m=>by rw[eQ];exact ag _
 |y::r,i,m=>by rw[eQ];have:=qL lg r (i+1) (max m (if 0<i/\lg=false then cN y+1 else cN y));omega
theorem nL (b:Bi): ∀(l:List Ex) (i fr m:Nat),m<=ep b i fr m l
 | [],i,fr,m=>by rw[ep];exact ag _
 |y::r,i,fr,m=>by
  rw[ep];split
  ·have:=nL b r (i+1) (fr+1) (max m (fr+cN y));omega
  ·exact nL b r (i+1) fr m
mutual
theorem gO: ∀x:Ex,cN x<=x.wt
 | .mk k op nm tx v a=>by
  have h1:=qI a 1;have h2:=qK (qR op) a 0 1;have h3:=nK (dR nm) a 0 0 1;rw[cN,Ex.wt];repeat' split
  all_goals omega
theorem qI: ∀(l:List Ex) (m:Nat),gd m l<=max m (fF l)
 | [],m=>by rw[gd];omega
 |y::r,m=>by
  rw[gd,fF];have:=qI r (max m (cN y));have:=gO y;omega
theorem qK (lg:Bool): ∀(l:List Ex) (i m:Nat),eQ lg i m l<=max m (fF l+1)
 | [],i,m=>by rw[eQ];omega
 |y::r,i,m=>by
  rw[eQ,fF];have h1:=qK lg r (i+1) (max m (if 0<i/\lg=false then cN y+1 else cN y));have h2:=gO y;have h3:(if 0<i/\lg=false then cN y+1 else cN y)<=cN y+1:=by split<;>omega
  have h4:y.wt=1+y.op.length+y.nm.length+y.tx.length+fF y.args:=y.wt_eq;omega
theorem nK (b:Bi): ∀(l:List Ex) (i fr m:Nat),ep b i fr m l<=max m (fr+fF l)
 | [],i,fr,m=>by rw[ep];omega
 |y::r,i,fr,m=>by
  rw[ep,fF];have h2:=gO y;have h4:y.wt=1+y.op.length+y.nm.length+y.tx.length+fF y.args:=y.wt_eq;split
  ·have:=nK b r (i+1) (fr+1) (max m (fr+cN y));omega
  ·have:=nK b r (i+1) fr m;omega
end
def Ah (x:Ex):Prop:= ∀(P:Nat->Prop) (w:World) (A:Option Addr) (n c:Nat),cu w P (.slice A n c) x.args->BT w->
 Calls prog 26 #[.agg #[.int .i64 x.k, .string (ah x.op), .string (ah x.nm), .string (ah x.tx), .int .i64 x.v, .slice A n c]] w fun e w'=>e= .returned (.int .i64 (cN x:Int))/\au w w'
theorem sk {l:List Ex} {j m:Nat} (h:j<l.length):gd m (l.drop j)=gd (max m (cN l[j])) (l.drop (j+1)):=by
 rw[aw h,gd]
theorem sq {lg:Bool} {l:List Ex} {i j m:Nat} (h:j<l.length):eQ lg i m (l.drop j)=eQ lg (i+1) (max m (if 0<i/\lg=false then cN l[j]+1 else cN l[j])) (l.drop (j+1)):=by
 rw[aw h,eQ]
theorem sm {b:Bi} {l:List Ex} {i j fr m:Nat} (h:j<l.length):ep b i fr m (l.drop j)=if jb b i=true then ep b (i+1) (fr+1) (max m (fr+cN l[j])) (l.drop (j+1))else ep b (i+1) fr m (l.drop (j+1)):=by
 rw[aw h,ep]
theorem Be (k:Int) (hk:k=4\/k=6) (op nm tx:List UInt8) (v:Int) (xs:List Ex) (hw:(Ex.mk k op nm tx v xs).wt<=1073741824) (hIH: ∀y∈xs,Ah y):Ah (.mk k op nm tx v xs):=by
 intro P w A n c hR hT;have HRs:=G (show cN (.mk k op nm tx v xs)=gd 1 xs by rw[cN,if_pos hk]);have hb:gd 1 xs<=1073741824:=by have:=gO (.mk k op nm tx v xs);rw[HRs.out]at this;omega
 have hnl:=dw xs;rw[Ex.wt]at hw;simp only[Ex.k,Ex.op,Ex.nm,Ex.tx,Ex.v,Ex.args]at*;obtain⟨A',c',hv,hf⟩:=hR.form;injection hv with hv1 hv2 hv3;subst hv1 hv2 hv3;have HR:=G hR;have HI:=G hIH;have HT:=G hT;obtain⟨N,hN⟩: ∃N,xs.length=N:=⟨_,rfl⟩
 have hNb:N<=1073741824:=by omega
 have HN:=G hN;rw[hN]at HR;have HE0:=G (I w (.cells #[.int .i64 k, .string (ah op), .string (ah nm), .string (ah tx), .int .i64 v, .slice A N c] 70));obtain⟨Rv,hRv⟩: ∃R,gd 1 xs=R:=⟨_,rfl⟩
 rw[hRv]at hb HRs;have HQ0:=G (show gd 1 (xs.drop 0)=Rv from hRv);clear hR hf hIH hT hw hRv hnl;rw[hN];clear hN;rcases hk with rfl|rfl;all_goals
  go_enter func26,ntmps26;go_wp2_with fail
  go_loopw [3,23] (fun vm vi wr=> ∃(j m:Nat),vi= .int .i64 (j:Int)/\vm= .int .i64 (m:Int)/\j<=N/\Hid (gd m (xs.drop j)=Rv)/\Hid (au w wr)) (fun _ vi _=>N-(intOf vi).toNat)
  case atStart=>exact⟨0,1,rfl,rfl,aF _,HQ0,HE0⟩
  case round=>
   obtain⟨j,m,rfl,rfl,hj,HQ,HX⟩:=hrel;have hm:m<=1073741824:=by have:=qJ (xs.drop j) m;rw[HQ.out]at this;omega
   by_cases hlt:j<N
   ·have hlt':(j:Int)<N:=by omega
    have hjl:j<xs.length:=by have:=HN.out;omega
    obtain⟨b,o,a,rfl,hb,hP,h0,h1,h2,h3,h4,h5,hRa⟩:=HR.out.at_ j hjl;have HS:=G (sk (m:=m) hjl);have hIy:=HI.out _ (ap hjl);generalize xs[j]=y at*;have e0:=(HX.out.cell b _ hb).trans h0;have e1:=(HX.out.cell b _ hb).trans h1;have e2:=(HX.out.cell b _ hb).trans h2;have e3:=(HX.out.cell b _ hb).trans h3;have e4:=(HX.out.cell b _ hb).trans h4;have e5:=(HX.out.cell b _ hb).trans h5;obtain⟨B,d,rfl,_⟩:=hRa.form;have HRa:=G (hRa.keep (.of_ext HX.out) (Q:=P) (fun b hb _=>hb));have HIy:=G hIy;clear h0 h1 h2 h3 h4 h5 hRa hIy;go_wp2_with (go_at_call 26;refine(HIy.out P _ B _ d (HRa.out.keep (.of_ext (I _ _)) (fun b hb _=>hb)) ((HT.out.ext HX.out).ext (I _ _))).mono ?_;rintro e w3 ⟨rfl,hE⟩;have HY:=G ((HX.out.alloc' _).trans hE);clear hE);go_roundw
    case rel=>exact⟨j+1,max m (cN y),by go_num,by congr 1;omega,by omega,G (HS.out.symm.trans HQ.out),HY⟩
    case measure=>simp[intOf];omega
   ·have hlt': ¬(j:Int)<N:=by omega
    have HM:=G (show m=Rv by
     have:=HQ.out;rw[aD (by have:=HN.out;omega),gd]at this
     exact this)
    go_wp2_with fail;go_ret;exact⟨by rw[HRs.out,<-HM.out];rfl,HX.out⟩
theorem Bd (op nm tx:List UInt8) (v:Int) (xs:List Ex) (hw:(Ex.mk 7 op nm tx v xs).wt<=1073741824) (hIH: ∀y∈xs,Ah y):Ah (.mk 7 op nm tx v xs):=by
 intro P w A n c hR hT;have HRs:=G (show cN (.mk 7 op nm tx v xs)=eQ (qR op) 0 1 xs by rw[cN,if_neg (by decide),if_pos rfl]);have hb:eQ (qR op) 0 1 xs<=1073741824:=by have:=gO (.mk 7 op nm tx v xs);rw[HRs.out]at this;omega
 have hnl:=dw xs;rw[Ex.wt]at hw;have hwl:fF xs<=1073741823:=by omega
 simp only[Ex.k,Ex.op,Ex.nm,Ex.tx,Ex.v,Ex.args]at*;obtain⟨A',c',hv,hf⟩:=hR.form;injection hv with hv1 hv2 hv3;subst hv1 hv2 hv3;have HR:=G hR;have HI:=G hIH;have HT:=G hT;obtain⟨N,hN⟩: ∃N,xs.length=N:=⟨_,rfl⟩
 have hNb:N<=1073741824:=by omega
 have HN:=G hN;rw[hN]at HR;have HE0:=G (I w (.cells #[.int .i64 7, .string (ah op), .string (ah nm), .string (ah tx), .int .i64 v, .slice A N c] 70));have HB0:=G (am w 70 #[.int .i64 7, .string (ah op), .string (ah nm), .string (ah tx), .int .i64 v, .slice A N c]);obtain⟨Rv,hRv⟩: ∃R,eQ (qR op) 0 1 xs=R:=⟨_,rfl⟩
 rw[hRv]at hb HRs;have HQ0:=G (show eQ (qR op) 0 1 (xs.drop 0)=Rv from hRv);clear hR hf hIH hT hw hRv hnl;rw[hN];clear hN;obtain⟨lg,hlg⟩: ∃b,qR op=b:=⟨_,rfl⟩
 rw[hlg]at HQ0;have HL:=G (show(op==[38,38]||op==[124,124])=lg from hlg);clear hlg
 cases h1:(op==[38,38])<;>cases h2:(op==[124,124]);all_goals
  rw[h1,h2]at HL;have HLG:=G HL.out.symm;simp only[Bool.or_true,kF,Bool.true_or,iH]at HLG;have n1:=congrArg (!·) h1;have n2:=congrArg (!·) h2;change(op !=[38,38])=_ at n1;change(op !=[124,124])=_ at n2;simp only[Bool.not_true,Bool.not_false]at n1 n2;clear HL;go_enter func26,ntmps26;go_wp2_with fail
  go_loopw [3,37] (fun vm vi wr=> ∃(j m:Nat),vi= .int .i64 (j:Int)/\vm= .int .i64 (m:Int)/\j<=N/\Hid (eQ lg j m (xs.drop j)=Rv)/\Hid (au w wr)/\Hid (aQ wr w.heap.size 70 #[.int .i64 7, .string (ah op), .string (ah nm), .string (ah tx), .int .i64 v, .slice A N c])) (fun _ vi _=>N-(intOf vi).toNat)
  case atStart=>exact⟨0,1,rfl,rfl,aF _,HQ0,HE0,HB0⟩
  case round=>
   obtain⟨j,m,rfl,rfl,hj,HQ,HX,HB⟩:=hrel;have hm:m<=1073741824:=by have:=qL lg (xs.drop j) j m;rw[HQ.out]at this;omega
   by_cases hlt:j<N
   ·have hlt':(j:Int)<N:=by omega
    have hjl:j<xs.length:=by have:=HN.out;omega
    obtain⟨b,o,a,rfl,hb,hP,h0,h1,h2,h3,h4,h5,hRa⟩:=HR.out.at_ j hjl;have HS:=G (sq (lg:=lg) (i:=j) (m:=m) hjl);have hyb:=gO xs[j];have hyw:=dE (ap hjl);have hIy:=HI.out _ (ap hjl);generalize xs[j]=y at*;have e0:=(HX.out.cell b _ hb).trans h0;have e1:=(HX.out.cell b _ hb).trans h1;have e2:=(HX.out.cell b _ hb).trans h2;have e3:=(HX.out.cell b _ hb).trans h3;have e4:=(HX.out.cell b _ hb).trans h4;have e5:=(HX.out.cell b _ hb).trans h5;obtain⟨B,d,rfl,_⟩:=hRa.form;have HRa:=G (hRa.keep (.of_ext HX.out) (Q:=P) (fun b hb _=>hb));have HIy:=G hIy;clear h0 h1 h2 h3 h4 h5 hRa hIy;have hnb:cN y<=1073741823:=by omega
    by_cases hj0:j=0
    ·subst hj0;simp only[a_,br]at e0 e1 e2 e3 e4 e5;go_wp2_with (go_at_call 26;refine(HIy.out P _ B _ d (HRa.out.keep (.of_ext (I _ _)) (fun b hb _=>hb)) ((HT.out.ext HX.out).ext (I _ _))).mono ?_;rintro e w3 ⟨rfl,hE⟩;have HY:=G ((HX.out.alloc' _).trans hE);have HBY:=G ((HB.out.ext (I _ _)).ext hE);have fc:=HBY.out.cell;clear hE);go_roundw
     case rel=>exact⟨1,max m (cN y),by go_num,by congr 1;omega,by omega,G ((by rw[HS.out,if_neg (by simp)]:eQ lg 0 m (xs.drop 0)=eQ lg 1 (max m (cN y)) (xs.drop 1)).symm.trans HQ.out),HY,HBY⟩
     case measure=>simp[intOf];omega
    ·have hj0':(0:Int)<j:=by omega
     go_wp2_with (go_at_call 26;refine(HIy.out P _ B _ d (HRa.out.keep (.of_ext (I _ _)) (fun b hb _=>hb)) ((HT.out.ext HX.out).ext (I _ _))).mono ?_;rintro e w3 ⟨rfl,hE⟩;have HY:=G ((HX.out.alloc' _).trans hE);have HBY:=G ((HB.out.ext (I _ _)).ext hE);have fc:=HBY.out.cell;clear hE);go_roundw
     case rel=>first|exact⟨j+1,max m (cN y+1),by go_num,by congr 1;omega,by omega,G ((by rw[HS.out,if_pos ⟨by omega,HLG.out⟩]:eQ lg j m (xs.drop j)=eQ lg (j+1) (max m (cN y+1)) (xs.drop (j+1))).symm.trans HQ.out),HY,HBY⟩|exact⟨j+1,max m (cN y),by go_num,by congr 1;omega,by omega,G ((by rw[HS.out,if_neg (by rw[HLG.out];simp)]:eQ lg j m (xs.drop j)=eQ lg (j+1) (max m (cN y)) (xs.drop (j+1))).symm.trans HQ.out),HY,HBY⟩
     case measure=>simp[intOf];omega
   ·have hlt': ¬(j:Int)<N:=by omega
    have HM:=G (show m=Rv by
     have:=HQ.out;rw[aD (by have:=HN.out;omega),eQ]at this
     exact this)
    go_wp2_with fail;go_ret;exact⟨by rw[HRs.out,<-HM.out];rfl,HX.out⟩
end
section
open Go.RowKit
def DD (b:Bi):Int:=match b with
 |none=>0
 |some (c,_)=>c
theorem yd (s:List UInt8) (w:World) (h:BT w):Calls prog 22 #[.string (ah s)] w fun e w'=>e= .returned (.tuple #[.int .i64 (DD (dR s)), .string (ah (z7 (dR s))), .bool (dR s).isSome])/\au w w':=by
 refine(kt s w h).mono fun e w' ⟨he,hE⟩=>⟨?_,hE⟩
 rw[he]
 cases dR s<;>rfl
theorem Bw: ∀x∈o7,x.2.2.length<=3:=by decide
theorem qa (s:List UInt8):(z7 (dR s)).length<=3:=by
 cases h:dR s with
 |none=>simp[z7]
 |some x=>
  unfold dR at h;rw[eB]at h;obtain⟨y,hy,rfl⟩:=h;exact Bw y (bR hy)
theorem Bc (op nm tx:List UInt8) (v:Int) (xs:List Ex) (hw:(Ex.mk 5 op nm tx v xs).wt<=1073741824) (hIH: ∀y∈xs,Ah y):Ah (.mk 5 op nm tx v xs):=by
 intro P w A n c hR hT;have HRs:=G (show cN (.mk 5 op nm tx v xs)=ep (dR nm) 0 0 1 xs by rw[cN,if_neg (by decide),if_neg (by decide),if_pos rfl]);have hb:ep (dR nm) 0 0 1 xs<=1073741824:=by have:=gO (.mk 5 op nm tx v xs);rw[HRs.out]at this;omega
 have hnl:=dw xs;rw[Ex.wt]at hw;have hwl:fF xs<=1073741823:=by omega
 have hbl:=qa nm;simp only[Ex.k,Ex.op,Ex.nm,Ex.tx,Ex.v,Ex.args]at*;obtain⟨A',c',hv,hf⟩:=hR.form;injection hv with hv1 hv2 hv3;subst hv1 hv2 hv3;have HR:=G hR;have HI:=G hIH;have HT:=G hT;obtain⟨N,hN⟩: ∃N,xs.length=N:=⟨_,rfl⟩
 have hNb:N<=1073741823:=by omega
 have HN:=G hN;rw[hN]at HR;have hEA:=I w (.cells #[.int .i64 5, .string (ah op), .string (ah nm), .string (ah tx), .int .i64 v, .slice A N c] 70);have HE0:=G hEA;have HB0:=G (am w 70 #[.int .i64 5, .string (ah op), .string (ah nm), .string (ah tx), .int .i64 v, .slice A N c]);have HBL:=G (yd nm _ (hT.ext hEA));have HIN:=G (fun(i:Nat) (hi:i<=1073741824) (W:World)=>j9 (dR nm) i hi (by omega) W);generalize dR nm=bi at*;generalize z7 bi=ls at*;generalize DD bi=bk at*;generalize bi.isSome=bs at*;obtain⟨Rv,hRv⟩: ∃R,ep bi 0 0 1 xs=R:=⟨_,rfl⟩
 rw[hRv]at hb HRs;have HQ0:=G (show ep bi 0 0 1 (xs.drop 0)=Rv from hRv);clear hR hf hIH hT hw hRv hnl hEA hbl;rw[hN];clear hN;go_enter func26,ntmps26;go_wp2_with (go_at_call 22;refine HBL.out.mono ?_;rintro e w1 ⟨rfl,hE⟩;have HX0:=G (HE0.out.trans hE);have f0:=(HB0.out.ext hE).cell;clear hE HBL)
 go_loopw [3,12,74] (fun vm vf vi wr=> ∃(j m fr:Nat),vi= .int .i64 (j:Int)/\vm= .int .i64 (m:Int)/\vf= .int .i64 (fr:Int)/\j<=N/\fr<=j/\Hid (ep bi j fr m (xs.drop j)=Rv)/\Hid (au w wr)) (fun _ _ vi _=>N-(intOf vi).toNat)
 case atStart=>exact⟨0,1,0,rfl,rfl,rfl,aF _,aF _,HQ0,HX0⟩
 case round=>
  obtain⟨j,m,fr,rfl,rfl,rfl,hj,hfr,HQ,HX⟩:=hrel;have hm:m<=1073741824:=by have:=nL bi (xs.drop j) j fr m;rw[HQ.out]at this;omega
  by_cases hlt:j<N
  ·have hlt':(j:Int)<N:=by omega
   have hjl:j<xs.length:=by have:=HN.out;omega
   obtain⟨b,o,a,rfl,hb,hP,h0,h1,h2,h3,h4,h5,hRa⟩:=HR.out.at_ j hjl;have HS:=G (sm (b:=bi) (i:=j) (fr:=fr) (m:=m) hjl);have hyb:=gO xs[j];have hyw:=dE (ap hjl);have hIy:=HI.out _ (ap hjl);generalize xs[j]=y at*;have HIN1:=G (HIN.out j (by omega));have e0:=(HX.out.cell b _ hb).trans h0;have e1:=(HX.out.cell b _ hb).trans h1;have e2:=(HX.out.cell b _ hb).trans h2;have e3:=(HX.out.cell b _ hb).trans h3;have e4:=(HX.out.cell b _ hb).trans h4;have e5:=(HX.out.cell b _ hb).trans h5;obtain⟨B,d,rfl,_⟩:=hRa.form;have HRa:=G (hRa.keep (.of_ext HX.out) (Q:=P) (fun b hb _=>hb));have HIy:=G hIy;have hnb:cN y<=1073741823:=by omega
   have HB1:=G (am wr 70 #[.int .i64 y.k, .string (ah y.op), .string (ah y.nm), .string (ah y.tx), .int .i64 y.v, .slice B y.args.length d]);have HX1:=G (HX.out.alloc' (.cells #[.int .i64 y.k, .string (ah y.op), .string (ah y.nm), .string (ah y.tx), .int .i64 y.v, .slice B y.args.length d] 70));clear h0 h1 h2 h3 h4 h5 hRa hIy hyb hyw
   cases hia:jb bi j with
   |true=>
    rw[hia]at HS HIN1;go_wp2_with (first|(go_at_call 55;refine(HIN1.out _).mono ?_;rintro e w2 ⟨rfl,hE⟩;have HX2:=G (HX1.out.trans hE);have HE2:=G hE;have f1:=(HB1.out.ext hE).cell;clear hE HIN1)|(go_at_call 26;refine(HIy.out P _ B _ d ((HRa.out.keep (.of_ext (I _ _)) (fun b hb _=>hb)).keep (.of_ext HE2.out) (fun b hb _=>hb)) (HT.out.ext HX2.out)).mono ?_;rintro e w3 ⟨rfl,hE⟩;have HY:=G (HX2.out.trans hE);clear hE f1));go_roundw
    case rel=>exact⟨j+1,max m (fr+cN y),fr+1,by go_num,by congr 1;omega,by go_num,by omega,by omega,G ((by rw[HS.out,if_pos trivial]:ep bi j fr m (xs.drop j)=ep bi (j+1) (fr+1) (max m (fr+cN y)) (xs.drop (j+1))).symm.trans HQ.out),HY⟩
    case measure=>simp[intOf];omega
   |false=>
    rw[hia]at HS HIN1;go_wp2_with (go_at_call 55;refine(HIN1.out _).mono ?_;rintro e w2 ⟨rfl,hE⟩;have HX2:=G (HX1.out.trans hE);clear hE HIN1);go_roundw
    case rel=>exact⟨j+1,m,fr,by go_num,rfl,rfl,by omega,by omega,G ((by rw[HS.out,if_neg (by simp)]:ep bi j fr m (xs.drop j)=ep bi (j+1) fr m (xs.drop (j+1))).symm.trans HQ.out),HX2⟩
    case measure=>simp[intOf];omega
  ·have hlt': ¬(j:Int)<N:=by omega
   have HM:=G (show m=Rv by
    have:=HQ.out;rw[aD (by have:=HN.out;omega),ep]at this
    exact this)
   go_wp2_with fail;go_ret;exact⟨by rw[HRs.out,<-HM.out];rfl,HX.out⟩
theorem Bb (k:Int) (h4:(k==4)=false) (h6:(k==6)=false) (h7:(k==7)=false) (h5:(k==5)=false) (op nm tx:List UInt8) (v:Int) (xs:List Ex):Ah (.mk k op nm tx v xs):=by
 intro P w A n c hR hT
 have HRs:=G (show cN (.mk k op nm tx v xs)=1 by
  rw[cN,if_neg (by simp only[beq_eq_false_iff_ne]at h4 h6;omega),if_neg (by simpa using h7),if_neg (by simpa using h5)])
 have HE0:=G (I w (.cells #[.int .i64 k, .string (ah op), .string (ah nm), .string (ah tx), .int .i64 v, .slice A n c] 70));simp only[Ex.k,Ex.op,Ex.nm,Ex.tx,Ex.v,Ex.args]at*;clear hR hT;go_enter func26,ntmps26;go_wp2_with fail;go_ret;exact⟨by rw[HRs.out];rfl,HE0.out⟩
theorem oD: ∀(m:Nat) (x:Ex),x.wt<=m->x.wt<=1073741824->Ah x
 |0,x,h,_=>absurd h (by have:=x.wt_eq;omega)
 |m+1, .mk k op nm tx v xs,h,hw=>by
  have hIH: ∀y∈xs,Ah y:=fun y hy=>oD m y (by have:=dE hy;rw[Ex.wt]at h;omega) (by have:=dE hy;rw[Ex.wt]at hw;omega);by_cases h46:k=4\/k=6
  ·exact Be k h46 op nm tx v xs hw hIH
  by_cases h7:k=7
  ·subst h7;exact Bd op nm tx v xs hw hIH
  by_cases h5:k=5
  ·subst h5;exact Bc op nm tx v xs hw hIH
  exact Bb k (beq_eq_false_iff_ne.2 (by omega)) (beq_eq_false_iff_ne.2 (by omega)) (beq_eq_false_iff_ne.2 h7) (beq_eq_false_iff_ne.2 h5) op nm tx v xs
end
section
open Go.RowKit
def BP (x:Ex):Prop:= ∀(X:CB) (gl:Gl) (lv:Value) (lo:Ls) (P:Nat->Prop) (w:World) (A:Option Addr) (n c:Nat),CK X gl lv lo w->cu w P (.slice A n c) x.args->
 Calls prog 156 #[X.p, .agg #[.int .i64 x.k, .string (ah x.op), .string (ah x.nm), .string (ah x.tx), .int .i64 x.v, .slice A n c]] w fun e w'=>e=bU (kK gl lo x)/\au w w'
def Ak (xs:List Ex):Prop:= ∀(X:CB) (gl:Gl) (lv:Value) (lo:Ls) (P:Nat->Prop) (w:World) (A:Option Addr) (n c:Nat),CK X gl lv lo w->cu w P (.slice A n c) xs->
 Calls prog 121 #[X.p, .slice A n c] w fun e w'=>e=bU (lR gl lo xs)/\au w w'
theorem xV {gl:Gl} {lo:Ls} {l:List Ex} {j:Nat} (h:j<l.length):lR gl lo (l.drop j)=CR.then (kK gl lo l[j]) fun _=>lR gl lo (l.drop (j+1)):=by
 rw[aw h,lR]
theorem oX (xs:List Ex) (hl:xs.length<=1073741824) (hIH: ∀y∈xs,BP y):Ak xs:=by
 intro X gl lv lo P w A n c hK hR;obtain⟨A',c',hv,hf⟩:=hR.form;injection hv with hv1 hv2 hv3;subst hv1 hv2 hv3;have HR:=G hR;have HI:=G hIH;have HK:=G hK;obtain⟨N,hN⟩: ∃N,xs.length=N:=⟨_,rfl⟩
 have HN:=G hN;rw[hN]at HR hl;obtain⟨Rv,hRv⟩: ∃R,lR gl lo xs=R:=⟨_,rfl⟩
 have HRv:=G hRv;have HQ0:=G (show lR gl lo (xs.drop 0)=Rv from hRv);have HE0:=G (aO w);obtain⟨Xp,hXp⟩: ∃p,X.p=p:=⟨_,rfl⟩
 have hXp':Xp= .pointer (some ⟨X.g,0,none⟩):=hXp.symm;clear hR hf hIH hK;rw[hN,hRv];clear hN hRv;subst hXp';simp only[CB.p]at*;clear hXp;go_enter func121,ntmps121;go_wp2_with fail
 go_loopw [8] (fun vi wr=> ∃(j:Nat),vi= .int .i64 (j:Int)/\j<=N/\Hid (lR gl lo (xs.drop j)=Rv)/\Hid (au w wr)) (fun vi _=>N-(intOf vi).toNat)
 case atStart=>exact⟨0,rfl,aF _,HQ0,HE0⟩
 case round=>
  obtain⟨j,rfl,hj,HQ,HX⟩:=hrel;by_cases hlt:j<N
  ·have hlt':(j:Int)<N:=by omega
   have hjl:j<xs.length:=by have:=HN.out;omega
   obtain⟨b,o,a,rfl,hb,hP,h0,h1,h2,h3,h4,h5,hRa⟩:=HR.out.at_ j hjl;have HS:=G (xV (gl:=gl) (lo:=lo) hjl);have hIy:=HI.out _ (ap hjl);generalize xs[j]=y at*;have e0:=(HX.out.cell b _ hb).trans h0;have e1:=(HX.out.cell b _ hb).trans h1;have e2:=(HX.out.cell b _ hb).trans h2;have e3:=(HX.out.cell b _ hb).trans h3;have e4:=(HX.out.cell b _ hb).trans h4;have e5:=(HX.out.cell b _ hb).trans h5;obtain⟨B,d,rfl,_⟩:=hRa.form;have HC:=G (hIy X gl lv lo P _ B _ d ((HK.out.ext HX.out).ext (I _ (.cells #[.int .i64 y.k, .string (ah y.op), .string (ah y.nm), .string (ah y.tx), .int .i64 y.v, .slice B y.args.length d] 70))) ((hRa.keep (.of_ext HX.out) (Q:=P) (fun b hb _=>hb)).keep (.of_ext (I _ _)) (fun b hb _=>hb)));have HX1:=G (HX.out.alloc' (.cells #[.int .i64 y.k, .string (ah y.op), .string (ah y.nm), .string (ah y.tx), .int .i64 y.v, .slice B y.args.length d] 70));clear h0 h1 h2 h3 h4 h5 hRa hIy;generalize kK gl lo y=r at*;simp only[CB.p]at HC
   cases r with
   |ok u=>
    go_wp2_with (go_at_call 156;refine HC.out.mono ?_;unfold bU;rintro e w3 ⟨rfl,hE⟩;have HY:=G (HX1.out.trans hE);clear hE HC);go_roundw
    case rel=>exact⟨j+1,by go_num,by omega,G (HS.out.symm.trans HQ.out),HY⟩
    case measure=>simp[intOf];omega
   |error q=>
    obtain⟨nm,n⟩:=q;have HF:=G (show Rv= .error (nm,n)from HQ.out.symm.trans HS.out);go_wp2_with (go_at_call 156;refine HC.out.mono ?_;unfold bU a7;rintro e w3 ⟨rfl,hE⟩;have HY:=G (HX1.out.trans hE);clear hE HC);exact⟨rfl,by rw[HF.out];rfl,HY.out⟩
  ·have hlt': ¬(j:Int)<N:=by omega
   have HF:=G (show Rv= .ok () by
    have:=HQ.out;rw[aD (by have:=HN.out;omega),lR]at this
    exact this.symm)
   go_wp2_with fail;exact bodyPost_end (results_none rfl _ _ _) rfl ⟨by rw[HF.out];rfl,HX.out⟩
end
end Go.Proofs.YtddomeddabfinaaGreatDoor
