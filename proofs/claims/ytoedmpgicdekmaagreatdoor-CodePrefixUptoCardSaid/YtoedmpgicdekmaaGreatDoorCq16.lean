/-
  Parts of the proof: TyC TyD TyE TyT TyU TyF TyG TyH TyI ParZ OwnQ TyJ.
-/
import Derived.Test.YtoedmpgicdekmaaGreatDoorCq00
import Derived.Test.YtoedmpgicdekmaaGreatDoorCq15
import Derived.Test.YtoedmpgicdekmaaGreatDoorCq08
import Derived.Test.YtoedmpgicdekmaaGreatDoorCq14
import Derived.Test.YtoedmpgicdekmaaGreatDoorCq01
import Derived.LoopN
import Derived.Test.YtoedmpgicdekmaaGreatDoorCq06
set_option maxRecDepth 100000
set_option maxHeartbeats 8000000
set_option linter.unusedVariables false
set_option linter.unusedSimpArgs false
set_option linter.unusedSectionVars false
namespace Go.Proofs.YtoedmpgicdekmaaGreatDoor
open Go.Proofs.Tryz
section
open Go.RowKit
theorem kv (a:List UInt8) (i:Nat) (h:i<a.length) (w:World):(Instr.index 9 (.string (an a)) (.int .i64 (i:Int))).run prog w= .ok (.int .u8 (a[i].toNat:Int)) w:=by
 have h3:(an a)[i]? =some a[i]:=by
  have h2:i<(an a).size:=by rw[aU];exact h
  rw[getElem?_pos (an a) i h2];rfl
 simp[Instr.index,run_underlying underlying9,asIntOf,h3]
def Cb (b:Bi):List UInt8:=match b with
 |none=>[]
 |some (_,a)=>a
theorem kh (b:Bi) (i:Nat) (hi:i<=1073741824) (hl:(Cb b).length<=1073741824) (w:World):Calls prog 177 #[.string (an (Cb b)), .bool b.isSome, .int .i64 (i:Int)] w fun e w'=>e= .returned (.bool (lQ b i))/\au w w':=by
 cases b with
 |none=>
  have HI:=G (show lQ none i=true from rfl);simp only[dr];go_enter func177,ntmps177;go_wp2_with fail;go_ret;exact⟨by rw[HI.out];rfl,aG _⟩
 |some x=>
  obtain⟨c,a⟩:=x;have HI:=G (show lQ (some (c,a)) i=(decide (a.length<=i)||a.getD i 0==105)from rfl);simp only[Cb,cX]at*;have hsz:=aU a;by_cases h:a.length<=i
  ·have h':(a.length:Int)<=i:=by omega
   go_enter func177,ntmps177;go_wp2_with fail;go_ret;exact⟨by rw[HI.out,decide_eq_true h];rfl,aG _⟩
  ·have h': ¬(a.length:Int)<=i:=by omega
   have hix:=fun w=>kv a i (by omega) w;have hg:a.getD i 0=a[i]'(by omega):=by rw[bI,aD (by omega)];rfl
   have HI:=G (show lQ (some (c,a)) i=(a.getD i 0==105) by rw[HI.out,decide_eq_false h];rfl);rw[<-hg]at hix;generalize a.getD i 0=q at*
   have HE:=G (show((q.toNat:Int)==105)=(q==105) by
    by_cases e:q=105
    ·subst e;rfl
    ·have: ¬(q.toNat:Int)=105:=fun h=>e (UInt8.toNat_inj.1 (by have:(105:UInt8).toNat=105:=rfl;omega))
     rw[beq_eq_false_iff_ne.2 this,beq_eq_false_iff_ne.2 e])
   clear hg;go_enter func177,ntmps177;go_wp2_with fail;go_ret;exact⟨by rw[HI.out,<-HE.out];rfl,aG _⟩
theorem sd: ∀(l:List Ex) (m:Nat),m<=gI m l
 | [],m=>by rw[gI];exact ah _
 |y::r,m=>by rw[gI];have:=sd r (max m (dJ y));omega
theorem sg (lg:Bool): ∀(l:List Ex) (i m:Nat),m<=fi lg i m l
 | [],i,m=>by rw[fi];exact ah _
 |y::r,i,m=>by rw[fi];have:=sg lg r (i+1) (max m (if 0<i/\lg=false then dJ y+1 else dJ y));omega
theorem oh (b:Bi): ∀(l:List Ex) (i fr m:Nat),m<=fh b i fr m l
 | [],i,fr,m=>by rw[fh];exact ah _
 |y::r,i,fr,m=>by
  rw[fh];split
  ·have:=oh b r (i+1) (fr+1) (max m (fr+dJ y));omega
  ·exact oh b r (i+1) fr m
mutual
theorem gZ: ∀x:Ex,dJ x<=x.wt
 | .mk k op nm tx v a=>by
  have h1:=sa a 1;have h2:=se (ui op) a 0 1;have h3:=og (fx nm) a 0 0 1;rw[dJ,Ex.wt];repeat' split
  all_goals omega
theorem sa: ∀(l:List Ex) (m:Nat),gI m l<=max m (jF l)
 | [],m=>by rw[gI];omega
 |y::r,m=>by
  rw[gI,jF];have:=sa r (max m (dJ y));have:=gZ y;omega
theorem se (lg:Bool): ∀(l:List Ex) (i m:Nat),fi lg i m l<=max m (jF l+1)
 | [],i,m=>by rw[fi];omega
 |y::r,i,m=>by
  rw[fi,jF];have h1:=se lg r (i+1) (max m (if 0<i/\lg=false then dJ y+1 else dJ y));have h2:=gZ y;have h3:(if 0<i/\lg=false then dJ y+1 else dJ y)<=dJ y+1:=by split<;>omega
  have h4:y.wt=1+y.op.length+y.nm.length+y.tx.length+jF y.args:=y.wt_eq;omega
theorem og (b:Bi): ∀(l:List Ex) (i fr m:Nat),fh b i fr m l<=max m (fr+jF l)
 | [],i,fr,m=>by rw[fh];omega
 |y::r,i,fr,m=>by
  rw[fh,jF];have h2:=gZ y;have h4:y.wt=1+y.op.length+y.nm.length+y.tx.length+jF y.args:=y.wt_eq;split
  ·have:=og b r (i+1) (fr+1) (max m (fr+dJ y));omega
  ·have:=og b r (i+1) fr m;omega
end
def Ch (x:Ex):Prop:= ∀(P:Nat->Prop) (w:World) (A:Option Addr) (n c:Nat),et w P (.slice A n c) x.args->BT w->
 Calls prog 127 #[.agg #[.int .i64 x.k, .string (an x.op), .string (an x.nm), .string (an x.tx), .int .i64 x.v, .slice A n c]] w fun e w'=>e= .returned (.int .i64 (dJ x:Int))/\au w w'
theorem ua {l:List Ex} {j m:Nat} (h:j<l.length):gI m (l.drop j)=gI (max m (dJ l[j])) (l.drop (j+1)):=by
 rw[am h,gI]
theorem uc {lg:Bool} {l:List Ex} {i j m:Nat} (h:j<l.length):fi lg i m (l.drop j)=fi lg (i+1) (max m (if 0<i/\lg=false then dJ l[j]+1 else dJ l[j])) (l.drop (j+1)):=by
 rw[am h,fi]
theorem ub {b:Bi} {l:List Ex} {i j fr m:Nat} (h:j<l.length):fh b i fr m (l.drop j)=if lQ b i=true then fh b (i+1) (fr+1) (max m (fr+dJ l[j])) (l.drop (j+1))else fh b (i+1) fr m (l.drop (j+1)):=by
 rw[am h,fh]
theorem Dw (k:Int) (hk:k=4\/k=6) (op nm tx:List UInt8) (v:Int) (xs:List Ex) (hw:(Ex.mk k op nm tx v xs).wt<=1073741824) (hIH: ∀y∈xs,Ch y):Ch (.mk k op nm tx v xs):=by
 intro P w A n c hR hT;have HRs:=G (show dJ (.mk k op nm tx v xs)=gI 1 xs by rw[dJ,if_pos hk]);have hb:gI 1 xs<=1073741824:=by have:=gZ (.mk k op nm tx v xs);rw[HRs.out]at this;omega
 have hnl:=dI xs;rw[Ex.wt]at hw;simp only[Ex.k,Ex.op,Ex.nm,Ex.tx,Ex.v,Ex.args]at*;obtain⟨A',c',hv,hf⟩:=hR.form;injection hv with hv1 hv2 hv3;subst hv1 hv2 hv3;have HR:=G hR;have HI:=G hIH;have HT:=G hT;obtain⟨N,hN⟩: ∃N,xs.length=N:=⟨_,rfl⟩
 have hNb:N<=1073741824:=by omega
 have HN:=G hN;rw[hN]at HR;have HE0:=G (aa w (.cells #[.int .i64 k, .string (an op), .string (an nm), .string (an tx), .int .i64 v, .slice A N c] 206));obtain⟨Rv,hRv⟩: ∃R,gI 1 xs=R:=⟨_,rfl⟩
 rw[hRv]at hb HRs;have HQ0:=G (show gI 1 (xs.drop 0)=Rv from hRv);clear hR hf hIH hT hw hRv hnl;rw[hN];clear hN;rcases hk with rfl|rfl;all_goals
  go_enter func127,ntmps127;go_wp2_with fail
  go_loopw [3,23] (fun vm vi wr=> ∃(j m:Nat),vi= .int .i64 (j:Int)/\vm= .int .i64 (m:Int)/\j<=N/\Hid (gI m (xs.drop j)=Rv)/\Hid (au w wr)) (fun _ vi _=>N-(intOf vi).toNat)
  case atStart=>exact⟨0,1,rfl,rfl,aC _,HQ0,HE0⟩
  case round=>
   obtain⟨j,m,rfl,rfl,hj,HQ,HX⟩:=hrel;have hm:m<=1073741824:=by have:=sd (xs.drop j) m;rw[HQ.out]at this;omega
   by_cases hlt:j<N
   ·have hlt':(j:Int)<N:=by omega
    have hjl:j<xs.length:=by have:=HN.out;omega
    obtain⟨b,o,a,rfl,hb,hP,h0,h1,h2,h3,h4,h5,hRa⟩:=HR.out.at_ j hjl;have HS:=G (ua (m:=m) hjl);have hIy:=HI.out _ (ap hjl);generalize xs[j]=y at*;have e0:=(HX.out.cell b _ hb).trans h0;have e1:=(HX.out.cell b _ hb).trans h1;have e2:=(HX.out.cell b _ hb).trans h2;have e3:=(HX.out.cell b _ hb).trans h3;have e4:=(HX.out.cell b _ hb).trans h4;have e5:=(HX.out.cell b _ hb).trans h5;obtain⟨B,d,rfl,_⟩:=hRa.form;have HRa:=G (hRa.keep (.of_ext HX.out) (Q:=P) (fun b hb _=>hb));have HIy:=G hIy;clear h0 h1 h2 h3 h4 h5 hRa hIy;go_wp2_with (go_at_call 127;refine(HIy.out P _ B _ d (HRa.out.keep (.of_ext (aa _ _)) (fun b hb _=>hb)) ((HT.out.ext HX.out).ext (aa _ _))).mono ?_;rintro e w3 ⟨rfl,hE⟩;have HY:=G ((HX.out.alloc' _).trans hE);clear hE);go_roundw
    case rel=>exact⟨j+1,max m (dJ y),by go_num,by congr 1;omega,by omega,G (HS.out.symm.trans HQ.out),HY⟩
    case measure=>simp[intOf];omega
   ·have hlt': ¬(j:Int)<N:=by omega
    have HM:=G (show m=Rv by
     have:=HQ.out;rw[aI (by have:=HN.out;omega),gI]at this
     exact this)
    go_wp2_with fail;go_ret;exact⟨by rw[HRs.out,<-HM.out];rfl,HX.out⟩
theorem Dv (op nm tx:List UInt8) (v:Int) (xs:List Ex) (hw:(Ex.mk 7 op nm tx v xs).wt<=1073741824) (hIH: ∀y∈xs,Ch y):Ch (.mk 7 op nm tx v xs):=by
 intro P w A n c hR hT;have HRs:=G (show dJ (.mk 7 op nm tx v xs)=fi (ui op) 0 1 xs by rw[dJ,if_neg (by decide),if_pos rfl]);have hb:fi (ui op) 0 1 xs<=1073741824:=by have:=gZ (.mk 7 op nm tx v xs);rw[HRs.out]at this;omega
 have hnl:=dI xs;rw[Ex.wt]at hw;have hwl:jF xs<=1073741823:=by omega
 simp only[Ex.k,Ex.op,Ex.nm,Ex.tx,Ex.v,Ex.args]at*;obtain⟨A',c',hv,hf⟩:=hR.form;injection hv with hv1 hv2 hv3;subst hv1 hv2 hv3;have HR:=G hR;have HI:=G hIH;have HT:=G hT;obtain⟨N,hN⟩: ∃N,xs.length=N:=⟨_,rfl⟩
 have hNb:N<=1073741824:=by omega
 have HN:=G hN;rw[hN]at HR;have HE0:=G (aa w (.cells #[.int .i64 7, .string (an op), .string (an nm), .string (an tx), .int .i64 v, .slice A N c] 206));have HB0:=G (aw w 206 #[.int .i64 7, .string (an op), .string (an nm), .string (an tx), .int .i64 v, .slice A N c]);obtain⟨Rv,hRv⟩: ∃R,fi (ui op) 0 1 xs=R:=⟨_,rfl⟩
 rw[hRv]at hb HRs;have HQ0:=G (show fi (ui op) 0 1 (xs.drop 0)=Rv from hRv);clear hR hf hIH hT hw hRv hnl;rw[hN];clear hN;obtain⟨lg,hlg⟩: ∃b,ui op=b:=⟨_,rfl⟩
 rw[hlg]at HQ0;have HL:=G (show(op==[38,38]||op==[124,124])=lg from hlg);clear hlg
 cases h1:(op==[38,38])<;>cases h2:(op==[124,124]);all_goals
  rw[h1,h2]at HL;have HLG:=G HL.out.symm;simp only[Bool.or_true,kT,Bool.true_or,Bool.false_or]at HLG;have n1:=congrArg (!·) h1;have n2:=congrArg (!·) h2;change(op !=[38,38])=_ at n1;change(op !=[124,124])=_ at n2;simp only[Bool.not_true,Bool.not_false]at n1 n2;clear HL;go_enter func127,ntmps127;go_wp2_with fail
  go_loopw [3,37] (fun vm vi wr=> ∃(j m:Nat),vi= .int .i64 (j:Int)/\vm= .int .i64 (m:Int)/\j<=N/\Hid (fi lg j m (xs.drop j)=Rv)/\Hid (au w wr)/\Hid (aP wr w.heap.size 206 #[.int .i64 7, .string (an op), .string (an nm), .string (an tx), .int .i64 v, .slice A N c])) (fun _ vi _=>N-(intOf vi).toNat)
  case atStart=>exact⟨0,1,rfl,rfl,aC _,HQ0,HE0,HB0⟩
  case round=>
   obtain⟨j,m,rfl,rfl,hj,HQ,HX,HB⟩:=hrel;have hm:m<=1073741824:=by have:=sg lg (xs.drop j) j m;rw[HQ.out]at this;omega
   by_cases hlt:j<N
   ·have hlt':(j:Int)<N:=by omega
    have hjl:j<xs.length:=by have:=HN.out;omega
    obtain⟨b,o,a,rfl,hb,hP,h0,h1,h2,h3,h4,h5,hRa⟩:=HR.out.at_ j hjl;have HS:=G (uc (lg:=lg) (i:=j) (m:=m) hjl);have hyb:=gZ xs[j];have hyw:=dO (ap hjl);have hIy:=HI.out _ (ap hjl);generalize xs[j]=y at*;have e0:=(HX.out.cell b _ hb).trans h0;have e1:=(HX.out.cell b _ hb).trans h1;have e2:=(HX.out.cell b _ hb).trans h2;have e3:=(HX.out.cell b _ hb).trans h3;have e4:=(HX.out.cell b _ hb).trans h4;have e5:=(HX.out.cell b _ hb).trans h5;obtain⟨B,d,rfl,_⟩:=hRa.form;have HRa:=G (hRa.keep (.of_ext HX.out) (Q:=P) (fun b hb _=>hb));have HIy:=G hIy;clear h0 h1 h2 h3 h4 h5 hRa hIy;have hnb:dJ y<=1073741823:=by omega
    by_cases hj0:j=0
    ·subst hj0;simp only[aV,a7]at e0 e1 e2 e3 e4 e5;go_wp2_with (go_at_call 127;refine(HIy.out P _ B _ d (HRa.out.keep (.of_ext (aa _ _)) (fun b hb _=>hb)) ((HT.out.ext HX.out).ext (aa _ _))).mono ?_;rintro e w3 ⟨rfl,hE⟩;have HY:=G ((HX.out.alloc' _).trans hE);have HBY:=G ((HB.out.ext (aa _ _)).ext hE);have fc:=HBY.out.cell;clear hE);go_roundw
     case rel=>exact⟨1,max m (dJ y),by go_num,by congr 1;omega,by omega,G ((by rw[HS.out,if_neg (by simp)]:fi lg 0 m (xs.drop 0)=fi lg 1 (max m (dJ y)) (xs.drop 1)).symm.trans HQ.out),HY,HBY⟩
     case measure=>simp[intOf];omega
    ·have hj0':(0:Int)<j:=by omega
     go_wp2_with (go_at_call 127;refine(HIy.out P _ B _ d (HRa.out.keep (.of_ext (aa _ _)) (fun b hb _=>hb)) ((HT.out.ext HX.out).ext (aa _ _))).mono ?_;rintro e w3 ⟨rfl,hE⟩;have HY:=G ((HX.out.alloc' _).trans hE);have HBY:=G ((HB.out.ext (aa _ _)).ext hE);have fc:=HBY.out.cell;clear hE);go_roundw
     case rel=>first|exact⟨j+1,max m (dJ y+1),by go_num,by congr 1;omega,by omega,G ((by rw[HS.out,if_pos ⟨by omega,HLG.out⟩]:fi lg j m (xs.drop j)=fi lg (j+1) (max m (dJ y+1)) (xs.drop (j+1))).symm.trans HQ.out),HY,HBY⟩|exact⟨j+1,max m (dJ y),by go_num,by congr 1;omega,by omega,G ((by rw[HS.out,if_neg (by rw[HLG.out];simp)]:fi lg j m (xs.drop j)=fi lg (j+1) (max m (dJ y)) (xs.drop (j+1))).symm.trans HQ.out),HY,HBY⟩
     case measure=>simp[intOf];omega
   ·have hlt': ¬(j:Int)<N:=by omega
    have HM:=G (show m=Rv by
     have:=HQ.out;rw[aI (by have:=HN.out;omega),fi]at this
     exact this)
    go_wp2_with fail;go_ret;exact⟨by rw[HRs.out,<-HM.out];rfl,HX.out⟩
end
section
open Go.RowKit
def GM (b:Bi):Int:=match b with
 |none=>0
 |some (c,_)=>c
theorem Ag (s:List UInt8) (w:World) (h:BT w):Calls prog 175 #[.string (an s)] w fun e w'=>e= .returned (.tuple #[.int .i64 (GM (fx s)), .string (an (Cb (fx s))), .bool (fx s).isSome])/\au w w':=by
 refine(kK s w h).mono fun e w' ⟨he,hE⟩=>⟨?_,hE⟩
 rw[he]
 cases fx s<;>rfl
theorem DU: ∀x∈rm,x.2.2.length<=3:=by decide
theorem vB (s:List UInt8):(Cb (fx s)).length<=3:=by
 cases h:fx s with
 |none=>simp[Cb]
 |some x=>
  unfold fx at h;rw[f7]at h;obtain⟨y,hy,rfl⟩:=h;exact DU y (ed hy)
theorem Du (op nm tx:List UInt8) (v:Int) (xs:List Ex) (hw:(Ex.mk 5 op nm tx v xs).wt<=1073741824) (hIH: ∀y∈xs,Ch y):Ch (.mk 5 op nm tx v xs):=by
 intro P w A n c hR hT;have HRs:=G (show dJ (.mk 5 op nm tx v xs)=fh (fx nm) 0 0 1 xs by rw[dJ,if_neg (by decide),if_neg (by decide),if_pos rfl]);have hb:fh (fx nm) 0 0 1 xs<=1073741824:=by have:=gZ (.mk 5 op nm tx v xs);rw[HRs.out]at this;omega
 have hnl:=dI xs;rw[Ex.wt]at hw;have hwl:jF xs<=1073741823:=by omega
 have hbl:=vB nm;simp only[Ex.k,Ex.op,Ex.nm,Ex.tx,Ex.v,Ex.args]at*;obtain⟨A',c',hv,hf⟩:=hR.form;injection hv with hv1 hv2 hv3;subst hv1 hv2 hv3;have HR:=G hR;have HI:=G hIH;have HT:=G hT;obtain⟨N,hN⟩: ∃N,xs.length=N:=⟨_,rfl⟩
 have hNb:N<=1073741823:=by omega
 have HN:=G hN;rw[hN]at HR;have hEA:=aa w (.cells #[.int .i64 5, .string (an op), .string (an nm), .string (an tx), .int .i64 v, .slice A N c] 206);have HE0:=G hEA;have HB0:=G (aw w 206 #[.int .i64 5, .string (an op), .string (an nm), .string (an tx), .int .i64 v, .slice A N c]);have HBL:=G (Ag nm _ (hT.ext hEA));have HIN:=G (fun(i:Nat) (hi:i<=1073741824) (W:World)=>kh (fx nm) i hi (by omega) W);generalize fx nm=bi at*;generalize Cb bi=ls at*;generalize GM bi=bk at*;generalize bi.isSome=bs at*;obtain⟨Rv,hRv⟩: ∃R,fh bi 0 0 1 xs=R:=⟨_,rfl⟩
 rw[hRv]at hb HRs;have HQ0:=G (show fh bi 0 0 1 (xs.drop 0)=Rv from hRv);clear hR hf hIH hT hw hRv hnl hEA hbl;rw[hN];clear hN;go_enter func127,ntmps127;go_wp2_with (go_at_call 175;refine HBL.out.mono ?_;rintro e w1 ⟨rfl,hE⟩;have HX0:=G (HE0.out.trans hE);have f0:=(HB0.out.ext hE).cell;clear hE HBL)
 go_loopw [3,12,74] (fun vm vf vi wr=> ∃(j m fr:Nat),vi= .int .i64 (j:Int)/\vm= .int .i64 (m:Int)/\vf= .int .i64 (fr:Int)/\j<=N/\fr<=j/\Hid (fh bi j fr m (xs.drop j)=Rv)/\Hid (au w wr)) (fun _ _ vi _=>N-(intOf vi).toNat)
 case atStart=>exact⟨0,1,0,rfl,rfl,rfl,aC _,aC _,HQ0,HX0⟩
 case round=>
  obtain⟨j,m,fr,rfl,rfl,rfl,hj,hfr,HQ,HX⟩:=hrel;have hm:m<=1073741824:=by have:=oh bi (xs.drop j) j fr m;rw[HQ.out]at this;omega
  by_cases hlt:j<N
  ·have hlt':(j:Int)<N:=by omega
   have hjl:j<xs.length:=by have:=HN.out;omega
   obtain⟨b,o,a,rfl,hb,hP,h0,h1,h2,h3,h4,h5,hRa⟩:=HR.out.at_ j hjl;have HS:=G (ub (b:=bi) (i:=j) (fr:=fr) (m:=m) hjl);have hyb:=gZ xs[j];have hyw:=dO (ap hjl);have hIy:=HI.out _ (ap hjl);generalize xs[j]=y at*;have HIN1:=G (HIN.out j (by omega));have e0:=(HX.out.cell b _ hb).trans h0;have e1:=(HX.out.cell b _ hb).trans h1;have e2:=(HX.out.cell b _ hb).trans h2;have e3:=(HX.out.cell b _ hb).trans h3;have e4:=(HX.out.cell b _ hb).trans h4;have e5:=(HX.out.cell b _ hb).trans h5;obtain⟨B,d,rfl,_⟩:=hRa.form;have HRa:=G (hRa.keep (.of_ext HX.out) (Q:=P) (fun b hb _=>hb));have HIy:=G hIy;have hnb:dJ y<=1073741823:=by omega
   have HB1:=G (aw wr 206 #[.int .i64 y.k, .string (an y.op), .string (an y.nm), .string (an y.tx), .int .i64 y.v, .slice B y.args.length d]);have HX1:=G (HX.out.alloc' (.cells #[.int .i64 y.k, .string (an y.op), .string (an y.nm), .string (an y.tx), .int .i64 y.v, .slice B y.args.length d] 206));clear h0 h1 h2 h3 h4 h5 hRa hIy hyb hyw
   cases hia:lQ bi j with
   |true=>
    rw[hia]at HS HIN1;go_wp2_with (first|(go_at_call 177;refine(HIN1.out _).mono ?_;rintro e w2 ⟨rfl,hE⟩;have HX2:=G (HX1.out.trans hE);have HE2:=G hE;have f1:=(HB1.out.ext hE).cell;clear hE HIN1)|(go_at_call 127;refine(HIy.out P _ B _ d ((HRa.out.keep (.of_ext (aa _ _)) (fun b hb _=>hb)).keep (.of_ext HE2.out) (fun b hb _=>hb)) (HT.out.ext HX2.out)).mono ?_;rintro e w3 ⟨rfl,hE⟩;have HY:=G (HX2.out.trans hE);clear hE f1));go_roundw
    case rel=>exact⟨j+1,max m (fr+dJ y),fr+1,by go_num,by congr 1;omega,by go_num,by omega,by omega,G ((by rw[HS.out,if_pos trivial]:fh bi j fr m (xs.drop j)=fh bi (j+1) (fr+1) (max m (fr+dJ y)) (xs.drop (j+1))).symm.trans HQ.out),HY⟩
    case measure=>simp[intOf];omega
   |false=>
    rw[hia]at HS HIN1;go_wp2_with (go_at_call 177;refine(HIN1.out _).mono ?_;rintro e w2 ⟨rfl,hE⟩;have HX2:=G (HX1.out.trans hE);clear hE HIN1);go_roundw
    case rel=>exact⟨j+1,m,fr,by go_num,rfl,rfl,by omega,by omega,G ((by rw[HS.out,if_neg (by simp)]:fh bi j fr m (xs.drop j)=fh bi (j+1) fr m (xs.drop (j+1))).symm.trans HQ.out),HX2⟩
    case measure=>simp[intOf];omega
  ·have hlt': ¬(j:Int)<N:=by omega
   have HM:=G (show m=Rv by
    have:=HQ.out;rw[aI (by have:=HN.out;omega),fh]at this
    exact this)
   go_wp2_with fail;go_ret;exact⟨by rw[HRs.out,<-HM.out];rfl,HX.out⟩
theorem Ds (k:Int) (h4:(k==4)=false) (h6:(k==6)=false) (h7:(k==7)=false) (h5:(k==5)=false) (op nm tx:List UInt8) (v:Int) (xs:List Ex):Ch (.mk k op nm tx v xs):=by
 intro P w A n c hR hT
 have HRs:=G (show dJ (.mk k op nm tx v xs)=1 by
  rw[dJ,if_neg (by simp only[beq_eq_false_iff_ne]at h4 h6;omega),if_neg (by simpa using h7),if_neg (by simpa using h5)])
 have HE0:=G (aa w (.cells #[.int .i64 k, .string (an op), .string (an nm), .string (an tx), .int .i64 v, .slice A n c] 206));simp only[Ex.k,Ex.op,Ex.nm,Ex.tx,Ex.v,Ex.args]at*;clear hR hT;go_enter func127,ntmps127;go_wp2_with fail;go_ret;exact⟨by rw[HRs.out];rfl,HE0.out⟩
theorem pI: ∀(m:Nat) (x:Ex),x.wt<=m->x.wt<=1073741824->Ch x
 |0,x,h,_=>absurd h (by have:=x.wt_eq;omega)
 |m+1, .mk k op nm tx v xs,h,hw=>by
  have hIH: ∀y∈xs,Ch y:=fun y hy=>pI m y (by have:=dO hy;rw[Ex.wt]at h;omega) (by have:=dO hy;rw[Ex.wt]at hw;omega);by_cases h46:k=4\/k=6
  ·exact Dw k h46 op nm tx v xs hw hIH
  by_cases h7:k=7
  ·subst h7;exact Dv op nm tx v xs hw hIH
  by_cases h5:k=5
  ·subst h5;exact Du op nm tx v xs hw hIH
  exact Ds k (beq_eq_false_iff_ne.2 (by omega)) (beq_eq_false_iff_ne.2 (by omega)) (beq_eq_false_iff_ne.2 h7) (beq_eq_false_iff_ne.2 h5) op nm tx v xs
end
section
open Go.RowKit
def Eh (x:Ex):Prop:= ∀(X:CB) (gl:Gl) (lv:Value) (lo:Ls) (P:Nat->Prop) (w:World) (A:Option Addr) (n c:Nat),CK X gl lv lo w->et w P (.slice A n c) x.args->
 Calls prog 176 #[X.p, .agg #[.int .i64 x.k, .string (an x.op), .string (an x.nm), .string (an x.tx), .int .i64 x.v, .slice A n c]] w fun e w'=>e=cg (rA gl lo x)/\au w w'
def Cj (xs:List Ex):Prop:= ∀(X:CB) (gl:Gl) (lv:Value) (lo:Ls) (P:Nat->Prop) (w:World) (A:Option Addr) (n c:Nat),CK X gl lv lo w->et w P (.slice A n c) xs->
 Calls prog 126 #[X.p, .slice A n c] w fun e w'=>e=cg (rg gl lo xs)/\au w w'
theorem z' {gl:Gl} {lo:Ls} {l:List Ex} {j:Nat} (h:j<l.length):rg gl lo (l.drop j)=CR.then (rA gl lo l[j]) fun _=>rg gl lo (l.drop (j+1)):=by
 rw[am h,rg]
theorem pY (xs:List Ex) (hl:xs.length<=1073741824) (hIH: ∀y∈xs,Eh y):Cj xs:=by
 intro X gl lv lo P w A n c hK hR;obtain⟨A',c',hv,hf⟩:=hR.form;injection hv with hv1 hv2 hv3;subst hv1 hv2 hv3;have HR:=G hR;have HI:=G hIH;have HK:=G hK;obtain⟨N,hN⟩: ∃N,xs.length=N:=⟨_,rfl⟩
 have HN:=G hN;rw[hN]at HR hl;obtain⟨Rv,hRv⟩: ∃R,rg gl lo xs=R:=⟨_,rfl⟩
 have HRv:=G hRv;have HQ0:=G (show rg gl lo (xs.drop 0)=Rv from hRv);have HE0:=G (aG w);obtain⟨Xp,hXp⟩: ∃p,X.p=p:=⟨_,rfl⟩
 have hXp':Xp= .pointer (some ⟨X.g,0,none⟩):=hXp.symm;clear hR hf hIH hK;rw[hN,hRv];clear hN hRv;subst hXp';simp only[CB.p]at*;clear hXp;go_enter func126,ntmps126;go_wp2_with fail
 go_loopw [8] (fun vi wr=> ∃(j:Nat),vi= .int .i64 (j:Int)/\j<=N/\Hid (rg gl lo (xs.drop j)=Rv)/\Hid (au w wr)) (fun vi _=>N-(intOf vi).toNat)
 case atStart=>exact⟨0,rfl,aC _,HQ0,HE0⟩
 case round=>
  obtain⟨j,rfl,hj,HQ,HX⟩:=hrel;by_cases hlt:j<N
  ·have hlt':(j:Int)<N:=by omega
   have hjl:j<xs.length:=by have:=HN.out;omega
   obtain⟨b,o,a,rfl,hb,hP,h0,h1,h2,h3,h4,h5,hRa⟩:=HR.out.at_ j hjl;have HS:=G (z' (gl:=gl) (lo:=lo) hjl);have hIy:=HI.out _ (ap hjl);generalize xs[j]=y at*;have e0:=(HX.out.cell b _ hb).trans h0;have e1:=(HX.out.cell b _ hb).trans h1;have e2:=(HX.out.cell b _ hb).trans h2;have e3:=(HX.out.cell b _ hb).trans h3;have e4:=(HX.out.cell b _ hb).trans h4;have e5:=(HX.out.cell b _ hb).trans h5;obtain⟨B,d,rfl,_⟩:=hRa.form;have HC:=G (hIy X gl lv lo P _ B _ d ((HK.out.ext HX.out).ext (aa _ (.cells #[.int .i64 y.k, .string (an y.op), .string (an y.nm), .string (an y.tx), .int .i64 y.v, .slice B y.args.length d] 206))) ((hRa.keep (.of_ext HX.out) (Q:=P) (fun b hb _=>hb)).keep (.of_ext (aa _ _)) (fun b hb _=>hb)));have HX1:=G (HX.out.alloc' (.cells #[.int .i64 y.k, .string (an y.op), .string (an y.nm), .string (an y.tx), .int .i64 y.v, .slice B y.args.length d] 206));clear h0 h1 h2 h3 h4 h5 hRa hIy;generalize rA gl lo y=r at*;simp only[CB.p]at HC
   cases r with
   |ok u=>
    go_wp2_with (go_at_call 176;refine HC.out.mono ?_;unfold cg;rintro e w3 ⟨rfl,hE⟩;have HY:=G (HX1.out.trans hE);clear hE HC);go_roundw
    case rel=>exact⟨j+1,by go_num,by omega,G (HS.out.symm.trans HQ.out),HY⟩
    case measure=>simp[intOf];omega
   |error q=>
    obtain⟨nm,n⟩:=q;have HF:=G (show Rv= .error (nm,n)from HQ.out.symm.trans HS.out);go_wp2_with (go_at_call 176;refine HC.out.mono ?_;unfold cg aY;rintro e w3 ⟨rfl,hE⟩;have HY:=G (HX1.out.trans hE);clear hE HC);exact⟨rfl,by rw[HF.out];rfl,HY.out⟩
  ·have hlt': ¬(j:Int)<N:=by omega
   have HF:=G (show Rv= .ok () by
    have:=HQ.out;rw[aI (by have:=HN.out;omega),rg]at this
    exact this.symm)
   go_wp2_with fail;exact bodyPost_end (results_none rfl _ _ _) rfl ⟨by rw[HF.out];rfl,HX.out⟩
end
section
def Cn (vs:List Vr) (s:List UInt8):Option Vr:=vs.find? (fun v=>decide (s=v.nm))
def Gf (fs:List Fc) (s:List UInt8):Option Fc:=fs.find? (fun f=>decide (s=f.nm))
structure GL (p:Pg) (g:Gl):Prop where
 arr: ∀s,g.arr s=(Cn p.vs s).bind fun v=>if 0<v.sz then some v.sz else none
 int: ∀s,g.int s=(Cn p.vs s).any fun v=> !decide (0<v.sz)
 fn: ∀s,g.fn s=(Gf p.fs s).map (·.ps.length)
 nb: ∀n∈p.vs.map (·.nm)++p.fs.map (·.nm),EQ n=false
 nd:(p.vs.map (·.nm)++p.fs.map (·.nm)).Pairwise (· ≠ ·)
end
section
theorem DT: ∀x∈rm,∀c∈x.2.2,c=105\/c=115\/c=97\/c=98:=by decide
theorem Af {s:List UInt8} {c:Int} {ls:List UInt8} (h:fx s=some (c,ls)): ∀x∈ls,x=105\/x=115\/x=97\/x=98:=by
 unfold fx at h;rw[f7]at h;obtain⟨x,hx,h⟩:=h;have:=DT x (ed hx);rw[h]at this;exact this
end
section
open Go.RowKit
theorem sW {gl:Gl} {lo:Ls} {nm:List UInt8} {b:Bi} {l:List Ex} {j:Nat} (h:j<l.length):uw gl lo nm b j (l.drop j)=CR.then (if lQ b j=true then rA gl lo l[j]else if ro (Bz b j) l[j].k=true then .error (nm,16)else if l[j].k=3 then kZ gl lo l[j].nm else .ok ()) fun _=>uw gl lo nm b (j+1) (l.drop (j+1)):=by
 rw[am h,uw]
def GA (op nm tx:List UInt8) (v:Int) (xs:List Ex):Prop:= ∀(X:CB) (gl:Gl) (lv:Value) (lo:Ls) (P:Nat->Prop) (w:World) (A:Option Addr) (n c:Nat),CK X gl lv lo w->et w P (.slice A n c) xs->
 Calls prog 218 #[X.p, .agg #[.int .i64 5, .string (an op), .string (an nm), .string (an tx), .int .i64 v, .slice A n c]] w fun e w'=>e=cg (rA gl lo (.mk 5 op nm tx v xs))/\au w w'
theorem tH (op nm tx:List UInt8) (v:Int) (xs:List Ex) (hl:xs.length<=1073741824) (hnm:nm.length<=1073741824) (hb:fx nm=none) (hIH: ∀y∈xs,Eh y):GA op nm tx v xs:=by
 intro X gl lv lo P w A n c hK hR;obtain⟨A',c',hv,hf⟩:=hR.form;injection hv with hv1 hv2 hv3;subst hv1 hv2 hv3;have HR:=G hR;have HI:=G hIH;obtain⟨N,hN⟩: ∃N,xs.length=N:=⟨_,rfl⟩
 have HN:=G hN;rw[hN]at HR hl;obtain⟨Rv,hRv⟩: ∃R,rA gl lo (.mk 5 op nm tx v xs)=R:=⟨_,rfl⟩
 have HRv:=G (show Rv=match gl.fn nm with|none=> .error (nm,15)|some n=>if n=N then uw gl lo nm none 0 xs else .error (nm,16) by
  rw[<-hRv,rA,if_neg (by decide),if_neg (by decide),if_neg (by decide),if_pos rfl];unfold An;rw[hb,<-hN]
  cases gl.fn nm<;>rfl)
 have hEA:=aa w (.cells #[.int .i64 5, .string (an op), .string (an nm), .string (an tx), .int .i64 v, .slice A N c] 206);have HE0:=G hEA;have HB0:=G (aw w 206 #[.int .i64 5, .string (an op), .string (an nm), .string (an tx), .int .i64 v, .slice A N c]);have HK0:=G (hK.ext hEA)
 have HBL:=G (show Calls prog 175 #[.string (an nm)] (w.alloc (.cells #[.int .i64 5, .string (an op), .string (an nm), .string (an tx), .int .i64 v, .slice A N c] 206)) fun e w'=>e= .returned (.tuple #[.int .i64 0, .string ⟨#[]⟩, .bool false])/\au (w.alloc (.cells #[.int .i64 5, .string (an op), .string (an nm), .string (an tx), .int .i64 v, .slice A N c] 206)) w' from by
  have:=kK nm _ HK0.out.t;rw[hb]at this
  exact this)
 have HIN:=G (fun(i:Nat) (hi:i<=1073741824) (W:World)=>show Calls prog 177 #[.string ⟨#[]⟩, .bool false, .int .i64 (i:Int)] W fun e w'=>e= .returned (.bool true)/\au W w' from kh none i hi (by simp[Cb]) W);have HF:=G (fun n W=>dT nm n W);clear hR hf hIH hb hEA hK;rw[hN,hRv];clear hN hRv;obtain⟨g,bi,ba,bf,sv,sf⟩:=X;simp only[CB.p]at*
 cases hfn:gl.fn nm with
 |none=>
  have HE:=G (show Rv= .error (nm,15) by rw[HRv.out,hfn]);clear HI HIN HRv;go_enter func218,ntmps218;go_wp2_with (go_at_call 175;refine HBL.out.mono ?_;rintro e w1 ⟨rfl,hE⟩;have HX1:=G (HE0.out.trans hE);have HB1:=G (HB0.out.ext hE);have f0:=HB1.out.cell;have HK1:=G (HK0.out.ext hE);clear hE HBL HB0 HK0 HE0);refine ay 12 1 [] mixed (by kernel_rfl) trivial ?_;repeat (refine sx ?_ (fun w1 hU=> ?_) ?_;rotate_left;(focus have f0:=(HB1.out.ext hU.un).cell;have fk:=(HK1.out.ext hU.un).blk.cell;have f2:=(HK1.out.ext hU.un).lookF hnm;rw[hfn]at f2;simp only[ew,dr]at f2;clear hU;go_simp<;>with_reducible rfl);simp only[bH,bG,bF,bE,bD])
  intro w7 hw7 _;simp only[ac,aO];have HX2:=G (HX1.out.trans hw7.un);clear f0;have f0:=(HB1.out.ext hw7.un).cell;clear hw7;go_wp2_with (go_at_call 65;refine(HF.out _ _).mono ?_;unfold aY;rintro e w2 ⟨rfl,hE⟩;have HY:=G (HX2.out.trans hE);clear hE HF);exact⟨rfl,by rw[HE.out];rfl,HY.out⟩
 |some k=>
  by_cases hkN:k=N
  ·subst hkN;have HE:=G (show Rv=uw gl lo nm none 0 xs by rw[HRv.out,hfn];simp);have HQ0:=G (show uw gl lo nm none 0 (xs.drop 0)=Rv from HE.out.symm);clear HRv;go_enter func218,ntmps218;go_wp2_with (go_at_call 175;refine HBL.out.mono ?_;rintro e w1 ⟨rfl,hE⟩;have HX1:=G (HE0.out.trans hE);have HB1:=G (HB0.out.ext hE);have f0:=HB1.out.cell;have HK1:=G (HK0.out.ext hE);clear hE HBL HB0 HK0 HE0);refine ay 12 1 [] mixed (by kernel_rfl) trivial ?_;repeat (refine sx ?_ (fun w1 hU=> ?_) ?_;rotate_left;(focus have f0:=(HB1.out.ext hU.un).cell;have fk:=(HK1.out.ext hU.un).blk.cell;have f2:=(HK1.out.ext hU.un).lookF hnm;rw[hfn]at f2;simp only[bR,cX]at f2;clear hU;go_simp<;>with_reducible rfl);simp only[bH,bG,bF,bE,bD])
   intro w7 hw7 _;simp only[ac,aO];have HX2:=G (HX1.out.trans hw7.un);have HK2:=G (HK1.out.ext hw7.un);clear f0;have f0:=(HB1.out.ext hw7.un).cell;clear hw7 HX1 HK1 HB1;go_wp2_with fail;clear f0
   go_loopw [53] (fun vi wr=> ∃(j:Nat),vi= .int .i64 (j:Int)/\j<=k/\Hid (uw gl lo nm none j (xs.drop j)=Rv)/\Hid (au w wr)/\Hid (CK ⟨g,bi,ba,bf,sv,sf⟩ gl lv lo wr)) (fun vi _=>k-(intOf vi).toNat)
   case atStart=>exact⟨0,rfl,aC _,HQ0,HX2,HK2⟩
   case round=>
    obtain⟨j,rfl,hj,HQ,HX,HKj⟩:=hrel;by_cases hlt:j<k
    ·have hlt':(j:Int)<k:=by omega
     have hjl:j<xs.length:=by have:=HN.out;omega
     obtain⟨b,o,a,rfl,hb,hP,h0,h1,h2,h3,h4,h5,hRa⟩:=HR.out.at_ j hjl;have HS:=G (sW (gl:=gl) (lo:=lo) (nm:=nm) (b:=none) hjl);have hIy:=HI.out _ (ap hjl);generalize xs[j]=y at*;have e0:=(HX.out.cell b _ hb).trans h0;have e1:=(HX.out.cell b _ hb).trans h1;have e2:=(HX.out.cell b _ hb).trans h2;have e3:=(HX.out.cell b _ hb).trans h3;have e4:=(HX.out.cell b _ hb).trans h4;have e5:=(HX.out.cell b _ hb).trans h5;obtain⟨B,d,rfl,_⟩:=hRa.form;have HRa:=G ((hRa.keep (.of_ext HX.out) (Q:=P) (fun b hb _=>hb)).keep (.of_ext (aa _ (.cells #[.int .i64 y.k, .string (an y.op), .string (an y.nm), .string (an y.tx), .int .i64 y.v, .slice B y.args.length d] 206))) (Q:=P) (fun b hb _=>hb));have HB1:=G (aw wr 206 #[.int .i64 y.k, .string (an y.op), .string (an y.nm), .string (an y.tx), .int .i64 y.v, .slice B y.args.length d]);have HX1:=G (HX.out.alloc' (.cells #[.int .i64 y.k, .string (an y.op), .string (an y.nm), .string (an y.tx), .int .i64 y.v, .slice B y.args.length d] 206));have HK1:=G (HKj.out.ext (aa wr (.cells #[.int .i64 y.k, .string (an y.op), .string (an y.nm), .string (an y.tx), .int .i64 y.v, .slice B y.args.length d] 206)));have HIy:=G (hIy ⟨g,bi,ba,bf,sv,sf⟩ gl lv lo P);have HIN1:=G (HIN.out j (by omega));clear h0 h1 h2 h3 h4 h5 hRa hIy;simp only[CB.p]at HIy;generalize rA gl lo y=r at*;rw[show lQ none j=true from rfl]at HS;simp only[if_true]at HS
     cases r with
     |ok u=>
      go_wp2_with (first|(go_at_call 177;refine(HIN1.out _).mono ?_;rintro e w2 ⟨rfl,hE⟩;have HX3:=G (HX1.out.trans hE);have HE2:=G hE;have f1:=(HB1.out.ext hE).cell;have HK3:=G (HK1.out.ext hE);clear hE HIN1)|(go_at_call 176;refine(HIy.out _ B _ d HK3.out (HRa.out.keep (.of_ext HE2.out) (fun b hb _=>hb))).mono ?_;unfold cg;rintro e w3 ⟨rfl,hE⟩;have HY:=G (HX3.out.trans hE);have HKY:=G (HK3.out.ext hE);clear hE HIy));go_roundw
      case rel=>exact⟨j+1,by go_num,by omega,G (HS.out.symm.trans HQ.out),HY,HKY⟩
      case measure=>simp[intOf];omega
     |error q=>
      obtain⟨qn,n⟩:=q;have HFn:=G (show Rv= .error (qn,n)from HQ.out.symm.trans HS.out);go_wp2_with (first|(go_at_call 177;refine(HIN1.out _).mono ?_;rintro e w2 ⟨rfl,hE⟩;have HX3:=G (HX1.out.trans hE);have HE2:=G hE;have f1:=(HB1.out.ext hE).cell;have HK3:=G (HK1.out.ext hE);clear hE HIN1)|(go_at_call 176;refine(HIy.out _ B _ d HK3.out (HRa.out.keep (.of_ext HE2.out) (fun b hb _=>hb))).mono ?_;unfold cg aY;rintro e w3 ⟨rfl,hE⟩;have HY:=G (HX3.out.trans hE);clear hE HIy));exact⟨rfl,by rw[HFn.out];rfl,HY.out⟩
    ·have hlt': ¬(j:Int)<k:=by omega
     have HFn:=G (show Rv= .ok () by
      have:=HQ.out;rw[aI (by have:=HN.out;omega),uw]at this
      exact this.symm)
     go_wp2_with fail;exact bodyPost_end (results_none rfl _ _ _) rfl ⟨by rw[HFn.out];rfl,HX.out⟩
  ·have HE:=G (show Rv= .error (nm,16) by rw[HRv.out,hfn];simp[hkN]);have hkN':((k:Int) !=(N:Int))=true:=by simp;omega
   have hkN2:((k:Int)==(N:Int))=false:=by simp;omega
   clear HI HIN HRv;go_enter func218,ntmps218;go_wp2_with (go_at_call 175;refine HBL.out.mono ?_;rintro e w1 ⟨rfl,hE⟩;have HX1:=G (HE0.out.trans hE);have HB1:=G (HB0.out.ext hE);have f0:=HB1.out.cell;have HK1:=G (HK0.out.ext hE);clear hE HBL HB0 HK0 HE0);refine ay 12 1 [] mixed (by kernel_rfl) trivial ?_;repeat (refine sx ?_ (fun w1 hU=> ?_) ?_;rotate_left;(focus have f0:=(HB1.out.ext hU.un).cell;have fk:=(HK1.out.ext hU.un).blk.cell;have f2:=(HK1.out.ext hU.un).lookF hnm;rw[hfn]at f2;simp only[bR,cX]at f2;clear hU;go_simp<;>with_reducible rfl);simp only[bH,bG,bF,bE,bD])
   intro w7 hw7 _;simp only[ac,aO];have HX2:=G (HX1.out.trans hw7.un);clear f0;have f0:=(HB1.out.ext hw7.un).cell;clear hw7;go_wp2_with (go_at_call 65;refine(HF.out _ _).mono ?_;unfold aY;rintro e w2 ⟨rfl,hE⟩;have HY:=G (HX2.out.trans hE);clear hE HF);exact⟨rfl,by rw[HE.out];rfl,HY.out⟩
end
section
open Go.RowKit
theorem tG (op nm tx:List UInt8) (v:Int) (xs:List Ex) (hl:xs.length<=1073741824) (hnm:nm.length<=1073741824) (bc:Int) (ls:List UInt8) (hb:fx nm=some (bc,ls)) (hls:ls.length<=3) (hIH: ∀y∈xs,Eh y) (hY2: ∀y∈xs,y.nm.length<=1073741824):GA op nm tx v xs:=by
 intro X gl lv lo P w A n c hK hR;obtain⟨A',c',hv,hf⟩:=hR.form;injection hv with hv1 hv2 hv3;subst hv1 hv2 hv3;have HR:=G hR;have HI:=G hIH;have HY2:=G hY2;have HLT:=G (Af hb);obtain⟨N,hN⟩: ∃N,xs.length=N:=⟨_,rfl⟩
 have HN:=G hN;rw[hN]at HR hl;obtain⟨Rv,hRv⟩: ∃R,rA gl lo (.mk 5 op nm tx v xs)=R:=⟨_,rfl⟩
 have HRv:=G (show Rv=if ls.length=N then uw gl lo nm (some (bc,ls)) 0 xs else .error (nm,16) by
  rw[<-hRv,rA,if_neg (by decide),if_neg (by decide),if_neg (by decide),if_pos rfl];unfold An
  rw[hb,<-hN])
 have hEA:=aa w (.cells #[.int .i64 5, .string (an op), .string (an nm), .string (an tx), .int .i64 v, .slice A N c] 206);have HE0:=G hEA;have HB0:=G (aw w 206 #[.int .i64 5, .string (an op), .string (an nm), .string (an tx), .int .i64 v, .slice A N c]);have HK0:=G (hK.ext hEA)
 have HBL:=G (show Calls prog 175 #[.string (an nm)] (w.alloc (.cells #[.int .i64 5, .string (an op), .string (an nm), .string (an tx), .int .i64 v, .slice A N c] 206)) fun e w'=>e= .returned (.tuple #[.int .i64 bc, .string (an ls), .bool true])/\au (w.alloc (.cells #[.int .i64 5, .string (an op), .string (an nm), .string (an tx), .int .i64 v, .slice A N c] 206)) w' from by
  have:=kK nm _ HK0.out.t;rw[hb]at this
  exact this)
 have HIN:=G (fun(i:Nat) (hi:i<=1073741824) (W:World)=>show Calls prog 177 #[.string (an ls), .bool true, .int .i64 (i:Int)] W fun e w'=>e= .returned (.bool (lQ (some (bc,ls)) i))/\au W w' from kh (some (bc,ls)) i hi (by simp only[Cb];omega) W);have HF:=G (fun n W=>dT nm n W);have hsz:=aU ls;clear hR hf hIH hY2 hb hEA hK;rw[hN,hRv];clear hN hRv;obtain⟨g,bi,ba,bf,sv,sf⟩:=X;simp only[CB.p]at*;obtain⟨fo,hfn⟩: ∃fo,gl.fn nm=fo:=⟨_,rfl⟩
 cases fo;all_goals
  by_cases hkN:ls.length=N
  ·have HE:=G (show Rv=uw gl lo nm (some (bc,ls)) 0 xs by rw[HRv.out,if_pos hkN]);have HQ0:=G (show uw gl lo nm (some (bc,ls)) 0 (xs.drop 0)=Rv from HE.out.symm);have hkN1:((ls.length:Int) !=(N:Int))=false:=by simp[hkN]
   clear HRv;go_enter func218,ntmps218;go_wp2_with (go_at_call 175;refine HBL.out.mono ?_;rintro e w1 ⟨rfl,hE⟩;have HX1:=G (HE0.out.trans hE);have HB1:=G (HB0.out.ext hE);have f0:=HB1.out.cell;have HK1:=G (HK0.out.ext hE);clear hE HBL HB0 HK0 HE0);refine ay 12 1 [] mixed (by kernel_rfl) trivial ?_;repeat (refine sx ?_ (fun w1 hU=> ?_) ?_;rotate_left;(focus have f0:=(HB1.out.ext hU.un).cell;have fk:=(HK1.out.ext hU.un).blk.cell;have f2:=(HK1.out.ext hU.un).lookF hnm;rw[hfn]at f2;simp only[bR,ew,cX,dr]at f2;clear hU;go_simp<;>with_reducible rfl);simp only[bH,bG,bF,bE,bD])
   intro w7 hw7 _;simp only[ac,aO];have HX2:=G (HX1.out.trans hw7.un);have HK2:=G (HK1.out.ext hw7.un);have HB2:=G (HB1.out.ext hw7.un);clear f0;have f0:=HB2.out.cell;clear hw7 HX1 HK1 HB1;go_wp2_with fail;clear f0
   go_loopw [53] (fun vi wr=> ∃(j:Nat),vi= .int .i64 (j:Int)/\j<=N/\Hid (uw gl lo nm (some (bc,ls)) j (xs.drop j)=Rv)/\Hid (au w wr)/\Hid (CK ⟨g,bi,ba,bf,sv,sf⟩ gl lv lo wr)/\Hid (aP wr w.heap.size 206 #[.int .i64 5, .string (an op), .string (an nm), .string (an tx), .int .i64 v, .slice A N c])) (fun vi _=>N-(intOf vi).toNat)
   case atStart=>exact⟨0,rfl,aC _,HQ0,HX2,HK2,HB2⟩
   case round=>
    obtain⟨j,rfl,hj,HQ,HX,HKj,HBj⟩:=hrel;by_cases hlt:j<N
    ·have hlt':(j:Int)<N:=by omega
     have hjl:j<xs.length:=by have:=HN.out;omega
     have hjs:j<ls.length:=by omega
     obtain⟨b,o,a,rfl,hb,hP,h0,h1,h2,h3,h4,h5,hRa⟩:=HR.out.at_ j hjl;have HS:=sW (gl:=gl) (lo:=lo) (nm:=nm) (b:=some (bc,ls)) hjl;have hIy:=HI.out _ (ap hjl);have hy2:=HY2.out _ (ap hjl);obtain⟨y,hy⟩: ∃y,xs[j]=y:=⟨_,rfl⟩
     rw[hy]at h0 h1 h2 h3 h4 hRa HS hIy hy2;clear hy;obtain⟨k2,op2,nm2,tx2,v2,as2⟩:=y;simp only[Ex.k,Ex.op,Ex.nm,Ex.tx,Ex.v,Ex.args]at h0 h1 h2 h3 h4 hRa HS hy2;have e0:=(HX.out.cell b _ hb).trans h0;have e1:=(HX.out.cell b _ hb).trans h1;have e2:=(HX.out.cell b _ hb).trans h2;have e3:=(HX.out.cell b _ hb).trans h3;have e4:=(HX.out.cell b _ hb).trans h4;have e5:=(HX.out.cell b _ hb).trans h5;obtain⟨B,d,rfl,_⟩:=hRa.form;have HRa:=G ((hRa.keep (.of_ext HX.out) (Q:=P) (fun b hb _=>hb)).keep (.of_ext (aa _ (.cells #[.int .i64 k2, .string (an op2), .string (an nm2), .string (an tx2), .int .i64 v2, .slice B as2.length d] 206))) (Q:=P) (fun b hb _=>hb));have HB1:=G (aw wr 206 #[.int .i64 k2, .string (an op2), .string (an nm2), .string (an tx2), .int .i64 v2, .slice B as2.length d]);have HX1:=G (HX.out.alloc' (.cells #[.int .i64 k2, .string (an op2), .string (an nm2), .string (an tx2), .int .i64 v2, .slice B as2.length d] 206));have HK1:=G (HKj.out.ext (aa wr (.cells #[.int .i64 k2, .string (an op2), .string (an nm2), .string (an tx2), .int .i64 v2, .slice B as2.length d] 206)));have HIy:=G (hIy ⟨g,bi,ba,bf,sv,sf⟩ gl lv lo P);have HIN1:=G (HIN.out j (by omega));clear h0 h1 h2 h3 h4 h5 hRa hIy;simp only[CB.p,Ex.k,Ex.op,Ex.nm,Ex.tx,Ex.v,Ex.args]at HIy
     cases hia:lQ (some (bc,ls)) j with
     |true=>
      rw[hia]at HS HIN1;simp only[if_true]at HS;generalize rA gl lo (.mk k2 op2 nm2 tx2 v2 as2)=r at*
      cases r with
      |ok u=>
       have HS:=G HS;go_wp2_with (first|(go_at_call 177;refine(HIN1.out _).mono ?_;rintro e w2 ⟨rfl,hE⟩;have HX3:=G (HX1.out.trans hE);have HE2:=G hE;have f1:=(HB1.out.ext hE).cell;have f0:=(HBj.out.ext ((aa _ _).trans hE)).cell;have HK3:=G (HK1.out.ext hE);clear hE HIN1)|(go_at_call 176;refine(HIy.out _ B _ d HK3.out (HRa.out.keep (.of_ext HE2.out) (fun b hb _=>hb))).mono ?_;unfold cg;rintro e w3 ⟨rfl,hE⟩;have HY:=G (HX3.out.trans hE);have HKY:=G (HK3.out.ext hE);have HBY:=G (HBj.out.ext ((aa _ _).trans (HE2.out.trans hE)));clear hE HIy));go_roundw
       case rel=>exact⟨j+1,by go_num,by omega,G (HS.out.symm.trans HQ.out),HY,HKY,HBY⟩
       case measure=>simp[intOf];omega
      |error q=>
       obtain⟨qn,n⟩:=q;have HS:=G HS;have HFn:=G (show Rv= .error (qn,n)from HQ.out.symm.trans HS.out);go_wp2_with (first|(go_at_call 177;refine(HIN1.out _).mono ?_;rintro e w2 ⟨rfl,hE⟩;have HX3:=G (HX1.out.trans hE);have HE2:=G hE;have f1:=(HB1.out.ext hE).cell;have f0:=(HBj.out.ext ((aa _ _).trans hE)).cell;have HK3:=G (HK1.out.ext hE);clear hE HIN1)|(go_at_call 176;refine(HIy.out _ B _ d HK3.out (HRa.out.keep (.of_ext HE2.out) (fun b hb _=>hb))).mono ?_;unfold cg aY;rintro e w3 ⟨rfl,hE⟩;have HY:=G (HX3.out.trans hE);clear hE HIy));exact⟨rfl,by rw[HFn.out];rfl,HY.out⟩
     |false=>
      rw[hia]at HS HIN1;have hq:=HLT.out _ (ap hjs);have hix:=fun w=>kv ls j hjs w;have hq5:ls[j]≠105:=by
       intro e;have:lQ (some (bc,ls)) j=true:=by
        simp only[lQ];rw[dh];right;rw[bI,aD hjs];simp[e]
       rw[this]at hia
       cases hia
      have hlt2:Bz (some (bc,ls)) j=ls[j]:=by simp only[Bz];rw[bI,aD hjs];rfl
      rw[hlt2]at HS;have hjs':(j:Int)<ls.length:=by omega
      generalize ls[j]=q at hq hix hq5 HS;simp only[ch,if_false]at HS;clear hia hlt2 HIy;rcases hq with rfl|rfl|rfl|rfl
      ·exact absurd rfl hq5
      ·have hix: ∀w,(Instr.index 9 (.string (an ls)) (.int .i64 (j:Int))).run prog w= .ok (.int .u8 115) w:=hix;by_cases hk2:k2=2
       ·subst hk2;simp[ro]at HS;have HS:=G HS;go_wp2_with (go_at_call 177;refine(HIN1.out _).mono ?_;rintro e w2 ⟨rfl,hE⟩;have HX3:=G (HX1.out.trans hE);have HE2:=G hE;have f1:=(HB1.out.ext hE).cell;have f0:=(HBj.out.ext ((aa _ _).trans hE)).cell;have HK3:=G (HK1.out.ext hE);clear hE HIN1);go_roundw
        case rel=>exact⟨j+1,by go_num,by omega,G (HS.out.symm.trans HQ.out),HX3,HK3,G (HBj.out.ext ((aa _ _).trans HE2.out))⟩
        case measure=>simp[intOf];omega
       ·have n2:(k2 !=2)=true:=by simpa using hk2
        have m2:(k2==2)=false:=by simpa using hk2
        simp[ro,hk2]at HS;have HS:=G HS;have HFn:=G (show Rv= .error (nm,16)from HQ.out.symm.trans HS.out);go_wp2_with (first|(go_at_call 177;refine(HIN1.out _).mono ?_;rintro e w2 ⟨rfl,hE⟩;have HX3:=G (HX1.out.trans hE);have HE2:=G hE;have f1:=(HB1.out.ext hE).cell;have f0:=(HBj.out.ext ((aa _ _).trans hE)).cell;have HK3:=G (HK1.out.ext hE);clear hE HIN1)|(go_at_call 65;refine(HF.out _ _).mono ?_;unfold aY;rintro e w4 ⟨rfl,hE⟩;have HY:=G (HX3.out.trans hE);clear hE HF));exact⟨rfl,by rw[HFn.out];rfl,HY.out⟩
      ·have hix: ∀w,(Instr.index 9 (.string (an ls)) (.int .i64 (j:Int))).run prog w= .ok (.int .u8 97) w:=hix;by_cases hk3:k2=3
       ·subst hk3;simp[ro]at HS
        cases hca:kZ gl lo nm2 with
        |ok u=>
         rw[hca]at HS;have HS:=G HS;go_wp2_with (first|(go_at_call 177;refine(HIN1.out _).mono ?_;rintro e w2 ⟨rfl,hE⟩;have HX3:=G (HX1.out.trans hE);have HE2:=G hE;have f1:=(HB1.out.ext hE).cell;have f0:=(HBj.out.ext ((aa _ _).trans hE)).cell;have HK3:=G (HK1.out.ext hE);clear hE HIN1)|(go_at_call 125;refine(ef ⟨g,bi,ba,bf,sv,sf⟩ gl lv lo _ HK3.out nm2 hy2).mono ?_;rw[hca];unfold cg;rintro e w3 ⟨rfl,hE⟩;have HY:=G (HX3.out.trans hE);have HKY:=G (HK3.out.ext hE);have HBY:=G (HBj.out.ext ((aa _ _).trans (HE2.out.trans hE)));clear hE));go_roundw
         case rel=>exact⟨j+1,by go_num,by omega,G (HS.out.symm.trans HQ.out),HY,HKY,HBY⟩
         case measure=>simp[intOf];omega
        |error q=>
         obtain⟨qn,n⟩:=q;rw[hca]at HS;have HS:=G HS;have HFn:=G (show Rv= .error (qn,n)from HQ.out.symm.trans HS.out);go_wp2_with (first|(go_at_call 177;refine(HIN1.out _).mono ?_;rintro e w2 ⟨rfl,hE⟩;have HX3:=G (HX1.out.trans hE);have HE2:=G hE;have f1:=(HB1.out.ext hE).cell;have f0:=(HBj.out.ext ((aa _ _).trans hE)).cell;have HK3:=G (HK1.out.ext hE);clear hE HIN1)|(go_at_call 125;refine(ef ⟨g,bi,ba,bf,sv,sf⟩ gl lv lo _ HK3.out nm2 hy2).mono ?_;rw[hca];unfold cg aY;rintro e w3 ⟨rfl,hE⟩;have HY:=G (HX3.out.trans hE);clear hE));exact⟨rfl,by rw[HFn.out];rfl,HY.out⟩
       ·have n3:(k2 !=3)=true:=by simpa using hk3
        have m3:(k2==3)=false:=by simpa using hk3
        simp[ro,hk3]at HS;have HS:=G HS;have HFn:=G (show Rv= .error (nm,16)from HQ.out.symm.trans HS.out);go_wp2_with (first|(go_at_call 177;refine(HIN1.out _).mono ?_;rintro e w2 ⟨rfl,hE⟩;have HX3:=G (HX1.out.trans hE);have HE2:=G hE;have f1:=(HB1.out.ext hE).cell;have f0:=(HBj.out.ext ((aa _ _).trans hE)).cell;have HK3:=G (HK1.out.ext hE);clear hE HIN1)|(go_at_call 65;refine(HF.out _ _).mono ?_;unfold aY;rintro e w4 ⟨rfl,hE⟩;have HY:=G (HX3.out.trans hE);clear hE HF));exact⟨rfl,by rw[HFn.out];rfl,HY.out⟩
      ·have hix: ∀w,(Instr.index 9 (.string (an ls)) (.int .i64 (j:Int))).run prog w= .ok (.int .u8 98) w:=hix;by_cases hk3:k2=3
       ·subst hk3;simp[ro]at HS
        cases hca:kZ gl lo nm2 with
        |ok u=>
         rw[hca]at HS;have HS:=G HS;go_wp2_with (first|(go_at_call 177;refine(HIN1.out _).mono ?_;rintro e w2 ⟨rfl,hE⟩;have HX3:=G (HX1.out.trans hE);have HE2:=G hE;have f1:=(HB1.out.ext hE).cell;have f0:=(HBj.out.ext ((aa _ _).trans hE)).cell;have HK3:=G (HK1.out.ext hE);clear hE HIN1)|(go_at_call 125;refine(ef ⟨g,bi,ba,bf,sv,sf⟩ gl lv lo _ HK3.out nm2 hy2).mono ?_;rw[hca];unfold cg;rintro e w3 ⟨rfl,hE⟩;have HY:=G (HX3.out.trans hE);have HKY:=G (HK3.out.ext hE);have HBY:=G (HBj.out.ext ((aa _ _).trans (HE2.out.trans hE)));clear hE));go_roundw
         case rel=>exact⟨j+1,by go_num,by omega,G (HS.out.symm.trans HQ.out),HY,HKY,HBY⟩
         case measure=>simp[intOf];omega
        |error q=>
         obtain⟨qn,n⟩:=q;rw[hca]at HS;have HS:=G HS;have HFn:=G (show Rv= .error (qn,n)from HQ.out.symm.trans HS.out);go_wp2_with (first|(go_at_call 177;refine(HIN1.out _).mono ?_;rintro e w2 ⟨rfl,hE⟩;have HX3:=G (HX1.out.trans hE);have HE2:=G hE;have f1:=(HB1.out.ext hE).cell;have f0:=(HBj.out.ext ((aa _ _).trans hE)).cell;have HK3:=G (HK1.out.ext hE);clear hE HIN1)|(go_at_call 125;refine(ef ⟨g,bi,ba,bf,sv,sf⟩ gl lv lo _ HK3.out nm2 hy2).mono ?_;rw[hca];unfold cg aY;rintro e w3 ⟨rfl,hE⟩;have HY:=G (HX3.out.trans hE);clear hE));exact⟨rfl,by rw[HFn.out];rfl,HY.out⟩
       ·have n3:(k2 !=3)=true:=by simpa using hk3
        have m3:(k2==3)=false:=by simpa using hk3
        by_cases hk2:k2=2
        ·subst hk2;simp[ro]at HS;have HS:=G HS;go_wp2_with (go_at_call 177;refine(HIN1.out _).mono ?_;rintro e w2 ⟨rfl,hE⟩;have HX3:=G (HX1.out.trans hE);have HE2:=G hE;have f1:=(HB1.out.ext hE).cell;have f0:=(HBj.out.ext ((aa _ _).trans hE)).cell;have HK3:=G (HK1.out.ext hE);clear hE HIN1);go_roundw
         case rel=>exact⟨j+1,by go_num,by omega,G (HS.out.symm.trans HQ.out),HX3,HK3,G (HBj.out.ext ((aa _ _).trans HE2.out))⟩
         case measure=>simp[intOf];omega
        ·have n2:(k2 !=2)=true:=by simpa using hk2
         have m2:(k2==2)=false:=by simpa using hk2
         simp[ro,hk3,hk2]at HS;have HS:=G HS;have HFn:=G (show Rv= .error (nm,16)from HQ.out.symm.trans HS.out);go_wp2_with (first|(go_at_call 177;refine(HIN1.out _).mono ?_;rintro e w2 ⟨rfl,hE⟩;have HX3:=G (HX1.out.trans hE);have HE2:=G hE;have f1:=(HB1.out.ext hE).cell;have f0:=(HBj.out.ext ((aa _ _).trans hE)).cell;have HK3:=G (HK1.out.ext hE);clear hE HIN1)|(go_at_call 65;refine(HF.out _ _).mono ?_;unfold aY;rintro e w4 ⟨rfl,hE⟩;have HY:=G (HX3.out.trans hE);clear hE HF));exact⟨rfl,by rw[HFn.out];rfl,HY.out⟩
    ·have hlt': ¬(j:Int)<N:=by omega
     have HFn:=G (show Rv= .ok () by
      have:=HQ.out;rw[aI (by have:=HN.out;omega),uw]at this
      exact this.symm)
     go_wp2_with fail;exact bodyPost_end (results_none rfl _ _ _) rfl ⟨by rw[HFn.out];rfl,HX.out⟩
  ·have HE:=G (show Rv= .error (nm,16) by rw[HRv.out,if_neg hkN]);have hkN':((ls.length:Int) !=(N:Int))=true:=by simp;omega
   have hkN2:((ls.length:Int)==(N:Int))=false:=by simp;omega
   clear HI HIN HRv;go_enter func218,ntmps218;go_wp2_with (go_at_call 175;refine HBL.out.mono ?_;rintro e w1 ⟨rfl,hE⟩;have HX1:=G (HE0.out.trans hE);have HB1:=G (HB0.out.ext hE);have f0:=HB1.out.cell;have HK1:=G (HK0.out.ext hE);clear hE HBL HB0 HK0 HE0);refine ay 12 1 [] mixed (by kernel_rfl) trivial ?_;repeat (refine sx ?_ (fun w1 hU=> ?_) ?_;rotate_left;(focus have f0:=(HB1.out.ext hU.un).cell;have fk:=(HK1.out.ext hU.un).blk.cell;have f2:=(HK1.out.ext hU.un).lookF hnm;rw[hfn]at f2;simp only[bR,ew,cX,dr]at f2;clear hU;go_simp<;>with_reducible rfl);simp only[bH,bG,bF,bE,bD])
   intro w7 hw7 _;simp only[ac,aO];have HX2:=G (HX1.out.trans hw7.un);have HK2:=G (HK1.out.ext hw7.un);have HB2:=G (HB1.out.ext hw7.un);clear f0;have f0:=HB2.out.cell;clear hw7 HX1 HK1 HB1;go_wp2_with (go_at_call 65;refine(HF.out _ _).mono ?_;unfold aY;rintro e w2 ⟨rfl,hE⟩;have HY:=G (HX2.out.trans hE);clear hE HF);exact⟨rfl,by rw[HE.out];rfl,HY.out⟩
end
section
open Go.RowKit
theorem tF (k:Int) (op nm tx:List UInt8) (v:Int) (xs:List Ex) (hnm:nm.length<=1073741824) (hLs:Cj xs) (hC:k=5->GA op nm tx v xs):Eh (.mk k op nm tx v xs):=by
 intro X gl lv lo P w A n c hK hR;obtain⟨Rv,hRv⟩: ∃R,rA gl lo (.mk k op nm tx v xs)=R:=⟨_,rfl⟩
 have HD:=G (hRv.symm.trans (rA.eq_1 gl lo k op nm tx v xs));simp only[Ex.k,Ex.op,Ex.nm,Ex.tx,Ex.v,Ex.args]at*;rw[hRv];clear hRv;by_cases h3:k=3
 ·subst h3;have hE:=HD.out;rw[if_pos rfl]at hE;have HE0:=G (aa w (.cells #[.int .i64 3, .string (an op), .string (an nm), .string (an tx), .int .i64 v, .slice A n c] 206));have hB0:=aw w 206 #[.int .i64 3, .string (an op), .string (an nm), .string (an tx), .int .i64 v, .slice A n c];have HB0:=G hB0;have HK0:=G (hK.ext HE0.out);have HR0:=G (hR.keep (.of_ext HE0.out) (Q:=P) (fun b hb _=>hb));clear hK hR hB0
  cases hr:p9 gl lo nm with
  |ok u=>
   have HE:=G (hE.trans hr);go_enter func176,ntmps176;go_wp2_with (go_at_call 124;refine(eL X gl lv lo _ HK0.out nm hnm).mono ?_;rw[hr];unfold cg;rintro e w1 ⟨rfl,hE⟩;have HX:=G (HE0.out.trans hE);clear hE);exact bodyPost_end (results_none rfl _ _ _) rfl ⟨by rw[HE.out];rfl,HX.out⟩
  |error q=>
   obtain⟨qn,m⟩:=q;have HE:=G (hE.trans hr);go_enter func176,ntmps176;go_wp2_with (go_at_call 124;refine(eL X gl lv lo _ HK0.out nm hnm).mono ?_;rw[hr];unfold cg aY;rintro e w1 ⟨rfl,hE⟩;have HX:=G (HE0.out.trans hE);clear hE);exact⟨rfl,by rw[HE.out];rfl,HX.out⟩
 by_cases h4:k=4
 ·subst h4;have hE:=HD.out;rw[if_neg (by decide),if_pos rfl]at hE;have HE0:=G (aa w (.cells #[.int .i64 4, .string (an op), .string (an nm), .string (an tx), .int .i64 v, .slice A n c] 206));have hB0:=aw w 206 #[.int .i64 4, .string (an op), .string (an nm), .string (an tx), .int .i64 v, .slice A n c];have HB0:=G hB0;have HK0:=G (hK.ext HE0.out);have HR0:=G (hR.keep (.of_ext HE0.out) (Q:=P) (fun b hb _=>hb));clear hK hR hB0
  cases hr:kZ gl lo nm with
  |ok u=>
   rw[hr,eP]at hE
   cases hs:rg gl lo xs with
   |ok u=>
    have HE:=G (hE.trans hs);go_enter func176,ntmps176;go_wp2_with (first|(go_at_call 125;refine(ef X gl lv lo _ HK0.out nm hnm).mono ?_;rw[hr];unfold cg;rintro e w1 ⟨rfl,hE⟩;have HX:=G (HE0.out.trans hE);have HE1:=G hE;have f0:=(HB0.out.ext hE).cell;clear hE)|(go_at_call 126;refine(hLs X gl lv lo P _ A n c (HK0.out.ext HE1.out) (HR0.out.keep (.of_ext HE1.out) (fun b hb _=>hb))).mono ?_;rw[hs];unfold cg;rintro e w2 ⟨rfl,hE⟩;have HY:=G (HX.out.trans hE);clear hE));exact bodyPost_end (results_none rfl _ _ _) rfl ⟨by rw[HE.out];rfl,HY.out⟩
   |error q=>
    obtain⟨qn,m⟩:=q;have HE:=G (hE.trans hs);go_enter func176,ntmps176;go_wp2_with (first|(go_at_call 125;refine(ef X gl lv lo _ HK0.out nm hnm).mono ?_;rw[hr];unfold cg;rintro e w1 ⟨rfl,hE⟩;have HX:=G (HE0.out.trans hE);have HE1:=G hE;have f0:=(HB0.out.ext hE).cell;clear hE)|(go_at_call 126;refine(hLs X gl lv lo P _ A n c (HK0.out.ext HE1.out) (HR0.out.keep (.of_ext HE1.out) (fun b hb _=>hb))).mono ?_;rw[hs];unfold cg aY;rintro e w2 ⟨rfl,hE⟩;have HY:=G (HX.out.trans hE);clear hE));exact⟨rfl,by rw[HE.out];rfl,HY.out⟩
  |error q=>
   obtain⟨qn,m⟩:=q;rw[hr,fH]at hE;have HE:=G hE;go_enter func176,ntmps176;go_wp2_with (go_at_call 125;refine(ef X gl lv lo _ HK0.out nm hnm).mono ?_;rw[hr];unfold cg aY;rintro e w1 ⟨rfl,hE⟩;have HX:=G (HE0.out.trans hE);clear hE);exact⟨rfl,by rw[HE.out];rfl,HX.out⟩
 by_cases h2:k=2
 ·subst h2;have hE:=HD.out;rw[if_neg (by decide),if_neg (by decide),if_pos rfl]at hE;have HE:=G hE;have HE0:=G (aa w (.cells #[.int .i64 2, .string (an op), .string (an nm), .string (an tx), .int .i64 v, .slice A n c] 206));have hB0:=aw w 206 #[.int .i64 2, .string (an op), .string (an nm), .string (an tx), .int .i64 v, .slice A n c];have HB0:=G hB0;have HK0:=G (hK.ext HE0.out);have HR0:=G (hR.keep (.of_ext HE0.out) (Q:=P) (fun b hb _=>hb));clear hK hR hB0;have HF:=G (fun W=>show Calls prog 65 #[.string ⟨#[]⟩, .int .i64 16] W fun e w'=>e=aY [] 16/\au W w' from dT [] 16 W);go_enter func176,ntmps176;go_wp2_with (go_at_call 65;refine(HF.out _).mono ?_;unfold aY;rintro e w1 ⟨rfl,hE⟩;have HX:=G (HE0.out.trans hE);clear hE);exact⟨rfl,by rw[HE.out];rfl,HX.out⟩
 by_cases h5:k=5
 ·subst h5;have HC:=G (hC rfl);have HD:=G (show rA gl lo (.mk 5 op nm tx v xs)=Rv by rw[HD.out,rA]);have HE0:=G (aa w (.cells #[.int .i64 5, .string (an op), .string (an nm), .string (an tx), .int .i64 v, .slice A n c] 206));have hB0:=aw w 206 #[.int .i64 5, .string (an op), .string (an nm), .string (an tx), .int .i64 v, .slice A n c];have HB0:=G hB0;have HK0:=G (hK.ext HE0.out);have HR0:=G (hR.keep (.of_ext HE0.out) (Q:=P) (fun b hb _=>hb));clear hK hR hB0
  cases hr:rA gl lo (.mk 5 op nm tx v xs)with
  |ok u=>
   have HE:=G (HD.out.symm.trans hr);go_enter func176,ntmps176;go_wp2_with (go_at_call 218;refine(HC.out X gl lv lo P _ A n c HK0.out HR0.out).mono ?_;rw[hr];unfold cg;rintro e w1 ⟨rfl,hE⟩;have HX:=G (HE0.out.trans hE);clear hE);exact bodyPost_end (results_none rfl _ _ _) rfl ⟨by rw[HE.out];rfl,HX.out⟩
  |error q=>
   obtain⟨qn,m⟩:=q;have HE:=G (HD.out.symm.trans hr);go_enter func176,ntmps176;go_wp2_with (go_at_call 218;refine(HC.out X gl lv lo P _ A n c HK0.out HR0.out).mono ?_;rw[hr];unfold cg aY;rintro e w1 ⟨rfl,hE⟩;have HX:=G (HE0.out.trans hE);clear hE);exact⟨rfl,by rw[HE.out];rfl,HX.out⟩
 by_cases h6:k=6
 ·subst h6;have hE:=HD.out;rw[if_neg (by decide),if_neg (by decide),if_neg (by decide),if_neg (by decide),if_pos (by decide)]at hE;have HE0:=G (aa w (.cells #[.int .i64 6, .string (an op), .string (an nm), .string (an tx), .int .i64 v, .slice A n c] 206));have hB0:=aw w 206 #[.int .i64 6, .string (an op), .string (an nm), .string (an tx), .int .i64 v, .slice A n c];have HB0:=G hB0;have HK0:=G (hK.ext HE0.out);have HR0:=G (hR.keep (.of_ext HE0.out) (Q:=P) (fun b hb _=>hb));clear hK hR hB0
  cases hr:rg gl lo xs with
  |ok u=>
   have HE:=G (hE.trans hr);go_enter func176,ntmps176;go_wp2_with (go_at_call 126;refine(hLs X gl lv lo P _ A n c HK0.out HR0.out).mono ?_;rw[hr];unfold cg;rintro e w1 ⟨rfl,hE⟩;have HX:=G (HE0.out.trans hE);clear hE);exact bodyPost_end (results_none rfl _ _ _) rfl ⟨by rw[HE.out];rfl,HX.out⟩
  |error q=>
   obtain⟨qn,m⟩:=q;have HE:=G (hE.trans hr);go_enter func176,ntmps176;go_wp2_with (go_at_call 126;refine(hLs X gl lv lo P _ A n c HK0.out HR0.out).mono ?_;rw[hr];unfold cg aY;rintro e w1 ⟨rfl,hE⟩;have HX:=G (HE0.out.trans hE);clear hE);exact⟨rfl,by rw[HE.out];rfl,HX.out⟩
 by_cases h7:k=7
 ·subst h7;have hE:=HD.out;rw[if_neg (by decide),if_neg (by decide),if_neg (by decide),if_neg (by decide),if_pos (by decide)]at hE;have HE0:=G (aa w (.cells #[.int .i64 7, .string (an op), .string (an nm), .string (an tx), .int .i64 v, .slice A n c] 206));have hB0:=aw w 206 #[.int .i64 7, .string (an op), .string (an nm), .string (an tx), .int .i64 v, .slice A n c];have HB0:=G hB0;have HK0:=G (hK.ext HE0.out);have HR0:=G (hR.keep (.of_ext HE0.out) (Q:=P) (fun b hb _=>hb));clear hK hR hB0
  cases hr:rg gl lo xs with
  |ok u=>
   have HE:=G (hE.trans hr);go_enter func176,ntmps176;go_wp2_with (go_at_call 126;refine(hLs X gl lv lo P _ A n c HK0.out HR0.out).mono ?_;rw[hr];unfold cg;rintro e w1 ⟨rfl,hE⟩;have HX:=G (HE0.out.trans hE);clear hE);exact bodyPost_end (results_none rfl _ _ _) rfl ⟨by rw[HE.out];rfl,HX.out⟩
  |error q=>
   obtain⟨qn,m⟩:=q;have HE:=G (hE.trans hr);go_enter func176,ntmps176;go_wp2_with (go_at_call 126;refine(hLs X gl lv lo P _ A n c HK0.out HR0.out).mono ?_;rw[hr];unfold cg aY;rintro e w1 ⟨rfl,hE⟩;have HX:=G (HE0.out.trans hE);clear hE);exact⟨rfl,by rw[HE.out];rfl,HX.out⟩
 have hE:=HD.out;rw[if_neg h3,if_neg h4,if_neg h2,if_neg h5,if_neg (by omega)]at hE;have HE:=G hE;have HX:=G (aa w (.cells #[.int .i64 k, .string (an op), .string (an nm), .string (an tx), .int .i64 v, .slice A n c] 206));have q3:=beq_eq_false_iff_ne.2 h3;have q4:=beq_eq_false_iff_ne.2 h4;have q2:=beq_eq_false_iff_ne.2 h2;have q5:=beq_eq_false_iff_ne.2 h5;have q6:=beq_eq_false_iff_ne.2 h6;have q7:=beq_eq_false_iff_ne.2 h7;clear hK hR;go_enter func176,ntmps176;go_wp2_with fail;exact bodyPost_end (results_none rfl _ _ _) rfl ⟨by rw[HE.out];rfl,HX.out⟩
theorem pJ: ∀(m:Nat) (x:Ex),x.wt<=m->x.wt<=1073741824->Eh x
 |0,x,h,_=>absurd h (by have:=x.wt_eq;omega)
 |m+1, .mk k op nm tx v xs,h,hw=>by
  rw[Ex.wt]at h hw;have hIH: ∀y∈xs,Eh y:=fun y hy=>pJ m y (by have:=dO hy;omega) (by have:=dO hy;omega);have hl:=dI xs;have hY2: ∀y∈xs,y.nm.length<=1073741824:=fun y hy=>by have:=dO hy;have:=y.wt_eq;omega
  refine tF k op nm tx v xs (by omega) (pY xs (by omega) hIH) fun hk=> ?_
  cases hb:fx nm with
  |none=>exact tH op nm tx v xs (by omega) (by omega) hb hIH
  |some b=>
   obtain⟨bc,ls⟩:=b;have hls:=vB nm;rw[hb]at hls;exact tG op nm tx v xs (by omega) (by omega) bc ls hb hls hIH hY2
theorem tE (xs:List Ex) (h:jF xs<=1073741824):Cj xs:=pY xs (by have:=dI xs;omega) fun y hy=>pJ _ y (ah _) (by have:=dO hy;omega)
end
section
open Go.RowKit
def oS (X:CB) (gl:Gl) (bl:Nat) (r:SR) (w:World) (e:Ending) (w':World):Prop:=w.grownBy w' (some bl)/\match r with
 | .ok lo=>e= .returned (.tuple #[])/\CK X gl (.map (some bl)) lo w'
 | .error (nm,n)=>e=aY nm n
section
variable {X:CB} {gl:Gl} {lo lo':Ls} {w W W':World} {bl pb:Nat} {P:Nat->Prop}
theorem CK.ml (h:CK X gl (.map (some bl)) lo w):b7 w bl (DA lo)/\bl≠X.g/\bl≠X.bi/\bl≠X.ba/\bl≠X.bf:=by
 rcases h.l with⟨h,_⟩|⟨b,h,hm⟩
 ·cases h
 ·injection h with h;injection h with h;subst h;exact hm
theorem CK.lt_bl (h:CK X gl (.map (some bl)) lo w):bl<w.heap.size:=h.ml.1.lt
theorem CK.t_ne (h:CK X gl (.map (some bl)) lo w):bl≠1:=by
 rintro rfl;obtain⟨t,fr,ht⟩:=h.t;obtain⟨es,c,hm,_⟩:=h.ml.1;rw[ht]at hm;cases hm
theorem CK.add {nm:List UInt8} (h:CK X gl (.map (some bl)) lo w) (hm:b7 W bl ((DA lo).upd nm (.bool true))) (hg:w.grownBy W (some bl)):CK X gl (.map (some bl)) (lo.add nm) W:=by
 obtain⟨h0,h1,h2,h3,h4⟩:=h.ml;have ne: ∀k,bl≠k->some k≠some bl:=fun k hk e=>hk (by injection e with e;exact e.symm);refine⟨h.blk.grown hg (ne _ h1),h.i.grown hg (ne _ h2),h.a.grown hg (ne _ h3),h.f.grown hg (ne _ h4), .inr ⟨bl,rfl,hm.congr fun s=> ?_,h1,h2,h3,h4⟩,?_⟩
 ·unfold KF.upd DA Ls.add;by_cases e:s=nm
  ·subst e;simp
  ·simp[e]
 ·obtain⟨t,fr,ht⟩:=h.t;exact⟨t,fr,(hg.block _ (Array.getElem?_eq_some_iff.1 ht).1 (ne _ h.t_ne)).trans ht⟩
structure SQ (w:World) (pb bl:Nat) (P:Nat->Prop) (X:CB) (gl:Gl) (lo:Ls) (cs:Array Value) (ex:List Ex) (bd el:List St) (A1 A2 A3:Option Addr) (c1 c2 c3:Nat) (W:World):Prop where
 gr:w.grownBy W (some bl)
 ck:CK X gl (.map (some bl)) lo W
 bk:aP W pb 147 cs
 re:et W P (.slice A1 ex.length c1) ex
 rb:dS W P (.slice A2 bd.length c2) bd
 rl:dS W P (.slice A3 el.length c3) el
 hP: ∀b,P b->b≠bl
 ne:bl≠pb
variable {cs:Array Value} {ex:List Ex} {bd el:List St} {A1 A2 A3:Option Addr} {c1 c2 c3:Nat}
theorem SQ.ext (h:SQ w pb bl P X gl lo cs ex bd el A1 A2 A3 c1 c2 c3 W) (he:au W W'):SQ w pb bl P X gl lo cs ex bd el A1 A2 A3 c1 c2 c3 W':=
 ⟨h.gr.trans (he.grownBy _),h.ck.ext he,h.bk.ext he,h.re.keep (.of_ext he) (fun b hb _=>hb),h.rb.keep (.of_ext he) (fun b hb _=>hb),h.rl.keep (.of_ext he) (fun b hb _=>hb),h.hP,h.ne⟩
theorem SQ.grown (h:SQ w pb bl P X gl lo cs ex bd el A1 A2 A3 c1 c2 c3 W) (hg:W.grownBy W' (some bl)) (hc:CK X gl (.map (some bl)) lo' W'):SQ w pb bl P X gl lo' cs ex bd el A1 A2 A3 c1 c2 c3 W':=by
 have hk:dm P W W':= .of_grown hg (fun b hb e=>h.hP b hb (by injection e));exact⟨h.gr.trans hg,hc,h.bk.grown hg (fun e=>h.ne (by injection e with e;exact e.symm)),h.re.keep hk (fun b hb _=>hb),h.rb.keep hk (fun b hb _=>hb),h.rl.keep hk (fun b hb _=>hb),h.hP,h.ne⟩
theorem SQ.ml (h:SQ w pb bl P X gl lo cs ex bd el A1 A2 A3 c1 c2 c3 W):b7 W bl (DA lo):=h.ck.ml.1
end
theorem w_ {gl:Gl} {lo:Ls} {l:List St} {j:Nat} (h:j<l.length):gR gl lo (l.drop j)=CR.then (DQ gl lo l[j]) fun lo1=>gR gl lo1 (l.drop (j+1)):=by
 rw[am h,gR]
def Ci (xs:List St):Prop:= ∀(X:CB) (gl:Gl) (bl:Nat) (lo:Ls) (P:Nat->Prop) (w:World) (A:Option Addr) (n c:Nat),CK X gl (.map (some bl)) lo w->dS w P (.slice A n c) xs->(∀b,P b->b≠bl)->
 Calls prog 66 #[X.p, .slice A n c] w (oS X gl bl (gR gl lo xs) w)
theorem nS (xs:List St) (hl:xs.length<=1073741824) (hnmx: ∀s∈xs,s.nm.length<=1073741824) (hEx: ∀s∈xs,Cj s.ex) (hIH: ∀s∈xs,Ci s.body/\Ci s.els):Ci xs:=by
 intro X gl bl lo P w A n c hK hR hP;obtain⟨A',c',hv,hf⟩:=hR.form;injection hv with hv1 hv2 hv3;subst hv1 hv2 hv3;have HR:=G hR;have HI:=G hIH;have HNM:=G hnmx;have HEXS:=G hEx;have HK0:=G hK;obtain⟨N,hN⟩: ∃N,xs.length=N:=⟨_,rfl⟩
 have HN:=G hN;rw[hN]at HR hl;obtain⟨Rv,hRv⟩: ∃R,gR gl lo xs=R:=⟨_,rfl⟩
 have HQ0:=G (show gR gl lo (xs.drop 0)=Rv from hRv);have HX0:=G (World.grownBy.refl w (some bl));clear hR hf hIH hK hnmx hEx;rw[hN,hRv];clear hN hRv;simp only[CB.p]at*;go_enter func66,ntmps66;go_wp2_with fail
 go_loopw [8] (fun vi wr=> ∃(j:Nat) (loj:Ls),vi= .int .i64 (j:Int)/\j<=N/\Hid (gR gl loj (xs.drop j)=Rv)/\Hid (w.grownBy wr (some bl))/\Hid (CK X gl (.map (some bl)) loj wr)) (fun vi _=>N-(intOf vi).toNat)
 case atStart=>exact⟨0,lo,rfl,aC _,HQ0,HX0,HK0⟩
 case round=>
  obtain⟨j,loj,rfl,hj,HQR,HX,HKj⟩:=hrel;by_cases hlt:j<N
  ·have hlt':(j:Int)<N:=by omega
   have hjl:j<xs.length:=by have:=HN.out;omega
   obtain⟨b,o,e,bv,lv,rfl,hb,hPb,h0,h1,h2,h3,h4,hRe,hRb,hRl⟩:=HR.out.at_ j hjl;have hS:=w_ (gl:=gl) (lo:=loj) hjl;have hnm:=HNM.out _ (ap hjl);have hEX:=HEXS.out _ (ap hjl);have hII:=HI.out _ (ap hjl);obtain⟨y,hy⟩: ∃y,xs[j]=y:=⟨_,rfl⟩
   rw[hy]at h0 h1 hRe hRb hRl hS hnm hEX hII;clear hy;obtain⟨k,nm,ex,bd,el⟩:=y;simp only[St.k,St.nm,St.ex,St.body,St.els]at h0 h1 hRe hRb hRl hnm hEX hII;have hKP:dm P w wr:= .of_grown HX.out (fun b hb e=>hP b hb (by injection e));have e0:=(hKP.cell _ hPb hb).trans h0;have e1:=(hKP.cell _ hPb hb).trans h1;have e2:=(hKP.cell _ hPb hb).trans h2;have e3:=(hKP.cell _ hPb hb).trans h3;have e4:=(hKP.cell _ hPb hb).trans h4;obtain⟨A1,c1,rfl,_⟩:=hRe.form;obtain⟨A2,c2,rfl,_⟩:=hRb.form;obtain⟨A3,c3,rfl,_⟩:=hRl.form;have hAl:=aa wr (.cells #[.int .i64 k, .string (an nm), .slice A1 ex.length c1, .slice A2 bd.length c2, .slice A3 el.length c3] 147)
   have HQ:=G (show SQ w wr.heap.size bl P X gl loj #[.int .i64 k, .string (an nm), .slice A1 ex.length c1, .slice A2 bd.length c2, .slice A3 el.length c3] ex bd el A1 A2 A3 c1 c2 c3 (wr.alloc (.cells #[.int .i64 k, .string (an nm), .slice A1 ex.length c1, .slice A2 bd.length c2, .slice A3 el.length c3] 147))from
    ⟨HX.out.trans (hAl.grownBy _),HKj.out.ext hAl,aw wr _ _,(hRe.keep hKP (Q:=P) (fun b hb _=>hb)).keep (.of_ext hAl) (fun b hb _=>hb),(hRb.keep hKP (Q:=P) (fun b hb _=>hb)).keep (.of_ext hAl) (fun b hb _=>hb),(hRl.keep hKP (Q:=P) (fun b hb _=>hb)).keep (.of_ext hAl) (fun b hb _=>hb),hP,fu HKj.out.lt_bl⟩)
   have HEX:=G hEX;have HB1:=G hII.1;have HL1:=G hII.2;clear h0 h1 h2 h3 h4 hRe hRb hRl hEX hII hAl hKP HR HI HEXS HNM;rw[DQ]at hS;by_cases hk2:k=2
   ·subst hk2;rw[if_pos rfl]at hS
    cases hr1:p9 gl loj nm with
    |error q=>
     obtain⟨qn,m⟩:=q;rw[hr1,fH]at hS;have HFn:=G (show Rv= .error (qn,m)from HQR.out.symm.trans hS);go_wp2_with (go_at_call 124;refine(eL X gl _ loj _ HQ.out.ck nm hnm).mono ?_;rw[hr1];unfold cg aY;rintro e wx ⟨rfl,hE⟩;have HZ:=G (HQ.out.gr.trans (hE.grownBy _));clear hE);exact⟨rfl,by rw[HFn.out];exact⟨HZ.out,rfl⟩⟩
    |ok u=>
     rw[hr1,eP]at hS
     cases hr2:rg gl loj ex with
     |error q=>
      obtain⟨qn,m⟩:=q;rw[hr2,fH]at hS;have HFn:=G (show Rv= .error (qn,m)from HQR.out.symm.trans hS);go_wp2_with (first|(go_at_call 124;refine(eL X gl _ loj _ HQ.out.ck nm hnm).mono ?_;rw[hr1];unfold cg;rintro e wx ⟨rfl,hE⟩;replace HQ:=G (HQ.out.ext hE);clear hE;(try clear f0);have f0:=HQ.out.bk.cell;)|(go_at_call 126;refine(HEX.out X gl _ loj P _ A1 ex.length c1 HQ.out.ck HQ.out.re).mono ?_;rw[hr2];unfold cg aY;rintro e wx ⟨rfl,hE⟩;have HZ:=G (HQ.out.gr.trans (hE.grownBy _));clear hE));exact⟨rfl,by rw[HFn.out];exact⟨HZ.out,rfl⟩⟩
     |ok u=>
      rw[hr2,eP]at hS;rw[if_neg (by decide),eP]at hS;obtain⟨lo1,hlo1⟩: ∃l,loj=l:=⟨_,rfl⟩
      subst hlo1
      cases hr4:gR gl loj bd with
      |error q=>
       obtain⟨qn,m⟩:=q;rw[hr4,fH]at hS;have HFn:=G (show Rv= .error (qn,m)from HQR.out.symm.trans hS);go_wp2_with (first|(go_at_call 124;refine(eL X gl _ loj _ HQ.out.ck nm hnm).mono ?_;rw[hr1];unfold cg;rintro e wx ⟨rfl,hE⟩;replace HQ:=G (HQ.out.ext hE);clear hE;(try clear f0);have f0:=HQ.out.bk.cell;)|(go_at_call 126;refine(HEX.out X gl _ loj P _ A1 ex.length c1 HQ.out.ck HQ.out.re).mono ?_;rw[hr2];unfold cg;rintro e wx ⟨rfl,hE⟩;replace HQ:=G (HQ.out.ext hE);clear hE;(try clear f0);have f0:=HQ.out.bk.cell;)|(go_at_call 66;have hc:=HB1.out X gl bl loj P _ A2 bd.length c2 HQ.out.ck HQ.out.rb hP;rw[hr4]at hc;clear HB1;refine hc.mono ?_;unfold oS aY;rintro e wx ⟨hg,rfl⟩;have HZ:=G (HQ.out.gr.trans hg);clear hg hc));exact⟨rfl,by rw[HFn.out];exact⟨HZ.out,rfl⟩⟩
      |ok lo2=>
       rw[hr4,eP]at hS
       cases hr5:gR gl lo2 el with
       |error q=>
        obtain⟨qn,m⟩:=q;rw[hr5,fH]at hS;have HFn:=G (show Rv= .error (qn,m)from HQR.out.symm.trans hS);go_wp2_with (first|(go_at_call 124;refine(eL X gl _ loj _ HQ.out.ck nm hnm).mono ?_;rw[hr1];unfold cg;rintro e wx ⟨rfl,hE⟩;replace HQ:=G (HQ.out.ext hE);clear hE;(try clear f0);have f0:=HQ.out.bk.cell;)|(go_at_call 126;refine(HEX.out X gl _ loj P _ A1 ex.length c1 HQ.out.ck HQ.out.re).mono ?_;rw[hr2];unfold cg;rintro e wx ⟨rfl,hE⟩;replace HQ:=G (HQ.out.ext hE);clear hE;(try clear f0);have f0:=HQ.out.bk.cell;)|(go_at_call 66;have hc:=HB1.out X gl bl loj P _ A2 bd.length c2 HQ.out.ck HQ.out.rb hP;rw[hr4]at hc;clear HB1;refine hc.mono ?_;unfold oS;rintro e wx ⟨hg,rfl,hck⟩;replace HQ:=G (HQ.out.grown hg hck);clear hg hck hc;(try clear f0);have f0:=HQ.out.bk.cell;)|(go_at_call 66;have hc:=HL1.out X gl bl lo2 P _ A3 el.length c3 HQ.out.ck HQ.out.rl hP;rw[hr5]at hc;clear HL1;refine hc.mono ?_;unfold oS aY;rintro e wx ⟨hg,rfl⟩;have HZ:=G (HQ.out.gr.trans hg);clear hg hc));exact⟨rfl,by rw[HFn.out];exact⟨HZ.out,rfl⟩⟩
       |ok lo3=>
        rw[hr5,eP]at hS;go_wp2_with (first|(go_at_call 124;refine(eL X gl _ loj _ HQ.out.ck nm hnm).mono ?_;rw[hr1];unfold cg;rintro e wx ⟨rfl,hE⟩;replace HQ:=G (HQ.out.ext hE);clear hE;(try clear f0);have f0:=HQ.out.bk.cell;)|(go_at_call 126;refine(HEX.out X gl _ loj P _ A1 ex.length c1 HQ.out.ck HQ.out.re).mono ?_;rw[hr2];unfold cg;rintro e wx ⟨rfl,hE⟩;replace HQ:=G (HQ.out.ext hE);clear hE;(try clear f0);have f0:=HQ.out.bk.cell;)|(go_at_call 66;have hc:=HB1.out X gl bl loj P _ A2 bd.length c2 HQ.out.ck HQ.out.rb hP;rw[hr4]at hc;clear HB1;refine hc.mono ?_;unfold oS;rintro e wx ⟨hg,rfl,hck⟩;replace HQ:=G (HQ.out.grown hg hck);clear hg hck hc;(try clear f0);have f0:=HQ.out.bk.cell;)|(go_at_call 66;have hc:=HL1.out X gl bl lo2 P _ A3 el.length c3 HQ.out.ck HQ.out.rl hP;rw[hr5]at hc;clear HL1;refine hc.mono ?_;unfold oS;rintro e wx ⟨hg,rfl,hck⟩;replace HQ:=G (HQ.out.grown hg hck);clear hg hck hc;(try clear f0);have f0:=HQ.out.bk.cell;));go_roundw
        case rel=>exact⟨j+1,lo3,by go_num,by omega,G (hS.symm.trans HQR.out),G HQ.out.gr,G HQ.out.ck⟩
        case measure=>simp[intOf];omega
   by_cases hk3:k=3
   ·subst hk3;rw[if_neg (by decide),if_pos rfl]at hS
    cases hr1:kZ gl loj nm with
    |error q=>
     obtain⟨qn,m⟩:=q;rw[hr1,fH]at hS;have HFn:=G (show Rv= .error (qn,m)from HQR.out.symm.trans hS);go_wp2_with (go_at_call 125;refine(ef X gl _ loj _ HQ.out.ck nm hnm).mono ?_;rw[hr1];unfold cg aY;rintro e wx ⟨rfl,hE⟩;have HZ:=G (HQ.out.gr.trans (hE.grownBy _));clear hE);exact⟨rfl,by rw[HFn.out];exact⟨HZ.out,rfl⟩⟩
    |ok u=>
     rw[hr1,eP]at hS
     cases hr2:rg gl loj ex with
     |error q=>
      obtain⟨qn,m⟩:=q;rw[hr2,fH]at hS;have HFn:=G (show Rv= .error (qn,m)from HQR.out.symm.trans hS);go_wp2_with (first|(go_at_call 125;refine(ef X gl _ loj _ HQ.out.ck nm hnm).mono ?_;rw[hr1];unfold cg;rintro e wx ⟨rfl,hE⟩;replace HQ:=G (HQ.out.ext hE);clear hE;(try clear f0);have f0:=HQ.out.bk.cell;)|(go_at_call 126;refine(HEX.out X gl _ loj P _ A1 ex.length c1 HQ.out.ck HQ.out.re).mono ?_;rw[hr2];unfold cg aY;rintro e wx ⟨rfl,hE⟩;have HZ:=G (HQ.out.gr.trans (hE.grownBy _));clear hE));exact⟨rfl,by rw[HFn.out];exact⟨HZ.out,rfl⟩⟩
     |ok u=>
      rw[hr2,eP]at hS;rw[if_neg (by decide),eP]at hS;obtain⟨lo1,hlo1⟩: ∃l,loj=l:=⟨_,rfl⟩
      subst hlo1
      cases hr4:gR gl loj bd with
      |error q=>
       obtain⟨qn,m⟩:=q;rw[hr4,fH]at hS;have HFn:=G (show Rv= .error (qn,m)from HQR.out.symm.trans hS);go_wp2_with (first|(go_at_call 125;refine(ef X gl _ loj _ HQ.out.ck nm hnm).mono ?_;rw[hr1];unfold cg;rintro e wx ⟨rfl,hE⟩;replace HQ:=G (HQ.out.ext hE);clear hE;(try clear f0);have f0:=HQ.out.bk.cell;)|(go_at_call 126;refine(HEX.out X gl _ loj P _ A1 ex.length c1 HQ.out.ck HQ.out.re).mono ?_;rw[hr2];unfold cg;rintro e wx ⟨rfl,hE⟩;replace HQ:=G (HQ.out.ext hE);clear hE;(try clear f0);have f0:=HQ.out.bk.cell;)|(go_at_call 66;have hc:=HB1.out X gl bl loj P _ A2 bd.length c2 HQ.out.ck HQ.out.rb hP;rw[hr4]at hc;clear HB1;refine hc.mono ?_;unfold oS aY;rintro e wx ⟨hg,rfl⟩;have HZ:=G (HQ.out.gr.trans hg);clear hg hc));exact⟨rfl,by rw[HFn.out];exact⟨HZ.out,rfl⟩⟩
      |ok lo2=>
       rw[hr4,eP]at hS
       cases hr5:gR gl lo2 el with
       |error q=>
        obtain⟨qn,m⟩:=q;rw[hr5,fH]at hS;have HFn:=G (show Rv= .error (qn,m)from HQR.out.symm.trans hS);go_wp2_with (first|(go_at_call 125;refine(ef X gl _ loj _ HQ.out.ck nm hnm).mono ?_;rw[hr1];unfold cg;rintro e wx ⟨rfl,hE⟩;replace HQ:=G (HQ.out.ext hE);clear hE;(try clear f0);have f0:=HQ.out.bk.cell;)|(go_at_call 126;refine(HEX.out X gl _ loj P _ A1 ex.length c1 HQ.out.ck HQ.out.re).mono ?_;rw[hr2];unfold cg;rintro e wx ⟨rfl,hE⟩;replace HQ:=G (HQ.out.ext hE);clear hE;(try clear f0);have f0:=HQ.out.bk.cell;)|(go_at_call 66;have hc:=HB1.out X gl bl loj P _ A2 bd.length c2 HQ.out.ck HQ.out.rb hP;rw[hr4]at hc;clear HB1;refine hc.mono ?_;unfold oS;rintro e wx ⟨hg,rfl,hck⟩;replace HQ:=G (HQ.out.grown hg hck);clear hg hck hc;(try clear f0);have f0:=HQ.out.bk.cell;)|(go_at_call 66;have hc:=HL1.out X gl bl lo2 P _ A3 el.length c3 HQ.out.ck HQ.out.rl hP;rw[hr5]at hc;clear HL1;refine hc.mono ?_;unfold oS aY;rintro e wx ⟨hg,rfl⟩;have HZ:=G (HQ.out.gr.trans hg);clear hg hc));exact⟨rfl,by rw[HFn.out];exact⟨HZ.out,rfl⟩⟩
       |ok lo3=>
        rw[hr5,eP]at hS;go_wp2_with (first|(go_at_call 125;refine(ef X gl _ loj _ HQ.out.ck nm hnm).mono ?_;rw[hr1];unfold cg;rintro e wx ⟨rfl,hE⟩;replace HQ:=G (HQ.out.ext hE);clear hE;(try clear f0);have f0:=HQ.out.bk.cell;)|(go_at_call 126;refine(HEX.out X gl _ loj P _ A1 ex.length c1 HQ.out.ck HQ.out.re).mono ?_;rw[hr2];unfold cg;rintro e wx ⟨rfl,hE⟩;replace HQ:=G (HQ.out.ext hE);clear hE;(try clear f0);have f0:=HQ.out.bk.cell;)|(go_at_call 66;have hc:=HB1.out X gl bl loj P _ A2 bd.length c2 HQ.out.ck HQ.out.rb hP;rw[hr4]at hc;clear HB1;refine hc.mono ?_;unfold oS;rintro e wx ⟨hg,rfl,hck⟩;replace HQ:=G (HQ.out.grown hg hck);clear hg hck hc;(try clear f0);have f0:=HQ.out.bk.cell;)|(go_at_call 66;have hc:=HL1.out X gl bl lo2 P _ A3 el.length c3 HQ.out.ck HQ.out.rl hP;rw[hr5]at hc;clear HL1;refine hc.mono ?_;unfold oS;rintro e wx ⟨hg,rfl,hck⟩;replace HQ:=G (HQ.out.grown hg hck);clear hg hck hc;(try clear f0);have f0:=HQ.out.bk.cell;));go_roundw
        case rel=>exact⟨j+1,lo3,by go_num,by omega,G (hS.symm.trans HQR.out),G HQ.out.gr,G HQ.out.ck⟩
        case measure=>simp[intOf];omega
   by_cases hk1:k=1
   ·subst hk1;rw[if_neg (by decide),if_neg (by decide),eP]at hS
    cases hr2:rg gl loj ex with
    |error q=>
     obtain⟨qn,m⟩:=q;rw[hr2,fH]at hS;have HFn:=G (show Rv= .error (qn,m)from HQR.out.symm.trans hS);go_wp2_with (go_at_call 126;refine(HEX.out X gl _ loj P _ A1 ex.length c1 HQ.out.ck HQ.out.re).mono ?_;rw[hr2];unfold cg aY;rintro e wx ⟨rfl,hE⟩;have HZ:=G (HQ.out.gr.trans (hE.grownBy _));clear hE);exact⟨rfl,by rw[HFn.out];exact⟨HZ.out,rfl⟩⟩
    |ok u=>
     rw[hr2,eP]at hS;rw[if_pos rfl]at hS
     cases hr3:gl.known loj nm with
     |true=>
      rw[hr3,if_pos rfl,fH]at hS;have HFn:=G (show Rv= .error (nm,9)from HQR.out.symm.trans hS);go_wp2_with (first|(go_at_call 126;refine(HEX.out X gl _ loj P _ A1 ex.length c1 HQ.out.ck HQ.out.re).mono ?_;rw[hr2];unfold cg;rintro e wx ⟨rfl,hE⟩;replace HQ:=G (HQ.out.ext hE);clear hE;(try clear f0);have f0:=HQ.out.bk.cell;)|(go_at_call 64;refine(dU X gl _ loj _ HQ.out.ck nm hnm).mono ?_;rw[hr3];rintro e wx ⟨rfl,hE⟩;replace HQ:=G (HQ.out.ext hE);clear hE;(try clear f0);have f0:=HQ.out.bk.cell;)|(go_at_call 65;refine(dT nm 9 _).mono ?_;unfold aY;rintro e wx ⟨rfl,hE⟩;have HZ:=G (HQ.out.gr.trans (hE.grownBy _));clear hE));exact⟨rfl,by rw[HFn.out];exact⟨HZ.out,rfl⟩⟩
     |false=>
      rw[hr3,if_neg (by decide),eP]at hS;obtain⟨lo1,hlo1⟩: ∃l,loj.add nm=l:=⟨_,rfl⟩
      rw[hlo1]at hS
      cases hr4:gR gl lo1 bd with
      |error q=>
       obtain⟨qn,m⟩:=q;rw[hr4,fH]at hS;have HFn:=G (show Rv= .error (qn,m)from HQR.out.symm.trans hS);go_wp2_with (first|(go_at_call 126;refine(HEX.out X gl _ loj P _ A1 ex.length c1 HQ.out.ck HQ.out.re).mono ?_;rw[hr2];unfold cg;rintro e wx ⟨rfl,hE⟩;replace HQ:=G (HQ.out.ext hE);clear hE;(try clear f0);have f0:=HQ.out.bk.cell;)|(go_at_call 64;refine(dU X gl _ loj _ HQ.out.ck nm hnm).mono ?_;rw[hr3];rintro e wx ⟨rfl,hE⟩;replace HQ:=G (HQ.out.ext hE);clear hE;(try clear f0);have f0:=HQ.out.bk.cell;));refine ay 6 1 [] mixed (by kernel_rfl) trivial ?_;repeat (refine sx ?_ (fun w1 hU=> ?_) ?_;rotate_left;(focus have f0:=(HQ.out.ext hU.un).bk.cell;have fk:=(HQ.out.ext hU.un).ck.blk.cell;clear hU;go_simp<;>with_reducible rfl);simp only[bH,bG,bF,bE,bD])
       intro w7 hw7 _;simp only[ac,aq];replace HQ:=G (HQ.out.ext hw7.un);clear hw7;(try clear f0);go_wp2_with (at_mapUpdate;refine ej Cz rfl _ _ _ rfl HQ.out.ml rfl (by unfold maxLen;omega) rfl _ rfl ?_;intro w8 hm8 hg8;replace HQ:=G (HQ.out.grown hg8 (HQ.out.ck.add hm8 hg8));clear hm8 hg8;have f0:=HQ.out.bk.cell);rw[hlo1]at HQ;go_wp2_with (go_at_call 66;have hc:=HB1.out X gl bl lo1 P _ A2 bd.length c2 HQ.out.ck HQ.out.rb hP;rw[hr4]at hc;clear HB1;refine hc.mono ?_;unfold oS aY;rintro e wx ⟨hg,rfl⟩;have HZ:=G (HQ.out.gr.trans hg);clear hg hc);exact⟨rfl,by rw[HFn.out];exact⟨HZ.out,rfl⟩⟩
      |ok lo2=>
       rw[hr4,eP]at hS
       cases hr5:gR gl lo2 el with
       |error q=>
        obtain⟨qn,m⟩:=q;rw[hr5,fH]at hS;have HFn:=G (show Rv= .error (qn,m)from HQR.out.symm.trans hS);go_wp2_with (first|(go_at_call 126;refine(HEX.out X gl _ loj P _ A1 ex.length c1 HQ.out.ck HQ.out.re).mono ?_;rw[hr2];unfold cg;rintro e wx ⟨rfl,hE⟩;replace HQ:=G (HQ.out.ext hE);clear hE;(try clear f0);have f0:=HQ.out.bk.cell;)|(go_at_call 64;refine(dU X gl _ loj _ HQ.out.ck nm hnm).mono ?_;rw[hr3];rintro e wx ⟨rfl,hE⟩;replace HQ:=G (HQ.out.ext hE);clear hE;(try clear f0);have f0:=HQ.out.bk.cell;));refine ay 6 1 [] mixed (by kernel_rfl) trivial ?_;repeat (refine sx ?_ (fun w1 hU=> ?_) ?_;rotate_left;(focus have f0:=(HQ.out.ext hU.un).bk.cell;have fk:=(HQ.out.ext hU.un).ck.blk.cell;clear hU;go_simp<;>with_reducible rfl);simp only[bH,bG,bF,bE,bD])
        intro w7 hw7 _;simp only[ac,aq];replace HQ:=G (HQ.out.ext hw7.un);clear hw7;(try clear f0);go_wp2_with (at_mapUpdate;refine ej Cz rfl _ _ _ rfl HQ.out.ml rfl (by unfold maxLen;omega) rfl _ rfl ?_;intro w8 hm8 hg8;replace HQ:=G (HQ.out.grown hg8 (HQ.out.ck.add hm8 hg8));clear hm8 hg8;have f0:=HQ.out.bk.cell);rw[hlo1]at HQ;go_wp2_with (first|(go_at_call 66;have hc:=HB1.out X gl bl lo1 P _ A2 bd.length c2 HQ.out.ck HQ.out.rb hP;rw[hr4]at hc;clear HB1;refine hc.mono ?_;unfold oS;rintro e wx ⟨hg,rfl,hck⟩;replace HQ:=G (HQ.out.grown hg hck);clear hg hck hc;(try clear f0);have f0:=HQ.out.bk.cell;)|(go_at_call 66;have hc:=HL1.out X gl bl lo2 P _ A3 el.length c3 HQ.out.ck HQ.out.rl hP;rw[hr5]at hc;clear HL1;refine hc.mono ?_;unfold oS aY;rintro e wx ⟨hg,rfl⟩;have HZ:=G (HQ.out.gr.trans hg);clear hg hc));exact⟨rfl,by rw[HFn.out];exact⟨HZ.out,rfl⟩⟩
       |ok lo3=>
        rw[hr5,eP]at hS;go_wp2_with (first|(go_at_call 126;refine(HEX.out X gl _ loj P _ A1 ex.length c1 HQ.out.ck HQ.out.re).mono ?_;rw[hr2];unfold cg;rintro e wx ⟨rfl,hE⟩;replace HQ:=G (HQ.out.ext hE);clear hE;(try clear f0);have f0:=HQ.out.bk.cell;)|(go_at_call 64;refine(dU X gl _ loj _ HQ.out.ck nm hnm).mono ?_;rw[hr3];rintro e wx ⟨rfl,hE⟩;replace HQ:=G (HQ.out.ext hE);clear hE;(try clear f0);have f0:=HQ.out.bk.cell;));refine ay 6 1 [] mixed (by kernel_rfl) trivial ?_;repeat (refine sx ?_ (fun w1 hU=> ?_) ?_;rotate_left;(focus have f0:=(HQ.out.ext hU.un).bk.cell;have fk:=(HQ.out.ext hU.un).ck.blk.cell;clear hU;go_simp<;>with_reducible rfl);simp only[bH,bG,bF,bE,bD])
        intro w7 hw7 _;simp only[ac,aq];replace HQ:=G (HQ.out.ext hw7.un);clear hw7;(try clear f0);go_wp2_with (at_mapUpdate;refine ej Cz rfl _ _ _ rfl HQ.out.ml rfl (by unfold maxLen;omega) rfl _ rfl ?_;intro w8 hm8 hg8;replace HQ:=G (HQ.out.grown hg8 (HQ.out.ck.add hm8 hg8));clear hm8 hg8;have f0:=HQ.out.bk.cell);rw[hlo1]at HQ;go_wp2_with (first|(go_at_call 66;have hc:=HB1.out X gl bl lo1 P _ A2 bd.length c2 HQ.out.ck HQ.out.rb hP;rw[hr4]at hc;clear HB1;refine hc.mono ?_;unfold oS;rintro e wx ⟨hg,rfl,hck⟩;replace HQ:=G (HQ.out.grown hg hck);clear hg hck hc;(try clear f0);have f0:=HQ.out.bk.cell;)|(go_at_call 66;have hc:=HL1.out X gl bl lo2 P _ A3 el.length c3 HQ.out.ck HQ.out.rl hP;rw[hr5]at hc;clear HL1;refine hc.mono ?_;unfold oS;rintro e wx ⟨hg,rfl,hck⟩;replace HQ:=G (HQ.out.grown hg hck);clear hg hck hc;(try clear f0);have f0:=HQ.out.bk.cell;));go_roundw
        case rel=>exact⟨j+1,lo3,by go_num,by omega,G (hS.symm.trans HQR.out),G HQ.out.gr,G HQ.out.ck⟩
        case measure=>simp[intOf];omega
   have n2:=beq_eq_false_iff_ne.2 hk2;have n3:=beq_eq_false_iff_ne.2 hk3;have n1:=beq_eq_false_iff_ne.2 hk1;rw[if_neg hk2,if_neg hk3,eP]at hS
   cases hr2:rg gl loj ex with
   |error q=>
    obtain⟨qn,m⟩:=q;rw[hr2,fH]at hS;have HFn:=G (show Rv= .error (qn,m)from HQR.out.symm.trans hS);go_wp2_with (go_at_call 126;refine(HEX.out X gl _ loj P _ A1 ex.length c1 HQ.out.ck HQ.out.re).mono ?_;rw[hr2];unfold cg aY;rintro e wx ⟨rfl,hE⟩;have HZ:=G (HQ.out.gr.trans (hE.grownBy _));clear hE);exact⟨rfl,by rw[HFn.out];exact⟨HZ.out,rfl⟩⟩
   |ok u=>
    rw[hr2,eP]at hS;rw[if_neg (hk1),eP]at hS;obtain⟨lo1,hlo1⟩: ∃l,loj=l:=⟨_,rfl⟩
    subst hlo1
    cases hr4:gR gl loj bd with
    |error q=>
     obtain⟨qn,m⟩:=q;rw[hr4,fH]at hS;have HFn:=G (show Rv= .error (qn,m)from HQR.out.symm.trans hS);go_wp2_with (first|(go_at_call 126;refine(HEX.out X gl _ loj P _ A1 ex.length c1 HQ.out.ck HQ.out.re).mono ?_;rw[hr2];unfold cg;rintro e wx ⟨rfl,hE⟩;replace HQ:=G (HQ.out.ext hE);clear hE;(try clear f0);have f0:=HQ.out.bk.cell;)|(go_at_call 66;have hc:=HB1.out X gl bl loj P _ A2 bd.length c2 HQ.out.ck HQ.out.rb hP;rw[hr4]at hc;clear HB1;refine hc.mono ?_;unfold oS aY;rintro e wx ⟨hg,rfl⟩;have HZ:=G (HQ.out.gr.trans hg);clear hg hc));exact⟨rfl,by rw[HFn.out];exact⟨HZ.out,rfl⟩⟩
    |ok lo2=>
     rw[hr4,eP]at hS
     cases hr5:gR gl lo2 el with
     |error q=>
      obtain⟨qn,m⟩:=q;rw[hr5,fH]at hS;have HFn:=G (show Rv= .error (qn,m)from HQR.out.symm.trans hS);go_wp2_with (first|(go_at_call 126;refine(HEX.out X gl _ loj P _ A1 ex.length c1 HQ.out.ck HQ.out.re).mono ?_;rw[hr2];unfold cg;rintro e wx ⟨rfl,hE⟩;replace HQ:=G (HQ.out.ext hE);clear hE;(try clear f0);have f0:=HQ.out.bk.cell;)|(go_at_call 66;have hc:=HB1.out X gl bl loj P _ A2 bd.length c2 HQ.out.ck HQ.out.rb hP;rw[hr4]at hc;clear HB1;refine hc.mono ?_;unfold oS;rintro e wx ⟨hg,rfl,hck⟩;replace HQ:=G (HQ.out.grown hg hck);clear hg hck hc;(try clear f0);have f0:=HQ.out.bk.cell;)|(go_at_call 66;have hc:=HL1.out X gl bl lo2 P _ A3 el.length c3 HQ.out.ck HQ.out.rl hP;rw[hr5]at hc;clear HL1;refine hc.mono ?_;unfold oS aY;rintro e wx ⟨hg,rfl⟩;have HZ:=G (HQ.out.gr.trans hg);clear hg hc));exact⟨rfl,by rw[HFn.out];exact⟨HZ.out,rfl⟩⟩
     |ok lo3=>
      rw[hr5,eP]at hS;go_wp2_with (first|(go_at_call 126;refine(HEX.out X gl _ loj P _ A1 ex.length c1 HQ.out.ck HQ.out.re).mono ?_;rw[hr2];unfold cg;rintro e wx ⟨rfl,hE⟩;replace HQ:=G (HQ.out.ext hE);clear hE;(try clear f0);have f0:=HQ.out.bk.cell;)|(go_at_call 66;have hc:=HB1.out X gl bl loj P _ A2 bd.length c2 HQ.out.ck HQ.out.rb hP;rw[hr4]at hc;clear HB1;refine hc.mono ?_;unfold oS;rintro e wx ⟨hg,rfl,hck⟩;replace HQ:=G (HQ.out.grown hg hck);clear hg hck hc;(try clear f0);have f0:=HQ.out.bk.cell;)|(go_at_call 66;have hc:=HL1.out X gl bl lo2 P _ A3 el.length c3 HQ.out.ck HQ.out.rl hP;rw[hr5]at hc;clear HL1;refine hc.mono ?_;unfold oS;rintro e wx ⟨hg,rfl,hck⟩;replace HQ:=G (HQ.out.grown hg hck);clear hg hck hc;(try clear f0);have f0:=HQ.out.bk.cell;));go_roundw
      case rel=>exact⟨j+1,lo3,by go_num,by omega,G (hS.symm.trans HQR.out),G HQ.out.gr,G HQ.out.ck⟩
      case measure=>simp[intOf];omega
  ·have hlt': ¬(j:Int)<N:=by omega
   have HFn:=G (show Rv= .ok loj by
    have:=HQR.out;rw[aI (by have:=HN.out;omega),gR]at this
    exact this.symm)
   go_wp2_with fail;exact bodyPost_end (results_none rfl _ _ _) rfl (by rw[HFn.out];exact⟨HX.out,rfl,HKj.out⟩)
theorem k': ∀(m:Nat) (xs:List St),gF xs<=m->gF xs<=1073741824->Ci xs
 |0,xs,h,hw=>nS xs (by have:=eo xs;omega) (fun s hs=>by have:=co hs;have:=s.wt_eq;omega) (fun s hs=>by have:=co hs;have:=s.wt_eq;omega) (fun s hs=>by have:=co hs;have:=s.wt_eq;omega)
 |m+1,xs,h,hw=>nS xs (by have:=eo xs;omega) (fun s hs=>by have:=co hs;have:=s.wt_eq;omega) (fun s hs=>tE s.ex (by have:=co hs;have:=s.wt_eq;omega))
   (fun s hs=>⟨k' m s.body (by have:=co hs;have:=s.wt_eq;omega) (by have:=co hs;have:=s.wt_eq;omega),k' m s.els (by have:=co hs;have:=s.wt_eq;omega) (by have:=co hs;have:=s.wt_eq;omega)⟩)
end
section
open Go.RowKit
theorem wA (w:World) (p:Value):let W0:=((w.alloc (.cells #[p] 122)).alloc (.cells #[.slice none 0 0, .slice none 0 0] 31)).alloc (.cells #[.slice none 0 0, .slice none 0 0] 31)
  au w W0/\aP W0 w.heap.size 122 #[p]/\aP W0 (w.heap.size+1) 31 #[.slice none 0 0, .slice none 0 0]/\aP W0 (w.heap.size+2) 31 #[.slice none 0 0, .slice none 0 0]:=by
 have h1:=aw (w.alloc (.cells #[p] 122)) 31 #[.slice none 0 0, .slice none 0 0];have h2:=aw ((w.alloc (.cells #[p] 122)).alloc (.cells #[.slice none 0 0, .slice none 0 0] 31)) 31 #[.slice none 0 0, .slice none 0 0];rw[World.size_alloc]at h1;rw[World.size_alloc,World.size_alloc]at h2;exact⟨((aa w _).alloc' _).alloc' _,((aw w _ _).alloc _).alloc _,h1.alloc _,h2⟩
theorem DD {w W:World} {g pr:Nat} {en:Int} {z0 z1:Value} {r:PR Pg} {q:List dW} (p:Pg) (A:Option Addr) (n c:Nat) (B:Option Addr) (m d:Nat) (hr:r= .ok (p,q)) (hpr:w.heap.size<=pr) (hB:aP W pr 31 #[z0,z1]) (hG:w.grownBy W (some g))
  (hV:nG W (fun b=>pr<b) (.slice A n c) p.vs) (hF:oT W (fun b=>pr<b) (.slice B m d) p.fs):
  (∀o,(W.setCells pr 0 [.slice A n c, .slice B m d]).cell? ⟨pr,o,none⟩=(#[.slice A n c, .slice B m d]:Array Value)[o]?)/\E' g en w r (.returned (.agg #[.slice A n c, .slice B m d])) (W.setCells pr 0 [.slice A n c, .slice B m d]):=by
 subst hr;have hc:=eI pr [.slice A n c, .slice B m d] 0 W;have hb:=(hB.set 0 (.slice A n c)).set 1 (.slice B m d);have hk:dm (fun b=>pr<b) W (W.setCells pr 0 [.slice A n c, .slice B m d]):= .of_grown hc fun b hb e=>by injection e with e;omega
 exact⟨fun o=>by have:=hb.cell o;simpa[World.setCells]using this,fw hG hc hpr,A,n,c,B,m,d,rfl,hV.keep hk (fun b hb _=>by omega),hF.keep hk (fun b hb _=>by omega)⟩
end
section
open Go.RowKit
end
section
open Go.RowKit
structure CB.Ok (X:CB):Prop where
 gi:X.g≠X.bi
 ga:X.g≠X.ba
 gf:X.g≠X.bf
 ia:X.bi≠X.ba
 jf:X.bi≠X.bf
 af:X.ba≠X.bf
abbrev CB.S (X:CB) (k:Nat):Prop:=k=X.bi\/k=X.ba\/k=X.bf
section
variable {X:CB} {gl:Gl} {lo lo':Ls} {w W:World}
theorem Ae {b:Nat} {L:KF} (h:BT w) (hm:b7 w b L):b≠1:=by
 rintro rfl;obtain⟨t,fr,ht⟩:=h;obtain⟨es,c,hm,_⟩:=hm;rw[ht]at hm;cases hm
theorem BT.grown {b:Nat} (h:BT w) (hg:w.grownBy W (some b)) (hb:b≠1):BT W:=by
 obtain⟨t,fr,ht⟩:=h;exact⟨t,fr,(hg.block _ (Array.getElem?_eq_some_iff.1 ht).1 (fun e=>hb (by injection e with e;exact e.symm))).trans ht⟩
theorem Aw {a b:Nat} (h:a≠b):some a≠some b:=fun e=>h (by injection e)
theorem CK.addI {v:Vr} (hX:X.Ok) (h:CK X gl (.map none) fV w) (hz: ¬0<v.sz) (hm:b7 W X.bi ((BF gl).upd v.nm (.bool true))) (hg:w.grownBy W (some X.bi)):CK X (gl.addV v) (.map none) fV W:=by
 have e:gl.addV v={gl with int:=fun x=>x==v.nm||gl.int x}:=by unfold Gl.addV;rw[if_neg hz]
 rw[e];refine⟨h.blk.grown hg (Aw hX.gi),hm.congr fun s=> ?_,h.a.grown hg (Aw (ft hX.ia)),h.f.grown hg (Aw (ft hX.jf)), .inl ⟨rfl,rfl⟩,h.t.grown hg (Ae h.t h.i)⟩;unfold KF.upd BF;by_cases e:s=v.nm
 ·subst e;simp
 ·simp[e]
theorem CK.addA {v:Vr} (hX:X.Ok) (h:CK X gl (.map none) fV w) (hz:0<v.sz) (hm:b7 W X.ba ((BG gl).upd v.nm (.int .i64 v.sz))) (hg:w.grownBy W (some X.ba)):CK X (gl.addV v) (.map none) fV W:=by
 have e:gl.addV v={gl with arr:=fun x=>if x=v.nm then some v.sz else gl.arr x}:=by unfold Gl.addV;rw[if_pos hz]
 rw[e];refine⟨h.blk.grown hg (Aw hX.ga),h.i.grown hg (Aw hX.ia),hm.congr fun s=> ?_,h.f.grown hg (Aw (ft hX.af)), .inl ⟨rfl,rfl⟩,h.t.grown hg (Ae h.t h.a)⟩;unfold KF.upd BG;by_cases e:s=v.nm
 ·subst e;simp
 ·simp[e]
theorem CK.addF {f:Fc} (hX:X.Ok) (h:CK X gl (.map none) fV w) (hm:b7 W X.bf ((Fv gl).upd f.nm (.int .i64 (f.ps.length:Int)))) (hg:w.grownBy W (some X.bf)):CK X (gl.addF f) (.map none) fV W:=by
 refine⟨h.blk.grown hg (Aw hX.gf),h.i.grown hg (Aw hX.jf),h.a.grown hg (Aw hX.af),hm.congr fun s=> ?_, .inl ⟨rfl,rfl⟩,h.t.grown hg (Ae h.t h.f)⟩;unfold KF.upd Fv Gl.addF;by_cases e:s=f.nm
 ·subst e;simp
 ·simp[e]
end
theorem C_ (p:Pg):p.vs.length<=qA p:=by
 have:=j_ (fun _:Vr=>1) (fun v=>v.nm.length+1) p.vs (fun v _=>by omega);rw[g7]at this;unfold qA;omega
theorem qk (p:Pg):p.fs.length<=qA p:=by
 have:=j_ (fun _:Fc=>1) (fun f=>f.wt+1) p.fs (fun v _=>by omega);rw[g7]at this;unfold qA;omega
theorem lJ {w:World} {P:Nat->Prop} {A:Option Addr} {n c:Nat} {ls:List Fc} (h:oT w P (.slice A n c) ls) (i:Nat) (hi:i<ls.length):
  ∃b o pv bv,A=some ⟨b,o,none⟩/\b<w.heap.size/\P b/\w.cell? ⟨b,o+i*3,none⟩=some (.string (an ls[i].nm))/\w.cell? ⟨b,o+i*3+1,none⟩=some pv/\w.cell? ⟨b,o+i*3+2,none⟩=some bv/\pC w P pv ls[i].ps/\dS w P bv ls[i].body:=by
 obtain⟨A',c',hv,h⟩:=h;injection hv with h1 h2 h3;rcases h with h|⟨_,_,b,o,ha,hP,hb,pv,bv,hc⟩
 ·subst h;simp at hi
 ·obtain⟨q0,q1,q2,q3,q4⟩:=hc i hi;exact⟨b,o,pv i,bv i,by rw[h1];exact ha,hb,hP,q0,q1,q2,q3,q4⟩
theorem AZ {w:World} {P:Nat->Prop} {A:Option Addr} {n c:Nat} {ls:List Vr} (h:nG w P (.slice A n c) ls) (i:Nat) (hi:i<ls.length):
  ∃b o,A=some ⟨b,o,none⟩/\b<w.heap.size/\P b/\w.cell? ⟨b,o+i*2,none⟩=some (.string (an ls[i].nm))/\w.cell? ⟨b,o+i*2+1,none⟩=some (.int .i64 ls[i].sz):=by
 obtain⟨A',c',hv,h⟩:=h;injection hv with h1 h2 h3;rcases h with h|⟨_,_,b,o,ha,hP,hb,hc⟩
 ·subst h;simp at hi
 ·exact⟨b,o,by rw[h1];exact ha,hb,hP,(hc i hi).1,(hc i hi).2⟩
theorem vP {g:Gl} {l:List Vr} {j:Nat} (h:j<l.length):ph g (l.drop j)=if g.known fV l[j].nm=true then .error (l[j].nm,9)else ph (g.addV l[j]) (l.drop (j+1)):=by
 rw[am h,ph]
theorem vR {g:Gl} {l:List Fc} {j:Nat} (h:j<l.length):ng g (l.drop j)=if g.known fV l[j].nm=true then .error (l[j].nm,9)else ng (g.addF l[j]) (l.drop (j+1)):=by
 rw[am h,ng]
def vQ (g:Gl):Except Er Gl:=match g.fn cY with
 |none=> .error (cY,8)
 |some n=>if 0<n then .error (cY,16)else .ok g
def Gv (X:CB) (r:Except Er Gl) (w:World) (e:Ending) (w':World):Prop:=Mv X.S w w'/\match r with
 | .ok g=>e= .returned (.tuple #[])/\CK X g (.map none) fV w'
 | .error (nm,n)=>e=aY nm n
theorem vN (p:Pg) (hw:qA p<=6000000) (X:CB) (hX:X.Ok) (P:Nat->Prop) (w:World) (hV:nG w P X.sv p.vs) (hF:oT w P X.sf p.fs) (hP: ∀b,P b-> ¬X.S b) (hK:CK X wE (.map none) fV w):
  Calls prog 63 #[X.p] w (Gv X (xM p) w):=by
 obtain⟨g,bi,ba,bf,sv,sf⟩:=X;have hlv:p.vs.length<=6000000:=by have:=C_ p;omega
 have hlf:p.fs.length<=6000000:=by have:=qk p;omega
 have HVN:=G (fun v (hv:v∈p.vs)=>show v.nm.length<=1073741824 by have:=Cs hv;omega);have HFN:=G (fun f (hf:f∈p.fs)=>show f.nm.length<=1073741824 by have:=r5 hf;have:=yN (f:=f);omega);obtain⟨Rv,hRv⟩: ∃R,xM p=R:=⟨_,rfl⟩
 have HQ0:=G (show CR.then (ph wE (p.vs.drop 0)) (fun g=>CR.then (ng g (p.fs.drop 0)) vQ)=Rv from hRv);rw[hRv];clear hRv hw;obtain⟨vs,fs⟩:=p;simp only at*;obtain⟨NV,hNV⟩: ∃n,vs.length=n:=⟨_,rfl⟩
 obtain⟨NF,hNF⟩: ∃n,fs.length=n:=⟨_,rfl⟩
 obtain⟨A,ca,hA⟩: ∃A ca,sv= .slice A NV ca:=by obtain⟨A,ca,h,_⟩:=hV;exact⟨A,ca,by rw[h,hNV]⟩
 obtain⟨B,cb,hB⟩: ∃B cb,sf= .slice B NF cb:=by obtain⟨A,ca,h,_⟩:=hF;exact⟨A,ca,by rw[h,hNF]⟩
 subst hA hB;rw[hNV]at hlv;rw[hNF]at hlf;have HNV:=G hNV;have HNF:=G hNF;simp only[CB.p]at*;have HKS: ∀W,Mv (CB.S ⟨g,bi,ba,bf, .slice A NV ca, .slice B NF cb⟩) w W->dm P w W:=fun W h=>h.keepP (fun k hk _=>hP k hk);have HKP:=G HKS;have HVr:=G hV;have HFr:=G hF;have HX:=G hX;have HM0:=G (fA (CB.S ⟨g,bi,ba,bf, .slice A NV ca, .slice B NF cb⟩) w);have HK0:=G hK;have hc:=hK.blk.cell;clear hV hF hP hK hX HKS hNV hNF;go_enter func63,ntmps63;go_wp2_with fail;clear hc
 go_loopw [14] (fun vi wr=> ∃(j:Nat) (gj:Gl),vi= .int .i64 (j:Int)/\j<=NV/\Hid (CR.then (ph gj (vs.drop j)) (fun g=>CR.then (ng g (fs.drop 0)) vQ)=Rv)/\Hid (Mv (CB.S ⟨g,bi,ba,bf, .slice A NV ca, .slice B NF cb⟩) w wr)/\Hid (CK ⟨g,bi,ba,bf, .slice A NV ca, .slice B NF cb⟩ gj (.map none) fV wr)) (fun vi _=>NV-(intOf vi).toNat)
 case atStart=>exact⟨0,wE,rfl,aC _,HQ0,HM0,HK0⟩
 case round=>
  obtain⟨j,gj,rfl,hj,HQ,HM,HKj⟩:=hrel;by_cases hlt:j<NV
  ·have hlt':(j:Int)<NV:=by omega
   have hjl:j<vs.length:=by have:=HNV.out;omega
   obtain⟨b,o,rfl,hb,hPb,h0,h1⟩:=AZ HVr.out j hjl;have hS:=vP (g:=gj) hjl;have hnm:=HVN.out _ (ap hjl);obtain⟨y,hy⟩: ∃y,vs[j]=y:=⟨_,rfl⟩
   rw[hy]at h0 h1 hS hnm;clear hy;obtain⟨nm,sz⟩:=y;simp only at h0 h1 hnm;have e0:=((HKP.out _ HM.out).cell _ hPb hb).trans h0;have e1:=((HKP.out _ HM.out).cell _ hPb hb).trans h1;have hAl:=aa wr (.cells #[.string (an nm), .int .i64 sz] 76);have HKA:=G (HKj.out.ext hAl);have HBA:=G (aw wr 76 #[.string (an nm), .int .i64 sz]);have HMA:=G (HM.out.alloc (.cells #[.string (an nm), .int .i64 sz] 76));clear h0 h1 hAl
   cases hkn:gj.known fV nm with
   |true=>
    have HFn:=G (show Rv= .error (nm,9) by rw[<-HQ.out,hS];simp only[hkn,if_true];rfl);go_wp2_with (first|(go_at_call 64;refine(dU _ gj _ fV _ HKA.out nm hnm).mono ?_;rw[hkn];rintro e wx ⟨rfl,hE⟩;have HMB:=G (HMA.out.trans (.of_ext hE));have f0:=(HBA.out.ext hE).cell;clear hE)|(go_at_call 65;refine(dT nm 9 _).mono ?_;unfold aY;rintro e wx ⟨rfl,hE⟩;have HMC:=G (HMB.out.trans (.of_ext hE));clear hE));exact⟨rfl,by rw[HFn.out];exact⟨HMC.out,rfl⟩⟩
   |false=>
    have hS2:ph gj (vs.drop j)=ph (gj.addV ⟨nm,sz⟩) (vs.drop (j+1)):=by rw[hS];simp only[hkn,ch,if_false]
    by_cases hz:0<sz
    ·have hz':decide (0<sz)=true:=decide_eq_true hz;go_wp2_with (go_at_call 64;refine(dU _ gj _ fV _ HKA.out nm hnm).mono ?_;rw[hkn];rintro e wx ⟨rfl,hE⟩;have HMB:=G (HMA.out.trans (.of_ext hE));have HBB:=G (HBA.out.ext hE);have f0:=HBB.out.cell;have HKB:=G (HKA.out.ext hE);clear hE);refine ay 8 1 [] mixed (by kernel_rfl) trivial ?_;repeat (refine sx ?_ (fun w1 hU=> ?_) ?_;rotate_left;(focus have f0:=(HBB.out.ext hU.un).cell;have fk:=(HKB.out.ext hU.un).blk.cell;clear hU;go_simp<;>with_reducible rfl);simp only[bH,bG,bF,bE,bD])
     intro w7 hw7 _;simp only[ac,aq];have HK7:=G (HKB.out.ext hw7.un);have HM7:=G (HMB.out.trans (.of_ext hw7.un));clear hw7 f0;go_wp2_with (at_mapUpdate;refine ej ud rfl _ _ _ rfl HK7.out.a rfl (by unfold maxLen;omega) rfl _ rfl ?_;intro w8 hm8 hg8;have HK8:=G (HK7.out.addA (v:=⟨nm,sz⟩) HX.out hz hm8 hg8);have HM8:=G (HM7.out.trans (.of_grown hg8 (fun k e=>by injection e with e;exact .inr (.inl e.symm))));clear hm8 hg8);go_roundw
     case rel=>exact⟨j+1,gj.addV ⟨nm,sz⟩,by go_num,by omega,G (by rw[<-hS2];exact HQ.out),HM8,HK8⟩
     case measure=>simp[intOf];omega
    ·have hz':decide (0<sz)=false:=decide_eq_false hz;go_wp2_with (go_at_call 64;refine(dU _ gj _ fV _ HKA.out nm hnm).mono ?_;rw[hkn];rintro e wx ⟨rfl,hE⟩;have HMB:=G (HMA.out.trans (.of_ext hE));have HBB:=G (HBA.out.ext hE);have f0:=HBB.out.cell;have HKB:=G (HKA.out.ext hE);clear hE);refine ay 6 1 [] mixed (by kernel_rfl) trivial ?_;repeat (refine sx ?_ (fun w1 hU=> ?_) ?_;rotate_left;(focus have f0:=(HBB.out.ext hU.un).cell;have fk:=(HKB.out.ext hU.un).blk.cell;clear hU;go_simp<;>with_reducible rfl);simp only[bH,bG,bF,bE,bD])
     intro w7 hw7 _;simp only[ac,aq];have HK7:=G (HKB.out.ext hw7.un);have HM7:=G (HMB.out.trans (.of_ext hw7.un));clear hw7 f0;go_wp2_with (at_mapUpdate;refine ej Cz rfl _ _ _ rfl HK7.out.i rfl (by unfold maxLen;omega) rfl _ rfl ?_;intro w8 hm8 hg8;have HK8:=G (HK7.out.addI (v:=⟨nm,sz⟩) HX.out (show ¬0<sz by omega) hm8 hg8);have HM8:=G (HM7.out.trans (.of_grown hg8 (fun k e=>by injection e with e;exact .inl e.symm)));clear hm8 hg8);go_roundw
     case rel=>exact⟨j+1,gj.addV ⟨nm,sz⟩,by go_num,by omega,G (by rw[<-hS2];exact HQ.out),HM8,HK8⟩
     case measure=>simp[intOf];omega
  ·have hlt': ¬(j:Int)<NV:=by omega
   have HQ1:=G (show CR.then (ng gj (fs.drop 0)) vQ=Rv by
    have:=HQ.out;rw[aI (l:=vs) (by have:=HNV.out;omega),ph,eP]at this
    exact this)
   have hc:=HKj.out.blk.cell;go_wp2_with fail;clear hc
   go_loopw [49] (fun vi wr=> ∃(j:Nat) (gj:Gl),vi= .int .i64 (j:Int)/\j<=NF/\Hid (CR.then (ng gj (fs.drop j)) vQ=Rv)/\Hid (Mv (CB.S ⟨g,bi,ba,bf, .slice A NV ca, .slice B NF cb⟩) w wr)/\Hid (CK ⟨g,bi,ba,bf, .slice A NV ca, .slice B NF cb⟩ gj (.map none) fV wr)) (fun vi _=>NF-(intOf vi).toNat)
   case atStart=>exact⟨0,gj,rfl,aC _,HQ1,HM,HKj⟩
   case round=>
    clear HQ HM HKj HQ1 hlt hlt' hj;obtain⟨j,gj,rfl,hj,HQ,HM,HKj⟩:=hrel;by_cases hlt:j<NF
    ·have hlt':(j:Int)<NF:=by omega
     have hjl:j<fs.length:=by have:=HNF.out;omega
     obtain⟨b,o,pv,bv,rfl,hb,hPb,h0,h1,h2,hRp,hRb⟩:=lJ HFr.out j hjl;have hS:=vR (g:=gj) hjl;have hnm:=HFN.out _ (ap hjl);obtain⟨y,hy⟩: ∃y,fs[j]=y:=⟨_,rfl⟩
     rw[hy]at h0 hRp hRb hS hnm;clear hy;obtain⟨nm,ps,bd⟩:=y;simp only at h0 hRp hRb hnm;obtain⟨Ap,cp,rfl,_⟩:=hRp;obtain⟨Ab,cb2,rfl,_⟩:=hRb.form;have e0:=((HKP.out _ HM.out).cell _ hPb hb).trans h0;have e1:=((HKP.out _ HM.out).cell _ hPb hb).trans h1;have e2:=((HKP.out _ HM.out).cell _ hPb hb).trans h2;have hAl:=aa wr (.cells #[.string (an nm), .slice Ap ps.length cp, .slice Ab bd.length cb2] 81);have HKA:=G (HKj.out.ext hAl);have HBA:=G (aw wr 81 #[.string (an nm), .slice Ap ps.length cp, .slice Ab bd.length cb2]);have HMA:=G (HM.out.alloc (.cells #[.string (an nm), .slice Ap ps.length cp, .slice Ab bd.length cb2] 81));clear h0 h1 h2 hAl hRb
     cases hkn:gj.known fV nm with
     |true=>
      have HFn:=G (show Rv= .error (nm,9) by rw[<-HQ.out,hS];simp only[hkn,if_true];rfl);go_wp2_with (first|(go_at_call 64;refine(dU _ gj _ fV _ HKA.out nm hnm).mono ?_;rw[hkn];rintro e wx ⟨rfl,hE⟩;have HMB:=G (HMA.out.trans (.of_ext hE));have f0:=(HBA.out.ext hE).cell;clear hE)|(go_at_call 65;refine(dT nm 9 _).mono ?_;unfold aY;rintro e wx ⟨rfl,hE⟩;have HMC:=G (HMB.out.trans (.of_ext hE));clear hE));exact⟨rfl,by rw[HFn.out];exact⟨HMC.out,rfl⟩⟩
     |false=>
      have hS2:ng gj (fs.drop j)=ng (gj.addF ⟨nm,ps,bd⟩) (fs.drop (j+1)):=by rw[hS];simp only[hkn,ch,if_false]
      go_wp2_with (go_at_call 64;refine(dU _ gj _ fV _ HKA.out nm hnm).mono ?_;rw[hkn];rintro e wx ⟨rfl,hE⟩;have HMB:=G (HMA.out.trans (.of_ext hE));have HBB:=G (HBA.out.ext hE);have f0:=HBB.out.cell;have HKB:=G (HKA.out.ext hE);clear hE);refine ay 9 1 [] mixed (by kernel_rfl) trivial ?_;repeat (refine sx ?_ (fun w1 hU=> ?_) ?_;rotate_left;(focus have f0:=(HBB.out.ext hU.un).cell;have fk:=(HKB.out.ext hU.un).blk.cell;clear hU;go_simp<;>with_reducible rfl);simp only[bH,bG,bF,bE,bD])
      intro w7 hw7 _;simp only[ac,aq];have HK7:=G (HKB.out.ext hw7.un);have HM7:=G (HMB.out.trans (.of_ext hw7.un));clear hw7 f0;go_wp2_with (at_mapUpdate;refine ej ud rfl _ _ _ rfl HK7.out.f rfl (by unfold maxLen;omega) rfl _ rfl ?_;intro w8 hm8 hg8;have HK8:=G (HK7.out.addF (f:=⟨nm,ps,bd⟩) HX.out hm8 hg8);have HM8:=G (HM7.out.trans (.of_grown hg8 (fun k e=>by injection e with e;exact .inr (.inr e.symm))));clear hm8 hg8);go_roundw
      case rel=>exact⟨j+1,gj.addF ⟨nm,ps,bd⟩,by go_num,by omega,G (by rw[<-hS2];exact HQ.out),HM8,HK8⟩
      case measure=>simp[intOf];omega
    ·have hlt': ¬(j:Int)<NF:=by omega
     have HQ2:=G (show vQ gj=Rv by
      have:=HQ.out;rw[aI (by have:=HNF.out;omega),ng,eP]at this
      exact this)
     have hc:=HKj.out.blk.cell;have fm:(Instr.lookup 88 (.map (some bf)) (.string ⟨#[109,97,105,110]⟩) true).run prog wr= .ok (.tuple #[.int .i64 (((gj.fn cY).getD 0:Nat):Int), .bool (gj.fn cY).isSome]) wr:=HKj.out.lookF (s:=cY) (by decide);unfold vQ at HQ2
     cases hfm:gj.fn cY with
     |none=>
      rw[hfm]at HQ2 fm;simp only[ew,dr]at fm;have HFn:=G HQ2.out.symm;go_wp2_with (go_at_call 65;refine(show Calls prog 65 #[.string ⟨#[109,97,105,110]⟩, .int .i64 8] _ _ from dT cY 8 _).mono ?_;unfold aY;rintro e wx ⟨rfl,hE⟩;have HMC:=G (HM.out.trans (.of_ext hE));clear hE);exact⟨rfl,by rw[HFn.out];exact⟨HMC.out,rfl⟩⟩
     |some n=>
      rw[hfm]at HQ2 fm;simp only[bR,cX]at fm HQ2;by_cases hn:0<n
      ·have hn':(0:Int)<n:=by omega
       have HFn:=G (show Rv= .error (cY,16) by rw[<-HQ2.out,if_pos hn]);go_wp2_with (go_at_call 65;refine(show Calls prog 65 #[.string ⟨#[109,97,105,110]⟩, .int .i64 16] _ _ from dT cY 16 _).mono ?_;unfold aY;rintro e wx ⟨rfl,hE⟩;have HMC:=G (HM.out.trans (.of_ext hE));clear hE);exact⟨rfl,by rw[HFn.out];exact⟨HMC.out,rfl⟩⟩
      ·have hn': ¬(0:Int)<n:=by omega
       have HFn:=G (show Rv= .ok gj by rw[<-HQ2.out,if_neg hn]);go_wp2_with fail;exact bodyPost_end (results_none rfl _ _ _) rfl (by rw[HFn.out];exact⟨HM.out,rfl,HKj.out⟩)
end
end Go.Proofs.YtoedmpgicdekmaaGreatDoor
