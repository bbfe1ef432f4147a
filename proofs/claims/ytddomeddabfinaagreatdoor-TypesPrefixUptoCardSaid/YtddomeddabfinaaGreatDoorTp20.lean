/-
  Parts of the proof: TyC TyD TyE.
-/
import Derived.Test.YtddomeddabfinaaGreatDoorTp00
import Derived.Test.YtddomeddabfinaaGreatDoorTp19
import Derived.Test.YtddomeddabfinaaGreatDoorTp10
set_option maxRecDepth 100000
set_option maxHeartbeats 8000000
set_option linter.unusedVariables false
set_option linter.unusedSimpArgs false
set_option linter.unusedSectionVars false
namespace Go.Proofs.YtddomeddabfinaaGreatDoor
open Go.Proofs.Tryz
section
open Go.RowKit
theorem mA (a:List UInt8) (i:Nat) (h:i<a.length) (w:World):(Instr.index 9 (.string (ai a)) (.int .i64 (i:Int))).run prog w= .ok (.int .u8 (a[i].toNat:Int)) w:=by
 have h3:(ai a)[i]? =some a[i]:=by
  have h2:i<(ai a).size:=by rw[a8];exact h
  rw[getElem?_pos (ai a) i h2];rfl
 simp[Instr.index,run_underlying underlying9,asIntOf,h3]
def Bw (b:Bi):List UInt8:=match b with
 |none=>[]
 |some (_,a)=>a
theorem kE (b:Bi) (i:Nat) (hi:i<=1073741824) (hl:(Bw b).length<=1073741824) (w:World):Calls prog 55 #[.string (ai (Bw b)), .bool b.isSome, .int .i64 (i:Int)] w fun e w'=>e= .returned (.bool (kh b i))/\au w w':=by
 cases b with
 |none=>
  have HI:=G (show kh none i=true from rfl);simp only[cW];go_enter func55,ntmps55;go_wp2_with fail;go_ret;exact⟨by rw[HI.out];rfl,aN _⟩
 |some x=>
  obtain⟨c,a⟩:=x;have HI:=G (show kh (some (c,a)) i=(decide (a.length<=i)||a.getD i 0==105)from rfl);simp only[Bw,cK]at*;have hsz:=a8 a;by_cases h:a.length<=i
  ·have h':(a.length:Int)<=i:=by omega
   go_enter func55,ntmps55;go_wp2_with fail;go_ret;exact⟨by rw[HI.out,decide_eq_true h];rfl,aN _⟩
  ·have h': ¬(a.length:Int)<=i:=by omega
   have hix:=fun w=>mA a i (by omega) w;have hg:a.getD i 0=a[i]'(by omega):=by rw[bU,aK (by omega)];rfl
   have HI:=G (show kh (some (c,a)) i=(a.getD i 0==105) by rw[HI.out,decide_eq_false h];rfl);rw[<-hg]at hix;generalize a.getD i 0=q at*
   have HE:=G (show((q.toNat:Int)==105)=(q==105) by
    by_cases e:q=105
    ·subst e;rfl
    ·have: ¬(q.toNat:Int)=105:=fun h=>e (UInt8.toNat_inj.1 (by have:(105:UInt8).toNat=105:=rfl;omega))
     rw[beq_eq_false_iff_ne.2 this,beq_eq_false_iff_ne.2 e])
   clear hg;go_enter func55,ntmps55;go_wp2_with fail;go_ret;exact⟨by rw[HI.out,<-HE.out];rfl,aN _⟩
theorem rD: ∀(l:List Ex) (m:Nat),m<=gH m l
 | [],m=>by rw[gH];exact ah _
 |y::r,m=>by rw[gH];have:=rD r (max m (dF y));omega
theorem rF (lg:Bool): ∀(l:List Ex) (i m:Nat),m<=fj lg i m l
 | [],i,m=>by rw[fj];exact ah _
 |y::r,i,m=>by rw[fj];have:=rF lg r (i+1) (max m (if 0<i/\lg=false then dF y+1 else dF y));omega
theorem oo (b:Bi): ∀(l:List Ex) (i fr m:Nat),m<=fh b i fr m l
 | [],i,fr,m=>by rw[fh];exact ah _
 |y::r,i,fr,m=>by
  rw[fh];split
  ·have:=oo b r (i+1) (fr+1) (max m (fr+dF y));omega
  ·exact oo b r (i+1) fr m
mutual
theorem ii: ∀x:Ex,dF x<=x.wt
 | .mk k op nm tx v a=>by
  have h1:=rC a 1;have h2:=rE (tu op) a 0 1;have h3:=om (ew nm) a 0 0 1;rw[dF,Ex.wt];repeat' split
  all_goals omega
theorem rC: ∀(l:List Ex) (m:Nat),gH m l<=max m (fH l)
 | [],m=>by rw[gH];omega
 |y::r,m=>by
  rw[gH,fH];have:=rC r (max m (dF y));have:=ii y;omega
theorem rE (lg:Bool): ∀(l:List Ex) (i m:Nat),fj lg i m l<=max m (fH l+1)
 | [],i,m=>by rw[fj];omega
 |y::r,i,m=>by
  rw[fj,fH];have h1:=rE lg r (i+1) (max m (if 0<i/\lg=false then dF y+1 else dF y));have h2:=ii y;have h3:(if 0<i/\lg=false then dF y+1 else dF y)<=dF y+1:=by split<;>omega
  have h4:y.wt=1+y.op.length+y.nm.length+y.tx.length+fH y.args:=y.wt_eq;omega
theorem om (b:Bi): ∀(l:List Ex) (i fr m:Nat),fh b i fr m l<=max m (fr+fH l)
 | [],i,fr,m=>by rw[fh];omega
 |y::r,i,fr,m=>by
  rw[fh,fH];have h2:=ii y;have h4:y.wt=1+y.op.length+y.nm.length+y.tx.length+fH y.args:=y.wt_eq;split
  ·have:=om b r (i+1) (fr+1) (max m (fr+dF y));omega
  ·have:=om b r (i+1) fr m;omega
end
def BF (x:Ex):Prop:= ∀(P:Nat->Prop) (w:World) (A:Option Addr) (n c:Nat),cJ w P (.slice A n c) x.args->BT w->
 Calls prog 26 #[.agg #[.int .i64 x.k, .string (ai x.op), .string (ai x.nm), .string (ai x.tx), .int .i64 x.v, .slice A n c]] w fun e w'=>e= .returned (.int .i64 (dF x:Int))/\au w w'
theorem tg {l:List Ex} {j m:Nat} (h:j<l.length):gH m (l.drop j)=gH (max m (dF l[j])) (l.drop (j+1)):=by
 rw[ax h,gH]
theorem ti {lg:Bool} {l:List Ex} {i j m:Nat} (h:j<l.length):fj lg i m (l.drop j)=fj lg (i+1) (max m (if 0<i/\lg=false then dF l[j]+1 else dF l[j])) (l.drop (j+1)):=by
 rw[ax h,fj]
theorem th {b:Bi} {l:List Ex} {i j fr m:Nat} (h:j<l.length):fh b i fr m (l.drop j)=if kh b i=true then fh b (i+1) (fr+1) (max m (fr+dF l[j])) (l.drop (j+1))else fh b (i+1) fr m (l.drop (j+1)):=by
 rw[ax h,fh]
theorem CE (k:Int) (hk:k=4\/k=6) (op nm tx:List UInt8) (v:Int) (xs:List Ex) (hw:(Ex.mk k op nm tx v xs).wt<=1073741824) (hIH: ∀y∈xs,BF y):BF (.mk k op nm tx v xs):=by
 intro P w A n c hR hT;have HRs:=G (show dF (.mk k op nm tx v xs)=gH 1 xs by rw[dF,if_pos hk]);have hb:gH 1 xs<=1073741824:=by have:=ii (.mk k op nm tx v xs);rw[HRs.out]at this;omega
 have hnl:=db xs;rw[Ex.wt]at hw;simp only[Ex.k,Ex.op,Ex.nm,Ex.tx,Ex.v,Ex.args]at*;obtain⟨A',c',hv,hf⟩:=hR.form;injection hv with hv1 hv2 hv3;subst hv1 hv2 hv3;have HR:=G hR;have HI:=G hIH;have HT:=G hT;obtain⟨N,hN⟩: ∃N,xs.length=N:=⟨_,rfl⟩
 have hNb:N<=1073741824:=by omega
 have HN:=G hN;rw[hN]at HR;have HE0:=G (O w (.cells #[.int .i64 k, .string (ai op), .string (ai nm), .string (ai tx), .int .i64 v, .slice A N c] 70));obtain⟨Rv,hRv⟩: ∃R,gH 1 xs=R:=⟨_,rfl⟩
 rw[hRv]at hb HRs;have HQ0:=G (show gH 1 (xs.drop 0)=Rv from hRv);clear hR hf hIH hT hw hRv hnl;rw[hN];clear hN;rcases hk with rfl|rfl;all_goals
  go_enter func26,ntmps26;go_wp2_with fail
  go_loopw [3,23] (fun vm vi wr=> ∃(j m:Nat),vi= .int .i64 (j:Int)/\vm= .int .i64 (m:Int)/\j<=N/\Hid (gH m (xs.drop j)=Rv)/\Hid (au w wr)) (fun _ vi _=>N-(intOf vi).toNat)
  case atStart=>exact⟨0,1,rfl,rfl,aB _,HQ0,HE0⟩
  case round=>
   obtain⟨j,m,rfl,rfl,hj,HQ,HX⟩:=hrel;have hm:m<=1073741824:=by have:=rD (xs.drop j) m;rw[HQ.out]at this;omega
   by_cases hlt:j<N
   ·have hlt':(j:Int)<N:=by omega
    have hjl:j<xs.length:=by have:=HN.out;omega
    obtain⟨b,o,a,rfl,hb,hP,h0,h1,h2,h3,h4,h5,hRa⟩:=HR.out.at_ j hjl;have HS:=G (tg (m:=m) hjl);have hIy:=HI.out _ (aq hjl);generalize xs[j]=y at*;have e0:=(HX.out.cell b _ hb).trans h0;have e1:=(HX.out.cell b _ hb).trans h1;have e2:=(HX.out.cell b _ hb).trans h2;have e3:=(HX.out.cell b _ hb).trans h3;have e4:=(HX.out.cell b _ hb).trans h4;have e5:=(HX.out.cell b _ hb).trans h5;obtain⟨B,d,rfl,_⟩:=hRa.form;have HRa:=G (hRa.keep (.of_ext HX.out) (Q:=P) (fun b hb _=>hb));have HIy:=G hIy;clear h0 h1 h2 h3 h4 h5 hRa hIy;go_wp2_with (go_at_call 26;refine(HIy.out P _ B _ d (HRa.out.keep (.of_ext (O _ _)) (fun b hb _=>hb)) ((HT.out.ext HX.out).ext (O _ _))).mono ?_;rintro e w3 ⟨rfl,hE⟩;have HY:=G ((HX.out.alloc' _).trans hE);clear hE);go_roundw
    case rel=>exact⟨j+1,max m (dF y),by go_num,by congr 1;omega,by omega,G (HS.out.symm.trans HQ.out),HY⟩
    case measure=>simp[intOf];omega
   ·have hlt': ¬(j:Int)<N:=by omega
    have HM:=G (show m=Rv by
     have:=HQ.out;rw[aH (by have:=HN.out;omega),gH]at this
     exact this)
    go_wp2_with fail;go_ret;exact⟨by rw[HRs.out,<-HM.out];rfl,HX.out⟩
theorem CD (op nm tx:List UInt8) (v:Int) (xs:List Ex) (hw:(Ex.mk 7 op nm tx v xs).wt<=1073741824) (hIH: ∀y∈xs,BF y):BF (.mk 7 op nm tx v xs):=by
 intro P w A n c hR hT;have HRs:=G (show dF (.mk 7 op nm tx v xs)=fj (tu op) 0 1 xs by rw[dF,if_neg (by decide),if_pos rfl]);have hb:fj (tu op) 0 1 xs<=1073741824:=by have:=ii (.mk 7 op nm tx v xs);rw[HRs.out]at this;omega
 have hnl:=db xs;rw[Ex.wt]at hw;have hwl:fH xs<=1073741823:=by omega
 simp only[Ex.k,Ex.op,Ex.nm,Ex.tx,Ex.v,Ex.args]at*;obtain⟨A',c',hv,hf⟩:=hR.form;injection hv with hv1 hv2 hv3;subst hv1 hv2 hv3;have HR:=G hR;have HI:=G hIH;have HT:=G hT;obtain⟨N,hN⟩: ∃N,xs.length=N:=⟨_,rfl⟩
 have hNb:N<=1073741824:=by omega
 have HN:=G hN;rw[hN]at HR;have HE0:=G (O w (.cells #[.int .i64 7, .string (ai op), .string (ai nm), .string (ai tx), .int .i64 v, .slice A N c] 70));have HB0:=G (ap w 70 #[.int .i64 7, .string (ai op), .string (ai nm), .string (ai tx), .int .i64 v, .slice A N c]);obtain⟨Rv,hRv⟩: ∃R,fj (tu op) 0 1 xs=R:=⟨_,rfl⟩
 rw[hRv]at hb HRs;have HQ0:=G (show fj (tu op) 0 1 (xs.drop 0)=Rv from hRv);clear hR hf hIH hT hw hRv hnl;rw[hN];clear hN;obtain⟨lg,hlg⟩: ∃b,tu op=b:=⟨_,rfl⟩
 rw[hlg]at HQ0;have HL:=G (show(op==[38,38]||op==[124,124])=lg from hlg);clear hlg
 cases h1:(op==[38,38])<;>cases h2:(op==[124,124]);all_goals
  rw[h1,h2]at HL;have HLG:=G HL.out.symm;simp only[Bool.or_true,li,Bool.true_or,je]at HLG;have n1:=congrArg (!·) h1;have n2:=congrArg (!·) h2;change(op !=[38,38])=_ at n1;change(op !=[124,124])=_ at n2;simp only[Bool.not_true,Bool.not_false]at n1 n2;clear HL;go_enter func26,ntmps26;go_wp2_with fail
  go_loopw [3,37] (fun vm vi wr=> ∃(j m:Nat),vi= .int .i64 (j:Int)/\vm= .int .i64 (m:Int)/\j<=N/\Hid (fj lg j m (xs.drop j)=Rv)/\Hid (au w wr)/\Hid (aS wr w.heap.size 70 #[.int .i64 7, .string (ai op), .string (ai nm), .string (ai tx), .int .i64 v, .slice A N c])) (fun _ vi _=>N-(intOf vi).toNat)
  case atStart=>exact⟨0,1,rfl,rfl,aB _,HQ0,HE0,HB0⟩
  case round=>
   obtain⟨j,m,rfl,rfl,hj,HQ,HX,HB⟩:=hrel;have hm:m<=1073741824:=by have:=rF lg (xs.drop j) j m;rw[HQ.out]at this;omega
   by_cases hlt:j<N
   ·have hlt':(j:Int)<N:=by omega
    have hjl:j<xs.length:=by have:=HN.out;omega
    obtain⟨b,o,a,rfl,hb,hP,h0,h1,h2,h3,h4,h5,hRa⟩:=HR.out.at_ j hjl;have HS:=G (ti (lg:=lg) (i:=j) (m:=m) hjl);have hyb:=ii xs[j];have hyw:=dB (aq hjl);have hIy:=HI.out _ (aq hjl);generalize xs[j]=y at*;have e0:=(HX.out.cell b _ hb).trans h0;have e1:=(HX.out.cell b _ hb).trans h1;have e2:=(HX.out.cell b _ hb).trans h2;have e3:=(HX.out.cell b _ hb).trans h3;have e4:=(HX.out.cell b _ hb).trans h4;have e5:=(HX.out.cell b _ hb).trans h5;obtain⟨B,d,rfl,_⟩:=hRa.form;have HRa:=G (hRa.keep (.of_ext HX.out) (Q:=P) (fun b hb _=>hb));have HIy:=G hIy;clear h0 h1 h2 h3 h4 h5 hRa hIy;have hnb:dF y<=1073741823:=by omega
    by_cases hj0:j=0
    ·subst hj0;simp only[a_,bA]at e0 e1 e2 e3 e4 e5;go_wp2_with (go_at_call 26;refine(HIy.out P _ B _ d (HRa.out.keep (.of_ext (O _ _)) (fun b hb _=>hb)) ((HT.out.ext HX.out).ext (O _ _))).mono ?_;rintro e w3 ⟨rfl,hE⟩;have HY:=G ((HX.out.alloc' _).trans hE);have HBY:=G ((HB.out.ext (O _ _)).ext hE);have fc:=HBY.out.cell;clear hE);go_roundw
     case rel=>exact⟨1,max m (dF y),by go_num,by congr 1;omega,by omega,G ((by rw[HS.out,if_neg (by simp)]:fj lg 0 m (xs.drop 0)=fj lg 1 (max m (dF y)) (xs.drop 1)).symm.trans HQ.out),HY,HBY⟩
     case measure=>simp[intOf];omega
    ·have hj0':(0:Int)<j:=by omega
     go_wp2_with (go_at_call 26;refine(HIy.out P _ B _ d (HRa.out.keep (.of_ext (O _ _)) (fun b hb _=>hb)) ((HT.out.ext HX.out).ext (O _ _))).mono ?_;rintro e w3 ⟨rfl,hE⟩;have HY:=G ((HX.out.alloc' _).trans hE);have HBY:=G ((HB.out.ext (O _ _)).ext hE);have fc:=HBY.out.cell;clear hE);go_roundw
     case rel=>first|exact⟨j+1,max m (dF y+1),by go_num,by congr 1;omega,by omega,G ((by rw[HS.out,if_pos ⟨by omega,HLG.out⟩]:fj lg j m (xs.drop j)=fj lg (j+1) (max m (dF y+1)) (xs.drop (j+1))).symm.trans HQ.out),HY,HBY⟩|exact⟨j+1,max m (dF y),by go_num,by congr 1;omega,by omega,G ((by rw[HS.out,if_neg (by rw[HLG.out];simp)]:fj lg j m (xs.drop j)=fj lg (j+1) (max m (dF y)) (xs.drop (j+1))).symm.trans HQ.out),HY,HBY⟩
     case measure=>simp[intOf];omega
   ·have hlt': ¬(j:Int)<N:=by omega
    have HM:=G (show m=Rv by
     have:=HQ.out;rw[aH (by have:=HN.out;omega),fj]at this
     exact this)
    go_wp2_with fail;go_ret;exact⟨by rw[HRs.out,<-HM.out];rfl,HX.out⟩
end
section
open Go.RowKit
def Fk (b:Bi):Int:=match b with
 |none=>0
 |some (c,_)=>c
theorem zt (s:List UInt8) (w:World) (h:BT w):Calls prog 22 #[.string (ai s)] w fun e w'=>e= .returned (.tuple #[.int .i64 (Fk (ew s)), .string (ai (Bw (ew s))), .bool (ew s).isSome])/\au w w':=by
 refine(kV s w h).mono fun e w' ⟨he,hE⟩=>⟨?_,hE⟩
 rw[he]
 cases ew s<;>rfl
theorem CZ: ∀x∈pT,x.2.2.length<=3:=by decide
theorem qI (s:List UInt8):(Bw (ew s)).length<=3:=by
 cases h:ew s with
 |none=>simp[Bw]
 |some x=>
  unfold ew at h;rw[eM]at h;obtain⟨y,hy,rfl⟩:=h;exact CZ y (bX hy)
theorem CC (op nm tx:List UInt8) (v:Int) (xs:List Ex) (hw:(Ex.mk 5 op nm tx v xs).wt<=1073741824) (hIH: ∀y∈xs,BF y):BF (.mk 5 op nm tx v xs):=by
 intro P w A n c hR hT;have HRs:=G (show dF (.mk 5 op nm tx v xs)=fh (ew nm) 0 0 1 xs by rw[dF,if_neg (by decide),if_neg (by decide),if_pos rfl]);have hb:fh (ew nm) 0 0 1 xs<=1073741824:=by have:=ii (.mk 5 op nm tx v xs);rw[HRs.out]at this;omega
 have hnl:=db xs;rw[Ex.wt]at hw;have hwl:fH xs<=1073741823:=by omega
 have hbl:=qI nm;simp only[Ex.k,Ex.op,Ex.nm,Ex.tx,Ex.v,Ex.args]at*;obtain⟨A',c',hv,hf⟩:=hR.form;injection hv with hv1 hv2 hv3;subst hv1 hv2 hv3;have HR:=G hR;have HI:=G hIH;have HT:=G hT;obtain⟨N,hN⟩: ∃N,xs.length=N:=⟨_,rfl⟩
 have hNb:N<=1073741823:=by omega
 have HN:=G hN;rw[hN]at HR;have hEA:=O w (.cells #[.int .i64 5, .string (ai op), .string (ai nm), .string (ai tx), .int .i64 v, .slice A N c] 70);have HE0:=G hEA;have HB0:=G (ap w 70 #[.int .i64 5, .string (ai op), .string (ai nm), .string (ai tx), .int .i64 v, .slice A N c]);have HBL:=G (zt nm _ (hT.ext hEA));have HIN:=G (fun(i:Nat) (hi:i<=1073741824) (W:World)=>kE (ew nm) i hi (by omega) W);generalize ew nm=bi at*;generalize Bw bi=ls at*;generalize Fk bi=bk at*;generalize bi.isSome=bs at*;obtain⟨Rv,hRv⟩: ∃R,fh bi 0 0 1 xs=R:=⟨_,rfl⟩
 rw[hRv]at hb HRs;have HQ0:=G (show fh bi 0 0 1 (xs.drop 0)=Rv from hRv);clear hR hf hIH hT hw hRv hnl hEA hbl;rw[hN];clear hN;go_enter func26,ntmps26;go_wp2_with (go_at_call 22;refine HBL.out.mono ?_;rintro e w1 ⟨rfl,hE⟩;have HX0:=G (HE0.out.trans hE);have f0:=(HB0.out.ext hE).cell;clear hE HBL)
 go_loopw [3,12,74] (fun vm vf vi wr=> ∃(j m fr:Nat),vi= .int .i64 (j:Int)/\vm= .int .i64 (m:Int)/\vf= .int .i64 (fr:Int)/\j<=N/\fr<=j/\Hid (fh bi j fr m (xs.drop j)=Rv)/\Hid (au w wr)) (fun _ _ vi _=>N-(intOf vi).toNat)
 case atStart=>exact⟨0,1,0,rfl,rfl,rfl,aB _,aB _,HQ0,HX0⟩
 case round=>
  obtain⟨j,m,fr,rfl,rfl,rfl,hj,hfr,HQ,HX⟩:=hrel;have hm:m<=1073741824:=by have:=oo bi (xs.drop j) j fr m;rw[HQ.out]at this;omega
  by_cases hlt:j<N
  ·have hlt':(j:Int)<N:=by omega
   have hjl:j<xs.length:=by have:=HN.out;omega
   obtain⟨b,o,a,rfl,hb,hP,h0,h1,h2,h3,h4,h5,hRa⟩:=HR.out.at_ j hjl;have HS:=G (th (b:=bi) (i:=j) (fr:=fr) (m:=m) hjl);have hyb:=ii xs[j];have hyw:=dB (aq hjl);have hIy:=HI.out _ (aq hjl);generalize xs[j]=y at*;have HIN1:=G (HIN.out j (by omega));have e0:=(HX.out.cell b _ hb).trans h0;have e1:=(HX.out.cell b _ hb).trans h1;have e2:=(HX.out.cell b _ hb).trans h2;have e3:=(HX.out.cell b _ hb).trans h3;have e4:=(HX.out.cell b _ hb).trans h4;have e5:=(HX.out.cell b _ hb).trans h5;obtain⟨B,d,rfl,_⟩:=hRa.form;have HRa:=G (hRa.keep (.of_ext HX.out) (Q:=P) (fun b hb _=>hb));have HIy:=G hIy;have hnb:dF y<=1073741823:=by omega
   have HB1:=G (ap wr 70 #[.int .i64 y.k, .string (ai y.op), .string (ai y.nm), .string (ai y.tx), .int .i64 y.v, .slice B y.args.length d]);have HX1:=G (HX.out.alloc' (.cells #[.int .i64 y.k, .string (ai y.op), .string (ai y.nm), .string (ai y.tx), .int .i64 y.v, .slice B y.args.length d] 70));clear h0 h1 h2 h3 h4 h5 hRa hIy hyb hyw
   cases hia:kh bi j with
   |true=>
    rw[hia]at HS HIN1;go_wp2_with (first|(go_at_call 55;refine(HIN1.out _).mono ?_;rintro e w2 ⟨rfl,hE⟩;have HX2:=G (HX1.out.trans hE);have HE2:=G hE;have f1:=(HB1.out.ext hE).cell;clear hE HIN1)|(go_at_call 26;refine(HIy.out P _ B _ d ((HRa.out.keep (.of_ext (O _ _)) (fun b hb _=>hb)).keep (.of_ext HE2.out) (fun b hb _=>hb)) (HT.out.ext HX2.out)).mono ?_;rintro e w3 ⟨rfl,hE⟩;have HY:=G (HX2.out.trans hE);clear hE f1));go_roundw
    case rel=>exact⟨j+1,max m (fr+dF y),fr+1,by go_num,by congr 1;omega,by go_num,by omega,by omega,G ((by rw[HS.out,if_pos trivial]:fh bi j fr m (xs.drop j)=fh bi (j+1) (fr+1) (max m (fr+dF y)) (xs.drop (j+1))).symm.trans HQ.out),HY⟩
    case measure=>simp[intOf];omega
   |false=>
    rw[hia]at HS HIN1;go_wp2_with (go_at_call 55;refine(HIN1.out _).mono ?_;rintro e w2 ⟨rfl,hE⟩;have HX2:=G (HX1.out.trans hE);clear hE HIN1);go_roundw
    case rel=>exact⟨j+1,m,fr,by go_num,rfl,rfl,by omega,by omega,G ((by rw[HS.out,if_neg (by simp)]:fh bi j fr m (xs.drop j)=fh bi (j+1) fr m (xs.drop (j+1))).symm.trans HQ.out),HX2⟩
    case measure=>simp[intOf];omega
  ·have hlt': ¬(j:Int)<N:=by omega
   have HM:=G (show m=Rv by
    have:=HQ.out;rw[aH (by have:=HN.out;omega),fh]at this
    exact this)
   go_wp2_with fail;go_ret;exact⟨by rw[HRs.out,<-HM.out];rfl,HX.out⟩
theorem CA (k:Int) (h4:(k==4)=false) (h6:(k==6)=false) (h7:(k==7)=false) (h5:(k==5)=false) (op nm tx:List UInt8) (v:Int) (xs:List Ex):BF (.mk k op nm tx v xs):=by
 intro P w A n c hR hT
 have HRs:=G (show dF (.mk k op nm tx v xs)=1 by
  rw[dF,if_neg (by simp only[beq_eq_false_iff_ne]at h4 h6;omega),if_neg (by simpa using h7),if_neg (by simpa using h5)])
 have HE0:=G (O w (.cells #[.int .i64 k, .string (ai op), .string (ai nm), .string (ai tx), .int .i64 v, .slice A n c] 70));simp only[Ex.k,Ex.op,Ex.nm,Ex.tx,Ex.v,Ex.args]at*;clear hR hT;go_enter func26,ntmps26;go_wp2_with fail;go_ret;exact⟨by rw[HRs.out];rfl,HE0.out⟩
theorem po: ∀(m:Nat) (x:Ex),x.wt<=m->x.wt<=1073741824->BF x
 |0,x,h,_=>absurd h (by have:=x.wt_eq;omega)
 |m+1, .mk k op nm tx v xs,h,hw=>by
  have hIH: ∀y∈xs,BF y:=fun y hy=>po m y (by have:=dB hy;rw[Ex.wt]at h;omega) (by have:=dB hy;rw[Ex.wt]at hw;omega);by_cases h46:k=4\/k=6
  ·exact CE k h46 op nm tx v xs hw hIH
  by_cases h7:k=7
  ·subst h7;exact CD op nm tx v xs hw hIH
  by_cases h5:k=5
  ·subst h5;exact CC op nm tx v xs hw hIH
  exact CA k (beq_eq_false_iff_ne.2 (by omega)) (beq_eq_false_iff_ne.2 (by omega)) (beq_eq_false_iff_ne.2 h7) (beq_eq_false_iff_ne.2 h5) op nm tx v xs
end
section
open Go.RowKit
def Dk (x:Ex):Prop:= ∀(X:CB) (gl:Gl) (lv:Value) (lo:Ls) (P:Nat->Prop) (w:World) (A:Option Addr) (n c:Nat),CK X gl lv lo w->cJ w P (.slice A n c) x.args->
 Calls prog 156 #[X.p, .agg #[.int .i64 x.k, .string (ai x.op), .string (ai x.nm), .string (ai x.tx), .int .i64 x.v, .slice A n c]] w fun e w'=>e=b_ (nc gl lo x)/\au w w'
def BI (xs:List Ex):Prop:= ∀(X:CB) (gl:Gl) (lv:Value) (lo:Ls) (P:Nat->Prop) (w:World) (A:Option Addr) (n c:Nat),CK X gl lv lo w->cJ w P (.slice A n c) xs->
 Calls prog 121 #[X.p, .slice A n c] w fun e w'=>e=b_ (na gl lo xs)/\au w w'
theorem zi {gl:Gl} {lo:Ls} {l:List Ex} {j:Nat} (h:j<l.length):na gl lo (l.drop j)=CR.then (nc gl lo l[j]) fun _=>na gl lo (l.drop (j+1)):=by
 rw[ax h,na]
theorem pN (xs:List Ex) (hl:xs.length<=1073741824) (hIH: ∀y∈xs,Dk y):BI xs:=by
 intro X gl lv lo P w A n c hK hR;obtain⟨A',c',hv,hf⟩:=hR.form;injection hv with hv1 hv2 hv3;subst hv1 hv2 hv3;have HR:=G hR;have HI:=G hIH;have HK:=G hK;obtain⟨N,hN⟩: ∃N,xs.length=N:=⟨_,rfl⟩
 have HN:=G hN;rw[hN]at HR hl;obtain⟨Rv,hRv⟩: ∃R,na gl lo xs=R:=⟨_,rfl⟩
 have HRv:=G hRv;have HQ0:=G (show na gl lo (xs.drop 0)=Rv from hRv);have HE0:=G (aN w);obtain⟨Xp,hXp⟩: ∃p,X.p=p:=⟨_,rfl⟩
 have hXp':Xp= .pointer (some ⟨X.g,0,none⟩):=hXp.symm;clear hR hf hIH hK;rw[hN,hRv];clear hN hRv;subst hXp';simp only[CB.p]at*;clear hXp;go_enter func121,ntmps121;go_wp2_with fail
 go_loopw [8] (fun vi wr=> ∃(j:Nat),vi= .int .i64 (j:Int)/\j<=N/\Hid (na gl lo (xs.drop j)=Rv)/\Hid (au w wr)) (fun vi _=>N-(intOf vi).toNat)
 case atStart=>exact⟨0,rfl,aB _,HQ0,HE0⟩
 case round=>
  obtain⟨j,rfl,hj,HQ,HX⟩:=hrel;by_cases hlt:j<N
  ·have hlt':(j:Int)<N:=by omega
   have hjl:j<xs.length:=by have:=HN.out;omega
   obtain⟨b,o,a,rfl,hb,hP,h0,h1,h2,h3,h4,h5,hRa⟩:=HR.out.at_ j hjl;have HS:=G (zi (gl:=gl) (lo:=lo) hjl);have hIy:=HI.out _ (aq hjl);generalize xs[j]=y at*;have e0:=(HX.out.cell b _ hb).trans h0;have e1:=(HX.out.cell b _ hb).trans h1;have e2:=(HX.out.cell b _ hb).trans h2;have e3:=(HX.out.cell b _ hb).trans h3;have e4:=(HX.out.cell b _ hb).trans h4;have e5:=(HX.out.cell b _ hb).trans h5;obtain⟨B,d,rfl,_⟩:=hRa.form;have HC:=G (hIy X gl lv lo P _ B _ d ((HK.out.ext HX.out).ext (O _ (.cells #[.int .i64 y.k, .string (ai y.op), .string (ai y.nm), .string (ai y.tx), .int .i64 y.v, .slice B y.args.length d] 70))) ((hRa.keep (.of_ext HX.out) (Q:=P) (fun b hb _=>hb)).keep (.of_ext (O _ _)) (fun b hb _=>hb)));have HX1:=G (HX.out.alloc' (.cells #[.int .i64 y.k, .string (ai y.op), .string (ai y.nm), .string (ai y.tx), .int .i64 y.v, .slice B y.args.length d] 70));clear h0 h1 h2 h3 h4 h5 hRa hIy;generalize nc gl lo y=r at*;simp only[CB.p]at HC
   cases r with
   |ok u=>
    go_wp2_with (go_at_call 156;refine HC.out.mono ?_;unfold b_;rintro e w3 ⟨rfl,hE⟩;have HY:=G (HX1.out.trans hE);clear hE HC);go_roundw
    case rel=>exact⟨j+1,by go_num,by omega,G (HS.out.symm.trans HQ.out),HY⟩
    case measure=>simp[intOf];omega
   |error q=>
    obtain⟨nm,n⟩:=q;have HF:=G (show Rv= .error (nm,n)from HQ.out.symm.trans HS.out);go_wp2_with (go_at_call 156;refine HC.out.mono ?_;unfold b_ bg;rintro e w3 ⟨rfl,hE⟩;have HY:=G (HX1.out.trans hE);clear hE HC);exact⟨rfl,by rw[HF.out];rfl,HY.out⟩
  ·have hlt': ¬(j:Int)<N:=by omega
   have HF:=G (show Rv= .ok () by
    have:=HQ.out;rw[aH (by have:=HN.out;omega),na]at this
    exact this.symm)
   go_wp2_with fail;exact bodyPost_end (results_none rfl _ _ _) rfl ⟨by rw[HF.out];rfl,HX.out⟩
end
end Go.Proofs.YtddomeddabfinaaGreatDoor
