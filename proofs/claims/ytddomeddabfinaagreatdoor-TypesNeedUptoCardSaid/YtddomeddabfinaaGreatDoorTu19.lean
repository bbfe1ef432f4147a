/-
  Parts of the proof: TyF TyG TyH TyI ParZ OwnQ TyJ TyK TyFr.
-/
import Derived.Test.YtddomeddabfinaaGreatDoorTu00
import Derived.Test.YtddomeddabfinaaGreatDoorTu17
import Derived.Test.YtddomeddabfinaaGreatDoorTu18
import Derived.Test.YtddomeddabfinaaGreatDoorTu01
import Derived.LoopN
import Derived.Test.YtddomeddabfinaaGreatDoorTu06
set_option maxRecDepth 100000
set_option maxHeartbeats 8000000
set_option linter.unusedVariables false
set_option linter.unusedSimpArgs false
set_option linter.unusedSectionVars false
namespace Go.Proofs.YtddomeddabfinaaGreatDoor
open Go.Proofs.Tryz
section
open Go.RowKit
theorem qa {gl:Gl} {lo:Ls} {nm:List UInt8} {b:Bi} {l:List Ex} {j:Nat} (h:j<l.length):jT gl lo nm b j (l.drop j)=CR.then (if iE b j=true then io gl lo l[j]else if jU (tp b j) l[j].k=true then .error (nm,16)else if l[j].k=3 then d9 gl lo l[j].nm else .ok ()) fun _=>jT gl lo nm b (j+1) (l.drop (j+1)):=by
 rw[ay h,jT]
def Cs (op nm tx:List UInt8) (v:Int) (xs:List Ex):Prop:= ∀(X:CB) (gl:Gl) (lv:Value) (lo:Ls) (P:Nat->Prop) (w:World) (A:Option Addr) (n c:Nat),CK X gl lv lo w->b8 w P (.slice A n c) xs->
 Calls prog 185 #[X.p, .agg #[.int .i64 5, .string (ag op), .string (ag nm), .string (ag tx), .int .i64 v, .slice A n c]] w fun e w'=>e=bQ (io gl lo (.mk 5 op nm tx v xs))/\au w w'
theorem qz (op nm tx:List UInt8) (v:Int) (xs:List Ex) (hl:xs.length<=1073741824) (hnm:nm.length<=1073741824) (hb:bD nm=none) (hIH: ∀y∈xs,zZ y):Cs op nm tx v xs:=by
 intro X gl lv lo P w A n c hK hR;obtain⟨A',c',hv,hf⟩:=hR.form;injection hv with hv1 hv2 hv3;subst hv1 hv2 hv3;have HR:=G hR;have HI:=G hIH;obtain⟨N,hN⟩: ∃N,xs.length=N:=⟨_,rfl⟩
 have HN:=G hN;rw[hN]at HR hl;obtain⟨Rv,hRv⟩: ∃R,io gl lo (.mk 5 op nm tx v xs)=R:=⟨_,rfl⟩
 have HRv:=G (show Rv=match gl.fn nm with|none=> .error (nm,15)|some n=>if n=N then jT gl lo nm none 0 xs else .error (nm,16) by
  rw[<-hRv,io,if_neg (by decide),if_neg (by decide),if_neg (by decide),if_pos rfl];unfold qh;rw[hb,<-hN]
  cases gl.fn nm<;>rfl)
 have hEA:=O w (.cells #[.int .i64 5, .string (ag op), .string (ag nm), .string (ag tx), .int .i64 v, .slice A N c] 70);have HE0:=G hEA;have HB0:=G (ax w 70 #[.int .i64 5, .string (ag op), .string (ag nm), .string (ag tx), .int .i64 v, .slice A N c]);have HK0:=G (hK.ext hEA)
 have HBL:=G (show Calls prog 22 #[.string (ag nm)] (w.alloc (.cells #[.int .i64 5, .string (ag op), .string (ag nm), .string (ag tx), .int .i64 v, .slice A N c] 70)) fun e w'=>e= .returned (.tuple #[.int .i64 0, .string ⟨#[]⟩, .bool false])/\au (w.alloc (.cells #[.int .i64 5, .string (ag op), .string (ag nm), .string (ag tx), .int .i64 v, .slice A N c] 70)) w' from by
  have:=l6 nm _ HK0.out.t;rw[hb]at this
  exact this)
 have HIN:=G (fun(i:Nat) (hi:i<=1073741824) (W:World)=>show Calls prog 55 #[.string ⟨#[]⟩, .bool false, .int .i64 (i:Int)] W fun e w'=>e= .returned (.bool true)/\au W w' from jC none i hi (by simp[nc]) W);have HF:=G (fun n W=>dC nm n W);clear hR hf hIH hb hEA hK;rw[hN,hRv];clear hN hRv;obtain⟨g,bi,ba,bf,sv,sf⟩:=X;simp only[CB.p]at*
 cases hfn:gl.fn nm with
 |none=>
  have HE:=G (show Rv= .error (nm,15) by rw[HRv.out,hfn]);clear HI HIN HRv;go_enter func185,ntmps185;go_wp2_with (go_at_call 22;refine HBL.out.mono ?_;rintro e w1 ⟨rfl,hE⟩;have HX1:=G (HE0.out.trans hE);have HB1:=G (HB0.out.ext hE);have f0:=HB1.out.cell;have HK1:=G (HK0.out.ext hE);clear hE HBL HB0 HK0 HE0);refine am 12 1 [] mixed (by kernel_rfl) trivial ?_;repeat (refine sx ?_ (fun w1 hU=> ?_) ?_;rotate_left;(focus have f0:=(HB1.out.ext hU.un).cell;have fk:=(HK1.out.ext hU.un).blk.cell;have f2:=(HK1.out.ext hU.un).lookF hnm;rw[hfn]at f2;simp only[fE,dE]at f2;clear hU;go_simp<;>with_reducible rfl);simp only[aU,aT,aS,aR,aQ])
  intro w7 hw7 _;simp only[ab,aG];have HX2:=G (HX1.out.trans hw7.un);clear f0;have f0:=(HB1.out.ext hw7.un).cell;clear hw7;go_wp2_with (go_at_call 73;refine(HF.out _ _).mono ?_;unfold bh;rintro e w2 ⟨rfl,hE⟩;have HY:=G (HX2.out.trans hE);clear hE HF);exact⟨rfl,by rw[HE.out];rfl,HY.out⟩
 |some k=>
  by_cases hkN:k=N
  ·subst hkN;have HE:=G (show Rv=jT gl lo nm none 0 xs by rw[HRv.out,hfn];simp);have HQ0:=G (show jT gl lo nm none 0 (xs.drop 0)=Rv from HE.out.symm);clear HRv;go_enter func185,ntmps185;go_wp2_with (go_at_call 22;refine HBL.out.mono ?_;rintro e w1 ⟨rfl,hE⟩;have HX1:=G (HE0.out.trans hE);have HB1:=G (HB0.out.ext hE);have f0:=HB1.out.cell;have HK1:=G (HK0.out.ext hE);clear hE HBL HB0 HK0 HE0);refine am 12 1 [] mixed (by kernel_rfl) trivial ?_;repeat (refine sx ?_ (fun w1 hU=> ?_) ?_;rotate_left;(focus have f0:=(HB1.out.ext hU.un).cell;have fk:=(HK1.out.ext hU.un).blk.cell;have f2:=(HK1.out.ext hU.un).lookF hnm;rw[hfn]at f2;simp only[bO,cQ]at f2;clear hU;go_simp<;>with_reducible rfl);simp only[aU,aT,aS,aR,aQ])
   intro w7 hw7 _;simp only[ab,aG];have HX2:=G (HX1.out.trans hw7.un);have HK2:=G (HK1.out.ext hw7.un);clear f0;have f0:=(HB1.out.ext hw7.un).cell;clear hw7 HX1 HK1 HB1;go_wp2_with fail;clear f0
   go_loopw [53] (fun vi wr=> ∃(j:Nat),vi= .int .i64 (j:Int)/\j<=k/\Hid (jT gl lo nm none j (xs.drop j)=Rv)/\Hid (au w wr)/\Hid (CK ⟨g,bi,ba,bf,sv,sf⟩ gl lv lo wr)) (fun vi _=>k-(intOf vi).toNat)
   case atStart=>exact⟨0,rfl,az _,HQ0,HX2,HK2⟩
   case round=>
    obtain⟨j,rfl,hj,HQ,HX,HKj⟩:=hrel;by_cases hlt:j<k
    ·have hlt':(j:Int)<k:=by omega
     have hjl:j<xs.length:=by have:=HN.out;omega
     obtain⟨b,o,a,rfl,hb,hP,h0,h1,h2,h3,h4,h5,hRa⟩:=HR.out.at_ j hjl;have HS:=G (qa (gl:=gl) (lo:=lo) (nm:=nm) (b:=none) hjl);have hIy:=HI.out _ (ai hjl);generalize xs[j]=y at*;have e0:=(HX.out.cell b _ hb).trans h0;have e1:=(HX.out.cell b _ hb).trans h1;have e2:=(HX.out.cell b _ hb).trans h2;have e3:=(HX.out.cell b _ hb).trans h3;have e4:=(HX.out.cell b _ hb).trans h4;have e5:=(HX.out.cell b _ hb).trans h5;obtain⟨B,d,rfl,_⟩:=hRa.form;have HRa:=G ((hRa.keep (.of_ext HX.out) (Q:=P) (fun b hb _=>hb)).keep (.of_ext (O _ (.cells #[.int .i64 y.k, .string (ag y.op), .string (ag y.nm), .string (ag y.tx), .int .i64 y.v, .slice B y.args.length d] 70))) (Q:=P) (fun b hb _=>hb));have HB1:=G (ax wr 70 #[.int .i64 y.k, .string (ag y.op), .string (ag y.nm), .string (ag y.tx), .int .i64 y.v, .slice B y.args.length d]);have HX1:=G (HX.out.alloc' (.cells #[.int .i64 y.k, .string (ag y.op), .string (ag y.nm), .string (ag y.tx), .int .i64 y.v, .slice B y.args.length d] 70));have HK1:=G (HKj.out.ext (O wr (.cells #[.int .i64 y.k, .string (ag y.op), .string (ag y.nm), .string (ag y.tx), .int .i64 y.v, .slice B y.args.length d] 70)));have HIy:=G (hIy ⟨g,bi,ba,bf,sv,sf⟩ gl lv lo P);have HIN1:=G (HIN.out j (by omega));clear h0 h1 h2 h3 h4 h5 hRa hIy;simp only[CB.p]at HIy;generalize io gl lo y=r at*;rw[show iE none j=true from rfl]at HS;simp only[if_true]at HS
     cases r with
     |ok u=>
      go_wp2_with (first|(go_at_call 55;refine(HIN1.out _).mono ?_;rintro e w2 ⟨rfl,hE⟩;have HX3:=G (HX1.out.trans hE);have HE2:=G hE;have f1:=(HB1.out.ext hE).cell;have HK3:=G (HK1.out.ext hE);clear hE HIN1)|(go_at_call 156;refine(HIy.out _ B _ d HK3.out (HRa.out.keep (.of_ext HE2.out) (fun b hb _=>hb))).mono ?_;unfold bQ;rintro e w3 ⟨rfl,hE⟩;have HY:=G (HX3.out.trans hE);have HKY:=G (HK3.out.ext hE);clear hE HIy));go_roundw
      case rel=>exact⟨j+1,by go_num,by omega,G (HS.out.symm.trans HQ.out),HY,HKY⟩
      case measure=>simp[intOf];omega
     |error q=>
      obtain⟨qn,n⟩:=q;have HFn:=G (show Rv= .error (qn,n)from HQ.out.symm.trans HS.out);go_wp2_with (first|(go_at_call 55;refine(HIN1.out _).mono ?_;rintro e w2 ⟨rfl,hE⟩;have HX3:=G (HX1.out.trans hE);have HE2:=G hE;have f1:=(HB1.out.ext hE).cell;have HK3:=G (HK1.out.ext hE);clear hE HIN1)|(go_at_call 156;refine(HIy.out _ B _ d HK3.out (HRa.out.keep (.of_ext HE2.out) (fun b hb _=>hb))).mono ?_;unfold bQ bh;rintro e w3 ⟨rfl,hE⟩;have HY:=G (HX3.out.trans hE);clear hE HIy));exact⟨rfl,by rw[HFn.out];rfl,HY.out⟩
    ·have hlt': ¬(j:Int)<k:=by omega
     have HFn:=G (show Rv= .ok () by
      have:=HQ.out;rw[aB (by have:=HN.out;omega),jT]at this
      exact this.symm)
     go_wp2_with fail;exact bodyPost_end (results_none rfl _ _ _) rfl ⟨by rw[HFn.out];rfl,HX.out⟩
  ·have HE:=G (show Rv= .error (nm,16) by rw[HRv.out,hfn];simp[hkN]);have hkN':((k:Int) !=(N:Int))=true:=by simp;omega
   have hkN2:((k:Int)==(N:Int))=false:=by simp;omega
   clear HI HIN HRv;go_enter func185,ntmps185;go_wp2_with (go_at_call 22;refine HBL.out.mono ?_;rintro e w1 ⟨rfl,hE⟩;have HX1:=G (HE0.out.trans hE);have HB1:=G (HB0.out.ext hE);have f0:=HB1.out.cell;have HK1:=G (HK0.out.ext hE);clear hE HBL HB0 HK0 HE0);refine am 12 1 [] mixed (by kernel_rfl) trivial ?_;repeat (refine sx ?_ (fun w1 hU=> ?_) ?_;rotate_left;(focus have f0:=(HB1.out.ext hU.un).cell;have fk:=(HK1.out.ext hU.un).blk.cell;have f2:=(HK1.out.ext hU.un).lookF hnm;rw[hfn]at f2;simp only[bO,cQ]at f2;clear hU;go_simp<;>with_reducible rfl);simp only[aU,aT,aS,aR,aQ])
   intro w7 hw7 _;simp only[ab,aG];have HX2:=G (HX1.out.trans hw7.un);clear f0;have f0:=(HB1.out.ext hw7.un).cell;clear hw7;go_wp2_with (go_at_call 73;refine(HF.out _ _).mono ?_;unfold bh;rintro e w2 ⟨rfl,hE⟩;have HY:=G (HX2.out.trans hE);clear hE HF);exact⟨rfl,by rw[HE.out];rfl,HY.out⟩
end
section
open Go.RowKit
theorem qy (op nm tx:List UInt8) (v:Int) (xs:List Ex) (hl:xs.length<=1073741824) (hnm:nm.length<=1073741824) (bc:Int) (ls:List UInt8) (hb:bD nm=some (bc,ls)) (hls:ls.length<=3) (hIH: ∀y∈xs,zZ y) (hY2: ∀y∈xs,y.nm.length<=1073741824):Cs op nm tx v xs:=by
 intro X gl lv lo P w A n c hK hR;obtain⟨A',c',hv,hf⟩:=hR.form;injection hv with hv1 hv2 hv3;subst hv1 hv2 hv3;have HR:=G hR;have HI:=G hIH;have HY2:=G hY2;have HLT:=G (qe hb);obtain⟨N,hN⟩: ∃N,xs.length=N:=⟨_,rfl⟩
 have HN:=G hN;rw[hN]at HR hl;obtain⟨Rv,hRv⟩: ∃R,io gl lo (.mk 5 op nm tx v xs)=R:=⟨_,rfl⟩
 have HRv:=G (show Rv=if ls.length=N then jT gl lo nm (some (bc,ls)) 0 xs else .error (nm,16) by
  rw[<-hRv,io,if_neg (by decide),if_neg (by decide),if_neg (by decide),if_pos rfl];unfold qh
  rw[hb,<-hN])
 have hEA:=O w (.cells #[.int .i64 5, .string (ag op), .string (ag nm), .string (ag tx), .int .i64 v, .slice A N c] 70);have HE0:=G hEA;have HB0:=G (ax w 70 #[.int .i64 5, .string (ag op), .string (ag nm), .string (ag tx), .int .i64 v, .slice A N c]);have HK0:=G (hK.ext hEA)
 have HBL:=G (show Calls prog 22 #[.string (ag nm)] (w.alloc (.cells #[.int .i64 5, .string (ag op), .string (ag nm), .string (ag tx), .int .i64 v, .slice A N c] 70)) fun e w'=>e= .returned (.tuple #[.int .i64 bc, .string (ag ls), .bool true])/\au (w.alloc (.cells #[.int .i64 5, .string (ag op), .string (ag nm), .string (ag tx), .int .i64 v, .slice A N c] 70)) w' from by
  have:=l6 nm _ HK0.out.t;rw[hb]at this
  exact this)
 have HIN:=G (fun(i:Nat) (hi:i<=1073741824) (W:World)=>show Calls prog 55 #[.string (ag ls), .bool true, .int .i64 (i:Int)] W fun e w'=>e= .returned (.bool (iE (some (bc,ls)) i))/\au W w' from jC (some (bc,ls)) i hi (by simp only[nc];omega) W);have HF:=G (fun n W=>dC nm n W);have hsz:=aL ls;clear hR hf hIH hY2 hb hEA hK;rw[hN,hRv];clear hN hRv;obtain⟨g,bi,ba,bf,sv,sf⟩:=X;simp only[CB.p]at*;obtain⟨fo,hfn⟩: ∃fo,gl.fn nm=fo:=⟨_,rfl⟩
 cases fo;all_goals
  by_cases hkN:ls.length=N
  ·have HE:=G (show Rv=jT gl lo nm (some (bc,ls)) 0 xs by rw[HRv.out,if_pos hkN]);have HQ0:=G (show jT gl lo nm (some (bc,ls)) 0 (xs.drop 0)=Rv from HE.out.symm);have hkN1:((ls.length:Int) !=(N:Int))=false:=by simp[hkN]
   clear HRv;go_enter func185,ntmps185;go_wp2_with (go_at_call 22;refine HBL.out.mono ?_;rintro e w1 ⟨rfl,hE⟩;have HX1:=G (HE0.out.trans hE);have HB1:=G (HB0.out.ext hE);have f0:=HB1.out.cell;have HK1:=G (HK0.out.ext hE);clear hE HBL HB0 HK0 HE0);refine am 12 1 [] mixed (by kernel_rfl) trivial ?_;repeat (refine sx ?_ (fun w1 hU=> ?_) ?_;rotate_left;(focus have f0:=(HB1.out.ext hU.un).cell;have fk:=(HK1.out.ext hU.un).blk.cell;have f2:=(HK1.out.ext hU.un).lookF hnm;rw[hfn]at f2;simp only[bO,fE,cQ,dE]at f2;clear hU;go_simp<;>with_reducible rfl);simp only[aU,aT,aS,aR,aQ])
   intro w7 hw7 _;simp only[ab,aG];have HX2:=G (HX1.out.trans hw7.un);have HK2:=G (HK1.out.ext hw7.un);have HB2:=G (HB1.out.ext hw7.un);clear f0;have f0:=HB2.out.cell;clear hw7 HX1 HK1 HB1;go_wp2_with fail;clear f0
   go_loopw [53] (fun vi wr=> ∃(j:Nat),vi= .int .i64 (j:Int)/\j<=N/\Hid (jT gl lo nm (some (bc,ls)) j (xs.drop j)=Rv)/\Hid (au w wr)/\Hid (CK ⟨g,bi,ba,bf,sv,sf⟩ gl lv lo wr)/\Hid (aO wr w.heap.size 70 #[.int .i64 5, .string (ag op), .string (ag nm), .string (ag tx), .int .i64 v, .slice A N c])) (fun vi _=>N-(intOf vi).toNat)
   case atStart=>exact⟨0,rfl,az _,HQ0,HX2,HK2,HB2⟩
   case round=>
    obtain⟨j,rfl,hj,HQ,HX,HKj,HBj⟩:=hrel;by_cases hlt:j<N
    ·have hlt':(j:Int)<N:=by omega
     have hjl:j<xs.length:=by have:=HN.out;omega
     have hjs:j<ls.length:=by omega
     obtain⟨b,o,a,rfl,hb,hP,h0,h1,h2,h3,h4,h5,hRa⟩:=HR.out.at_ j hjl;have HS:=qa (gl:=gl) (lo:=lo) (nm:=nm) (b:=some (bc,ls)) hjl;have hIy:=HI.out _ (ai hjl);have hy2:=HY2.out _ (ai hjl);obtain⟨y,hy⟩: ∃y,xs[j]=y:=⟨_,rfl⟩
     rw[hy]at h0 h1 h2 h3 h4 hRa HS hIy hy2;clear hy;obtain⟨k2,op2,nm2,tx2,v2,as2⟩:=y;simp only[Ex.k,Ex.op,Ex.nm,Ex.tx,Ex.v,Ex.args]at h0 h1 h2 h3 h4 hRa HS hy2;have e0:=(HX.out.cell b _ hb).trans h0;have e1:=(HX.out.cell b _ hb).trans h1;have e2:=(HX.out.cell b _ hb).trans h2;have e3:=(HX.out.cell b _ hb).trans h3;have e4:=(HX.out.cell b _ hb).trans h4;have e5:=(HX.out.cell b _ hb).trans h5;obtain⟨B,d,rfl,_⟩:=hRa.form;have HRa:=G ((hRa.keep (.of_ext HX.out) (Q:=P) (fun b hb _=>hb)).keep (.of_ext (O _ (.cells #[.int .i64 k2, .string (ag op2), .string (ag nm2), .string (ag tx2), .int .i64 v2, .slice B as2.length d] 70))) (Q:=P) (fun b hb _=>hb));have HB1:=G (ax wr 70 #[.int .i64 k2, .string (ag op2), .string (ag nm2), .string (ag tx2), .int .i64 v2, .slice B as2.length d]);have HX1:=G (HX.out.alloc' (.cells #[.int .i64 k2, .string (ag op2), .string (ag nm2), .string (ag tx2), .int .i64 v2, .slice B as2.length d] 70));have HK1:=G (HKj.out.ext (O wr (.cells #[.int .i64 k2, .string (ag op2), .string (ag nm2), .string (ag tx2), .int .i64 v2, .slice B as2.length d] 70)));have HIy:=G (hIy ⟨g,bi,ba,bf,sv,sf⟩ gl lv lo P);have HIN1:=G (HIN.out j (by omega));clear h0 h1 h2 h3 h4 h5 hRa hIy;simp only[CB.p,Ex.k,Ex.op,Ex.nm,Ex.tx,Ex.v,Ex.args]at HIy
     cases hia:iE (some (bc,ls)) j with
     |true=>
      rw[hia]at HS HIN1;simp only[if_true]at HS;generalize io gl lo (.mk k2 op2 nm2 tx2 v2 as2)=r at*
      cases r with
      |ok u=>
       have HS:=G HS;go_wp2_with (first|(go_at_call 55;refine(HIN1.out _).mono ?_;rintro e w2 ⟨rfl,hE⟩;have HX3:=G (HX1.out.trans hE);have HE2:=G hE;have f1:=(HB1.out.ext hE).cell;have f0:=(HBj.out.ext ((O _ _).trans hE)).cell;have HK3:=G (HK1.out.ext hE);clear hE HIN1)|(go_at_call 156;refine(HIy.out _ B _ d HK3.out (HRa.out.keep (.of_ext HE2.out) (fun b hb _=>hb))).mono ?_;unfold bQ;rintro e w3 ⟨rfl,hE⟩;have HY:=G (HX3.out.trans hE);have HKY:=G (HK3.out.ext hE);have HBY:=G (HBj.out.ext ((O _ _).trans (HE2.out.trans hE)));clear hE HIy));go_roundw
       case rel=>exact⟨j+1,by go_num,by omega,G (HS.out.symm.trans HQ.out),HY,HKY,HBY⟩
       case measure=>simp[intOf];omega
      |error q=>
       obtain⟨qn,n⟩:=q;have HS:=G HS;have HFn:=G (show Rv= .error (qn,n)from HQ.out.symm.trans HS.out);go_wp2_with (first|(go_at_call 55;refine(HIN1.out _).mono ?_;rintro e w2 ⟨rfl,hE⟩;have HX3:=G (HX1.out.trans hE);have HE2:=G hE;have f1:=(HB1.out.ext hE).cell;have f0:=(HBj.out.ext ((O _ _).trans hE)).cell;have HK3:=G (HK1.out.ext hE);clear hE HIN1)|(go_at_call 156;refine(HIy.out _ B _ d HK3.out (HRa.out.keep (.of_ext HE2.out) (fun b hb _=>hb))).mono ?_;unfold bQ bh;rintro e w3 ⟨rfl,hE⟩;have HY:=G (HX3.out.trans hE);clear hE HIy));exact⟨rfl,by rw[HFn.out];rfl,HY.out⟩
     |false=>
      rw[hia]at HS HIN1;have hq:=HLT.out _ (ai hjs);have hix:=fun w=>kW ls j hjs w;have hq5:ls[j]≠105:=by
       intro e;have:iE (some (bc,ls)) j=true:=by
        simp only[iE];rw[bP];right;rw[bK,aN hjs];simp[e]
       rw[this]at hia
       cases hia
      have hlt2:tp (some (bc,ls)) j=ls[j]:=by simp only[tp];rw[bK,aN hjs];rfl
      rw[hlt2]at HS;have hjs':(j:Int)<ls.length:=by omega
      generalize ls[j]=q at hq hix hq5 HS;simp only[bR,if_false]at HS;clear hia hlt2 HIy;rcases hq with rfl|rfl|rfl|rfl
      ·exact absurd rfl hq5
      ·have hix: ∀w,(Instr.index 9 (.string (ag ls)) (.int .i64 (j:Int))).run prog w= .ok (.int .u8 115) w:=hix;by_cases hk2:k2=2
       ·subst hk2;simp[jU]at HS;have HS:=G HS;go_wp2_with (go_at_call 55;refine(HIN1.out _).mono ?_;rintro e w2 ⟨rfl,hE⟩;have HX3:=G (HX1.out.trans hE);have HE2:=G hE;have f1:=(HB1.out.ext hE).cell;have f0:=(HBj.out.ext ((O _ _).trans hE)).cell;have HK3:=G (HK1.out.ext hE);clear hE HIN1);go_roundw
        case rel=>exact⟨j+1,by go_num,by omega,G (HS.out.symm.trans HQ.out),HX3,HK3,G (HBj.out.ext ((O _ _).trans HE2.out))⟩
        case measure=>simp[intOf];omega
       ·have n2:(k2 !=2)=true:=by simpa using hk2
        have m2:(k2==2)=false:=by simpa using hk2
        simp[jU,hk2]at HS;have HS:=G HS;have HFn:=G (show Rv= .error (nm,16)from HQ.out.symm.trans HS.out);go_wp2_with (first|(go_at_call 55;refine(HIN1.out _).mono ?_;rintro e w2 ⟨rfl,hE⟩;have HX3:=G (HX1.out.trans hE);have HE2:=G hE;have f1:=(HB1.out.ext hE).cell;have f0:=(HBj.out.ext ((O _ _).trans hE)).cell;have HK3:=G (HK1.out.ext hE);clear hE HIN1)|(go_at_call 73;refine(HF.out _ _).mono ?_;unfold bh;rintro e w4 ⟨rfl,hE⟩;have HY:=G (HX3.out.trans hE);clear hE HF));exact⟨rfl,by rw[HFn.out];rfl,HY.out⟩
      ·have hix: ∀w,(Instr.index 9 (.string (ag ls)) (.int .i64 (j:Int))).run prog w= .ok (.int .u8 97) w:=hix;by_cases hk3:k2=3
       ·subst hk3;simp[jU]at HS
        cases hca:d9 gl lo nm2 with
        |ok u=>
         rw[hca]at HS;have HS:=G HS;go_wp2_with (first|(go_at_call 55;refine(HIN1.out _).mono ?_;rintro e w2 ⟨rfl,hE⟩;have HX3:=G (HX1.out.trans hE);have HE2:=G hE;have f1:=(HB1.out.ext hE).cell;have f0:=(HBj.out.ext ((O _ _).trans hE)).cell;have HK3:=G (HK1.out.ext hE);clear hE HIN1)|(go_at_call 120;refine(dR ⟨g,bi,ba,bf,sv,sf⟩ gl lv lo _ HK3.out nm2 hy2).mono ?_;rw[hca];unfold bQ;rintro e w3 ⟨rfl,hE⟩;have HY:=G (HX3.out.trans hE);have HKY:=G (HK3.out.ext hE);have HBY:=G (HBj.out.ext ((O _ _).trans (HE2.out.trans hE)));clear hE));go_roundw
         case rel=>exact⟨j+1,by go_num,by omega,G (HS.out.symm.trans HQ.out),HY,HKY,HBY⟩
         case measure=>simp[intOf];omega
        |error q=>
         obtain⟨qn,n⟩:=q;rw[hca]at HS;have HS:=G HS;have HFn:=G (show Rv= .error (qn,n)from HQ.out.symm.trans HS.out);go_wp2_with (first|(go_at_call 55;refine(HIN1.out _).mono ?_;rintro e w2 ⟨rfl,hE⟩;have HX3:=G (HX1.out.trans hE);have HE2:=G hE;have f1:=(HB1.out.ext hE).cell;have f0:=(HBj.out.ext ((O _ _).trans hE)).cell;have HK3:=G (HK1.out.ext hE);clear hE HIN1)|(go_at_call 120;refine(dR ⟨g,bi,ba,bf,sv,sf⟩ gl lv lo _ HK3.out nm2 hy2).mono ?_;rw[hca];unfold bQ bh;rintro e w3 ⟨rfl,hE⟩;have HY:=G (HX3.out.trans hE);clear hE));exact⟨rfl,by rw[HFn.out];rfl,HY.out⟩
       ·have n3:(k2 !=3)=true:=by simpa using hk3
        have m3:(k2==3)=false:=by simpa using hk3
        simp[jU,hk3]at HS;have HS:=G HS;have HFn:=G (show Rv= .error (nm,16)from HQ.out.symm.trans HS.out);go_wp2_with (first|(go_at_call 55;refine(HIN1.out _).mono ?_;rintro e w2 ⟨rfl,hE⟩;have HX3:=G (HX1.out.trans hE);have HE2:=G hE;have f1:=(HB1.out.ext hE).cell;have f0:=(HBj.out.ext ((O _ _).trans hE)).cell;have HK3:=G (HK1.out.ext hE);clear hE HIN1)|(go_at_call 73;refine(HF.out _ _).mono ?_;unfold bh;rintro e w4 ⟨rfl,hE⟩;have HY:=G (HX3.out.trans hE);clear hE HF));exact⟨rfl,by rw[HFn.out];rfl,HY.out⟩
      ·have hix: ∀w,(Instr.index 9 (.string (ag ls)) (.int .i64 (j:Int))).run prog w= .ok (.int .u8 98) w:=hix;by_cases hk3:k2=3
       ·subst hk3;simp[jU]at HS
        cases hca:d9 gl lo nm2 with
        |ok u=>
         rw[hca]at HS;have HS:=G HS;go_wp2_with (first|(go_at_call 55;refine(HIN1.out _).mono ?_;rintro e w2 ⟨rfl,hE⟩;have HX3:=G (HX1.out.trans hE);have HE2:=G hE;have f1:=(HB1.out.ext hE).cell;have f0:=(HBj.out.ext ((O _ _).trans hE)).cell;have HK3:=G (HK1.out.ext hE);clear hE HIN1)|(go_at_call 120;refine(dR ⟨g,bi,ba,bf,sv,sf⟩ gl lv lo _ HK3.out nm2 hy2).mono ?_;rw[hca];unfold bQ;rintro e w3 ⟨rfl,hE⟩;have HY:=G (HX3.out.trans hE);have HKY:=G (HK3.out.ext hE);have HBY:=G (HBj.out.ext ((O _ _).trans (HE2.out.trans hE)));clear hE));go_roundw
         case rel=>exact⟨j+1,by go_num,by omega,G (HS.out.symm.trans HQ.out),HY,HKY,HBY⟩
         case measure=>simp[intOf];omega
        |error q=>
         obtain⟨qn,n⟩:=q;rw[hca]at HS;have HS:=G HS;have HFn:=G (show Rv= .error (qn,n)from HQ.out.symm.trans HS.out);go_wp2_with (first|(go_at_call 55;refine(HIN1.out _).mono ?_;rintro e w2 ⟨rfl,hE⟩;have HX3:=G (HX1.out.trans hE);have HE2:=G hE;have f1:=(HB1.out.ext hE).cell;have f0:=(HBj.out.ext ((O _ _).trans hE)).cell;have HK3:=G (HK1.out.ext hE);clear hE HIN1)|(go_at_call 120;refine(dR ⟨g,bi,ba,bf,sv,sf⟩ gl lv lo _ HK3.out nm2 hy2).mono ?_;rw[hca];unfold bQ bh;rintro e w3 ⟨rfl,hE⟩;have HY:=G (HX3.out.trans hE);clear hE));exact⟨rfl,by rw[HFn.out];rfl,HY.out⟩
       ·have n3:(k2 !=3)=true:=by simpa using hk3
        have m3:(k2==3)=false:=by simpa using hk3
        by_cases hk2:k2=2
        ·subst hk2;simp[jU]at HS;have HS:=G HS;go_wp2_with (go_at_call 55;refine(HIN1.out _).mono ?_;rintro e w2 ⟨rfl,hE⟩;have HX3:=G (HX1.out.trans hE);have HE2:=G hE;have f1:=(HB1.out.ext hE).cell;have f0:=(HBj.out.ext ((O _ _).trans hE)).cell;have HK3:=G (HK1.out.ext hE);clear hE HIN1);go_roundw
         case rel=>exact⟨j+1,by go_num,by omega,G (HS.out.symm.trans HQ.out),HX3,HK3,G (HBj.out.ext ((O _ _).trans HE2.out))⟩
         case measure=>simp[intOf];omega
        ·have n2:(k2 !=2)=true:=by simpa using hk2
         have m2:(k2==2)=false:=by simpa using hk2
         simp[jU,hk3,hk2]at HS;have HS:=G HS;have HFn:=G (show Rv= .error (nm,16)from HQ.out.symm.trans HS.out);go_wp2_with (first|(go_at_call 55;refine(HIN1.out _).mono ?_;rintro e w2 ⟨rfl,hE⟩;have HX3:=G (HX1.out.trans hE);have HE2:=G hE;have f1:=(HB1.out.ext hE).cell;have f0:=(HBj.out.ext ((O _ _).trans hE)).cell;have HK3:=G (HK1.out.ext hE);clear hE HIN1)|(go_at_call 73;refine(HF.out _ _).mono ?_;unfold bh;rintro e w4 ⟨rfl,hE⟩;have HY:=G (HX3.out.trans hE);clear hE HF));exact⟨rfl,by rw[HFn.out];rfl,HY.out⟩
    ·have hlt': ¬(j:Int)<N:=by omega
     have HFn:=G (show Rv= .ok () by
      have:=HQ.out;rw[aB (by have:=HN.out;omega),jT]at this
      exact this.symm)
     go_wp2_with fail;exact bodyPost_end (results_none rfl _ _ _) rfl ⟨by rw[HFn.out];rfl,HX.out⟩
  ·have HE:=G (show Rv= .error (nm,16) by rw[HRv.out,if_neg hkN]);have hkN':((ls.length:Int) !=(N:Int))=true:=by simp;omega
   have hkN2:((ls.length:Int)==(N:Int))=false:=by simp;omega
   clear HI HIN HRv;go_enter func185,ntmps185;go_wp2_with (go_at_call 22;refine HBL.out.mono ?_;rintro e w1 ⟨rfl,hE⟩;have HX1:=G (HE0.out.trans hE);have HB1:=G (HB0.out.ext hE);have f0:=HB1.out.cell;have HK1:=G (HK0.out.ext hE);clear hE HBL HB0 HK0 HE0);refine am 12 1 [] mixed (by kernel_rfl) trivial ?_;repeat (refine sx ?_ (fun w1 hU=> ?_) ?_;rotate_left;(focus have f0:=(HB1.out.ext hU.un).cell;have fk:=(HK1.out.ext hU.un).blk.cell;have f2:=(HK1.out.ext hU.un).lookF hnm;rw[hfn]at f2;simp only[bO,fE,cQ,dE]at f2;clear hU;go_simp<;>with_reducible rfl);simp only[aU,aT,aS,aR,aQ])
   intro w7 hw7 _;simp only[ab,aG];have HX2:=G (HX1.out.trans hw7.un);have HK2:=G (HK1.out.ext hw7.un);have HB2:=G (HB1.out.ext hw7.un);clear f0;have f0:=HB2.out.cell;clear hw7 HX1 HK1 HB1;go_wp2_with (go_at_call 73;refine(HF.out _ _).mono ?_;unfold bh;rintro e w2 ⟨rfl,hE⟩;have HY:=G (HX2.out.trans hE);clear hE HF);exact⟨rfl,by rw[HE.out];rfl,HY.out⟩
end
section
open Go.RowKit
theorem qx (k:Int) (op nm tx:List UInt8) (v:Int) (xs:List Ex) (hnm:nm.length<=1073741824) (hLs:xU xs) (hC:k=5->Cs op nm tx v xs):zZ (.mk k op nm tx v xs):=by
 intro X gl lv lo P w A n c hK hR;obtain⟨Rv,hRv⟩: ∃R,io gl lo (.mk k op nm tx v xs)=R:=⟨_,rfl⟩
 have HD:=G (hRv.symm.trans (io.eq_1 gl lo k op nm tx v xs));simp only[Ex.k,Ex.op,Ex.nm,Ex.tx,Ex.v,Ex.args]at*;rw[hRv];clear hRv;by_cases h3:k=3
 ·subst h3;have hE:=HD.out;rw[if_pos rfl]at hE;have HE0:=G (O w (.cells #[.int .i64 3, .string (ag op), .string (ag nm), .string (ag tx), .int .i64 v, .slice A n c] 70));have hB0:=ax w 70 #[.int .i64 3, .string (ag op), .string (ag nm), .string (ag tx), .int .i64 v, .slice A n c];have HB0:=G hB0;have HK0:=G (hK.ext HE0.out);have HR0:=G (hR.keep (.of_ext HE0.out) (Q:=P) (fun b hb _=>hb));clear hK hR hB0
  cases hr:gN gl lo nm with
  |ok u=>
   have HE:=G (hE.trans hr);go_enter func156,ntmps156;go_wp2_with (go_at_call 119;refine(ef X gl lv lo _ HK0.out nm hnm).mono ?_;rw[hr];unfold bQ;rintro e w1 ⟨rfl,hE⟩;have HX:=G (HE0.out.trans hE);clear hE);exact bodyPost_end (results_none rfl _ _ _) rfl ⟨by rw[HE.out];rfl,HX.out⟩
  |error q=>
   obtain⟨qn,m⟩:=q;have HE:=G (hE.trans hr);go_enter func156,ntmps156;go_wp2_with (go_at_call 119;refine(ef X gl lv lo _ HK0.out nm hnm).mono ?_;rw[hr];unfold bQ bh;rintro e w1 ⟨rfl,hE⟩;have HX:=G (HE0.out.trans hE);clear hE);exact⟨rfl,by rw[HE.out];rfl,HX.out⟩
 by_cases h4:k=4
 ·subst h4;have hE:=HD.out;rw[if_neg (by decide),if_pos rfl]at hE;have HE0:=G (O w (.cells #[.int .i64 4, .string (ag op), .string (ag nm), .string (ag tx), .int .i64 v, .slice A n c] 70));have hB0:=ax w 70 #[.int .i64 4, .string (ag op), .string (ag nm), .string (ag tx), .int .i64 v, .slice A n c];have HB0:=G hB0;have HK0:=G (hK.ext HE0.out);have HR0:=G (hR.keep (.of_ext HE0.out) (Q:=P) (fun b hb _=>hb));clear hK hR hB0
  cases hr:d9 gl lo nm with
  |ok u=>
   rw[hr,dK]at hE
   cases hs:gX gl lo xs with
   |ok u=>
    have HE:=G (hE.trans hs);go_enter func156,ntmps156;go_wp2_with (first|(go_at_call 120;refine(dR X gl lv lo _ HK0.out nm hnm).mono ?_;rw[hr];unfold bQ;rintro e w1 ⟨rfl,hE⟩;have HX:=G (HE0.out.trans hE);have HE1:=G hE;have f0:=(HB0.out.ext hE).cell;clear hE)|(go_at_call 121;refine(hLs X gl lv lo P _ A n c (HK0.out.ext HE1.out) (HR0.out.keep (.of_ext HE1.out) (fun b hb _=>hb))).mono ?_;rw[hs];unfold bQ;rintro e w2 ⟨rfl,hE⟩;have HY:=G (HX.out.trans hE);clear hE));exact bodyPost_end (results_none rfl _ _ _) rfl ⟨by rw[HE.out];rfl,HY.out⟩
   |error q=>
    obtain⟨qn,m⟩:=q;have HE:=G (hE.trans hs);go_enter func156,ntmps156;go_wp2_with (first|(go_at_call 120;refine(dR X gl lv lo _ HK0.out nm hnm).mono ?_;rw[hr];unfold bQ;rintro e w1 ⟨rfl,hE⟩;have HX:=G (HE0.out.trans hE);have HE1:=G hE;have f0:=(HB0.out.ext hE).cell;clear hE)|(go_at_call 121;refine(hLs X gl lv lo P _ A n c (HK0.out.ext HE1.out) (HR0.out.keep (.of_ext HE1.out) (fun b hb _=>hb))).mono ?_;rw[hs];unfold bQ bh;rintro e w2 ⟨rfl,hE⟩;have HY:=G (HX.out.trans hE);clear hE));exact⟨rfl,by rw[HE.out];rfl,HY.out⟩
  |error q=>
   obtain⟨qn,m⟩:=q;rw[hr,eG]at hE;have HE:=G hE;go_enter func156,ntmps156;go_wp2_with (go_at_call 120;refine(dR X gl lv lo _ HK0.out nm hnm).mono ?_;rw[hr];unfold bQ bh;rintro e w1 ⟨rfl,hE⟩;have HX:=G (HE0.out.trans hE);clear hE);exact⟨rfl,by rw[HE.out];rfl,HX.out⟩
 by_cases h2:k=2
 ·subst h2;have hE:=HD.out;rw[if_neg (by decide),if_neg (by decide),if_pos rfl]at hE;have HE:=G hE;have HE0:=G (O w (.cells #[.int .i64 2, .string (ag op), .string (ag nm), .string (ag tx), .int .i64 v, .slice A n c] 70));have hB0:=ax w 70 #[.int .i64 2, .string (ag op), .string (ag nm), .string (ag tx), .int .i64 v, .slice A n c];have HB0:=G hB0;have HK0:=G (hK.ext HE0.out);have HR0:=G (hR.keep (.of_ext HE0.out) (Q:=P) (fun b hb _=>hb));clear hK hR hB0;have HF:=G (fun W=>show Calls prog 73 #[.string ⟨#[]⟩, .int .i64 16] W fun e w'=>e=bh [] 16/\au W w' from dC [] 16 W);go_enter func156,ntmps156;go_wp2_with (go_at_call 73;refine(HF.out _).mono ?_;unfold bh;rintro e w1 ⟨rfl,hE⟩;have HX:=G (HE0.out.trans hE);clear hE);exact⟨rfl,by rw[HE.out];rfl,HX.out⟩
 by_cases h5:k=5
 ·subst h5;have HC:=G (hC rfl);have HD:=G (show io gl lo (.mk 5 op nm tx v xs)=Rv by rw[HD.out,io]);have HE0:=G (O w (.cells #[.int .i64 5, .string (ag op), .string (ag nm), .string (ag tx), .int .i64 v, .slice A n c] 70));have hB0:=ax w 70 #[.int .i64 5, .string (ag op), .string (ag nm), .string (ag tx), .int .i64 v, .slice A n c];have HB0:=G hB0;have HK0:=G (hK.ext HE0.out);have HR0:=G (hR.keep (.of_ext HE0.out) (Q:=P) (fun b hb _=>hb));clear hK hR hB0
  cases hr:io gl lo (.mk 5 op nm tx v xs)with
  |ok u=>
   have HE:=G (HD.out.symm.trans hr);go_enter func156,ntmps156;go_wp2_with (go_at_call 185;refine(HC.out X gl lv lo P _ A n c HK0.out HR0.out).mono ?_;rw[hr];unfold bQ;rintro e w1 ⟨rfl,hE⟩;have HX:=G (HE0.out.trans hE);clear hE);exact bodyPost_end (results_none rfl _ _ _) rfl ⟨by rw[HE.out];rfl,HX.out⟩
  |error q=>
   obtain⟨qn,m⟩:=q;have HE:=G (HD.out.symm.trans hr);go_enter func156,ntmps156;go_wp2_with (go_at_call 185;refine(HC.out X gl lv lo P _ A n c HK0.out HR0.out).mono ?_;rw[hr];unfold bQ bh;rintro e w1 ⟨rfl,hE⟩;have HX:=G (HE0.out.trans hE);clear hE);exact⟨rfl,by rw[HE.out];rfl,HX.out⟩
 by_cases h6:k=6
 ·subst h6;have hE:=HD.out;rw[if_neg (by decide),if_neg (by decide),if_neg (by decide),if_neg (by decide),if_pos (by decide)]at hE;have HE0:=G (O w (.cells #[.int .i64 6, .string (ag op), .string (ag nm), .string (ag tx), .int .i64 v, .slice A n c] 70));have hB0:=ax w 70 #[.int .i64 6, .string (ag op), .string (ag nm), .string (ag tx), .int .i64 v, .slice A n c];have HB0:=G hB0;have HK0:=G (hK.ext HE0.out);have HR0:=G (hR.keep (.of_ext HE0.out) (Q:=P) (fun b hb _=>hb));clear hK hR hB0
  cases hr:gX gl lo xs with
  |ok u=>
   have HE:=G (hE.trans hr);go_enter func156,ntmps156;go_wp2_with (go_at_call 121;refine(hLs X gl lv lo P _ A n c HK0.out HR0.out).mono ?_;rw[hr];unfold bQ;rintro e w1 ⟨rfl,hE⟩;have HX:=G (HE0.out.trans hE);clear hE);exact bodyPost_end (results_none rfl _ _ _) rfl ⟨by rw[HE.out];rfl,HX.out⟩
  |error q=>
   obtain⟨qn,m⟩:=q;have HE:=G (hE.trans hr);go_enter func156,ntmps156;go_wp2_with (go_at_call 121;refine(hLs X gl lv lo P _ A n c HK0.out HR0.out).mono ?_;rw[hr];unfold bQ bh;rintro e w1 ⟨rfl,hE⟩;have HX:=G (HE0.out.trans hE);clear hE);exact⟨rfl,by rw[HE.out];rfl,HX.out⟩
 by_cases h7:k=7
 ·subst h7;have hE:=HD.out;rw[if_neg (by decide),if_neg (by decide),if_neg (by decide),if_neg (by decide),if_pos (by decide)]at hE;have HE0:=G (O w (.cells #[.int .i64 7, .string (ag op), .string (ag nm), .string (ag tx), .int .i64 v, .slice A n c] 70));have hB0:=ax w 70 #[.int .i64 7, .string (ag op), .string (ag nm), .string (ag tx), .int .i64 v, .slice A n c];have HB0:=G hB0;have HK0:=G (hK.ext HE0.out);have HR0:=G (hR.keep (.of_ext HE0.out) (Q:=P) (fun b hb _=>hb));clear hK hR hB0
  cases hr:gX gl lo xs with
  |ok u=>
   have HE:=G (hE.trans hr);go_enter func156,ntmps156;go_wp2_with (go_at_call 121;refine(hLs X gl lv lo P _ A n c HK0.out HR0.out).mono ?_;rw[hr];unfold bQ;rintro e w1 ⟨rfl,hE⟩;have HX:=G (HE0.out.trans hE);clear hE);exact bodyPost_end (results_none rfl _ _ _) rfl ⟨by rw[HE.out];rfl,HX.out⟩
  |error q=>
   obtain⟨qn,m⟩:=q;have HE:=G (hE.trans hr);go_enter func156,ntmps156;go_wp2_with (go_at_call 121;refine(hLs X gl lv lo P _ A n c HK0.out HR0.out).mono ?_;rw[hr];unfold bQ bh;rintro e w1 ⟨rfl,hE⟩;have HX:=G (HE0.out.trans hE);clear hE);exact⟨rfl,by rw[HE.out];rfl,HX.out⟩
 have hE:=HD.out;rw[if_neg h3,if_neg h4,if_neg h2,if_neg h5,if_neg (by omega)]at hE;have HE:=G hE;have HX:=G (O w (.cells #[.int .i64 k, .string (ag op), .string (ag nm), .string (ag tx), .int .i64 v, .slice A n c] 70));have q3:=beq_eq_false_iff_ne.2 h3;have q4:=beq_eq_false_iff_ne.2 h4;have q2:=beq_eq_false_iff_ne.2 h2;have q5:=beq_eq_false_iff_ne.2 h5;have q6:=beq_eq_false_iff_ne.2 h6;have q7:=beq_eq_false_iff_ne.2 h7;clear hK hR;go_enter func156,ntmps156;go_wp2_with fail;exact bodyPost_end (results_none rfl _ _ _) rfl ⟨by rw[HE.out];rfl,HX.out⟩
theorem nt: ∀(m:Nat) (x:Ex),x.wt<=m->x.wt<=1073741824->zZ x
 |0,x,h,_=>absurd h (by have:=x.wt_eq;omega)
 |m+1, .mk k op nm tx v xs,h,hw=>by
  rw[Ex.wt]at h hw;have hIH: ∀y∈xs,zZ y:=fun y hy=>nt m y (by have:=bX hy;omega) (by have:=bX hy;omega);have hl:=bF xs;have hY2: ∀y∈xs,y.nm.length<=1073741824:=fun y hy=>by have:=bX hy;have:=y.wt_eq;omega
  refine qx k op nm tx v xs (by omega) (nR xs (by omega) hIH) fun hk=> ?_
  cases hb:bD nm with
  |none=>exact qz op nm tx v xs (by omega) (by omega) hb hIH
  |some b=>
   obtain⟨bc,ls⟩:=b;have hls:=l7 nm;rw[hb]at hls;exact qy op nm tx v xs (by omega) (by omega) bc ls hb hls hIH hY2
theorem qw (xs:List Ex) (h:gt xs<=1073741824):xU xs:=nR xs (by have:=bF xs;omega) fun y hy=>nt _ y (an _) (by have:=bX hy;omega)
end
section
open Go.RowKit
def mS (X:CB) (gl:Gl) (bl:Nat) (r:SR) (w:World) (e:Ending) (w':World):Prop:=w.grownBy w' (some bl)/\match r with
 | .ok lo=>e= .returned (.tuple #[])/\CK X gl (.map (some bl)) lo w'
 | .error (nm,n)=>e=bh nm n
section
variable {X:CB} {gl:Gl} {lo lo':Ls} {w W W':World} {bl pb:Nat} {P:Nat->Prop}
theorem CK.ml (h:CK X gl (.map (some bl)) lo w):bU w bl (zn lo)/\bl≠X.g/\bl≠X.bi/\bl≠X.ba/\bl≠X.bf:=by
 rcases h.l with⟨h,_⟩|⟨b,h,hm⟩
 ·cases h
 ·injection h with h;injection h with h;subst h;exact hm
theorem CK.lt_bl (h:CK X gl (.map (some bl)) lo w):bl<w.heap.size:=h.ml.1.lt
theorem CK.t_ne (h:CK X gl (.map (some bl)) lo w):bl≠0:=by
 rintro rfl;obtain⟨t,fr,ht⟩:=h.t;obtain⟨es,c,hm,_⟩:=h.ml.1;rw[ht]at hm;cases hm
theorem CK.add {nm:List UInt8} (h:CK X gl (.map (some bl)) lo w) (hm:bU W bl ((zn lo).upd nm (.bool true))) (hg:w.grownBy W (some bl)):CK X gl (.map (some bl)) (lo.add nm) W:=by
 obtain⟨h0,h1,h2,h3,h4⟩:=h.ml;have ne: ∀k,bl≠k->some k≠some bl:=fun k hk e=>hk (by injection e with e;exact e.symm);refine⟨h.blk.grown hg (ne _ h1),h.i.grown hg (ne _ h2),h.a.grown hg (ne _ h3),h.f.grown hg (ne _ h4), .inr ⟨bl,rfl,hm.congr fun s=> ?_,h1,h2,h3,h4⟩,?_⟩
 ·unfold KF.upd zn Ls.add;by_cases e:s=nm
  ·subst e;simp
  ·simp[e]
 ·obtain⟨t,fr,ht⟩:=h.t;exact⟨t,fr,(hg.block _ (Array.getElem?_eq_some_iff.1 ht).1 (ne _ h.t_ne)).trans ht⟩
structure SQ (w:World) (pb bl:Nat) (P:Nat->Prop) (X:CB) (gl:Gl) (lo:Ls) (cs:Array Value) (ex:List Ex) (bd el:List St) (A1 A2 A3:Option Addr) (c1 c2 c3:Nat) (W:World):Prop where
 gr:w.grownBy W (some bl)
 ck:CK X gl (.map (some bl)) lo W
 bk:aO W pb 72 cs
 re:b8 W P (.slice A1 ex.length c1) ex
 rb:cM W P (.slice A2 bd.length c2) bd
 rl:cM W P (.slice A3 el.length c3) el
 hP: ∀b,P b->b≠bl
 ne:bl≠pb
variable {cs:Array Value} {ex:List Ex} {bd el:List St} {A1 A2 A3:Option Addr} {c1 c2 c3:Nat}
theorem SQ.ext (h:SQ w pb bl P X gl lo cs ex bd el A1 A2 A3 c1 c2 c3 W) (he:au W W'):SQ w pb bl P X gl lo cs ex bd el A1 A2 A3 c1 c2 c3 W':=
 ⟨h.gr.trans (he.grownBy _),h.ck.ext he,h.bk.ext he,h.re.keep (.of_ext he) (fun b hb _=>hb),h.rb.keep (.of_ext he) (fun b hb _=>hb),h.rl.keep (.of_ext he) (fun b hb _=>hb),h.hP,h.ne⟩
theorem SQ.grown (h:SQ w pb bl P X gl lo cs ex bd el A1 A2 A3 c1 c2 c3 W) (hg:W.grownBy W' (some bl)) (hc:CK X gl (.map (some bl)) lo' W'):SQ w pb bl P X gl lo' cs ex bd el A1 A2 A3 c1 c2 c3 W':=by
 have hk:cP P W W':= .of_grown hg (fun b hb e=>h.hP b hb (by injection e));exact⟨h.gr.trans hg,hc,h.bk.grown hg (fun e=>h.ne (by injection e with e;exact e.symm)),h.re.keep hk (fun b hb _=>hb),h.rb.keep hk (fun b hb _=>hb),h.rl.keep hk (fun b hb _=>hb),h.hP,h.ne⟩
theorem SQ.ml (h:SQ w pb bl P X gl lo cs ex bd el A1 A2 A3 c1 c2 c3 W):bU W bl (zn lo):=h.ck.ml.1
end
theorem tF {gl:Gl} {lo:Ls} {l:List St} {j:Nat} (h:j<l.length):dm gl lo (l.drop j)=CR.then (mO gl lo l[j]) fun lo1=>dm gl lo1 (l.drop (j+1)):=by
 rw[ay h,dm]
def xS (xs:List St):Prop:= ∀(X:CB) (gl:Gl) (bl:Nat) (lo:Ls) (P:Nat->Prop) (w:World) (A:Option Addr) (n c:Nat),CK X gl (.map (some bl)) lo w->cM w P (.slice A n c) xs->(∀b,P b->b≠bl)->
 Calls prog 74 #[X.p, .slice A n c] w (mS X gl bl (dm gl lo xs) w)
theorem me (xs:List St) (hl:xs.length<=1073741824) (hnmx: ∀s∈xs,s.nm.length<=1073741824) (hEx: ∀s∈xs,xU s.ex) (hIH: ∀s∈xs,xS s.body/\xS s.els):xS xs:=by
 intro X gl bl lo P w A n c hK hR hP;obtain⟨A',c',hv,hf⟩:=hR.form;injection hv with hv1 hv2 hv3;subst hv1 hv2 hv3;have HR:=G hR;have HI:=G hIH;have HNM:=G hnmx;have HEXS:=G hEx;have HK0:=G hK;obtain⟨N,hN⟩: ∃N,xs.length=N:=⟨_,rfl⟩
 have HN:=G hN;rw[hN]at HR hl;obtain⟨Rv,hRv⟩: ∃R,dm gl lo xs=R:=⟨_,rfl⟩
 have HQ0:=G (show dm gl lo (xs.drop 0)=Rv from hRv);have HX0:=G (World.grownBy.refl w (some bl));clear hR hf hIH hK hnmx hEx;rw[hN,hRv];clear hN hRv;simp only[CB.p]at*;go_enter func74,ntmps74;go_wp2_with fail
 go_loopw [8] (fun vi wr=> ∃(j:Nat) (loj:Ls),vi= .int .i64 (j:Int)/\j<=N/\Hid (dm gl loj (xs.drop j)=Rv)/\Hid (w.grownBy wr (some bl))/\Hid (CK X gl (.map (some bl)) loj wr)) (fun vi _=>N-(intOf vi).toNat)
 case atStart=>exact⟨0,lo,rfl,az _,HQ0,HX0,HK0⟩
 case round=>
  obtain⟨j,loj,rfl,hj,HQR,HX,HKj⟩:=hrel;by_cases hlt:j<N
  ·have hlt':(j:Int)<N:=by omega
   have hjl:j<xs.length:=by have:=HN.out;omega
   obtain⟨b,o,e,bv,lv,rfl,hb,hPb,h0,h1,h2,h3,h4,hRe,hRb,hRl⟩:=HR.out.at_ j hjl;have hS:=tF (gl:=gl) (lo:=loj) hjl;have hnm:=HNM.out _ (ai hjl);have hEX:=HEXS.out _ (ai hjl);have hII:=HI.out _ (ai hjl);obtain⟨y,hy⟩: ∃y,xs[j]=y:=⟨_,rfl⟩
   rw[hy]at h0 h1 hRe hRb hRl hS hnm hEX hII;clear hy;obtain⟨k,nm,ex,bd,el⟩:=y;simp only[St.k,St.nm,St.ex,St.body,St.els]at h0 h1 hRe hRb hRl hnm hEX hII;have hKP:cP P w wr:= .of_grown HX.out (fun b hb e=>hP b hb (by injection e));have e0:=(hKP.cell _ hPb hb).trans h0;have e1:=(hKP.cell _ hPb hb).trans h1;have e2:=(hKP.cell _ hPb hb).trans h2;have e3:=(hKP.cell _ hPb hb).trans h3;have e4:=(hKP.cell _ hPb hb).trans h4;obtain⟨A1,c1,rfl,_⟩:=hRe.form;obtain⟨A2,c2,rfl,_⟩:=hRb.form;obtain⟨A3,c3,rfl,_⟩:=hRl.form;have hAl:=O wr (.cells #[.int .i64 k, .string (ag nm), .slice A1 ex.length c1, .slice A2 bd.length c2, .slice A3 el.length c3] 72)
   have HQ:=G (show SQ w wr.heap.size bl P X gl loj #[.int .i64 k, .string (ag nm), .slice A1 ex.length c1, .slice A2 bd.length c2, .slice A3 el.length c3] ex bd el A1 A2 A3 c1 c2 c3 (wr.alloc (.cells #[.int .i64 k, .string (ag nm), .slice A1 ex.length c1, .slice A2 bd.length c2, .slice A3 el.length c3] 72))from
    ⟨HX.out.trans (hAl.grownBy _),HKj.out.ext hAl,ax wr _ _,(hRe.keep hKP (Q:=P) (fun b hb _=>hb)).keep (.of_ext hAl) (fun b hb _=>hb),(hRb.keep hKP (Q:=P) (fun b hb _=>hb)).keep (.of_ext hAl) (fun b hb _=>hb),(hRl.keep hKP (Q:=P) (fun b hb _=>hb)).keep (.of_ext hAl) (fun b hb _=>hb),hP,Nat.ne_of_lt HKj.out.lt_bl⟩)
   have HEX:=G hEX;have HB1:=G hII.1;have HL1:=G hII.2;clear h0 h1 h2 h3 h4 hRe hRb hRl hEX hII hAl hKP HR HI HEXS HNM;rw[mO]at hS;by_cases hk2:k=2
   ·subst hk2;rw[if_pos rfl]at hS
    cases hr1:gN gl loj nm with
    |error q=>
     obtain⟨qn,m⟩:=q;rw[hr1,eG]at hS;have HFn:=G (show Rv= .error (qn,m)from HQR.out.symm.trans hS);go_wp2_with (go_at_call 119;refine(ef X gl _ loj _ HQ.out.ck nm hnm).mono ?_;rw[hr1];unfold bQ bh;rintro e wx ⟨rfl,hE⟩;have HZ:=G (HQ.out.gr.trans (hE.grownBy _));clear hE);exact⟨rfl,by rw[HFn.out];exact⟨HZ.out,rfl⟩⟩
    |ok u=>
     rw[hr1,dK]at hS
     cases hr2:gX gl loj ex with
     |error q=>
      obtain⟨qn,m⟩:=q;rw[hr2,eG]at hS;have HFn:=G (show Rv= .error (qn,m)from HQR.out.symm.trans hS);go_wp2_with (first|(go_at_call 119;refine(ef X gl _ loj _ HQ.out.ck nm hnm).mono ?_;rw[hr1];unfold bQ;rintro e wx ⟨rfl,hE⟩;replace HQ:=G (HQ.out.ext hE);clear hE;(try clear f0);have f0:=HQ.out.bk.cell;)|(go_at_call 121;refine(HEX.out X gl _ loj P _ A1 ex.length c1 HQ.out.ck HQ.out.re).mono ?_;rw[hr2];unfold bQ bh;rintro e wx ⟨rfl,hE⟩;have HZ:=G (HQ.out.gr.trans (hE.grownBy _));clear hE));exact⟨rfl,by rw[HFn.out];exact⟨HZ.out,rfl⟩⟩
     |ok u=>
      rw[hr2,dK]at hS;rw[if_neg (by decide),dK]at hS;obtain⟨lo1,hlo1⟩: ∃l,loj=l:=⟨_,rfl⟩
      subst hlo1
      cases hr4:dm gl loj bd with
      |error q=>
       obtain⟨qn,m⟩:=q;rw[hr4,eG]at hS;have HFn:=G (show Rv= .error (qn,m)from HQR.out.symm.trans hS);go_wp2_with (first|(go_at_call 119;refine(ef X gl _ loj _ HQ.out.ck nm hnm).mono ?_;rw[hr1];unfold bQ;rintro e wx ⟨rfl,hE⟩;replace HQ:=G (HQ.out.ext hE);clear hE;(try clear f0);have f0:=HQ.out.bk.cell;)|(go_at_call 121;refine(HEX.out X gl _ loj P _ A1 ex.length c1 HQ.out.ck HQ.out.re).mono ?_;rw[hr2];unfold bQ;rintro e wx ⟨rfl,hE⟩;replace HQ:=G (HQ.out.ext hE);clear hE;(try clear f0);have f0:=HQ.out.bk.cell;)|(go_at_call 74;have hc:=HB1.out X gl bl loj P _ A2 bd.length c2 HQ.out.ck HQ.out.rb hP;rw[hr4]at hc;clear HB1;refine hc.mono ?_;unfold mS bh;rintro e wx ⟨hg,rfl⟩;have HZ:=G (HQ.out.gr.trans hg);clear hg hc));exact⟨rfl,by rw[HFn.out];exact⟨HZ.out,rfl⟩⟩
      |ok lo2=>
       rw[hr4,dK]at hS
       cases hr5:dm gl lo2 el with
       |error q=>
        obtain⟨qn,m⟩:=q;rw[hr5,eG]at hS;have HFn:=G (show Rv= .error (qn,m)from HQR.out.symm.trans hS);go_wp2_with (first|(go_at_call 119;refine(ef X gl _ loj _ HQ.out.ck nm hnm).mono ?_;rw[hr1];unfold bQ;rintro e wx ⟨rfl,hE⟩;replace HQ:=G (HQ.out.ext hE);clear hE;(try clear f0);have f0:=HQ.out.bk.cell;)|(go_at_call 121;refine(HEX.out X gl _ loj P _ A1 ex.length c1 HQ.out.ck HQ.out.re).mono ?_;rw[hr2];unfold bQ;rintro e wx ⟨rfl,hE⟩;replace HQ:=G (HQ.out.ext hE);clear hE;(try clear f0);have f0:=HQ.out.bk.cell;)|(go_at_call 74;have hc:=HB1.out X gl bl loj P _ A2 bd.length c2 HQ.out.ck HQ.out.rb hP;rw[hr4]at hc;clear HB1;refine hc.mono ?_;unfold mS;rintro e wx ⟨hg,rfl,hck⟩;replace HQ:=G (HQ.out.grown hg hck);clear hg hck hc;(try clear f0);have f0:=HQ.out.bk.cell;)|(go_at_call 74;have hc:=HL1.out X gl bl lo2 P _ A3 el.length c3 HQ.out.ck HQ.out.rl hP;rw[hr5]at hc;clear HL1;refine hc.mono ?_;unfold mS bh;rintro e wx ⟨hg,rfl⟩;have HZ:=G (HQ.out.gr.trans hg);clear hg hc));exact⟨rfl,by rw[HFn.out];exact⟨HZ.out,rfl⟩⟩
       |ok lo3=>
        rw[hr5,dK]at hS;go_wp2_with (first|(go_at_call 119;refine(ef X gl _ loj _ HQ.out.ck nm hnm).mono ?_;rw[hr1];unfold bQ;rintro e wx ⟨rfl,hE⟩;replace HQ:=G (HQ.out.ext hE);clear hE;(try clear f0);have f0:=HQ.out.bk.cell;)|(go_at_call 121;refine(HEX.out X gl _ loj P _ A1 ex.length c1 HQ.out.ck HQ.out.re).mono ?_;rw[hr2];unfold bQ;rintro e wx ⟨rfl,hE⟩;replace HQ:=G (HQ.out.ext hE);clear hE;(try clear f0);have f0:=HQ.out.bk.cell;)|(go_at_call 74;have hc:=HB1.out X gl bl loj P _ A2 bd.length c2 HQ.out.ck HQ.out.rb hP;rw[hr4]at hc;clear HB1;refine hc.mono ?_;unfold mS;rintro e wx ⟨hg,rfl,hck⟩;replace HQ:=G (HQ.out.grown hg hck);clear hg hck hc;(try clear f0);have f0:=HQ.out.bk.cell;)|(go_at_call 74;have hc:=HL1.out X gl bl lo2 P _ A3 el.length c3 HQ.out.ck HQ.out.rl hP;rw[hr5]at hc;clear HL1;refine hc.mono ?_;unfold mS;rintro e wx ⟨hg,rfl,hck⟩;replace HQ:=G (HQ.out.grown hg hck);clear hg hck hc;(try clear f0);have f0:=HQ.out.bk.cell;));go_roundw
        case rel=>exact⟨j+1,lo3,by go_num,by omega,G (hS.symm.trans HQR.out),G HQ.out.gr,G HQ.out.ck⟩
        case measure=>simp[intOf];omega
   by_cases hk3:k=3
   ·subst hk3;rw[if_neg (by decide),if_pos rfl]at hS
    cases hr1:d9 gl loj nm with
    |error q=>
     obtain⟨qn,m⟩:=q;rw[hr1,eG]at hS;have HFn:=G (show Rv= .error (qn,m)from HQR.out.symm.trans hS);go_wp2_with (go_at_call 120;refine(dR X gl _ loj _ HQ.out.ck nm hnm).mono ?_;rw[hr1];unfold bQ bh;rintro e wx ⟨rfl,hE⟩;have HZ:=G (HQ.out.gr.trans (hE.grownBy _));clear hE);exact⟨rfl,by rw[HFn.out];exact⟨HZ.out,rfl⟩⟩
    |ok u=>
     rw[hr1,dK]at hS
     cases hr2:gX gl loj ex with
     |error q=>
      obtain⟨qn,m⟩:=q;rw[hr2,eG]at hS;have HFn:=G (show Rv= .error (qn,m)from HQR.out.symm.trans hS);go_wp2_with (first|(go_at_call 120;refine(dR X gl _ loj _ HQ.out.ck nm hnm).mono ?_;rw[hr1];unfold bQ;rintro e wx ⟨rfl,hE⟩;replace HQ:=G (HQ.out.ext hE);clear hE;(try clear f0);have f0:=HQ.out.bk.cell;)|(go_at_call 121;refine(HEX.out X gl _ loj P _ A1 ex.length c1 HQ.out.ck HQ.out.re).mono ?_;rw[hr2];unfold bQ bh;rintro e wx ⟨rfl,hE⟩;have HZ:=G (HQ.out.gr.trans (hE.grownBy _));clear hE));exact⟨rfl,by rw[HFn.out];exact⟨HZ.out,rfl⟩⟩
     |ok u=>
      rw[hr2,dK]at hS;rw[if_neg (by decide),dK]at hS;obtain⟨lo1,hlo1⟩: ∃l,loj=l:=⟨_,rfl⟩
      subst hlo1
      cases hr4:dm gl loj bd with
      |error q=>
       obtain⟨qn,m⟩:=q;rw[hr4,eG]at hS;have HFn:=G (show Rv= .error (qn,m)from HQR.out.symm.trans hS);go_wp2_with (first|(go_at_call 120;refine(dR X gl _ loj _ HQ.out.ck nm hnm).mono ?_;rw[hr1];unfold bQ;rintro e wx ⟨rfl,hE⟩;replace HQ:=G (HQ.out.ext hE);clear hE;(try clear f0);have f0:=HQ.out.bk.cell;)|(go_at_call 121;refine(HEX.out X gl _ loj P _ A1 ex.length c1 HQ.out.ck HQ.out.re).mono ?_;rw[hr2];unfold bQ;rintro e wx ⟨rfl,hE⟩;replace HQ:=G (HQ.out.ext hE);clear hE;(try clear f0);have f0:=HQ.out.bk.cell;)|(go_at_call 74;have hc:=HB1.out X gl bl loj P _ A2 bd.length c2 HQ.out.ck HQ.out.rb hP;rw[hr4]at hc;clear HB1;refine hc.mono ?_;unfold mS bh;rintro e wx ⟨hg,rfl⟩;have HZ:=G (HQ.out.gr.trans hg);clear hg hc));exact⟨rfl,by rw[HFn.out];exact⟨HZ.out,rfl⟩⟩
      |ok lo2=>
       rw[hr4,dK]at hS
       cases hr5:dm gl lo2 el with
       |error q=>
        obtain⟨qn,m⟩:=q;rw[hr5,eG]at hS;have HFn:=G (show Rv= .error (qn,m)from HQR.out.symm.trans hS);go_wp2_with (first|(go_at_call 120;refine(dR X gl _ loj _ HQ.out.ck nm hnm).mono ?_;rw[hr1];unfold bQ;rintro e wx ⟨rfl,hE⟩;replace HQ:=G (HQ.out.ext hE);clear hE;(try clear f0);have f0:=HQ.out.bk.cell;)|(go_at_call 121;refine(HEX.out X gl _ loj P _ A1 ex.length c1 HQ.out.ck HQ.out.re).mono ?_;rw[hr2];unfold bQ;rintro e wx ⟨rfl,hE⟩;replace HQ:=G (HQ.out.ext hE);clear hE;(try clear f0);have f0:=HQ.out.bk.cell;)|(go_at_call 74;have hc:=HB1.out X gl bl loj P _ A2 bd.length c2 HQ.out.ck HQ.out.rb hP;rw[hr4]at hc;clear HB1;refine hc.mono ?_;unfold mS;rintro e wx ⟨hg,rfl,hck⟩;replace HQ:=G (HQ.out.grown hg hck);clear hg hck hc;(try clear f0);have f0:=HQ.out.bk.cell;)|(go_at_call 74;have hc:=HL1.out X gl bl lo2 P _ A3 el.length c3 HQ.out.ck HQ.out.rl hP;rw[hr5]at hc;clear HL1;refine hc.mono ?_;unfold mS bh;rintro e wx ⟨hg,rfl⟩;have HZ:=G (HQ.out.gr.trans hg);clear hg hc));exact⟨rfl,by rw[HFn.out];exact⟨HZ.out,rfl⟩⟩
       |ok lo3=>
        rw[hr5,dK]at hS;go_wp2_with (first|(go_at_call 120;refine(dR X gl _ loj _ HQ.out.ck nm hnm).mono ?_;rw[hr1];unfold bQ;rintro e wx ⟨rfl,hE⟩;replace HQ:=G (HQ.out.ext hE);clear hE;(try clear f0);have f0:=HQ.out.bk.cell;)|(go_at_call 121;refine(HEX.out X gl _ loj P _ A1 ex.length c1 HQ.out.ck HQ.out.re).mono ?_;rw[hr2];unfold bQ;rintro e wx ⟨rfl,hE⟩;replace HQ:=G (HQ.out.ext hE);clear hE;(try clear f0);have f0:=HQ.out.bk.cell;)|(go_at_call 74;have hc:=HB1.out X gl bl loj P _ A2 bd.length c2 HQ.out.ck HQ.out.rb hP;rw[hr4]at hc;clear HB1;refine hc.mono ?_;unfold mS;rintro e wx ⟨hg,rfl,hck⟩;replace HQ:=G (HQ.out.grown hg hck);clear hg hck hc;(try clear f0);have f0:=HQ.out.bk.cell;)|(go_at_call 74;have hc:=HL1.out X gl bl lo2 P _ A3 el.length c3 HQ.out.ck HQ.out.rl hP;rw[hr5]at hc;clear HL1;refine hc.mono ?_;unfold mS;rintro e wx ⟨hg,rfl,hck⟩;replace HQ:=G (HQ.out.grown hg hck);clear hg hck hc;(try clear f0);have f0:=HQ.out.bk.cell;));go_roundw
        case rel=>exact⟨j+1,lo3,by go_num,by omega,G (hS.symm.trans HQR.out),G HQ.out.gr,G HQ.out.ck⟩
        case measure=>simp[intOf];omega
   by_cases hk1:k=1
   ·subst hk1;rw[if_neg (by decide),if_neg (by decide),dK]at hS
    cases hr2:gX gl loj ex with
    |error q=>
     obtain⟨qn,m⟩:=q;rw[hr2,eG]at hS;have HFn:=G (show Rv= .error (qn,m)from HQR.out.symm.trans hS);go_wp2_with (go_at_call 121;refine(HEX.out X gl _ loj P _ A1 ex.length c1 HQ.out.ck HQ.out.re).mono ?_;rw[hr2];unfold bQ bh;rintro e wx ⟨rfl,hE⟩;have HZ:=G (HQ.out.gr.trans (hE.grownBy _));clear hE);exact⟨rfl,by rw[HFn.out];exact⟨HZ.out,rfl⟩⟩
    |ok u=>
     rw[hr2,dK]at hS;rw[if_pos rfl]at hS
     cases hr3:gl.known loj nm with
     |true=>
      rw[hr3,if_pos rfl,eG]at hS;have HFn:=G (show Rv= .error (nm,9)from HQR.out.symm.trans hS);go_wp2_with (first|(go_at_call 121;refine(HEX.out X gl _ loj P _ A1 ex.length c1 HQ.out.ck HQ.out.re).mono ?_;rw[hr2];unfold bQ;rintro e wx ⟨rfl,hE⟩;replace HQ:=G (HQ.out.ext hE);clear hE;(try clear f0);have f0:=HQ.out.bk.cell;)|(go_at_call 72;refine(dD X gl _ loj _ HQ.out.ck nm hnm).mono ?_;rw[hr3];rintro e wx ⟨rfl,hE⟩;replace HQ:=G (HQ.out.ext hE);clear hE;(try clear f0);have f0:=HQ.out.bk.cell;)|(go_at_call 73;refine(dC nm 9 _).mono ?_;unfold bh;rintro e wx ⟨rfl,hE⟩;have HZ:=G (HQ.out.gr.trans (hE.grownBy _));clear hE));exact⟨rfl,by rw[HFn.out];exact⟨HZ.out,rfl⟩⟩
     |false=>
      rw[hr3,if_neg (by decide),dK]at hS;obtain⟨lo1,hlo1⟩: ∃l,loj.add nm=l:=⟨_,rfl⟩
      rw[hlo1]at hS
      cases hr4:dm gl lo1 bd with
      |error q=>
       obtain⟨qn,m⟩:=q;rw[hr4,eG]at hS;have HFn:=G (show Rv= .error (qn,m)from HQR.out.symm.trans hS);go_wp2_with (first|(go_at_call 121;refine(HEX.out X gl _ loj P _ A1 ex.length c1 HQ.out.ck HQ.out.re).mono ?_;rw[hr2];unfold bQ;rintro e wx ⟨rfl,hE⟩;replace HQ:=G (HQ.out.ext hE);clear hE;(try clear f0);have f0:=HQ.out.bk.cell;)|(go_at_call 72;refine(dD X gl _ loj _ HQ.out.ck nm hnm).mono ?_;rw[hr3];rintro e wx ⟨rfl,hE⟩;replace HQ:=G (HQ.out.ext hE);clear hE;(try clear f0);have f0:=HQ.out.bk.cell;));refine am 6 1 [] mixed (by kernel_rfl) trivial ?_;repeat (refine sx ?_ (fun w1 hU=> ?_) ?_;rotate_left;(focus have f0:=(HQ.out.ext hU.un).bk.cell;have fk:=(HQ.out.ext hU.un).ck.blk.cell;clear hU;go_simp<;>with_reducible rfl);simp only[aU,aT,aS,aR,aQ])
       intro w7 hw7 _;simp only[ab,ap];replace HQ:=G (HQ.out.ext hw7.un);clear hw7;(try clear f0);go_wp2_with (at_mapUpdate;refine dz yf rfl _ _ _ rfl HQ.out.ml rfl (by unfold maxLen;omega) rfl _ rfl ?_;intro w8 hm8 hg8;replace HQ:=G (HQ.out.grown hg8 (HQ.out.ck.add hm8 hg8));clear hm8 hg8;have f0:=HQ.out.bk.cell);rw[hlo1]at HQ;go_wp2_with (go_at_call 74;have hc:=HB1.out X gl bl lo1 P _ A2 bd.length c2 HQ.out.ck HQ.out.rb hP;rw[hr4]at hc;clear HB1;refine hc.mono ?_;unfold mS bh;rintro e wx ⟨hg,rfl⟩;have HZ:=G (HQ.out.gr.trans hg);clear hg hc);exact⟨rfl,by rw[HFn.out];exact⟨HZ.out,rfl⟩⟩
      |ok lo2=>
       rw[hr4,dK]at hS
       cases hr5:dm gl lo2 el with
       |error q=>
        obtain⟨qn,m⟩:=q;rw[hr5,eG]at hS;have HFn:=G (show Rv= .error (qn,m)from HQR.out.symm.trans hS);go_wp2_with (first|(go_at_call 121;refine(HEX.out X gl _ loj P _ A1 ex.length c1 HQ.out.ck HQ.out.re).mono ?_;rw[hr2];unfold bQ;rintro e wx ⟨rfl,hE⟩;replace HQ:=G (HQ.out.ext hE);clear hE;(try clear f0);have f0:=HQ.out.bk.cell;)|(go_at_call 72;refine(dD X gl _ loj _ HQ.out.ck nm hnm).mono ?_;rw[hr3];rintro e wx ⟨rfl,hE⟩;replace HQ:=G (HQ.out.ext hE);clear hE;(try clear f0);have f0:=HQ.out.bk.cell;));refine am 6 1 [] mixed (by kernel_rfl) trivial ?_;repeat (refine sx ?_ (fun w1 hU=> ?_) ?_;rotate_left;(focus have f0:=(HQ.out.ext hU.un).bk.cell;have fk:=(HQ.out.ext hU.un).ck.blk.cell;clear hU;go_simp<;>with_reducible rfl);simp only[aU,aT,aS,aR,aQ])
        intro w7 hw7 _;simp only[ab,ap];replace HQ:=G (HQ.out.ext hw7.un);clear hw7;(try clear f0);go_wp2_with (at_mapUpdate;refine dz yf rfl _ _ _ rfl HQ.out.ml rfl (by unfold maxLen;omega) rfl _ rfl ?_;intro w8 hm8 hg8;replace HQ:=G (HQ.out.grown hg8 (HQ.out.ck.add hm8 hg8));clear hm8 hg8;have f0:=HQ.out.bk.cell);rw[hlo1]at HQ;go_wp2_with (first|(go_at_call 74;have hc:=HB1.out X gl bl lo1 P _ A2 bd.length c2 HQ.out.ck HQ.out.rb hP;rw[hr4]at hc;clear HB1;refine hc.mono ?_;unfold mS;rintro e wx ⟨hg,rfl,hck⟩;replace HQ:=G (HQ.out.grown hg hck);clear hg hck hc;(try clear f0);have f0:=HQ.out.bk.cell;)|(go_at_call 74;have hc:=HL1.out X gl bl lo2 P _ A3 el.length c3 HQ.out.ck HQ.out.rl hP;rw[hr5]at hc;clear HL1;refine hc.mono ?_;unfold mS bh;rintro e wx ⟨hg,rfl⟩;have HZ:=G (HQ.out.gr.trans hg);clear hg hc));exact⟨rfl,by rw[HFn.out];exact⟨HZ.out,rfl⟩⟩
       |ok lo3=>
        rw[hr5,dK]at hS;go_wp2_with (first|(go_at_call 121;refine(HEX.out X gl _ loj P _ A1 ex.length c1 HQ.out.ck HQ.out.re).mono ?_;rw[hr2];unfold bQ;rintro e wx ⟨rfl,hE⟩;replace HQ:=G (HQ.out.ext hE);clear hE;(try clear f0);have f0:=HQ.out.bk.cell;)|(go_at_call 72;refine(dD X gl _ loj _ HQ.out.ck nm hnm).mono ?_;rw[hr3];rintro e wx ⟨rfl,hE⟩;replace HQ:=G (HQ.out.ext hE);clear hE;(try clear f0);have f0:=HQ.out.bk.cell;));refine am 6 1 [] mixed (by kernel_rfl) trivial ?_;repeat (refine sx ?_ (fun w1 hU=> ?_) ?_;rotate_left;(focus have f0:=(HQ.out.ext hU.un).bk.cell;have fk:=(HQ.out.ext hU.un).ck.blk.cell;clear hU;go_simp<;>with_reducible rfl);simp only[aU,aT,aS,aR,aQ])
        intro w7 hw7 _;simp only[ab,ap];replace HQ:=G (HQ.out.ext hw7.un);clear hw7;(try clear f0);go_wp2_with (at_mapUpdate;refine dz yf rfl _ _ _ rfl HQ.out.ml rfl (by unfold maxLen;omega) rfl _ rfl ?_;intro w8 hm8 hg8;replace HQ:=G (HQ.out.grown hg8 (HQ.out.ck.add hm8 hg8));clear hm8 hg8;have f0:=HQ.out.bk.cell);rw[hlo1]at HQ;go_wp2_with (first|(go_at_call 74;have hc:=HB1.out X gl bl lo1 P _ A2 bd.length c2 HQ.out.ck HQ.out.rb hP;rw[hr4]at hc;clear HB1;refine hc.mono ?_;unfold mS;rintro e wx ⟨hg,rfl,hck⟩;replace HQ:=G (HQ.out.grown hg hck);clear hg hck hc;(try clear f0);have f0:=HQ.out.bk.cell;)|(go_at_call 74;have hc:=HL1.out X gl bl lo2 P _ A3 el.length c3 HQ.out.ck HQ.out.rl hP;rw[hr5]at hc;clear HL1;refine hc.mono ?_;unfold mS;rintro e wx ⟨hg,rfl,hck⟩;replace HQ:=G (HQ.out.grown hg hck);clear hg hck hc;(try clear f0);have f0:=HQ.out.bk.cell;));go_roundw
        case rel=>exact⟨j+1,lo3,by go_num,by omega,G (hS.symm.trans HQR.out),G HQ.out.gr,G HQ.out.ck⟩
        case measure=>simp[intOf];omega
   have n2:=beq_eq_false_iff_ne.2 hk2;have n3:=beq_eq_false_iff_ne.2 hk3;have n1:=beq_eq_false_iff_ne.2 hk1;rw[if_neg hk2,if_neg hk3,dK]at hS
   cases hr2:gX gl loj ex with
   |error q=>
    obtain⟨qn,m⟩:=q;rw[hr2,eG]at hS;have HFn:=G (show Rv= .error (qn,m)from HQR.out.symm.trans hS);go_wp2_with (go_at_call 121;refine(HEX.out X gl _ loj P _ A1 ex.length c1 HQ.out.ck HQ.out.re).mono ?_;rw[hr2];unfold bQ bh;rintro e wx ⟨rfl,hE⟩;have HZ:=G (HQ.out.gr.trans (hE.grownBy _));clear hE);exact⟨rfl,by rw[HFn.out];exact⟨HZ.out,rfl⟩⟩
   |ok u=>
    rw[hr2,dK]at hS;rw[if_neg (hk1),dK]at hS;obtain⟨lo1,hlo1⟩: ∃l,loj=l:=⟨_,rfl⟩
    subst hlo1
    cases hr4:dm gl loj bd with
    |error q=>
     obtain⟨qn,m⟩:=q;rw[hr4,eG]at hS;have HFn:=G (show Rv= .error (qn,m)from HQR.out.symm.trans hS);go_wp2_with (first|(go_at_call 121;refine(HEX.out X gl _ loj P _ A1 ex.length c1 HQ.out.ck HQ.out.re).mono ?_;rw[hr2];unfold bQ;rintro e wx ⟨rfl,hE⟩;replace HQ:=G (HQ.out.ext hE);clear hE;(try clear f0);have f0:=HQ.out.bk.cell;)|(go_at_call 74;have hc:=HB1.out X gl bl loj P _ A2 bd.length c2 HQ.out.ck HQ.out.rb hP;rw[hr4]at hc;clear HB1;refine hc.mono ?_;unfold mS bh;rintro e wx ⟨hg,rfl⟩;have HZ:=G (HQ.out.gr.trans hg);clear hg hc));exact⟨rfl,by rw[HFn.out];exact⟨HZ.out,rfl⟩⟩
    |ok lo2=>
     rw[hr4,dK]at hS
     cases hr5:dm gl lo2 el with
     |error q=>
      obtain⟨qn,m⟩:=q;rw[hr5,eG]at hS;have HFn:=G (show Rv= .error (qn,m)from HQR.out.symm.trans hS);go_wp2_with (first|(go_at_call 121;refine(HEX.out X gl _ loj P _ A1 ex.length c1 HQ.out.ck HQ.out.re).mono ?_;rw[hr2];unfold bQ;rintro e wx ⟨rfl,hE⟩;replace HQ:=G (HQ.out.ext hE);clear hE;(try clear f0);have f0:=HQ.out.bk.cell;)|(go_at_call 74;have hc:=HB1.out X gl bl loj P _ A2 bd.length c2 HQ.out.ck HQ.out.rb hP;rw[hr4]at hc;clear HB1;refine hc.mono ?_;unfold mS;rintro e wx ⟨hg,rfl,hck⟩;replace HQ:=G (HQ.out.grown hg hck);clear hg hck hc;(try clear f0);have f0:=HQ.out.bk.cell;)|(go_at_call 74;have hc:=HL1.out X gl bl lo2 P _ A3 el.length c3 HQ.out.ck HQ.out.rl hP;rw[hr5]at hc;clear HL1;refine hc.mono ?_;unfold mS bh;rintro e wx ⟨hg,rfl⟩;have HZ:=G (HQ.out.gr.trans hg);clear hg hc));exact⟨rfl,by rw[HFn.out];exact⟨HZ.out,rfl⟩⟩
     |ok lo3=>
      rw[hr5,dK]at hS;go_wp2_with (first|(go_at_call 121;refine(HEX.out X gl _ loj P _ A1 ex.length c1 HQ.out.ck HQ.out.re).mono ?_;rw[hr2];unfold bQ;rintro e wx ⟨rfl,hE⟩;replace HQ:=G (HQ.out.ext hE);clear hE;(try clear f0);have f0:=HQ.out.bk.cell;)|(go_at_call 74;have hc:=HB1.out X gl bl loj P _ A2 bd.length c2 HQ.out.ck HQ.out.rb hP;rw[hr4]at hc;clear HB1;refine hc.mono ?_;unfold mS;rintro e wx ⟨hg,rfl,hck⟩;replace HQ:=G (HQ.out.grown hg hck);clear hg hck hc;(try clear f0);have f0:=HQ.out.bk.cell;)|(go_at_call 74;have hc:=HL1.out X gl bl lo2 P _ A3 el.length c3 HQ.out.ck HQ.out.rl hP;rw[hr5]at hc;clear HL1;refine hc.mono ?_;unfold mS;rintro e wx ⟨hg,rfl,hck⟩;replace HQ:=G (HQ.out.grown hg hck);clear hg hck hc;(try clear f0);have f0:=HQ.out.bk.cell;));go_roundw
      case rel=>exact⟨j+1,lo3,by go_num,by omega,G (hS.symm.trans HQR.out),G HQ.out.gr,G HQ.out.ck⟩
      case measure=>simp[intOf];omega
  ·have hlt': ¬(j:Int)<N:=by omega
   have HFn:=G (show Rv= .ok loj by
    have:=HQR.out;rw[aB (by have:=HN.out;omega),dm]at this
    exact this.symm)
   go_wp2_with fail;exact bodyPost_end (results_none rfl _ _ _) rfl (by rw[HFn.out];exact⟨HX.out,rfl,HKj.out⟩)
theorem j8: ∀(m:Nat) (xs:List St),dq xs<=m->dq xs<=1073741824->xS xs
 |0,xs,h,hw=>me xs (by have:=cw xs;omega) (fun s hs=>by have:=bq hs;have:=s.wt_eq;omega) (fun s hs=>by have:=bq hs;have:=s.wt_eq;omega) (fun s hs=>by have:=bq hs;have:=s.wt_eq;omega)
 |m+1,xs,h,hw=>me xs (by have:=cw xs;omega) (fun s hs=>by have:=bq hs;have:=s.wt_eq;omega) (fun s hs=>qw s.ex (by have:=bq hs;have:=s.wt_eq;omega))
   (fun s hs=>⟨j8 m s.body (by have:=bq hs;have:=s.wt_eq;omega) (by have:=bq hs;have:=s.wt_eq;omega),j8 m s.els (by have:=bq hs;have:=s.wt_eq;omega) (by have:=bq hs;have:=s.wt_eq;omega)⟩)
end
section
open Go.RowKit
theorem s7 (w:World) (p:Value):let W0:=((w.alloc (.cells #[p] 153)).alloc (.cells #[.slice none 0 0, .slice none 0 0] 34)).alloc (.cells #[.slice none 0 0, .slice none 0 0] 34)
  au w W0/\aO W0 w.heap.size 153 #[p]/\aO W0 (w.heap.size+1) 34 #[.slice none 0 0, .slice none 0 0]/\aO W0 (w.heap.size+2) 34 #[.slice none 0 0, .slice none 0 0]:=by
 have h1:=ax (w.alloc (.cells #[p] 153)) 34 #[.slice none 0 0, .slice none 0 0];have h2:=ax ((w.alloc (.cells #[p] 153)).alloc (.cells #[.slice none 0 0, .slice none 0 0] 34)) 34 #[.slice none 0 0, .slice none 0 0];rw[World.size_alloc]at h1;rw[World.size_alloc,World.size_alloc]at h2;exact⟨((O w _).alloc' _).alloc' _,((ax w _ _).alloc _).alloc _,h1.alloc _,h2⟩
theorem zu {w W:World} {g pr:Nat} {en:Int} {z0 z1:Value} {r:PR Pg} {q:List db} (p:Pg) (A:Option Addr) (n c:Nat) (B:Option Addr) (m d:Nat) (hr:r= .ok (p,q)) (hpr:w.heap.size<=pr) (hB:aO W pr 34 #[z0,z1]) (hG:w.grownBy W (some g))
  (hV:fH W (fun b=>pr<b) (.slice A n c) p.vs) (hF:fO W (fun b=>pr<b) (.slice B m d) p.fs):
  (∀o,(W.setCells pr 0 [.slice A n c, .slice B m d]).cell? ⟨pr,o,none⟩=(#[.slice A n c, .slice B m d]:Array Value)[o]?)/\AR g en w r (.returned (.agg #[.slice A n c, .slice B m d])) (W.setCells pr 0 [.slice A n c, .slice B m d]):=by
 subst hr;have hc:=eF pr [.slice A n c, .slice B m d] 0 W;have hb:=(hB.set 0 (.slice A n c)).set 1 (.slice B m d);have hk:cP (fun b=>pr<b) W (W.setCells pr 0 [.slice A n c, .slice B m d]):= .of_grown hc fun b hb e=>by injection e with e;omega
 exact⟨fun o=>by have:=hb.cell o;simpa[World.setCells]using this,eq hG hc hpr,A,n,c,B,m,d,rfl,hV.keep hk (fun b hb _=>by omega),hF.keep hk (fun b hb _=>by omega)⟩
end
section
open Go.RowKit
def gS (tv tf:TypeId) (Q:Nat->Prop) (w:World) (base:Nat) (vv fv:Value) (vs:List Vr) (fs:List FV):Prop:=
 w.ownsRow base tv 2 vv vs.length (fC vs)/\w.ownsRow base tf 3 fv fs.length (fD fs)/\(∀k,vv.ownBlock=some k->fv.ownBlock≠some k)/\ ∀p,p∈fs->p.ok w (fun b=>Q b/\some b≠vv.ownBlock/\some b≠fv.ownBlock)
theorem gS.nil_ (tv tf:TypeId) (Q:Nat->Prop) (w:World) (base:Nat):gS tv tf Q w base (.slice none 0 0) (.slice none 0 0) [] []:=⟨World.ownsRow_nil _ _ _ _,World.ownsRow_nil _ _ _ _,fun k hk=>(by cases hk),fun p hp=>(by cases hp)⟩
theorem gS.keepW {tv tf:TypeId} {Q:Nat->Prop} {w w':World} {base:Nat} {vv fv:Value} {vs:List Vr} {fs:List FV} (h:gS tv tf Q w base vv fv vs fs) (hz:w.heap.size<=w'.heap.size) (hk: ∀b,(base<=b\/Q b)->b<w.heap.size->w'.heap[b]? =w.heap[b]?):gS tv tf Q w' base vv fv vs fs:=
 ⟨cm h.1 (fun b h1 h2 _=>hk b (.inl h1) h2),cm h.2.1 (fun b h1 h2 _=>hk b (.inl h1) h2),h.2.2.1,fun p hp=>(h.2.2.2 p hp).keep ⟨hz,fun b hb hlt=>hk b (.inr hb.1) hlt⟩ (fun b hb _=>hb)⟩
theorem gS.ext {tv tf:TypeId} {Q:Nat->Prop} {w w':World} {base:Nat} {vv fv:Value} {vs:List Vr} {fs:List FV} (h:gS tv tf Q w base vv fv vs fs) (he:au w w'):gS tv tf Q w' base vv fv vs fs:=h.keepW he.size fun b _ hb=>he.obj hb
theorem gS.snocV {tv tf:TypeId} {Q:Nat->Prop} {w w':World} {base:Nat} {vv fv:Value} {vs:List Vr} {fs:List FV} {v:Vr} {A n cap:Nat} (h:gS tv tf Q w base vv fv vs fs) (hl:vs.length=n) (hn:w'.ownsRow base tv 2 (.slice (some ⟨A,0,none⟩) (n+1) cap) (n+1) (fC vs++qq v))
  (hg:w.grownBy w' vv.ownBlock) (hA:some A=vv.ownBlock\/w.heap.size<=A):gS tv tf Q w' base (.slice (some ⟨A,0,none⟩) (n+1) cap) fv (vs++[v]) fs:=by
 subst hl;obtain⟨h1,h2,h3,h4⟩:=h;have hl2:=World.ownsRow.lt h2;refine⟨by rw[aa,nh];simpa[fC]using hn,cm h2 (fun b _ hb hv=>hg.block b hb (fun e=>h3 b e.symm hv)),fun k hk e=> ?_,fun p hp=>(h4 p hp).keep (.of_grown hg fun b hb=>hb.2.1) fun b hb hlt=>⟨hb.1,fun e=> ?_,hb.2.2⟩⟩
 ·have hk:A=k:=aw hk;subst hk;rcases hA with hA|hA
  ·exact h3 A hA.symm e
  ·have:=(hl2 A e).2;omega
 ·have e:b=A:=aw e;subst e;rcases hA with hA|hA
  ·exact hb.2.1 hA
  ·omega
theorem gS.snocF {tv tf:TypeId} {Q:Nat->Prop} {w w':World} {base:Nat} {vv fv:Value} {vs:List Vr} {fs:List FV} {p:FV} {A n cap:Nat} (h:gS tv tf Q w base vv fv vs fs) (hp:p.ok w' (fun b=>Q b/\some b≠vv.ownBlock/\b≠A)) (hl:fs.length=n) (hn:w'.ownsRow base tf 3 (.slice (some ⟨A,0,none⟩) (n+1) cap) (n+1) (fD fs++p7 p))
  (hg:w.grownBy w' fv.ownBlock) (hA:some A=fv.ownBlock\/w.heap.size<=A):gS tv tf Q w' base vv (.slice (some ⟨A,0,none⟩) (n+1) cap) vs (fs++[p]):=by
 subst hl;obtain⟨h1,h2,h3,h4⟩:=h;have hl1:=World.ownsRow.lt h1
 have hq: ∀b,(Q b/\some b≠vv.ownBlock/\some b≠fv.ownBlock)->b<w.heap.size->(Q b/\some b≠vv.ownBlock/\some b≠Value.ownBlock (.slice (some ⟨A,0,none⟩) (fs.length+1) cap)):=fun b hb hlt=>⟨hb.1,hb.2.1,fun e=>by
  have e:b=A:=aw e;subst e;rcases hA with hA|hA
  ·exact hb.2.2 hA
  ·omega⟩
 refine⟨cm h1 (fun b _ hb hv=>hg.block b hb (fun e=>h3 b hv e.symm)),by rw[aa,nQ];simpa[fD]using hn,fun k hk e=> ?_,fun q hq'=> ?_⟩
 ·have e:A=k:=aw e;subst e;rcases hA with hA|hA
  ·exact h3 A hk hA.symm
  ·have:=(hl1 A hk).2;omega
 ·rcases List.mem_append.1 hq' with hq'|hq'
  ·exact(h4 q hq').keep (.of_grown hg fun b hb=>hb.2.2) hq
  ·rw[df]at hq';subst hq';exact hp.keep (w':=w') ⟨an _,fun _ _ _=>rfl⟩ (fun b hb _=>⟨hb.1,hb.2.1,fun e=>hb.2.2 (aw e)⟩)
theorem gS.rd {tv tf:TypeId} {Q:Nat->Prop} {w:World} {base:Nat} {vv fv:Value} {vs:List Vr} {fs:List FV} (h:gS tv tf Q w base vv fv vs fs) (hQ: ∀b,base<=b->Q b):fH w Q vv vs/\fO w Q fv (fs.map (·.c)):=by
 obtain⟨h1,h2,_,h4⟩:=h;constructor
 ·rcases h1.2 with⟨rfl,h0⟩|⟨g,cap,cur,rfl,hb,hg,hnc,hcm,hcs,ht⟩
  ·have:vs=[]:=aM h0;subst this;exact⟨none,0,rfl, .inl rfl⟩
  ·have cell: ∀j y,(fC vs)[j]? =some y->w.cell? ⟨g,j,none⟩=some y:=fun j y hy=>by
    rw[cell_of_row w g j cur tv (0,0) hg];rw[<-ht,bZ]at hy;split at hy
    ·simpa using hy
    ·cases hy
   exact⟨_,cap,rfl, .inr ⟨hnc,hcm,g,0,rfl,hQ g hb,(Array.getElem?_eq_some_iff.1 hg).1,fun i hi=>by
    rw[a8]
    exact⟨cell _ _ (iu vs i hi 0 (by omega)),cell _ _ (iu vs i hi 1 (by omega))⟩⟩⟩
 ·rcases h2.2 with⟨rfl,h0⟩|⟨g,cap,cur,rfl,hb,hg,hnc,hcm,hcs,ht⟩
  ·have:fs=[]:=aM h0;subst this;exact⟨none,0,rfl, .inl rfl⟩
  ·have cell: ∀j y,(fD fs)[j]? =some y->w.cell? ⟨g,j,none⟩=some y:=fun j y hy=>by
    rw[cell_of_row w g j cur tf (0,0) hg];rw[<-ht,bZ]at hy;split at hy
    ·simpa using hy
    ·cases hy
   refine⟨some ⟨g,0,none⟩,cap,by simp, .inr ⟨by simpa using hnc,hcm,g,0,rfl,hQ g hb,(Array.getElem?_eq_some_iff.1 hg).1,fun i=>if h:i<fs.length then fs[i].p else .slice none 0 0,fun i=>if h:i<fs.length then fs[i].b else .slice none 0 0,fun i hi=> ?_⟩⟩;have hi':i<fs.length:=by simpa using hi
   have e0:(fs.map (·.c))[i]=fs[i].c:=by simp
   have hm:=(h4 fs[i] (ai hi')).keep (P:=fun b=>Q b/\some b≠vv.ownBlock/\some b≠Value.ownBlock (.slice (some ⟨g,0,none⟩) fs.length cap)) (w':=w) ⟨an _,fun _ _ _=>rfl⟩ (Q:=Q) (fun b hb _=>hb.1);rw[e0];simp only[a8,dif_pos hi'];exact⟨cell _ _ (fG fs i hi' 0 (by omega)),cell _ _ (fG fs i hi' 1 (by omega)),cell _ _ (fG fs i hi' 2 (by omega)),hm.1,hm.2⟩
theorem wF (v:Vr): ∀u∈qq v,u.oneCell'=true:=by
 intro u hu;simp only[qq,em,dB,or_false]at hu;rcases hu with rfl|rfl<;>rfl
theorem xE (f:Fc) (A B:Option Addr) (n m c d:Nat): ∀u∈p7 ⟨f, .slice A n c, .slice B m d⟩,u.oneCell'=true:=by
 intro u hu;simp only[p7,em,dB,or_false]at hu;rcases hu with rfl|rfl|rfl<;>rfl
structure PO (ts td:TypeId) (w:World) (s0 s1 vv fv:Value) (W:World):Prop where
 e:au w W
 bs:aO W w.heap.size ts #[s0,s1]
 bz:aO W (w.heap.size+1) td #[.slice none 0 0, .slice none 0 0]
 bo:aO W (w.heap.size+1+1) td #[vv,fv]
section
variable {ts td:TypeId} {w W W':World} {s0 s1 vv fv:Value}
theorem yY (ts td:TypeId) (w:World) (s0 s1:Value):PO ts td w s0 s1 (.slice none 0 0) (.slice none 0 0) (((w.alloc (.cells #[s0,s1] ts)).alloc (.cells #[.slice none 0 0, .slice none 0 0] td)).alloc (.cells #[.slice none 0 0, .slice none 0 0] td)):=by
 refine⟨((O w _).alloc' _).alloc' _,((ax w _ _).alloc _).alloc _,?_,?_⟩
 ·have:=(ax (w.alloc (.cells #[s0,s1] ts)) td #[.slice none 0 0, .slice none 0 0]).alloc (.cells #[.slice none 0 0, .slice none 0 0] td);rwa [World.size_alloc]at this
 ·have:=ax ((w.alloc (.cells #[s0,s1] ts)).alloc (.cells #[.slice none 0 0, .slice none 0 0] td)) td #[.slice none 0 0, .slice none 0 0];rwa [World.size_alloc,World.size_alloc]at this
theorem PO.lt (h:PO ts td w s0 s1 vv fv W):w.heap.size+1+1<W.heap.size:=h.bo.lt
theorem PO.ex (h:PO ts td w s0 s1 vv fv W) (hE:au W W'):PO ts td w s0 s1 vv fv W':=⟨h.e.trans hE,h.bs.ext hE,h.bz.ext hE,h.bo.ext hE⟩
theorem PO.grown {row:Option Nat} (h:PO ts td w s0 s1 vv fv W) (hg:W.grownBy W' row) (hk: ∀k,row=some k->w.heap.size+3<=k):PO ts td w s0 s1 vv fv W':=
 ⟨h.e.grown hg (fun k e=>by have:=hk k e;omega),h.bs.grown hg (fun e=>by have:=hk _ e.symm;omega),h.bz.grown hg (fun e=>by have:=hk _ e.symm;omega),h.bo.grown hg (fun e=>by have:=hk _ e.symm;omega)⟩
theorem PO.putV (h:PO ts td w s0 s1 vv fv W) (q:Value):PO ts td w s0 s1 q fv (W.setCell ⟨w.heap.size+1+1,0,none⟩ q):=by
 refine⟨h.e.set (by show w.heap.size<=w.heap.size+1+1;omega) _,h.bs.far (p:=⟨w.heap.size+1+1,0,none⟩) (by show _≠w.heap.size+1+1;omega) _,h.bz.far (p:=⟨w.heap.size+1+1,0,none⟩) (by show _≠w.heap.size+1+1;omega) _,?_⟩;have:=h.bo.set 0 q;simpa using this
theorem PO.putF (h:PO ts td w s0 s1 vv fv W) (q:Value):PO ts td w s0 s1 vv q (W.setCell ⟨w.heap.size+1+1,1,none⟩ q):=by
 refine⟨h.e.set (by show w.heap.size<=w.heap.size+1+1;omega) _,h.bs.far (p:=⟨w.heap.size+1+1,1,none⟩) (by show _≠w.heap.size+1+1;omega) _,h.bz.far (p:=⟨w.heap.size+1+1,1,none⟩) (by show _≠w.heap.size+1+1;omega) _,?_⟩;have:=h.bo.set 1 q;simpa using this
end
theorem rV {w:World} {P:Nat->Prop} {A:Option Addr} {n c:Nat} {ls:List Fc} (h:fO w P (.slice A n c) ls) (i:Nat) (hi:i<ls.length):
  ∃b o pv bv,A=some ⟨b,o,none⟩/\b<w.heap.size/\w.cell? ⟨b,o+i*3,none⟩=some (.string (ag ls[i].nm))/\w.cell? ⟨b,o+i*3+1,none⟩=some pv/\w.cell? ⟨b,o+i*3+2,none⟩=some bv/\j7 w P pv ls[i].ps/\cM w P bv ls[i].body:=by
 obtain⟨A',c',hv,h⟩:=h;injection hv with h1 h2 h3;rcases h with h|⟨_,_,b,o,ha,_,hb,pv,bv,hc⟩
 ·subst h;simp at hi
 ·obtain⟨q0,q1,q2,q3,q4⟩:=hc i hi;exact⟨b,o,pv i,bv i,by rw[h1];exact ha,hb,q0,q1,q2,q3,q4⟩
theorem wZ {w:World} {P:Nat->Prop} {A:Option Addr} {n c:Nat} {ls:List Vr} (h:fH w P (.slice A n c) ls) (i:Nat) (hi:i<ls.length):
  ∃b o,A=some ⟨b,o,none⟩/\b<w.heap.size/\w.cell? ⟨b,o+i*2,none⟩=some (.string (ag ls[i].nm))/\w.cell? ⟨b,o+i*2+1,none⟩=some (.int .i64 ls[i].sz):=by
 obtain⟨A',c',hv,h⟩:=h;injection hv with h1 h2 h3;rcases h with h|⟨_,_,b,o,ha,_,hb,hc⟩
 ·subst h;simp at hi
 ·exact⟨b,o,by rw[h1];exact ha,hb,(hc i hi).1,(hc i hi).2⟩
def QO (w:World) (P:Nat->Prop) (b:Nat):Prop:=(P b/\b<w.heap.size)\/w.heap.size+3<=b
theorem gS.far {tv tf:TypeId} {P:Nat->Prop} {w W:World} {vv fv:Value} {vs:List Vr} {fs:List FV} {b i:Nat} (h:gS tv tf (QO w P) W (w.heap.size+3) vv fv vs fs) (hb:w.heap.size<=b) (hb2:b<w.heap.size+3) (v:Value):gS tv tf (QO w P) (W.setCell ⟨b,i,none⟩ v) (w.heap.size+3) vv fv vs fs:=
 h.keepW (by simp[World.setCell]) fun k hk hlt=>Below.heap_setCell W ⟨b,i,none⟩ v k (by
  show k≠b
  rcases hk with hk|hk|hk<;>omega)
theorem vB {P:Nat->Prop} {a b c:World} (h:cP P a b) (k:cP P b c):cP P a c:=⟨a_ h.1 k.1,fun x hP hx=>(k.2 x hP (aF hx h.1)).trans (h.2 x hP hx)⟩
theorem uI {P:Nat->Prop} {w W:World} {b i:Nat} (v:Value) (hb:w.heap.size<=b) (hb2:b<w.heap.size+3):cP (QO w P) W (W.setCell ⟨b,i,none⟩ v):=
 ⟨by simp[World.setCell],fun k hk _=>Below.heap_setCell W ⟨b,i,none⟩ v k (by
  show k≠b
  rcases hk with hk|hk<;>omega)⟩
end
section
open Go.RowKit
structure CB.Ok (X:CB):Prop where
 gi:X.g≠X.bi
 ga:X.g≠X.ba
 gf:X.g≠X.bf
 ia:X.bi≠X.ba
 jf:X.bi≠X.bf
 af:X.ba≠X.bf
abbrev CB.S (X:CB) (k:Nat):Prop:=k=X.bi\/k=X.ba\/k=X.bf
section
variable {X:CB} {gl:Gl} {lo lo':Ls} {w W:World}
theorem wd {b:Nat} {L:KF} (h:BT w) (hm:bU w b L):b≠0:=by
 rintro rfl;obtain⟨t,fr,ht⟩:=h;obtain⟨es,c,hm,_⟩:=hm;rw[ht]at hm;cases hm
theorem BT.grown {b:Nat} (h:BT w) (hg:w.grownBy W (some b)) (hb:b≠0):BT W:=by
 obtain⟨t,fr,ht⟩:=h;exact⟨t,fr,(hg.block _ (Array.getElem?_eq_some_iff.1 ht).1 (fun e=>hb (by injection e with e;exact e.symm))).trans ht⟩
theorem ww {a b:Nat} (h:a≠b):some a≠some b:=fun e=>h (by injection e)
theorem CK.addI {v:Vr} (hX:X.Ok) (h:CK X gl (.map none) ek w) (hz: ¬0<v.sz) (hm:bU W X.bi ((xy gl).upd v.nm (.bool true))) (hg:w.grownBy W (some X.bi)):CK X (gl.addV v) (.map none) ek W:=by
 have e:gl.addV v={gl with int:=fun x=>x==v.nm||gl.int x}:=by unfold Gl.addV;rw[if_neg hz]
 rw[e];refine⟨h.blk.grown hg (ww hX.gi),hm.congr fun s=> ?_,h.a.grown hg (ww (Ne.symm hX.ia)),h.f.grown hg (ww (Ne.symm hX.jf)), .inl ⟨rfl,rfl⟩,h.t.grown hg (wd h.t h.i)⟩;unfold KF.upd xy;by_cases e:s=v.nm
 ·subst e;simp
 ·simp[e]
theorem CK.addA {v:Vr} (hX:X.Ok) (h:CK X gl (.map none) ek w) (hz:0<v.sz) (hm:bU W X.ba ((xz gl).upd v.nm (.int .i64 v.sz))) (hg:w.grownBy W (some X.ba)):CK X (gl.addV v) (.map none) ek W:=by
 have e:gl.addV v={gl with arr:=fun x=>if x=v.nm then some v.sz else gl.arr x}:=by unfold Gl.addV;rw[if_pos hz]
 rw[e];refine⟨h.blk.grown hg (ww hX.ga),h.i.grown hg (ww hX.ia),hm.congr fun s=> ?_,h.f.grown hg (ww (Ne.symm hX.af)), .inl ⟨rfl,rfl⟩,h.t.grown hg (wd h.t h.a)⟩;unfold KF.upd xz;by_cases e:s=v.nm
 ·subst e;simp
 ·simp[e]
theorem CK.addF {f:Fc} (hX:X.Ok) (h:CK X gl (.map none) ek w) (hm:bU W X.bf ((A8 gl).upd f.nm (.int .i64 (f.ps.length:Int)))) (hg:w.grownBy W (some X.bf)):CK X (gl.addF f) (.map none) ek W:=by
 refine⟨h.blk.grown hg (ww hX.gf),h.i.grown hg (ww hX.jf),h.a.grown hg (ww hX.af),hm.congr fun s=> ?_, .inl ⟨rfl,rfl⟩,h.t.grown hg (wd h.t h.f)⟩;unfold KF.upd A8 Gl.addF;by_cases e:s=f.nm
 ·subst e;simp
 ·simp[e]
end
theorem yl (p:Pg):p.vs.length<=jS p:=by
 have:=gB (fun _:Vr=>1) (fun v=>v.nm.length+1) p.vs (fun v _=>by omega);rw[eJ]at this;unfold jS;omega
theorem t6 (p:Pg):p.fs.length<=jS p:=by
 have:=gB (fun _:Fc=>1) (fun f=>f.wt+1) p.fs (fun v _=>by omega);rw[eJ]at this;unfold jS;omega
theorem lV {w:World} {P:Nat->Prop} {A:Option Addr} {n c:Nat} {ls:List Fc} (h:fO w P (.slice A n c) ls) (i:Nat) (hi:i<ls.length):
  ∃b o pv bv,A=some ⟨b,o,none⟩/\b<w.heap.size/\P b/\w.cell? ⟨b,o+i*3,none⟩=some (.string (ag ls[i].nm))/\w.cell? ⟨b,o+i*3+1,none⟩=some pv/\w.cell? ⟨b,o+i*3+2,none⟩=some bv/\j7 w P pv ls[i].ps/\cM w P bv ls[i].body:=by
 obtain⟨A',c',hv,h⟩:=h;injection hv with h1 h2 h3;rcases h with h|⟨_,_,b,o,ha,hP,hb,pv,bv,hc⟩
 ·subst h;simp at hi
 ·obtain⟨q0,q1,q2,q3,q4⟩:=hc i hi;exact⟨b,o,pv i,bv i,by rw[h1];exact ha,hb,hP,q0,q1,q2,q3,q4⟩
theorem wX {w:World} {P:Nat->Prop} {A:Option Addr} {n c:Nat} {ls:List Vr} (h:fH w P (.slice A n c) ls) (i:Nat) (hi:i<ls.length):
  ∃b o,A=some ⟨b,o,none⟩/\b<w.heap.size/\P b/\w.cell? ⟨b,o+i*2,none⟩=some (.string (ag ls[i].nm))/\w.cell? ⟨b,o+i*2+1,none⟩=some (.int .i64 ls[i].sz):=by
 obtain⟨A',c',hv,h⟩:=h;injection hv with h1 h2 h3;rcases h with h|⟨_,_,b,o,ha,hP,hb,hc⟩
 ·subst h;simp at hi
 ·exact⟨b,o,by rw[h1];exact ha,hb,hP,(hc i hi).1,(hc i hi).2⟩
theorem sE {g:Gl} {l:List Vr} {j:Nat} (h:j<l.length):ig g (l.drop j)=if g.known ek l[j].nm=true then .error (l[j].nm,9)else ig (g.addV l[j]) (l.drop (j+1)):=by
 rw[ay h,ig]
theorem sG {g:Gl} {l:List Fc} {j:Nat} (h:j<l.length):f8 g (l.drop j)=if g.known ek l[j].nm=true then .error (l[j].nm,9)else f8 (g.addF l[j]) (l.drop (j+1)):=by
 rw[ay h,f8]
def sF (g:Gl):Except Er Gl:=match g.fn bL with
 |none=> .error (bL,8)
 |some n=>if 0<n then .error (bL,16)else .ok g
def Cm (X:CB) (r:Except Er Gl) (w:World) (e:Ending) (w':World):Prop:=Mv X.S w w'/\match r with
 | .ok g=>e= .returned (.tuple #[])/\CK X g (.map none) ek w'
 | .error (nm,n)=>e=bh nm n
theorem sC (p:Pg) (hw:jS p<=6000000) (X:CB) (hX:X.Ok) (P:Nat->Prop) (w:World) (hV:fH w P X.sv p.vs) (hF:fO w P X.sf p.fs) (hP: ∀b,P b-> ¬X.S b) (hK:CK X k' (.map none) ek w):
  Calls prog 71 #[X.p] w (Cm X (ji p) w):=by
 obtain⟨g,bi,ba,bf,sv,sf⟩:=X;have hlv:p.vs.length<=6000000:=by have:=yl p;omega
 have hlf:p.fs.length<=6000000:=by have:=t6 p;omega
 have HVN:=G (fun v (hv:v∈p.vs)=>show v.nm.length<=1073741824 by have:=uN hv;omega);have HFN:=G (fun f (hf:f∈p.fs)=>show f.nm.length<=1073741824 by have:=jd hf;have:=rX (f:=f);omega);obtain⟨Rv,hRv⟩: ∃R,ji p=R:=⟨_,rfl⟩
 have HQ0:=G (show CR.then (ig k' (p.vs.drop 0)) (fun g=>CR.then (f8 g (p.fs.drop 0)) sF)=Rv from hRv);rw[hRv];clear hRv hw;obtain⟨vs,fs⟩:=p;simp only at*;obtain⟨NV,hNV⟩: ∃n,vs.length=n:=⟨_,rfl⟩
 obtain⟨NF,hNF⟩: ∃n,fs.length=n:=⟨_,rfl⟩
 obtain⟨A,ca,hA⟩: ∃A ca,sv= .slice A NV ca:=by obtain⟨A,ca,h,_⟩:=hV;exact⟨A,ca,by rw[h,hNV]⟩
 obtain⟨B,cb,hB⟩: ∃B cb,sf= .slice B NF cb:=by obtain⟨A,ca,h,_⟩:=hF;exact⟨A,ca,by rw[h,hNF]⟩
 subst hA hB;rw[hNV]at hlv;rw[hNF]at hlf;have HNV:=G hNV;have HNF:=G hNF;simp only[CB.p]at*;have HKS: ∀W,Mv (CB.S ⟨g,bi,ba,bf, .slice A NV ca, .slice B NF cb⟩) w W->cP P w W:=fun W h=>h.keepP (fun k hk _=>hP k hk);have HKP:=G HKS;have HVr:=G hV;have HFr:=G hF;have HX:=G hX;have HM0:=G (i7 (CB.S ⟨g,bi,ba,bf, .slice A NV ca, .slice B NF cb⟩) w);have HK0:=G hK;have hc:=hK.blk.cell;clear hV hF hP hK hX HKS hNV hNF;go_enter func71,ntmps71;go_wp2_with fail;clear hc
 go_loopw [14] (fun vi wr=> ∃(j:Nat) (gj:Gl),vi= .int .i64 (j:Int)/\j<=NV/\Hid (CR.then (ig gj (vs.drop j)) (fun g=>CR.then (f8 g (fs.drop 0)) sF)=Rv)/\Hid (Mv (CB.S ⟨g,bi,ba,bf, .slice A NV ca, .slice B NF cb⟩) w wr)/\Hid (CK ⟨g,bi,ba,bf, .slice A NV ca, .slice B NF cb⟩ gj (.map none) ek wr)) (fun vi _=>NV-(intOf vi).toNat)
 case atStart=>exact⟨0,k',rfl,az _,HQ0,HM0,HK0⟩
 case round=>
  obtain⟨j,gj,rfl,hj,HQ,HM,HKj⟩:=hrel;by_cases hlt:j<NV
  ·have hlt':(j:Int)<NV:=by omega
   have hjl:j<vs.length:=by have:=HNV.out;omega
   obtain⟨b,o,rfl,hb,hPb,h0,h1⟩:=wX HVr.out j hjl;have hS:=sE (g:=gj) hjl;have hnm:=HVN.out _ (ai hjl);obtain⟨y,hy⟩: ∃y,vs[j]=y:=⟨_,rfl⟩
   rw[hy]at h0 h1 hS hnm;clear hy;obtain⟨nm,sz⟩:=y;simp only at h0 h1 hnm;have e0:=((HKP.out _ HM.out).cell _ hPb hb).trans h0;have e1:=((HKP.out _ HM.out).cell _ hPb hb).trans h1;have hAl:=O wr (.cells #[.string (ag nm), .int .i64 sz] 85);have HKA:=G (HKj.out.ext hAl);have HBA:=G (ax wr 85 #[.string (ag nm), .int .i64 sz]);have HMA:=G (HM.out.alloc (.cells #[.string (ag nm), .int .i64 sz] 85));clear h0 h1 hAl
   cases hkn:gj.known ek nm with
   |true=>
    have HFn:=G (show Rv= .error (nm,9) by rw[<-HQ.out,hS];simp only[hkn,if_true];rfl);go_wp2_with (first|(go_at_call 72;refine(dD _ gj _ ek _ HKA.out nm hnm).mono ?_;rw[hkn];rintro e wx ⟨rfl,hE⟩;have HMB:=G (HMA.out.trans (.of_ext hE));have f0:=(HBA.out.ext hE).cell;clear hE)|(go_at_call 73;refine(dC nm 9 _).mono ?_;unfold bh;rintro e wx ⟨rfl,hE⟩;have HMC:=G (HMB.out.trans (.of_ext hE));clear hE));exact⟨rfl,by rw[HFn.out];exact⟨HMC.out,rfl⟩⟩
   |false=>
    have hS2:ig gj (vs.drop j)=ig (gj.addV ⟨nm,sz⟩) (vs.drop (j+1)):=by rw[hS];simp only[hkn,bR,if_false]
    by_cases hz:0<sz
    ·have hz':decide (0<sz)=true:=decide_eq_true hz;go_wp2_with (go_at_call 72;refine(dD _ gj _ ek _ HKA.out nm hnm).mono ?_;rw[hkn];rintro e wx ⟨rfl,hE⟩;have HMB:=G (HMA.out.trans (.of_ext hE));have HBB:=G (HBA.out.ext hE);have f0:=HBB.out.cell;have HKB:=G (HKA.out.ext hE);clear hE);refine am 8 1 [] mixed (by kernel_rfl) trivial ?_;repeat (refine sx ?_ (fun w1 hU=> ?_) ?_;rotate_left;(focus have f0:=(HBB.out.ext hU.un).cell;have fk:=(HKB.out.ext hU.un).blk.cell;clear hU;go_simp<;>with_reducible rfl);simp only[aU,aT,aS,aR,aQ])
     intro w7 hw7 _;simp only[ab,ap];have HK7:=G (HKB.out.ext hw7.un);have HM7:=G (HMB.out.trans (.of_ext hw7.un));clear hw7 f0;go_wp2_with (at_mapUpdate;refine dz A7 rfl _ _ _ rfl HK7.out.a rfl (by unfold maxLen;omega) rfl _ rfl ?_;intro w8 hm8 hg8;have HK8:=G (HK7.out.addA (v:=⟨nm,sz⟩) HX.out hz hm8 hg8);have HM8:=G (HM7.out.trans (.of_grown hg8 (fun k e=>by injection e with e;exact .inr (.inl e.symm))));clear hm8 hg8);go_roundw
     case rel=>exact⟨j+1,gj.addV ⟨nm,sz⟩,by go_num,by omega,G (by rw[<-hS2];exact HQ.out),HM8,HK8⟩
     case measure=>simp[intOf];omega
    ·have hz':decide (0<sz)=false:=decide_eq_false hz;go_wp2_with (go_at_call 72;refine(dD _ gj _ ek _ HKA.out nm hnm).mono ?_;rw[hkn];rintro e wx ⟨rfl,hE⟩;have HMB:=G (HMA.out.trans (.of_ext hE));have HBB:=G (HBA.out.ext hE);have f0:=HBB.out.cell;have HKB:=G (HKA.out.ext hE);clear hE);refine am 6 1 [] mixed (by kernel_rfl) trivial ?_;repeat (refine sx ?_ (fun w1 hU=> ?_) ?_;rotate_left;(focus have f0:=(HBB.out.ext hU.un).cell;have fk:=(HKB.out.ext hU.un).blk.cell;clear hU;go_simp<;>with_reducible rfl);simp only[aU,aT,aS,aR,aQ])
     intro w7 hw7 _;simp only[ab,ap];have HK7:=G (HKB.out.ext hw7.un);have HM7:=G (HMB.out.trans (.of_ext hw7.un));clear hw7 f0;go_wp2_with (at_mapUpdate;refine dz yf rfl _ _ _ rfl HK7.out.i rfl (by unfold maxLen;omega) rfl _ rfl ?_;intro w8 hm8 hg8;have HK8:=G (HK7.out.addI (v:=⟨nm,sz⟩) HX.out (show ¬0<sz by omega) hm8 hg8);have HM8:=G (HM7.out.trans (.of_grown hg8 (fun k e=>by injection e with e;exact .inl e.symm)));clear hm8 hg8);go_roundw
     case rel=>exact⟨j+1,gj.addV ⟨nm,sz⟩,by go_num,by omega,G (by rw[<-hS2];exact HQ.out),HM8,HK8⟩
     case measure=>simp[intOf];omega
  ·have hlt': ¬(j:Int)<NV:=by omega
   have HQ1:=G (show CR.then (f8 gj (fs.drop 0)) sF=Rv by
    have:=HQ.out;rw[aB (l:=vs) (by have:=HNV.out;omega),ig,dK]at this
    exact this)
   have hc:=HKj.out.blk.cell;go_wp2_with fail;clear hc
   go_loopw [49] (fun vi wr=> ∃(j:Nat) (gj:Gl),vi= .int .i64 (j:Int)/\j<=NF/\Hid (CR.then (f8 gj (fs.drop j)) sF=Rv)/\Hid (Mv (CB.S ⟨g,bi,ba,bf, .slice A NV ca, .slice B NF cb⟩) w wr)/\Hid (CK ⟨g,bi,ba,bf, .slice A NV ca, .slice B NF cb⟩ gj (.map none) ek wr)) (fun vi _=>NF-(intOf vi).toNat)
   case atStart=>exact⟨0,gj,rfl,az _,HQ1,HM,HKj⟩
   case round=>
    clear HQ HM HKj HQ1 hlt hlt' hj;obtain⟨j,gj,rfl,hj,HQ,HM,HKj⟩:=hrel;by_cases hlt:j<NF
    ·have hlt':(j:Int)<NF:=by omega
     have hjl:j<fs.length:=by have:=HNF.out;omega
     obtain⟨b,o,pv,bv,rfl,hb,hPb,h0,h1,h2,hRp,hRb⟩:=lV HFr.out j hjl;have hS:=sG (g:=gj) hjl;have hnm:=HFN.out _ (ai hjl);obtain⟨y,hy⟩: ∃y,fs[j]=y:=⟨_,rfl⟩
     rw[hy]at h0 hRp hRb hS hnm;clear hy;obtain⟨nm,ps,bd⟩:=y;simp only at h0 hRp hRb hnm;obtain⟨Ap,cp,rfl,_⟩:=hRp;obtain⟨Ab,cb2,rfl,_⟩:=hRb.form;have e0:=((HKP.out _ HM.out).cell _ hPb hb).trans h0;have e1:=((HKP.out _ HM.out).cell _ hPb hb).trans h1;have e2:=((HKP.out _ HM.out).cell _ hPb hb).trans h2;have hAl:=O wr (.cells #[.string (ag nm), .slice Ap ps.length cp, .slice Ab bd.length cb2] 59);have HKA:=G (HKj.out.ext hAl);have HBA:=G (ax wr 59 #[.string (ag nm), .slice Ap ps.length cp, .slice Ab bd.length cb2]);have HMA:=G (HM.out.alloc (.cells #[.string (ag nm), .slice Ap ps.length cp, .slice Ab bd.length cb2] 59));clear h0 h1 h2 hAl hRb
     cases hkn:gj.known ek nm with
     |true=>
      have HFn:=G (show Rv= .error (nm,9) by rw[<-HQ.out,hS];simp only[hkn,if_true];rfl);go_wp2_with (first|(go_at_call 72;refine(dD _ gj _ ek _ HKA.out nm hnm).mono ?_;rw[hkn];rintro e wx ⟨rfl,hE⟩;have HMB:=G (HMA.out.trans (.of_ext hE));have f0:=(HBA.out.ext hE).cell;clear hE)|(go_at_call 73;refine(dC nm 9 _).mono ?_;unfold bh;rintro e wx ⟨rfl,hE⟩;have HMC:=G (HMB.out.trans (.of_ext hE));clear hE));exact⟨rfl,by rw[HFn.out];exact⟨HMC.out,rfl⟩⟩
     |false=>
      have hS2:f8 gj (fs.drop j)=f8 (gj.addF ⟨nm,ps,bd⟩) (fs.drop (j+1)):=by rw[hS];simp only[hkn,bR,if_false]
      go_wp2_with (go_at_call 72;refine(dD _ gj _ ek _ HKA.out nm hnm).mono ?_;rw[hkn];rintro e wx ⟨rfl,hE⟩;have HMB:=G (HMA.out.trans (.of_ext hE));have HBB:=G (HBA.out.ext hE);have f0:=HBB.out.cell;have HKB:=G (HKA.out.ext hE);clear hE);refine am 9 1 [] mixed (by kernel_rfl) trivial ?_;repeat (refine sx ?_ (fun w1 hU=> ?_) ?_;rotate_left;(focus have f0:=(HBB.out.ext hU.un).cell;have fk:=(HKB.out.ext hU.un).blk.cell;clear hU;go_simp<;>with_reducible rfl);simp only[aU,aT,aS,aR,aQ])
      intro w7 hw7 _;simp only[ab,ap];have HK7:=G (HKB.out.ext hw7.un);have HM7:=G (HMB.out.trans (.of_ext hw7.un));clear hw7 f0;go_wp2_with (at_mapUpdate;refine dz A7 rfl _ _ _ rfl HK7.out.f rfl (by unfold maxLen;omega) rfl _ rfl ?_;intro w8 hm8 hg8;have HK8:=G (HK7.out.addF (f:=⟨nm,ps,bd⟩) HX.out hm8 hg8);have HM8:=G (HM7.out.trans (.of_grown hg8 (fun k e=>by injection e with e;exact .inr (.inr e.symm))));clear hm8 hg8);go_roundw
      case rel=>exact⟨j+1,gj.addF ⟨nm,ps,bd⟩,by go_num,by omega,G (by rw[<-hS2];exact HQ.out),HM8,HK8⟩
      case measure=>simp[intOf];omega
    ·have hlt': ¬(j:Int)<NF:=by omega
     have HQ2:=G (show sF gj=Rv by
      have:=HQ.out;rw[aB (by have:=HNF.out;omega),f8,dK]at this
      exact this)
     have hc:=HKj.out.blk.cell;have fm:(Instr.lookup 106 (.map (some bf)) (.string ⟨#[109,97,105,110]⟩) true).run prog wr= .ok (.tuple #[.int .i64 (((gj.fn bL).getD 0:Nat):Int), .bool (gj.fn bL).isSome]) wr:=HKj.out.lookF (s:=bL) (by decide);unfold sF at HQ2
     cases hfm:gj.fn bL with
     |none=>
      rw[hfm]at HQ2 fm;simp only[fE,dE]at fm;have HFn:=G HQ2.out.symm;go_wp2_with (go_at_call 73;refine(show Calls prog 73 #[.string ⟨#[109,97,105,110]⟩, .int .i64 8] _ _ from dC bL 8 _).mono ?_;unfold bh;rintro e wx ⟨rfl,hE⟩;have HMC:=G (HM.out.trans (.of_ext hE));clear hE);exact⟨rfl,by rw[HFn.out];exact⟨HMC.out,rfl⟩⟩
     |some n=>
      rw[hfm]at HQ2 fm;simp only[bO,cQ]at fm HQ2;by_cases hn:0<n
      ·have hn':(0:Int)<n:=by omega
       have HFn:=G (show Rv= .error (bL,16) by rw[<-HQ2.out,if_pos hn]);go_wp2_with (go_at_call 73;refine(show Calls prog 73 #[.string ⟨#[109,97,105,110]⟩, .int .i64 16] _ _ from dC bL 16 _).mono ?_;unfold bh;rintro e wx ⟨rfl,hE⟩;have HMC:=G (HM.out.trans (.of_ext hE));clear hE);exact⟨rfl,by rw[HFn.out];exact⟨HMC.out,rfl⟩⟩
      ·have hn': ¬(0:Int)<n:=by omega
       have HFn:=G (show Rv= .ok gj by rw[<-HQ2.out,if_neg hn]);go_wp2_with fail;exact bodyPost_end (results_none rfl _ _ _) rfl (by rw[HFn.out];exact⟨HM.out,rfl,HKj.out⟩)
end
section
open Go.RowKit
mutual
theorem xG: ∀s:St,oN s<=s.wt
 | .mk k nm e b l=>by
  have:=fK b;have:=fK l;rw[oN,St.wt];split<;>omega
theorem fK: ∀l:List St,cC l<=dq l
 | []=>by simp[cC]
 |s::r=>by
  have:=xG s;have:=fK r;rw[cC,dq];omega
end
theorem tD {l:List St} {j:Nat} (h:j<l.length):cC (l.drop j)=oN l[j]+cC (l.drop (j+1)):=by
 rw[ay h,cC]
def AS (xs:List St):Prop:= ∀(P:Nat->Prop) (w:World) (A:Option Addr) (n c:Nat),cM w P (.slice A n c) xs->Calls prog 54 #[.slice A n c] w fun e w'=>e= .returned (.int .i64 (cC xs:Int))/\au w w'
theorem p9 (xs:List St) (hw:dq xs<=1073741824) (hIH: ∀s∈xs,AS s.body/\AS s.els):AS xs:=by
 intro P w A n c hR;obtain⟨A',c',hv,hf⟩:=hR.form;injection hv with hv1 hv2 hv3;subst hv1 hv2 hv3;have hl:=cw xs;have hdl:=fK xs;have HR:=G hR;have HI:=G hIH;obtain⟨N,hN⟩: ∃N,xs.length=N:=⟨_,rfl⟩
 have HN:=G hN;rw[hN]at HR hl;obtain⟨Rv,hRv⟩: ∃R,cC xs=R:=⟨_,rfl⟩
 have HQ0:=G (show 0+cC (xs.drop 0)=Rv by rw[<-hRv];simp);have HX0:=G (aH w);have hRb:Rv<=1073741824:=by omega
 rw[hN,hRv];clear hR hf hIH hN hRv hdl;go_enter func54,ntmps54;go_wp2_with fail
 go_loopw [3,8] (fun vm vi wr=> ∃(j m:Nat),vi= .int .i64 (j:Int)/\vm= .int .i64 (m:Int)/\j<=N/\Hid (m+cC (xs.drop j)=Rv)/\Hid (au w wr)) (fun _ vi _=>N-(intOf vi).toNat)
 case atStart=>exact⟨0,0,rfl,rfl,az _,HQ0,HX0⟩
 case round=>
  obtain⟨j,m,rfl,rfl,hj,HQ,HX⟩:=hrel;by_cases hlt:j<N
  ·have hlt':(j:Int)<N:=by omega
   have hjl:j<xs.length:=by have:=HN.out;omega
   obtain⟨b,o,e,bv,lv,rfl,hb,hPb,h0,h1,h2,h3,h4,hRe,hRb2,hRl⟩:=HR.out.at_ j hjl;have hS:=tD hjl;have hII:=HI.out _ (ai hjl);obtain⟨y,hy⟩: ∃y,xs[j]=y:=⟨_,rfl⟩
   rw[hy]at h0 h1 hRe hRb2 hRl hS hII;clear hy;obtain⟨k,nm,ex,bd,el⟩:=y;simp only[St.k,St.nm,St.ex,St.body,St.els]at h0 h1 hRe hRb2 hRl hII;rw[oN]at hS;have hSb:=HQ.out;rw[hS]at hSb;have e0:=(HX.out.cell b _ hb).trans h0;have e1:=(HX.out.cell b _ hb).trans h1;have e2:=(HX.out.cell b _ hb).trans h2;have e3:=(HX.out.cell b _ hb).trans h3;have e4:=(HX.out.cell b _ hb).trans h4;obtain⟨A1,c1,rfl,_⟩:=hRe.form;obtain⟨A2,c2,rfl,_⟩:=hRb2.form;obtain⟨A3,c3,rfl,_⟩:=hRl.form;have hAl:=O wr (.cells #[.int .i64 k, .string (ag nm), .slice A1 ex.length c1, .slice A2 bd.length c2, .slice A3 el.length c3] 72);have HBK:=G (ax wr 72 #[.int .i64 k, .string (ag nm), .slice A1 ex.length c1, .slice A2 bd.length c2, .slice A3 el.length c3]);have HXA:=G (HX.out.trans hAl);have HRb:=G (hRb2.keep (.of_ext HXA.out) (Q:=P) (fun b hb _=>hb));have HRl:=G (hRl.keep (.of_ext HXA.out) (Q:=P) (fun b hb _=>hb));have HII:=G hII;obtain⟨d1,hd1⟩: ∃d,cC bd=d:=⟨_,rfl⟩
   obtain⟨d2,hd2⟩: ∃d,cC el=d:=⟨_,rfl⟩
   rw[hd1,hd2]at hSb;have HC1:=G (fun W (h:au (wr.alloc (.cells #[.int .i64 k, .string (ag nm), .slice A1 ex.length c1, .slice A2 bd.length c2, .slice A3 el.length c3] 72)) W)=>hd1▸HII.out.1 P W A2 _ c2 (HRb.out.keep (.of_ext h) (Q:=P) (fun b hb _=>hb)));have HC2:=G (fun W (h:au (wr.alloc (.cells #[.int .i64 k, .string (ag nm), .slice A1 ex.length c1, .slice A2 bd.length c2, .slice A3 el.length c3] 72)) W)=>hd2▸HII.out.2 P W A3 _ c3 (HRl.out.keep (.of_ext h) (Q:=P) (fun b hb _=>hb)));have HSb:=G hSb;clear h0 h1 h2 h3 h4 hRe hRb2 hRl hII hAl HRb HRl HII hd1 hd2 hS hSb;have hbs:m+(if k=1 then 1 else 0)+(d1+d2)<=1073741824:=by have:=HSb.out;omega
   have hwr: ∀z:Nat,z<=1073741824->IntKind.i64.wrap (z:Int)=z:=fun z hz=>by simp[IntKind.wrap,IntKind.signed,IntKind.bits];omega
   have hw1:IntKind.i64.wrap ((d1:Int)+(d2:Int))=((d1+d2:Nat):Int):=by rw[<-Int.natCast_add];exact hwr _ (by omega)
   by_cases hk:k=1
   ·subst hk;have hbs:m+1+(d1+d2)<=1073741824:=by simpa using hbs
    have hw2:IntKind.i64.wrap ((m:Int)+1+((d1+d2:Nat):Int))=((m+1+(d1+d2):Nat):Int):=by rw[<-hwr (m+1+(d1+d2)) hbs];congr 1
    clear hwr;go_wp2_with fail;refine cL 9 4 [(3,fun v=>v= .int .i64 (d1:Int),fun _ _=>True),(6,fun v=>v= .int .i64 (d2:Int),fun _ _=>True)] [] [1,4] mixed (by kernel_rfl) (by kernel_rfl) (by kernel_rfl) (by rfl) ⟨fun _ _ _ _ _=>trivial,fun _ _ _ _ _=>trivial,trivial⟩ (fun i hi=>by cases hi) ?_;repeat (first|(refine a7 (by rfl) ?_;simp only[aU,aT,aS,aR,aQ])|(refine sx ?_ (fun w1 hU=> ?_) ?_;rotate_left;(focus have f1:=(HBK.out.ext hU.un).cell;clear hU;go_simp<;>with_reducible rfl);simp only[aU,aT,aS,aR,aQ]))
    refine so (fun w6 hU hp K hK=> ?_) ?_
    ·have hc:=HC1.out w6 hU.un;clear hp hU;go_simp;refine hc.mono ?_;rintro e w7 ⟨rfl,hE⟩;exact hK _ _ hE rfl trivial
    rintro _ rfl;simp only[aU,aT,aS,aR,aQ];repeat (first|(refine a7 (by rfl) ?_;simp only[aU,aT,aS,aR,aQ])|(refine sx ?_ (fun w1 hU=> ?_) ?_;rotate_left;(focus have f1:=(HBK.out.ext hU.un).cell;clear hU;go_simp<;>with_reducible rfl);simp only[aU,aT,aS,aR,aQ]))
    refine so (fun w6 hU hp K hK=> ?_) ?_
    ·have hc:=HC2.out w6 hU.un;clear hp hU;go_simp;refine hc.mono ?_;rintro e w7 ⟨rfl,hE⟩;exact hK _ _ hE rfl trivial
    rintro _ rfl;simp only[aU,aT,aS,aR,aQ];repeat (first|(refine a7 (by rfl) ?_;simp only[aU,aT,aS,aR,aQ])|(refine sx ?_ (fun w1 hU=> ?_) ?_;rotate_left;(focus have f1:=(HBK.out.ext hU.un).cell;clear hU;go_simp<;>with_reducible rfl);simp only[aU,aT,aS,aR,aQ]))
    intro w8 hw8 hp hpair;clear hp hpair;simp only[ab,ap];have HX8:=G (HXA.out.trans hw8.un);refine aP (by rfl) (by simp) (fun K hK=> ?_);go_simp;refine hK _ _ hw8 ?_;clear hK hw8;refine cn ?_;go_wp2_with fail;go_roundw
    case rel=>exact⟨j+1,m+1+(d1+d2),by go_num,congrArg (Value.int .i64) (by simp[IntKind.wrap,IntKind.signed,IntKind.bits];omega),by omega,G (by have:=HSb.out;simp only[if_true]at this;omega),HX8⟩
    case measure=>simp[intOf];omega
   ·have hkb:=beq_eq_false_iff_ne.2 hk;have hbs:m+(d1+d2)<=1073741824:=by simpa[hk]using hbs
    have hw2:IntKind.i64.wrap ((m:Int)+((d1+d2:Nat):Int))=((m+(d1+d2):Nat):Int):=by rw[<-hwr (m+(d1+d2)) hbs];congr 1
    clear hwr;go_wp2_with fail;refine cL 9 4 [(3,fun v=>v= .int .i64 (d1:Int),fun _ _=>True),(6,fun v=>v= .int .i64 (d2:Int),fun _ _=>True)] [] [1,4] mixed (by kernel_rfl) (by kernel_rfl) (by kernel_rfl) (by rfl) ⟨fun _ _ _ _ _=>trivial,fun _ _ _ _ _=>trivial,trivial⟩ (fun i hi=>by cases hi) ?_;repeat (first|(refine a7 (by rfl) ?_;simp only[aU,aT,aS,aR,aQ])|(refine sx ?_ (fun w1 hU=> ?_) ?_;rotate_left;(focus have f1:=(HBK.out.ext hU.un).cell;clear hU;go_simp<;>with_reducible rfl);simp only[aU,aT,aS,aR,aQ]))
    refine so (fun w6 hU hp K hK=> ?_) ?_
    ·have hc:=HC1.out w6 hU.un;clear hp hU;go_simp;refine hc.mono ?_;rintro e w7 ⟨rfl,hE⟩;exact hK _ _ hE rfl trivial
    rintro _ rfl;simp only[aU,aT,aS,aR,aQ];repeat (first|(refine a7 (by rfl) ?_;simp only[aU,aT,aS,aR,aQ])|(refine sx ?_ (fun w1 hU=> ?_) ?_;rotate_left;(focus have f1:=(HBK.out.ext hU.un).cell;clear hU;go_simp<;>with_reducible rfl);simp only[aU,aT,aS,aR,aQ]))
    refine so (fun w6 hU hp K hK=> ?_) ?_
    ·have hc:=HC2.out w6 hU.un;clear hp hU;go_simp;refine hc.mono ?_;rintro e w7 ⟨rfl,hE⟩;exact hK _ _ hE rfl trivial
    rintro _ rfl;simp only[aU,aT,aS,aR,aQ];repeat (first|(refine a7 (by rfl) ?_;simp only[aU,aT,aS,aR,aQ])|(refine sx ?_ (fun w1 hU=> ?_) ?_;rotate_left;(focus have f1:=(HBK.out.ext hU.un).cell;clear hU;go_simp<;>with_reducible rfl);simp only[aU,aT,aS,aR,aQ]))
    intro w8 hw8 hp hpair;clear hp hpair;simp only[ab,ap];have HX8:=G (HXA.out.trans hw8.un);refine aP (by rfl) (by simp) (fun K hK=> ?_);go_simp;refine hK _ _ hw8 ?_;clear hK hw8;refine cn ?_;go_wp2_with fail;go_roundw
    case rel=>exact⟨j+1,m+(d1+d2),by go_num,congrArg (Value.int .i64) (by simp[IntKind.wrap,IntKind.signed,IntKind.bits];omega),by omega,G (by have:=HSb.out;rw[if_neg hk]at this;omega),HX8⟩
    case measure=>simp[intOf];omega
  ·have hlt': ¬(j:Int)<N:=by omega
   have HM:=G (show m=Rv by
    have:=HQ.out;rw[aB (by have:=HN.out;omega),cC]at this
    omega)
   go_wp2_with fail;go_ret;exact⟨by rw[<-HM.out];rfl,HX.out⟩
theorem iZ: ∀(m:Nat) (xs:List St),dq xs<=m->dq xs<=1073741824->AS xs
 |0,xs,h,hw=>p9 xs hw (fun s hs=>by have:=bq hs;have:=s.wt_eq;omega)
 |m+1,xs,h,hw=>p9 xs hw (fun s hs=>⟨iZ m s.body (by have:=bq hs;have:=s.wt_eq;omega) (by have:=bq hs;have:=s.wt_eq;omega),iZ m s.els (by have:=bq hs;have:=s.wt_eq;omega) (by have:=bq hs;have:=s.wt_eq;omega)⟩)
end
section
open Go.RowKit
theorem vU (xs:List St) (h:dq xs<=1073741824):AS xs:=iZ _ xs (an _) h
theorem l_ (nm:List UInt8) (ps:List (List UInt8)) (bd:List St) (hw:dq bd<=6000000) (hp:ps.length<=6000000) (P:Nat->Prop) (w:World) (A B:Option Addr) (c d:Nat) (hR:cM w P (.slice B bd.length d) bd):
  Calls prog 24 #[.agg #[.string (ag nm), .slice A ps.length c, .slice B bd.length d]] w fun e w'=>e= .returned (.int .i64 (kt ⟨nm,ps,bd⟩:Int))/\au w w':=by
 have hE0:=O w (.cells #[.string (ag nm), .slice A ps.length c, .slice B bd.length d] 59);have HE0:=G hE0;have HB0:=G (ax w 59 #[.string (ag nm), .slice A ps.length c, .slice B bd.length d]);have hdl:=fK bd;obtain⟨q,hq⟩: ∃q,cC bd=q:=⟨_,rfl⟩
 have HD:=G (fun W (h:au (w.alloc (.cells #[.string (ag nm), .slice A ps.length c, .slice B bd.length d] 59)) W)=>hq▸vU bd (by omega) P W B _ d ((hR.keep (.of_ext hE0) (Q:=P) (fun b hb _=>hb)).keep (.of_ext h) (Q:=P) (fun b hb _=>hb)));have HF:=G (show kt ⟨nm,ps,bd⟩=4*(8+ps.length+q) by rw[<-hq];rfl);rw[hq]at hdl;generalize ps.length=n at*;generalize bd.length=m at*;clear hR hE0 hq;go_enter func24,ntmps24;go_wp2_with fail;refine am 10 3 [(6,fun v=>v= .int .i64 (q:Int),fun _ _=>True)] mixed (by kernel_rfl) ⟨fun _ _ _ _ _=>trivial,trivial⟩ ?_;repeat (first|(refine a7 (by rfl) ?_;simp only[aU,aT,aS,aR,aQ])|(refine sx ?_ (fun w1 hU=> ?_) ?_;rotate_left;(focus have f1:=(HB0.out.ext hU.un).cell;clear hU;go_simp<;>with_reducible rfl);simp only[aU,aT,aS,aR,aQ]))
 refine so (fun w6 hU hp K hK=> ?_) ?_
 ·have hc:=HD.out w6 hU.un;clear hp hU;go_simp;refine hc.mono ?_;rintro e w7 ⟨rfl,hE⟩;exact hK _ _ hE rfl trivial
 rintro _ rfl;simp only[aU,aT,aS,aR,aQ];repeat (first|(refine a7 (by rfl) ?_;simp only[aU,aT,aS,aR,aQ])|(refine sx ?_ (fun w1 hU=> ?_) ?_;rotate_left;(focus have f1:=(HB0.out.ext hU.un).cell;clear hU;go_simp<;>with_reducible rfl);simp only[aU,aT,aS,aR,aQ]))
 intro w8 hw8 hp;clear hp;simp only[ab,aG];have HX8:=G (HE0.out.trans hw8.un);clear hw8;go_wp2_with fail;go_ret;refine⟨congrArg (fun z=>Ending.returned (.int .i64 z)) ?_,HX8.out⟩;rw[HF.out];simp[IntKind.wrap,IntKind.signed,IntKind.bits];omega
def Bd (xs:List St):Prop:= ∀(P:Nat->Prop) (w:World) (A:Option Addr) (n c:Nat),BT w->cM w P (.slice A n c) xs->Calls prog 75 #[.slice A n c] w fun e w'=>e= .returned (.bool (jN xs))/\au w w'
theorem vh {l:List St} {j:Nat} (h:j<l.length):jN (l.drop j)=(zQ l[j]||jN (l.drop (j+1))):=by
 rw[ay h,jN]
theorem wj {l:List Ex} {j:Nat} (h:j<l.length):(l.drop j).any (fun y=>decide (7<ci y))=(decide (7<ci l[j])||(l.drop (j+1)).any (fun y=>decide (7<ci y))):=by
 rw[ay h,fI]
theorem pS (xs:List St) (hw:dq xs<=1073741824) (hIH: ∀s∈xs,Bd s.body/\Bd s.els):Bd xs:=by
 intro P w A n c hT hR;obtain⟨A',c',hv,hf⟩:=hR.form;injection hv with hv1 hv2 hv3;subst hv1 hv2 hv3;have hl:=cw xs;have HR:=G hR;have HI:=G hIH;have HT:=G hT;have HWT:=G (fun s (hs:s∈xs)=>show gt s.ex<=1073741824 by have:=bq hs;have:=s.wt_eq;omega);obtain⟨N,hN⟩: ∃N,xs.length=N:=⟨_,rfl⟩
 have HN:=G hN;rw[hN]at HR hl;obtain⟨Rv,hRv⟩: ∃R,jN xs=R:=⟨_,rfl⟩
 have HQ0:=G (show jN (xs.drop 0)=Rv from hRv);have HX0:=G (aH w);rw[hN,hRv];clear hR hf hIH hN hRv hT;go_enter func75,ntmps75;go_wp2_with fail
 go_loopw [9] (fun vi wr=> ∃(j:Nat),vi= .int .i64 (j:Int)/\j<=N/\Hid (jN (xs.drop j)=Rv)/\Hid (au w wr)) (fun vi _=>N-(intOf vi).toNat)
 case atStart=>exact⟨0,rfl,az _,HQ0,HX0⟩
 case round=>
  obtain⟨j,rfl,hj,HQ,HX⟩:=hrel;generalize wr=wo at*;by_cases hlt:j<N
  ·have hlt':(j:Int)<N:=by omega
   have hjl:j<xs.length:=by have:=HN.out;omega
   obtain⟨b,o,e,bv,lv,rfl,hb,hPb,h0,h1,h2,h3,h4,hRe,hRb2,hRl⟩:=HR.out.at_ j hjl;have hS:=vh hjl;have hII:=HI.out _ (ai hjl);have hWx:=HWT.out _ (ai hjl);obtain⟨y,hy⟩: ∃y,xs[j]=y:=⟨_,rfl⟩
   rw[hy]at h0 h1 hRe hRb2 hRl hS hII hWx;clear hy;obtain⟨k,nm,ex,bd,el⟩:=y;simp only[St.k,St.nm,St.ex,St.body,St.els]at h0 h1 hRe hRb2 hRl hII hWx;rw[zQ]at hS;have HS:=G (HQ.out.symm.trans hS);obtain⟨M,hM⟩: ∃m,ex.length=m:=⟨_,rfl⟩
   obtain⟨A1,c1,rfl,_⟩:=hRe.form;obtain⟨A2,c2,rfl,_⟩:=hRb2.form;obtain⟨A3,c3,rfl,_⟩:=hRl.form;rw[hM]at h2 hRe;have HM:=G hM;have hMb:M<=1073741824:=by have:=bF ex;omega
   have e0:=(HX.out.cell b _ hb).trans h0;have e1:=(HX.out.cell b _ hb).trans h1;have e2:=(HX.out.cell b _ hb).trans h2;have e3:=(HX.out.cell b _ hb).trans h3;have e4:=(HX.out.cell b _ hb).trans h4;have hAl:=O wo (.cells #[.int .i64 k, .string (ag nm), .slice A1 M c1, .slice A2 bd.length c2, .slice A3 el.length c3] 72);have HBK:=G (ax wo 72 #[.int .i64 k, .string (ag nm), .slice A1 M c1, .slice A2 bd.length c2, .slice A3 el.length c3]);have HXA:=G (HX.out.trans hAl);have HRe:=G (hRe.keep (.of_ext HXA.out) (Q:=P) (fun b hb _=>hb));have HRb:=G (hRb2.keep (.of_ext HXA.out) (Q:=P) (fun b hb _=>hb));have HRl:=G (hRl.keep (.of_ext HXA.out) (Q:=P) (fun b hb _=>hb));have HII:=G hII;have HWX:=G hWx;have HI0:=G (show(((ex.drop 0).any (fun y=>decide (7<ci y))||(jN bd||jN el))||jN (xs.drop (j+1)))=Rv from HS.out.symm);have HY0:=G (aH (wo.alloc (.cells #[.int .i64 k, .string (ag nm), .slice A1 M c1, .slice A2 bd.length c2, .slice A3 el.length c3] 72)));clear h0 h1 h2 h3 h4 hRe hRb2 hRl hII hS hAl hM hWx HR HI HWT;go_wp2_with fail
   go_loopw [16] (fun vi wr=> ∃(i:Nat),vi= .int .i64 (i:Int)/\i<=M/\Hid ((((ex.drop i).any (fun y=>decide (7<ci y))||(jN bd||jN el))||jN (xs.drop (j+1)))=Rv)/\Hid (au (wo.alloc (.cells #[.int .i64 k, .string (ag nm), .slice A1 M c1, .slice A2 bd.length c2, .slice A3 el.length c3] 72)) wr)) (fun vi _=>M-(intOf vi).toNat)
   case atStart=>exact⟨0,rfl,az _,HI0,HY0⟩
   case round=>
    obtain⟨i,rfl,hi,HIQ,HY⟩:=hrel;by_cases hli:i<M
    ·have hli':(i:Int)<M:=by omega
     have hil:i<ex.length:=by have:=HM.out;omega
     obtain⟨b2,o2,a2,rfl,hb2,hP2,g0,g1,g2,g3,g4,g5,hRa⟩:=HRe.out.at_ i hil;have HSI:=G (wj hil);have hyw:=bX (ai hil);have hyn:=eL ex[i];have HND:=G (kV _ ex[i] (an _) (by have:=HWX.out;omega));generalize ex[i]=y at*;have q0:=(HY.out.cell b2 _ hb2).trans g0;have q1:=(HY.out.cell b2 _ hb2).trans g1;have q2:=(HY.out.cell b2 _ hb2).trans g2;have q3:=(HY.out.cell b2 _ hb2).trans g3;have q4:=(HY.out.cell b2 _ hb2).trans g4;have q5:=(HY.out.cell b2 _ hb2).trans g5;obtain⟨B,d,rfl,_⟩:=hRa.form;have HRa:=G ((hRa.keep (.of_ext HY.out) (Q:=P) (fun b hb _=>hb)).keep (.of_ext (O _ (.cells #[.int .i64 y.k, .string (ag y.op), .string (ag y.nm), .string (ag y.tx), .int .i64 y.v, .slice B y.args.length d] 70))) (Q:=P) (fun b hb _=>hb));have HTi:=G (((HT.out.ext HXA.out).ext HY.out).ext (O wr (.cells #[.int .i64 y.k, .string (ag y.op), .string (ag y.nm), .string (ag y.tx), .int .i64 y.v, .slice B y.args.length d] 70)));clear g0 g1 g2 g3 g4 g5 hRa hyw hyn;by_cases h7:7<ci y
     ·have h7':(7:Int)<(ci y:Int):=by omega
      have HF:=G (show Rv=true by rw[<-HIQ.out,HSI.out,decide_eq_true h7];rfl);go_wp2_with (go_at_call 26;refine(HND.out P _ B _ d HRa.out HTi.out).mono ?_;rintro e w3 ⟨rfl,hE⟩;have HZ:=G (((HXA.out.trans HY.out).alloc' _).trans hE);clear hE);go_ret;exact⟨by rw[HF.out];rfl,HZ.out⟩
     ·have h7': ¬(7:Int)<(ci y:Int):=by omega
      have HF:=G (show(((ex.drop (i+1)).any (fun y=>decide (7<ci y))||(jN bd||jN el))||jN (xs.drop (j+1)))=Rv by rw[<-HIQ.out,HSI.out,decide_eq_false h7];rfl);go_wp2_with (go_at_call 26;refine(HND.out P _ B _ d HRa.out HTi.out).mono ?_;rintro e w3 ⟨rfl,hE⟩;have HZ:=G ((HY.out.alloc' _).trans hE);clear hE);go_roundw
      case rel=>exact⟨i+1,by go_num,by omega,HF,HZ⟩
      case measure=>simp[intOf];omega
    ·have hli': ¬(i:Int)<M:=by omega
     have HF:=G (show((jN bd||jN el)||jN (xs.drop (j+1)))=Rv by
      have:=HIQ.out;rw[aB (l:=ex) (by have:=HM.out;omega)]at this
      exact this)
     have f0:=(HBK.out.ext HY.out).cell;have HXY:=G (HXA.out.trans HY.out);have HC1:=HII.out.1 P wr A2 _ c2 (HT.out.ext HXY.out) (HRb.out.keep (.of_ext HY.out) (Q:=P) (fun b hb _=>hb));have HC1:=G HC1
     cases hr1:jN bd with
     |true=>
      rw[hr1]at HF HC1;have HF:=G (show Rv=true from HF.out.symm);go_wp2_with (go_at_call 75;refine HC1.out.mono ?_;rintro e w3 ⟨rfl,hE⟩;have HZ:=G (HXY.out.trans hE);clear hE HC1);go_ret;exact⟨by rw[HF.out];rfl,HZ.out⟩
     |false=>
      rw[hr1]at HF HC1
      cases hr2:jN el with
      |true=>
       rw[hr2]at HF;have HF:=G (show Rv=true from HF.out.symm);go_wp2_with (first|(go_at_call 75;refine HC1.out.mono ?_;clear HC1;rintro e w3 ⟨rfl,hE⟩;have HZ:=G (HXY.out.trans hE);have HE3:=G hE;clear f0;have f0:=(HBK.out.ext (HY.out.trans hE)).cell;clear hE)|(go_at_call 75;have hc:=HII.out.2 P _ A3 _ c3 (HT.out.ext HZ.out) (HRl.out.keep (.of_ext (HY.out.trans HE3.out)) (Q:=P) (fun b hb _=>hb));rw[hr2]at hc;refine hc.mono ?_;clear hc;rintro e w4 ⟨rfl,hE⟩;have HZ4:=G (HZ.out.trans hE);clear hE));go_ret;exact⟨by rw[HF.out];rfl,HZ4.out⟩
      |false=>
       rw[hr2]at HF;have HF:=G (show jN (xs.drop (j+1))=Rv from HF.out);go_wp2_with (first|(go_at_call 75;refine HC1.out.mono ?_;clear HC1;rintro e w3 ⟨rfl,hE⟩;have HZ:=G (HXY.out.trans hE);have HE3:=G hE;clear f0;have f0:=(HBK.out.ext (HY.out.trans hE)).cell;clear hE)|(go_at_call 75;have hc:=HII.out.2 P _ A3 _ c3 (HT.out.ext HZ.out) (HRl.out.keep (.of_ext (HY.out.trans HE3.out)) (Q:=P) (fun b hb _=>hb));rw[hr2]at hc;refine hc.mono ?_;clear hc;rintro e w4 ⟨rfl,hE⟩;have HZ4:=G (HZ.out.trans hE);clear hE));go_roundw
       case rel=>exact⟨j+1,by go_num,by omega,HF,HZ4⟩
       case measure=>simp[intOf];omega
  ·have hlt': ¬(j:Int)<N:=by omega
   have HF:=G (show Rv=false by
    have:=HQ.out;rw[aB (by have:=HN.out;omega),jN]at this
    exact this.symm)
   go_wp2_with fail;go_ret;exact⟨by rw[HF.out];rfl,HX.out⟩
theorem j_: ∀(m:Nat) (xs:List St),dq xs<=m->dq xs<=1073741824->Bd xs
 |0,xs,h,hw=>pS xs hw (fun s hs=>by have:=bq hs;have:=s.wt_eq;omega)
 |m+1,xs,h,hw=>pS xs hw (fun s hs=>⟨j_ m s.body (by have:=bq hs;have:=s.wt_eq;omega) (by have:=bq hs;have:=s.wt_eq;omega),j_ m s.els (by have:=bq hs;have:=s.wt_eq;omega) (by have:=bq hs;have:=s.wt_eq;omega)⟩)
end
end Go.Proofs.YtddomeddabfinaaGreatDoor
