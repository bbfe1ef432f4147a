/-
  Parts of the proof: TyF TyG TyH TyI ParZ OwnQ.
-/
import Derived.Test.YtddomeddabfinaaGreatDoorTz00
import Derived.Test.YtddomeddabfinaaGreatDoorTz20
import Derived.Test.YtddomeddabfinaaGreatDoorTz21
import Derived.Test.YtddomeddabfinaaGreatDoorTz01
import Derived.LoopN
import Derived.Test.YtddomeddabfinaaGreatDoorTz07
set_option maxRecDepth 100000
set_option maxHeartbeats 8000000
set_option linter.unusedVariables false
set_option linter.unusedSimpArgs false
set_option linter.unusedSectionVars false
namespace Go.Proofs.YtddomeddabfinaaGreatDoor
open Go.Proofs.Tryz
section
open Go.RowKit
theorem rK {gl:Gl} {lo:Ls} {nm:List UInt8} {b:Bi} {l:List Ex} {j:Nat} (h:j<l.length):na gl lo nm b j (l.drop j)=CR.then (if jW b j=true then lw gl lo l[j]else if oS (xO b j) l[j].k=true then .error (nm,16)else if l[j].k=3 then kq gl lo l[j].nm else .ok ()) fun _=>na gl lo nm b (j+1) (l.drop (j+1)):=by
 rw[ay h,na]
def EA (op nm tx:List UInt8) (v:Int) (xs:List Ex):Prop:= ∀(X:CB) (gl:Gl) (lv:Value) (lo:Ls) (P:Nat->Prop) (w:World) (A:Option Addr) (n c:Nat),CK X gl lv lo w->cE w P (.slice A n c) xs->
 Calls prog 185 #[X.p, .agg #[.int .i64 5, .string (ai op), .string (ai nm), .string (ai tx), .int .i64 v, .slice A n c]] w fun e w'=>e=bW (lw gl lo (.mk 5 op nm tx v xs))/\aq w w'
theorem sk (op nm tx:List UInt8) (v:Int) (xs:List Ex) (hl:xs.length<=1073741824) (hnm:nm.length<=1073741824) (hb:ee nm=none) (hIH: ∀y∈xs,CO y):EA op nm tx v xs:=by
 intro X gl lv lo P w A n c hK hR;obtain⟨A',c',hv,hf⟩:=hR.form;injection hv with hv1 hv2 hv3;subst hv1 hv2 hv3;have HR:=G hR;have HI:=G hIH;obtain⟨N,hN⟩: ∃N,xs.length=N:=⟨_,rfl⟩
 have HN:=G hN;rw[hN]at HR hl;obtain⟨Rv,hRv⟩: ∃R,lw gl lo (.mk 5 op nm tx v xs)=R:=⟨_,rfl⟩
 have HRv:=G (show Rv=match gl.fn nm with|none=> .error (nm,15)|some n=>if n=N then na gl lo nm none 0 xs else .error (nm,16) by
  rw[<-hRv,lw,if_neg (by decide),if_neg (by decide),if_neg (by decide),if_pos rfl];unfold ur;rw[hb,<-hN]
  cases gl.fn nm<;>rfl)
 have hEA:=O w (.cells #[.int .i64 5, .string (ai op), .string (ai nm), .string (ai tx), .int .i64 v, .slice A N c] 70);have HE0:=G hEA;have HB0:=G (an w 70 #[.int .i64 5, .string (ai op), .string (ai nm), .string (ai tx), .int .i64 v, .slice A N c]);have HK0:=G (hK.ext hEA)
 have HBL:=G (show Calls prog 22 #[.string (ai nm)] (w.alloc (.cells #[.int .i64 5, .string (ai op), .string (ai nm), .string (ai tx), .int .i64 v, .slice A N c] 70)) fun e w'=>e= .returned (.tuple #[.int .i64 0, .string ⟨#[]⟩, .bool false])/\aq (w.alloc (.cells #[.int .i64 5, .string (ai op), .string (ai nm), .string (ai tx), .int .i64 v, .slice A N c] 70)) w' from by
  have:=kG nm _ HK0.out.t;rw[hb]at this
  exact this)
 have HIN:=G (fun(i:Nat) (hi:i<=1073741824) (W:World)=>show Calls prog 55 #[.string ⟨#[]⟩, .bool false, .int .i64 (i:Int)] W fun e w'=>e= .returned (.bool true)/\aq W w' from kf none i hi (by simp[AN]) W);have HF:=G (fun n W=>dN nm n W);clear hR hf hIH hb hEA hK;rw[hN,hRv];clear hN hRv;obtain⟨g,bi,ba,bf,sv,sf⟩:=X;simp only[CB.p]at*
 cases hfn:gl.fn nm with
 |none=>
  have HE:=G (show Rv= .error (nm,15) by rw[HRv.out,hfn]);clear HI HIN HRv;go_enter func185,ntmps185;go_wp2_with (go_at_call 22;refine HBL.out.mono ?_;rintro e w1 ⟨rfl,hE⟩;have HX1:=G (HE0.out.trans hE);have HB1:=G (HB0.out.ext hE);have f0:=HB1.out.cell;have HK1:=G (HK0.out.ext hE);clear hE HBL HB0 HK0 HE0);refine az 12 1 [] mixed (by kernel_rfl) trivial ?_;repeat (refine sx ?_ (fun w1 hU=> ?_) ?_;rotate_left;(focus have f0:=(HB1.out.ext hU.un).cell;have fk:=(HK1.out.ext hU.un).blk.cell;have f2:=(HK1.out.ext hU.un).lookF hnm;rw[hfn]at f2;simp only[dL,cQ]at f2;clear hU;go_simp<;>with_reducible rfl);simp only[aY,aX,aW,aV,aU])
  intro w7 hw7 _;simp only[ac,aM];have HX2:=G (HX1.out.trans hw7.un);clear f0;have f0:=(HB1.out.ext hw7.un).cell;clear hw7;go_wp2_with (go_at_call 73;refine(HF.out _ _).mono ?_;unfold a_;rintro e w2 ⟨rfl,hE⟩;have HY:=G (HX2.out.trans hE);clear hE HF);exact⟨rfl,by rw[HE.out];rfl,HY.out⟩
 |some k=>
  by_cases hkN:k=N
  ·subst hkN;have HE:=G (show Rv=na gl lo nm none 0 xs by rw[HRv.out,hfn];simp);have HQ0:=G (show na gl lo nm none 0 (xs.drop 0)=Rv from HE.out.symm);clear HRv;go_enter func185,ntmps185;go_wp2_with (go_at_call 22;refine HBL.out.mono ?_;rintro e w1 ⟨rfl,hE⟩;have HX1:=G (HE0.out.trans hE);have HB1:=G (HB0.out.ext hE);have f0:=HB1.out.cell;have HK1:=G (HK0.out.ext hE);clear hE HBL HB0 HK0 HE0);refine az 12 1 [] mixed (by kernel_rfl) trivial ?_;repeat (refine sx ?_ (fun w1 hU=> ?_) ?_;rotate_left;(focus have f0:=(HB1.out.ext hU.un).cell;have fk:=(HK1.out.ext hU.un).blk.cell;have f2:=(HK1.out.ext hU.un).lookF hnm;rw[hfn]at f2;simp only[bx,cF]at f2;clear hU;go_simp<;>with_reducible rfl);simp only[aY,aX,aW,aV,aU])
   intro w7 hw7 _;simp only[ac,aM];have HX2:=G (HX1.out.trans hw7.un);have HK2:=G (HK1.out.ext hw7.un);clear f0;have f0:=(HB1.out.ext hw7.un).cell;clear hw7 HX1 HK1 HB1;go_wp2_with fail;clear f0
   go_loopw [53] (fun vi wr=> ∃(j:Nat),vi= .int .i64 (j:Int)/\j<=k/\Hid (na gl lo nm none j (xs.drop j)=Rv)/\Hid (aq w wr)/\Hid (CK ⟨g,bi,ba,bf,sv,sf⟩ gl lv lo wr)) (fun vi _=>k-(intOf vi).toNat)
   case atStart=>exact⟨0,rfl,aG _,HQ0,HX2,HK2⟩
   case round=>
    obtain⟨j,rfl,hj,HQ,HX,HKj⟩:=hrel;by_cases hlt:j<k
    ·have hlt':(j:Int)<k:=by omega
     have hjl:j<xs.length:=by have:=HN.out;omega
     obtain⟨b,o,a,rfl,hb,hP,h0,h1,h2,h3,h4,h5,hRa⟩:=HR.out.at_ j hjl;have HS:=G (rK (gl:=gl) (lo:=lo) (nm:=nm) (b:=none) hjl);have hIy:=HI.out _ (au hjl);generalize xs[j]=y at*;have e0:=(HX.out.cell b _ hb).trans h0;have e1:=(HX.out.cell b _ hb).trans h1;have e2:=(HX.out.cell b _ hb).trans h2;have e3:=(HX.out.cell b _ hb).trans h3;have e4:=(HX.out.cell b _ hb).trans h4;have e5:=(HX.out.cell b _ hb).trans h5;obtain⟨B,d,rfl,_⟩:=hRa.form;have HRa:=G ((hRa.keep (.of_ext HX.out) (Q:=P) (fun b hb _=>hb)).keep (.of_ext (O _ (.cells #[.int .i64 y.k, .string (ai y.op), .string (ai y.nm), .string (ai y.tx), .int .i64 y.v, .slice B y.args.length d] 70))) (Q:=P) (fun b hb _=>hb));have HB1:=G (an wr 70 #[.int .i64 y.k, .string (ai y.op), .string (ai y.nm), .string (ai y.tx), .int .i64 y.v, .slice B y.args.length d]);have HX1:=G (HX.out.alloc' (.cells #[.int .i64 y.k, .string (ai y.op), .string (ai y.nm), .string (ai y.tx), .int .i64 y.v, .slice B y.args.length d] 70));have HK1:=G (HKj.out.ext (O wr (.cells #[.int .i64 y.k, .string (ai y.op), .string (ai y.nm), .string (ai y.tx), .int .i64 y.v, .slice B y.args.length d] 70)));have HIy:=G (hIy ⟨g,bi,ba,bf,sv,sf⟩ gl lv lo P);have HIN1:=G (HIN.out j (by omega));clear h0 h1 h2 h3 h4 h5 hRa hIy;simp only[CB.p]at HIy;generalize lw gl lo y=r at*;rw[show jW none j=true from rfl]at HS;simp only[if_true]at HS
     cases r with
     |ok u=>
      go_wp2_with (first|(go_at_call 55;refine(HIN1.out _).mono ?_;rintro e w2 ⟨rfl,hE⟩;have HX3:=G (HX1.out.trans hE);have HE2:=G hE;have f1:=(HB1.out.ext hE).cell;have HK3:=G (HK1.out.ext hE);clear hE HIN1)|(go_at_call 156;refine(HIy.out _ B _ d HK3.out (HRa.out.keep (.of_ext HE2.out) (fun b hb _=>hb))).mono ?_;unfold bW;rintro e w3 ⟨rfl,hE⟩;have HY:=G (HX3.out.trans hE);have HKY:=G (HK3.out.ext hE);clear hE HIy));go_roundw
      case rel=>exact⟨j+1,by go_num,by omega,G (HS.out.symm.trans HQ.out),HY,HKY⟩
      case measure=>simp[intOf];omega
     |error q=>
      obtain⟨qn,n⟩:=q;have HFn:=G (show Rv= .error (qn,n)from HQ.out.symm.trans HS.out);go_wp2_with (first|(go_at_call 55;refine(HIN1.out _).mono ?_;rintro e w2 ⟨rfl,hE⟩;have HX3:=G (HX1.out.trans hE);have HE2:=G hE;have f1:=(HB1.out.ext hE).cell;have HK3:=G (HK1.out.ext hE);clear hE HIN1)|(go_at_call 156;refine(HIy.out _ B _ d HK3.out (HRa.out.keep (.of_ext HE2.out) (fun b hb _=>hb))).mono ?_;unfold bW a_;rintro e w3 ⟨rfl,hE⟩;have HY:=G (HX3.out.trans hE);clear hE HIy));exact⟨rfl,by rw[HFn.out];rfl,HY.out⟩
    ·have hlt': ¬(j:Int)<k:=by omega
     have HFn:=G (show Rv= .ok () by
      have:=HQ.out;rw[aF (by have:=HN.out;omega),na]at this
      exact this.symm)
     go_wp2_with fail;exact bodyPost_end (results_none rfl _ _ _) rfl ⟨by rw[HFn.out];rfl,HX.out⟩
  ·have HE:=G (show Rv= .error (nm,16) by rw[HRv.out,hfn];simp[hkN]);have hkN':((k:Int) !=(N:Int))=true:=by simp;omega
   have hkN2:((k:Int)==(N:Int))=false:=by simp;omega
   clear HI HIN HRv;go_enter func185,ntmps185;go_wp2_with (go_at_call 22;refine HBL.out.mono ?_;rintro e w1 ⟨rfl,hE⟩;have HX1:=G (HE0.out.trans hE);have HB1:=G (HB0.out.ext hE);have f0:=HB1.out.cell;have HK1:=G (HK0.out.ext hE);clear hE HBL HB0 HK0 HE0);refine az 12 1 [] mixed (by kernel_rfl) trivial ?_;repeat (refine sx ?_ (fun w1 hU=> ?_) ?_;rotate_left;(focus have f0:=(HB1.out.ext hU.un).cell;have fk:=(HK1.out.ext hU.un).blk.cell;have f2:=(HK1.out.ext hU.un).lookF hnm;rw[hfn]at f2;simp only[bx,cF]at f2;clear hU;go_simp<;>with_reducible rfl);simp only[aY,aX,aW,aV,aU])
   intro w7 hw7 _;simp only[ac,aM];have HX2:=G (HX1.out.trans hw7.un);clear f0;have f0:=(HB1.out.ext hw7.un).cell;clear hw7;go_wp2_with (go_at_call 73;refine(HF.out _ _).mono ?_;unfold a_;rintro e w2 ⟨rfl,hE⟩;have HY:=G (HX2.out.trans hE);clear hE HF);exact⟨rfl,by rw[HE.out];rfl,HY.out⟩
end
section
open Go.RowKit
theorem sj (op nm tx:List UInt8) (v:Int) (xs:List Ex) (hl:xs.length<=1073741824) (hnm:nm.length<=1073741824) (bc:Int) (ls:List UInt8) (hb:ee nm=some (bc,ls)) (hls:ls.length<=3) (hIH: ∀y∈xs,CO y) (hY2: ∀y∈xs,y.nm.length<=1073741824):EA op nm tx v xs:=by
 intro X gl lv lo P w A n c hK hR;obtain⟨A',c',hv,hf⟩:=hR.form;injection hv with hv1 hv2 hv3;subst hv1 hv2 hv3;have HR:=G hR;have HI:=G hIH;have HY2:=G hY2;have HLT:=G (rO hb);obtain⟨N,hN⟩: ∃N,xs.length=N:=⟨_,rfl⟩
 have HN:=G hN;rw[hN]at HR hl;obtain⟨Rv,hRv⟩: ∃R,lw gl lo (.mk 5 op nm tx v xs)=R:=⟨_,rfl⟩
 have HRv:=G (show Rv=if ls.length=N then na gl lo nm (some (bc,ls)) 0 xs else .error (nm,16) by
  rw[<-hRv,lw,if_neg (by decide),if_neg (by decide),if_neg (by decide),if_pos rfl];unfold ur
  rw[hb,<-hN])
 have hEA:=O w (.cells #[.int .i64 5, .string (ai op), .string (ai nm), .string (ai tx), .int .i64 v, .slice A N c] 70);have HE0:=G hEA;have HB0:=G (an w 70 #[.int .i64 5, .string (ai op), .string (ai nm), .string (ai tx), .int .i64 v, .slice A N c]);have HK0:=G (hK.ext hEA)
 have HBL:=G (show Calls prog 22 #[.string (ai nm)] (w.alloc (.cells #[.int .i64 5, .string (ai op), .string (ai nm), .string (ai tx), .int .i64 v, .slice A N c] 70)) fun e w'=>e= .returned (.tuple #[.int .i64 bc, .string (ai ls), .bool true])/\aq (w.alloc (.cells #[.int .i64 5, .string (ai op), .string (ai nm), .string (ai tx), .int .i64 v, .slice A N c] 70)) w' from by
  have:=kG nm _ HK0.out.t;rw[hb]at this
  exact this)
 have HIN:=G (fun(i:Nat) (hi:i<=1073741824) (W:World)=>show Calls prog 55 #[.string (ai ls), .bool true, .int .i64 (i:Int)] W fun e w'=>e= .returned (.bool (jW (some (bc,ls)) i))/\aq W w' from kf (some (bc,ls)) i hi (by simp only[AN];omega) W);have HF:=G (fun n W=>dN nm n W);have hsz:=a7 ls;clear hR hf hIH hY2 hb hEA hK;rw[hN,hRv];clear hN hRv;obtain⟨g,bi,ba,bf,sv,sf⟩:=X;simp only[CB.p]at*;obtain⟨fo,hfn⟩: ∃fo,gl.fn nm=fo:=⟨_,rfl⟩
 cases fo;all_goals
  by_cases hkN:ls.length=N
  ·have HE:=G (show Rv=na gl lo nm (some (bc,ls)) 0 xs by rw[HRv.out,if_pos hkN]);have HQ0:=G (show na gl lo nm (some (bc,ls)) 0 (xs.drop 0)=Rv from HE.out.symm);have hkN1:((ls.length:Int) !=(N:Int))=false:=by simp[hkN]
   clear HRv;go_enter func185,ntmps185;go_wp2_with (go_at_call 22;refine HBL.out.mono ?_;rintro e w1 ⟨rfl,hE⟩;have HX1:=G (HE0.out.trans hE);have HB1:=G (HB0.out.ext hE);have f0:=HB1.out.cell;have HK1:=G (HK0.out.ext hE);clear hE HBL HB0 HK0 HE0);refine az 12 1 [] mixed (by kernel_rfl) trivial ?_;repeat (refine sx ?_ (fun w1 hU=> ?_) ?_;rotate_left;(focus have f0:=(HB1.out.ext hU.un).cell;have fk:=(HK1.out.ext hU.un).blk.cell;have f2:=(HK1.out.ext hU.un).lookF hnm;rw[hfn]at f2;simp only[bx,dL,cF,cQ]at f2;clear hU;go_simp<;>with_reducible rfl);simp only[aY,aX,aW,aV,aU])
   intro w7 hw7 _;simp only[ac,aM];have HX2:=G (HX1.out.trans hw7.un);have HK2:=G (HK1.out.ext hw7.un);have HB2:=G (HB1.out.ext hw7.un);clear f0;have f0:=HB2.out.cell;clear hw7 HX1 HK1 HB1;go_wp2_with fail;clear f0
   go_loopw [53] (fun vi wr=> ∃(j:Nat),vi= .int .i64 (j:Int)/\j<=N/\Hid (na gl lo nm (some (bc,ls)) j (xs.drop j)=Rv)/\Hid (aq w wr)/\Hid (CK ⟨g,bi,ba,bf,sv,sf⟩ gl lv lo wr)/\Hid (aL wr w.heap.size 70 #[.int .i64 5, .string (ai op), .string (ai nm), .string (ai tx), .int .i64 v, .slice A N c])) (fun vi _=>N-(intOf vi).toNat)
   case atStart=>exact⟨0,rfl,aG _,HQ0,HX2,HK2,HB2⟩
   case round=>
    obtain⟨j,rfl,hj,HQ,HX,HKj,HBj⟩:=hrel;by_cases hlt:j<N
    ·have hlt':(j:Int)<N:=by omega
     have hjl:j<xs.length:=by have:=HN.out;omega
     have hjs:j<ls.length:=by omega
     obtain⟨b,o,a,rfl,hb,hP,h0,h1,h2,h3,h4,h5,hRa⟩:=HR.out.at_ j hjl;have HS:=rK (gl:=gl) (lo:=lo) (nm:=nm) (b:=some (bc,ls)) hjl;have hIy:=HI.out _ (au hjl);have hy2:=HY2.out _ (au hjl);obtain⟨y,hy⟩: ∃y,xs[j]=y:=⟨_,rfl⟩
     rw[hy]at h0 h1 h2 h3 h4 hRa HS hIy hy2;clear hy;obtain⟨k2,op2,nm2,tx2,v2,as2⟩:=y;simp only[Ex.k,Ex.op,Ex.nm,Ex.tx,Ex.v,Ex.args]at h0 h1 h2 h3 h4 hRa HS hy2;have e0:=(HX.out.cell b _ hb).trans h0;have e1:=(HX.out.cell b _ hb).trans h1;have e2:=(HX.out.cell b _ hb).trans h2;have e3:=(HX.out.cell b _ hb).trans h3;have e4:=(HX.out.cell b _ hb).trans h4;have e5:=(HX.out.cell b _ hb).trans h5;obtain⟨B,d,rfl,_⟩:=hRa.form;have HRa:=G ((hRa.keep (.of_ext HX.out) (Q:=P) (fun b hb _=>hb)).keep (.of_ext (O _ (.cells #[.int .i64 k2, .string (ai op2), .string (ai nm2), .string (ai tx2), .int .i64 v2, .slice B as2.length d] 70))) (Q:=P) (fun b hb _=>hb));have HB1:=G (an wr 70 #[.int .i64 k2, .string (ai op2), .string (ai nm2), .string (ai tx2), .int .i64 v2, .slice B as2.length d]);have HX1:=G (HX.out.alloc' (.cells #[.int .i64 k2, .string (ai op2), .string (ai nm2), .string (ai tx2), .int .i64 v2, .slice B as2.length d] 70));have HK1:=G (HKj.out.ext (O wr (.cells #[.int .i64 k2, .string (ai op2), .string (ai nm2), .string (ai tx2), .int .i64 v2, .slice B as2.length d] 70)));have HIy:=G (hIy ⟨g,bi,ba,bf,sv,sf⟩ gl lv lo P);have HIN1:=G (HIN.out j (by omega));clear h0 h1 h2 h3 h4 h5 hRa hIy;simp only[CB.p,Ex.k,Ex.op,Ex.nm,Ex.tx,Ex.v,Ex.args]at HIy
     cases hia:jW (some (bc,ls)) j with
     |true=>
      rw[hia]at HS HIN1;simp only[if_true]at HS;generalize lw gl lo (.mk k2 op2 nm2 tx2 v2 as2)=r at*
      cases r with
      |ok u=>
       have HS:=G HS;go_wp2_with (first|(go_at_call 55;refine(HIN1.out _).mono ?_;rintro e w2 ⟨rfl,hE⟩;have HX3:=G (HX1.out.trans hE);have HE2:=G hE;have f1:=(HB1.out.ext hE).cell;have f0:=(HBj.out.ext ((O _ _).trans hE)).cell;have HK3:=G (HK1.out.ext hE);clear hE HIN1)|(go_at_call 156;refine(HIy.out _ B _ d HK3.out (HRa.out.keep (.of_ext HE2.out) (fun b hb _=>hb))).mono ?_;unfold bW;rintro e w3 ⟨rfl,hE⟩;have HY:=G (HX3.out.trans hE);have HKY:=G (HK3.out.ext hE);have HBY:=G (HBj.out.ext ((O _ _).trans (HE2.out.trans hE)));clear hE HIy));go_roundw
       case rel=>exact⟨j+1,by go_num,by omega,G (HS.out.symm.trans HQ.out),HY,HKY,HBY⟩
       case measure=>simp[intOf];omega
      |error q=>
       obtain⟨qn,n⟩:=q;have HS:=G HS;have HFn:=G (show Rv= .error (qn,n)from HQ.out.symm.trans HS.out);go_wp2_with (first|(go_at_call 55;refine(HIN1.out _).mono ?_;rintro e w2 ⟨rfl,hE⟩;have HX3:=G (HX1.out.trans hE);have HE2:=G hE;have f1:=(HB1.out.ext hE).cell;have f0:=(HBj.out.ext ((O _ _).trans hE)).cell;have HK3:=G (HK1.out.ext hE);clear hE HIN1)|(go_at_call 156;refine(HIy.out _ B _ d HK3.out (HRa.out.keep (.of_ext HE2.out) (fun b hb _=>hb))).mono ?_;unfold bW a_;rintro e w3 ⟨rfl,hE⟩;have HY:=G (HX3.out.trans hE);clear hE HIy));exact⟨rfl,by rw[HFn.out];rfl,HY.out⟩
     |false=>
      rw[hia]at HS HIN1;have hq:=HLT.out _ (au hjs);have hix:=fun w=>mr ls j hjs w;have hq5:ls[j]≠105:=by
       intro e;have:jW (some (bc,ls)) j=true:=by
        simp only[jW];rw[bF];right;rw[bB,aI hjs];simp[e]
       rw[this]at hia
       cases hia
      have hlt2:xO (some (bc,ls)) j=ls[j]:=by simp only[xO];rw[bB,aI hjs];rfl
      rw[hlt2]at HS;have hjs':(j:Int)<ls.length:=by omega
      generalize ls[j]=q at hq hix hq5 HS;simp only[aN,if_false]at HS;clear hia hlt2 HIy;rcases hq with rfl|rfl|rfl|rfl
      ·exact absurd rfl hq5
      ·have hix: ∀w,(Instr.index 9 (.string (ai ls)) (.int .i64 (j:Int))).run prog w= .ok (.int .u8 115) w:=hix;by_cases hk2:k2=2
       ·subst hk2;simp[oS]at HS;have HS:=G HS;go_wp2_with (go_at_call 55;refine(HIN1.out _).mono ?_;rintro e w2 ⟨rfl,hE⟩;have HX3:=G (HX1.out.trans hE);have HE2:=G hE;have f1:=(HB1.out.ext hE).cell;have f0:=(HBj.out.ext ((O _ _).trans hE)).cell;have HK3:=G (HK1.out.ext hE);clear hE HIN1);go_roundw
        case rel=>exact⟨j+1,by go_num,by omega,G (HS.out.symm.trans HQ.out),HX3,HK3,G (HBj.out.ext ((O _ _).trans HE2.out))⟩
        case measure=>simp[intOf];omega
       ·have n2:(k2 !=2)=true:=by simpa using hk2
        have m2:(k2==2)=false:=by simpa using hk2
        simp[oS,hk2]at HS;have HS:=G HS;have HFn:=G (show Rv= .error (nm,16)from HQ.out.symm.trans HS.out);go_wp2_with (first|(go_at_call 55;refine(HIN1.out _).mono ?_;rintro e w2 ⟨rfl,hE⟩;have HX3:=G (HX1.out.trans hE);have HE2:=G hE;have f1:=(HB1.out.ext hE).cell;have f0:=(HBj.out.ext ((O _ _).trans hE)).cell;have HK3:=G (HK1.out.ext hE);clear hE HIN1)|(go_at_call 73;refine(HF.out _ _).mono ?_;unfold a_;rintro e w4 ⟨rfl,hE⟩;have HY:=G (HX3.out.trans hE);clear hE HF));exact⟨rfl,by rw[HFn.out];rfl,HY.out⟩
      ·have hix: ∀w,(Instr.index 9 (.string (ai ls)) (.int .i64 (j:Int))).run prog w= .ok (.int .u8 97) w:=hix;by_cases hk3:k2=3
       ·subst hk3;simp[oS]at HS
        cases hca:kq gl lo nm2 with
        |ok u=>
         rw[hca]at HS;have HS:=G HS;go_wp2_with (first|(go_at_call 55;refine(HIN1.out _).mono ?_;rintro e w2 ⟨rfl,hE⟩;have HX3:=G (HX1.out.trans hE);have HE2:=G hE;have f1:=(HB1.out.ext hE).cell;have f0:=(HBj.out.ext ((O _ _).trans hE)).cell;have HK3:=G (HK1.out.ext hE);clear hE HIN1)|(go_at_call 120;refine(d4 ⟨g,bi,ba,bf,sv,sf⟩ gl lv lo _ HK3.out nm2 hy2).mono ?_;rw[hca];unfold bW;rintro e w3 ⟨rfl,hE⟩;have HY:=G (HX3.out.trans hE);have HKY:=G (HK3.out.ext hE);have HBY:=G (HBj.out.ext ((O _ _).trans (HE2.out.trans hE)));clear hE));go_roundw
         case rel=>exact⟨j+1,by go_num,by omega,G (HS.out.symm.trans HQ.out),HY,HKY,HBY⟩
         case measure=>simp[intOf];omega
        |error q=>
         obtain⟨qn,n⟩:=q;rw[hca]at HS;have HS:=G HS;have HFn:=G (show Rv= .error (qn,n)from HQ.out.symm.trans HS.out);go_wp2_with (first|(go_at_call 55;refine(HIN1.out _).mono ?_;rintro e w2 ⟨rfl,hE⟩;have HX3:=G (HX1.out.trans hE);have HE2:=G hE;have f1:=(HB1.out.ext hE).cell;have f0:=(HBj.out.ext ((O _ _).trans hE)).cell;have HK3:=G (HK1.out.ext hE);clear hE HIN1)|(go_at_call 120;refine(d4 ⟨g,bi,ba,bf,sv,sf⟩ gl lv lo _ HK3.out nm2 hy2).mono ?_;rw[hca];unfold bW a_;rintro e w3 ⟨rfl,hE⟩;have HY:=G (HX3.out.trans hE);clear hE));exact⟨rfl,by rw[HFn.out];rfl,HY.out⟩
       ·have n3:(k2 !=3)=true:=by simpa using hk3
        have m3:(k2==3)=false:=by simpa using hk3
        simp[oS,hk3]at HS;have HS:=G HS;have HFn:=G (show Rv= .error (nm,16)from HQ.out.symm.trans HS.out);go_wp2_with (first|(go_at_call 55;refine(HIN1.out _).mono ?_;rintro e w2 ⟨rfl,hE⟩;have HX3:=G (HX1.out.trans hE);have HE2:=G hE;have f1:=(HB1.out.ext hE).cell;have f0:=(HBj.out.ext ((O _ _).trans hE)).cell;have HK3:=G (HK1.out.ext hE);clear hE HIN1)|(go_at_call 73;refine(HF.out _ _).mono ?_;unfold a_;rintro e w4 ⟨rfl,hE⟩;have HY:=G (HX3.out.trans hE);clear hE HF));exact⟨rfl,by rw[HFn.out];rfl,HY.out⟩
      ·have hix: ∀w,(Instr.index 9 (.string (ai ls)) (.int .i64 (j:Int))).run prog w= .ok (.int .u8 98) w:=hix;by_cases hk3:k2=3
       ·subst hk3;simp[oS]at HS
        cases hca:kq gl lo nm2 with
        |ok u=>
         rw[hca]at HS;have HS:=G HS;go_wp2_with (first|(go_at_call 55;refine(HIN1.out _).mono ?_;rintro e w2 ⟨rfl,hE⟩;have HX3:=G (HX1.out.trans hE);have HE2:=G hE;have f1:=(HB1.out.ext hE).cell;have f0:=(HBj.out.ext ((O _ _).trans hE)).cell;have HK3:=G (HK1.out.ext hE);clear hE HIN1)|(go_at_call 120;refine(d4 ⟨g,bi,ba,bf,sv,sf⟩ gl lv lo _ HK3.out nm2 hy2).mono ?_;rw[hca];unfold bW;rintro e w3 ⟨rfl,hE⟩;have HY:=G (HX3.out.trans hE);have HKY:=G (HK3.out.ext hE);have HBY:=G (HBj.out.ext ((O _ _).trans (HE2.out.trans hE)));clear hE));go_roundw
         case rel=>exact⟨j+1,by go_num,by omega,G (HS.out.symm.trans HQ.out),HY,HKY,HBY⟩
         case measure=>simp[intOf];omega
        |error q=>
         obtain⟨qn,n⟩:=q;rw[hca]at HS;have HS:=G HS;have HFn:=G (show Rv= .error (qn,n)from HQ.out.symm.trans HS.out);go_wp2_with (first|(go_at_call 55;refine(HIN1.out _).mono ?_;rintro e w2 ⟨rfl,hE⟩;have HX3:=G (HX1.out.trans hE);have HE2:=G hE;have f1:=(HB1.out.ext hE).cell;have f0:=(HBj.out.ext ((O _ _).trans hE)).cell;have HK3:=G (HK1.out.ext hE);clear hE HIN1)|(go_at_call 120;refine(d4 ⟨g,bi,ba,bf,sv,sf⟩ gl lv lo _ HK3.out nm2 hy2).mono ?_;rw[hca];unfold bW a_;rintro e w3 ⟨rfl,hE⟩;have HY:=G (HX3.out.trans hE);clear hE));exact⟨rfl,by rw[HFn.out];rfl,HY.out⟩
       ·have n3:(k2 !=3)=true:=by simpa using hk3
        have m3:(k2==3)=false:=by simpa using hk3
        by_cases hk2:k2=2
        ·subst hk2;simp[oS]at HS;have HS:=G HS;go_wp2_with (go_at_call 55;refine(HIN1.out _).mono ?_;rintro e w2 ⟨rfl,hE⟩;have HX3:=G (HX1.out.trans hE);have HE2:=G hE;have f1:=(HB1.out.ext hE).cell;have f0:=(HBj.out.ext ((O _ _).trans hE)).cell;have HK3:=G (HK1.out.ext hE);clear hE HIN1);go_roundw
         case rel=>exact⟨j+1,by go_num,by omega,G (HS.out.symm.trans HQ.out),HX3,HK3,G (HBj.out.ext ((O _ _).trans HE2.out))⟩
         case measure=>simp[intOf];omega
        ·have n2:(k2 !=2)=true:=by simpa using hk2
         have m2:(k2==2)=false:=by simpa using hk2
         simp[oS,hk3,hk2]at HS;have HS:=G HS;have HFn:=G (show Rv= .error (nm,16)from HQ.out.symm.trans HS.out);go_wp2_with (first|(go_at_call 55;refine(HIN1.out _).mono ?_;rintro e w2 ⟨rfl,hE⟩;have HX3:=G (HX1.out.trans hE);have HE2:=G hE;have f1:=(HB1.out.ext hE).cell;have f0:=(HBj.out.ext ((O _ _).trans hE)).cell;have HK3:=G (HK1.out.ext hE);clear hE HIN1)|(go_at_call 73;refine(HF.out _ _).mono ?_;unfold a_;rintro e w4 ⟨rfl,hE⟩;have HY:=G (HX3.out.trans hE);clear hE HF));exact⟨rfl,by rw[HFn.out];rfl,HY.out⟩
    ·have hlt': ¬(j:Int)<N:=by omega
     have HFn:=G (show Rv= .ok () by
      have:=HQ.out;rw[aF (by have:=HN.out;omega),na]at this
      exact this.symm)
     go_wp2_with fail;exact bodyPost_end (results_none rfl _ _ _) rfl ⟨by rw[HFn.out];rfl,HX.out⟩
  ·have HE:=G (show Rv= .error (nm,16) by rw[HRv.out,if_neg hkN]);have hkN':((ls.length:Int) !=(N:Int))=true:=by simp;omega
   have hkN2:((ls.length:Int)==(N:Int))=false:=by simp;omega
   clear HI HIN HRv;go_enter func185,ntmps185;go_wp2_with (go_at_call 22;refine HBL.out.mono ?_;rintro e w1 ⟨rfl,hE⟩;have HX1:=G (HE0.out.trans hE);have HB1:=G (HB0.out.ext hE);have f0:=HB1.out.cell;have HK1:=G (HK0.out.ext hE);clear hE HBL HB0 HK0 HE0);refine az 12 1 [] mixed (by kernel_rfl) trivial ?_;repeat (refine sx ?_ (fun w1 hU=> ?_) ?_;rotate_left;(focus have f0:=(HB1.out.ext hU.un).cell;have fk:=(HK1.out.ext hU.un).blk.cell;have f2:=(HK1.out.ext hU.un).lookF hnm;rw[hfn]at f2;simp only[bx,dL,cF,cQ]at f2;clear hU;go_simp<;>with_reducible rfl);simp only[aY,aX,aW,aV,aU])
   intro w7 hw7 _;simp only[ac,aM];have HX2:=G (HX1.out.trans hw7.un);have HK2:=G (HK1.out.ext hw7.un);have HB2:=G (HB1.out.ext hw7.un);clear f0;have f0:=HB2.out.cell;clear hw7 HX1 HK1 HB1;go_wp2_with (go_at_call 73;refine(HF.out _ _).mono ?_;unfold a_;rintro e w2 ⟨rfl,hE⟩;have HY:=G (HX2.out.trans hE);clear hE HF);exact⟨rfl,by rw[HE.out];rfl,HY.out⟩
end
section
open Go.RowKit
theorem si (k:Int) (op nm tx:List UInt8) (v:Int) (xs:List Ex) (hnm:nm.length<=1073741824) (hLs:AZ xs) (hC:k=5->EA op nm tx v xs):CO (.mk k op nm tx v xs):=by
 intro X gl lv lo P w A n c hK hR;obtain⟨Rv,hRv⟩: ∃R,lw gl lo (.mk k op nm tx v xs)=R:=⟨_,rfl⟩
 have HD:=G (hRv.symm.trans (lw.eq_1 gl lo k op nm tx v xs));simp only[Ex.k,Ex.op,Ex.nm,Ex.tx,Ex.v,Ex.args]at*;rw[hRv];clear hRv;by_cases h3:k=3
 ·subst h3;have hE:=HD.out;rw[if_pos rfl]at hE;have HE0:=G (O w (.cells #[.int .i64 3, .string (ai op), .string (ai nm), .string (ai tx), .int .i64 v, .slice A n c] 70));have hB0:=an w 70 #[.int .i64 3, .string (ai op), .string (ai nm), .string (ai tx), .int .i64 v, .slice A n c];have HB0:=G hB0;have HK0:=G (hK.ext HE0.out);have HR0:=G (hR.keep (.of_ext HE0.out) (Q:=P) (fun b hb _=>hb));clear hK hR hB0
  cases hr:ot gl lo nm with
  |ok u=>
   have HE:=G (hE.trans hr);go_enter func156,ntmps156;go_wp2_with (go_at_call 119;refine(eI X gl lv lo _ HK0.out nm hnm).mono ?_;rw[hr];unfold bW;rintro e w1 ⟨rfl,hE⟩;have HX:=G (HE0.out.trans hE);clear hE);exact bodyPost_end (results_none rfl _ _ _) rfl ⟨by rw[HE.out];rfl,HX.out⟩
  |error q=>
   obtain⟨qn,m⟩:=q;have HE:=G (hE.trans hr);go_enter func156,ntmps156;go_wp2_with (go_at_call 119;refine(eI X gl lv lo _ HK0.out nm hnm).mono ?_;rw[hr];unfold bW a_;rintro e w1 ⟨rfl,hE⟩;have HX:=G (HE0.out.trans hE);clear hE);exact⟨rfl,by rw[HE.out];rfl,HX.out⟩
 by_cases h4:k=4
 ·subst h4;have hE:=HD.out;rw[if_neg (by decide),if_pos rfl]at hE;have HE0:=G (O w (.cells #[.int .i64 4, .string (ai op), .string (ai nm), .string (ai tx), .int .i64 v, .slice A n c] 70));have hB0:=an w 70 #[.int .i64 4, .string (ai op), .string (ai nm), .string (ai tx), .int .i64 v, .slice A n c];have HB0:=G hB0;have HK0:=G (hK.ext HE0.out);have HR0:=G (hR.keep (.of_ext HE0.out) (Q:=P) (fun b hb _=>hb));clear hK hR hB0
  cases hr:kq gl lo nm with
  |ok u=>
   rw[hr,dV]at hE
   cases hs:l7 gl lo xs with
   |ok u=>
    have HE:=G (hE.trans hs);go_enter func156,ntmps156;go_wp2_with (first|(go_at_call 120;refine(d4 X gl lv lo _ HK0.out nm hnm).mono ?_;rw[hr];unfold bW;rintro e w1 ⟨rfl,hE⟩;have HX:=G (HE0.out.trans hE);have HE1:=G hE;have f0:=(HB0.out.ext hE).cell;clear hE)|(go_at_call 121;refine(hLs X gl lv lo P _ A n c (HK0.out.ext HE1.out) (HR0.out.keep (.of_ext HE1.out) (fun b hb _=>hb))).mono ?_;rw[hs];unfold bW;rintro e w2 ⟨rfl,hE⟩;have HY:=G (HX.out.trans hE);clear hE));exact bodyPost_end (results_none rfl _ _ _) rfl ⟨by rw[HE.out];rfl,HY.out⟩
   |error q=>
    obtain⟨qn,m⟩:=q;have HE:=G (hE.trans hs);go_enter func156,ntmps156;go_wp2_with (first|(go_at_call 120;refine(d4 X gl lv lo _ HK0.out nm hnm).mono ?_;rw[hr];unfold bW;rintro e w1 ⟨rfl,hE⟩;have HX:=G (HE0.out.trans hE);have HE1:=G hE;have f0:=(HB0.out.ext hE).cell;clear hE)|(go_at_call 121;refine(hLs X gl lv lo P _ A n c (HK0.out.ext HE1.out) (HR0.out.keep (.of_ext HE1.out) (fun b hb _=>hb))).mono ?_;rw[hs];unfold bW a_;rintro e w2 ⟨rfl,hE⟩;have HY:=G (HX.out.trans hE);clear hE));exact⟨rfl,by rw[HE.out];rfl,HY.out⟩
  |error q=>
   obtain⟨qn,m⟩:=q;rw[hr,fB]at hE;have HE:=G hE;go_enter func156,ntmps156;go_wp2_with (go_at_call 120;refine(d4 X gl lv lo _ HK0.out nm hnm).mono ?_;rw[hr];unfold bW a_;rintro e w1 ⟨rfl,hE⟩;have HX:=G (HE0.out.trans hE);clear hE);exact⟨rfl,by rw[HE.out];rfl,HX.out⟩
 by_cases h2:k=2
 ·subst h2;have hE:=HD.out;rw[if_neg (by decide),if_neg (by decide),if_pos rfl]at hE;have HE:=G hE;have HE0:=G (O w (.cells #[.int .i64 2, .string (ai op), .string (ai nm), .string (ai tx), .int .i64 v, .slice A n c] 70));have hB0:=an w 70 #[.int .i64 2, .string (ai op), .string (ai nm), .string (ai tx), .int .i64 v, .slice A n c];have HB0:=G hB0;have HK0:=G (hK.ext HE0.out);have HR0:=G (hR.keep (.of_ext HE0.out) (Q:=P) (fun b hb _=>hb));clear hK hR hB0;have HF:=G (fun W=>show Calls prog 73 #[.string ⟨#[]⟩, .int .i64 16] W fun e w'=>e=a_ [] 16/\aq W w' from dN [] 16 W);go_enter func156,ntmps156;go_wp2_with (go_at_call 73;refine(HF.out _).mono ?_;unfold a_;rintro e w1 ⟨rfl,hE⟩;have HX:=G (HE0.out.trans hE);clear hE);exact⟨rfl,by rw[HE.out];rfl,HX.out⟩
 by_cases h5:k=5
 ·subst h5;have HC:=G (hC rfl);have HD:=G (show lw gl lo (.mk 5 op nm tx v xs)=Rv by rw[HD.out,lw]);have HE0:=G (O w (.cells #[.int .i64 5, .string (ai op), .string (ai nm), .string (ai tx), .int .i64 v, .slice A n c] 70));have hB0:=an w 70 #[.int .i64 5, .string (ai op), .string (ai nm), .string (ai tx), .int .i64 v, .slice A n c];have HB0:=G hB0;have HK0:=G (hK.ext HE0.out);have HR0:=G (hR.keep (.of_ext HE0.out) (Q:=P) (fun b hb _=>hb));clear hK hR hB0
  cases hr:lw gl lo (.mk 5 op nm tx v xs)with
  |ok u=>
   have HE:=G (HD.out.symm.trans hr);go_enter func156,ntmps156;go_wp2_with (go_at_call 185;refine(HC.out X gl lv lo P _ A n c HK0.out HR0.out).mono ?_;rw[hr];unfold bW;rintro e w1 ⟨rfl,hE⟩;have HX:=G (HE0.out.trans hE);clear hE);exact bodyPost_end (results_none rfl _ _ _) rfl ⟨by rw[HE.out];rfl,HX.out⟩
  |error q=>
   obtain⟨qn,m⟩:=q;have HE:=G (HD.out.symm.trans hr);go_enter func156,ntmps156;go_wp2_with (go_at_call 185;refine(HC.out X gl lv lo P _ A n c HK0.out HR0.out).mono ?_;rw[hr];unfold bW a_;rintro e w1 ⟨rfl,hE⟩;have HX:=G (HE0.out.trans hE);clear hE);exact⟨rfl,by rw[HE.out];rfl,HX.out⟩
 by_cases h6:k=6
 ·subst h6;have hE:=HD.out;rw[if_neg (by decide),if_neg (by decide),if_neg (by decide),if_neg (by decide),if_pos (by decide)]at hE;have HE0:=G (O w (.cells #[.int .i64 6, .string (ai op), .string (ai nm), .string (ai tx), .int .i64 v, .slice A n c] 70));have hB0:=an w 70 #[.int .i64 6, .string (ai op), .string (ai nm), .string (ai tx), .int .i64 v, .slice A n c];have HB0:=G hB0;have HK0:=G (hK.ext HE0.out);have HR0:=G (hR.keep (.of_ext HE0.out) (Q:=P) (fun b hb _=>hb));clear hK hR hB0
  cases hr:l7 gl lo xs with
  |ok u=>
   have HE:=G (hE.trans hr);go_enter func156,ntmps156;go_wp2_with (go_at_call 121;refine(hLs X gl lv lo P _ A n c HK0.out HR0.out).mono ?_;rw[hr];unfold bW;rintro e w1 ⟨rfl,hE⟩;have HX:=G (HE0.out.trans hE);clear hE);exact bodyPost_end (results_none rfl _ _ _) rfl ⟨by rw[HE.out];rfl,HX.out⟩
  |error q=>
   obtain⟨qn,m⟩:=q;have HE:=G (hE.trans hr);go_enter func156,ntmps156;go_wp2_with (go_at_call 121;refine(hLs X gl lv lo P _ A n c HK0.out HR0.out).mono ?_;rw[hr];unfold bW a_;rintro e w1 ⟨rfl,hE⟩;have HX:=G (HE0.out.trans hE);clear hE);exact⟨rfl,by rw[HE.out];rfl,HX.out⟩
 by_cases h7:k=7
 ·subst h7;have hE:=HD.out;rw[if_neg (by decide),if_neg (by decide),if_neg (by decide),if_neg (by decide),if_pos (by decide)]at hE;have HE0:=G (O w (.cells #[.int .i64 7, .string (ai op), .string (ai nm), .string (ai tx), .int .i64 v, .slice A n c] 70));have hB0:=an w 70 #[.int .i64 7, .string (ai op), .string (ai nm), .string (ai tx), .int .i64 v, .slice A n c];have HB0:=G hB0;have HK0:=G (hK.ext HE0.out);have HR0:=G (hR.keep (.of_ext HE0.out) (Q:=P) (fun b hb _=>hb));clear hK hR hB0
  cases hr:l7 gl lo xs with
  |ok u=>
   have HE:=G (hE.trans hr);go_enter func156,ntmps156;go_wp2_with (go_at_call 121;refine(hLs X gl lv lo P _ A n c HK0.out HR0.out).mono ?_;rw[hr];unfold bW;rintro e w1 ⟨rfl,hE⟩;have HX:=G (HE0.out.trans hE);clear hE);exact bodyPost_end (results_none rfl _ _ _) rfl ⟨by rw[HE.out];rfl,HX.out⟩
  |error q=>
   obtain⟨qn,m⟩:=q;have HE:=G (hE.trans hr);go_enter func156,ntmps156;go_wp2_with (go_at_call 121;refine(hLs X gl lv lo P _ A n c HK0.out HR0.out).mono ?_;rw[hr];unfold bW a_;rintro e w1 ⟨rfl,hE⟩;have HX:=G (HE0.out.trans hE);clear hE);exact⟨rfl,by rw[HE.out];rfl,HX.out⟩
 have hE:=HD.out;rw[if_neg h3,if_neg h4,if_neg h2,if_neg h5,if_neg (by omega)]at hE;have HE:=G hE;have HX:=G (O w (.cells #[.int .i64 k, .string (ai op), .string (ai nm), .string (ai tx), .int .i64 v, .slice A n c] 70));have q3:=beq_eq_false_iff_ne.2 h3;have q4:=beq_eq_false_iff_ne.2 h4;have q2:=beq_eq_false_iff_ne.2 h2;have q5:=beq_eq_false_iff_ne.2 h5;have q6:=beq_eq_false_iff_ne.2 h6;have q7:=beq_eq_false_iff_ne.2 h7;clear hK hR;go_enter func156,ntmps156;go_wp2_with fail;exact bodyPost_end (results_none rfl _ _ _) rfl ⟨by rw[HE.out];rfl,HX.out⟩
theorem oX: ∀(m:Nat) (x:Ex),x.wt<=m->x.wt<=1073741824->CO x
 |0,x,h,_=>absurd h (by have:=x.wt_eq;omega)
 |m+1, .mk k op nm tx v xs,h,hw=>by
  rw[Ex.wt]at h hw;have hIH: ∀y∈xs,CO y:=fun y hy=>oX m y (by have:=dG hy;omega) (by have:=dG hy;omega);have hl:=dB xs;have hY2: ∀y∈xs,y.nm.length<=1073741824:=fun y hy=>by have:=dG hy;have:=y.wt_eq;omega
  refine si k op nm tx v xs (by omega) (py xs (by omega) hIH) fun hk=> ?_
  cases hb:ee nm with
  |none=>exact sk op nm tx v xs (by omega) (by omega) hb hIH
  |some b=>
   obtain⟨bc,ls⟩:=b;have hls:=qt nm;rw[hb]at hls;exact sj op nm tx v xs (by omega) (by omega) bc ls hb hls hIH hY2
theorem sh (xs:List Ex) (h:fL xs<=1073741824):AZ xs:=py xs (by have:=dB xs;omega) fun y hy=>oX _ y (ah _) (by have:=dG hy;omega)
end
section
open Go.RowKit
def oF (X:CB) (gl:Gl) (bl:Nat) (r:SR) (w:World) (e:Ending) (w':World):Prop:=w.grownBy w' (some bl)/\match r with
 | .ok lo=>e= .returned (.tuple #[])/\CK X gl (.map (some bl)) lo w'
 | .error (nm,n)=>e=a_ nm n
section
variable {X:CB} {gl:Gl} {lo lo':Ls} {w W W':World} {bl pb:Nat} {P:Nat->Prop}
theorem CK.ml (h:CK X gl (.map (some bl)) lo w):bM w bl (B9 lo)/\bl≠X.g/\bl≠X.bi/\bl≠X.ba/\bl≠X.bf:=by
 rcases h.l with⟨h,_⟩|⟨b,h,hm⟩
 ·cases h
 ·injection h with h;injection h with h;subst h;exact hm
theorem CK.lt_bl (h:CK X gl (.map (some bl)) lo w):bl<w.heap.size:=h.ml.1.lt
theorem CK.t_ne (h:CK X gl (.map (some bl)) lo w):bl≠0:=by
 rintro rfl;obtain⟨t,fr,ht⟩:=h.t;obtain⟨es,c,hm,_⟩:=h.ml.1;rw[ht]at hm;cases hm
theorem CK.add {nm:List UInt8} (h:CK X gl (.map (some bl)) lo w) (hm:bM W bl ((B9 lo).upd nm (.bool true))) (hg:w.grownBy W (some bl)):CK X gl (.map (some bl)) (lo.add nm) W:=by
 obtain⟨h0,h1,h2,h3,h4⟩:=h.ml;have ne: ∀k,bl≠k->some k≠some bl:=fun k hk e=>hk (by injection e with e;exact e.symm);refine⟨h.blk.grown hg (ne _ h1),h.i.grown hg (ne _ h2),h.a.grown hg (ne _ h3),h.f.grown hg (ne _ h4), .inr ⟨bl,rfl,hm.congr fun s=> ?_,h1,h2,h3,h4⟩,?_⟩
 ·unfold KF.upd B9 Ls.add;by_cases e:s=nm
  ·subst e;simp
  ·simp[e]
 ·obtain⟨t,fr,ht⟩:=h.t;exact⟨t,fr,(hg.block _ (Array.getElem?_eq_some_iff.1 ht).1 (ne _ h.t_ne)).trans ht⟩
structure SQ (w:World) (pb bl:Nat) (P:Nat->Prop) (X:CB) (gl:Gl) (lo:Ls) (cs:Array Value) (ex:List Ex) (bd el:List St) (A1 A2 A3:Option Addr) (c1 c2 c3:Nat) (W:World):Prop where
 gr:w.grownBy W (some bl)
 ck:CK X gl (.map (some bl)) lo W
 bk:aL W pb 72 cs
 re:cE W P (.slice A1 ex.length c1) ex
 rb:cR W P (.slice A2 bd.length c2) bd
 rl:cR W P (.slice A3 el.length c3) el
 hP: ∀b,P b->b≠bl
 ne:bl≠pb
variable {cs:Array Value} {ex:List Ex} {bd el:List St} {A1 A2 A3:Option Addr} {c1 c2 c3:Nat}
theorem SQ.ext (h:SQ w pb bl P X gl lo cs ex bd el A1 A2 A3 c1 c2 c3 W) (he:aq W W'):SQ w pb bl P X gl lo cs ex bd el A1 A2 A3 c1 c2 c3 W':=
 ⟨h.gr.trans (he.grownBy _),h.ck.ext he,h.bk.ext he,h.re.keep (.of_ext he) (fun b hb _=>hb),h.rb.keep (.of_ext he) (fun b hb _=>hb),h.rl.keep (.of_ext he) (fun b hb _=>hb),h.hP,h.ne⟩
theorem SQ.grown (h:SQ w pb bl P X gl lo cs ex bd el A1 A2 A3 c1 c2 c3 W) (hg:W.grownBy W' (some bl)) (hc:CK X gl (.map (some bl)) lo' W'):SQ w pb bl P X gl lo' cs ex bd el A1 A2 A3 c1 c2 c3 W':=by
 have hk:cC P W W':= .of_grown hg (fun b hb e=>h.hP b hb (by injection e));exact⟨h.gr.trans hg,hc,h.bk.grown hg (fun e=>h.ne (by injection e with e;exact e.symm)),h.re.keep hk (fun b hb _=>hb),h.rb.keep hk (fun b hb _=>hb),h.rl.keep hk (fun b hb _=>hb),h.hP,h.ne⟩
theorem SQ.ml (h:SQ w pb bl P X gl lo cs ex bd el A1 A2 A3 c1 c2 c3 W):bM W bl (B9 lo):=h.ck.ml.1
end
theorem vV {gl:Gl} {lo:Ls} {l:List St} {j:Nat} (h:j<l.length):fe gl lo (l.drop j)=CR.then (qr gl lo l[j]) fun lo1=>fe gl lo1 (l.drop (j+1)):=by
 rw[ay h,fe]
def AY (xs:List St):Prop:= ∀(X:CB) (gl:Gl) (bl:Nat) (lo:Ls) (P:Nat->Prop) (w:World) (A:Option Addr) (n c:Nat),CK X gl (.map (some bl)) lo w->cR w P (.slice A n c) xs->(∀b,P b->b≠bl)->
 Calls prog 74 #[X.p, .slice A n c] w (oF X gl bl (fe gl lo xs) w)
theorem nL (xs:List St) (hl:xs.length<=1073741824) (hnmx: ∀s∈xs,s.nm.length<=1073741824) (hEx: ∀s∈xs,AZ s.ex) (hIH: ∀s∈xs,AY s.body/\AY s.els):AY xs:=by
 intro X gl bl lo P w A n c hK hR hP;obtain⟨A',c',hv,hf⟩:=hR.form;injection hv with hv1 hv2 hv3;subst hv1 hv2 hv3;have HR:=G hR;have HI:=G hIH;have HNM:=G hnmx;have HEXS:=G hEx;have HK0:=G hK;obtain⟨N,hN⟩: ∃N,xs.length=N:=⟨_,rfl⟩
 have HN:=G hN;rw[hN]at HR hl;obtain⟨Rv,hRv⟩: ∃R,fe gl lo xs=R:=⟨_,rfl⟩
 have HQ0:=G (show fe gl lo (xs.drop 0)=Rv from hRv);have HX0:=G (World.grownBy.refl w (some bl));clear hR hf hIH hK hnmx hEx;rw[hN,hRv];clear hN hRv;simp only[CB.p]at*;go_enter func74,ntmps74;go_wp2_with fail
 go_loopw [8] (fun vi wr=> ∃(j:Nat) (loj:Ls),vi= .int .i64 (j:Int)/\j<=N/\Hid (fe gl loj (xs.drop j)=Rv)/\Hid (w.grownBy wr (some bl))/\Hid (CK X gl (.map (some bl)) loj wr)) (fun vi _=>N-(intOf vi).toNat)
 case atStart=>exact⟨0,lo,rfl,aG _,HQ0,HX0,HK0⟩
 case round=>
  obtain⟨j,loj,rfl,hj,HQR,HX,HKj⟩:=hrel;by_cases hlt:j<N
  ·have hlt':(j:Int)<N:=by omega
   have hjl:j<xs.length:=by have:=HN.out;omega
   obtain⟨b,o,e,bv,lv,rfl,hb,hPb,h0,h1,h2,h3,h4,hRe,hRb,hRl⟩:=HR.out.at_ j hjl;have hS:=vV (gl:=gl) (lo:=loj) hjl;have hnm:=HNM.out _ (au hjl);have hEX:=HEXS.out _ (au hjl);have hII:=HI.out _ (au hjl);obtain⟨y,hy⟩: ∃y,xs[j]=y:=⟨_,rfl⟩
   rw[hy]at h0 h1 hRe hRb hRl hS hnm hEX hII;clear hy;obtain⟨k,nm,ex,bd,el⟩:=y;simp only[St.k,St.nm,St.ex,St.body,St.els]at h0 h1 hRe hRb hRl hnm hEX hII;have hKP:cC P w wr:= .of_grown HX.out (fun b hb e=>hP b hb (by injection e));have e0:=(hKP.cell _ hPb hb).trans h0;have e1:=(hKP.cell _ hPb hb).trans h1;have e2:=(hKP.cell _ hPb hb).trans h2;have e3:=(hKP.cell _ hPb hb).trans h3;have e4:=(hKP.cell _ hPb hb).trans h4;obtain⟨A1,c1,rfl,_⟩:=hRe.form;obtain⟨A2,c2,rfl,_⟩:=hRb.form;obtain⟨A3,c3,rfl,_⟩:=hRl.form;have hAl:=O wr (.cells #[.int .i64 k, .string (ai nm), .slice A1 ex.length c1, .slice A2 bd.length c2, .slice A3 el.length c3] 72)
   have HQ:=G (show SQ w wr.heap.size bl P X gl loj #[.int .i64 k, .string (ai nm), .slice A1 ex.length c1, .slice A2 bd.length c2, .slice A3 el.length c3] ex bd el A1 A2 A3 c1 c2 c3 (wr.alloc (.cells #[.int .i64 k, .string (ai nm), .slice A1 ex.length c1, .slice A2 bd.length c2, .slice A3 el.length c3] 72))from
    ⟨HX.out.trans (hAl.grownBy _),HKj.out.ext hAl,an wr _ _,(hRe.keep hKP (Q:=P) (fun b hb _=>hb)).keep (.of_ext hAl) (fun b hb _=>hb),(hRb.keep hKP (Q:=P) (fun b hb _=>hb)).keep (.of_ext hAl) (fun b hb _=>hb),(hRl.keep hKP (Q:=P) (fun b hb _=>hb)).keep (.of_ext hAl) (fun b hb _=>hb),hP,eH HKj.out.lt_bl⟩)
   have HEX:=G hEX;have HB1:=G hII.1;have HL1:=G hII.2;clear h0 h1 h2 h3 h4 hRe hRb hRl hEX hII hAl hKP HR HI HEXS HNM;rw[qr]at hS;by_cases hk2:k=2
   ·subst hk2;rw[if_pos rfl]at hS
    cases hr1:ot gl loj nm with
    |error q=>
     obtain⟨qn,m⟩:=q;rw[hr1,fB]at hS;have HFn:=G (show Rv= .error (qn,m)from HQR.out.symm.trans hS);go_wp2_with (go_at_call 119;refine(eI X gl _ loj _ HQ.out.ck nm hnm).mono ?_;rw[hr1];unfold bW a_;rintro e wx ⟨rfl,hE⟩;have HZ:=G (HQ.out.gr.trans (hE.grownBy _));clear hE);exact⟨rfl,by rw[HFn.out];exact⟨HZ.out,rfl⟩⟩
    |ok u=>
     rw[hr1,dV]at hS
     cases hr2:l7 gl loj ex with
     |error q=>
      obtain⟨qn,m⟩:=q;rw[hr2,fB]at hS;have HFn:=G (show Rv= .error (qn,m)from HQR.out.symm.trans hS);go_wp2_with (first|(go_at_call 119;refine(eI X gl _ loj _ HQ.out.ck nm hnm).mono ?_;rw[hr1];unfold bW;rintro e wx ⟨rfl,hE⟩;replace HQ:=G (HQ.out.ext hE);clear hE;(try clear f0);have f0:=HQ.out.bk.cell;)|(go_at_call 121;refine(HEX.out X gl _ loj P _ A1 ex.length c1 HQ.out.ck HQ.out.re).mono ?_;rw[hr2];unfold bW a_;rintro e wx ⟨rfl,hE⟩;have HZ:=G (HQ.out.gr.trans (hE.grownBy _));clear hE));exact⟨rfl,by rw[HFn.out];exact⟨HZ.out,rfl⟩⟩
     |ok u=>
      rw[hr2,dV]at hS;rw[if_neg (by decide),dV]at hS;obtain⟨lo1,hlo1⟩: ∃l,loj=l:=⟨_,rfl⟩
      subst hlo1
      cases hr4:fe gl loj bd with
      |error q=>
       obtain⟨qn,m⟩:=q;rw[hr4,fB]at hS;have HFn:=G (show Rv= .error (qn,m)from HQR.out.symm.trans hS);go_wp2_with (first|(go_at_call 119;refine(eI X gl _ loj _ HQ.out.ck nm hnm).mono ?_;rw[hr1];unfold bW;rintro e wx ⟨rfl,hE⟩;replace HQ:=G (HQ.out.ext hE);clear hE;(try clear f0);have f0:=HQ.out.bk.cell;)|(go_at_call 121;refine(HEX.out X gl _ loj P _ A1 ex.length c1 HQ.out.ck HQ.out.re).mono ?_;rw[hr2];unfold bW;rintro e wx ⟨rfl,hE⟩;replace HQ:=G (HQ.out.ext hE);clear hE;(try clear f0);have f0:=HQ.out.bk.cell;)|(go_at_call 74;have hc:=HB1.out X gl bl loj P _ A2 bd.length c2 HQ.out.ck HQ.out.rb hP;rw[hr4]at hc;clear HB1;refine hc.mono ?_;unfold oF a_;rintro e wx ⟨hg,rfl⟩;have HZ:=G (HQ.out.gr.trans hg);clear hg hc));exact⟨rfl,by rw[HFn.out];exact⟨HZ.out,rfl⟩⟩
      |ok lo2=>
       rw[hr4,dV]at hS
       cases hr5:fe gl lo2 el with
       |error q=>
        obtain⟨qn,m⟩:=q;rw[hr5,fB]at hS;have HFn:=G (show Rv= .error (qn,m)from HQR.out.symm.trans hS);go_wp2_with (first|(go_at_call 119;refine(eI X gl _ loj _ HQ.out.ck nm hnm).mono ?_;rw[hr1];unfold bW;rintro e wx ⟨rfl,hE⟩;replace HQ:=G (HQ.out.ext hE);clear hE;(try clear f0);have f0:=HQ.out.bk.cell;)|(go_at_call 121;refine(HEX.out X gl _ loj P _ A1 ex.length c1 HQ.out.ck HQ.out.re).mono ?_;rw[hr2];unfold bW;rintro e wx ⟨rfl,hE⟩;replace HQ:=G (HQ.out.ext hE);clear hE;(try clear f0);have f0:=HQ.out.bk.cell;)|(go_at_call 74;have hc:=HB1.out X gl bl loj P _ A2 bd.length c2 HQ.out.ck HQ.out.rb hP;rw[hr4]at hc;clear HB1;refine hc.mono ?_;unfold oF;rintro e wx ⟨hg,rfl,hck⟩;replace HQ:=G (HQ.out.grown hg hck);clear hg hck hc;(try clear f0);have f0:=HQ.out.bk.cell;)|(go_at_call 74;have hc:=HL1.out X gl bl lo2 P _ A3 el.length c3 HQ.out.ck HQ.out.rl hP;rw[hr5]at hc;clear HL1;refine hc.mono ?_;unfold oF a_;rintro e wx ⟨hg,rfl⟩;have HZ:=G (HQ.out.gr.trans hg);clear hg hc));exact⟨rfl,by rw[HFn.out];exact⟨HZ.out,rfl⟩⟩
       |ok lo3=>
        rw[hr5,dV]at hS;go_wp2_with (first|(go_at_call 119;refine(eI X gl _ loj _ HQ.out.ck nm hnm).mono ?_;rw[hr1];unfold bW;rintro e wx ⟨rfl,hE⟩;replace HQ:=G (HQ.out.ext hE);clear hE;(try clear f0);have f0:=HQ.out.bk.cell;)|(go_at_call 121;refine(HEX.out X gl _ loj P _ A1 ex.length c1 HQ.out.ck HQ.out.re).mono ?_;rw[hr2];unfold bW;rintro e wx ⟨rfl,hE⟩;replace HQ:=G (HQ.out.ext hE);clear hE;(try clear f0);have f0:=HQ.out.bk.cell;)|(go_at_call 74;have hc:=HB1.out X gl bl loj P _ A2 bd.length c2 HQ.out.ck HQ.out.rb hP;rw[hr4]at hc;clear HB1;refine hc.mono ?_;unfold oF;rintro e wx ⟨hg,rfl,hck⟩;replace HQ:=G (HQ.out.grown hg hck);clear hg hck hc;(try clear f0);have f0:=HQ.out.bk.cell;)|(go_at_call 74;have hc:=HL1.out X gl bl lo2 P _ A3 el.length c3 HQ.out.ck HQ.out.rl hP;rw[hr5]at hc;clear HL1;refine hc.mono ?_;unfold oF;rintro e wx ⟨hg,rfl,hck⟩;replace HQ:=G (HQ.out.grown hg hck);clear hg hck hc;(try clear f0);have f0:=HQ.out.bk.cell;));go_roundw
        case rel=>exact⟨j+1,lo3,by go_num,by omega,G (hS.symm.trans HQR.out),G HQ.out.gr,G HQ.out.ck⟩
        case measure=>simp[intOf];omega
   by_cases hk3:k=3
   ·subst hk3;rw[if_neg (by decide),if_pos rfl]at hS
    cases hr1:kq gl loj nm with
    |error q=>
     obtain⟨qn,m⟩:=q;rw[hr1,fB]at hS;have HFn:=G (show Rv= .error (qn,m)from HQR.out.symm.trans hS);go_wp2_with (go_at_call 120;refine(d4 X gl _ loj _ HQ.out.ck nm hnm).mono ?_;rw[hr1];unfold bW a_;rintro e wx ⟨rfl,hE⟩;have HZ:=G (HQ.out.gr.trans (hE.grownBy _));clear hE);exact⟨rfl,by rw[HFn.out];exact⟨HZ.out,rfl⟩⟩
    |ok u=>
     rw[hr1,dV]at hS
     cases hr2:l7 gl loj ex with
     |error q=>
      obtain⟨qn,m⟩:=q;rw[hr2,fB]at hS;have HFn:=G (show Rv= .error (qn,m)from HQR.out.symm.trans hS);go_wp2_with (first|(go_at_call 120;refine(d4 X gl _ loj _ HQ.out.ck nm hnm).mono ?_;rw[hr1];unfold bW;rintro e wx ⟨rfl,hE⟩;replace HQ:=G (HQ.out.ext hE);clear hE;(try clear f0);have f0:=HQ.out.bk.cell;)|(go_at_call 121;refine(HEX.out X gl _ loj P _ A1 ex.length c1 HQ.out.ck HQ.out.re).mono ?_;rw[hr2];unfold bW a_;rintro e wx ⟨rfl,hE⟩;have HZ:=G (HQ.out.gr.trans (hE.grownBy _));clear hE));exact⟨rfl,by rw[HFn.out];exact⟨HZ.out,rfl⟩⟩
     |ok u=>
      rw[hr2,dV]at hS;rw[if_neg (by decide),dV]at hS;obtain⟨lo1,hlo1⟩: ∃l,loj=l:=⟨_,rfl⟩
      subst hlo1
      cases hr4:fe gl loj bd with
      |error q=>
       obtain⟨qn,m⟩:=q;rw[hr4,fB]at hS;have HFn:=G (show Rv= .error (qn,m)from HQR.out.symm.trans hS);go_wp2_with (first|(go_at_call 120;refine(d4 X gl _ loj _ HQ.out.ck nm hnm).mono ?_;rw[hr1];unfold bW;rintro e wx ⟨rfl,hE⟩;replace HQ:=G (HQ.out.ext hE);clear hE;(try clear f0);have f0:=HQ.out.bk.cell;)|(go_at_call 121;refine(HEX.out X gl _ loj P _ A1 ex.length c1 HQ.out.ck HQ.out.re).mono ?_;rw[hr2];unfold bW;rintro e wx ⟨rfl,hE⟩;replace HQ:=G (HQ.out.ext hE);clear hE;(try clear f0);have f0:=HQ.out.bk.cell;)|(go_at_call 74;have hc:=HB1.out X gl bl loj P _ A2 bd.length c2 HQ.out.ck HQ.out.rb hP;rw[hr4]at hc;clear HB1;refine hc.mono ?_;unfold oF a_;rintro e wx ⟨hg,rfl⟩;have HZ:=G (HQ.out.gr.trans hg);clear hg hc));exact⟨rfl,by rw[HFn.out];exact⟨HZ.out,rfl⟩⟩
      |ok lo2=>
       rw[hr4,dV]at hS
       cases hr5:fe gl lo2 el with
       |error q=>
        obtain⟨qn,m⟩:=q;rw[hr5,fB]at hS;have HFn:=G (show Rv= .error (qn,m)from HQR.out.symm.trans hS);go_wp2_with (first|(go_at_call 120;refine(d4 X gl _ loj _ HQ.out.ck nm hnm).mono ?_;rw[hr1];unfold bW;rintro e wx ⟨rfl,hE⟩;replace HQ:=G (HQ.out.ext hE);clear hE;(try clear f0);have f0:=HQ.out.bk.cell;)|(go_at_call 121;refine(HEX.out X gl _ loj P _ A1 ex.length c1 HQ.out.ck HQ.out.re).mono ?_;rw[hr2];unfold bW;rintro e wx ⟨rfl,hE⟩;replace HQ:=G (HQ.out.ext hE);clear hE;(try clear f0);have f0:=HQ.out.bk.cell;)|(go_at_call 74;have hc:=HB1.out X gl bl loj P _ A2 bd.length c2 HQ.out.ck HQ.out.rb hP;rw[hr4]at hc;clear HB1;refine hc.mono ?_;unfold oF;rintro e wx ⟨hg,rfl,hck⟩;replace HQ:=G (HQ.out.grown hg hck);clear hg hck hc;(try clear f0);have f0:=HQ.out.bk.cell;)|(go_at_call 74;have hc:=HL1.out X gl bl lo2 P _ A3 el.length c3 HQ.out.ck HQ.out.rl hP;rw[hr5]at hc;clear HL1;refine hc.mono ?_;unfold oF a_;rintro e wx ⟨hg,rfl⟩;have HZ:=G (HQ.out.gr.trans hg);clear hg hc));exact⟨rfl,by rw[HFn.out];exact⟨HZ.out,rfl⟩⟩
       |ok lo3=>
        rw[hr5,dV]at hS;go_wp2_with (first|(go_at_call 120;refine(d4 X gl _ loj _ HQ.out.ck nm hnm).mono ?_;rw[hr1];unfold bW;rintro e wx ⟨rfl,hE⟩;replace HQ:=G (HQ.out.ext hE);clear hE;(try clear f0);have f0:=HQ.out.bk.cell;)|(go_at_call 121;refine(HEX.out X gl _ loj P _ A1 ex.length c1 HQ.out.ck HQ.out.re).mono ?_;rw[hr2];unfold bW;rintro e wx ⟨rfl,hE⟩;replace HQ:=G (HQ.out.ext hE);clear hE;(try clear f0);have f0:=HQ.out.bk.cell;)|(go_at_call 74;have hc:=HB1.out X gl bl loj P _ A2 bd.length c2 HQ.out.ck HQ.out.rb hP;rw[hr4]at hc;clear HB1;refine hc.mono ?_;unfold oF;rintro e wx ⟨hg,rfl,hck⟩;replace HQ:=G (HQ.out.grown hg hck);clear hg hck hc;(try clear f0);have f0:=HQ.out.bk.cell;)|(go_at_call 74;have hc:=HL1.out X gl bl lo2 P _ A3 el.length c3 HQ.out.ck HQ.out.rl hP;rw[hr5]at hc;clear HL1;refine hc.mono ?_;unfold oF;rintro e wx ⟨hg,rfl,hck⟩;replace HQ:=G (HQ.out.grown hg hck);clear hg hck hc;(try clear f0);have f0:=HQ.out.bk.cell;));go_roundw
        case rel=>exact⟨j+1,lo3,by go_num,by omega,G (hS.symm.trans HQR.out),G HQ.out.gr,G HQ.out.ck⟩
        case measure=>simp[intOf];omega
   by_cases hk1:k=1
   ·subst hk1;rw[if_neg (by decide),if_neg (by decide),dV]at hS
    cases hr2:l7 gl loj ex with
    |error q=>
     obtain⟨qn,m⟩:=q;rw[hr2,fB]at hS;have HFn:=G (show Rv= .error (qn,m)from HQR.out.symm.trans hS);go_wp2_with (go_at_call 121;refine(HEX.out X gl _ loj P _ A1 ex.length c1 HQ.out.ck HQ.out.re).mono ?_;rw[hr2];unfold bW a_;rintro e wx ⟨rfl,hE⟩;have HZ:=G (HQ.out.gr.trans (hE.grownBy _));clear hE);exact⟨rfl,by rw[HFn.out];exact⟨HZ.out,rfl⟩⟩
    |ok u=>
     rw[hr2,dV]at hS;rw[if_pos rfl]at hS
     cases hr3:gl.known loj nm with
     |true=>
      rw[hr3,if_pos rfl,fB]at hS;have HFn:=G (show Rv= .error (nm,9)from HQR.out.symm.trans hS);go_wp2_with (first|(go_at_call 121;refine(HEX.out X gl _ loj P _ A1 ex.length c1 HQ.out.ck HQ.out.re).mono ?_;rw[hr2];unfold bW;rintro e wx ⟨rfl,hE⟩;replace HQ:=G (HQ.out.ext hE);clear hE;(try clear f0);have f0:=HQ.out.bk.cell;)|(go_at_call 72;refine(dO X gl _ loj _ HQ.out.ck nm hnm).mono ?_;rw[hr3];rintro e wx ⟨rfl,hE⟩;replace HQ:=G (HQ.out.ext hE);clear hE;(try clear f0);have f0:=HQ.out.bk.cell;)|(go_at_call 73;refine(dN nm 9 _).mono ?_;unfold a_;rintro e wx ⟨rfl,hE⟩;have HZ:=G (HQ.out.gr.trans (hE.grownBy _));clear hE));exact⟨rfl,by rw[HFn.out];exact⟨HZ.out,rfl⟩⟩
     |false=>
      rw[hr3,if_neg (by decide),dV]at hS;obtain⟨lo1,hlo1⟩: ∃l,loj.add nm=l:=⟨_,rfl⟩
      rw[hlo1]at hS
      cases hr4:fe gl lo1 bd with
      |error q=>
       obtain⟨qn,m⟩:=q;rw[hr4,fB]at hS;have HFn:=G (show Rv= .error (qn,m)from HQR.out.symm.trans hS);go_wp2_with (first|(go_at_call 121;refine(HEX.out X gl _ loj P _ A1 ex.length c1 HQ.out.ck HQ.out.re).mono ?_;rw[hr2];unfold bW;rintro e wx ⟨rfl,hE⟩;replace HQ:=G (HQ.out.ext hE);clear hE;(try clear f0);have f0:=HQ.out.bk.cell;)|(go_at_call 72;refine(dO X gl _ loj _ HQ.out.ck nm hnm).mono ?_;rw[hr3];rintro e wx ⟨rfl,hE⟩;replace HQ:=G (HQ.out.ext hE);clear hE;(try clear f0);have f0:=HQ.out.bk.cell;));refine az 6 1 [] mixed (by kernel_rfl) trivial ?_;repeat (refine sx ?_ (fun w1 hU=> ?_) ?_;rotate_left;(focus have f0:=(HQ.out.ext hU.un).bk.cell;have fk:=(HQ.out.ext hU.un).ck.blk.cell;clear hU;go_simp<;>with_reducible rfl);simp only[aY,aX,aW,aV,aU])
       intro w7 hw7 _;simp only[ac,ap];replace HQ:=G (HQ.out.ext hw7.un);clear hw7;(try clear f0);go_wp2_with (at_mapUpdate;refine cB Bg rfl _ _ _ rfl HQ.out.ml rfl (by unfold maxLen;omega) rfl _ rfl ?_;intro w8 hm8 hg8;replace HQ:=G (HQ.out.grown hg8 (HQ.out.ck.add hm8 hg8));clear hm8 hg8;have f0:=HQ.out.bk.cell);rw[hlo1]at HQ;go_wp2_with (go_at_call 74;have hc:=HB1.out X gl bl lo1 P _ A2 bd.length c2 HQ.out.ck HQ.out.rb hP;rw[hr4]at hc;clear HB1;refine hc.mono ?_;unfold oF a_;rintro e wx ⟨hg,rfl⟩;have HZ:=G (HQ.out.gr.trans hg);clear hg hc);exact⟨rfl,by rw[HFn.out];exact⟨HZ.out,rfl⟩⟩
      |ok lo2=>
       rw[hr4,dV]at hS
       cases hr5:fe gl lo2 el with
       |error q=>
        obtain⟨qn,m⟩:=q;rw[hr5,fB]at hS;have HFn:=G (show Rv= .error (qn,m)from HQR.out.symm.trans hS);go_wp2_with (first|(go_at_call 121;refine(HEX.out X gl _ loj P _ A1 ex.length c1 HQ.out.ck HQ.out.re).mono ?_;rw[hr2];unfold bW;rintro e wx ⟨rfl,hE⟩;replace HQ:=G (HQ.out.ext hE);clear hE;(try clear f0);have f0:=HQ.out.bk.cell;)|(go_at_call 72;refine(dO X gl _ loj _ HQ.out.ck nm hnm).mono ?_;rw[hr3];rintro e wx ⟨rfl,hE⟩;replace HQ:=G (HQ.out.ext hE);clear hE;(try clear f0);have f0:=HQ.out.bk.cell;));refine az 6 1 [] mixed (by kernel_rfl) trivial ?_;repeat (refine sx ?_ (fun w1 hU=> ?_) ?_;rotate_left;(focus have f0:=(HQ.out.ext hU.un).bk.cell;have fk:=(HQ.out.ext hU.un).ck.blk.cell;clear hU;go_simp<;>with_reducible rfl);simp only[aY,aX,aW,aV,aU])
        intro w7 hw7 _;simp only[ac,ap];replace HQ:=G (HQ.out.ext hw7.un);clear hw7;(try clear f0);go_wp2_with (at_mapUpdate;refine cB Bg rfl _ _ _ rfl HQ.out.ml rfl (by unfold maxLen;omega) rfl _ rfl ?_;intro w8 hm8 hg8;replace HQ:=G (HQ.out.grown hg8 (HQ.out.ck.add hm8 hg8));clear hm8 hg8;have f0:=HQ.out.bk.cell);rw[hlo1]at HQ;go_wp2_with (first|(go_at_call 74;have hc:=HB1.out X gl bl lo1 P _ A2 bd.length c2 HQ.out.ck HQ.out.rb hP;rw[hr4]at hc;clear HB1;refine hc.mono ?_;unfold oF;rintro e wx ⟨hg,rfl,hck⟩;replace HQ:=G (HQ.out.grown hg hck);clear hg hck hc;(try clear f0);have f0:=HQ.out.bk.cell;)|(go_at_call 74;have hc:=HL1.out X gl bl lo2 P _ A3 el.length c3 HQ.out.ck HQ.out.rl hP;rw[hr5]at hc;clear HL1;refine hc.mono ?_;unfold oF a_;rintro e wx ⟨hg,rfl⟩;have HZ:=G (HQ.out.gr.trans hg);clear hg hc));exact⟨rfl,by rw[HFn.out];exact⟨HZ.out,rfl⟩⟩
       |ok lo3=>
        rw[hr5,dV]at hS;go_wp2_with (first|(go_at_call 121;refine(HEX.out X gl _ loj P _ A1 ex.length c1 HQ.out.ck HQ.out.re).mono ?_;rw[hr2];unfold bW;rintro e wx ⟨rfl,hE⟩;replace HQ:=G (HQ.out.ext hE);clear hE;(try clear f0);have f0:=HQ.out.bk.cell;)|(go_at_call 72;refine(dO X gl _ loj _ HQ.out.ck nm hnm).mono ?_;rw[hr3];rintro e wx ⟨rfl,hE⟩;replace HQ:=G (HQ.out.ext hE);clear hE;(try clear f0);have f0:=HQ.out.bk.cell;));refine az 6 1 [] mixed (by kernel_rfl) trivial ?_;repeat (refine sx ?_ (fun w1 hU=> ?_) ?_;rotate_left;(focus have f0:=(HQ.out.ext hU.un).bk.cell;have fk:=(HQ.out.ext hU.un).ck.blk.cell;clear hU;go_simp<;>with_reducible rfl);simp only[aY,aX,aW,aV,aU])
        intro w7 hw7 _;simp only[ac,ap];replace HQ:=G (HQ.out.ext hw7.un);clear hw7;(try clear f0);go_wp2_with (at_mapUpdate;refine cB Bg rfl _ _ _ rfl HQ.out.ml rfl (by unfold maxLen;omega) rfl _ rfl ?_;intro w8 hm8 hg8;replace HQ:=G (HQ.out.grown hg8 (HQ.out.ck.add hm8 hg8));clear hm8 hg8;have f0:=HQ.out.bk.cell);rw[hlo1]at HQ;go_wp2_with (first|(go_at_call 74;have hc:=HB1.out X gl bl lo1 P _ A2 bd.length c2 HQ.out.ck HQ.out.rb hP;rw[hr4]at hc;clear HB1;refine hc.mono ?_;unfold oF;rintro e wx ⟨hg,rfl,hck⟩;replace HQ:=G (HQ.out.grown hg hck);clear hg hck hc;(try clear f0);have f0:=HQ.out.bk.cell;)|(go_at_call 74;have hc:=HL1.out X gl bl lo2 P _ A3 el.length c3 HQ.out.ck HQ.out.rl hP;rw[hr5]at hc;clear HL1;refine hc.mono ?_;unfold oF;rintro e wx ⟨hg,rfl,hck⟩;replace HQ:=G (HQ.out.grown hg hck);clear hg hck hc;(try clear f0);have f0:=HQ.out.bk.cell;));go_roundw
        case rel=>exact⟨j+1,lo3,by go_num,by omega,G (hS.symm.trans HQR.out),G HQ.out.gr,G HQ.out.ck⟩
        case measure=>simp[intOf];omega
   have n2:=beq_eq_false_iff_ne.2 hk2;have n3:=beq_eq_false_iff_ne.2 hk3;have n1:=beq_eq_false_iff_ne.2 hk1;rw[if_neg hk2,if_neg hk3,dV]at hS
   cases hr2:l7 gl loj ex with
   |error q=>
    obtain⟨qn,m⟩:=q;rw[hr2,fB]at hS;have HFn:=G (show Rv= .error (qn,m)from HQR.out.symm.trans hS);go_wp2_with (go_at_call 121;refine(HEX.out X gl _ loj P _ A1 ex.length c1 HQ.out.ck HQ.out.re).mono ?_;rw[hr2];unfold bW a_;rintro e wx ⟨rfl,hE⟩;have HZ:=G (HQ.out.gr.trans (hE.grownBy _));clear hE);exact⟨rfl,by rw[HFn.out];exact⟨HZ.out,rfl⟩⟩
   |ok u=>
    rw[hr2,dV]at hS;rw[if_neg (hk1),dV]at hS;obtain⟨lo1,hlo1⟩: ∃l,loj=l:=⟨_,rfl⟩
    subst hlo1
    cases hr4:fe gl loj bd with
    |error q=>
     obtain⟨qn,m⟩:=q;rw[hr4,fB]at hS;have HFn:=G (show Rv= .error (qn,m)from HQR.out.symm.trans hS);go_wp2_with (first|(go_at_call 121;refine(HEX.out X gl _ loj P _ A1 ex.length c1 HQ.out.ck HQ.out.re).mono ?_;rw[hr2];unfold bW;rintro e wx ⟨rfl,hE⟩;replace HQ:=G (HQ.out.ext hE);clear hE;(try clear f0);have f0:=HQ.out.bk.cell;)|(go_at_call 74;have hc:=HB1.out X gl bl loj P _ A2 bd.length c2 HQ.out.ck HQ.out.rb hP;rw[hr4]at hc;clear HB1;refine hc.mono ?_;unfold oF a_;rintro e wx ⟨hg,rfl⟩;have HZ:=G (HQ.out.gr.trans hg);clear hg hc));exact⟨rfl,by rw[HFn.out];exact⟨HZ.out,rfl⟩⟩
    |ok lo2=>
     rw[hr4,dV]at hS
     cases hr5:fe gl lo2 el with
     |error q=>
      obtain⟨qn,m⟩:=q;rw[hr5,fB]at hS;have HFn:=G (show Rv= .error (qn,m)from HQR.out.symm.trans hS);go_wp2_with (first|(go_at_call 121;refine(HEX.out X gl _ loj P _ A1 ex.length c1 HQ.out.ck HQ.out.re).mono ?_;rw[hr2];unfold bW;rintro e wx ⟨rfl,hE⟩;replace HQ:=G (HQ.out.ext hE);clear hE;(try clear f0);have f0:=HQ.out.bk.cell;)|(go_at_call 74;have hc:=HB1.out X gl bl loj P _ A2 bd.length c2 HQ.out.ck HQ.out.rb hP;rw[hr4]at hc;clear HB1;refine hc.mono ?_;unfold oF;rintro e wx ⟨hg,rfl,hck⟩;replace HQ:=G (HQ.out.grown hg hck);clear hg hck hc;(try clear f0);have f0:=HQ.out.bk.cell;)|(go_at_call 74;have hc:=HL1.out X gl bl lo2 P _ A3 el.length c3 HQ.out.ck HQ.out.rl hP;rw[hr5]at hc;clear HL1;refine hc.mono ?_;unfold oF a_;rintro e wx ⟨hg,rfl⟩;have HZ:=G (HQ.out.gr.trans hg);clear hg hc));exact⟨rfl,by rw[HFn.out];exact⟨HZ.out,rfl⟩⟩
     |ok lo3=>
      rw[hr5,dV]at hS;go_wp2_with (first|(go_at_call 121;refine(HEX.out X gl _ loj P _ A1 ex.length c1 HQ.out.ck HQ.out.re).mono ?_;rw[hr2];unfold bW;rintro e wx ⟨rfl,hE⟩;replace HQ:=G (HQ.out.ext hE);clear hE;(try clear f0);have f0:=HQ.out.bk.cell;)|(go_at_call 74;have hc:=HB1.out X gl bl loj P _ A2 bd.length c2 HQ.out.ck HQ.out.rb hP;rw[hr4]at hc;clear HB1;refine hc.mono ?_;unfold oF;rintro e wx ⟨hg,rfl,hck⟩;replace HQ:=G (HQ.out.grown hg hck);clear hg hck hc;(try clear f0);have f0:=HQ.out.bk.cell;)|(go_at_call 74;have hc:=HL1.out X gl bl lo2 P _ A3 el.length c3 HQ.out.ck HQ.out.rl hP;rw[hr5]at hc;clear HL1;refine hc.mono ?_;unfold oF;rintro e wx ⟨hg,rfl,hck⟩;replace HQ:=G (HQ.out.grown hg hck);clear hg hck hc;(try clear f0);have f0:=HQ.out.bk.cell;));go_roundw
      case rel=>exact⟨j+1,lo3,by go_num,by omega,G (hS.symm.trans HQR.out),G HQ.out.gr,G HQ.out.ck⟩
      case measure=>simp[intOf];omega
  ·have hlt': ¬(j:Int)<N:=by omega
   have HFn:=G (show Rv= .ok loj by
    have:=HQR.out;rw[aF (by have:=HN.out;omega),fe]at this
    exact this.symm)
   go_wp2_with fail;exact bodyPost_end (results_none rfl _ _ _) rfl (by rw[HFn.out];exact⟨HX.out,rfl,HKj.out⟩)
theorem k_: ∀(m:Nat) (xs:List St),fq xs<=m->fq xs<=1073741824->AY xs
 |0,xs,h,hw=>nL xs (by have:=dz xs;omega) (fun s hs=>by have:=bS hs;have:=s.wt_eq;omega) (fun s hs=>by have:=bS hs;have:=s.wt_eq;omega) (fun s hs=>by have:=bS hs;have:=s.wt_eq;omega)
 |m+1,xs,h,hw=>nL xs (by have:=dz xs;omega) (fun s hs=>by have:=bS hs;have:=s.wt_eq;omega) (fun s hs=>sh s.ex (by have:=bS hs;have:=s.wt_eq;omega))
   (fun s hs=>⟨k_ m s.body (by have:=bS hs;have:=s.wt_eq;omega) (by have:=bS hs;have:=s.wt_eq;omega),k_ m s.els (by have:=bS hs;have:=s.wt_eq;omega) (by have:=bS hs;have:=s.wt_eq;omega)⟩)
end
section
open Go.RowKit
theorem pj: ∀(f:Nat) (acc:List (List UInt8)) (l:List bN) (x:List (List UInt8)) (r:List bN),eQ f acc l= .ok (x,r)->r.length<l.length
 |0,acc,l,x,r,h=>by rw[eQ]at h;cases h
 |f+1,acc,l,x,r,h=>by
  rw[eQ]at h;obtain⟨a,q,h1,h2⟩:=aO h;have:=(ka h1).2.2.2;split at h2
  ·rename_i hk;have:=bq hk;rw[<-(bw h2).2];omega
  ·obtain⟨b,q2,h3,h4⟩:=aO h2;have:=(dT h3).2.2;have:=pj f _ _ _ _ h4;omega
theorem xF {f:Nat} {l:List bN} {x:List (List UInt8)} {r:List bN} (h:eX f l= .ok (x,r)):r.length<l.length:=by
 unfold eX at h;split at h
 ·rename_i hk;have:=bq hk;rw[<-(bw h).2];omega
 ·exact pj _ _ _ _ _ h
theorem zI {l r:List bN} {x:Vr} (h:ja l= .ok (x,r)):r.length<l.length:=by
 unfold ja at h;obtain⟨a,q,h1,h2⟩:=aO h;obtain⟨b,q2,h3,h4⟩:=aO h2;obtain⟨c,q3,h5,h6⟩:=aO h4;have:=(ka h1).2.2.2;have:=(dT h5).2.2;have h7:=(bw h6).2;subst h7;split at h3
 ·rename_i hk;have:=bq hk;split at h3
  ·split at h3
   ·cases h3
   ·obtain⟨e,q4,h8,h9⟩:=aO h3;have:=(dT h8).2.2;have h10:=(bw h9).2;subst h10;have:q.tail.tail.length<=q.tail.length:=by simp
    omega
  ·cases h3
 ·have h10:=(bw h3).2;subst h10;omega
theorem vw (w:World) (p:Value):let W0:=((w.alloc (.cells #[p] 153)).alloc (.cells #[.slice none 0 0, .slice none 0 0] 34)).alloc (.cells #[.slice none 0 0, .slice none 0 0] 34)
  aq w W0/\aL W0 w.heap.size 153 #[p]/\aL W0 (w.heap.size+1) 34 #[.slice none 0 0, .slice none 0 0]/\aL W0 (w.heap.size+2) 34 #[.slice none 0 0, .slice none 0 0]:=by
 have h1:=an (w.alloc (.cells #[p] 153)) 34 #[.slice none 0 0, .slice none 0 0];have h2:=an ((w.alloc (.cells #[p] 153)).alloc (.cells #[.slice none 0 0, .slice none 0 0] 34)) 34 #[.slice none 0 0, .slice none 0 0];rw[World.size_alloc]at h1;rw[World.size_alloc,World.size_alloc]at h2;exact⟨((O w _).alloc' _).alloc' _,((an w _ _).alloc _).alloc _,h1.alloc _,h2⟩
theorem Cd {w W:World} {g pr:Nat} {en:Int} {z0 z1:Value} {r:PR Pg} {q:List bN} (p:Pg) (A:Option Addr) (n c:Nat) (B:Option Addr) (m d:Nat) (hr:r= .ok (p,q)) (hpr:w.heap.size<=pr) (hB:aL W pr 34 #[z0,z1]) (hG:w.grownBy W (some g))
  (hV:mc W (fun b=>pr<b) (.slice A n c) p.vs) (hF:mm W (fun b=>pr<b) (.slice B m d) p.fs):
  (∀o,(W.setCells pr 0 [.slice A n c, .slice B m d]).cell? ⟨pr,o,none⟩=(#[.slice A n c, .slice B m d]:Array Value)[o]?)/\Cu g en w r (.returned (.agg #[.slice A n c, .slice B m d])) (W.setCells pr 0 [.slice A n c, .slice B m d]):=by
 subst hr;have hc:=dr pr [.slice A n c, .slice B m d] 0 W;have hb:=(hB.set 0 (.slice A n c)).set 1 (.slice B m d);have hk:cC (fun b=>pr<b) W (W.setCells pr 0 [.slice A n c, .slice B m d]):= .of_grown hc fun b hb e=>by injection e with e;omega
 exact⟨fun o=>by have:=hb.cell o;simpa[World.setCells]using this,dx hG hc hpr,A,n,c,B,m,d,rfl,hV.keep hk (fun b hb _=>by omega),hF.keep hk (fun b hb _=>by omega)⟩
theorem nT (F0:Nat) (hF0:F0<=400000) (l:List bN) (en:Int) (w:World) (g:Nat) (h:PA w g l en) (hf:4*l.length+2<=F0):Calls prog 60 #[.pointer (some ⟨g,0,none⟩)] w (Cu g en w (c7 F0 ⟨[],[]⟩ l)):=by
 obtain⟨hX0,hb0,hB0,hS0⟩:=vw w (.pointer (some ⟨g,0,none⟩));have HX0:=G hX0;have Hb0:=G hb0;have HB0:=G hB0;have HS0:=G hS0;have HP0:=G (h.ext hX0);have hgl:=h.lt;have hbg:w.heap.size≠g:=by omega
 have hrg:w.heap.size+1≠g:=by omega
 have hsg:w.heap.size+2≠g:=by omega
 clear h hX0 hb0 hB0 hS0;have hmf: ∀(fn:Fn) (first cap:Array Value) (w:World),(Instr.makeFunc fn first cap).run prog w= .ok (.func fn first cap) w:=fun _ _ _ _=>rfl;go_enter func60,ntmps60;go_wp2_with fail
 go_loopw [] (fun wr=> ∃(k:Nat) (vs:List Vr) (fs:List FV) (r:List bN) (A:Option Addr) (n c:Nat) (B:Option Addr) (m d:Nat),4*r.length+2<=k/\k<=F0/\vs.length=n/\fs.length=m/\n+m+r.length<=l.length/\Hid (c7 k ⟨vs,fs.map (·.c)⟩ r=c7 F0 ⟨[],[]⟩ l)/\Hid (PA wr g r en)/\Hid (aL wr w.heap.size 153 #[.pointer (some ⟨g,0,none⟩)])/\Hid (aL wr (w.heap.size+1) 34 #[.slice none 0 0, .slice none 0 0])/\Hid (aL wr (w.heap.size+2) 34 #[.slice A n c, .slice B m d])/\
  Hid (jY wr (w.heap.size+3) (.slice A n c) (.slice B m d) vs fs)/\Hid (w.grownBy wr (some g))) (fun wr=>tokN g wr)
 case atStart=>exact⟨F0,[],[],l,none,0,0,none,0,0,hf,ah _,rfl,rfl,by omega,G rfl,HP0,Hb0,HB0,HS0,G (jY.nil_ _ _),G (HX0.out.grownBy _)⟩
 case round=>
  clear HX0 Hb0 HB0 HS0 HP0;obtain⟨k,vs,fs,r,A,n,c,B,m,d,hk0,hkF0,hn0,hm,hnm,HRes,HPr,Hbr,HBr,HSr,HOr,HGr⟩:=hrel;obtain⟨k,rfl⟩: ∃k',k=k'+1:=⟨k-1,by omega⟩
  have hkF:k<=400000:=by omega
  have HSt:=G (show c7 (k+1) ⟨vs,fs.map (·.c)⟩ r=if r=[]then .ok (⟨vs,fs.map (·.c)⟩,[])else if cP lL r then(ja r.tail).then fun v r=>c7 k ⟨vs++[v],fs.map (·.c)⟩ r
   else(bV j' r).then fun _ r=>(jL k r).then fun c r=>c7 k ⟨vs,fs.map (·.c)++[c]⟩ r from by rw[c7])
  have hpc:=Hbr.out.cell;have hsc:=HSr.out.cell;have hsf:=HSr.out.frozen;by_cases hr0:r=[]
  ·subst hr0;have HR:=G (show c7 F0 ⟨[],[]⟩ l= .ok (⟨vs,fs.map (·.c)⟩,[])from by rw[<-HRes.out,HSt.out,if_pos rfl]);obtain⟨Q,cq,hb,ht,hn⟩:=HPr.out;have hbc:=hb.cell;have hrc:=HBr.out.cell;have hrf:=HBr.out.frozen;clear hb ht hn;go_wp2_with fail;have hrd:=HOr.out.rd;obtain⟨hset,hfin⟩:=Cd (en:=en) ⟨vs,fs.map (·.c)⟩ A n c B m d HR.out (eD _) HBr.out HGr.out (hrd.1.keep ⟨ah _,fun _ _ _=>rfl⟩ (fun b hb _=>by omega)) (hrd.2.keep ⟨ah _,fun _ _ _=>rfl⟩ (fun b hb _=>by omega));simp only[World.setCells,aD]at hset hfin;exact bodyPost_ret (v:= .agg #[.slice A n c, .slice B m d]) (by simp[results,results60,go_sem,hset]) rfl hfin
  obtain⟨Q,cq,hb,ht,hn⟩:=HPr.out;have hbc:=hb.cell;obtain⟨N,hN⟩: ∃N,r.length=N:=⟨_,rfl⟩
  rw[hN]at hbc;have hN0:0<N:=by rw[<-hN];exact List.length_pos_iff.2 hr0
  have hN0i:(0:Int)<N:=by omega
  have hrt:r.length=r.tail.length+1:=by simp only[List.length_tail];omega
  have HS2:=G (show c7 F0 ⟨[],[]⟩ l=if cP lL r then(ja r.tail).then fun v r=>c7 k ⟨vs++[v],fs.map (·.c)⟩ r
   else(bV j' r).then fun _ r=>(jL k r).then fun c r=>c7 k ⟨vs,fs.map (·.c)++[c]⟩ r from by rw[<-HRes.out,HSt.out,if_neg hr0])
  clear hb ht hn HSt HRes
  cases hv:cP lL r with
  |true=>
   have HPNr:=HPr;go_wp2_with (first|(go_at_call 98;refine(ch g _ en lL _ HPr.out).mono ?_;rw[hv];simp only[if_true];rintro e w1 ⟨rfl,h1,h2⟩;have HP1:=G h1;have HG1:=G (am HGr.out h2);have Hb1:=G (Hbr.out.grown h2 (fun e=>hbg (Z e)));have HB1:=G (HBr.out.grown h2 (fun e=>hrg (Z e)));have HS1:=G (HSr.out.grown h2 (fun e=>hsg (Z e)));have HO1:=G (HOr.out.grown h2 (fun k e=>by injection e with e;omega));clear hpc hsc hsf hbc;have hpc:=Hb1.out.cell;have hsc:=HS1.out.cell;have hsf:=HS1.out.frozen;clear h1 h2 HPr))
   cases hx:ja r.tail with
   |error p=>
    obtain⟨q,er⟩:=p;have HR:=G (show c7 F0 ⟨[],[]⟩ l= .error (q,er)from by rw[HS2.out,if_pos hv,hx];rfl);refine bR 5 4 [(3,fun v=>v= .agg #[.string ⟨#[]⟩, .int .i64 0],fun _ _=>False),(4,fun v=> ∃gb,v= .slice (some ⟨gb,0,none⟩) 1 1,fun _ _=>True)] 3 (some g) mixed (by kernel_rfl) ⟨fun _ _ _ h _=>h,fun _ _ _ h _=>h,trivial⟩ ⟨.inl rfl, .inr fun _ _ _ h _=>h,trivial⟩ ?_;repeat (refine sx ?_ (fun w1 hU=> ?_) ?_;rotate_left;(focus have f1:=(HS1.out.grown (aB hU) (fun e=>hsg (Z e))).cell;have f2:=(Hb1.out.grown (aB hU) (fun e=>hbg (Z e))).cell;clear hU;go_simp<;>with_reducible rfl);simp only[aY,aX,aW,aV,aU])
    refine bH _ _ (by rfl) rfl ⟨_,rfl⟩ rfl (fun w6 hT hp K hK=> ?_) ?_
    ·clear hp;have hc:=tB _ en w6 g (HP1.out.ext hT.un);have HT6:=G hT.un;clear hT;go_simp;refine hc.mono ?_;intro e w7 hh;rw[hx]at hh;obtain⟨hG,rfl⟩:=hh;unfold a6;intro a' hd;exact⟨hd,kB HR.out (am HG1.out (am (HT6.out.grownBy _) hG))⟩
    rintro _ rfl;simp only[aY,aX,aW,aV,aU];refine bJ _ _ (by rfl) rfl ⟨_,0,rfl⟩ (by simp) (fun w6 hU hp K hK=> ?_) ?_
    ·clear hp;go_simp;exact hK _ _ (O w6 _) ⟨_,rfl⟩ trivial
    rintro _ ⟨gb,rfl⟩;simp only[aY,aX,aW,aV,aU];intro w6 hw6 hp;exact(hp _ (.tail _ (.head _))).elim
   |ok p=>
    obtain⟨x,q⟩:=p;have hlx:=zI hx;have HRN:=G (show c7 k ⟨vs++[x],fs.map (·.c)⟩ q=c7 F0 ⟨[],[]⟩ l from by rw[HS2.out,if_pos hv,hx];rfl);have hg1:g<w1.heap.size:=HP1.out.lt;have hz1:w.heap.size+2<w1.heap.size:=HS1.out.lt;refine bR 5 4 [(3,fun v=>v= .agg #[.string (ai x.nm), .int .i64 x.sz],fun v wx=>PA wx g q en),(4,fun v=> ∃gb,v= .slice (some ⟨gb,0,none⟩) 1 1,fun v wx=> ∀gb,v= .slice (some ⟨gb,0,none⟩) 1 1->w1.heap.size<=gb/\aL wx gb 85 #[.string (ai x.nm), .int .i64 x.sz])] 3 (some g) mixed (by kernel_rfl)
     ⟨fun _ _ _ h hx=>h.ext hx,fun _ _ _ h hx gb e=>⟨(h gb e).1,(h gb e).2.ext hx⟩,trivial⟩ ⟨.inl rfl, .inr fun _ _ _ h hx gb e=>⟨(h gb e).1,(h gb e).2.grown hx (fun e'=>by have:=(h gb e).1;injection e' with e';omega)⟩,trivial⟩ ?_
    repeat (refine sx ?_ (fun w1 hU=> ?_) ?_;rotate_left;(focus have f1:=(HS1.out.grown (aB hU) (fun e=>hsg (Z e))).cell;have f2:=(Hb1.out.grown (aB hU) (fun e=>hbg (Z e))).cell;clear hU;go_simp<;>with_reducible rfl);simp only[aY,aX,aW,aV,aU])
    refine bH _ _ (by rfl) rfl ⟨_,rfl⟩ rfl (fun w6 hT hp K hK=> ?_) ?_
    ·clear hp;have hc:=tB _ en w6 g (HP1.out.ext hT.un);clear hT;go_simp;refine hc.mono ?_;intro e w7 hh;rw[hx]at hh;obtain⟨hG,rfl,hPA⟩:=hh;exact hK _ _ hG rfl hPA
    rintro _ rfl;simp only[aY,aX,aW,aV,aU];refine bJ _ _ (by rfl) rfl ⟨_,0,rfl⟩ (by simp) (fun w6 hU hp K hK=> ?_) ?_
    ·have hz6:=(aB hU).size;clear hp hU;go_simp;exact hK _ _ (O w6 _) ⟨_,rfl⟩ (fun gb e=>by injection e with e;injection e with e;injection e with e;subst e;exact⟨hz6,an w6 _ _⟩)
    rintro _ ⟨gb,rfl⟩;simp only[aY,aX,aW,aV,aU];intro w8 hw8 hp;obtain⟨hgb,hB3⟩:=hp _ (.head _) gb rfl;have HP8:=G (show PA w8 g q en from hp _ (.tail _ (.head _)));clear hp;simp only[ac,ap];have hw8:=aB hw8;have HG8:=G (am HG1.out hw8);have Hb8:=G (Hb1.out.grown hw8 (fun e=>hbg (Z e)));have HB8:=G (HB1.out.grown hw8 (fun e=>hrg (Z e)));have HS8:=G (HS1.out.grown hw8 (fun e=>hsg (Z e)));have HO8:=G (HO1.out.grown hw8 (fun k e=>by injection e with e;omega));have hrow:=World.ownsRow.lt HO8.out.1;have hrw:=fun k hk=>(hrow k hk).1;have hz8:=HG8.out.size;have hz88:=hw8.size;clear hw8 hpc hsc hsf;refine eW EM rfl _ _ rfl (w.heap.size+3) _ n (jJ vs) rfl (by have:=HO8.out.1;rw[hn0]at this;exact this) gb (A8 x) rfl hB3 rfl (by intro u hu;simp only[A8,fC,ep,or_false]at hu;rcases hu with rfl|rfl<;>rfl) (by omega) (by decide) (by omega) ?_;intro A' cap' w9 hq1 hq2 hq3;have hO9:=HO8.out.snocV hn0 hq1 hq2 hq3;have hS9:=HS8.out.grown hq2 (fun e=>by have:=hrw _ e.symm;omega);have hb9:=Hb8.out.grown hq2 (fun e=>by have:=hrw _ e.symm;omega);have hB9:=HB8.out.grown hq2 (fun e=>by have:=hrw _ e.symm;omega);have hP9:=HP8.out.grown hq2 (fun k e=>by have:=hrw k e;omega);have hG9:w.grownBy w9 (some g):=⟨hq2.os.trans HG8.out.os,hq2.tape.trans HG8.out.tape,hq2.output.trans HG8.out.output,aZ HG8.out.size hq2.size,fun i hi hne=>(hq2.block i (aA hi HG8.out.size) (fun e=>by have:=hrw i e.symm;omega)).trans (HG8.out.block i hi hne)⟩
    have hsc:=hS9.cell;have hsf:=hS9.frozen;have hs:=eC w9 (w.heap.size+2) 0 (.slice (some ⟨A',0,none⟩) (n+1) cap');have hs9:=hS9.set 0 (.slice (some ⟨A',0,none⟩) (n+1) cap');simp only[be,bP]at hs9;have HON:=G (hO9.grown hs (fun k e=>by injection e with e;omega));have HPN:=G (hP9.grown hs (fun k e=>by injection e with e;omega));have HbN:=G (hb9.grown hs (fun e=>by injection e with e;omega));have HBN:=G (hB9.grown hs (fun e=>by injection e with e;omega));have HGN:=G (dx hG9 hs (by omega));have HSN:=G hs9;clear hq1 hq2 hq3 hs hs9 hO9 hS9 hb9 hB9 hP9 hG9 hrow hrw hB3;go_wp2_with fail;go_roundw
    case rel=>exact⟨k,vs++[x],fs,q,some ⟨A',0,none⟩,n+1,cap',B,m,d,by omega,by omega,by simp[hn0],hm,by omega,HRN,HPN,HbN,HBN,HSN,HON,HGN⟩
    case measure=>rw[HPNr.out.tokN,HPN.out.tokN];omega
  |false=>
   have HS3:=G (show c7 F0 ⟨[],[]⟩ l=(bV j' r).then fun _ r=>(jL k r).then fun c r=>c7 k ⟨vs,fs.map (·.c)++[c]⟩ r from by rw[HS2.out,if_neg (by rw[hv];simp)]);clear HS2
   cases hfu:cP j' r with
   |false=>
    have HR:=G (show c7 F0 ⟨[],[]⟩ l= .error (r,3)from by rw[HS3.out,ew hfu];rfl);go_wp2_with (first|(go_at_call 98;refine(ch g _ en lL _ HPr.out).mono ?_;rw[hv];simp only[aN,if_false];rintro e w1 ⟨rfl,h1,h2⟩;have HP1:=G h1;have HG1:=G (am HGr.out h2);have Hb1:=G (Hbr.out.grown h2 (fun e=>hbg (Z e)));have HB1:=G (HBr.out.grown h2 (fun e=>hrg (Z e)));have HS1:=G (HSr.out.grown h2 (fun e=>hsg (Z e)));have HO1:=G (HOr.out.grown h2 (fun k e=>by injection e with e;omega));clear hpc hsc hsf hbc;have hpc:=Hb1.out.cell;have hsc:=HS1.out.cell;have hsf:=HS1.out.frozen;clear h1 h2 HPr)|(go_at_call 100;refine(fT g _ en j' _ HP1.out hfu).mono ?_;unfold a6;rintro e w2 ⟨rfl,hG⟩;have HGE:=G (am HG1.out hG);clear hG));exact⟨rfl,kB HR.out HGE.out⟩
   |true=>
    have HS4:=G (show c7 F0 ⟨[],[]⟩ l=(jL k r.tail).then fun c r=>c7 k ⟨vs,fs.map (·.c)++[c]⟩ r from by rw[HS3.out,cv hfu];rfl);clear HS3;by_cases hk:(ci r.tail).k=1
    rotate_left
    ·have HR:=G (show c7 F0 ⟨[],[]⟩ l= .error (r.tail,3)from by rw[HS4.out];unfold jL;rw[ke hk];rfl);go_wp2_with (first|(go_at_call 98;refine(ch g _ en lL _ HPr.out).mono ?_;rw[hv];simp only[aN,if_false];rintro e w1 ⟨rfl,h1,h2⟩;have HP1:=G h1;have HG1:=G (am HGr.out h2);have Hb1:=G (Hbr.out.grown h2 (fun e=>hbg (Z e)));have HB1:=G (HBr.out.grown h2 (fun e=>hrg (Z e)));have HS1:=G (HSr.out.grown h2 (fun e=>hsg (Z e)));have HO1:=G (HOr.out.grown h2 (fun k e=>by injection e with e;omega));clear hpc hsc hsf hbc;have hpc:=Hb1.out.cell;have hsc:=HS1.out.cell;have hsf:=HS1.out.frozen;clear h1 h2 HPr)|(go_at_call 100;refine(d8 g _ en j' _ HP1.out hfu).mono ?_;rintro e w2 ⟨rfl,h1,h2⟩;have HP2:=G h1;have HG2:=G (am HG1.out h2);have Hb2:=G (Hb1.out.grown h2 (fun e=>hbg (Z e)));have HB2:=G (HB1.out.grown h2 (fun e=>hrg (Z e)));have HS2:=G (HS1.out.grown h2 (fun e=>hsg (Z e)));have HO2:=G (HO1.out.grown h2 (fun k e=>by injection e with e;omega));clear hpc hsc hsf;have hpc:=Hb2.out.cell;have hsc:=HS2.out.cell;have hsf:=HS2.out.frozen;clear h1 h2 HP1)|(go_at_call 101;refine(oa g _ en _ HP2.out hk).mono ?_;unfold a6;rintro e w3 ⟨rfl,hG⟩;have HGE:=G (am HG2.out hG);clear hG));exact⟨rfl,kB HR.out HGE.out⟩
    have hkt:=gN (l:=r.tail) (by rw[hk];decide)
    cases hlp:cP mi r.tail.tail with
    |false=>
     have HR:=G (show c7 F0 ⟨[],[]⟩ l= .error (r.tail.tail,3)from by rw[HS4.out];unfold jL;rw[bI hk,then_ok,ew hlp];rfl);go_wp2_with (first|(go_at_call 98;refine(ch g _ en lL _ HPr.out).mono ?_;rw[hv];simp only[aN,if_false];rintro e w1 ⟨rfl,h1,h2⟩;have HP1:=G h1;have HG1:=G (am HGr.out h2);have Hb1:=G (Hbr.out.grown h2 (fun e=>hbg (Z e)));have HB1:=G (HBr.out.grown h2 (fun e=>hrg (Z e)));have HS1:=G (HSr.out.grown h2 (fun e=>hsg (Z e)));have HO1:=G (HOr.out.grown h2 (fun k e=>by injection e with e;omega));clear hpc hsc hsf hbc;have hpc:=Hb1.out.cell;have hsc:=HS1.out.cell;have hsf:=HS1.out.frozen;clear h1 h2 HPr)|(go_at_call 100;refine(d8 g _ en j' _ HP1.out hfu).mono ?_;rintro e w2 ⟨rfl,h1,h2⟩;have HP2:=G h1;have HG2:=G (am HG1.out h2);have Hb2:=G (Hb1.out.grown h2 (fun e=>hbg (Z e)));have HB2:=G (HB1.out.grown h2 (fun e=>hrg (Z e)));have HS2:=G (HS1.out.grown h2 (fun e=>hsg (Z e)));have HO2:=G (HO1.out.grown h2 (fun k e=>by injection e with e;omega));clear hpc hsc hsf;have hpc:=Hb2.out.cell;have hsc:=HS2.out.cell;have hsf:=HS2.out.frozen;clear h1 h2 HP1)|(go_at_call 101;refine(iv g _ en _ HP2.out hk).mono ?_;rintro e w3 ⟨rfl,h1,h2⟩;have HG3:=G (am HG2.out h2);have Hb3:=G (Hb2.out.grown h2 (fun e=>hbg (Z e)));have HB3:=G (HB2.out.grown h2 (fun e=>hrg (Z e)));have HS3:=G (HS2.out.grown h2 (fun e=>hsg (Z e)));have HO3:=G (HO2.out.grown h2 (fun k e=>by injection e with e;omega));have hE:=O w3 (.cells #[.string (ai (ci r.tail).t), .slice none 0 0, .slice none 0 0] 59);have HQ4:=G (hE.grownBy (some g));have HF4:=G (an w3 59 #[.string (ai (ci r.tail).t), .slice none 0 0, .slice none 0 0]);have HP4:=G (h1.ext hE);have HG4:=G (am HG3.out (hE.grownBy (some g)));have hz3:=HS3.out.lt;have hfg:w3.heap.size≠g:=(by omega);have hgf:g≠w3.heap.size:=(by omega);clear hpc hsc hsf;have hpc:=(Hb3.out.ext hE).cell;clear h1 h2 hE HP2)|(go_at_call 100;refine(fT g _ en mi _ HP4.out hlp).mono ?_;unfold a6;rintro e w5 ⟨rfl,hG⟩;have HGE:=G (am HG4.out hG);clear hG));exact⟨rfl,kB HR.out HGE.out⟩
    |true=>
     have hlt:=bq hlp;have hfn:r.tail.tail.tail.length+1<=k:=by omega
     cases hn:eX k r.tail.tail.tail with
     |error p=>
      obtain⟨q,er⟩:=p;have HR:=G (show c7 F0 ⟨[],[]⟩ l= .error (q,er)from by rw[HS4.out];unfold jL;rw[bI hk,then_ok,cv hlp,then_ok,hn];rfl);go_wp2_with (first|(go_at_call 98;refine(ch g _ en lL _ HPr.out).mono ?_;rw[hv];simp only[aN,if_false];rintro e w1 ⟨rfl,h1,h2⟩;have HP1:=G h1;have HG1:=G (am HGr.out h2);have Hb1:=G (Hbr.out.grown h2 (fun e=>hbg (Z e)));have HB1:=G (HBr.out.grown h2 (fun e=>hrg (Z e)));have HS1:=G (HSr.out.grown h2 (fun e=>hsg (Z e)));have HO1:=G (HOr.out.grown h2 (fun k e=>by injection e with e;omega));clear hpc hsc hsf hbc;have hpc:=Hb1.out.cell;have hsc:=HS1.out.cell;have hsf:=HS1.out.frozen;clear h1 h2 HPr)|(go_at_call 100;refine(d8 g _ en j' _ HP1.out hfu).mono ?_;rintro e w2 ⟨rfl,h1,h2⟩;have HP2:=G h1;have HG2:=G (am HG1.out h2);have Hb2:=G (Hb1.out.grown h2 (fun e=>hbg (Z e)));have HB2:=G (HB1.out.grown h2 (fun e=>hrg (Z e)));have HS2:=G (HS1.out.grown h2 (fun e=>hsg (Z e)));have HO2:=G (HO1.out.grown h2 (fun k e=>by injection e with e;omega));clear hpc hsc hsf;have hpc:=Hb2.out.cell;have hsc:=HS2.out.cell;have hsf:=HS2.out.frozen;clear h1 h2 HP1)|(go_at_call 101;refine(iv g _ en _ HP2.out hk).mono ?_;rintro e w3 ⟨rfl,h1,h2⟩;have HG3:=G (am HG2.out h2);have Hb3:=G (Hb2.out.grown h2 (fun e=>hbg (Z e)));have HB3:=G (HB2.out.grown h2 (fun e=>hrg (Z e)));have HS3:=G (HS2.out.grown h2 (fun e=>hsg (Z e)));have HO3:=G (HO2.out.grown h2 (fun k e=>by injection e with e;omega));have hE:=O w3 (.cells #[.string (ai (ci r.tail).t), .slice none 0 0, .slice none 0 0] 59);have HQ4:=G (hE.grownBy (some g));have HF4:=G (an w3 59 #[.string (ai (ci r.tail).t), .slice none 0 0, .slice none 0 0]);have HP4:=G (h1.ext hE);have HG4:=G (am HG3.out (hE.grownBy (some g)));have hz3:=HS3.out.lt;have hfg:w3.heap.size≠g:=(by omega);have hgf:g≠w3.heap.size:=(by omega);clear hpc hsc hsf;have hpc:=(Hb3.out.ext hE).cell;clear h1 h2 hE HP2)|(go_at_call 100;refine(d8 g _ en mi _ HP4.out hlp).mono ?_;rintro e w5 ⟨rfl,h1,h2⟩;have HP5:=G h1;have HQ5:=G (am HQ4.out h2);have HG5:=G (am HG4.out h2);have HF5:=G (HF4.out.grown h2 (fun e=>hfg (Z e)));have Hb5:=G (Hb3.out.grown HQ5.out (fun e=>hbg (Z e)));clear hpc;have hpc:=Hb5.out.cell;have HL:=G (lp k w5.heap.size g w3.heap.size w.heap.size (ci r.tail).t r.tail.tail.tail en w5 HP5.out Hb5.out HF5.out (ah _) (by omega) (by omega) (by omega) HF5.out.lt Hb5.out.lt hfn (by omega));clear h1 h2 HP4)|(go_at_call 102;refine HL.out.mono ?_;intro e w6 hh;rw[hn]at hh;obtain⟨hF,rfl⟩:=hh;unfold a6;have hz5:=HF5.out.lt;have HGE:=G (jg HG5.out hF (by omega) (by omega));clear hF));exact⟨rfl,kB HR.out HGE.out⟩
     |ok p=>
      obtain⟨ps,q⟩:=p;have hnl:=xF hn;have hfb:4*q.length+1<=k:=by omega
      cases hb:dq k q with
      |error p=>
       obtain⟨q1,er⟩:=p;have HR:=G (show c7 F0 ⟨[],[]⟩ l= .error (q1,er)from by rw[HS4.out];unfold jL;rw[bI hk,then_ok,cv hlp,then_ok,hn,then_ok,hb];rfl);go_wp2_with (first|(go_at_call 98;refine(ch g _ en lL _ HPr.out).mono ?_;rw[hv];simp only[aN,if_false];rintro e w1 ⟨rfl,h1,h2⟩;have HP1:=G h1;have HG1:=G (am HGr.out h2);have Hb1:=G (Hbr.out.grown h2 (fun e=>hbg (Z e)));have HB1:=G (HBr.out.grown h2 (fun e=>hrg (Z e)));have HS1:=G (HSr.out.grown h2 (fun e=>hsg (Z e)));have HO1:=G (HOr.out.grown h2 (fun k e=>by injection e with e;omega));clear hpc hsc hsf hbc;have hpc:=Hb1.out.cell;have hsc:=HS1.out.cell;have hsf:=HS1.out.frozen;clear h1 h2 HPr)|(go_at_call 100;refine(d8 g _ en j' _ HP1.out hfu).mono ?_;rintro e w2 ⟨rfl,h1,h2⟩;have HP2:=G h1;have HG2:=G (am HG1.out h2);have Hb2:=G (Hb1.out.grown h2 (fun e=>hbg (Z e)));have HB2:=G (HB1.out.grown h2 (fun e=>hrg (Z e)));have HS2:=G (HS1.out.grown h2 (fun e=>hsg (Z e)));have HO2:=G (HO1.out.grown h2 (fun k e=>by injection e with e;omega));clear hpc hsc hsf;have hpc:=Hb2.out.cell;have hsc:=HS2.out.cell;have hsf:=HS2.out.frozen;clear h1 h2 HP1)|(go_at_call 101;refine(iv g _ en _ HP2.out hk).mono ?_;rintro e w3 ⟨rfl,h1,h2⟩;have HG3:=G (am HG2.out h2);have Hb3:=G (Hb2.out.grown h2 (fun e=>hbg (Z e)));have HB3:=G (HB2.out.grown h2 (fun e=>hrg (Z e)));have HS3:=G (HS2.out.grown h2 (fun e=>hsg (Z e)));have HO3:=G (HO2.out.grown h2 (fun k e=>by injection e with e;omega));have hE:=O w3 (.cells #[.string (ai (ci r.tail).t), .slice none 0 0, .slice none 0 0] 59);have HQ4:=G (hE.grownBy (some g));have HF4:=G (an w3 59 #[.string (ai (ci r.tail).t), .slice none 0 0, .slice none 0 0]);have HP4:=G (h1.ext hE);have HG4:=G (am HG3.out (hE.grownBy (some g)));have hz3:=HS3.out.lt;have hfg:w3.heap.size≠g:=(by omega);have hgf:g≠w3.heap.size:=(by omega);clear hpc hsc hsf;have hpc:=(Hb3.out.ext hE).cell;clear h1 h2 hE HP2)|(go_at_call 100;refine(d8 g _ en mi _ HP4.out hlp).mono ?_;rintro e w5 ⟨rfl,h1,h2⟩;have HP5:=G h1;have HQ5:=G (am HQ4.out h2);have HG5:=G (am HG4.out h2);have HF5:=G (HF4.out.grown h2 (fun e=>hfg (Z e)));have Hb5:=G (Hb3.out.grown HQ5.out (fun e=>hbg (Z e)));clear hpc;have hpc:=Hb5.out.cell;have HL:=G (lp k w5.heap.size g w3.heap.size w.heap.size (ci r.tail).t r.tail.tail.tail en w5 HP5.out Hb5.out HF5.out (ah _) (by omega) (by omega) (by omega) HF5.out.lt Hb5.out.lt hfn (by omega));clear h1 h2 HP4)|(go_at_call 102;refine HL.out.mono ?_;intro e w6 hh;rw[hn]at hh;obtain⟨hF,rfl,hPA,C,i,j,hX,hR⟩:=hh;have hz5:=HF5.out.lt;have HQ6:=G (jg HQ5.out hF (ah _) (by omega));have HG6:=G (jg HG5.out hF (by omega) (by omega));have HF6:=G hX;have HP6:=G hPA;have HN6:=G (hR.mono (Q:=fun b=>w3.heap.size<b) (fun b hb _=>by omega));have Hb6:=G (Hb3.out.grown HQ6.out (fun e=>hbg (Z e)));clear hpc;have hpc:=Hb6.out.cell;clear hF hPA hX hR HP5 HL)|(go_at_call 104;refine(pE hkF _ en _ g HP6.out hfb).mono ?_;intro e w7 hh;rw[hb]at hh;obtain⟨hG,rfl⟩:=hh;unfold a6;have HGE:=G (am HG6.out hG);clear hG));exact⟨rfl,kB HR.out HGE.out⟩
      |ok p=>
       obtain⟨bd,q1⟩:=p;have hlb:=(nh k).1 _ _ _ hb;have HRN:=G (show c7 k ⟨vs,fs.map (·.c)++[⟨(ci r.tail).t,ps,bd⟩]⟩ q1=c7 F0 ⟨[],[]⟩ l from by rw[HS4.out];unfold jL;rw[bI hk,then_ok,cv hlp,then_ok,hn,then_ok,hb];rfl);have HPNr:=HPr;go_wp2_with (first|(go_at_call 98;refine(ch g _ en lL _ HPr.out).mono ?_;rw[hv];simp only[aN,if_false];rintro e w1 ⟨rfl,h1,h2⟩;have HP1:=G h1;have HG1:=G (am HGr.out h2);have Hb1:=G (Hbr.out.grown h2 (fun e=>hbg (Z e)));have HB1:=G (HBr.out.grown h2 (fun e=>hrg (Z e)));have HS1:=G (HSr.out.grown h2 (fun e=>hsg (Z e)));have HO1:=G (HOr.out.grown h2 (fun k e=>by injection e with e;omega));clear hpc hsc hsf hbc;have hpc:=Hb1.out.cell;have hsc:=HS1.out.cell;have hsf:=HS1.out.frozen;clear h1 h2 HPr)|(go_at_call 100;refine(d8 g _ en j' _ HP1.out hfu).mono ?_;rintro e w2 ⟨rfl,h1,h2⟩;have HP2:=G h1;have HG2:=G (am HG1.out h2);have Hb2:=G (Hb1.out.grown h2 (fun e=>hbg (Z e)));have HB2:=G (HB1.out.grown h2 (fun e=>hrg (Z e)));have HS2:=G (HS1.out.grown h2 (fun e=>hsg (Z e)));have HO2:=G (HO1.out.grown h2 (fun k e=>by injection e with e;omega));clear hpc hsc hsf;have hpc:=Hb2.out.cell;have hsc:=HS2.out.cell;have hsf:=HS2.out.frozen;clear h1 h2 HP1)|(go_at_call 101;refine(iv g _ en _ HP2.out hk).mono ?_;rintro e w3 ⟨rfl,h1,h2⟩;have HG3:=G (am HG2.out h2);have Hb3:=G (Hb2.out.grown h2 (fun e=>hbg (Z e)));have HB3:=G (HB2.out.grown h2 (fun e=>hrg (Z e)));have HS3:=G (HS2.out.grown h2 (fun e=>hsg (Z e)));have HO3:=G (HO2.out.grown h2 (fun k e=>by injection e with e;omega));have hE:=O w3 (.cells #[.string (ai (ci r.tail).t), .slice none 0 0, .slice none 0 0] 59);have HQ4:=G (hE.grownBy (some g));have HF4:=G (an w3 59 #[.string (ai (ci r.tail).t), .slice none 0 0, .slice none 0 0]);have HP4:=G (h1.ext hE);have HG4:=G (am HG3.out (hE.grownBy (some g)));have hz3:=HS3.out.lt;have hfg:w3.heap.size≠g:=(by omega);have hgf:g≠w3.heap.size:=(by omega);clear hpc hsc hsf;have hpc:=(Hb3.out.ext hE).cell;clear h1 h2 hE HP2)|(go_at_call 100;refine(d8 g _ en mi _ HP4.out hlp).mono ?_;rintro e w5 ⟨rfl,h1,h2⟩;have HP5:=G h1;have HQ5:=G (am HQ4.out h2);have HG5:=G (am HG4.out h2);have HF5:=G (HF4.out.grown h2 (fun e=>hfg (Z e)));have Hb5:=G (Hb3.out.grown HQ5.out (fun e=>hbg (Z e)));clear hpc;have hpc:=Hb5.out.cell;have HL:=G (lp k w5.heap.size g w3.heap.size w.heap.size (ci r.tail).t r.tail.tail.tail en w5 HP5.out Hb5.out HF5.out (ah _) (by omega) (by omega) (by omega) HF5.out.lt Hb5.out.lt hfn (by omega));clear h1 h2 HP4)|(go_at_call 102;refine HL.out.mono ?_;intro e w6 hh;rw[hn]at hh;obtain⟨hF,rfl,hPA,C,i,j,hX,hR⟩:=hh;have hz5:=HF5.out.lt;have HQ6:=G (jg HQ5.out hF (ah _) (by omega));have HG6:=G (jg HG5.out hF (by omega) (by omega));have HF6:=G hX;have HP6:=G hPA;have HN6:=G (hR.mono (Q:=fun b=>w3.heap.size<b) (fun b hb _=>by omega));have Hb6:=G (Hb3.out.grown HQ6.out (fun e=>hbg (Z e)));clear hpc;have hpc:=Hb6.out.cell;clear hF hPA hX hR HP5 HL)|(go_at_call 104;refine(pE hkF _ en _ g HP6.out hfb).mono ?_;intro e w7 hh;rw[hb]at hh;obtain⟨hG,D,i2,j2,rfl,hR,hPA⟩:=hh;have hz6:=HF6.out.lt;have hz7:=hG.size;have HQ7:=G (am HQ6.out hG);have HG7:=G (am HG6.out hG);have HF7:=G (HF6.out.grown hG (fun e=>hfg (Z e)));have hs:=eC w7 w3.heap.size 2 (.slice D i2 j2);have HQ8:=G (dx HQ7.out hs (ah _));have HG8:=G (dx HG7.out hs (by omega));have hf8:=HF7.out.set 2 (.slice D i2 j2);simp only[be,bP,bX]at hf8;have HF8:=G hf8;have HV8:=G (FV.ok.keep (p:=⟨⟨(ci r.tail).t,ps,bd⟩, .slice C i j, .slice D i2 j2⟩) (P:=fun b=>w3.heap.size<b) (w:=w7) ⟨HN6.out.keep (.of_grown hG fun b hb e=>by injection e with e;omega) (fun _ hb _=>hb),hR.mono (fun b hb _=>by omega)⟩ (.of_grown hs fun b hb e=>by injection e with e;omega) (fun _ hb _=>hb));have HP8:=G (hPA.grown hs (fun k e=>by injection e with e;omega));have HO8:=G (HO3.out.grown HQ8.out (fun k e=>by injection e with e;omega));have HS8:=G (HS3.out.grown HQ8.out (fun e=>hsg (Z e)));have hfc7:=HF7.out.cell;have hff7:=HF7.out.frozen;have hsc:=HS8.out.cell;have hsf:=HS8.out.frozen;clear hG hs hf8 hR hPA HP6)|(at_builtin;have hE:=O (w7.setCell ⟨w3.heap.size,2,none⟩ (.slice D i2 j2)) (.cells #[.string (ai (ci r.tail).t), .slice C i j, .slice D i2 j2] 59);have hrow:=World.ownsRow.lt HO8.out.2.1;have hrow1:=World.ownsRow.lt HO8.out.1;have hrw:=fun k hk=>(hrow k hk).1;have hO9:=HO8.out.grown (hE.grownBy none) (fun k e=>by cases e);have hlow: ∀k,Value.ownBlock (.slice B m d)=some k->k<w3.heap.size:=(fun k hk=>(World.ownsRow.lt HO3.out.2.1 k hk).2);have hlow1: ∀k,Value.ownBlock (.slice A n c)=some k->k<w3.heap.size:=(fun k hk=>(World.ownsRow.lt HO3.out.1 k hk).2);have hV9:=HV8.out.keep (.of_ext hE) (Q:=fun b=>w.heap.size+3<=b/\some b≠Value.ownBlock (.slice A n c)/\some b≠Value.ownBlock (.slice B m d)) (fun b hb _=>⟨by omega,fun e=>by have:=hlow1 b e.symm;omega,fun e=>by have:=hlow b e.symm;omega⟩);have hN9:=an (w7.setCell ⟨w3.heap.size,2,none⟩ (.slice D i2 j2)) 59 #[.string (ai (ci r.tail).t), .slice C i j, .slice D i2 j2];rw[show(w7.setCell ⟨w3.heap.size,2,none⟩ (.slice D i2 j2)).heap.size=w7.heap.size from(by simp[World.setCell])]at hN9;have hG9:=am HG8.out (hE.grownBy (some g));have hz9:=hG9.size;refine eW EV rfl _ _ rfl (w.heap.size+3) _ m (jO fs) rfl (by have:=hO9.2.1;rw[hm]at this;exact this) _ (Bk ⟨⟨(ci r.tail).t,ps,bd⟩, .slice C i j, .slice D i2 j2⟩) rfl hN9 rfl (by intro u hu;simp only[Bk,fC,ep,or_false]at hu;rcases hu with rfl|rfl|rfl<;>rfl) (by omega) (by decide) (by have:=HS8.out.lt;rw[World.size_alloc];omega) ?_;intro A' cap' w9 hq1 hq2 hq3;have HO9:=G (hO9.snocF hV9 hm hq1 hq2 hq3);have hS9:=(HS8.out.ext hE).grown hq2 (fun e=>by have:=hrw _ e.symm;omega);have hb9:=((Hb3.out.grown HQ8.out (fun e=>hbg (Z e))).ext hE).grown hq2 (fun e=>by have:=hrw _ e.symm;omega);have hB9:=((HB3.out.grown HQ8.out (fun e=>hrg (Z e))).ext hE).grown hq2 (fun e=>by have:=hrw _ e.symm;omega);have hP9:=(HP8.out.ext hE).grown hq2 (fun k e=>by have:=hrw k e;omega);have HG9:=G (show w.grownBy w9 (some g)from⟨hq2.os.trans hG9.os,hq2.tape.trans hG9.tape,hq2.output.trans hG9.output,aZ hG9.size hq2.size,fun i hi hne=>(hq2.block i (aA hi hG9.size) (fun e=>by have:=hrw i e.symm;omega)).trans (hG9.block i hi hne)⟩);have HS9:=G hS9;have Hb9:=G hb9;have HB9:=G hB9;have HP9:=G hP9;clear hsc hsf;have hsc:=hS9.cell;have hsf:=hS9.frozen;clear hq1 hq2 hq3 hE hrow hrow1 hrw hO9 hlow hlow1 hV9 hN9 hG9 hS9 hb9 hB9 hP9));have hs:=eC w9 (w.heap.size+2) 1 (.slice (some ⟨A',0,none⟩) (m+1) cap');have hs9:=HS9.out.set 1 (.slice (some ⟨A',0,none⟩) (m+1) cap');simp only[be,bP,bX]at hs9;have HON:=G (HO9.out.grown hs (fun k e=>by injection e with e;omega));have HPN:=G (HP9.out.grown hs (fun k e=>by injection e with e;omega));have HbN:=G (Hb9.out.grown hs (fun e=>by injection e with e;omega));have HBN:=G (HB9.out.grown hs (fun e=>by injection e with e;omega));have HGN:=G (dx HG9.out hs (by omega));have HSN:=G hs9;go_roundw
       case rel=>exact⟨k,vs,fs++[⟨⟨(ci r.tail).t,ps,bd⟩, .slice C i j, .slice D i2 j2⟩],q1,A,n,c,some ⟨A',0,none⟩,m+1,cap',by omega,by omega,hn0,by simp[hm],by omega,G (by simpa using HRN.out),HPN,HbN,HBN,HSN,HON,HGN⟩
       case measure=>rw[HPNr.out.tokN,HPN.out.tokN];omega
end
section
open Go.RowKit
section
variable {ts td:TypeId} {w W W':World} {s0 s1 vv fv:Value}
end
end
end Go.Proofs.YtddomeddabfinaaGreatDoor
