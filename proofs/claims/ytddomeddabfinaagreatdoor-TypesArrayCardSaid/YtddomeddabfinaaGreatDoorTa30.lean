/-
  Parts of the proof: TyF TyG TyH.
-/
import Derived.Test.YtddomeddabfinaaGreatDoorTa00
import Derived.Test.YtddomeddabfinaaGreatDoorTa28
import Derived.Test.YtddomeddabfinaaGreatDoorTa29
import Derived.Test.YtddomeddabfinaaGreatDoorTa02
set_option maxRecDepth 100000
set_option maxHeartbeats 8000000
set_option linter.unusedVariables false
set_option linter.unusedSimpArgs false
set_option linter.unusedSectionVars false
namespace Go.Proofs.YtddomeddabfinaaGreatDoor
open Go.Proofs.Tryz
section
open Go.RowKit
theorem rm {gl:Gl} {lo:Ls} {nm:List UInt8} {b:Bi} {l:List Ex} {j:Nat} (h:j<l.length):lh gl lo nm b j (l.drop j)=CR.then (if jb b j=true then kK gl lo l[j]else if oa (uJ b j) l[j].k=true then .error (nm,16)else if l[j].k=3 then jd gl lo l[j].nm else .ok ()) fun _=>lh gl lo nm b (j+1) (l.drop (j+1)):=by
 rw[aw h,lh]
def Dx (op nm tx:List UInt8) (v:Int) (xs:List Ex):Prop:= ∀(X:CB) (gl:Gl) (lv:Value) (lo:Ls) (P:Nat->Prop) (w:World) (A:Option Addr) (n c:Nat),CK X gl lv lo w->cu w P (.slice A n c) xs->
 Calls prog 185 #[X.p, .agg #[.int .i64 5, .string (ah op), .string (ah nm), .string (ah tx), .int .i64 v, .slice A n c]] w fun e w'=>e=bU (kK gl lo (.mk 5 op nm tx v xs))/\au w w'
theorem rR (op nm tx:List UInt8) (v:Int) (xs:List Ex) (hl:xs.length<=1073741824) (hnm:nm.length<=1073741824) (hb:dR nm=none) (hIH: ∀y∈xs,BP y):Dx op nm tx v xs:=by
 intro X gl lv lo P w A n c hK hR;obtain⟨A',c',hv,hf⟩:=hR.form;injection hv with hv1 hv2 hv3;subst hv1 hv2 hv3;have HR:=G hR;have HI:=G hIH;obtain⟨N,hN⟩: ∃N,xs.length=N:=⟨_,rfl⟩
 have HN:=G hN;rw[hN]at HR hl;obtain⟨Rv,hRv⟩: ∃R,kK gl lo (.mk 5 op nm tx v xs)=R:=⟨_,rfl⟩
 have HRv:=G (show Rv=match gl.fn nm with|none=> .error (nm,15)|some n=>if n=N then lh gl lo nm none 0 xs else .error (nm,16) by
  rw[<-hRv,kK,if_neg (by decide),if_neg (by decide),if_neg (by decide),if_pos rfl];unfold pd;rw[hb,<-hN]
  cases gl.fn nm<;>rfl)
 have hEA:=I w (.cells #[.int .i64 5, .string (ah op), .string (ah nm), .string (ah tx), .int .i64 v, .slice A N c] 70);have HE0:=G hEA;have HB0:=G (am w 70 #[.int .i64 5, .string (ah op), .string (ah nm), .string (ah tx), .int .i64 v, .slice A N c]);have HK0:=G (hK.ext hEA)
 have HBL:=G (show Calls prog 22 #[.string (ah nm)] (w.alloc (.cells #[.int .i64 5, .string (ah op), .string (ah nm), .string (ah tx), .int .i64 v, .slice A N c] 70)) fun e w'=>e= .returned (.tuple #[.int .i64 0, .string ⟨#[]⟩, .bool false])/\au (w.alloc (.cells #[.int .i64 5, .string (ah op), .string (ah nm), .string (ah tx), .int .i64 v, .slice A N c] 70)) w' from by
  have:=kt nm _ HK0.out.t;rw[hb]at this
  exact this)
 have HIN:=G (fun(i:Nat) (hi:i<=1073741824) (W:World)=>show Calls prog 55 #[.string ⟨#[]⟩, .bool false, .int .i64 (i:Int)] W fun e w'=>e= .returned (.bool true)/\au W w' from j9 none i hi (by simp[z7]) W);have HF:=G (fun n W=>dL nm n W);clear hR hf hIH hb hEA hK;rw[hN,hRv];clear hN hRv;obtain⟨g,bi,ba,bf,sv,sf⟩:=X;simp only[CB.p]at*
 cases hfn:gl.fn nm with
 |none=>
  have HE:=G (show Rv= .error (nm,15) by rw[HRv.out,hfn]);clear HI HIN HRv;go_enter func185,ntmps185;go_wp2_with (go_at_call 22;refine HBL.out.mono ?_;rintro e w1 ⟨rfl,hE⟩;have HX1:=G (HE0.out.trans hE);have HB1:=G (HB0.out.ext hE);have f0:=HB1.out.cell;have HK1:=G (HK0.out.ext hE);clear hE HBL HB0 HK0 HE0);refine ay 12 1 [] mixed (by kernel_rfl) trivial ?_;repeat (refine sx ?_ (fun w1 hU=> ?_) ?_;rotate_left;(focus have f0:=(HB1.out.ext hU.un).cell;have fk:=(HK1.out.ext hU.un).blk.cell;have f2:=(HK1.out.ext hU.un).lookF hnm;rw[hfn]at f2;simp only[dJ,cJ]at f2;clear hU;go_simp<;>with_reducible rfl);simp only[aY,aX,aW,aV,aU])
  intro w7 hw7 _;simp only[aa,aJ];have HX2:=G (HX1.out.trans hw7.un);clear f0;have f0:=(HB1.out.ext hw7.un).cell;clear hw7;go_wp2_with (go_at_call 73;refine(HF.out _ _).mono ?_;unfold a7;rintro e w2 ⟨rfl,hE⟩;have HY:=G (HX2.out.trans hE);clear hE HF);exact⟨rfl,by rw[HE.out];rfl,HY.out⟩
 |some k=>
  by_cases hkN:k=N
  ·subst hkN;have HE:=G (show Rv=lh gl lo nm none 0 xs by rw[HRv.out,hfn];simp);have HQ0:=G (show lh gl lo nm none 0 (xs.drop 0)=Rv from HE.out.symm);clear HRv;go_enter func185,ntmps185;go_wp2_with (go_at_call 22;refine HBL.out.mono ?_;rintro e w1 ⟨rfl,hE⟩;have HX1:=G (HE0.out.trans hE);have HB1:=G (HB0.out.ext hE);have f0:=HB1.out.cell;have HK1:=G (HK0.out.ext hE);clear hE HBL HB0 HK0 HE0);refine ay 12 1 [] mixed (by kernel_rfl) trivial ?_;repeat (refine sx ?_ (fun w1 hU=> ?_) ?_;rotate_left;(focus have f0:=(HB1.out.ext hU.un).cell;have fk:=(HK1.out.ext hU.un).blk.cell;have f2:=(HK1.out.ext hU.un).lookF hnm;rw[hfn]at f2;simp only[bz,cz]at f2;clear hU;go_simp<;>with_reducible rfl);simp only[aY,aX,aW,aV,aU])
   intro w7 hw7 _;simp only[aa,aJ];have HX2:=G (HX1.out.trans hw7.un);have HK2:=G (HK1.out.ext hw7.un);clear f0;have f0:=(HB1.out.ext hw7.un).cell;clear hw7 HX1 HK1 HB1;go_wp2_with fail;clear f0
   go_loopw [53] (fun vi wr=> ∃(j:Nat),vi= .int .i64 (j:Int)/\j<=k/\Hid (lh gl lo nm none j (xs.drop j)=Rv)/\Hid (au w wr)/\Hid (CK ⟨g,bi,ba,bf,sv,sf⟩ gl lv lo wr)) (fun vi _=>k-(intOf vi).toNat)
   case atStart=>exact⟨0,rfl,aF _,HQ0,HX2,HK2⟩
   case round=>
    obtain⟨j,rfl,hj,HQ,HX,HKj⟩:=hrel;by_cases hlt:j<k
    ·have hlt':(j:Int)<k:=by omega
     have hjl:j<xs.length:=by have:=HN.out;omega
     obtain⟨b,o,a,rfl,hb,hP,h0,h1,h2,h3,h4,h5,hRa⟩:=HR.out.at_ j hjl;have HS:=G (rm (gl:=gl) (lo:=lo) (nm:=nm) (b:=none) hjl);have hIy:=HI.out _ (ap hjl);generalize xs[j]=y at*;have e0:=(HX.out.cell b _ hb).trans h0;have e1:=(HX.out.cell b _ hb).trans h1;have e2:=(HX.out.cell b _ hb).trans h2;have e3:=(HX.out.cell b _ hb).trans h3;have e4:=(HX.out.cell b _ hb).trans h4;have e5:=(HX.out.cell b _ hb).trans h5;obtain⟨B,d,rfl,_⟩:=hRa.form;have HRa:=G ((hRa.keep (.of_ext HX.out) (Q:=P) (fun b hb _=>hb)).keep (.of_ext (I _ (.cells #[.int .i64 y.k, .string (ah y.op), .string (ah y.nm), .string (ah y.tx), .int .i64 y.v, .slice B y.args.length d] 70))) (Q:=P) (fun b hb _=>hb));have HB1:=G (am wr 70 #[.int .i64 y.k, .string (ah y.op), .string (ah y.nm), .string (ah y.tx), .int .i64 y.v, .slice B y.args.length d]);have HX1:=G (HX.out.alloc' (.cells #[.int .i64 y.k, .string (ah y.op), .string (ah y.nm), .string (ah y.tx), .int .i64 y.v, .slice B y.args.length d] 70));have HK1:=G (HKj.out.ext (I wr (.cells #[.int .i64 y.k, .string (ah y.op), .string (ah y.nm), .string (ah y.tx), .int .i64 y.v, .slice B y.args.length d] 70)));have HIy:=G (hIy ⟨g,bi,ba,bf,sv,sf⟩ gl lv lo P);have HIN1:=G (HIN.out j (by omega));clear h0 h1 h2 h3 h4 h5 hRa hIy;simp only[CB.p]at HIy;generalize kK gl lo y=r at*;rw[show jb none j=true from rfl]at HS;simp only[if_true]at HS
     cases r with
     |ok u=>
      go_wp2_with (first|(go_at_call 55;refine(HIN1.out _).mono ?_;rintro e w2 ⟨rfl,hE⟩;have HX3:=G (HX1.out.trans hE);have HE2:=G hE;have f1:=(HB1.out.ext hE).cell;have HK3:=G (HK1.out.ext hE);clear hE HIN1)|(go_at_call 156;refine(HIy.out _ B _ d HK3.out (HRa.out.keep (.of_ext HE2.out) (fun b hb _=>hb))).mono ?_;unfold bU;rintro e w3 ⟨rfl,hE⟩;have HY:=G (HX3.out.trans hE);have HKY:=G (HK3.out.ext hE);clear hE HIy));go_roundw
      case rel=>exact⟨j+1,by go_num,by omega,G (HS.out.symm.trans HQ.out),HY,HKY⟩
      case measure=>simp[intOf];omega
     |error q=>
      obtain⟨qn,n⟩:=q;have HFn:=G (show Rv= .error (qn,n)from HQ.out.symm.trans HS.out);go_wp2_with (first|(go_at_call 55;refine(HIN1.out _).mono ?_;rintro e w2 ⟨rfl,hE⟩;have HX3:=G (HX1.out.trans hE);have HE2:=G hE;have f1:=(HB1.out.ext hE).cell;have HK3:=G (HK1.out.ext hE);clear hE HIN1)|(go_at_call 156;refine(HIy.out _ B _ d HK3.out (HRa.out.keep (.of_ext HE2.out) (fun b hb _=>hb))).mono ?_;unfold bU a7;rintro e w3 ⟨rfl,hE⟩;have HY:=G (HX3.out.trans hE);clear hE HIy));exact⟨rfl,by rw[HFn.out];rfl,HY.out⟩
    ·have hlt': ¬(j:Int)<k:=by omega
     have HFn:=G (show Rv= .ok () by
      have:=HQ.out;rw[aD (by have:=HN.out;omega),lh]at this
      exact this.symm)
     go_wp2_with fail;exact bodyPost_end (results_none rfl _ _ _) rfl ⟨by rw[HFn.out];rfl,HX.out⟩
  ·have HE:=G (show Rv= .error (nm,16) by rw[HRv.out,hfn];simp[hkN]);have hkN':((k:Int) !=(N:Int))=true:=by simp;omega
   have hkN2:((k:Int)==(N:Int))=false:=by simp;omega
   clear HI HIN HRv;go_enter func185,ntmps185;go_wp2_with (go_at_call 22;refine HBL.out.mono ?_;rintro e w1 ⟨rfl,hE⟩;have HX1:=G (HE0.out.trans hE);have HB1:=G (HB0.out.ext hE);have f0:=HB1.out.cell;have HK1:=G (HK0.out.ext hE);clear hE HBL HB0 HK0 HE0);refine ay 12 1 [] mixed (by kernel_rfl) trivial ?_;repeat (refine sx ?_ (fun w1 hU=> ?_) ?_;rotate_left;(focus have f0:=(HB1.out.ext hU.un).cell;have fk:=(HK1.out.ext hU.un).blk.cell;have f2:=(HK1.out.ext hU.un).lookF hnm;rw[hfn]at f2;simp only[bz,cz]at f2;clear hU;go_simp<;>with_reducible rfl);simp only[aY,aX,aW,aV,aU])
   intro w7 hw7 _;simp only[aa,aJ];have HX2:=G (HX1.out.trans hw7.un);clear f0;have f0:=(HB1.out.ext hw7.un).cell;clear hw7;go_wp2_with (go_at_call 73;refine(HF.out _ _).mono ?_;unfold a7;rintro e w2 ⟨rfl,hE⟩;have HY:=G (HX2.out.trans hE);clear hE HF);exact⟨rfl,by rw[HE.out];rfl,HY.out⟩
end
section
open Go.RowKit
theorem rQ (op nm tx:List UInt8) (v:Int) (xs:List Ex) (hl:xs.length<=1073741824) (hnm:nm.length<=1073741824) (bc:Int) (ls:List UInt8) (hb:dR nm=some (bc,ls)) (hls:ls.length<=3) (hIH: ∀y∈xs,BP y) (hY2: ∀y∈xs,y.nm.length<=1073741824):Dx op nm tx v xs:=by
 intro X gl lv lo P w A n c hK hR;obtain⟨A',c',hv,hf⟩:=hR.form;injection hv with hv1 hv2 hv3;subst hv1 hv2 hv3;have HR:=G hR;have HI:=G hIH;have HY2:=G hY2;have HLT:=G (rr hb);obtain⟨N,hN⟩: ∃N,xs.length=N:=⟨_,rfl⟩
 have HN:=G hN;rw[hN]at HR hl;obtain⟨Rv,hRv⟩: ∃R,kK gl lo (.mk 5 op nm tx v xs)=R:=⟨_,rfl⟩
 have HRv:=G (show Rv=if ls.length=N then lh gl lo nm (some (bc,ls)) 0 xs else .error (nm,16) by
  rw[<-hRv,kK,if_neg (by decide),if_neg (by decide),if_neg (by decide),if_pos rfl];unfold pd
  rw[hb,<-hN])
 have hEA:=I w (.cells #[.int .i64 5, .string (ah op), .string (ah nm), .string (ah tx), .int .i64 v, .slice A N c] 70);have HE0:=G hEA;have HB0:=G (am w 70 #[.int .i64 5, .string (ah op), .string (ah nm), .string (ah tx), .int .i64 v, .slice A N c]);have HK0:=G (hK.ext hEA)
 have HBL:=G (show Calls prog 22 #[.string (ah nm)] (w.alloc (.cells #[.int .i64 5, .string (ah op), .string (ah nm), .string (ah tx), .int .i64 v, .slice A N c] 70)) fun e w'=>e= .returned (.tuple #[.int .i64 bc, .string (ah ls), .bool true])/\au (w.alloc (.cells #[.int .i64 5, .string (ah op), .string (ah nm), .string (ah tx), .int .i64 v, .slice A N c] 70)) w' from by
  have:=kt nm _ HK0.out.t;rw[hb]at this
  exact this)
 have HIN:=G (fun(i:Nat) (hi:i<=1073741824) (W:World)=>show Calls prog 55 #[.string (ah ls), .bool true, .int .i64 (i:Int)] W fun e w'=>e= .returned (.bool (jb (some (bc,ls)) i))/\au W w' from j9 (some (bc,ls)) i hi (by simp only[z7];omega) W);have HF:=G (fun n W=>dL nm n W);have hsz:=a6 ls;clear hR hf hIH hY2 hb hEA hK;rw[hN,hRv];clear hN hRv;obtain⟨g,bi,ba,bf,sv,sf⟩:=X;simp only[CB.p]at*;obtain⟨fo,hfn⟩: ∃fo,gl.fn nm=fo:=⟨_,rfl⟩
 cases fo;all_goals
  by_cases hkN:ls.length=N
  ·have HE:=G (show Rv=lh gl lo nm (some (bc,ls)) 0 xs by rw[HRv.out,if_pos hkN]);have HQ0:=G (show lh gl lo nm (some (bc,ls)) 0 (xs.drop 0)=Rv from HE.out.symm);have hkN1:((ls.length:Int) !=(N:Int))=false:=by simp[hkN]
   clear HRv;go_enter func185,ntmps185;go_wp2_with (go_at_call 22;refine HBL.out.mono ?_;rintro e w1 ⟨rfl,hE⟩;have HX1:=G (HE0.out.trans hE);have HB1:=G (HB0.out.ext hE);have f0:=HB1.out.cell;have HK1:=G (HK0.out.ext hE);clear hE HBL HB0 HK0 HE0);refine ay 12 1 [] mixed (by kernel_rfl) trivial ?_;repeat (refine sx ?_ (fun w1 hU=> ?_) ?_;rotate_left;(focus have f0:=(HB1.out.ext hU.un).cell;have fk:=(HK1.out.ext hU.un).blk.cell;have f2:=(HK1.out.ext hU.un).lookF hnm;rw[hfn]at f2;simp only[bz,dJ,cz,cJ]at f2;clear hU;go_simp<;>with_reducible rfl);simp only[aY,aX,aW,aV,aU])
   intro w7 hw7 _;simp only[aa,aJ];have HX2:=G (HX1.out.trans hw7.un);have HK2:=G (HK1.out.ext hw7.un);have HB2:=G (HB1.out.ext hw7.un);clear f0;have f0:=HB2.out.cell;clear hw7 HX1 HK1 HB1;go_wp2_with fail;clear f0
   go_loopw [53] (fun vi wr=> ∃(j:Nat),vi= .int .i64 (j:Int)/\j<=N/\Hid (lh gl lo nm (some (bc,ls)) j (xs.drop j)=Rv)/\Hid (au w wr)/\Hid (CK ⟨g,bi,ba,bf,sv,sf⟩ gl lv lo wr)/\Hid (aQ wr w.heap.size 70 #[.int .i64 5, .string (ah op), .string (ah nm), .string (ah tx), .int .i64 v, .slice A N c])) (fun vi _=>N-(intOf vi).toNat)
   case atStart=>exact⟨0,rfl,aF _,HQ0,HX2,HK2,HB2⟩
   case round=>
    obtain⟨j,rfl,hj,HQ,HX,HKj,HBj⟩:=hrel;by_cases hlt:j<N
    ·have hlt':(j:Int)<N:=by omega
     have hjl:j<xs.length:=by have:=HN.out;omega
     have hjs:j<ls.length:=by omega
     obtain⟨b,o,a,rfl,hb,hP,h0,h1,h2,h3,h4,h5,hRa⟩:=HR.out.at_ j hjl;have HS:=rm (gl:=gl) (lo:=lo) (nm:=nm) (b:=some (bc,ls)) hjl;have hIy:=HI.out _ (ap hjl);have hy2:=HY2.out _ (ap hjl);obtain⟨y,hy⟩: ∃y,xs[j]=y:=⟨_,rfl⟩
     rw[hy]at h0 h1 h2 h3 h4 hRa HS hIy hy2;clear hy;obtain⟨k2,op2,nm2,tx2,v2,as2⟩:=y;simp only[Ex.k,Ex.op,Ex.nm,Ex.tx,Ex.v,Ex.args]at h0 h1 h2 h3 h4 hRa HS hy2;have e0:=(HX.out.cell b _ hb).trans h0;have e1:=(HX.out.cell b _ hb).trans h1;have e2:=(HX.out.cell b _ hb).trans h2;have e3:=(HX.out.cell b _ hb).trans h3;have e4:=(HX.out.cell b _ hb).trans h4;have e5:=(HX.out.cell b _ hb).trans h5;obtain⟨B,d,rfl,_⟩:=hRa.form;have HRa:=G ((hRa.keep (.of_ext HX.out) (Q:=P) (fun b hb _=>hb)).keep (.of_ext (I _ (.cells #[.int .i64 k2, .string (ah op2), .string (ah nm2), .string (ah tx2), .int .i64 v2, .slice B as2.length d] 70))) (Q:=P) (fun b hb _=>hb));have HB1:=G (am wr 70 #[.int .i64 k2, .string (ah op2), .string (ah nm2), .string (ah tx2), .int .i64 v2, .slice B as2.length d]);have HX1:=G (HX.out.alloc' (.cells #[.int .i64 k2, .string (ah op2), .string (ah nm2), .string (ah tx2), .int .i64 v2, .slice B as2.length d] 70));have HK1:=G (HKj.out.ext (I wr (.cells #[.int .i64 k2, .string (ah op2), .string (ah nm2), .string (ah tx2), .int .i64 v2, .slice B as2.length d] 70)));have HIy:=G (hIy ⟨g,bi,ba,bf,sv,sf⟩ gl lv lo P);have HIN1:=G (HIN.out j (by omega));clear h0 h1 h2 h3 h4 h5 hRa hIy;simp only[CB.p,Ex.k,Ex.op,Ex.nm,Ex.tx,Ex.v,Ex.args]at HIy
     cases hia:jb (some (bc,ls)) j with
     |true=>
      rw[hia]at HS HIN1;simp only[if_true]at HS;generalize kK gl lo (.mk k2 op2 nm2 tx2 v2 as2)=r at*
      cases r with
      |ok u=>
       have HS:=G HS;go_wp2_with (first|(go_at_call 55;refine(HIN1.out _).mono ?_;rintro e w2 ⟨rfl,hE⟩;have HX3:=G (HX1.out.trans hE);have HE2:=G hE;have f1:=(HB1.out.ext hE).cell;have f0:=(HBj.out.ext ((I _ _).trans hE)).cell;have HK3:=G (HK1.out.ext hE);clear hE HIN1)|(go_at_call 156;refine(HIy.out _ B _ d HK3.out (HRa.out.keep (.of_ext HE2.out) (fun b hb _=>hb))).mono ?_;unfold bU;rintro e w3 ⟨rfl,hE⟩;have HY:=G (HX3.out.trans hE);have HKY:=G (HK3.out.ext hE);have HBY:=G (HBj.out.ext ((I _ _).trans (HE2.out.trans hE)));clear hE HIy));go_roundw
       case rel=>exact⟨j+1,by go_num,by omega,G (HS.out.symm.trans HQ.out),HY,HKY,HBY⟩
       case measure=>simp[intOf];omega
      |error q=>
       obtain⟨qn,n⟩:=q;have HS:=G HS;have HFn:=G (show Rv= .error (qn,n)from HQ.out.symm.trans HS.out);go_wp2_with (first|(go_at_call 55;refine(HIN1.out _).mono ?_;rintro e w2 ⟨rfl,hE⟩;have HX3:=G (HX1.out.trans hE);have HE2:=G hE;have f1:=(HB1.out.ext hE).cell;have f0:=(HBj.out.ext ((I _ _).trans hE)).cell;have HK3:=G (HK1.out.ext hE);clear hE HIN1)|(go_at_call 156;refine(HIy.out _ B _ d HK3.out (HRa.out.keep (.of_ext HE2.out) (fun b hb _=>hb))).mono ?_;unfold bU a7;rintro e w3 ⟨rfl,hE⟩;have HY:=G (HX3.out.trans hE);clear hE HIy));exact⟨rfl,by rw[HFn.out];rfl,HY.out⟩
     |false=>
      rw[hia]at HS HIN1;have hq:=HLT.out _ (ap hjs);have hix:=fun w=>l9 ls j hjs w;have hq5:ls[j]≠105:=by
       intro e;have:jb (some (bc,ls)) j=true:=by
        simp only[jb];rw[bE];right;rw[bM,aL hjs];simp[e]
       rw[this]at hia
       cases hia
      have hlt2:uJ (some (bc,ls)) j=ls[j]:=by simp only[uJ];rw[bM,aL hjs];rfl
      rw[hlt2]at HS;have hjs':(j:Int)<ls.length:=by omega
      generalize ls[j]=q at hq hix hq5 HS;simp only[aK,if_false]at HS;clear hia hlt2 HIy;rcases hq with rfl|rfl|rfl|rfl
      ·exact absurd rfl hq5
      ·have hix: ∀w,(Instr.index 9 (.string (ah ls)) (.int .i64 (j:Int))).run prog w= .ok (.int .u8 115) w:=hix;by_cases hk2:k2=2
       ·subst hk2;simp[oa]at HS;have HS:=G HS;go_wp2_with (go_at_call 55;refine(HIN1.out _).mono ?_;rintro e w2 ⟨rfl,hE⟩;have HX3:=G (HX1.out.trans hE);have HE2:=G hE;have f1:=(HB1.out.ext hE).cell;have f0:=(HBj.out.ext ((I _ _).trans hE)).cell;have HK3:=G (HK1.out.ext hE);clear hE HIN1);go_roundw
        case rel=>exact⟨j+1,by go_num,by omega,G (HS.out.symm.trans HQ.out),HX3,HK3,G (HBj.out.ext ((I _ _).trans HE2.out))⟩
        case measure=>simp[intOf];omega
       ·have n2:(k2 !=2)=true:=by simpa using hk2
        have m2:(k2==2)=false:=by simpa using hk2
        simp[oa,hk2]at HS;have HS:=G HS;have HFn:=G (show Rv= .error (nm,16)from HQ.out.symm.trans HS.out);go_wp2_with (first|(go_at_call 55;refine(HIN1.out _).mono ?_;rintro e w2 ⟨rfl,hE⟩;have HX3:=G (HX1.out.trans hE);have HE2:=G hE;have f1:=(HB1.out.ext hE).cell;have f0:=(HBj.out.ext ((I _ _).trans hE)).cell;have HK3:=G (HK1.out.ext hE);clear hE HIN1)|(go_at_call 73;refine(HF.out _ _).mono ?_;unfold a7;rintro e w4 ⟨rfl,hE⟩;have HY:=G (HX3.out.trans hE);clear hE HF));exact⟨rfl,by rw[HFn.out];rfl,HY.out⟩
      ·have hix: ∀w,(Instr.index 9 (.string (ah ls)) (.int .i64 (j:Int))).run prog w= .ok (.int .u8 97) w:=hix;by_cases hk3:k2=3
       ·subst hk3;simp[oa]at HS
        cases hca:jd gl lo nm2 with
        |ok u=>
         rw[hca]at HS;have HS:=G HS;go_wp2_with (first|(go_at_call 55;refine(HIN1.out _).mono ?_;rintro e w2 ⟨rfl,hE⟩;have HX3:=G (HX1.out.trans hE);have HE2:=G hE;have f1:=(HB1.out.ext hE).cell;have f0:=(HBj.out.ext ((I _ _).trans hE)).cell;have HK3:=G (HK1.out.ext hE);clear hE HIN1)|(go_at_call 120;refine(dX ⟨g,bi,ba,bf,sv,sf⟩ gl lv lo _ HK3.out nm2 hy2).mono ?_;rw[hca];unfold bU;rintro e w3 ⟨rfl,hE⟩;have HY:=G (HX3.out.trans hE);have HKY:=G (HK3.out.ext hE);have HBY:=G (HBj.out.ext ((I _ _).trans (HE2.out.trans hE)));clear hE));go_roundw
         case rel=>exact⟨j+1,by go_num,by omega,G (HS.out.symm.trans HQ.out),HY,HKY,HBY⟩
         case measure=>simp[intOf];omega
        |error q=>
         obtain⟨qn,n⟩:=q;rw[hca]at HS;have HS:=G HS;have HFn:=G (show Rv= .error (qn,n)from HQ.out.symm.trans HS.out);go_wp2_with (first|(go_at_call 55;refine(HIN1.out _).mono ?_;rintro e w2 ⟨rfl,hE⟩;have HX3:=G (HX1.out.trans hE);have HE2:=G hE;have f1:=(HB1.out.ext hE).cell;have f0:=(HBj.out.ext ((I _ _).trans hE)).cell;have HK3:=G (HK1.out.ext hE);clear hE HIN1)|(go_at_call 120;refine(dX ⟨g,bi,ba,bf,sv,sf⟩ gl lv lo _ HK3.out nm2 hy2).mono ?_;rw[hca];unfold bU a7;rintro e w3 ⟨rfl,hE⟩;have HY:=G (HX3.out.trans hE);clear hE));exact⟨rfl,by rw[HFn.out];rfl,HY.out⟩
       ·have n3:(k2 !=3)=true:=by simpa using hk3
        have m3:(k2==3)=false:=by simpa using hk3
        simp[oa,hk3]at HS;have HS:=G HS;have HFn:=G (show Rv= .error (nm,16)from HQ.out.symm.trans HS.out);go_wp2_with (first|(go_at_call 55;refine(HIN1.out _).mono ?_;rintro e w2 ⟨rfl,hE⟩;have HX3:=G (HX1.out.trans hE);have HE2:=G hE;have f1:=(HB1.out.ext hE).cell;have f0:=(HBj.out.ext ((I _ _).trans hE)).cell;have HK3:=G (HK1.out.ext hE);clear hE HIN1)|(go_at_call 73;refine(HF.out _ _).mono ?_;unfold a7;rintro e w4 ⟨rfl,hE⟩;have HY:=G (HX3.out.trans hE);clear hE HF));exact⟨rfl,by rw[HFn.out];rfl,HY.out⟩
      ·have hix: ∀w,(Instr.index 9 (.string (ah ls)) (.int .i64 (j:Int))).run prog w= .ok (.int .u8 98) w:=hix;by_cases hk3:k2=3
       ·subst hk3;simp[oa]at HS
        cases hca:jd gl lo nm2 with
        |ok u=>
         rw[hca]at HS;have HS:=G HS;go_wp2_with (first|(go_at_call 55;refine(HIN1.out _).mono ?_;rintro e w2 ⟨rfl,hE⟩;have HX3:=G (HX1.out.trans hE);have HE2:=G hE;have f1:=(HB1.out.ext hE).cell;have f0:=(HBj.out.ext ((I _ _).trans hE)).cell;have HK3:=G (HK1.out.ext hE);clear hE HIN1)|(go_at_call 120;refine(dX ⟨g,bi,ba,bf,sv,sf⟩ gl lv lo _ HK3.out nm2 hy2).mono ?_;rw[hca];unfold bU;rintro e w3 ⟨rfl,hE⟩;have HY:=G (HX3.out.trans hE);have HKY:=G (HK3.out.ext hE);have HBY:=G (HBj.out.ext ((I _ _).trans (HE2.out.trans hE)));clear hE));go_roundw
         case rel=>exact⟨j+1,by go_num,by omega,G (HS.out.symm.trans HQ.out),HY,HKY,HBY⟩
         case measure=>simp[intOf];omega
        |error q=>
         obtain⟨qn,n⟩:=q;rw[hca]at HS;have HS:=G HS;have HFn:=G (show Rv= .error (qn,n)from HQ.out.symm.trans HS.out);go_wp2_with (first|(go_at_call 55;refine(HIN1.out _).mono ?_;rintro e w2 ⟨rfl,hE⟩;have HX3:=G (HX1.out.trans hE);have HE2:=G hE;have f1:=(HB1.out.ext hE).cell;have f0:=(HBj.out.ext ((I _ _).trans hE)).cell;have HK3:=G (HK1.out.ext hE);clear hE HIN1)|(go_at_call 120;refine(dX ⟨g,bi,ba,bf,sv,sf⟩ gl lv lo _ HK3.out nm2 hy2).mono ?_;rw[hca];unfold bU a7;rintro e w3 ⟨rfl,hE⟩;have HY:=G (HX3.out.trans hE);clear hE));exact⟨rfl,by rw[HFn.out];rfl,HY.out⟩
       ·have n3:(k2 !=3)=true:=by simpa using hk3
        have m3:(k2==3)=false:=by simpa using hk3
        by_cases hk2:k2=2
        ·subst hk2;simp[oa]at HS;have HS:=G HS;go_wp2_with (go_at_call 55;refine(HIN1.out _).mono ?_;rintro e w2 ⟨rfl,hE⟩;have HX3:=G (HX1.out.trans hE);have HE2:=G hE;have f1:=(HB1.out.ext hE).cell;have f0:=(HBj.out.ext ((I _ _).trans hE)).cell;have HK3:=G (HK1.out.ext hE);clear hE HIN1);go_roundw
         case rel=>exact⟨j+1,by go_num,by omega,G (HS.out.symm.trans HQ.out),HX3,HK3,G (HBj.out.ext ((I _ _).trans HE2.out))⟩
         case measure=>simp[intOf];omega
        ·have n2:(k2 !=2)=true:=by simpa using hk2
         have m2:(k2==2)=false:=by simpa using hk2
         simp[oa,hk3,hk2]at HS;have HS:=G HS;have HFn:=G (show Rv= .error (nm,16)from HQ.out.symm.trans HS.out);go_wp2_with (first|(go_at_call 55;refine(HIN1.out _).mono ?_;rintro e w2 ⟨rfl,hE⟩;have HX3:=G (HX1.out.trans hE);have HE2:=G hE;have f1:=(HB1.out.ext hE).cell;have f0:=(HBj.out.ext ((I _ _).trans hE)).cell;have HK3:=G (HK1.out.ext hE);clear hE HIN1)|(go_at_call 73;refine(HF.out _ _).mono ?_;unfold a7;rintro e w4 ⟨rfl,hE⟩;have HY:=G (HX3.out.trans hE);clear hE HF));exact⟨rfl,by rw[HFn.out];rfl,HY.out⟩
    ·have hlt': ¬(j:Int)<N:=by omega
     have HFn:=G (show Rv= .ok () by
      have:=HQ.out;rw[aD (by have:=HN.out;omega),lh]at this
      exact this.symm)
     go_wp2_with fail;exact bodyPost_end (results_none rfl _ _ _) rfl ⟨by rw[HFn.out];rfl,HX.out⟩
  ·have HE:=G (show Rv= .error (nm,16) by rw[HRv.out,if_neg hkN]);have hkN':((ls.length:Int) !=(N:Int))=true:=by simp;omega
   have hkN2:((ls.length:Int)==(N:Int))=false:=by simp;omega
   clear HI HIN HRv;go_enter func185,ntmps185;go_wp2_with (go_at_call 22;refine HBL.out.mono ?_;rintro e w1 ⟨rfl,hE⟩;have HX1:=G (HE0.out.trans hE);have HB1:=G (HB0.out.ext hE);have f0:=HB1.out.cell;have HK1:=G (HK0.out.ext hE);clear hE HBL HB0 HK0 HE0);refine ay 12 1 [] mixed (by kernel_rfl) trivial ?_;repeat (refine sx ?_ (fun w1 hU=> ?_) ?_;rotate_left;(focus have f0:=(HB1.out.ext hU.un).cell;have fk:=(HK1.out.ext hU.un).blk.cell;have f2:=(HK1.out.ext hU.un).lookF hnm;rw[hfn]at f2;simp only[bz,dJ,cz,cJ]at f2;clear hU;go_simp<;>with_reducible rfl);simp only[aY,aX,aW,aV,aU])
   intro w7 hw7 _;simp only[aa,aJ];have HX2:=G (HX1.out.trans hw7.un);have HK2:=G (HK1.out.ext hw7.un);have HB2:=G (HB1.out.ext hw7.un);clear f0;have f0:=HB2.out.cell;clear hw7 HX1 HK1 HB1;go_wp2_with (go_at_call 73;refine(HF.out _ _).mono ?_;unfold a7;rintro e w2 ⟨rfl,hE⟩;have HY:=G (HX2.out.trans hE);clear hE HF);exact⟨rfl,by rw[HE.out];rfl,HY.out⟩
end
section
open Go.RowKit
theorem rP (k:Int) (op nm tx:List UInt8) (v:Int) (xs:List Ex) (hnm:nm.length<=1073741824) (hLs:Ak xs) (hC:k=5->Dx op nm tx v xs):BP (.mk k op nm tx v xs):=by
 intro X gl lv lo P w A n c hK hR;obtain⟨Rv,hRv⟩: ∃R,kK gl lo (.mk k op nm tx v xs)=R:=⟨_,rfl⟩
 have HD:=G (hRv.symm.trans (kK.eq_1 gl lo k op nm tx v xs));simp only[Ex.k,Ex.op,Ex.nm,Ex.tx,Ex.v,Ex.args]at*;rw[hRv];clear hRv;by_cases h3:k=3
 ·subst h3;have hE:=HD.out;rw[if_pos rfl]at hE;have HE0:=G (I w (.cells #[.int .i64 3, .string (ah op), .string (ah nm), .string (ah tx), .int .i64 v, .slice A n c] 70));have hB0:=am w 70 #[.int .i64 3, .string (ah op), .string (ah nm), .string (ah tx), .int .i64 v, .slice A n c];have HB0:=G hB0;have HK0:=G (hK.ext HE0.out);have HR0:=G (hR.keep (.of_ext HE0.out) (Q:=P) (fun b hb _=>hb));clear hK hR hB0
  cases hr:nV gl lo nm with
  |ok u=>
   have HE:=G (hE.trans hr);go_enter func156,ntmps156;go_wp2_with (go_at_call 119;refine(eD X gl lv lo _ HK0.out nm hnm).mono ?_;rw[hr];unfold bU;rintro e w1 ⟨rfl,hE⟩;have HX:=G (HE0.out.trans hE);clear hE);exact bodyPost_end (results_none rfl _ _ _) rfl ⟨by rw[HE.out];rfl,HX.out⟩
  |error q=>
   obtain⟨qn,m⟩:=q;have HE:=G (hE.trans hr);go_enter func156,ntmps156;go_wp2_with (go_at_call 119;refine(eD X gl lv lo _ HK0.out nm hnm).mono ?_;rw[hr];unfold bU a7;rintro e w1 ⟨rfl,hE⟩;have HX:=G (HE0.out.trans hE);clear hE);exact⟨rfl,by rw[HE.out];rfl,HX.out⟩
 by_cases h4:k=4
 ·subst h4;have hE:=HD.out;rw[if_neg (by decide),if_pos rfl]at hE;have HE0:=G (I w (.cells #[.int .i64 4, .string (ah op), .string (ah nm), .string (ah tx), .int .i64 v, .slice A n c] 70));have hB0:=am w 70 #[.int .i64 4, .string (ah op), .string (ah nm), .string (ah tx), .int .i64 v, .slice A n c];have HB0:=G hB0;have HK0:=G (hK.ext HE0.out);have HR0:=G (hR.keep (.of_ext HE0.out) (Q:=P) (fun b hb _=>hb));clear hK hR hB0
  cases hr:jd gl lo nm with
  |ok u=>
   rw[hr,de]at hE
   cases hs:lR gl lo xs with
   |ok u=>
    have HE:=G (hE.trans hs);go_enter func156,ntmps156;go_wp2_with (first|(go_at_call 120;refine(dX X gl lv lo _ HK0.out nm hnm).mono ?_;rw[hr];unfold bU;rintro e w1 ⟨rfl,hE⟩;have HX:=G (HE0.out.trans hE);have HE1:=G hE;have f0:=(HB0.out.ext hE).cell;clear hE)|(go_at_call 121;refine(hLs X gl lv lo P _ A n c (HK0.out.ext HE1.out) (HR0.out.keep (.of_ext HE1.out) (fun b hb _=>hb))).mono ?_;rw[hs];unfold bU;rintro e w2 ⟨rfl,hE⟩;have HY:=G (HX.out.trans hE);clear hE));exact bodyPost_end (results_none rfl _ _ _) rfl ⟨by rw[HE.out];rfl,HY.out⟩
   |error q=>
    obtain⟨qn,m⟩:=q;have HE:=G (hE.trans hs);go_enter func156,ntmps156;go_wp2_with (first|(go_at_call 120;refine(dX X gl lv lo _ HK0.out nm hnm).mono ?_;rw[hr];unfold bU;rintro e w1 ⟨rfl,hE⟩;have HX:=G (HE0.out.trans hE);have HE1:=G hE;have f0:=(HB0.out.ext hE).cell;clear hE)|(go_at_call 121;refine(hLs X gl lv lo P _ A n c (HK0.out.ext HE1.out) (HR0.out.keep (.of_ext HE1.out) (fun b hb _=>hb))).mono ?_;rw[hs];unfold bU a7;rintro e w2 ⟨rfl,hE⟩;have HY:=G (HX.out.trans hE);clear hE));exact⟨rfl,by rw[HE.out];rfl,HY.out⟩
  |error q=>
   obtain⟨qn,m⟩:=q;rw[hr,fA]at hE;have HE:=G hE;go_enter func156,ntmps156;go_wp2_with (go_at_call 120;refine(dX X gl lv lo _ HK0.out nm hnm).mono ?_;rw[hr];unfold bU a7;rintro e w1 ⟨rfl,hE⟩;have HX:=G (HE0.out.trans hE);clear hE);exact⟨rfl,by rw[HE.out];rfl,HX.out⟩
 by_cases h2:k=2
 ·subst h2;have hE:=HD.out;rw[if_neg (by decide),if_neg (by decide),if_pos rfl]at hE;have HE:=G hE;have HE0:=G (I w (.cells #[.int .i64 2, .string (ah op), .string (ah nm), .string (ah tx), .int .i64 v, .slice A n c] 70));have hB0:=am w 70 #[.int .i64 2, .string (ah op), .string (ah nm), .string (ah tx), .int .i64 v, .slice A n c];have HB0:=G hB0;have HK0:=G (hK.ext HE0.out);have HR0:=G (hR.keep (.of_ext HE0.out) (Q:=P) (fun b hb _=>hb));clear hK hR hB0;have HF:=G (fun W=>show Calls prog 73 #[.string ⟨#[]⟩, .int .i64 16] W fun e w'=>e=a7 [] 16/\au W w' from dL [] 16 W);go_enter func156,ntmps156;go_wp2_with (go_at_call 73;refine(HF.out _).mono ?_;unfold a7;rintro e w1 ⟨rfl,hE⟩;have HX:=G (HE0.out.trans hE);clear hE);exact⟨rfl,by rw[HE.out];rfl,HX.out⟩
 by_cases h5:k=5
 ·subst h5;have HC:=G (hC rfl);have HD:=G (show kK gl lo (.mk 5 op nm tx v xs)=Rv by rw[HD.out,kK]);have HE0:=G (I w (.cells #[.int .i64 5, .string (ah op), .string (ah nm), .string (ah tx), .int .i64 v, .slice A n c] 70));have hB0:=am w 70 #[.int .i64 5, .string (ah op), .string (ah nm), .string (ah tx), .int .i64 v, .slice A n c];have HB0:=G hB0;have HK0:=G (hK.ext HE0.out);have HR0:=G (hR.keep (.of_ext HE0.out) (Q:=P) (fun b hb _=>hb));clear hK hR hB0
  cases hr:kK gl lo (.mk 5 op nm tx v xs)with
  |ok u=>
   have HE:=G (HD.out.symm.trans hr);go_enter func156,ntmps156;go_wp2_with (go_at_call 185;refine(HC.out X gl lv lo P _ A n c HK0.out HR0.out).mono ?_;rw[hr];unfold bU;rintro e w1 ⟨rfl,hE⟩;have HX:=G (HE0.out.trans hE);clear hE);exact bodyPost_end (results_none rfl _ _ _) rfl ⟨by rw[HE.out];rfl,HX.out⟩
  |error q=>
   obtain⟨qn,m⟩:=q;have HE:=G (HD.out.symm.trans hr);go_enter func156,ntmps156;go_wp2_with (go_at_call 185;refine(HC.out X gl lv lo P _ A n c HK0.out HR0.out).mono ?_;rw[hr];unfold bU a7;rintro e w1 ⟨rfl,hE⟩;have HX:=G (HE0.out.trans hE);clear hE);exact⟨rfl,by rw[HE.out];rfl,HX.out⟩
 by_cases h6:k=6
 ·subst h6;have hE:=HD.out;rw[if_neg (by decide),if_neg (by decide),if_neg (by decide),if_neg (by decide),if_pos (by decide)]at hE;have HE0:=G (I w (.cells #[.int .i64 6, .string (ah op), .string (ah nm), .string (ah tx), .int .i64 v, .slice A n c] 70));have hB0:=am w 70 #[.int .i64 6, .string (ah op), .string (ah nm), .string (ah tx), .int .i64 v, .slice A n c];have HB0:=G hB0;have HK0:=G (hK.ext HE0.out);have HR0:=G (hR.keep (.of_ext HE0.out) (Q:=P) (fun b hb _=>hb));clear hK hR hB0
  cases hr:lR gl lo xs with
  |ok u=>
   have HE:=G (hE.trans hr);go_enter func156,ntmps156;go_wp2_with (go_at_call 121;refine(hLs X gl lv lo P _ A n c HK0.out HR0.out).mono ?_;rw[hr];unfold bU;rintro e w1 ⟨rfl,hE⟩;have HX:=G (HE0.out.trans hE);clear hE);exact bodyPost_end (results_none rfl _ _ _) rfl ⟨by rw[HE.out];rfl,HX.out⟩
  |error q=>
   obtain⟨qn,m⟩:=q;have HE:=G (hE.trans hr);go_enter func156,ntmps156;go_wp2_with (go_at_call 121;refine(hLs X gl lv lo P _ A n c HK0.out HR0.out).mono ?_;rw[hr];unfold bU a7;rintro e w1 ⟨rfl,hE⟩;have HX:=G (HE0.out.trans hE);clear hE);exact⟨rfl,by rw[HE.out];rfl,HX.out⟩
 by_cases h7:k=7
 ·subst h7;have hE:=HD.out;rw[if_neg (by decide),if_neg (by decide),if_neg (by decide),if_neg (by decide),if_pos (by decide)]at hE;have HE0:=G (I w (.cells #[.int .i64 7, .string (ah op), .string (ah nm), .string (ah tx), .int .i64 v, .slice A n c] 70));have hB0:=am w 70 #[.int .i64 7, .string (ah op), .string (ah nm), .string (ah tx), .int .i64 v, .slice A n c];have HB0:=G hB0;have HK0:=G (hK.ext HE0.out);have HR0:=G (hR.keep (.of_ext HE0.out) (Q:=P) (fun b hb _=>hb));clear hK hR hB0
  cases hr:lR gl lo xs with
  |ok u=>
   have HE:=G (hE.trans hr);go_enter func156,ntmps156;go_wp2_with (go_at_call 121;refine(hLs X gl lv lo P _ A n c HK0.out HR0.out).mono ?_;rw[hr];unfold bU;rintro e w1 ⟨rfl,hE⟩;have HX:=G (HE0.out.trans hE);clear hE);exact bodyPost_end (results_none rfl _ _ _) rfl ⟨by rw[HE.out];rfl,HX.out⟩
  |error q=>
   obtain⟨qn,m⟩:=q;have HE:=G (hE.trans hr);go_enter func156,ntmps156;go_wp2_with (go_at_call 121;refine(hLs X gl lv lo P _ A n c HK0.out HR0.out).mono ?_;rw[hr];unfold bU a7;rintro e w1 ⟨rfl,hE⟩;have HX:=G (HE0.out.trans hE);clear hE);exact⟨rfl,by rw[HE.out];rfl,HX.out⟩
 have hE:=HD.out;rw[if_neg h3,if_neg h4,if_neg h2,if_neg h5,if_neg (by omega)]at hE;have HE:=G hE;have HX:=G (I w (.cells #[.int .i64 k, .string (ah op), .string (ah nm), .string (ah tx), .int .i64 v, .slice A n c] 70));have q3:=beq_eq_false_iff_ne.2 h3;have q4:=beq_eq_false_iff_ne.2 h4;have q2:=beq_eq_false_iff_ne.2 h2;have q5:=beq_eq_false_iff_ne.2 h5;have q6:=beq_eq_false_iff_ne.2 h6;have q7:=beq_eq_false_iff_ne.2 h7;clear hK hR;go_enter func156,ntmps156;go_wp2_with fail;exact bodyPost_end (results_none rfl _ _ _) rfl ⟨by rw[HE.out];rfl,HX.out⟩
theorem oE: ∀(m:Nat) (x:Ex),x.wt<=m->x.wt<=1073741824->BP x
 |0,x,h,_=>absurd h (by have:=x.wt_eq;omega)
 |m+1, .mk k op nm tx v xs,h,hw=>by
  rw[Ex.wt]at h hw;have hIH: ∀y∈xs,BP y:=fun y hy=>oE m y (by have:=dE hy;omega) (by have:=dE hy;omega);have hl:=dw xs;have hY2: ∀y∈xs,y.nm.length<=1073741824:=fun y hy=>by have:=dE hy;have:=y.wt_eq;omega
  refine rP k op nm tx v xs (by omega) (oX xs (by omega) hIH) fun hk=> ?_
  cases hb:dR nm with
  |none=>exact rR op nm tx v xs (by omega) (by omega) hb hIH
  |some b=>
   obtain⟨bc,ls⟩:=b;have hls:=qa nm;rw[hb]at hls;exact rQ op nm tx v xs (by omega) (by omega) bc ls hb hls hIH hY2
theorem rO (xs:List Ex) (h:fF xs<=1073741824):Ak xs:=oX xs (by have:=dw xs;omega) fun y hy=>oE _ y (ag _) (by have:=dE hy;omega)
end
end Go.Proofs.YtddomeddabfinaaGreatDoor
