/-
  Parts of the proof: TyF TyG TyH TyI ParZ OwnQ.
-/
import Derived.Test.YtddomeddabfinaaGreatDoorTp00
import Derived.Test.YtddomeddabfinaaGreatDoorTp20
import Derived.Test.YtddomeddabfinaaGreatDoorTp21
import Derived.Test.YtddomeddabfinaaGreatDoorTp01
import Derived.LoopN
import Derived.Test.YtddomeddabfinaaGreatDoorTp07
set_option maxRecDepth 100000
set_option maxHeartbeats 8000000
set_option linter.unusedVariables false
set_option linter.unusedSimpArgs false
set_option linter.unusedSectionVars false
namespace Go.Proofs.YtddomeddabfinaaGreatDoor
open Go.Proofs.Tryz
section
open Go.RowKit
theorem r6 {gl:Gl} {lo:Ls} {nm:List UInt8} {b:Bi} {l:List Ex} {j:Nat} (h:j<l.length):nt gl lo nm b j (l.drop j)=CR.then (if kh b j=true then nc gl lo l[j]else if ph (yC b j) l[j].k=true then .error (nm,16)else if l[j].k=3 then kK gl lo l[j].nm else .ok ()) fun _=>nt gl lo nm b (j+1) (l.drop (j+1)):=by
 rw[ax h,nt]
def Fa (op nm tx:List UInt8) (v:Int) (xs:List Ex):Prop:= ∀(X:CB) (gl:Gl) (lv:Value) (lo:Ls) (P:Nat->Prop) (w:World) (A:Option Addr) (n c:Nat),CK X gl lv lo w->cJ w P (.slice A n c) xs->
 Calls prog 185 #[X.p, .agg #[.int .i64 5, .string (ai op), .string (ai nm), .string (ai tx), .int .i64 v, .slice A n c]] w fun e w'=>e=b_ (nc gl lo (.mk 5 op nm tx v xs))/\au w w'
theorem sK (op nm tx:List UInt8) (v:Int) (xs:List Ex) (hl:xs.length<=1073741824) (hnm:nm.length<=1073741824) (hb:ew nm=none) (hIH: ∀y∈xs,Dk y):Fa op nm tx v xs:=by
 intro X gl lv lo P w A n c hK hR;obtain⟨A',c',hv,hf⟩:=hR.form;injection hv with hv1 hv2 hv3;subst hv1 hv2 hv3;have HR:=G hR;have HI:=G hIH;obtain⟨N,hN⟩: ∃N,xs.length=N:=⟨_,rfl⟩
 have HN:=G hN;rw[hN]at HR hl;obtain⟨Rv,hRv⟩: ∃R,nc gl lo (.mk 5 op nm tx v xs)=R:=⟨_,rfl⟩
 have HRv:=G (show Rv=match gl.fn nm with|none=> .error (nm,15)|some n=>if n=N then nt gl lo nm none 0 xs else .error (nm,16) by
  rw[<-hRv,nc,if_neg (by decide),if_neg (by decide),if_neg (by decide),if_pos rfl];unfold uJ;rw[hb,<-hN]
  cases gl.fn nm<;>rfl)
 have hEA:=O w (.cells #[.int .i64 5, .string (ai op), .string (ai nm), .string (ai tx), .int .i64 v, .slice A N c] 70);have HE0:=G hEA;have HB0:=G (ap w 70 #[.int .i64 5, .string (ai op), .string (ai nm), .string (ai tx), .int .i64 v, .slice A N c]);have HK0:=G (hK.ext hEA)
 have HBL:=G (show Calls prog 22 #[.string (ai nm)] (w.alloc (.cells #[.int .i64 5, .string (ai op), .string (ai nm), .string (ai tx), .int .i64 v, .slice A N c] 70)) fun e w'=>e= .returned (.tuple #[.int .i64 0, .string ⟨#[]⟩, .bool false])/\au (w.alloc (.cells #[.int .i64 5, .string (ai op), .string (ai nm), .string (ai tx), .int .i64 v, .slice A N c] 70)) w' from by
  have:=kV nm _ HK0.out.t;rw[hb]at this
  exact this)
 have HIN:=G (fun(i:Nat) (hi:i<=1073741824) (W:World)=>show Calls prog 55 #[.string ⟨#[]⟩, .bool false, .int .i64 (i:Int)] W fun e w'=>e= .returned (.bool true)/\au W w' from kE none i hi (by simp[Bw]) W);have HF:=G (fun n W=>dV nm n W);clear hR hf hIH hb hEA hK;rw[hN,hRv];clear hN hRv;obtain⟨g,bi,ba,bf,sv,sf⟩:=X;simp only[CB.p]at*
 cases hfn:gl.fn nm with
 |none=>
  have HE:=G (show Rv= .error (nm,15) by rw[HRv.out,hfn]);clear HI HIN HRv;go_enter func185,ntmps185;go_wp2_with (go_at_call 22;refine HBL.out.mono ?_;rintro e w1 ⟨rfl,hE⟩;have HX1:=G (HE0.out.trans hE);have HB1:=G (HB0.out.ext hE);have f0:=HB1.out.cell;have HK1:=G (HK0.out.ext hE);clear hE HBL HB0 HK0 HE0);refine az 12 1 [] mixed (by kernel_rfl) trivial ?_;repeat (refine sx ?_ (fun w1 hU=> ?_) ?_;rotate_left;(focus have f0:=(HB1.out.ext hU.un).cell;have fk:=(HK1.out.ext hU.un).blk.cell;have f2:=(HK1.out.ext hU.un).lookF hnm;rw[hfn]at f2;simp only[dT,cW]at f2;clear hU;go_simp<;>with_reducible rfl);simp only[aY,aX,aW,aV,aU])
  intro w7 hw7 _;simp only[ac,aL];have HX2:=G (HX1.out.trans hw7.un);clear f0;have f0:=(HB1.out.ext hw7.un).cell;clear hw7;go_wp2_with (go_at_call 73;refine(HF.out _ _).mono ?_;unfold bg;rintro e w2 ⟨rfl,hE⟩;have HY:=G (HX2.out.trans hE);clear hE HF);exact⟨rfl,by rw[HE.out];rfl,HY.out⟩
 |some k=>
  by_cases hkN:k=N
  ·subst hkN;have HE:=G (show Rv=nt gl lo nm none 0 xs by rw[HRv.out,hfn];simp);have HQ0:=G (show nt gl lo nm none 0 (xs.drop 0)=Rv from HE.out.symm);clear HRv;go_enter func185,ntmps185;go_wp2_with (go_at_call 22;refine HBL.out.mono ?_;rintro e w1 ⟨rfl,hE⟩;have HX1:=G (HE0.out.trans hE);have HB1:=G (HB0.out.ext hE);have f0:=HB1.out.cell;have HK1:=G (HK0.out.ext hE);clear hE HBL HB0 HK0 HE0);refine az 12 1 [] mixed (by kernel_rfl) trivial ?_;repeat (refine sx ?_ (fun w1 hU=> ?_) ?_;rotate_left;(focus have f0:=(HB1.out.ext hU.un).cell;have fk:=(HK1.out.ext hU.un).blk.cell;have f2:=(HK1.out.ext hU.un).lookF hnm;rw[hfn]at f2;simp only[bC,cK]at f2;clear hU;go_simp<;>with_reducible rfl);simp only[aY,aX,aW,aV,aU])
   intro w7 hw7 _;simp only[ac,aL];have HX2:=G (HX1.out.trans hw7.un);have HK2:=G (HK1.out.ext hw7.un);clear f0;have f0:=(HB1.out.ext hw7.un).cell;clear hw7 HX1 HK1 HB1;go_wp2_with fail;clear f0
   go_loopw [53] (fun vi wr=> ∃(j:Nat),vi= .int .i64 (j:Int)/\j<=k/\Hid (nt gl lo nm none j (xs.drop j)=Rv)/\Hid (au w wr)/\Hid (CK ⟨g,bi,ba,bf,sv,sf⟩ gl lv lo wr)) (fun vi _=>k-(intOf vi).toNat)
   case atStart=>exact⟨0,rfl,aB _,HQ0,HX2,HK2⟩
   case round=>
    obtain⟨j,rfl,hj,HQ,HX,HKj⟩:=hrel;by_cases hlt:j<k
    ·have hlt':(j:Int)<k:=by omega
     have hjl:j<xs.length:=by have:=HN.out;omega
     obtain⟨b,o,a,rfl,hb,hP,h0,h1,h2,h3,h4,h5,hRa⟩:=HR.out.at_ j hjl;have HS:=G (r6 (gl:=gl) (lo:=lo) (nm:=nm) (b:=none) hjl);have hIy:=HI.out _ (aq hjl);generalize xs[j]=y at*;have e0:=(HX.out.cell b _ hb).trans h0;have e1:=(HX.out.cell b _ hb).trans h1;have e2:=(HX.out.cell b _ hb).trans h2;have e3:=(HX.out.cell b _ hb).trans h3;have e4:=(HX.out.cell b _ hb).trans h4;have e5:=(HX.out.cell b _ hb).trans h5;obtain⟨B,d,rfl,_⟩:=hRa.form;have HRa:=G ((hRa.keep (.of_ext HX.out) (Q:=P) (fun b hb _=>hb)).keep (.of_ext (O _ (.cells #[.int .i64 y.k, .string (ai y.op), .string (ai y.nm), .string (ai y.tx), .int .i64 y.v, .slice B y.args.length d] 70))) (Q:=P) (fun b hb _=>hb));have HB1:=G (ap wr 70 #[.int .i64 y.k, .string (ai y.op), .string (ai y.nm), .string (ai y.tx), .int .i64 y.v, .slice B y.args.length d]);have HX1:=G (HX.out.alloc' (.cells #[.int .i64 y.k, .string (ai y.op), .string (ai y.nm), .string (ai y.tx), .int .i64 y.v, .slice B y.args.length d] 70));have HK1:=G (HKj.out.ext (O wr (.cells #[.int .i64 y.k, .string (ai y.op), .string (ai y.nm), .string (ai y.tx), .int .i64 y.v, .slice B y.args.length d] 70)));have HIy:=G (hIy ⟨g,bi,ba,bf,sv,sf⟩ gl lv lo P);have HIN1:=G (HIN.out j (by omega));clear h0 h1 h2 h3 h4 h5 hRa hIy;simp only[CB.p]at HIy;generalize nc gl lo y=r at*;rw[show kh none j=true from rfl]at HS;simp only[if_true]at HS
     cases r with
     |ok u=>
      go_wp2_with (first|(go_at_call 55;refine(HIN1.out _).mono ?_;rintro e w2 ⟨rfl,hE⟩;have HX3:=G (HX1.out.trans hE);have HE2:=G hE;have f1:=(HB1.out.ext hE).cell;have HK3:=G (HK1.out.ext hE);clear hE HIN1)|(go_at_call 156;refine(HIy.out _ B _ d HK3.out (HRa.out.keep (.of_ext HE2.out) (fun b hb _=>hb))).mono ?_;unfold b_;rintro e w3 ⟨rfl,hE⟩;have HY:=G (HX3.out.trans hE);have HKY:=G (HK3.out.ext hE);clear hE HIy));go_roundw
      case rel=>exact⟨j+1,by go_num,by omega,G (HS.out.symm.trans HQ.out),HY,HKY⟩
      case measure=>simp[intOf];omega
     |error q=>
      obtain⟨qn,n⟩:=q;have HFn:=G (show Rv= .error (qn,n)from HQ.out.symm.trans HS.out);go_wp2_with (first|(go_at_call 55;refine(HIN1.out _).mono ?_;rintro e w2 ⟨rfl,hE⟩;have HX3:=G (HX1.out.trans hE);have HE2:=G hE;have f1:=(HB1.out.ext hE).cell;have HK3:=G (HK1.out.ext hE);clear hE HIN1)|(go_at_call 156;refine(HIy.out _ B _ d HK3.out (HRa.out.keep (.of_ext HE2.out) (fun b hb _=>hb))).mono ?_;unfold b_ bg;rintro e w3 ⟨rfl,hE⟩;have HY:=G (HX3.out.trans hE);clear hE HIy));exact⟨rfl,by rw[HFn.out];rfl,HY.out⟩
    ·have hlt': ¬(j:Int)<k:=by omega
     have HFn:=G (show Rv= .ok () by
      have:=HQ.out;rw[aH (by have:=HN.out;omega),nt]at this
      exact this.symm)
     go_wp2_with fail;exact bodyPost_end (results_none rfl _ _ _) rfl ⟨by rw[HFn.out];rfl,HX.out⟩
  ·have HE:=G (show Rv= .error (nm,16) by rw[HRv.out,hfn];simp[hkN]);have hkN':((k:Int) !=(N:Int))=true:=by simp;omega
   have hkN2:((k:Int)==(N:Int))=false:=by simp;omega
   clear HI HIN HRv;go_enter func185,ntmps185;go_wp2_with (go_at_call 22;refine HBL.out.mono ?_;rintro e w1 ⟨rfl,hE⟩;have HX1:=G (HE0.out.trans hE);have HB1:=G (HB0.out.ext hE);have f0:=HB1.out.cell;have HK1:=G (HK0.out.ext hE);clear hE HBL HB0 HK0 HE0);refine az 12 1 [] mixed (by kernel_rfl) trivial ?_;repeat (refine sx ?_ (fun w1 hU=> ?_) ?_;rotate_left;(focus have f0:=(HB1.out.ext hU.un).cell;have fk:=(HK1.out.ext hU.un).blk.cell;have f2:=(HK1.out.ext hU.un).lookF hnm;rw[hfn]at f2;simp only[bC,cK]at f2;clear hU;go_simp<;>with_reducible rfl);simp only[aY,aX,aW,aV,aU])
   intro w7 hw7 _;simp only[ac,aL];have HX2:=G (HX1.out.trans hw7.un);clear f0;have f0:=(HB1.out.ext hw7.un).cell;clear hw7;go_wp2_with (go_at_call 73;refine(HF.out _ _).mono ?_;unfold bg;rintro e w2 ⟨rfl,hE⟩;have HY:=G (HX2.out.trans hE);clear hE HF);exact⟨rfl,by rw[HE.out];rfl,HY.out⟩
end
section
open Go.RowKit
theorem sJ (op nm tx:List UInt8) (v:Int) (xs:List Ex) (hl:xs.length<=1073741824) (hnm:nm.length<=1073741824) (bc:Int) (ls:List UInt8) (hb:ew nm=some (bc,ls)) (hls:ls.length<=3) (hIH: ∀y∈xs,Dk y) (hY2: ∀y∈xs,y.nm.length<=1073741824):Fa op nm tx v xs:=by
 intro X gl lv lo P w A n c hK hR;obtain⟨A',c',hv,hf⟩:=hR.form;injection hv with hv1 hv2 hv3;subst hv1 hv2 hv3;have HR:=G hR;have HI:=G hIH;have HY2:=G hY2;have HLT:=G (sa hb);obtain⟨N,hN⟩: ∃N,xs.length=N:=⟨_,rfl⟩
 have HN:=G hN;rw[hN]at HR hl;obtain⟨Rv,hRv⟩: ∃R,nc gl lo (.mk 5 op nm tx v xs)=R:=⟨_,rfl⟩
 have HRv:=G (show Rv=if ls.length=N then nt gl lo nm (some (bc,ls)) 0 xs else .error (nm,16) by
  rw[<-hRv,nc,if_neg (by decide),if_neg (by decide),if_neg (by decide),if_pos rfl];unfold uJ
  rw[hb,<-hN])
 have hEA:=O w (.cells #[.int .i64 5, .string (ai op), .string (ai nm), .string (ai tx), .int .i64 v, .slice A N c] 70);have HE0:=G hEA;have HB0:=G (ap w 70 #[.int .i64 5, .string (ai op), .string (ai nm), .string (ai tx), .int .i64 v, .slice A N c]);have HK0:=G (hK.ext hEA)
 have HBL:=G (show Calls prog 22 #[.string (ai nm)] (w.alloc (.cells #[.int .i64 5, .string (ai op), .string (ai nm), .string (ai tx), .int .i64 v, .slice A N c] 70)) fun e w'=>e= .returned (.tuple #[.int .i64 bc, .string (ai ls), .bool true])/\au (w.alloc (.cells #[.int .i64 5, .string (ai op), .string (ai nm), .string (ai tx), .int .i64 v, .slice A N c] 70)) w' from by
  have:=kV nm _ HK0.out.t;rw[hb]at this
  exact this)
 have HIN:=G (fun(i:Nat) (hi:i<=1073741824) (W:World)=>show Calls prog 55 #[.string (ai ls), .bool true, .int .i64 (i:Int)] W fun e w'=>e= .returned (.bool (kh (some (bc,ls)) i))/\au W w' from kE (some (bc,ls)) i hi (by simp only[Bw];omega) W);have HF:=G (fun n W=>dV nm n W);have hsz:=a8 ls;clear hR hf hIH hY2 hb hEA hK;rw[hN,hRv];clear hN hRv;obtain⟨g,bi,ba,bf,sv,sf⟩:=X;simp only[CB.p]at*;obtain⟨fo,hfn⟩: ∃fo,gl.fn nm=fo:=⟨_,rfl⟩
 cases fo;all_goals
  by_cases hkN:ls.length=N
  ·have HE:=G (show Rv=nt gl lo nm (some (bc,ls)) 0 xs by rw[HRv.out,if_pos hkN]);have HQ0:=G (show nt gl lo nm (some (bc,ls)) 0 (xs.drop 0)=Rv from HE.out.symm);have hkN1:((ls.length:Int) !=(N:Int))=false:=by simp[hkN]
   clear HRv;go_enter func185,ntmps185;go_wp2_with (go_at_call 22;refine HBL.out.mono ?_;rintro e w1 ⟨rfl,hE⟩;have HX1:=G (HE0.out.trans hE);have HB1:=G (HB0.out.ext hE);have f0:=HB1.out.cell;have HK1:=G (HK0.out.ext hE);clear hE HBL HB0 HK0 HE0);refine az 12 1 [] mixed (by kernel_rfl) trivial ?_;repeat (refine sx ?_ (fun w1 hU=> ?_) ?_;rotate_left;(focus have f0:=(HB1.out.ext hU.un).cell;have fk:=(HK1.out.ext hU.un).blk.cell;have f2:=(HK1.out.ext hU.un).lookF hnm;rw[hfn]at f2;simp only[bC,dT,cK,cW]at f2;clear hU;go_simp<;>with_reducible rfl);simp only[aY,aX,aW,aV,aU])
   intro w7 hw7 _;simp only[ac,aL];have HX2:=G (HX1.out.trans hw7.un);have HK2:=G (HK1.out.ext hw7.un);have HB2:=G (HB1.out.ext hw7.un);clear f0;have f0:=HB2.out.cell;clear hw7 HX1 HK1 HB1;go_wp2_with fail;clear f0
   go_loopw [53] (fun vi wr=> ∃(j:Nat),vi= .int .i64 (j:Int)/\j<=N/\Hid (nt gl lo nm (some (bc,ls)) j (xs.drop j)=Rv)/\Hid (au w wr)/\Hid (CK ⟨g,bi,ba,bf,sv,sf⟩ gl lv lo wr)/\Hid (aS wr w.heap.size 70 #[.int .i64 5, .string (ai op), .string (ai nm), .string (ai tx), .int .i64 v, .slice A N c])) (fun vi _=>N-(intOf vi).toNat)
   case atStart=>exact⟨0,rfl,aB _,HQ0,HX2,HK2,HB2⟩
   case round=>
    obtain⟨j,rfl,hj,HQ,HX,HKj,HBj⟩:=hrel;by_cases hlt:j<N
    ·have hlt':(j:Int)<N:=by omega
     have hjl:j<xs.length:=by have:=HN.out;omega
     have hjs:j<ls.length:=by omega
     obtain⟨b,o,a,rfl,hb,hP,h0,h1,h2,h3,h4,h5,hRa⟩:=HR.out.at_ j hjl;have HS:=r6 (gl:=gl) (lo:=lo) (nm:=nm) (b:=some (bc,ls)) hjl;have hIy:=HI.out _ (aq hjl);have hy2:=HY2.out _ (aq hjl);obtain⟨y,hy⟩: ∃y,xs[j]=y:=⟨_,rfl⟩
     rw[hy]at h0 h1 h2 h3 h4 hRa HS hIy hy2;clear hy;obtain⟨k2,op2,nm2,tx2,v2,as2⟩:=y;simp only[Ex.k,Ex.op,Ex.nm,Ex.tx,Ex.v,Ex.args]at h0 h1 h2 h3 h4 hRa HS hy2;have e0:=(HX.out.cell b _ hb).trans h0;have e1:=(HX.out.cell b _ hb).trans h1;have e2:=(HX.out.cell b _ hb).trans h2;have e3:=(HX.out.cell b _ hb).trans h3;have e4:=(HX.out.cell b _ hb).trans h4;have e5:=(HX.out.cell b _ hb).trans h5;obtain⟨B,d,rfl,_⟩:=hRa.form;have HRa:=G ((hRa.keep (.of_ext HX.out) (Q:=P) (fun b hb _=>hb)).keep (.of_ext (O _ (.cells #[.int .i64 k2, .string (ai op2), .string (ai nm2), .string (ai tx2), .int .i64 v2, .slice B as2.length d] 70))) (Q:=P) (fun b hb _=>hb));have HB1:=G (ap wr 70 #[.int .i64 k2, .string (ai op2), .string (ai nm2), .string (ai tx2), .int .i64 v2, .slice B as2.length d]);have HX1:=G (HX.out.alloc' (.cells #[.int .i64 k2, .string (ai op2), .string (ai nm2), .string (ai tx2), .int .i64 v2, .slice B as2.length d] 70));have HK1:=G (HKj.out.ext (O wr (.cells #[.int .i64 k2, .string (ai op2), .string (ai nm2), .string (ai tx2), .int .i64 v2, .slice B as2.length d] 70)));have HIy:=G (hIy ⟨g,bi,ba,bf,sv,sf⟩ gl lv lo P);have HIN1:=G (HIN.out j (by omega));clear h0 h1 h2 h3 h4 h5 hRa hIy;simp only[CB.p,Ex.k,Ex.op,Ex.nm,Ex.tx,Ex.v,Ex.args]at HIy
     cases hia:kh (some (bc,ls)) j with
     |true=>
      rw[hia]at HS HIN1;simp only[if_true]at HS;generalize nc gl lo (.mk k2 op2 nm2 tx2 v2 as2)=r at*
      cases r with
      |ok u=>
       have HS:=G HS;go_wp2_with (first|(go_at_call 55;refine(HIN1.out _).mono ?_;rintro e w2 ⟨rfl,hE⟩;have HX3:=G (HX1.out.trans hE);have HE2:=G hE;have f1:=(HB1.out.ext hE).cell;have f0:=(HBj.out.ext ((O _ _).trans hE)).cell;have HK3:=G (HK1.out.ext hE);clear hE HIN1)|(go_at_call 156;refine(HIy.out _ B _ d HK3.out (HRa.out.keep (.of_ext HE2.out) (fun b hb _=>hb))).mono ?_;unfold b_;rintro e w3 ⟨rfl,hE⟩;have HY:=G (HX3.out.trans hE);have HKY:=G (HK3.out.ext hE);have HBY:=G (HBj.out.ext ((O _ _).trans (HE2.out.trans hE)));clear hE HIy));go_roundw
       case rel=>exact⟨j+1,by go_num,by omega,G (HS.out.symm.trans HQ.out),HY,HKY,HBY⟩
       case measure=>simp[intOf];omega
      |error q=>
       obtain⟨qn,n⟩:=q;have HS:=G HS;have HFn:=G (show Rv= .error (qn,n)from HQ.out.symm.trans HS.out);go_wp2_with (first|(go_at_call 55;refine(HIN1.out _).mono ?_;rintro e w2 ⟨rfl,hE⟩;have HX3:=G (HX1.out.trans hE);have HE2:=G hE;have f1:=(HB1.out.ext hE).cell;have f0:=(HBj.out.ext ((O _ _).trans hE)).cell;have HK3:=G (HK1.out.ext hE);clear hE HIN1)|(go_at_call 156;refine(HIy.out _ B _ d HK3.out (HRa.out.keep (.of_ext HE2.out) (fun b hb _=>hb))).mono ?_;unfold b_ bg;rintro e w3 ⟨rfl,hE⟩;have HY:=G (HX3.out.trans hE);clear hE HIy));exact⟨rfl,by rw[HFn.out];rfl,HY.out⟩
     |false=>
      rw[hia]at HS HIN1;have hq:=HLT.out _ (aq hjs);have hix:=fun w=>mA ls j hjs w;have hq5:ls[j]≠105:=by
       intro e;have:kh (some (bc,ls)) j=true:=by
        simp only[kh];rw[bN];right;rw[bU,aK hjs];simp[e]
       rw[this]at hia
       cases hia
      have hlt2:yC (some (bc,ls)) j=ls[j]:=by simp only[yC];rw[bU,aK hjs];rfl
      rw[hlt2]at HS;have hjs':(j:Int)<ls.length:=by omega
      generalize ls[j]=q at hq hix hq5 HS;simp only[aO,if_false]at HS;clear hia hlt2 HIy;rcases hq with rfl|rfl|rfl|rfl
      ·exact absurd rfl hq5
      ·have hix: ∀w,(Instr.index 9 (.string (ai ls)) (.int .i64 (j:Int))).run prog w= .ok (.int .u8 115) w:=hix;by_cases hk2:k2=2
       ·subst hk2;simp[ph]at HS;have HS:=G HS;go_wp2_with (go_at_call 55;refine(HIN1.out _).mono ?_;rintro e w2 ⟨rfl,hE⟩;have HX3:=G (HX1.out.trans hE);have HE2:=G hE;have f1:=(HB1.out.ext hE).cell;have f0:=(HBj.out.ext ((O _ _).trans hE)).cell;have HK3:=G (HK1.out.ext hE);clear hE HIN1);go_roundw
        case rel=>exact⟨j+1,by go_num,by omega,G (HS.out.symm.trans HQ.out),HX3,HK3,G (HBj.out.ext ((O _ _).trans HE2.out))⟩
        case measure=>simp[intOf];omega
       ·have n2:(k2 !=2)=true:=by simpa using hk2
        have m2:(k2==2)=false:=by simpa using hk2
        simp[ph,hk2]at HS;have HS:=G HS;have HFn:=G (show Rv= .error (nm,16)from HQ.out.symm.trans HS.out);go_wp2_with (first|(go_at_call 55;refine(HIN1.out _).mono ?_;rintro e w2 ⟨rfl,hE⟩;have HX3:=G (HX1.out.trans hE);have HE2:=G hE;have f1:=(HB1.out.ext hE).cell;have f0:=(HBj.out.ext ((O _ _).trans hE)).cell;have HK3:=G (HK1.out.ext hE);clear hE HIN1)|(go_at_call 73;refine(HF.out _ _).mono ?_;unfold bg;rintro e w4 ⟨rfl,hE⟩;have HY:=G (HX3.out.trans hE);clear hE HF));exact⟨rfl,by rw[HFn.out];rfl,HY.out⟩
      ·have hix: ∀w,(Instr.index 9 (.string (ai ls)) (.int .i64 (j:Int))).run prog w= .ok (.int .u8 97) w:=hix;by_cases hk3:k2=3
       ·subst hk3;simp[ph]at HS
        cases hca:kK gl lo nm2 with
        |ok u=>
         rw[hca]at HS;have HS:=G HS;go_wp2_with (first|(go_at_call 55;refine(HIN1.out _).mono ?_;rintro e w2 ⟨rfl,hE⟩;have HX3:=G (HX1.out.trans hE);have HE2:=G hE;have f1:=(HB1.out.ext hE).cell;have f0:=(HBj.out.ext ((O _ _).trans hE)).cell;have HK3:=G (HK1.out.ext hE);clear hE HIN1)|(go_at_call 120;refine(ec ⟨g,bi,ba,bf,sv,sf⟩ gl lv lo _ HK3.out nm2 hy2).mono ?_;rw[hca];unfold b_;rintro e w3 ⟨rfl,hE⟩;have HY:=G (HX3.out.trans hE);have HKY:=G (HK3.out.ext hE);have HBY:=G (HBj.out.ext ((O _ _).trans (HE2.out.trans hE)));clear hE));go_roundw
         case rel=>exact⟨j+1,by go_num,by omega,G (HS.out.symm.trans HQ.out),HY,HKY,HBY⟩
         case measure=>simp[intOf];omega
        |error q=>
         obtain⟨qn,n⟩:=q;rw[hca]at HS;have HS:=G HS;have HFn:=G (show Rv= .error (qn,n)from HQ.out.symm.trans HS.out);go_wp2_with (first|(go_at_call 55;refine(HIN1.out _).mono ?_;rintro e w2 ⟨rfl,hE⟩;have HX3:=G (HX1.out.trans hE);have HE2:=G hE;have f1:=(HB1.out.ext hE).cell;have f0:=(HBj.out.ext ((O _ _).trans hE)).cell;have HK3:=G (HK1.out.ext hE);clear hE HIN1)|(go_at_call 120;refine(ec ⟨g,bi,ba,bf,sv,sf⟩ gl lv lo _ HK3.out nm2 hy2).mono ?_;rw[hca];unfold b_ bg;rintro e w3 ⟨rfl,hE⟩;have HY:=G (HX3.out.trans hE);clear hE));exact⟨rfl,by rw[HFn.out];rfl,HY.out⟩
       ·have n3:(k2 !=3)=true:=by simpa using hk3
        have m3:(k2==3)=false:=by simpa using hk3
        simp[ph,hk3]at HS;have HS:=G HS;have HFn:=G (show Rv= .error (nm,16)from HQ.out.symm.trans HS.out);go_wp2_with (first|(go_at_call 55;refine(HIN1.out _).mono ?_;rintro e w2 ⟨rfl,hE⟩;have HX3:=G (HX1.out.trans hE);have HE2:=G hE;have f1:=(HB1.out.ext hE).cell;have f0:=(HBj.out.ext ((O _ _).trans hE)).cell;have HK3:=G (HK1.out.ext hE);clear hE HIN1)|(go_at_call 73;refine(HF.out _ _).mono ?_;unfold bg;rintro e w4 ⟨rfl,hE⟩;have HY:=G (HX3.out.trans hE);clear hE HF));exact⟨rfl,by rw[HFn.out];rfl,HY.out⟩
      ·have hix: ∀w,(Instr.index 9 (.string (ai ls)) (.int .i64 (j:Int))).run prog w= .ok (.int .u8 98) w:=hix;by_cases hk3:k2=3
       ·subst hk3;simp[ph]at HS
        cases hca:kK gl lo nm2 with
        |ok u=>
         rw[hca]at HS;have HS:=G HS;go_wp2_with (first|(go_at_call 55;refine(HIN1.out _).mono ?_;rintro e w2 ⟨rfl,hE⟩;have HX3:=G (HX1.out.trans hE);have HE2:=G hE;have f1:=(HB1.out.ext hE).cell;have f0:=(HBj.out.ext ((O _ _).trans hE)).cell;have HK3:=G (HK1.out.ext hE);clear hE HIN1)|(go_at_call 120;refine(ec ⟨g,bi,ba,bf,sv,sf⟩ gl lv lo _ HK3.out nm2 hy2).mono ?_;rw[hca];unfold b_;rintro e w3 ⟨rfl,hE⟩;have HY:=G (HX3.out.trans hE);have HKY:=G (HK3.out.ext hE);have HBY:=G (HBj.out.ext ((O _ _).trans (HE2.out.trans hE)));clear hE));go_roundw
         case rel=>exact⟨j+1,by go_num,by omega,G (HS.out.symm.trans HQ.out),HY,HKY,HBY⟩
         case measure=>simp[intOf];omega
        |error q=>
         obtain⟨qn,n⟩:=q;rw[hca]at HS;have HS:=G HS;have HFn:=G (show Rv= .error (qn,n)from HQ.out.symm.trans HS.out);go_wp2_with (first|(go_at_call 55;refine(HIN1.out _).mono ?_;rintro e w2 ⟨rfl,hE⟩;have HX3:=G (HX1.out.trans hE);have HE2:=G hE;have f1:=(HB1.out.ext hE).cell;have f0:=(HBj.out.ext ((O _ _).trans hE)).cell;have HK3:=G (HK1.out.ext hE);clear hE HIN1)|(go_at_call 120;refine(ec ⟨g,bi,ba,bf,sv,sf⟩ gl lv lo _ HK3.out nm2 hy2).mono ?_;rw[hca];unfold b_ bg;rintro e w3 ⟨rfl,hE⟩;have HY:=G (HX3.out.trans hE);clear hE));exact⟨rfl,by rw[HFn.out];rfl,HY.out⟩
       ·have n3:(k2 !=3)=true:=by simpa using hk3
        have m3:(k2==3)=false:=by simpa using hk3
        by_cases hk2:k2=2
        ·subst hk2;simp[ph]at HS;have HS:=G HS;go_wp2_with (go_at_call 55;refine(HIN1.out _).mono ?_;rintro e w2 ⟨rfl,hE⟩;have HX3:=G (HX1.out.trans hE);have HE2:=G hE;have f1:=(HB1.out.ext hE).cell;have f0:=(HBj.out.ext ((O _ _).trans hE)).cell;have HK3:=G (HK1.out.ext hE);clear hE HIN1);go_roundw
         case rel=>exact⟨j+1,by go_num,by omega,G (HS.out.symm.trans HQ.out),HX3,HK3,G (HBj.out.ext ((O _ _).trans HE2.out))⟩
         case measure=>simp[intOf];omega
        ·have n2:(k2 !=2)=true:=by simpa using hk2
         have m2:(k2==2)=false:=by simpa using hk2
         simp[ph,hk3,hk2]at HS;have HS:=G HS;have HFn:=G (show Rv= .error (nm,16)from HQ.out.symm.trans HS.out);go_wp2_with (first|(go_at_call 55;refine(HIN1.out _).mono ?_;rintro e w2 ⟨rfl,hE⟩;have HX3:=G (HX1.out.trans hE);have HE2:=G hE;have f1:=(HB1.out.ext hE).cell;have f0:=(HBj.out.ext ((O _ _).trans hE)).cell;have HK3:=G (HK1.out.ext hE);clear hE HIN1)|(go_at_call 73;refine(HF.out _ _).mono ?_;unfold bg;rintro e w4 ⟨rfl,hE⟩;have HY:=G (HX3.out.trans hE);clear hE HF));exact⟨rfl,by rw[HFn.out];rfl,HY.out⟩
    ·have hlt': ¬(j:Int)<N:=by omega
     have HFn:=G (show Rv= .ok () by
      have:=HQ.out;rw[aH (by have:=HN.out;omega),nt]at this
      exact this.symm)
     go_wp2_with fail;exact bodyPost_end (results_none rfl _ _ _) rfl ⟨by rw[HFn.out];rfl,HX.out⟩
  ·have HE:=G (show Rv= .error (nm,16) by rw[HRv.out,if_neg hkN]);have hkN':((ls.length:Int) !=(N:Int))=true:=by simp;omega
   have hkN2:((ls.length:Int)==(N:Int))=false:=by simp;omega
   clear HI HIN HRv;go_enter func185,ntmps185;go_wp2_with (go_at_call 22;refine HBL.out.mono ?_;rintro e w1 ⟨rfl,hE⟩;have HX1:=G (HE0.out.trans hE);have HB1:=G (HB0.out.ext hE);have f0:=HB1.out.cell;have HK1:=G (HK0.out.ext hE);clear hE HBL HB0 HK0 HE0);refine az 12 1 [] mixed (by kernel_rfl) trivial ?_;repeat (refine sx ?_ (fun w1 hU=> ?_) ?_;rotate_left;(focus have f0:=(HB1.out.ext hU.un).cell;have fk:=(HK1.out.ext hU.un).blk.cell;have f2:=(HK1.out.ext hU.un).lookF hnm;rw[hfn]at f2;simp only[bC,dT,cK,cW]at f2;clear hU;go_simp<;>with_reducible rfl);simp only[aY,aX,aW,aV,aU])
   intro w7 hw7 _;simp only[ac,aL];have HX2:=G (HX1.out.trans hw7.un);have HK2:=G (HK1.out.ext hw7.un);have HB2:=G (HB1.out.ext hw7.un);clear f0;have f0:=HB2.out.cell;clear hw7 HX1 HK1 HB1;go_wp2_with (go_at_call 73;refine(HF.out _ _).mono ?_;unfold bg;rintro e w2 ⟨rfl,hE⟩;have HY:=G (HX2.out.trans hE);clear hE HF);exact⟨rfl,by rw[HE.out];rfl,HY.out⟩
end
section
open Go.RowKit
theorem sI (k:Int) (op nm tx:List UInt8) (v:Int) (xs:List Ex) (hnm:nm.length<=1073741824) (hLs:BI xs) (hC:k=5->Fa op nm tx v xs):Dk (.mk k op nm tx v xs):=by
 intro X gl lv lo P w A n c hK hR;obtain⟨Rv,hRv⟩: ∃R,nc gl lo (.mk k op nm tx v xs)=R:=⟨_,rfl⟩
 have HD:=G (hRv.symm.trans (nc.eq_1 gl lo k op nm tx v xs));simp only[Ex.k,Ex.op,Ex.nm,Ex.tx,Ex.v,Ex.args]at*;rw[hRv];clear hRv;by_cases h3:k=3
 ·subst h3;have hE:=HD.out;rw[if_pos rfl]at hE;have HE0:=G (O w (.cells #[.int .i64 3, .string (ai op), .string (ai nm), .string (ai tx), .int .i64 v, .slice A n c] 70));have hB0:=ap w 70 #[.int .i64 3, .string (ai op), .string (ai nm), .string (ai tx), .int .i64 v, .slice A n c];have HB0:=G hB0;have HK0:=G (hK.ext HE0.out);have HR0:=G (hR.keep (.of_ext HE0.out) (Q:=P) (fun b hb _=>hb));clear hK hR hB0
  cases hr:oE gl lo nm with
  |ok u=>
   have HE:=G (hE.trans hr);go_enter func156,ntmps156;go_wp2_with (go_at_call 119;refine(eP X gl lv lo _ HK0.out nm hnm).mono ?_;rw[hr];unfold b_;rintro e w1 ⟨rfl,hE⟩;have HX:=G (HE0.out.trans hE);clear hE);exact bodyPost_end (results_none rfl _ _ _) rfl ⟨by rw[HE.out];rfl,HX.out⟩
  |error q=>
   obtain⟨qn,m⟩:=q;have HE:=G (hE.trans hr);go_enter func156,ntmps156;go_wp2_with (go_at_call 119;refine(eP X gl lv lo _ HK0.out nm hnm).mono ?_;rw[hr];unfold b_ bg;rintro e w1 ⟨rfl,hE⟩;have HX:=G (HE0.out.trans hE);clear hE);exact⟨rfl,by rw[HE.out];rfl,HX.out⟩
 by_cases h4:k=4
 ·subst h4;have hE:=HD.out;rw[if_neg (by decide),if_pos rfl]at hE;have HE0:=G (O w (.cells #[.int .i64 4, .string (ai op), .string (ai nm), .string (ai tx), .int .i64 v, .slice A n c] 70));have hB0:=ap w 70 #[.int .i64 4, .string (ai op), .string (ai nm), .string (ai tx), .int .i64 v, .slice A n c];have HB0:=G hB0;have HK0:=G (hK.ext HE0.out);have HR0:=G (hR.keep (.of_ext HE0.out) (Q:=P) (fun b hb _=>hb));clear hK hR hB0
  cases hr:kK gl lo nm with
  |ok u=>
   rw[hr,em]at hE
   cases hs:na gl lo xs with
   |ok u=>
    have HE:=G (hE.trans hs);go_enter func156,ntmps156;go_wp2_with (first|(go_at_call 120;refine(ec X gl lv lo _ HK0.out nm hnm).mono ?_;rw[hr];unfold b_;rintro e w1 ⟨rfl,hE⟩;have HX:=G (HE0.out.trans hE);have HE1:=G hE;have f0:=(HB0.out.ext hE).cell;clear hE)|(go_at_call 121;refine(hLs X gl lv lo P _ A n c (HK0.out.ext HE1.out) (HR0.out.keep (.of_ext HE1.out) (fun b hb _=>hb))).mono ?_;rw[hs];unfold b_;rintro e w2 ⟨rfl,hE⟩;have HY:=G (HX.out.trans hE);clear hE));exact bodyPost_end (results_none rfl _ _ _) rfl ⟨by rw[HE.out];rfl,HY.out⟩
   |error q=>
    obtain⟨qn,m⟩:=q;have HE:=G (hE.trans hs);go_enter func156,ntmps156;go_wp2_with (first|(go_at_call 120;refine(ec X gl lv lo _ HK0.out nm hnm).mono ?_;rw[hr];unfold b_;rintro e w1 ⟨rfl,hE⟩;have HX:=G (HE0.out.trans hE);have HE1:=G hE;have f0:=(HB0.out.ext hE).cell;clear hE)|(go_at_call 121;refine(hLs X gl lv lo P _ A n c (HK0.out.ext HE1.out) (HR0.out.keep (.of_ext HE1.out) (fun b hb _=>hb))).mono ?_;rw[hs];unfold b_ bg;rintro e w2 ⟨rfl,hE⟩;have HY:=G (HX.out.trans hE);clear hE));exact⟨rfl,by rw[HE.out];rfl,HY.out⟩
  |error q=>
   obtain⟨qn,m⟩:=q;rw[hr,fL]at hE;have HE:=G hE;go_enter func156,ntmps156;go_wp2_with (go_at_call 120;refine(ec X gl lv lo _ HK0.out nm hnm).mono ?_;rw[hr];unfold b_ bg;rintro e w1 ⟨rfl,hE⟩;have HX:=G (HE0.out.trans hE);clear hE);exact⟨rfl,by rw[HE.out];rfl,HX.out⟩
 by_cases h2:k=2
 ·subst h2;have hE:=HD.out;rw[if_neg (by decide),if_neg (by decide),if_pos rfl]at hE;have HE:=G hE;have HE0:=G (O w (.cells #[.int .i64 2, .string (ai op), .string (ai nm), .string (ai tx), .int .i64 v, .slice A n c] 70));have hB0:=ap w 70 #[.int .i64 2, .string (ai op), .string (ai nm), .string (ai tx), .int .i64 v, .slice A n c];have HB0:=G hB0;have HK0:=G (hK.ext HE0.out);have HR0:=G (hR.keep (.of_ext HE0.out) (Q:=P) (fun b hb _=>hb));clear hK hR hB0;have HF:=G (fun W=>show Calls prog 73 #[.string ⟨#[]⟩, .int .i64 16] W fun e w'=>e=bg [] 16/\au W w' from dV [] 16 W);go_enter func156,ntmps156;go_wp2_with (go_at_call 73;refine(HF.out _).mono ?_;unfold bg;rintro e w1 ⟨rfl,hE⟩;have HX:=G (HE0.out.trans hE);clear hE);exact⟨rfl,by rw[HE.out];rfl,HX.out⟩
 by_cases h5:k=5
 ·subst h5;have HC:=G (hC rfl);have HD:=G (show nc gl lo (.mk 5 op nm tx v xs)=Rv by rw[HD.out,nc]);have HE0:=G (O w (.cells #[.int .i64 5, .string (ai op), .string (ai nm), .string (ai tx), .int .i64 v, .slice A n c] 70));have hB0:=ap w 70 #[.int .i64 5, .string (ai op), .string (ai nm), .string (ai tx), .int .i64 v, .slice A n c];have HB0:=G hB0;have HK0:=G (hK.ext HE0.out);have HR0:=G (hR.keep (.of_ext HE0.out) (Q:=P) (fun b hb _=>hb));clear hK hR hB0
  cases hr:nc gl lo (.mk 5 op nm tx v xs)with
  |ok u=>
   have HE:=G (HD.out.symm.trans hr);go_enter func156,ntmps156;go_wp2_with (go_at_call 185;refine(HC.out X gl lv lo P _ A n c HK0.out HR0.out).mono ?_;rw[hr];unfold b_;rintro e w1 ⟨rfl,hE⟩;have HX:=G (HE0.out.trans hE);clear hE);exact bodyPost_end (results_none rfl _ _ _) rfl ⟨by rw[HE.out];rfl,HX.out⟩
  |error q=>
   obtain⟨qn,m⟩:=q;have HE:=G (HD.out.symm.trans hr);go_enter func156,ntmps156;go_wp2_with (go_at_call 185;refine(HC.out X gl lv lo P _ A n c HK0.out HR0.out).mono ?_;rw[hr];unfold b_ bg;rintro e w1 ⟨rfl,hE⟩;have HX:=G (HE0.out.trans hE);clear hE);exact⟨rfl,by rw[HE.out];rfl,HX.out⟩
 by_cases h6:k=6
 ·subst h6;have hE:=HD.out;rw[if_neg (by decide),if_neg (by decide),if_neg (by decide),if_neg (by decide),if_pos (by decide)]at hE;have HE0:=G (O w (.cells #[.int .i64 6, .string (ai op), .string (ai nm), .string (ai tx), .int .i64 v, .slice A n c] 70));have hB0:=ap w 70 #[.int .i64 6, .string (ai op), .string (ai nm), .string (ai tx), .int .i64 v, .slice A n c];have HB0:=G hB0;have HK0:=G (hK.ext HE0.out);have HR0:=G (hR.keep (.of_ext HE0.out) (Q:=P) (fun b hb _=>hb));clear hK hR hB0
  cases hr:na gl lo xs with
  |ok u=>
   have HE:=G (hE.trans hr);go_enter func156,ntmps156;go_wp2_with (go_at_call 121;refine(hLs X gl lv lo P _ A n c HK0.out HR0.out).mono ?_;rw[hr];unfold b_;rintro e w1 ⟨rfl,hE⟩;have HX:=G (HE0.out.trans hE);clear hE);exact bodyPost_end (results_none rfl _ _ _) rfl ⟨by rw[HE.out];rfl,HX.out⟩
  |error q=>
   obtain⟨qn,m⟩:=q;have HE:=G (hE.trans hr);go_enter func156,ntmps156;go_wp2_with (go_at_call 121;refine(hLs X gl lv lo P _ A n c HK0.out HR0.out).mono ?_;rw[hr];unfold b_ bg;rintro e w1 ⟨rfl,hE⟩;have HX:=G (HE0.out.trans hE);clear hE);exact⟨rfl,by rw[HE.out];rfl,HX.out⟩
 by_cases h7:k=7
 ·subst h7;have hE:=HD.out;rw[if_neg (by decide),if_neg (by decide),if_neg (by decide),if_neg (by decide),if_pos (by decide)]at hE;have HE0:=G (O w (.cells #[.int .i64 7, .string (ai op), .string (ai nm), .string (ai tx), .int .i64 v, .slice A n c] 70));have hB0:=ap w 70 #[.int .i64 7, .string (ai op), .string (ai nm), .string (ai tx), .int .i64 v, .slice A n c];have HB0:=G hB0;have HK0:=G (hK.ext HE0.out);have HR0:=G (hR.keep (.of_ext HE0.out) (Q:=P) (fun b hb _=>hb));clear hK hR hB0
  cases hr:na gl lo xs with
  |ok u=>
   have HE:=G (hE.trans hr);go_enter func156,ntmps156;go_wp2_with (go_at_call 121;refine(hLs X gl lv lo P _ A n c HK0.out HR0.out).mono ?_;rw[hr];unfold b_;rintro e w1 ⟨rfl,hE⟩;have HX:=G (HE0.out.trans hE);clear hE);exact bodyPost_end (results_none rfl _ _ _) rfl ⟨by rw[HE.out];rfl,HX.out⟩
  |error q=>
   obtain⟨qn,m⟩:=q;have HE:=G (hE.trans hr);go_enter func156,ntmps156;go_wp2_with (go_at_call 121;refine(hLs X gl lv lo P _ A n c HK0.out HR0.out).mono ?_;rw[hr];unfold b_ bg;rintro e w1 ⟨rfl,hE⟩;have HX:=G (HE0.out.trans hE);clear hE);exact⟨rfl,by rw[HE.out];rfl,HX.out⟩
 have hE:=HD.out;rw[if_neg h3,if_neg h4,if_neg h2,if_neg h5,if_neg (by omega)]at hE;have HE:=G hE;have HX:=G (O w (.cells #[.int .i64 k, .string (ai op), .string (ai nm), .string (ai tx), .int .i64 v, .slice A n c] 70));have q3:=beq_eq_false_iff_ne.2 h3;have q4:=beq_eq_false_iff_ne.2 h4;have q2:=beq_eq_false_iff_ne.2 h2;have q5:=beq_eq_false_iff_ne.2 h5;have q6:=beq_eq_false_iff_ne.2 h6;have q7:=beq_eq_false_iff_ne.2 h7;clear hK hR;go_enter func156,ntmps156;go_wp2_with fail;exact bodyPost_end (results_none rfl _ _ _) rfl ⟨by rw[HE.out];rfl,HX.out⟩
theorem pp: ∀(m:Nat) (x:Ex),x.wt<=m->x.wt<=1073741824->Dk x
 |0,x,h,_=>absurd h (by have:=x.wt_eq;omega)
 |m+1, .mk k op nm tx v xs,h,hw=>by
  rw[Ex.wt]at h hw;have hIH: ∀y∈xs,Dk y:=fun y hy=>pp m y (by have:=dB hy;omega) (by have:=dB hy;omega);have hl:=db xs;have hY2: ∀y∈xs,y.nm.length<=1073741824:=fun y hy=>by have:=dB hy;have:=y.wt_eq;omega
  refine sI k op nm tx v xs (by omega) (pN xs (by omega) hIH) fun hk=> ?_
  cases hb:ew nm with
  |none=>exact sK op nm tx v xs (by omega) (by omega) hb hIH
  |some b=>
   obtain⟨bc,ls⟩:=b;have hls:=qI nm;rw[hb]at hls;exact sJ op nm tx v xs (by omega) (by omega) bc ls hb hls hIH hY2
theorem sH (xs:List Ex) (h:fH xs<=1073741824):BI xs:=pN xs (by have:=db xs;omega) fun y hy=>pp _ y (ah _) (by have:=dB hy;omega)
end
section
open Go.RowKit
def oO (X:CB) (gl:Gl) (bl:Nat) (r:SR) (w:World) (e:Ending) (w':World):Prop:=w.grownBy w' (some bl)/\match r with
 | .ok lo=>e= .returned (.tuple #[])/\CK X gl (.map (some bl)) lo w'
 | .error (nm,n)=>e=bg nm n
section
variable {X:CB} {gl:Gl} {lo lo':Ls} {w W W':World} {bl pb:Nat} {P:Nat->Prop}
theorem CK.ml (h:CK X gl (.map (some bl)) lo w):bR w bl (CJ lo)/\bl≠X.g/\bl≠X.bi/\bl≠X.ba/\bl≠X.bf:=by
 rcases h.l with⟨h,_⟩|⟨b,h,hm⟩
 ·cases h
 ·injection h with h;injection h with h;subst h;exact hm
theorem CK.lt_bl (h:CK X gl (.map (some bl)) lo w):bl<w.heap.size:=h.ml.1.lt
theorem CK.t_ne (h:CK X gl (.map (some bl)) lo w):bl≠0:=by
 rintro rfl;obtain⟨t,fr,ht⟩:=h.t;obtain⟨es,c,hm,_⟩:=h.ml.1;rw[ht]at hm;cases hm
theorem CK.add {nm:List UInt8} (h:CK X gl (.map (some bl)) lo w) (hm:bR W bl ((CJ lo).upd nm (.bool true))) (hg:w.grownBy W (some bl)):CK X gl (.map (some bl)) (lo.add nm) W:=by
 obtain⟨h0,h1,h2,h3,h4⟩:=h.ml;have ne: ∀k,bl≠k->some k≠some bl:=fun k hk e=>hk (by injection e with e;exact e.symm);refine⟨h.blk.grown hg (ne _ h1),h.i.grown hg (ne _ h2),h.a.grown hg (ne _ h3),h.f.grown hg (ne _ h4), .inr ⟨bl,rfl,hm.congr fun s=> ?_,h1,h2,h3,h4⟩,?_⟩
 ·unfold KF.upd CJ Ls.add;by_cases e:s=nm
  ·subst e;simp
  ·simp[e]
 ·obtain⟨t,fr,ht⟩:=h.t;exact⟨t,fr,(hg.block _ (Array.getElem?_eq_some_iff.1 ht).1 (ne _ h.t_ne)).trans ht⟩
structure SQ (w:World) (pb bl:Nat) (P:Nat->Prop) (X:CB) (gl:Gl) (lo:Ls) (cs:Array Value) (ex:List Ex) (bd el:List St) (A1 A2 A3:Option Addr) (c1 c2 c3:Nat) (W:World):Prop where
 gr:w.grownBy W (some bl)
 ck:CK X gl (.map (some bl)) lo W
 bk:aS W pb 72 cs
 re:cJ W P (.slice A1 ex.length c1) ex
 rb:cL W P (.slice A2 bd.length c2) bd
 rl:cL W P (.slice A3 el.length c3) el
 hP: ∀b,P b->b≠bl
 ne:bl≠pb
variable {cs:Array Value} {ex:List Ex} {bd el:List St} {A1 A2 A3:Option Addr} {c1 c2 c3:Nat}
theorem SQ.ext (h:SQ w pb bl P X gl lo cs ex bd el A1 A2 A3 c1 c2 c3 W) (he:au W W'):SQ w pb bl P X gl lo cs ex bd el A1 A2 A3 c1 c2 c3 W':=
 ⟨h.gr.trans (he.grownBy _),h.ck.ext he,h.bk.ext he,h.re.keep (.of_ext he) (fun b hb _=>hb),h.rb.keep (.of_ext he) (fun b hb _=>hb),h.rl.keep (.of_ext he) (fun b hb _=>hb),h.hP,h.ne⟩
theorem SQ.grown (h:SQ w pb bl P X gl lo cs ex bd el A1 A2 A3 c1 c2 c3 W) (hg:W.grownBy W' (some bl)) (hc:CK X gl (.map (some bl)) lo' W'):SQ w pb bl P X gl lo' cs ex bd el A1 A2 A3 c1 c2 c3 W':=by
 have hk:cw P W W':= .of_grown hg (fun b hb e=>h.hP b hb (by injection e));exact⟨h.gr.trans hg,hc,h.bk.grown hg (fun e=>h.ne (by injection e with e;exact e.symm)),h.re.keep hk (fun b hb _=>hb),h.rb.keep hk (fun b hb _=>hb),h.rl.keep hk (fun b hb _=>hb),h.hP,h.ne⟩
theorem SQ.ml (h:SQ w pb bl P X gl lo cs ex bd el A1 A2 A3 c1 c2 c3 W):bR W bl (CJ lo):=h.ck.ml.1
end
theorem ww {gl:Gl} {lo:Ls} {l:List St} {j:Nat} (h:j<l.length):fw gl lo (l.drop j)=CR.then (qG gl lo l[j]) fun lo1=>fw gl lo1 (l.drop (j+1)):=by
 rw[ax h,fw]
def BH (xs:List St):Prop:= ∀(X:CB) (gl:Gl) (bl:Nat) (lo:Ls) (P:Nat->Prop) (w:World) (A:Option Addr) (n c:Nat),CK X gl (.map (some bl)) lo w->cL w P (.slice A n c) xs->(∀b,P b->b≠bl)->
 Calls prog 74 #[X.p, .slice A n c] w (oO X gl bl (fw gl lo xs) w)
theorem nU (xs:List St) (hl:xs.length<=1073741824) (hnmx: ∀s∈xs,s.nm.length<=1073741824) (hEx: ∀s∈xs,BI s.ex) (hIH: ∀s∈xs,BH s.body/\BH s.els):BH xs:=by
 intro X gl bl lo P w A n c hK hR hP;obtain⟨A',c',hv,hf⟩:=hR.form;injection hv with hv1 hv2 hv3;subst hv1 hv2 hv3;have HR:=G hR;have HI:=G hIH;have HNM:=G hnmx;have HEXS:=G hEx;have HK0:=G hK;obtain⟨N,hN⟩: ∃N,xs.length=N:=⟨_,rfl⟩
 have HN:=G hN;rw[hN]at HR hl;obtain⟨Rv,hRv⟩: ∃R,fw gl lo xs=R:=⟨_,rfl⟩
 have HQ0:=G (show fw gl lo (xs.drop 0)=Rv from hRv);have HX0:=G (World.grownBy.refl w (some bl));clear hR hf hIH hK hnmx hEx;rw[hN,hRv];clear hN hRv;simp only[CB.p]at*;go_enter func74,ntmps74;go_wp2_with fail
 go_loopw [8] (fun vi wr=> ∃(j:Nat) (loj:Ls),vi= .int .i64 (j:Int)/\j<=N/\Hid (fw gl loj (xs.drop j)=Rv)/\Hid (w.grownBy wr (some bl))/\Hid (CK X gl (.map (some bl)) loj wr)) (fun vi _=>N-(intOf vi).toNat)
 case atStart=>exact⟨0,lo,rfl,aB _,HQ0,HX0,HK0⟩
 case round=>
  obtain⟨j,loj,rfl,hj,HQR,HX,HKj⟩:=hrel;by_cases hlt:j<N
  ·have hlt':(j:Int)<N:=by omega
   have hjl:j<xs.length:=by have:=HN.out;omega
   obtain⟨b,o,e,bv,lv,rfl,hb,hPb,h0,h1,h2,h3,h4,hRe,hRb,hRl⟩:=HR.out.at_ j hjl;have hS:=ww (gl:=gl) (lo:=loj) hjl;have hnm:=HNM.out _ (aq hjl);have hEX:=HEXS.out _ (aq hjl);have hII:=HI.out _ (aq hjl);obtain⟨y,hy⟩: ∃y,xs[j]=y:=⟨_,rfl⟩
   rw[hy]at h0 h1 hRe hRb hRl hS hnm hEX hII;clear hy;obtain⟨k,nm,ex,bd,el⟩:=y;simp only[St.k,St.nm,St.ex,St.body,St.els]at h0 h1 hRe hRb hRl hnm hEX hII;have hKP:cw P w wr:= .of_grown HX.out (fun b hb e=>hP b hb (by injection e));have e0:=(hKP.cell _ hPb hb).trans h0;have e1:=(hKP.cell _ hPb hb).trans h1;have e2:=(hKP.cell _ hPb hb).trans h2;have e3:=(hKP.cell _ hPb hb).trans h3;have e4:=(hKP.cell _ hPb hb).trans h4;obtain⟨A1,c1,rfl,_⟩:=hRe.form;obtain⟨A2,c2,rfl,_⟩:=hRb.form;obtain⟨A3,c3,rfl,_⟩:=hRl.form;have hAl:=O wr (.cells #[.int .i64 k, .string (ai nm), .slice A1 ex.length c1, .slice A2 bd.length c2, .slice A3 el.length c3] 72)
   have HQ:=G (show SQ w wr.heap.size bl P X gl loj #[.int .i64 k, .string (ai nm), .slice A1 ex.length c1, .slice A2 bd.length c2, .slice A3 el.length c3] ex bd el A1 A2 A3 c1 c2 c3 (wr.alloc (.cells #[.int .i64 k, .string (ai nm), .slice A1 ex.length c1, .slice A2 bd.length c2, .slice A3 el.length c3] 72))from
    ⟨HX.out.trans (hAl.grownBy _),HKj.out.ext hAl,ap wr _ _,(hRe.keep hKP (Q:=P) (fun b hb _=>hb)).keep (.of_ext hAl) (fun b hb _=>hb),(hRb.keep hKP (Q:=P) (fun b hb _=>hb)).keep (.of_ext hAl) (fun b hb _=>hb),(hRl.keep hKP (Q:=P) (fun b hb _=>hb)).keep (.of_ext hAl) (fun b hb _=>hb),hP,lM HKj.out.lt_bl⟩)
   have HEX:=G hEX;have HB1:=G hII.1;have HL1:=G hII.2;clear h0 h1 h2 h3 h4 hRe hRb hRl hEX hII hAl hKP HR HI HEXS HNM;rw[qG]at hS;by_cases hk2:k=2
   ·subst hk2;rw[if_pos rfl]at hS
    cases hr1:oE gl loj nm with
    |error q=>
     obtain⟨qn,m⟩:=q;rw[hr1,fL]at hS;have HFn:=G (show Rv= .error (qn,m)from HQR.out.symm.trans hS);go_wp2_with (go_at_call 119;refine(eP X gl _ loj _ HQ.out.ck nm hnm).mono ?_;rw[hr1];unfold b_ bg;rintro e wx ⟨rfl,hE⟩;have HZ:=G (HQ.out.gr.trans (hE.grownBy _));clear hE);exact⟨rfl,by rw[HFn.out];exact⟨HZ.out,rfl⟩⟩
    |ok u=>
     rw[hr1,em]at hS
     cases hr2:na gl loj ex with
     |error q=>
      obtain⟨qn,m⟩:=q;rw[hr2,fL]at hS;have HFn:=G (show Rv= .error (qn,m)from HQR.out.symm.trans hS);go_wp2_with (first|(go_at_call 119;refine(eP X gl _ loj _ HQ.out.ck nm hnm).mono ?_;rw[hr1];unfold b_;rintro e wx ⟨rfl,hE⟩;replace HQ:=G (HQ.out.ext hE);clear hE;(try clear f0);have f0:=HQ.out.bk.cell;)|(go_at_call 121;refine(HEX.out X gl _ loj P _ A1 ex.length c1 HQ.out.ck HQ.out.re).mono ?_;rw[hr2];unfold b_ bg;rintro e wx ⟨rfl,hE⟩;have HZ:=G (HQ.out.gr.trans (hE.grownBy _));clear hE));exact⟨rfl,by rw[HFn.out];exact⟨HZ.out,rfl⟩⟩
     |ok u=>
      rw[hr2,em]at hS;rw[if_neg (by decide),em]at hS;obtain⟨lo1,hlo1⟩: ∃l,loj=l:=⟨_,rfl⟩
      subst hlo1
      cases hr4:fw gl loj bd with
      |error q=>
       obtain⟨qn,m⟩:=q;rw[hr4,fL]at hS;have HFn:=G (show Rv= .error (qn,m)from HQR.out.symm.trans hS);go_wp2_with (first|(go_at_call 119;refine(eP X gl _ loj _ HQ.out.ck nm hnm).mono ?_;rw[hr1];unfold b_;rintro e wx ⟨rfl,hE⟩;replace HQ:=G (HQ.out.ext hE);clear hE;(try clear f0);have f0:=HQ.out.bk.cell;)|(go_at_call 121;refine(HEX.out X gl _ loj P _ A1 ex.length c1 HQ.out.ck HQ.out.re).mono ?_;rw[hr2];unfold b_;rintro e wx ⟨rfl,hE⟩;replace HQ:=G (HQ.out.ext hE);clear hE;(try clear f0);have f0:=HQ.out.bk.cell;)|(go_at_call 74;have hc:=HB1.out X gl bl loj P _ A2 bd.length c2 HQ.out.ck HQ.out.rb hP;rw[hr4]at hc;clear HB1;refine hc.mono ?_;unfold oO bg;rintro e wx ⟨hg,rfl⟩;have HZ:=G (HQ.out.gr.trans hg);clear hg hc));exact⟨rfl,by rw[HFn.out];exact⟨HZ.out,rfl⟩⟩
      |ok lo2=>
       rw[hr4,em]at hS
       cases hr5:fw gl lo2 el with
       |error q=>
        obtain⟨qn,m⟩:=q;rw[hr5,fL]at hS;have HFn:=G (show Rv= .error (qn,m)from HQR.out.symm.trans hS);go_wp2_with (first|(go_at_call 119;refine(eP X gl _ loj _ HQ.out.ck nm hnm).mono ?_;rw[hr1];unfold b_;rintro e wx ⟨rfl,hE⟩;replace HQ:=G (HQ.out.ext hE);clear hE;(try clear f0);have f0:=HQ.out.bk.cell;)|(go_at_call 121;refine(HEX.out X gl _ loj P _ A1 ex.length c1 HQ.out.ck HQ.out.re).mono ?_;rw[hr2];unfold b_;rintro e wx ⟨rfl,hE⟩;replace HQ:=G (HQ.out.ext hE);clear hE;(try clear f0);have f0:=HQ.out.bk.cell;)|(go_at_call 74;have hc:=HB1.out X gl bl loj P _ A2 bd.length c2 HQ.out.ck HQ.out.rb hP;rw[hr4]at hc;clear HB1;refine hc.mono ?_;unfold oO;rintro e wx ⟨hg,rfl,hck⟩;replace HQ:=G (HQ.out.grown hg hck);clear hg hck hc;(try clear f0);have f0:=HQ.out.bk.cell;)|(go_at_call 74;have hc:=HL1.out X gl bl lo2 P _ A3 el.length c3 HQ.out.ck HQ.out.rl hP;rw[hr5]at hc;clear HL1;refine hc.mono ?_;unfold oO bg;rintro e wx ⟨hg,rfl⟩;have HZ:=G (HQ.out.gr.trans hg);clear hg hc));exact⟨rfl,by rw[HFn.out];exact⟨HZ.out,rfl⟩⟩
       |ok lo3=>
        rw[hr5,em]at hS;go_wp2_with (first|(go_at_call 119;refine(eP X gl _ loj _ HQ.out.ck nm hnm).mono ?_;rw[hr1];unfold b_;rintro e wx ⟨rfl,hE⟩;replace HQ:=G (HQ.out.ext hE);clear hE;(try clear f0);have f0:=HQ.out.bk.cell;)|(go_at_call 121;refine(HEX.out X gl _ loj P _ A1 ex.length c1 HQ.out.ck HQ.out.re).mono ?_;rw[hr2];unfold b_;rintro e wx ⟨rfl,hE⟩;replace HQ:=G (HQ.out.ext hE);clear hE;(try clear f0);have f0:=HQ.out.bk.cell;)|(go_at_call 74;have hc:=HB1.out X gl bl loj P _ A2 bd.length c2 HQ.out.ck HQ.out.rb hP;rw[hr4]at hc;clear HB1;refine hc.mono ?_;unfold oO;rintro e wx ⟨hg,rfl,hck⟩;replace HQ:=G (HQ.out.grown hg hck);clear hg hck hc;(try clear f0);have f0:=HQ.out.bk.cell;)|(go_at_call 74;have hc:=HL1.out X gl bl lo2 P _ A3 el.length c3 HQ.out.ck HQ.out.rl hP;rw[hr5]at hc;clear HL1;refine hc.mono ?_;unfold oO;rintro e wx ⟨hg,rfl,hck⟩;replace HQ:=G (HQ.out.grown hg hck);clear hg hck hc;(try clear f0);have f0:=HQ.out.bk.cell;));go_roundw
        case rel=>exact⟨j+1,lo3,by go_num,by omega,G (hS.symm.trans HQR.out),G HQ.out.gr,G HQ.out.ck⟩
        case measure=>simp[intOf];omega
   by_cases hk3:k=3
   ·subst hk3;rw[if_neg (by decide),if_pos rfl]at hS
    cases hr1:kK gl loj nm with
    |error q=>
     obtain⟨qn,m⟩:=q;rw[hr1,fL]at hS;have HFn:=G (show Rv= .error (qn,m)from HQR.out.symm.trans hS);go_wp2_with (go_at_call 120;refine(ec X gl _ loj _ HQ.out.ck nm hnm).mono ?_;rw[hr1];unfold b_ bg;rintro e wx ⟨rfl,hE⟩;have HZ:=G (HQ.out.gr.trans (hE.grownBy _));clear hE);exact⟨rfl,by rw[HFn.out];exact⟨HZ.out,rfl⟩⟩
    |ok u=>
     rw[hr1,em]at hS
     cases hr2:na gl loj ex with
     |error q=>
      obtain⟨qn,m⟩:=q;rw[hr2,fL]at hS;have HFn:=G (show Rv= .error (qn,m)from HQR.out.symm.trans hS);go_wp2_with (first|(go_at_call 120;refine(ec X gl _ loj _ HQ.out.ck nm hnm).mono ?_;rw[hr1];unfold b_;rintro e wx ⟨rfl,hE⟩;replace HQ:=G (HQ.out.ext hE);clear hE;(try clear f0);have f0:=HQ.out.bk.cell;)|(go_at_call 121;refine(HEX.out X gl _ loj P _ A1 ex.length c1 HQ.out.ck HQ.out.re).mono ?_;rw[hr2];unfold b_ bg;rintro e wx ⟨rfl,hE⟩;have HZ:=G (HQ.out.gr.trans (hE.grownBy _));clear hE));exact⟨rfl,by rw[HFn.out];exact⟨HZ.out,rfl⟩⟩
     |ok u=>
      rw[hr2,em]at hS;rw[if_neg (by decide),em]at hS;obtain⟨lo1,hlo1⟩: ∃l,loj=l:=⟨_,rfl⟩
      subst hlo1
      cases hr4:fw gl loj bd with
      |error q=>
       obtain⟨qn,m⟩:=q;rw[hr4,fL]at hS;have HFn:=G (show Rv= .error (qn,m)from HQR.out.symm.trans hS);go_wp2_with (first|(go_at_call 120;refine(ec X gl _ loj _ HQ.out.ck nm hnm).mono ?_;rw[hr1];unfold b_;rintro e wx ⟨rfl,hE⟩;replace HQ:=G (HQ.out.ext hE);clear hE;(try clear f0);have f0:=HQ.out.bk.cell;)|(go_at_call 121;refine(HEX.out X gl _ loj P _ A1 ex.length c1 HQ.out.ck HQ.out.re).mono ?_;rw[hr2];unfold b_;rintro e wx ⟨rfl,hE⟩;replace HQ:=G (HQ.out.ext hE);clear hE;(try clear f0);have f0:=HQ.out.bk.cell;)|(go_at_call 74;have hc:=HB1.out X gl bl loj P _ A2 bd.length c2 HQ.out.ck HQ.out.rb hP;rw[hr4]at hc;clear HB1;refine hc.mono ?_;unfold oO bg;rintro e wx ⟨hg,rfl⟩;have HZ:=G (HQ.out.gr.trans hg);clear hg hc));exact⟨rfl,by rw[HFn.out];exact⟨HZ.out,rfl⟩⟩
      |ok lo2=>
       rw[hr4,em]at hS
       cases hr5:fw gl lo2 el with
       |error q=>
        obtain⟨qn,m⟩:=q;rw[hr5,fL]at hS;have HFn:=G (show Rv= .error (qn,m)from HQR.out.symm.trans hS);go_wp2_with (first|(go_at_call 120;refine(ec X gl _ loj _ HQ.out.ck nm hnm).mono ?_;rw[hr1];unfold b_;rintro e wx ⟨rfl,hE⟩;replace HQ:=G (HQ.out.ext hE);clear hE;(try clear f0);have f0:=HQ.out.bk.cell;)|(go_at_call 121;refine(HEX.out X gl _ loj P _ A1 ex.length c1 HQ.out.ck HQ.out.re).mono ?_;rw[hr2];unfold b_;rintro e wx ⟨rfl,hE⟩;replace HQ:=G (HQ.out.ext hE);clear hE;(try clear f0);have f0:=HQ.out.bk.cell;)|(go_at_call 74;have hc:=HB1.out X gl bl loj P _ A2 bd.length c2 HQ.out.ck HQ.out.rb hP;rw[hr4]at hc;clear HB1;refine hc.mono ?_;unfold oO;rintro e wx ⟨hg,rfl,hck⟩;replace HQ:=G (HQ.out.grown hg hck);clear hg hck hc;(try clear f0);have f0:=HQ.out.bk.cell;)|(go_at_call 74;have hc:=HL1.out X gl bl lo2 P _ A3 el.length c3 HQ.out.ck HQ.out.rl hP;rw[hr5]at hc;clear HL1;refine hc.mono ?_;unfold oO bg;rintro e wx ⟨hg,rfl⟩;have HZ:=G (HQ.out.gr.trans hg);clear hg hc));exact⟨rfl,by rw[HFn.out];exact⟨HZ.out,rfl⟩⟩
       |ok lo3=>
        rw[hr5,em]at hS;go_wp2_with (first|(go_at_call 120;refine(ec X gl _ loj _ HQ.out.ck nm hnm).mono ?_;rw[hr1];unfold b_;rintro e wx ⟨rfl,hE⟩;replace HQ:=G (HQ.out.ext hE);clear hE;(try clear f0);have f0:=HQ.out.bk.cell;)|(go_at_call 121;refine(HEX.out X gl _ loj P _ A1 ex.length c1 HQ.out.ck HQ.out.re).mono ?_;rw[hr2];unfold b_;rintro e wx ⟨rfl,hE⟩;replace HQ:=G (HQ.out.ext hE);clear hE;(try clear f0);have f0:=HQ.out.bk.cell;)|(go_at_call 74;have hc:=HB1.out X gl bl loj P _ A2 bd.length c2 HQ.out.ck HQ.out.rb hP;rw[hr4]at hc;clear HB1;refine hc.mono ?_;unfold oO;rintro e wx ⟨hg,rfl,hck⟩;replace HQ:=G (HQ.out.grown hg hck);clear hg hck hc;(try clear f0);have f0:=HQ.out.bk.cell;)|(go_at_call 74;have hc:=HL1.out X gl bl lo2 P _ A3 el.length c3 HQ.out.ck HQ.out.rl hP;rw[hr5]at hc;clear HL1;refine hc.mono ?_;unfold oO;rintro e wx ⟨hg,rfl,hck⟩;replace HQ:=G (HQ.out.grown hg hck);clear hg hck hc;(try clear f0);have f0:=HQ.out.bk.cell;));go_roundw
        case rel=>exact⟨j+1,lo3,by go_num,by omega,G (hS.symm.trans HQR.out),G HQ.out.gr,G HQ.out.ck⟩
        case measure=>simp[intOf];omega
   by_cases hk1:k=1
   ·subst hk1;rw[if_neg (by decide),if_neg (by decide),em]at hS
    cases hr2:na gl loj ex with
    |error q=>
     obtain⟨qn,m⟩:=q;rw[hr2,fL]at hS;have HFn:=G (show Rv= .error (qn,m)from HQR.out.symm.trans hS);go_wp2_with (go_at_call 121;refine(HEX.out X gl _ loj P _ A1 ex.length c1 HQ.out.ck HQ.out.re).mono ?_;rw[hr2];unfold b_ bg;rintro e wx ⟨rfl,hE⟩;have HZ:=G (HQ.out.gr.trans (hE.grownBy _));clear hE);exact⟨rfl,by rw[HFn.out];exact⟨HZ.out,rfl⟩⟩
    |ok u=>
     rw[hr2,em]at hS;rw[if_pos rfl]at hS
     cases hr3:gl.known loj nm with
     |true=>
      rw[hr3,if_pos rfl,fL]at hS;have HFn:=G (show Rv= .error (nm,9)from HQR.out.symm.trans hS);go_wp2_with (first|(go_at_call 121;refine(HEX.out X gl _ loj P _ A1 ex.length c1 HQ.out.ck HQ.out.re).mono ?_;rw[hr2];unfold b_;rintro e wx ⟨rfl,hE⟩;replace HQ:=G (HQ.out.ext hE);clear hE;(try clear f0);have f0:=HQ.out.bk.cell;)|(go_at_call 72;refine(dW X gl _ loj _ HQ.out.ck nm hnm).mono ?_;rw[hr3];rintro e wx ⟨rfl,hE⟩;replace HQ:=G (HQ.out.ext hE);clear hE;(try clear f0);have f0:=HQ.out.bk.cell;)|(go_at_call 73;refine(dV nm 9 _).mono ?_;unfold bg;rintro e wx ⟨rfl,hE⟩;have HZ:=G (HQ.out.gr.trans (hE.grownBy _));clear hE));exact⟨rfl,by rw[HFn.out];exact⟨HZ.out,rfl⟩⟩
     |false=>
      rw[hr3,if_neg (by decide),em]at hS;obtain⟨lo1,hlo1⟩: ∃l,loj.add nm=l:=⟨_,rfl⟩
      rw[hlo1]at hS
      cases hr4:fw gl lo1 bd with
      |error q=>
       obtain⟨qn,m⟩:=q;rw[hr4,fL]at hS;have HFn:=G (show Rv= .error (qn,m)from HQR.out.symm.trans hS);go_wp2_with (first|(go_at_call 121;refine(HEX.out X gl _ loj P _ A1 ex.length c1 HQ.out.ck HQ.out.re).mono ?_;rw[hr2];unfold b_;rintro e wx ⟨rfl,hE⟩;replace HQ:=G (HQ.out.ext hE);clear hE;(try clear f0);have f0:=HQ.out.bk.cell;)|(go_at_call 72;refine(dW X gl _ loj _ HQ.out.ck nm hnm).mono ?_;rw[hr3];rintro e wx ⟨rfl,hE⟩;replace HQ:=G (HQ.out.ext hE);clear hE;(try clear f0);have f0:=HQ.out.bk.cell;));refine az 6 1 [] mixed (by kernel_rfl) trivial ?_;repeat (refine sx ?_ (fun w1 hU=> ?_) ?_;rotate_left;(focus have f0:=(HQ.out.ext hU.un).bk.cell;have fk:=(HQ.out.ext hU.un).ck.blk.cell;clear hU;go_simp<;>with_reducible rfl);simp only[aY,aX,aW,aV,aU])
       intro w7 hw7 _;simp only[ac,an];replace HQ:=G (HQ.out.ext hw7.un);clear hw7;(try clear f0);go_wp2_with (at_mapUpdate;refine cH BV rfl _ _ _ rfl HQ.out.ml rfl (by unfold maxLen;omega) rfl _ rfl ?_;intro w8 hm8 hg8;replace HQ:=G (HQ.out.grown hg8 (HQ.out.ck.add hm8 hg8));clear hm8 hg8;have f0:=HQ.out.bk.cell);rw[hlo1]at HQ;go_wp2_with (go_at_call 74;have hc:=HB1.out X gl bl lo1 P _ A2 bd.length c2 HQ.out.ck HQ.out.rb hP;rw[hr4]at hc;clear HB1;refine hc.mono ?_;unfold oO bg;rintro e wx ⟨hg,rfl⟩;have HZ:=G (HQ.out.gr.trans hg);clear hg hc);exact⟨rfl,by rw[HFn.out];exact⟨HZ.out,rfl⟩⟩
      |ok lo2=>
       rw[hr4,em]at hS
       cases hr5:fw gl lo2 el with
       |error q=>
        obtain⟨qn,m⟩:=q;rw[hr5,fL]at hS;have HFn:=G (show Rv= .error (qn,m)from HQR.out.symm.trans hS);go_wp2_with (first|(go_at_call 121;refine(HEX.out X gl _ loj P _ A1 ex.length c1 HQ.out.ck HQ.out.re).mono ?_;rw[hr2];unfold b_;rintro e wx ⟨rfl,hE⟩;replace HQ:=G (HQ.out.ext hE);clear hE;(try clear f0);have f0:=HQ.out.bk.cell;)|(go_at_call 72;refine(dW X gl _ loj _ HQ.out.ck nm hnm).mono ?_;rw[hr3];rintro e wx ⟨rfl,hE⟩;replace HQ:=G (HQ.out.ext hE);clear hE;(try clear f0);have f0:=HQ.out.bk.cell;));refine az 6 1 [] mixed (by kernel_rfl) trivial ?_;repeat (refine sx ?_ (fun w1 hU=> ?_) ?_;rotate_left;(focus have f0:=(HQ.out.ext hU.un).bk.cell;have fk:=(HQ.out.ext hU.un).ck.blk.cell;clear hU;go_simp<;>with_reducible rfl);simp only[aY,aX,aW,aV,aU])
        intro w7 hw7 _;simp only[ac,an];replace HQ:=G (HQ.out.ext hw7.un);clear hw7;(try clear f0);go_wp2_with (at_mapUpdate;refine cH BV rfl _ _ _ rfl HQ.out.ml rfl (by unfold maxLen;omega) rfl _ rfl ?_;intro w8 hm8 hg8;replace HQ:=G (HQ.out.grown hg8 (HQ.out.ck.add hm8 hg8));clear hm8 hg8;have f0:=HQ.out.bk.cell);rw[hlo1]at HQ;go_wp2_with (first|(go_at_call 74;have hc:=HB1.out X gl bl lo1 P _ A2 bd.length c2 HQ.out.ck HQ.out.rb hP;rw[hr4]at hc;clear HB1;refine hc.mono ?_;unfold oO;rintro e wx ⟨hg,rfl,hck⟩;replace HQ:=G (HQ.out.grown hg hck);clear hg hck hc;(try clear f0);have f0:=HQ.out.bk.cell;)|(go_at_call 74;have hc:=HL1.out X gl bl lo2 P _ A3 el.length c3 HQ.out.ck HQ.out.rl hP;rw[hr5]at hc;clear HL1;refine hc.mono ?_;unfold oO bg;rintro e wx ⟨hg,rfl⟩;have HZ:=G (HQ.out.gr.trans hg);clear hg hc));exact⟨rfl,by rw[HFn.out];exact⟨HZ.out,rfl⟩⟩
       |ok lo3=>
        rw[hr5,em]at hS;go_wp2_with (first|(go_at_call 121;refine(HEX.out X gl _ loj P _ A1 ex.length c1 HQ.out.ck HQ.out.re).mono ?_;rw[hr2];unfold b_;rintro e wx ⟨rfl,hE⟩;replace HQ:=G (HQ.out.ext hE);clear hE;(try clear f0);have f0:=HQ.out.bk.cell;)|(go_at_call 72;refine(dW X gl _ loj _ HQ.out.ck nm hnm).mono ?_;rw[hr3];rintro e wx ⟨rfl,hE⟩;replace HQ:=G (HQ.out.ext hE);clear hE;(try clear f0);have f0:=HQ.out.bk.cell;));refine az 6 1 [] mixed (by kernel_rfl) trivial ?_;repeat (refine sx ?_ (fun w1 hU=> ?_) ?_;rotate_left;(focus have f0:=(HQ.out.ext hU.un).bk.cell;have fk:=(HQ.out.ext hU.un).ck.blk.cell;clear hU;go_simp<;>with_reducible rfl);simp only[aY,aX,aW,aV,aU])
        intro w7 hw7 _;simp only[ac,an];replace HQ:=G (HQ.out.ext hw7.un);clear hw7;(try clear f0);go_wp2_with (at_mapUpdate;refine cH BV rfl _ _ _ rfl HQ.out.ml rfl (by unfold maxLen;omega) rfl _ rfl ?_;intro w8 hm8 hg8;replace HQ:=G (HQ.out.grown hg8 (HQ.out.ck.add hm8 hg8));clear hm8 hg8;have f0:=HQ.out.bk.cell);rw[hlo1]at HQ;go_wp2_with (first|(go_at_call 74;have hc:=HB1.out X gl bl lo1 P _ A2 bd.length c2 HQ.out.ck HQ.out.rb hP;rw[hr4]at hc;clear HB1;refine hc.mono ?_;unfold oO;rintro e wx ⟨hg,rfl,hck⟩;replace HQ:=G (HQ.out.grown hg hck);clear hg hck hc;(try clear f0);have f0:=HQ.out.bk.cell;)|(go_at_call 74;have hc:=HL1.out X gl bl lo2 P _ A3 el.length c3 HQ.out.ck HQ.out.rl hP;rw[hr5]at hc;clear HL1;refine hc.mono ?_;unfold oO;rintro e wx ⟨hg,rfl,hck⟩;replace HQ:=G (HQ.out.grown hg hck);clear hg hck hc;(try clear f0);have f0:=HQ.out.bk.cell;));go_roundw
        case rel=>exact⟨j+1,lo3,by go_num,by omega,G (hS.symm.trans HQR.out),G HQ.out.gr,G HQ.out.ck⟩
        case measure=>simp[intOf];omega
   have n2:=beq_eq_false_iff_ne.2 hk2;have n3:=beq_eq_false_iff_ne.2 hk3;have n1:=beq_eq_false_iff_ne.2 hk1;rw[if_neg hk2,if_neg hk3,em]at hS
   cases hr2:na gl loj ex with
   |error q=>
    obtain⟨qn,m⟩:=q;rw[hr2,fL]at hS;have HFn:=G (show Rv= .error (qn,m)from HQR.out.symm.trans hS);go_wp2_with (go_at_call 121;refine(HEX.out X gl _ loj P _ A1 ex.length c1 HQ.out.ck HQ.out.re).mono ?_;rw[hr2];unfold b_ bg;rintro e wx ⟨rfl,hE⟩;have HZ:=G (HQ.out.gr.trans (hE.grownBy _));clear hE);exact⟨rfl,by rw[HFn.out];exact⟨HZ.out,rfl⟩⟩
   |ok u=>
    rw[hr2,em]at hS;rw[if_neg (hk1),em]at hS;obtain⟨lo1,hlo1⟩: ∃l,loj=l:=⟨_,rfl⟩
    subst hlo1
    cases hr4:fw gl loj bd with
    |error q=>
     obtain⟨qn,m⟩:=q;rw[hr4,fL]at hS;have HFn:=G (show Rv= .error (qn,m)from HQR.out.symm.trans hS);go_wp2_with (first|(go_at_call 121;refine(HEX.out X gl _ loj P _ A1 ex.length c1 HQ.out.ck HQ.out.re).mono ?_;rw[hr2];unfold b_;rintro e wx ⟨rfl,hE⟩;replace HQ:=G (HQ.out.ext hE);clear hE;(try clear f0);have f0:=HQ.out.bk.cell;)|(go_at_call 74;have hc:=HB1.out X gl bl loj P _ A2 bd.length c2 HQ.out.ck HQ.out.rb hP;rw[hr4]at hc;clear HB1;refine hc.mono ?_;unfold oO bg;rintro e wx ⟨hg,rfl⟩;have HZ:=G (HQ.out.gr.trans hg);clear hg hc));exact⟨rfl,by rw[HFn.out];exact⟨HZ.out,rfl⟩⟩
    |ok lo2=>
     rw[hr4,em]at hS
     cases hr5:fw gl lo2 el with
     |error q=>
      obtain⟨qn,m⟩:=q;rw[hr5,fL]at hS;have HFn:=G (show Rv= .error (qn,m)from HQR.out.symm.trans hS);go_wp2_with (first|(go_at_call 121;refine(HEX.out X gl _ loj P _ A1 ex.length c1 HQ.out.ck HQ.out.re).mono ?_;rw[hr2];unfold b_;rintro e wx ⟨rfl,hE⟩;replace HQ:=G (HQ.out.ext hE);clear hE;(try clear f0);have f0:=HQ.out.bk.cell;)|(go_at_call 74;have hc:=HB1.out X gl bl loj P _ A2 bd.length c2 HQ.out.ck HQ.out.rb hP;rw[hr4]at hc;clear HB1;refine hc.mono ?_;unfold oO;rintro e wx ⟨hg,rfl,hck⟩;replace HQ:=G (HQ.out.grown hg hck);clear hg hck hc;(try clear f0);have f0:=HQ.out.bk.cell;)|(go_at_call 74;have hc:=HL1.out X gl bl lo2 P _ A3 el.length c3 HQ.out.ck HQ.out.rl hP;rw[hr5]at hc;clear HL1;refine hc.mono ?_;unfold oO bg;rintro e wx ⟨hg,rfl⟩;have HZ:=G (HQ.out.gr.trans hg);clear hg hc));exact⟨rfl,by rw[HFn.out];exact⟨HZ.out,rfl⟩⟩
     |ok lo3=>
      rw[hr5,em]at hS;go_wp2_with (first|(go_at_call 121;refine(HEX.out X gl _ loj P _ A1 ex.length c1 HQ.out.ck HQ.out.re).mono ?_;rw[hr2];unfold b_;rintro e wx ⟨rfl,hE⟩;replace HQ:=G (HQ.out.ext hE);clear hE;(try clear f0);have f0:=HQ.out.bk.cell;)|(go_at_call 74;have hc:=HB1.out X gl bl loj P _ A2 bd.length c2 HQ.out.ck HQ.out.rb hP;rw[hr4]at hc;clear HB1;refine hc.mono ?_;unfold oO;rintro e wx ⟨hg,rfl,hck⟩;replace HQ:=G (HQ.out.grown hg hck);clear hg hck hc;(try clear f0);have f0:=HQ.out.bk.cell;)|(go_at_call 74;have hc:=HL1.out X gl bl lo2 P _ A3 el.length c3 HQ.out.ck HQ.out.rl hP;rw[hr5]at hc;clear HL1;refine hc.mono ?_;unfold oO;rintro e wx ⟨hg,rfl,hck⟩;replace HQ:=G (HQ.out.grown hg hck);clear hg hck hc;(try clear f0);have f0:=HQ.out.bk.cell;));go_roundw
      case rel=>exact⟨j+1,lo3,by go_num,by omega,G (hS.symm.trans HQR.out),G HQ.out.gr,G HQ.out.ck⟩
      case measure=>simp[intOf];omega
  ·have hlt': ¬(j:Int)<N:=by omega
   have HFn:=G (show Rv= .ok loj by
    have:=HQR.out;rw[aH (by have:=HN.out;omega),fw]at this
    exact this.symm)
   go_wp2_with fail;exact bodyPost_end (results_none rfl _ _ _) rfl (by rw[HFn.out];exact⟨HX.out,rfl,HKj.out⟩)
theorem ly: ∀(m:Nat) (xs:List St),eO xs<=m->eO xs<=1073741824->BH xs
 |0,xs,h,hw=>nU xs (by have:=c_ xs;omega) (fun s hs=>by have:=bJ hs;have:=s.wt_eq;omega) (fun s hs=>by have:=bJ hs;have:=s.wt_eq;omega) (fun s hs=>by have:=bJ hs;have:=s.wt_eq;omega)
 |m+1,xs,h,hw=>nU xs (by have:=c_ xs;omega) (fun s hs=>by have:=bJ hs;have:=s.wt_eq;omega) (fun s hs=>sH s.ex (by have:=bJ hs;have:=s.wt_eq;omega))
   (fun s hs=>⟨ly m s.body (by have:=bJ hs;have:=s.wt_eq;omega) (by have:=bJ hs;have:=s.wt_eq;omega),ly m s.els (by have:=bJ hs;have:=s.wt_eq;omega) (by have:=bJ hs;have:=s.wt_eq;omega)⟩)
end
section
open Go.RowKit
theorem pE: ∀(f:Nat) (acc:List (List UInt8)) (l:List bS) (x:List (List UInt8)) (r:List bS),eX f acc l= .ok (x,r)->r.length<l.length
 |0,acc,l,x,r,h=>by rw[eX]at h;cases h
 |f+1,acc,l,x,r,h=>by
  rw[eX]at h;obtain⟨a,q,h1,h2⟩:=aQ h;have:=(kC h1).2.2.2;split at h2
  ·rename_i hk;have:=bx hk;rw[<-(bB h2).2];omega
  ·obtain⟨b,q2,h3,h4⟩:=aQ h2;have:=(d6 h3).2.2;have:=pE f _ _ _ _ h4;omega
theorem yr {f:Nat} {l:List bS} {x:List (List UInt8)} {r:List bS} (h:fe f l= .ok (x,r)):r.length<l.length:=by
 unfold fe at h;split at h
 ·rename_i hk;have:=bx hk;rw[<-(bB h).2];omega
 ·exact pE _ _ _ _ _ h
theorem Av {l r:List bS} {x:Vr} (h:ju l= .ok (x,r)):r.length<l.length:=by
 unfold ju at h;obtain⟨a,q,h1,h2⟩:=aQ h;obtain⟨b,q2,h3,h4⟩:=aQ h2;obtain⟨c,q3,h5,h6⟩:=aQ h4;have:=(kC h1).2.2.2;have:=(d6 h5).2.2;have h7:=(bB h6).2;subst h7;split at h3
 ·rename_i hk;have:=bx hk;split at h3
  ·split at h3
   ·cases h3
   ·obtain⟨e,q4,h8,h9⟩:=aQ h3;have:=(d6 h8).2.2;have h10:=(bB h9).2;subst h10;have:q.tail.tail.length<=q.tail.length:=by simp
    omega
  ·cases h3
 ·have h10:=(bB h3).2;subst h10;omega
theorem vO (w:World) (p:Value):let W0:=((w.alloc (.cells #[p] 153)).alloc (.cells #[.slice none 0 0, .slice none 0 0] 34)).alloc (.cells #[.slice none 0 0, .slice none 0 0] 34)
  au w W0/\aS W0 w.heap.size 153 #[p]/\aS W0 (w.heap.size+1) 34 #[.slice none 0 0, .slice none 0 0]/\aS W0 (w.heap.size+2) 34 #[.slice none 0 0, .slice none 0 0]:=by
 have h1:=ap (w.alloc (.cells #[p] 153)) 34 #[.slice none 0 0, .slice none 0 0];have h2:=ap ((w.alloc (.cells #[p] 153)).alloc (.cells #[.slice none 0 0, .slice none 0 0] 34)) 34 #[.slice none 0 0, .slice none 0 0];rw[World.size_alloc]at h1;rw[World.size_alloc,World.size_alloc]at h2;exact⟨((O w _).alloc' _).alloc' _,((ap w _ _).alloc _).alloc _,h1.alloc _,h2⟩
theorem CO {w W:World} {g pr:Nat} {en:Int} {z0 z1:Value} {r:PR Pg} {q:List bS} (p:Pg) (A:Option Addr) (n c:Nat) (B:Option Addr) (m d:Nat) (hr:r= .ok (p,q)) (hpr:w.heap.size<=pr) (hB:aS W pr 34 #[z0,z1]) (hG:w.grownBy W (some g))
  (hV:iO W (fun b=>pr<b) (.slice A n c) p.vs) (hF:ja W (fun b=>pr<b) (.slice B m d) p.fs):
  (∀o,(W.setCells pr 0 [.slice A n c, .slice B m d]).cell? ⟨pr,o,none⟩=(#[.slice A n c, .slice B m d]:Array Value)[o]?)/\C9 g en w r (.returned (.agg #[.slice A n c, .slice B m d])) (W.setCells pr 0 [.slice A n c, .slice B m d]):=by
 subst hr;have hc:=cZ pr [.slice A n c, .slice B m d] 0 W;have hb:=(hB.set 0 (.slice A n c)).set 1 (.slice B m d);have hk:cw (fun b=>pr<b) W (W.setCells pr 0 [.slice A n c, .slice B m d]):= .of_grown hc fun b hb e=>by injection e with e;omega
 exact⟨fun o=>by have:=hb.cell o;simpa[World.setCells]using this,dI hG hc hpr,A,n,c,B,m,d,rfl,hV.keep hk (fun b hb _=>by omega),hF.keep hk (fun b hb _=>by omega)⟩
theorem oa (F0:Nat) (hF0:F0<=400000) (l:List bS) (en:Int) (w:World) (g:Nat) (h:PA w g l en) (hf:4*l.length+2<=F0):Calls prog 60 #[.pointer (some ⟨g,0,none⟩)] w (C9 g en w (dh F0 ⟨[],[]⟩ l)):=by
 obtain⟨hX0,hb0,hB0,hS0⟩:=vO w (.pointer (some ⟨g,0,none⟩));have HX0:=G hX0;have Hb0:=G hb0;have HB0:=G hB0;have HS0:=G hS0;have HP0:=G (h.ext hX0);have hgl:=h.lt;have hbg:w.heap.size≠g:=by omega
 have hrg:w.heap.size+1≠g:=by omega
 have hsg:w.heap.size+2≠g:=by omega
 clear h hX0 hb0 hB0 hS0;have hmf: ∀(fn:Fn) (first cap:Array Value) (w:World),(Instr.makeFunc fn first cap).run prog w= .ok (.func fn first cap) w:=fun _ _ _ _=>rfl;go_enter func60,ntmps60;go_wp2_with fail
 go_loopw [] (fun wr=> ∃(k:Nat) (vs:List Vr) (fs:List FV) (r:List bS) (A:Option Addr) (n c:Nat) (B:Option Addr) (m d:Nat),4*r.length+2<=k/\k<=F0/\vs.length=n/\fs.length=m/\n+m+r.length<=l.length/\Hid (dh k ⟨vs,fs.map (·.c)⟩ r=dh F0 ⟨[],[]⟩ l)/\Hid (PA wr g r en)/\Hid (aS wr w.heap.size 153 #[.pointer (some ⟨g,0,none⟩)])/\Hid (aS wr (w.heap.size+1) 34 #[.slice none 0 0, .slice none 0 0])/\Hid (aS wr (w.heap.size+2) 34 #[.slice A n c, .slice B m d])/\
  Hid (kj wr (w.heap.size+3) (.slice A n c) (.slice B m d) vs fs)/\Hid (w.grownBy wr (some g))) (fun wr=>tokN g wr)
 case atStart=>exact⟨F0,[],[],l,none,0,0,none,0,0,hf,ah _,rfl,rfl,by omega,G rfl,HP0,Hb0,HB0,HS0,G (kj.nil_ _ _),G (HX0.out.grownBy _)⟩
 case round=>
  clear HX0 Hb0 HB0 HS0 HP0;obtain⟨k,vs,fs,r,A,n,c,B,m,d,hk0,hkF0,hn0,hm,hnm,HRes,HPr,Hbr,HBr,HSr,HOr,HGr⟩:=hrel;obtain⟨k,rfl⟩: ∃k',k=k'+1:=⟨k-1,by omega⟩
  have hkF:k<=400000:=by omega
  have HSt:=G (show dh (k+1) ⟨vs,fs.map (·.c)⟩ r=if r=[]then .ok (⟨vs,fs.map (·.c)⟩,[])else if cV lU r then(ju r.tail).then fun v r=>dh k ⟨vs++[v],fs.map (·.c)⟩ r
   else(b7 kB r).then fun _ r=>(j9 k r).then fun c r=>dh k ⟨vs,fs.map (·.c)++[c]⟩ r from by rw[dh])
  have hpc:=Hbr.out.cell;have hsc:=HSr.out.cell;have hsf:=HSr.out.frozen;by_cases hr0:r=[]
  ·subst hr0;have HR:=G (show dh F0 ⟨[],[]⟩ l= .ok (⟨vs,fs.map (·.c)⟩,[])from by rw[<-HRes.out,HSt.out,if_pos rfl]);obtain⟨Q,cq,hb,ht,hn⟩:=HPr.out;have hbc:=hb.cell;have hrc:=HBr.out.cell;have hrf:=HBr.out.frozen;clear hb ht hn;go_wp2_with fail;have hrd:=HOr.out.rd;obtain⟨hset,hfin⟩:=CO (en:=en) ⟨vs,fs.map (·.c)⟩ A n c B m d HR.out (kr _) HBr.out HGr.out (hrd.1.keep ⟨ah _,fun _ _ _=>rfl⟩ (fun b hb _=>by omega)) (hrd.2.keep ⟨ah _,fun _ _ _=>rfl⟩ (fun b hb _=>by omega));simp only[World.setCells,aD]at hset hfin;exact bodyPost_ret (v:= .agg #[.slice A n c, .slice B m d]) (by simp[results,results60,go_sem,hset]) rfl hfin
  obtain⟨Q,cq,hb,ht,hn⟩:=HPr.out;have hbc:=hb.cell;obtain⟨N,hN⟩: ∃N,r.length=N:=⟨_,rfl⟩
  rw[hN]at hbc;have hN0:0<N:=by rw[<-hN];exact List.length_pos_iff.2 hr0
  have hN0i:(0:Int)<N:=by omega
  have hrt:r.length=r.tail.length+1:=by simp only[List.length_tail];omega
  have HS2:=G (show dh F0 ⟨[],[]⟩ l=if cV lU r then(ju r.tail).then fun v r=>dh k ⟨vs++[v],fs.map (·.c)⟩ r
   else(b7 kB r).then fun _ r=>(j9 k r).then fun c r=>dh k ⟨vs,fs.map (·.c)++[c]⟩ r from by rw[<-HRes.out,HSt.out,if_neg hr0])
  clear hb ht hn HSt HRes
  cases hv:cV lU r with
  |true=>
   have HPNr:=HPr;go_wp2_with (first|(go_at_call 98;refine(ct g _ en lU _ HPr.out).mono ?_;rw[hv];simp only[if_true];rintro e w1 ⟨rfl,h1,h2⟩;have HP1:=G h1;have HG1:=G (am HGr.out h2);have Hb1:=G (Hbr.out.grown h2 (fun e=>hbg (Z e)));have HB1:=G (HBr.out.grown h2 (fun e=>hrg (Z e)));have HS1:=G (HSr.out.grown h2 (fun e=>hsg (Z e)));have HO1:=G (HOr.out.grown h2 (fun k e=>by injection e with e;omega));clear hpc hsc hsf hbc;have hpc:=Hb1.out.cell;have hsc:=HS1.out.cell;have hsf:=HS1.out.frozen;clear h1 h2 HPr))
   cases hx:ju r.tail with
   |error p=>
    obtain⟨q,er⟩:=p;have HR:=G (show dh F0 ⟨[],[]⟩ l= .error (q,er)from by rw[HS2.out,if_pos hv,hx];rfl);refine bM 5 4 [(3,fun v=>v= .agg #[.string ⟨#[]⟩, .int .i64 0],fun _ _=>False),(4,fun v=> ∃gb,v= .slice (some ⟨gb,0,none⟩) 1 1,fun _ _=>True)] 3 (some g) mixed (by kernel_rfl) ⟨fun _ _ _ h _=>h,fun _ _ _ h _=>h,trivial⟩ ⟨.inl rfl, .inr fun _ _ _ h _=>h,trivial⟩ ?_;repeat (refine sx ?_ (fun w1 hU=> ?_) ?_;rotate_left;(focus have f1:=(HS1.out.grown (aF hU) (fun e=>hsg (Z e))).cell;have f2:=(Hb1.out.grown (aF hU) (fun e=>hbg (Z e))).cell;clear hU;go_simp<;>with_reducible rfl);simp only[aY,aX,aW,aV,aU])
    refine bI _ _ (by rfl) rfl ⟨_,rfl⟩ rfl (fun w6 hT hp K hK=> ?_) ?_
    ·clear hp;have hc:=tT _ en w6 g (HP1.out.ext hT.un);have HT6:=G hT.un;clear hT;go_simp;refine hc.mono ?_;intro e w7 hh;rw[hx]at hh;obtain⟨hG,rfl⟩:=hh;unfold a7;intro a' hd;exact⟨hd,kT HR.out (am HG1.out (am (HT6.out.grownBy _) hG))⟩
    rintro _ rfl;simp only[aY,aX,aW,aV,aU];refine be _ _ (by rfl) rfl ⟨_,0,rfl⟩ (by simp) (fun w6 hU hp K hK=> ?_) ?_
    ·clear hp;go_simp;exact hK _ _ (O w6 _) ⟨_,rfl⟩ trivial
    rintro _ ⟨gb,rfl⟩;simp only[aY,aX,aW,aV,aU];intro w6 hw6 hp;exact(hp _ (.tail _ (.head _))).elim
   |ok p=>
    obtain⟨x,q⟩:=p;have hlx:=Av hx;have HRN:=G (show dh k ⟨vs++[x],fs.map (·.c)⟩ q=dh F0 ⟨[],[]⟩ l from by rw[HS2.out,if_pos hv,hx];rfl);have hg1:g<w1.heap.size:=HP1.out.lt;have hz1:w.heap.size+2<w1.heap.size:=HS1.out.lt;refine bM 5 4 [(3,fun v=>v= .agg #[.string (ai x.nm), .int .i64 x.sz],fun v wx=>PA wx g q en),(4,fun v=> ∃gb,v= .slice (some ⟨gb,0,none⟩) 1 1,fun v wx=> ∀gb,v= .slice (some ⟨gb,0,none⟩) 1 1->w1.heap.size<=gb/\aS wx gb 85 #[.string (ai x.nm), .int .i64 x.sz])] 3 (some g) mixed (by kernel_rfl)
     ⟨fun _ _ _ h hx=>h.ext hx,fun _ _ _ h hx gb e=>⟨(h gb e).1,(h gb e).2.ext hx⟩,trivial⟩ ⟨.inl rfl, .inr fun _ _ _ h hx gb e=>⟨(h gb e).1,(h gb e).2.grown hx (fun e'=>by have:=(h gb e).1;injection e' with e';omega)⟩,trivial⟩ ?_
    repeat (refine sx ?_ (fun w1 hU=> ?_) ?_;rotate_left;(focus have f1:=(HS1.out.grown (aF hU) (fun e=>hsg (Z e))).cell;have f2:=(Hb1.out.grown (aF hU) (fun e=>hbg (Z e))).cell;clear hU;go_simp<;>with_reducible rfl);simp only[aY,aX,aW,aV,aU])
    refine bI _ _ (by rfl) rfl ⟨_,rfl⟩ rfl (fun w6 hT hp K hK=> ?_) ?_
    ·clear hp;have hc:=tT _ en w6 g (HP1.out.ext hT.un);clear hT;go_simp;refine hc.mono ?_;intro e w7 hh;rw[hx]at hh;obtain⟨hG,rfl,hPA⟩:=hh;exact hK _ _ hG rfl hPA
    rintro _ rfl;simp only[aY,aX,aW,aV,aU];refine be _ _ (by rfl) rfl ⟨_,0,rfl⟩ (by simp) (fun w6 hU hp K hK=> ?_) ?_
    ·have hz6:=(aF hU).size;clear hp hU;go_simp;exact hK _ _ (O w6 _) ⟨_,rfl⟩ (fun gb e=>by injection e with e;injection e with e;injection e with e;subst e;exact⟨hz6,ap w6 _ _⟩)
    rintro _ ⟨gb,rfl⟩;simp only[aY,aX,aW,aV,aU];intro w8 hw8 hp;obtain⟨hgb,hB3⟩:=hp _ (.head _) gb rfl;have HP8:=G (show PA w8 g q en from hp _ (.tail _ (.head _)));clear hp;simp only[ac,an];have hw8:=aF hw8;have HG8:=G (am HG1.out hw8);have Hb8:=G (Hb1.out.grown hw8 (fun e=>hbg (Z e)));have HB8:=G (HB1.out.grown hw8 (fun e=>hrg (Z e)));have HS8:=G (HS1.out.grown hw8 (fun e=>hsg (Z e)));have HO8:=G (HO1.out.grown hw8 (fun k e=>by injection e with e;omega));have hrow:=World.ownsRow.lt HO8.out.1;have hrw:=fun k hk=>(hrow k hk).1;have hz8:=HG8.out.size;have hz88:=hw8.size;clear hw8 hpc hsc hsf;refine dR Fd rfl _ _ rfl (w.heap.size+3) _ n (gn vs) rfl (by have:=HO8.out.1;rw[hn0]at this;exact this) gb (sk x) rfl hB3 rfl (by intro u hu;simp only[sk,dQ,cX,or_false]at hu;rcases hu with rfl|rfl<;>rfl) (by omega) (by decide) (by omega) ?_;intro A' cap' w9 hq1 hq2 hq3;have hO9:=HO8.out.snocV hn0 hq1 hq2 hq3;have hS9:=HS8.out.grown hq2 (fun e=>by have:=hrw _ e.symm;omega);have hb9:=Hb8.out.grown hq2 (fun e=>by have:=hrw _ e.symm;omega);have hB9:=HB8.out.grown hq2 (fun e=>by have:=hrw _ e.symm;omega);have hP9:=HP8.out.grown hq2 (fun k e=>by have:=hrw k e;omega);have hG9:w.grownBy w9 (some g):=⟨hq2.os.trans HG8.out.os,hq2.tape.trans HG8.out.tape,hq2.output.trans HG8.out.output,aM HG8.out.size hq2.size,fun i hi hne=>(hq2.block i (aA hi HG8.out.size) (fun e=>by have:=hrw i e.symm;omega)).trans (HG8.out.block i hi hne)⟩
    have hsc:=hS9.cell;have hsf:=hS9.frozen;have hs:=eI w9 (w.heap.size+2) 0 (.slice (some ⟨A',0,none⟩) (n+1) cap');have hs9:=hS9.set 0 (.slice (some ⟨A',0,none⟩) (n+1) cap');simp only[bh,bT]at hs9;have HON:=G (hO9.grown hs (fun k e=>by injection e with e;omega));have HPN:=G (hP9.grown hs (fun k e=>by injection e with e;omega));have HbN:=G (hb9.grown hs (fun e=>by injection e with e;omega));have HBN:=G (hB9.grown hs (fun e=>by injection e with e;omega));have HGN:=G (dI hG9 hs (by omega));have HSN:=G hs9;clear hq1 hq2 hq3 hs hs9 hO9 hS9 hb9 hB9 hP9 hG9 hrow hrw hB3;go_wp2_with fail;go_roundw
    case rel=>exact⟨k,vs++[x],fs,q,some ⟨A',0,none⟩,n+1,cap',B,m,d,by omega,by omega,by simp[hn0],hm,by omega,HRN,HPN,HbN,HBN,HSN,HON,HGN⟩
    case measure=>rw[HPNr.out.tokN,HPN.out.tokN];omega
  |false=>
   have HS3:=G (show dh F0 ⟨[],[]⟩ l=(b7 kB r).then fun _ r=>(j9 k r).then fun c r=>dh k ⟨vs,fs.map (·.c)++[c]⟩ r from by rw[HS2.out,if_neg (by rw[hv];simp)]);clear HS2
   cases hfu:cV kB r with
   |false=>
    have HR:=G (show dh F0 ⟨[],[]⟩ l= .error (r,3)from by rw[HS3.out,eF hfu];rfl);go_wp2_with (first|(go_at_call 98;refine(ct g _ en lU _ HPr.out).mono ?_;rw[hv];simp only[aO,if_false];rintro e w1 ⟨rfl,h1,h2⟩;have HP1:=G h1;have HG1:=G (am HGr.out h2);have Hb1:=G (Hbr.out.grown h2 (fun e=>hbg (Z e)));have HB1:=G (HBr.out.grown h2 (fun e=>hrg (Z e)));have HS1:=G (HSr.out.grown h2 (fun e=>hsg (Z e)));have HO1:=G (HOr.out.grown h2 (fun k e=>by injection e with e;omega));clear hpc hsc hsf hbc;have hpc:=Hb1.out.cell;have hsc:=HS1.out.cell;have hsf:=HS1.out.frozen;clear h1 h2 HPr)|(go_at_call 100;refine(f9 g _ en kB _ HP1.out hfu).mono ?_;unfold a7;rintro e w2 ⟨rfl,hG⟩;have HGE:=G (am HG1.out hG);clear hG));exact⟨rfl,kT HR.out HGE.out⟩
   |true=>
    have HS4:=G (show dh F0 ⟨[],[]⟩ l=(j9 k r.tail).then fun c r=>dh k ⟨vs,fs.map (·.c)++[c]⟩ r from by rw[HS3.out,cF hfu];rfl);clear HS3;by_cases hk:(cu r.tail).k=1
    rotate_left
    ·have HR:=G (show dh F0 ⟨[],[]⟩ l= .error (r.tail,3)from by rw[HS4.out];unfold j9;rw[kD hk];rfl);go_wp2_with (first|(go_at_call 98;refine(ct g _ en lU _ HPr.out).mono ?_;rw[hv];simp only[aO,if_false];rintro e w1 ⟨rfl,h1,h2⟩;have HP1:=G h1;have HG1:=G (am HGr.out h2);have Hb1:=G (Hbr.out.grown h2 (fun e=>hbg (Z e)));have HB1:=G (HBr.out.grown h2 (fun e=>hrg (Z e)));have HS1:=G (HSr.out.grown h2 (fun e=>hsg (Z e)));have HO1:=G (HOr.out.grown h2 (fun k e=>by injection e with e;omega));clear hpc hsc hsf hbc;have hpc:=Hb1.out.cell;have hsc:=HS1.out.cell;have hsf:=HS1.out.frozen;clear h1 h2 HPr)|(go_at_call 100;refine(eh g _ en kB _ HP1.out hfu).mono ?_;rintro e w2 ⟨rfl,h1,h2⟩;have HP2:=G h1;have HG2:=G (am HG1.out h2);have Hb2:=G (Hb1.out.grown h2 (fun e=>hbg (Z e)));have HB2:=G (HB1.out.grown h2 (fun e=>hrg (Z e)));have HS2:=G (HS1.out.grown h2 (fun e=>hsg (Z e)));have HO2:=G (HO1.out.grown h2 (fun k e=>by injection e with e;omega));clear hpc hsc hsf;have hpc:=Hb2.out.cell;have hsc:=HS2.out.cell;have hsf:=HS2.out.frozen;clear h1 h2 HP1)|(go_at_call 101;refine(oq g _ en _ HP2.out hk).mono ?_;unfold a7;rintro e w3 ⟨rfl,hG⟩;have HGE:=G (am HG2.out hG);clear hG));exact⟨rfl,kT HR.out HGE.out⟩
    have hkt:=h_ (l:=r.tail) (by rw[hk];decide)
    cases hlp:cV mw r.tail.tail with
    |false=>
     have HR:=G (show dh F0 ⟨[],[]⟩ l= .error (r.tail.tail,3)from by rw[HS4.out];unfold j9;rw[bP hk,then_ok,eF hlp];rfl);go_wp2_with (first|(go_at_call 98;refine(ct g _ en lU _ HPr.out).mono ?_;rw[hv];simp only[aO,if_false];rintro e w1 ⟨rfl,h1,h2⟩;have HP1:=G h1;have HG1:=G (am HGr.out h2);have Hb1:=G (Hbr.out.grown h2 (fun e=>hbg (Z e)));have HB1:=G (HBr.out.grown h2 (fun e=>hrg (Z e)));have HS1:=G (HSr.out.grown h2 (fun e=>hsg (Z e)));have HO1:=G (HOr.out.grown h2 (fun k e=>by injection e with e;omega));clear hpc hsc hsf hbc;have hpc:=Hb1.out.cell;have hsc:=HS1.out.cell;have hsf:=HS1.out.frozen;clear h1 h2 HPr)|(go_at_call 100;refine(eh g _ en kB _ HP1.out hfu).mono ?_;rintro e w2 ⟨rfl,h1,h2⟩;have HP2:=G h1;have HG2:=G (am HG1.out h2);have Hb2:=G (Hb1.out.grown h2 (fun e=>hbg (Z e)));have HB2:=G (HB1.out.grown h2 (fun e=>hrg (Z e)));have HS2:=G (HS1.out.grown h2 (fun e=>hsg (Z e)));have HO2:=G (HO1.out.grown h2 (fun k e=>by injection e with e;omega));clear hpc hsc hsf;have hpc:=Hb2.out.cell;have hsc:=HS2.out.cell;have hsf:=HS2.out.frozen;clear h1 h2 HP1)|(go_at_call 101;refine(iW g _ en _ HP2.out hk).mono ?_;rintro e w3 ⟨rfl,h1,h2⟩;have HG3:=G (am HG2.out h2);have Hb3:=G (Hb2.out.grown h2 (fun e=>hbg (Z e)));have HB3:=G (HB2.out.grown h2 (fun e=>hrg (Z e)));have HS3:=G (HS2.out.grown h2 (fun e=>hsg (Z e)));have HO3:=G (HO2.out.grown h2 (fun k e=>by injection e with e;omega));have hE:=O w3 (.cells #[.string (ai (cu r.tail).t), .slice none 0 0, .slice none 0 0] 59);have HQ4:=G (hE.grownBy (some g));have HF4:=G (ap w3 59 #[.string (ai (cu r.tail).t), .slice none 0 0, .slice none 0 0]);have HP4:=G (h1.ext hE);have HG4:=G (am HG3.out (hE.grownBy (some g)));have hz3:=HS3.out.lt;have hfg:w3.heap.size≠g:=(by omega);have hgf:g≠w3.heap.size:=(by omega);clear hpc hsc hsf;have hpc:=(Hb3.out.ext hE).cell;clear h1 h2 hE HP2)|(go_at_call 100;refine(f9 g _ en mw _ HP4.out hlp).mono ?_;unfold a7;rintro e w5 ⟨rfl,hG⟩;have HGE:=G (am HG4.out hG);clear hG));exact⟨rfl,kT HR.out HGE.out⟩
    |true=>
     have hlt:=bx hlp;have hfn:r.tail.tail.tail.length+1<=k:=by omega
     cases hn:fe k r.tail.tail.tail with
     |error p=>
      obtain⟨q,er⟩:=p;have HR:=G (show dh F0 ⟨[],[]⟩ l= .error (q,er)from by rw[HS4.out];unfold j9;rw[bP hk,then_ok,cF hlp,then_ok,hn];rfl);go_wp2_with (first|(go_at_call 98;refine(ct g _ en lU _ HPr.out).mono ?_;rw[hv];simp only[aO,if_false];rintro e w1 ⟨rfl,h1,h2⟩;have HP1:=G h1;have HG1:=G (am HGr.out h2);have Hb1:=G (Hbr.out.grown h2 (fun e=>hbg (Z e)));have HB1:=G (HBr.out.grown h2 (fun e=>hrg (Z e)));have HS1:=G (HSr.out.grown h2 (fun e=>hsg (Z e)));have HO1:=G (HOr.out.grown h2 (fun k e=>by injection e with e;omega));clear hpc hsc hsf hbc;have hpc:=Hb1.out.cell;have hsc:=HS1.out.cell;have hsf:=HS1.out.frozen;clear h1 h2 HPr)|(go_at_call 100;refine(eh g _ en kB _ HP1.out hfu).mono ?_;rintro e w2 ⟨rfl,h1,h2⟩;have HP2:=G h1;have HG2:=G (am HG1.out h2);have Hb2:=G (Hb1.out.grown h2 (fun e=>hbg (Z e)));have HB2:=G (HB1.out.grown h2 (fun e=>hrg (Z e)));have HS2:=G (HS1.out.grown h2 (fun e=>hsg (Z e)));have HO2:=G (HO1.out.grown h2 (fun k e=>by injection e with e;omega));clear hpc hsc hsf;have hpc:=Hb2.out.cell;have hsc:=HS2.out.cell;have hsf:=HS2.out.frozen;clear h1 h2 HP1)|(go_at_call 101;refine(iW g _ en _ HP2.out hk).mono ?_;rintro e w3 ⟨rfl,h1,h2⟩;have HG3:=G (am HG2.out h2);have Hb3:=G (Hb2.out.grown h2 (fun e=>hbg (Z e)));have HB3:=G (HB2.out.grown h2 (fun e=>hrg (Z e)));have HS3:=G (HS2.out.grown h2 (fun e=>hsg (Z e)));have HO3:=G (HO2.out.grown h2 (fun k e=>by injection e with e;omega));have hE:=O w3 (.cells #[.string (ai (cu r.tail).t), .slice none 0 0, .slice none 0 0] 59);have HQ4:=G (hE.grownBy (some g));have HF4:=G (ap w3 59 #[.string (ai (cu r.tail).t), .slice none 0 0, .slice none 0 0]);have HP4:=G (h1.ext hE);have HG4:=G (am HG3.out (hE.grownBy (some g)));have hz3:=HS3.out.lt;have hfg:w3.heap.size≠g:=(by omega);have hgf:g≠w3.heap.size:=(by omega);clear hpc hsc hsf;have hpc:=(Hb3.out.ext hE).cell;clear h1 h2 hE HP2)|(go_at_call 100;refine(eh g _ en mw _ HP4.out hlp).mono ?_;rintro e w5 ⟨rfl,h1,h2⟩;have HP5:=G h1;have HQ5:=G (am HQ4.out h2);have HG5:=G (am HG4.out h2);have HF5:=G (HF4.out.grown h2 (fun e=>hfg (Z e)));have Hb5:=G (Hb3.out.grown HQ5.out (fun e=>hbg (Z e)));clear hpc;have hpc:=Hb5.out.cell;have HL:=G (lG k w5.heap.size g w3.heap.size w.heap.size (cu r.tail).t r.tail.tail.tail en w5 HP5.out Hb5.out HF5.out (ah _) (by omega) (by omega) (by omega) HF5.out.lt Hb5.out.lt hfn (by omega));clear h1 h2 HP4)|(go_at_call 102;refine HL.out.mono ?_;intro e w6 hh;rw[hn]at hh;obtain⟨hF,rfl⟩:=hh;unfold a7;have hz5:=HF5.out.lt;have HGE:=G (jB HG5.out hF (by omega) (by omega));clear hF));exact⟨rfl,kT HR.out HGE.out⟩
     |ok p=>
      obtain⟨ps,q⟩:=p;have hnl:=yr hn;have hfb:4*q.length+1<=k:=by omega
      cases hb:dE k q with
      |error p=>
       obtain⟨q1,er⟩:=p;have HR:=G (show dh F0 ⟨[],[]⟩ l= .error (q1,er)from by rw[HS4.out];unfold j9;rw[bP hk,then_ok,cF hlp,then_ok,hn,then_ok,hb];rfl);go_wp2_with (first|(go_at_call 98;refine(ct g _ en lU _ HPr.out).mono ?_;rw[hv];simp only[aO,if_false];rintro e w1 ⟨rfl,h1,h2⟩;have HP1:=G h1;have HG1:=G (am HGr.out h2);have Hb1:=G (Hbr.out.grown h2 (fun e=>hbg (Z e)));have HB1:=G (HBr.out.grown h2 (fun e=>hrg (Z e)));have HS1:=G (HSr.out.grown h2 (fun e=>hsg (Z e)));have HO1:=G (HOr.out.grown h2 (fun k e=>by injection e with e;omega));clear hpc hsc hsf hbc;have hpc:=Hb1.out.cell;have hsc:=HS1.out.cell;have hsf:=HS1.out.frozen;clear h1 h2 HPr)|(go_at_call 100;refine(eh g _ en kB _ HP1.out hfu).mono ?_;rintro e w2 ⟨rfl,h1,h2⟩;have HP2:=G h1;have HG2:=G (am HG1.out h2);have Hb2:=G (Hb1.out.grown h2 (fun e=>hbg (Z e)));have HB2:=G (HB1.out.grown h2 (fun e=>hrg (Z e)));have HS2:=G (HS1.out.grown h2 (fun e=>hsg (Z e)));have HO2:=G (HO1.out.grown h2 (fun k e=>by injection e with e;omega));clear hpc hsc hsf;have hpc:=Hb2.out.cell;have hsc:=HS2.out.cell;have hsf:=HS2.out.frozen;clear h1 h2 HP1)|(go_at_call 101;refine(iW g _ en _ HP2.out hk).mono ?_;rintro e w3 ⟨rfl,h1,h2⟩;have HG3:=G (am HG2.out h2);have Hb3:=G (Hb2.out.grown h2 (fun e=>hbg (Z e)));have HB3:=G (HB2.out.grown h2 (fun e=>hrg (Z e)));have HS3:=G (HS2.out.grown h2 (fun e=>hsg (Z e)));have HO3:=G (HO2.out.grown h2 (fun k e=>by injection e with e;omega));have hE:=O w3 (.cells #[.string (ai (cu r.tail).t), .slice none 0 0, .slice none 0 0] 59);have HQ4:=G (hE.grownBy (some g));have HF4:=G (ap w3 59 #[.string (ai (cu r.tail).t), .slice none 0 0, .slice none 0 0]);have HP4:=G (h1.ext hE);have HG4:=G (am HG3.out (hE.grownBy (some g)));have hz3:=HS3.out.lt;have hfg:w3.heap.size≠g:=(by omega);have hgf:g≠w3.heap.size:=(by omega);clear hpc hsc hsf;have hpc:=(Hb3.out.ext hE).cell;clear h1 h2 hE HP2)|(go_at_call 100;refine(eh g _ en mw _ HP4.out hlp).mono ?_;rintro e w5 ⟨rfl,h1,h2⟩;have HP5:=G h1;have HQ5:=G (am HQ4.out h2);have HG5:=G (am HG4.out h2);have HF5:=G (HF4.out.grown h2 (fun e=>hfg (Z e)));have Hb5:=G (Hb3.out.grown HQ5.out (fun e=>hbg (Z e)));clear hpc;have hpc:=Hb5.out.cell;have HL:=G (lG k w5.heap.size g w3.heap.size w.heap.size (cu r.tail).t r.tail.tail.tail en w5 HP5.out Hb5.out HF5.out (ah _) (by omega) (by omega) (by omega) HF5.out.lt Hb5.out.lt hfn (by omega));clear h1 h2 HP4)|(go_at_call 102;refine HL.out.mono ?_;intro e w6 hh;rw[hn]at hh;obtain⟨hF,rfl,hPA,C,i,j,hX,hR⟩:=hh;have hz5:=HF5.out.lt;have HQ6:=G (jB HQ5.out hF (ah _) (by omega));have HG6:=G (jB HG5.out hF (by omega) (by omega));have HF6:=G hX;have HP6:=G hPA;have HN6:=G (hR.mono (Q:=fun b=>w3.heap.size<b) (fun b hb _=>by omega));have Hb6:=G (Hb3.out.grown HQ6.out (fun e=>hbg (Z e)));clear hpc;have hpc:=Hb6.out.cell;clear hF hPA hX hR HP5 HL)|(go_at_call 104;refine(pS hkF _ en _ g HP6.out hfb).mono ?_;intro e w7 hh;rw[hb]at hh;obtain⟨hG,rfl⟩:=hh;unfold a7;have HGE:=G (am HG6.out hG);clear hG));exact⟨rfl,kT HR.out HGE.out⟩
      |ok p=>
       obtain⟨bd,q1⟩:=p;have hlb:=(nz k).1 _ _ _ hb;have HRN:=G (show dh k ⟨vs,fs.map (·.c)++[⟨(cu r.tail).t,ps,bd⟩]⟩ q1=dh F0 ⟨[],[]⟩ l from by rw[HS4.out];unfold j9;rw[bP hk,then_ok,cF hlp,then_ok,hn,then_ok,hb];rfl);have HPNr:=HPr;go_wp2_with (first|(go_at_call 98;refine(ct g _ en lU _ HPr.out).mono ?_;rw[hv];simp only[aO,if_false];rintro e w1 ⟨rfl,h1,h2⟩;have HP1:=G h1;have HG1:=G (am HGr.out h2);have Hb1:=G (Hbr.out.grown h2 (fun e=>hbg (Z e)));have HB1:=G (HBr.out.grown h2 (fun e=>hrg (Z e)));have HS1:=G (HSr.out.grown h2 (fun e=>hsg (Z e)));have HO1:=G (HOr.out.grown h2 (fun k e=>by injection e with e;omega));clear hpc hsc hsf hbc;have hpc:=Hb1.out.cell;have hsc:=HS1.out.cell;have hsf:=HS1.out.frozen;clear h1 h2 HPr)|(go_at_call 100;refine(eh g _ en kB _ HP1.out hfu).mono ?_;rintro e w2 ⟨rfl,h1,h2⟩;have HP2:=G h1;have HG2:=G (am HG1.out h2);have Hb2:=G (Hb1.out.grown h2 (fun e=>hbg (Z e)));have HB2:=G (HB1.out.grown h2 (fun e=>hrg (Z e)));have HS2:=G (HS1.out.grown h2 (fun e=>hsg (Z e)));have HO2:=G (HO1.out.grown h2 (fun k e=>by injection e with e;omega));clear hpc hsc hsf;have hpc:=Hb2.out.cell;have hsc:=HS2.out.cell;have hsf:=HS2.out.frozen;clear h1 h2 HP1)|(go_at_call 101;refine(iW g _ en _ HP2.out hk).mono ?_;rintro e w3 ⟨rfl,h1,h2⟩;have HG3:=G (am HG2.out h2);have Hb3:=G (Hb2.out.grown h2 (fun e=>hbg (Z e)));have HB3:=G (HB2.out.grown h2 (fun e=>hrg (Z e)));have HS3:=G (HS2.out.grown h2 (fun e=>hsg (Z e)));have HO3:=G (HO2.out.grown h2 (fun k e=>by injection e with e;omega));have hE:=O w3 (.cells #[.string (ai (cu r.tail).t), .slice none 0 0, .slice none 0 0] 59);have HQ4:=G (hE.grownBy (some g));have HF4:=G (ap w3 59 #[.string (ai (cu r.tail).t), .slice none 0 0, .slice none 0 0]);have HP4:=G (h1.ext hE);have HG4:=G (am HG3.out (hE.grownBy (some g)));have hz3:=HS3.out.lt;have hfg:w3.heap.size≠g:=(by omega);have hgf:g≠w3.heap.size:=(by omega);clear hpc hsc hsf;have hpc:=(Hb3.out.ext hE).cell;clear h1 h2 hE HP2)|(go_at_call 100;refine(eh g _ en mw _ HP4.out hlp).mono ?_;rintro e w5 ⟨rfl,h1,h2⟩;have HP5:=G h1;have HQ5:=G (am HQ4.out h2);have HG5:=G (am HG4.out h2);have HF5:=G (HF4.out.grown h2 (fun e=>hfg (Z e)));have Hb5:=G (Hb3.out.grown HQ5.out (fun e=>hbg (Z e)));clear hpc;have hpc:=Hb5.out.cell;have HL:=G (lG k w5.heap.size g w3.heap.size w.heap.size (cu r.tail).t r.tail.tail.tail en w5 HP5.out Hb5.out HF5.out (ah _) (by omega) (by omega) (by omega) HF5.out.lt Hb5.out.lt hfn (by omega));clear h1 h2 HP4)|(go_at_call 102;refine HL.out.mono ?_;intro e w6 hh;rw[hn]at hh;obtain⟨hF,rfl,hPA,C,i,j,hX,hR⟩:=hh;have hz5:=HF5.out.lt;have HQ6:=G (jB HQ5.out hF (ah _) (by omega));have HG6:=G (jB HG5.out hF (by omega) (by omega));have HF6:=G hX;have HP6:=G hPA;have HN6:=G (hR.mono (Q:=fun b=>w3.heap.size<b) (fun b hb _=>by omega));have Hb6:=G (Hb3.out.grown HQ6.out (fun e=>hbg (Z e)));clear hpc;have hpc:=Hb6.out.cell;clear hF hPA hX hR HP5 HL)|(go_at_call 104;refine(pS hkF _ en _ g HP6.out hfb).mono ?_;intro e w7 hh;rw[hb]at hh;obtain⟨hG,D,i2,j2,rfl,hR,hPA⟩:=hh;have hz6:=HF6.out.lt;have hz7:=hG.size;have HQ7:=G (am HQ6.out hG);have HG7:=G (am HG6.out hG);have HF7:=G (HF6.out.grown hG (fun e=>hfg (Z e)));have hs:=eI w7 w3.heap.size 2 (.slice D i2 j2);have HQ8:=G (dI HQ7.out hs (ah _));have HG8:=G (dI HG7.out hs (by omega));have hf8:=HF7.out.set 2 (.slice D i2 j2);simp only[bh,bT,cd]at hf8;have HF8:=G hf8;have HV8:=G (FV.ok.keep (p:=⟨⟨(cu r.tail).t,ps,bd⟩, .slice C i j, .slice D i2 j2⟩) (P:=fun b=>w3.heap.size<b) (w:=w7) ⟨HN6.out.keep (.of_grown hG fun b hb e=>by injection e with e;omega) (fun _ hb _=>hb),hR.mono (fun b hb _=>by omega)⟩ (.of_grown hs fun b hb e=>by injection e with e;omega) (fun _ hb _=>hb));have HP8:=G (hPA.grown hs (fun k e=>by injection e with e;omega));have HO8:=G (HO3.out.grown HQ8.out (fun k e=>by injection e with e;omega));have HS8:=G (HS3.out.grown HQ8.out (fun e=>hsg (Z e)));have hfc7:=HF7.out.cell;have hff7:=HF7.out.frozen;have hsc:=HS8.out.cell;have hsf:=HS8.out.frozen;clear hG hs hf8 hR hPA HP6)|(at_builtin;have hE:=O (w7.setCell ⟨w3.heap.size,2,none⟩ (.slice D i2 j2)) (.cells #[.string (ai (cu r.tail).t), .slice C i j, .slice D i2 j2] 59);have hrow:=World.ownsRow.lt HO8.out.2.1;have hrow1:=World.ownsRow.lt HO8.out.1;have hrw:=fun k hk=>(hrow k hk).1;have hO9:=HO8.out.grown (hE.grownBy none) (fun k e=>by cases e);have hlow: ∀k,Value.ownBlock (.slice B m d)=some k->k<w3.heap.size:=(fun k hk=>(World.ownsRow.lt HO3.out.2.1 k hk).2);have hlow1: ∀k,Value.ownBlock (.slice A n c)=some k->k<w3.heap.size:=(fun k hk=>(World.ownsRow.lt HO3.out.1 k hk).2);have hV9:=HV8.out.keep (.of_ext hE) (Q:=fun b=>w.heap.size+3<=b/\some b≠Value.ownBlock (.slice A n c)/\some b≠Value.ownBlock (.slice B m d)) (fun b hb _=>⟨by omega,fun e=>by have:=hlow1 b e.symm;omega,fun e=>by have:=hlow b e.symm;omega⟩);have hN9:=ap (w7.setCell ⟨w3.heap.size,2,none⟩ (.slice D i2 j2)) 59 #[.string (ai (cu r.tail).t), .slice C i j, .slice D i2 j2];rw[show(w7.setCell ⟨w3.heap.size,2,none⟩ (.slice D i2 j2)).heap.size=w7.heap.size from(by simp[World.setCell])]at hN9;have hG9:=am HG8.out (hE.grownBy (some g));have hz9:=hG9.size;refine dR Fi rfl _ _ rfl (w.heap.size+3) _ m (gq fs) rfl (by have:=hO9.2.1;rw[hm]at this;exact this) _ (rQ ⟨⟨(cu r.tail).t,ps,bd⟩, .slice C i j, .slice D i2 j2⟩) rfl hN9 rfl (by intro u hu;simp only[rQ,dQ,cX,or_false]at hu;rcases hu with rfl|rfl|rfl<;>rfl) (by omega) (by decide) (by have:=HS8.out.lt;rw[World.size_alloc];omega) ?_;intro A' cap' w9 hq1 hq2 hq3;have HO9:=G (hO9.snocF hV9 hm hq1 hq2 hq3);have hS9:=(HS8.out.ext hE).grown hq2 (fun e=>by have:=hrw _ e.symm;omega);have hb9:=((Hb3.out.grown HQ8.out (fun e=>hbg (Z e))).ext hE).grown hq2 (fun e=>by have:=hrw _ e.symm;omega);have hB9:=((HB3.out.grown HQ8.out (fun e=>hrg (Z e))).ext hE).grown hq2 (fun e=>by have:=hrw _ e.symm;omega);have hP9:=(HP8.out.ext hE).grown hq2 (fun k e=>by have:=hrw k e;omega);have HG9:=G (show w.grownBy w9 (some g)from⟨hq2.os.trans hG9.os,hq2.tape.trans hG9.tape,hq2.output.trans hG9.output,aM hG9.size hq2.size,fun i hi hne=>(hq2.block i (aA hi hG9.size) (fun e=>by have:=hrw i e.symm;omega)).trans (hG9.block i hi hne)⟩);have HS9:=G hS9;have Hb9:=G hb9;have HB9:=G hB9;have HP9:=G hP9;clear hsc hsf;have hsc:=hS9.cell;have hsf:=hS9.frozen;clear hq1 hq2 hq3 hE hrow hrow1 hrw hO9 hlow hlow1 hV9 hN9 hG9 hS9 hb9 hB9 hP9));have hs:=eI w9 (w.heap.size+2) 1 (.slice (some ⟨A',0,none⟩) (m+1) cap');have hs9:=HS9.out.set 1 (.slice (some ⟨A',0,none⟩) (m+1) cap');simp only[bh,bT,cd]at hs9;have HON:=G (HO9.out.grown hs (fun k e=>by injection e with e;omega));have HPN:=G (HP9.out.grown hs (fun k e=>by injection e with e;omega));have HbN:=G (Hb9.out.grown hs (fun e=>by injection e with e;omega));have HBN:=G (HB9.out.grown hs (fun e=>by injection e with e;omega));have HGN:=G (dI HG9.out hs (by omega));have HSN:=G hs9;go_roundw
       case rel=>exact⟨k,vs,fs++[⟨⟨(cu r.tail).t,ps,bd⟩, .slice C i j, .slice D i2 j2⟩],q1,A,n,c,some ⟨A',0,none⟩,m+1,cap',by omega,by omega,hn0,by simp[hm],by omega,G (by simpa using HRN.out),HPN,HbN,HBN,HSN,HON,HGN⟩
       case measure=>rw[HPNr.out.tokN,HPN.out.tokN];omega
end
section
open Go.RowKit
def iG (tv tf:TypeId) (Q:Nat->Prop) (w:World) (base:Nat) (vv fv:Value) (vs:List Vr) (fs:List FV):Prop:=
 w.ownsRow base tv 2 vv vs.length (gn vs)/\w.ownsRow base tf 3 fv fs.length (gq fs)/\(∀k,vv.ownBlock=some k->fv.ownBlock≠some k)/\ ∀p,p∈fs->p.ok w (fun b=>Q b/\some b≠vv.ownBlock/\some b≠fv.ownBlock)
theorem iG.nil_ (tv tf:TypeId) (Q:Nat->Prop) (w:World) (base:Nat):iG tv tf Q w base (.slice none 0 0) (.slice none 0 0) [] []:=⟨World.ownsRow_nil _ _ _ _,World.ownsRow_nil _ _ _ _,fun k hk=>(by cases hk),fun p hp=>(by cases hp)⟩
theorem iG.keepW {tv tf:TypeId} {Q:Nat->Prop} {w w':World} {base:Nat} {vv fv:Value} {vs:List Vr} {fs:List FV} (h:iG tv tf Q w base vv fv vs fs) (hz:w.heap.size<=w'.heap.size) (hk: ∀b,(base<=b\/Q b)->b<w.heap.size->w'.heap[b]? =w.heap[b]?):iG tv tf Q w' base vv fv vs fs:=
 ⟨fM h.1 (fun b h1 h2 _=>hk b (.inl h1) h2),fM h.2.1 (fun b h1 h2 _=>hk b (.inl h1) h2),h.2.2.1,fun p hp=>(h.2.2.2 p hp).keep ⟨hz,fun b hb hlt=>hk b (.inr hb.1) hlt⟩ (fun b hb _=>hb)⟩
theorem iG.ext {tv tf:TypeId} {Q:Nat->Prop} {w w':World} {base:Nat} {vv fv:Value} {vs:List Vr} {fs:List FV} (h:iG tv tf Q w base vv fv vs fs) (he:au w w'):iG tv tf Q w' base vv fv vs fs:=h.keepW he.size fun b _ hb=>he.obj hb
theorem iG.snocV {tv tf:TypeId} {Q:Nat->Prop} {w w':World} {base:Nat} {vv fv:Value} {vs:List Vr} {fs:List FV} {v:Vr} {A n cap:Nat} (h:iG tv tf Q w base vv fv vs fs) (hl:vs.length=n) (hn:w'.ownsRow base tv 2 (.slice (some ⟨A,0,none⟩) (n+1) cap) (n+1) (gn vs++sk v))
  (hg:w.grownBy w' vv.ownBlock) (hA:some A=vv.ownBlock\/w.heap.size<=A):iG tv tf Q w' base (.slice (some ⟨A,0,none⟩) (n+1) cap) fv (vs++[v]) fs:=by
 subst hl;obtain⟨h1,h2,h3,h4⟩:=h;have hl2:=World.ownsRow.lt h2;refine⟨by rw[aa,pj];simpa[gn]using hn,fM h2 (fun b _ hb hv=>hg.block b hb (fun e=>h3 b e.symm hv)),fun k hk e=> ?_,fun p hp=>(h4 p hp).keep (.of_grown hg fun b hb=>hb.2.1) fun b hb hlt=>⟨hb.1,fun e=> ?_,hb.2.2⟩⟩
 ·have hk:A=k:=Z hk;subst hk;rcases hA with hA|hA
  ·exact h3 A hA.symm e
  ·have:=(hl2 A e).2;omega
 ·have e:b=A:=Z e;subst e;rcases hA with hA|hA
  ·exact hb.2.1 hA
  ·omega
theorem iG.snocF {tv tf:TypeId} {Q:Nat->Prop} {w w':World} {base:Nat} {vv fv:Value} {vs:List Vr} {fs:List FV} {p:FV} {A n cap:Nat} (h:iG tv tf Q w base vv fv vs fs) (hp:p.ok w' (fun b=>Q b/\some b≠vv.ownBlock/\b≠A)) (hl:fs.length=n) (hn:w'.ownsRow base tf 3 (.slice (some ⟨A,0,none⟩) (n+1) cap) (n+1) (gq fs++rQ p))
  (hg:w.grownBy w' fv.ownBlock) (hA:some A=fv.ownBlock\/w.heap.size<=A):iG tv tf Q w' base vv (.slice (some ⟨A,0,none⟩) (n+1) cap) vs (fs++[p]):=by
 subst hl;obtain⟨h1,h2,h3,h4⟩:=h;have hl1:=World.ownsRow.lt h1
 have hq: ∀b,(Q b/\some b≠vv.ownBlock/\some b≠fv.ownBlock)->b<w.heap.size->(Q b/\some b≠vv.ownBlock/\some b≠Value.ownBlock (.slice (some ⟨A,0,none⟩) (fs.length+1) cap)):=fun b hb hlt=>⟨hb.1,hb.2.1,fun e=>by
  have e:b=A:=Z e;subst e;rcases hA with hA|hA
  ·exact hb.2.2 hA
  ·omega⟩
 refine⟨fM h1 (fun b _ hb hv=>hg.block b hb (fun e=>h3 b hv e.symm)),by rw[aa,pM];simpa[gq]using hn,fun k hk e=> ?_,fun q hq'=> ?_⟩
 ·have e:A=k:=Z e;subst e;rcases hA with hA|hA
  ·exact h3 A hk hA.symm
  ·have:=(hl1 A hk).2;omega
 ·rcases List.mem_append.1 hq' with hq'|hq'
  ·exact(h4 q hq').keep (.of_grown hg fun b hb=>hb.2.2) hq
  ·rw[cr]at hq';subst hq';exact hp.keep (w':=w') ⟨ah _,fun _ _ _=>rfl⟩ (fun b hb _=>⟨hb.1,hb.2.1,fun e=>hb.2.2 (Z e)⟩)
theorem iG.rd {tv tf:TypeId} {Q:Nat->Prop} {w:World} {base:Nat} {vv fv:Value} {vs:List Vr} {fs:List FV} (h:iG tv tf Q w base vv fv vs fs) (hQ: ∀b,base<=b->Q b):iO w Q vv vs/\ja w Q fv (fs.map (·.c)):=by
 obtain⟨h1,h2,_,h4⟩:=h;constructor
 ·rcases h1.2 with⟨rfl,h0⟩|⟨g,cap,cur,rfl,hb,hg,hnc,hcm,hcs,ht⟩
  ·have:vs=[]:=aE h0;subst this;exact⟨none,0,rfl, .inl rfl⟩
  ·have cell: ∀j y,(gn vs)[j]? =some y->w.cell? ⟨g,j,none⟩=some y:=fun j y hy=>by
    rw[cell_of_row w g j cur tv (0,0) hg];rw[<-ht,bG]at hy;split at hy
    ·simpa using hy
    ·cases hy
   exact⟨_,cap,rfl, .inr ⟨hnc,hcm,g,0,rfl,hQ g hb,(Array.getElem?_eq_some_iff.1 hg).1,fun i hi=>by
    rw[aD]
    exact⟨cell _ _ (jn vs i hi 0 (by omega)),cell _ _ (jn vs i hi 1 (by omega))⟩⟩⟩
 ·rcases h2.2 with⟨rfl,h0⟩|⟨g,cap,cur,rfl,hb,hg,hnc,hcm,hcs,ht⟩
  ·have:fs=[]:=aE h0;subst this;exact⟨none,0,rfl, .inl rfl⟩
  ·have cell: ∀j y,(gq fs)[j]? =some y->w.cell? ⟨g,j,none⟩=some y:=fun j y hy=>by
    rw[cell_of_row w g j cur tf (0,0) hg];rw[<-ht,bG]at hy;split at hy
    ·simpa using hy
    ·cases hy
   refine⟨some ⟨g,0,none⟩,cap,by simp, .inr ⟨by simpa using hnc,hcm,g,0,rfl,hQ g hb,(Array.getElem?_eq_some_iff.1 hg).1,fun i=>if h:i<fs.length then fs[i].p else .slice none 0 0,fun i=>if h:i<fs.length then fs[i].b else .slice none 0 0,fun i hi=> ?_⟩⟩;have hi':i<fs.length:=by simpa using hi
   have e0:(fs.map (·.c))[i]=fs[i].c:=by simp
   have hm:=(h4 fs[i] (aq hi')).keep (P:=fun b=>Q b/\some b≠vv.ownBlock/\some b≠Value.ownBlock (.slice (some ⟨g,0,none⟩) fs.length cap)) (w':=w) ⟨ah _,fun _ _ _=>rfl⟩ (Q:=Q) (fun b hb _=>hb.1);rw[e0];simp only[aD,dif_pos hi'];exact⟨cell _ _ (gv fs i hi' 0 (by omega)),cell _ _ (gv fs i hi' 1 (by omega)),cell _ _ (gv fs i hi' 2 (by omega)),hm.1,hm.2⟩
theorem zO (v:Vr): ∀u∈sk v,u.oneCell'=true:=by
 intro u hu;simp only[sk,dQ,cX,or_false]at hu;rcases hu with rfl|rfl<;>rfl
theorem Bb (f:Fc) (A B:Option Addr) (n m c d:Nat): ∀u∈rQ ⟨f, .slice A n c, .slice B m d⟩,u.oneCell'=true:=by
 intro u hu;simp only[rQ,dQ,cX,or_false]at hu;rcases hu with rfl|rfl|rfl<;>rfl
structure PO (ts td:TypeId) (w:World) (s0 s1 vv fv:Value) (W:World):Prop where
 e:au w W
 bs:aS W w.heap.size ts #[s0,s1]
 bz:aS W (w.heap.size+1) td #[.slice none 0 0, .slice none 0 0]
 bo:aS W (w.heap.size+1+1) td #[vv,fv]
section
variable {ts td:TypeId} {w W W':World} {s0 s1 vv fv:Value}
theorem Cs (ts td:TypeId) (w:World) (s0 s1:Value):PO ts td w s0 s1 (.slice none 0 0) (.slice none 0 0) (((w.alloc (.cells #[s0,s1] ts)).alloc (.cells #[.slice none 0 0, .slice none 0 0] td)).alloc (.cells #[.slice none 0 0, .slice none 0 0] td)):=by
 refine⟨((O w _).alloc' _).alloc' _,((ap w _ _).alloc _).alloc _,?_,?_⟩
 ·have:=(ap (w.alloc (.cells #[s0,s1] ts)) td #[.slice none 0 0, .slice none 0 0]).alloc (.cells #[.slice none 0 0, .slice none 0 0] td);rwa [World.size_alloc]at this
 ·have:=ap ((w.alloc (.cells #[s0,s1] ts)).alloc (.cells #[.slice none 0 0, .slice none 0 0] td)) td #[.slice none 0 0, .slice none 0 0];rwa [World.size_alloc,World.size_alloc]at this
theorem PO.lt (h:PO ts td w s0 s1 vv fv W):w.heap.size+1+1<W.heap.size:=h.bo.lt
theorem PO.ex (h:PO ts td w s0 s1 vv fv W) (hE:au W W'):PO ts td w s0 s1 vv fv W':=⟨h.e.trans hE,h.bs.ext hE,h.bz.ext hE,h.bo.ext hE⟩
theorem PO.grown {row:Option Nat} (h:PO ts td w s0 s1 vv fv W) (hg:W.grownBy W' row) (hk: ∀k,row=some k->w.heap.size+3<=k):PO ts td w s0 s1 vv fv W':=
 ⟨h.e.grown hg (fun k e=>by have:=hk k e;omega),h.bs.grown hg (fun e=>by have:=hk _ e.symm;omega),h.bz.grown hg (fun e=>by have:=hk _ e.symm;omega),h.bo.grown hg (fun e=>by have:=hk _ e.symm;omega)⟩
theorem PO.putV (h:PO ts td w s0 s1 vv fv W) (q:Value):PO ts td w s0 s1 q fv (W.setCell ⟨w.heap.size+1+1,0,none⟩ q):=by
 refine⟨h.e.set (by show w.heap.size<=w.heap.size+1+1;omega) _,h.bs.far (p:=⟨w.heap.size+1+1,0,none⟩) (by show _≠w.heap.size+1+1;omega) _,h.bz.far (p:=⟨w.heap.size+1+1,0,none⟩) (by show _≠w.heap.size+1+1;omega) _,?_⟩;have:=h.bo.set 0 q;simpa using this
theorem PO.putF (h:PO ts td w s0 s1 vv fv W) (q:Value):PO ts td w s0 s1 vv q (W.setCell ⟨w.heap.size+1+1,1,none⟩ q):=by
 refine⟨h.e.set (by show w.heap.size<=w.heap.size+1+1;omega) _,h.bs.far (p:=⟨w.heap.size+1+1,1,none⟩) (by show _≠w.heap.size+1+1;omega) _,h.bz.far (p:=⟨w.heap.size+1+1,1,none⟩) (by show _≠w.heap.size+1+1;omega) _,?_⟩;have:=h.bo.set 1 q;simpa using this
end
theorem uk {w:World} {P:Nat->Prop} {A:Option Addr} {n c:Nat} {ls:List Fc} (h:ja w P (.slice A n c) ls) (i:Nat) (hi:i<ls.length):
  ∃b o pv bv,A=some ⟨b,o,none⟩/\b<w.heap.size/\w.cell? ⟨b,o+i*3,none⟩=some (.string (ai ls[i].nm))/\w.cell? ⟨b,o+i*3+1,none⟩=some pv/\w.cell? ⟨b,o+i*3+2,none⟩=some bv/\lx w P pv ls[i].ps/\cL w P bv ls[i].body:=by
 obtain⟨A',c',hv,h⟩:=h;injection hv with h1 h2 h3;rcases h with h|⟨_,_,b,o,ha,_,hb,pv,bv,hc⟩
 ·subst h;simp at hi
 ·obtain⟨q0,q1,q2,q3,q4⟩:=hc i hi;exact⟨b,o,pv i,bv i,by rw[h1];exact ha,hb,q0,q1,q2,q3,q4⟩
theorem Am {w:World} {P:Nat->Prop} {A:Option Addr} {n c:Nat} {ls:List Vr} (h:iO w P (.slice A n c) ls) (i:Nat) (hi:i<ls.length):
  ∃b o,A=some ⟨b,o,none⟩/\b<w.heap.size/\w.cell? ⟨b,o+i*2,none⟩=some (.string (ai ls[i].nm))/\w.cell? ⟨b,o+i*2+1,none⟩=some (.int .i64 ls[i].sz):=by
 obtain⟨A',c',hv,h⟩:=h;injection hv with h1 h2 h3;rcases h with h|⟨_,_,b,o,ha,_,hb,hc⟩
 ·subst h;simp at hi
 ·exact⟨b,o,by rw[h1];exact ha,hb,(hc i hi).1,(hc i hi).2⟩
def QO (w:World) (P:Nat->Prop) (b:Nat):Prop:=(P b/\b<w.heap.size)\/w.heap.size+3<=b
theorem iG.far {tv tf:TypeId} {P:Nat->Prop} {w W:World} {vv fv:Value} {vs:List Vr} {fs:List FV} {b i:Nat} (h:iG tv tf (QO w P) W (w.heap.size+3) vv fv vs fs) (hb:w.heap.size<=b) (hb2:b<w.heap.size+3) (v:Value):iG tv tf (QO w P) (W.setCell ⟨b,i,none⟩ v) (w.heap.size+3) vv fv vs fs:=
 h.keepW (by simp[World.setCell]) fun k hk hlt=>Below.heap_setCell W ⟨b,i,none⟩ v k (by
  show k≠b
  rcases hk with hk|hk|hk<;>omega)
theorem yD {P:Nat->Prop} {a b c:World} (h:cw P a b) (k:cw P b c):cw P a c:=⟨aM h.1 k.1,fun x hP hx=>(k.2 x hP (aA hx h.1)).trans (h.2 x hP hx)⟩
theorem xO {P:Nat->Prop} {w W:World} {b i:Nat} (v:Value) (hb:w.heap.size<=b) (hb2:b<w.heap.size+3):cw (QO w P) W (W.setCell ⟨b,i,none⟩ v):=
 ⟨by simp[World.setCell],fun k hk _=>Below.heap_setCell W ⟨b,i,none⟩ v k (by
  show k≠b
  rcases hk with hk|hk<;>omega)⟩
end
end Go.Proofs.YtddomeddabfinaaGreatDoor
