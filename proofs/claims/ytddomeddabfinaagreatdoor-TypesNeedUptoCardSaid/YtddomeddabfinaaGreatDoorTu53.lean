/-
  Parts of the proof: TkN.
-/
import Derived.Test.YtddomeddabfinaaGreatDoorTu00
import Derived.Test.YtddomeddabfinaaGreatDoorTu43
import Derived.Test.YtddomeddabfinaaGreatDoorTu50
set_option maxRecDepth 100000
set_option maxHeartbeats 8000000
set_option linter.unusedVariables false
set_option linter.unusedSimpArgs false
set_option linter.unusedSectionVars false
namespace Go.Proofs.YtddomeddabfinaaGreatDoor
open Go.Proofs.Tryz
open Go.RowKit
theorem v_ {p:Pg} (h:(gO p).2=0):fa p=true:=by
 unfold gO at h;split at h
 ·assumption
 ·exact absurd h (by decide)
theorem ti {p:Pg} (h:fa p=true) {f:Fc} (hf:f∈p.fs):iM f.body=true:=by
 unfold fa at h;simp only[ak]at h;have:=List.all_eq_true.1 h.1.1.1.2 f hf;unfold je at this;simp only[ak]at this;rw[dX,bG];intro s hs;have h2:=List.all_eq_true.1 this.2 s hs;simp only[ak]at h2;exact h2.2
theorem wK (p:Pg) (hp:jS p<=6000000) (s:List UInt8) (P:Nat->Prop) (w:World) (A B:Option Addr) (n c m d:Nat) (hV:fH w P (.slice A n c) p.vs) (hF:fO w P (.slice B m d) p.fs) (hz:EZ w) (ht:dn w w.heap.size) (hB:BT w):
  Calls prog 5 #[.agg #[.slice A n c, .slice B m d], .string (ag s)] w fun e w'=>e= .returned (.bool true)/\au w w':=by
 have hE0:=O w (.cells #[.slice A n c, .slice B m d] 25);have HE0:=G hE0;have HB0:=G (ax w 25 #[.slice A n c, .slice B m d]);have HAW:=G (nX _ (hz.ext hE0) (fh ht hE0) (hB.ext hE0));have HFW:=G (fun(W:World) (h:au w W)=>yg hp (hV.keep (.of_ext h) (Q:=P) (fun _ hb _=>hb)) (hF.keep (.of_ext h) (Q:=P) (fun _ hb _=>hb)));have HOW:=G (fun(W:World) (h:au w W)=>uT hp (hV.keep (.of_ext h) (Q:=P) (fun _ hb _=>hb)) (hF.keep (.of_ext h) (Q:=P) (fun _ hb _=>hb)));have HRC:=G (fun(W:World) (h:au w W)=>mo p hp P W A B n c m d (hV.keep (.of_ext h) (Q:=P) (fun _ hb _=>hb)) (hF.keep (.of_ext h) (Q:=P) (fun _ hb _=>hb)));have HBL:=G (fun(W:World) (h:au w W)=>qf s W (hB.ext h));have HBR:=G (fun(W:World)=>gv s W);have HBT:=G hB;have hmn:=hF.ln;have HMN:=G hmn;have HFR:=G hF;have HW:=G hp;have hmb:m<=6000000:=by have:=qW p;omega
 have HOK:=G (fun(h:(gO p).2=0) (f:Fc) (hf:f∈p.fs)=>ti (v_ h) hf);generalize (gO p).1=ra at*;generalize (gO p).2=en at*;generalize wg (bD s)=x1 at*;generalize nc (bD s)=x2 at*;generalize (bD s).isSome=x3 at*;have hsz:=aL s;have c0:=HB0.out.cell;clear hV hF hz ht hB hp hE0 hmn;by_cases hs:100<s.length
 ·have hs':(100:Int)<(s.length:Int):=by omega
  clear HOW HRC HBL HBR;go_enter func5,ntmps5
  go_wp2_with (first
   |(go_at_call 11;refine HAW.out.mono ?_;rintro e w1 ⟨rfl,hE⟩;have HX1:=G (HE0.out.trans hE);have HB1:=G (HB0.out.ext hE);clear c0;have c0:=HB1.out.cell;clear hE HAW HE0 HB0)
   |(go_at_call 12;refine(HFW.out _ HX1.out).mono ?_;rintro e w2 ⟨⟨b1,rfl⟩,hE⟩;have HX2:=G (HX1.out.trans hE);clear hE HFW HX1 HB1;cases b1))
  ·go_ret;exact⟨rfl,HX2.out⟩
  ·go_ret;exact⟨rfl,HX2.out⟩
 ·have hs': ¬(100:Int)<(s.length:Int):=by omega
  go_enter func5,ntmps5
  go_upto_region 11 with(first
   |(go_at_call 11;refine HAW.out.mono ?_;rintro e w1 ⟨rfl,hE⟩;have HX1:=G (HE0.out.trans hE);have HB1:=G (HB0.out.ext hE);clear c0;have c0:=HB1.out.cell;clear hE HAW HE0 HB0)
   |(go_at_call 12;refine(HFW.out _ HX1.out).mono ?_;rintro e w2 ⟨⟨b1,rfl⟩,hE⟩;have HX2:=G (HX1.out.trans hE);have HB2:=G (HB1.out.ext hE);clear c0;have c0:=HB2.out.cell;clear hE HFW HX1 HB1;cases b1)
   |(go_at_call 22;refine(HBL.out _ HX2.out).mono ?_;rintro e w3 ⟨rfl,hE⟩;have HX3:=G (HX2.out.trans hE);have HB3:=G (HB2.out.ext hE);clear c0;have c0:=HB3.out.cell;clear hE HBL)
   |(go_at_call 23;refine(HBR.out _).mono ?_;rintro e w4 ⟨rfl,hE⟩;have HX4:=G (HX3.out.trans hE);have HB4:=G (HB3.out.ext hE);clear c0;have c0:=HB4.out.cell;clear hE HBR)
   |(go_at_call 14;refine(HOW.out _ HX4.out).mono ?_;rintro e w5 ⟨hE,A5,n5,c5,B5,m5,d5,rfl,hV5,hF5⟩;have hE5:=O w5 (.cells #[.slice A5 n5 c5, .slice B5 m5 d5] 34);have HX5:=G (HX4.out.trans (hE.trans hE5));have HB5:=G (HB4.out.ext (hE.trans hE5));have HO5:=G (ax w5 34 #[.slice A5 n5 c5, .slice B5 m5 d5]);have HF5:=G hF5;have HE5:=G hE5;clear c0;have c0:=HB5.out.cell;have o0:=HO5.out.cell;clear hE hE5 HOW hV5 hF5)
   |(go_at_call 15;refine(HRC.out _ HX5.out).mono ?_;rintro e w6 ⟨rfl,hE⟩;have HX6:=G (HX5.out.trans hE);have HB6:=G (HB5.out.ext hE);have HO6:=G (HO5.out.ext hE);have HZ6:=G (HE5.out.trans hE);clear c0 o0 hE HRC))
  ·go_ret;exact⟨rfl,HX2.out⟩
  have hm5:m5=m:=by have:=HF5.out.ln;have:=HMN.out;omega
  subst hm5;generalize hg5:w5.heap.size=g5 at*;go_wp2_with fail
  go_loopw [14] (fun vi wr=> ∃(i:Nat),vi= .int .i64 (i:Int)/\i<=m5/\Hid (au w wr)/\Hid (au w5 wr)/\Hid (aO wr w.heap.size 25 #[.slice A n c, .slice B m5 d])/\Hid (aO wr g5 34 #[.slice A5 n5 c5, .slice B5 m5 d5])) (fun vi _=>m5-(intOf vi).toNat)
  case atStart=>exact⟨0,rfl,az _,HX6,HZ6,HB6,HO6⟩
  case round=>
   clear HX2 HX3 HX4 HX5 HX6 HB2 HB3 HB4 HB5 HB6 HO5 HO6 HZ6 HE5;obtain⟨i,rfl,hi,HX,HZ,HPB,HPO⟩:=hrel;have c0:=HPB.out.cell;have o0:=HPO.out.cell;by_cases hlt:i<m5
   ·have hlt':(i:Int)<m5:=by omega
    have hil:i<p.fs.length:=by have:=HMN.out;omega
    obtain⟨b,o,pv,bv,rfl,hP,hb,h0,h1,h2,hN1,hS1⟩:=HFR.out.at0 i hil;obtain⟨b5,o5,pv5,bv5,rfl,hP5,hb5,j0,j1,j2,hN5,hS5⟩:=HF5.out.at0 i hil;have hfw:=jd (ai hil)|>fun h=>a_ h HW.out;have hOK:=fun h=>HOK.out h _ (ai hil);generalize p.fs[i]=f at*;obtain⟨nm,ps,bd⟩:=f;simp only at h0 hN1 hS1 j0 hN5 hS5 hfw hOK;obtain⟨pA,pc,rfl,_⟩:=id hN1;obtain⟨bA,bc,rfl,_⟩:=hS1.form;obtain⟨qA,qc,rfl,_⟩:=id hN5;obtain⟨rA,rc,rfl,_⟩:=hS5.form;unfold Fc.wt at hfw;simp only at hfw;have hwb:dq bd<=6000000:=by omega
    have hpl:ps.length<=6000000:=by
     have h1:=gB (fun _:List UInt8=>1) (fun y=>y.length+1) ps (fun v _=>by omega);rw[eJ]at h1;omega
    have HFT:=G (fun(W:World) (h1:au w W) (h2:au w5 W)=>l_ nm ps bd hwb hpl (fun _=>True) W qA rA qc rc (hS5.keep (.of_ext h2) (fun _ hb _=>hb)));have HFF:=G (fun(W:World) (h1:au w W)=>qP nm ps bd hwb hpl P W pA bA pc bc (hS1.keep (.of_ext h1) (fun _ hb _=>hb)));generalize kt ⟨nm,ps,bd⟩=fl at*;have HH:=G (aq h0 (aq h1 h2));have HJ:=G (aq j0 (aq j1 j2));have HS1:=G hS1;have HS5:=G hS5;have HOK:=G hOK;have hbl:=cw bd;obtain⟨L,hL⟩: ∃z,bd.length=z:=⟨_,rfl⟩
    have HL:=G hL;rw[hL]at HS1 HS5 HH HJ HFT HFF hbl;clear h0 h1 h2 hN1 hS1 j0 j1 j2 hN5 hS5 hfw hOK hL
    go_upto_region 14 with fail
    refine am 13 1 [(5,fun v=>v= .int .i64 (fl:Int),fun _ _=>True),(11,fun v=>v= .int .i64 (fl:Int),fun _ _=>True)] mixed (by kernel_rfl) ⟨fun _ _ _ _ _=>trivial,fun _ _ _ _ _=>trivial,trivial⟩ ?_;repeat (refine sx ?_ (fun w1 hU=> ?_) ?_;rotate_left;(focus have f1:=(HPO.out.ext hU.un).cell;have f2:=(HPB.out.ext hU.un).cell;have k0:=((HX.out.trans hU.un).cell b _ hb).trans HH.out.1;have k1:=((HX.out.trans hU.un).cell b _ hb).trans HH.out.2.1;have k2:=((HX.out.trans hU.un).cell b _ hb).trans HH.out.2.2;have q0:=((HZ.out.trans hU.un).cell b5 _ hb5).trans HJ.out.1;have q1:=((HZ.out.trans hU.un).cell b5 _ hb5).trans HJ.out.2.1;have q2:=((HZ.out.trans hU.un).cell b5 _ hb5).trans HJ.out.2.2;clear hU;go_simp<;>with_reducible rfl);simp only[aU,aT,aS,aR,aQ])
    refine so (fun w6 hU hp K hK=> ?_) ?_
    ·have hc:=HFT.out w6 (HX.out.trans hU.un) (HZ.out.trans hU.un);clear hp hU;go_simp;refine hc.mono ?_;rintro e w7 ⟨rfl,hE⟩;exact hK _ _ hE rfl trivial
    rintro _ rfl;simp only[aU,aT,aS,aR,aQ];repeat (refine sx ?_ (fun w1 hU=> ?_) ?_;rotate_left;(focus have f1:=(HPO.out.ext hU.un).cell;have f2:=(HPB.out.ext hU.un).cell;have k0:=((HX.out.trans hU.un).cell b _ hb).trans HH.out.1;have k1:=((HX.out.trans hU.un).cell b _ hb).trans HH.out.2.1;have k2:=((HX.out.trans hU.un).cell b _ hb).trans HH.out.2.2;clear hU;go_simp<;>with_reducible rfl);simp only[aU,aT,aS,aR,aQ])
    refine so (fun w6 hU hp K hK=> ?_) ?_
    ·have hc:=HFF.out w6 (HX.out.trans hU.un);clear hp hU;go_simp;refine hc.mono ?_;rintro e w7 ⟨rfl,hE⟩;exact hK _ _ hE rfl trivial
    rintro _ rfl;simp only[aU,aT,aS,aR,aQ];repeat (refine sx ?_ (fun w1 hU=> ?_) ?_;rotate_left;(focus go_simp<;>with_reducible rfl);simp only[aU,aT,aS,aR,aQ])
    intro w8 hw8 hp;clear hp;simp only[ab,aG];have HX8:=G (HX.out.trans hw8.un);have HZ8:=G (HZ.out.trans hw8.un);have HPB8:=G (HPB.out.ext hw8.un);have HPO8:=G (HPO.out.ext hw8.un);clear hw8 c0 o0 HFT HFF HX HZ HPB HPO;go_wp2_with fail
    go_loopw [15] (fun vi wr=> ∃(k:Nat),vi= .int .i64 (k:Int)/\k<=L/\Hid (au w wr)/\Hid (au w5 wr)/\Hid (aO wr w.heap.size 25 #[.slice A n c, .slice (some ⟨b,o,none⟩) m5 d])/\Hid (aO wr g5 34 #[.slice A5 n5 c5, .slice (some ⟨b5,o5,none⟩) m5 d5])) (fun vi _=>L-(intOf vi).toNat)
    case atStart=>exact⟨0,rfl,az _,HX8,HZ8,HPB8,HPO8⟩
    case round=>
     clear HX8 HZ8 HPB8 HPO8;obtain⟨kk,rfl,hk,HX,HZ,HPB,HPO⟩:=hrel;have c0:=HPB.out.cell;have k0:=(HX.out.cell b _ hb).trans HH.out.1;have k1:=(HX.out.cell b _ hb).trans HH.out.2.1;have k2:=(HX.out.cell b _ hb).trans HH.out.2.2;by_cases hlk:kk<L
     ·have hlk':(kk:Int)<L:=by omega
      by_cases he0:en=0
      ·subst he0;have hokb:=HOK.out rfl;have hkl:kk<bd.length:=by have:=HL.out;omega
       obtain⟨bs,os,ev,bv,lv,rfl,hbs,hPs,h0,h1,h2,h3,h4,hRe,hRb2,hRl⟩:=HS1.out.at_ kk hkl;obtain⟨bs5,os5,ev5,bv5,lv5,rfl,hbs5,hPs5,j0,j1,j2,j3,j4,hRe5,_,_⟩:=HS5.out.at_ kk hkl;have hso:=(jw (jA hokb _ (ai hkl))).1;have hsw:=bq (ai hkl);generalize bd[kk]=y at*;obtain⟨xk,sn,ex,bd2,el2⟩:=y;rw[St.wt]at hsw;simp only[St.k,St.nm,St.ex,St.body,St.els]at h0 h1 hRe hRb2 hRl hso hRe5;obtain⟨A1,c1,rfl,_⟩:=hRe.form;obtain⟨A2,c2,rfl,_⟩:=hRb2.form;obtain⟨A3,c3,rfl,_⟩:=hRl.form;obtain⟨E5,u5,rfl,_⟩:=hRe5.form;obtain⟨M,hM⟩: ∃z,ex.length=z:=⟨_,rfl⟩
       have HM:=G hM;rw[hM]at h2 hRe j2 hRe5;have hMb:M<=6000000:=by have:=bF ex;omega
       have s0:=(HX.out.cell bs _ hbs).trans h0;have s1:=(HX.out.cell bs _ hbs).trans h1;have s2:=(HX.out.cell bs _ hbs).trans h2;have s3:=(HX.out.cell bs _ hbs).trans h3;have s4:=(HX.out.cell bs _ hbs).trans h4;have HJ2:=G j2;have HRe:=G hRe;have HRe5:=G hRe5;have HSO:=G hso;have HSW:=G hsw;obtain⟨gx,hgx⟩: ∃z,wr.heap.size=z:=⟨_,rfl⟩
       have hEa:=O wr (.cells #[.int .i64 xk, .string (ag sn), .slice A1 M c1, .slice A2 bd2.length c2, .slice A3 el2.length c3] 66);have HXa:=G (HX.out.trans hEa);have HZa:=G (HZ.out.trans hEa);have HPa:=G (HPB.out.ext hEa);have HOa:=G (HPO.out.ext hEa);have HSa:=G (show aO _ gx 66 #[.int .i64 xk, .string (ag sn), .slice A1 M c1, .slice A2 bd2.length c2, .slice A3 el2.length c3]from hgx▸ax wr _ _);clear h0 h1 h2 h3 h4 j0 j1 j2 j3 j4 hRe hRb2 hRl hRe5 hso hsw hM hEa;go_wp2_with fail
       go_loopw [17] (fun vi wr=> ∃(j:Nat),vi= .int .i64 (j:Int)/\j<=M/\Hid (au w wr)/\Hid (au w5 wr)/\Hid (aO wr w.heap.size 25 #[.slice A n c, .slice (some ⟨b,o,none⟩) m5 d])/\Hid (aO wr g5 34 #[.slice A5 n5 c5, .slice (some ⟨b5,o5,none⟩) m5 d5])/\Hid (aO wr gx 66 #[.int .i64 xk, .string (ag sn), .slice A1 M c1, .slice A2 bd2.length c2, .slice A3 el2.length c3])) (fun vi _=>M-(intOf vi).toNat)
       case atStart=>exact⟨0,rfl,az _,HXa,HZa,HPa,HOa,HSa⟩
       case round=>
        clear HXa HZa HPa HOa HSa HX HZ HPB HPO c0 k0 k1 k2 s0 s1 s2 s3 s4;obtain⟨j,rfl,hj,HX,HZ,HPB,HPO,HSX⟩:=hrel;have x0:=HSX.out.cell;by_cases hlj:j<M
        ·have hlj':(j:Int)<M:=by omega
         have hjl:j<ex.length:=by have:=HM.out;omega
         obtain⟨be,oe,ae,rfl,hbe,hPe,h0,h1,h2,h3,h4,h5,hRa⟩:=HRe.out.at_ j hjl;obtain⟨be5,oe5,ae5,rfl,hbe5,hPe5,j0,j1,j2,j3,j4,j5,hRa5⟩:=HRe5.out.at_ j hjl;have hyw:=bX (ai hjl);have hyo:=my HSO.out _ (ai hjl);generalize ex[j]=y at*;obtain⟨B1,d1,rfl,_⟩:=hRa.form;obtain⟨B2,d2,rfl,_⟩:=hRa5.form;have HY1:=G (show YC w be (oe+j*6) y.k y.op y.nm y.tx y.v B1 y.args.length d1 from⟨h0,h1,h2,h3,h4,h5⟩);have HY5:=G (show YC w5 be5 (oe5+j*6) y.k y.op y.nm y.tx y.v B2 y.args.length d2 from⟨j0,j1,j2,j3,j4,j5⟩);have hyb:y.wt<=1073741824:=by have:=HSW.out;omega
         have HTN:=G (fun(W:World) (h1:au w W) (h2:au w5 W)=>kV _ y (an _) hyb (fun _=>True) W B2 _ d2 (hRa5.keep (.of_ext h2) (fun _ hb _=>hb)) (HBT.out.ext h1));have HRN:=G (fun(W:World) (h1:au w W)=>kZ _ y (an _) hyb hyo P W B1 _ d1 (hRa.keep (.of_ext h1) (fun _ hb _=>hb)));generalize ci y=ny at*;clear h0 h1 h2 h3 h4 h5 j0 j1 j2 j3 j4 j5 hRa hRa5 hyw hyo
         go_upto_region 23 with fail
         clear x0;refine am 21 1 [(13,fun v=>v= .int .i64 (ny:Int),fun _ _=>True),(19,fun v=>v= .int .i64 (ny:Int),fun _ _=>True)] mixed (by kernel_rfl) ⟨fun _ _ _ _ _=>trivial,fun _ _ _ _ _=>trivial,trivial⟩ ?_;repeat (refine sx ?_ (fun w1 hU=> ?_) ?_;rotate_left;(focus have f1:=(HPO.out.ext hU.un).cell;have q2:=((HZ.out.trans hU.un).cell b5 _ hb5).trans HJ.out.2.2;have q3:=((HZ.out.trans hU.un).cell bs5 _ hbs5).trans HJ2.out;have f2:=HY5.out.kp (P:=fun _=>True) (.of_ext (HZ.out.trans hU.un)) trivial hbe5;have y0:=f2.c0;have y1:=f2.c1;have y2:=f2.c2;have y3:=f2.c3;have y4:=f2.c4;have y5:=f2.c5;clear f2 hU;go_simp<;>with_reducible rfl);simp only[aU,aT,aS,aR,aQ])
         refine so (fun w6 hU hp K hK=> ?_) ?_
         ·have hc:=HTN.out w6 (HX.out.trans hU.un) (HZ.out.trans hU.un);clear hp hU;go_simp;refine hc.mono ?_;rintro e w7 ⟨rfl,hE⟩;exact hK _ _ hE rfl trivial
         rintro _ rfl;simp only[aU,aT,aS,aR,aQ];repeat (refine sx ?_ (fun w1 hU=> ?_) ?_;rotate_left;(focus have f1:=(HSX.out.ext hU.un).cell;have f2:=HY1.out.kp (P:=fun _=>True) (.of_ext (HX.out.trans hU.un)) trivial hbe;have y0:=f2.c0;have y1:=f2.c1;have y2:=f2.c2;have y3:=f2.c3;have y4:=f2.c4;have y5:=f2.c5;clear f2 hU;go_simp<;>with_reducible rfl);simp only[aU,aT,aS,aR,aQ])
         refine so (fun w6 hU hp K hK=> ?_) ?_
         ·have hc:=HRN.out w6 (HX.out.trans hU.un);clear hp hU;go_simp;refine hc.mono ?_;rintro e w7 ⟨rfl,hE⟩;exact hK _ _ hE rfl trivial
         rintro _ rfl;simp only[aU,aT,aS,aR,aQ];repeat (refine sx ?_ (fun w1 hU=> ?_) ?_;rotate_left;(focus go_simp<;>with_reducible rfl);simp only[aU,aT,aS,aR,aQ])
         intro w8 hw8 hp;clear hp;simp only[ab,aG];have HX8:=G (HX.out.trans hw8.un);have HZ8:=G (HZ.out.trans hw8.un);have HPB8:=G (HPB.out.ext hw8.un);have HPO8:=G (HPO.out.ext hw8.un);have HSX8:=G (HSX.out.ext hw8.un);clear hw8;go_wp2_with fail;go_roundw
         case rel=>exact⟨j+1,by go_num,by omega,HX8,HZ8,HPB8,HPO8,HSX8⟩
         case measure=>simp[intOf];omega
        ·have hlj': ¬(j:Int)<M:=by omega
         go_wp2_with fail;go_roundw
         case rel=>exact⟨kk+1,by go_num,by omega,HX,HZ,HPB,HPO⟩
         case measure=>simp[intOf];omega
      ·have he1:(en==0)=false:=beq_eq_false_iff_ne.2 he0;go_wp2_with fail;go_roundw
       case rel=>exact⟨i+1,by go_num,by omega,HX,HZ,HPB,HPO⟩
       case measure=>simp[intOf];omega
     ·have hlk': ¬(kk:Int)<L:=by omega
      go_wp2_with fail;go_roundw
      case rel=>exact⟨i+1,by go_num,by omega,HX,HZ,HPB,HPO⟩
      case measure=>simp[intOf];omega
   ·have hlt': ¬(i:Int)<m5:=by omega
    go_wp2_with fail;go_ret;exact⟨rfl,HX.out⟩
theorem wP (s:ByteArray):ag s.data.toList=s:=by cases s;simp[ag]
theorem wJ (p:Pg) (hp:jS p<=6000000) (a:ByteArray) (P:Nat->Prop) (w:World) (A B:Option Addr) (n c m d:Nat) (hV:fH w P (.slice A n c) p.vs) (hF:fO w P (.slice B m d) p.fs) (hz:EZ w) (ht:dn w w.heap.size) (hB:BT w):
  Calls prog 5 #[.agg #[.slice A n c, .slice B m d], .string a] w fun e w'=>e= .returned (.bool true)/\au w w':=by
 have:=wK p hp a.data.toList P w A B n c m d hV hF hz ht hB;rwa [wP]at this
end Go.Proofs.YtddomeddabfinaaGreatDoor
