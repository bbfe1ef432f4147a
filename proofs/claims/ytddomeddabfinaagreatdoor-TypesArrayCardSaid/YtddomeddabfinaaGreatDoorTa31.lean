/-
  Parts of the proof: TyI ParZ OwnQ.
-/
import Derived.Test.YtddomeddabfinaaGreatDoorTa00
import Derived.Test.YtddomeddabfinaaGreatDoorTa30
import Derived.LoopN
import Derived.Test.YtddomeddabfinaaGreatDoorTa12
set_option maxRecDepth 100000
set_option maxHeartbeats 8000000
set_option linter.unusedVariables false
set_option linter.unusedSimpArgs false
set_option linter.unusedSectionVars false
namespace Go.Proofs.YtddomeddabfinaaGreatDoor
open Go.Proofs.Tryz
section
open Go.RowKit
def og (X:CB) (gl:Gl) (bl:Nat) (r:SR) (w:World) (e:Ending) (w':World):Prop:=w.grownBy w' (some bl)/\match r with
 | .ok lo=>e= .returned (.tuple #[])/\CK X gl (.map (some bl)) lo w'
 | .error (nm,n)=>e=a7 nm n
section
variable {X:CB} {gl:Gl} {lo lo':Ls} {w W W':World} {bl pb:Nat} {P:Nat->Prop}
theorem CK.ml (h:CK X gl (.map (some bl)) lo w):bJ w bl (Bj lo)/\bl≠X.g/\bl≠X.bi/\bl≠X.ba/\bl≠X.bf:=by
 rcases h.l with⟨h,_⟩|⟨b,h,hm⟩
 ·cases h
 ·injection h with h;injection h with h;subst h;exact hm
theorem CK.lt_bl (h:CK X gl (.map (some bl)) lo w):bl<w.heap.size:=h.ml.1.lt
theorem CK.t_ne (h:CK X gl (.map (some bl)) lo w):bl≠0:=by
 rintro rfl;obtain⟨t,fr,ht⟩:=h.t;obtain⟨es,c,hm,_⟩:=h.ml.1;rw[ht]at hm;cases hm
theorem CK.add {nm:List UInt8} (h:CK X gl (.map (some bl)) lo w) (hm:bJ W bl ((Bj lo).upd nm (.bool true))) (hg:w.grownBy W (some bl)):CK X gl (.map (some bl)) (lo.add nm) W:=by
 obtain⟨h0,h1,h2,h3,h4⟩:=h.ml;have ne: ∀k,bl≠k->some k≠some bl:=fun k hk e=>hk (by injection e with e;exact e.symm);refine⟨h.blk.grown hg (ne _ h1),h.i.grown hg (ne _ h2),h.a.grown hg (ne _ h3),h.f.grown hg (ne _ h4), .inr ⟨bl,rfl,hm.congr fun s=> ?_,h1,h2,h3,h4⟩,?_⟩
 ·unfold KF.upd Bj Ls.add;by_cases e:s=nm
  ·subst e;simp
  ·simp[e]
 ·obtain⟨t,fr,ht⟩:=h.t;exact⟨t,fr,(hg.block _ (Array.getElem?_eq_some_iff.1 ht).1 (ne _ h.t_ne)).trans ht⟩
structure SQ (w:World) (pb bl:Nat) (P:Nat->Prop) (X:CB) (gl:Gl) (lo:Ls) (cs:Array Value) (ex:List Ex) (bd el:List St) (A1 A2 A3:Option Addr) (c1 c2 c3:Nat) (W:World):Prop where
 gr:w.grownBy W (some bl)
 ck:CK X gl (.map (some bl)) lo W
 bk:aQ W pb 72 cs
 re:cu W P (.slice A1 ex.length c1) ex
 rb:cK W P (.slice A2 bd.length c2) bd
 rl:cK W P (.slice A3 el.length c3) el
 hP: ∀b,P b->b≠bl
 ne:bl≠pb
variable {cs:Array Value} {ex:List Ex} {bd el:List St} {A1 A2 A3:Option Addr} {c1 c2 c3:Nat}
theorem SQ.ext (h:SQ w pb bl P X gl lo cs ex bd el A1 A2 A3 c1 c2 c3 W) (he:au W W'):SQ w pb bl P X gl lo cs ex bd el A1 A2 A3 c1 c2 c3 W':=
 ⟨h.gr.trans (he.grownBy _),h.ck.ext he,h.bk.ext he,h.re.keep (.of_ext he) (fun b hb _=>hb),h.rb.keep (.of_ext he) (fun b hb _=>hb),h.rl.keep (.of_ext he) (fun b hb _=>hb),h.hP,h.ne⟩
theorem SQ.grown (h:SQ w pb bl P X gl lo cs ex bd el A1 A2 A3 c1 c2 c3 W) (hg:W.grownBy W' (some bl)) (hc:CK X gl (.map (some bl)) lo' W'):SQ w pb bl P X gl lo' cs ex bd el A1 A2 A3 c1 c2 c3 W':=by
 have hk:cw P W W':= .of_grown hg (fun b hb e=>h.hP b hb (by injection e));exact⟨h.gr.trans hg,hc,h.bk.grown hg (fun e=>h.ne (by injection e with e;exact e.symm)),h.re.keep hk (fun b hb _=>hb),h.rb.keep hk (fun b hb _=>hb),h.rl.keep hk (fun b hb _=>hb),h.hP,h.ne⟩
theorem SQ.ml (h:SQ w pb bl P X gl lo cs ex bd el A1 A2 A3 c1 c2 c3 W):bJ W bl (Bj lo):=h.ck.ml.1
end
theorem uZ {gl:Gl} {lo:Ls} {l:List St} {j:Nat} (h:j<l.length):eI gl lo (l.drop j)=CR.then (mT gl lo l[j]) fun lo1=>eI gl lo1 (l.drop (j+1)):=by
 rw[aw h,eI]
def Aj (xs:List St):Prop:= ∀(X:CB) (gl:Gl) (bl:Nat) (lo:Ls) (P:Nat->Prop) (w:World) (A:Option Addr) (n c:Nat),CK X gl (.map (some bl)) lo w->cK w P (.slice A n c) xs->(∀b,P b->b≠bl)->
 Calls prog 74 #[X.p, .slice A n c] w (og X gl bl (eI gl lo xs) w)
theorem nt (xs:List St) (hl:xs.length<=1073741824) (hnmx: ∀s∈xs,s.nm.length<=1073741824) (hEx: ∀s∈xs,Ak s.ex) (hIH: ∀s∈xs,Aj s.body/\Aj s.els):Aj xs:=by
 intro X gl bl lo P w A n c hK hR hP;obtain⟨A',c',hv,hf⟩:=hR.form;injection hv with hv1 hv2 hv3;subst hv1 hv2 hv3;have HR:=G hR;have HI:=G hIH;have HNM:=G hnmx;have HEXS:=G hEx;have HK0:=G hK;obtain⟨N,hN⟩: ∃N,xs.length=N:=⟨_,rfl⟩
 have HN:=G hN;rw[hN]at HR hl;obtain⟨Rv,hRv⟩: ∃R,eI gl lo xs=R:=⟨_,rfl⟩
 have HQ0:=G (show eI gl lo (xs.drop 0)=Rv from hRv);have HX0:=G (World.grownBy.refl w (some bl));clear hR hf hIH hK hnmx hEx;rw[hN,hRv];clear hN hRv;simp only[CB.p]at*;go_enter func74,ntmps74;go_wp2_with fail
 go_loopw [8] (fun vi wr=> ∃(j:Nat) (loj:Ls),vi= .int .i64 (j:Int)/\j<=N/\Hid (eI gl loj (xs.drop j)=Rv)/\Hid (w.grownBy wr (some bl))/\Hid (CK X gl (.map (some bl)) loj wr)) (fun vi _=>N-(intOf vi).toNat)
 case atStart=>exact⟨0,lo,rfl,aF _,HQ0,HX0,HK0⟩
 case round=>
  obtain⟨j,loj,rfl,hj,HQR,HX,HKj⟩:=hrel;by_cases hlt:j<N
  ·have hlt':(j:Int)<N:=by omega
   have hjl:j<xs.length:=by have:=HN.out;omega
   obtain⟨b,o,e,bv,lv,rfl,hb,hPb,h0,h1,h2,h3,h4,hRe,hRb,hRl⟩:=HR.out.at_ j hjl;have hS:=uZ (gl:=gl) (lo:=loj) hjl;have hnm:=HNM.out _ (ap hjl);have hEX:=HEXS.out _ (ap hjl);have hII:=HI.out _ (ap hjl);obtain⟨y,hy⟩: ∃y,xs[j]=y:=⟨_,rfl⟩
   rw[hy]at h0 h1 hRe hRb hRl hS hnm hEX hII;clear hy;obtain⟨k,nm,ex,bd,el⟩:=y;simp only[St.k,St.nm,St.ex,St.body,St.els]at h0 h1 hRe hRb hRl hnm hEX hII;have hKP:cw P w wr:= .of_grown HX.out (fun b hb e=>hP b hb (by injection e));have e0:=(hKP.cell _ hPb hb).trans h0;have e1:=(hKP.cell _ hPb hb).trans h1;have e2:=(hKP.cell _ hPb hb).trans h2;have e3:=(hKP.cell _ hPb hb).trans h3;have e4:=(hKP.cell _ hPb hb).trans h4;obtain⟨A1,c1,rfl,_⟩:=hRe.form;obtain⟨A2,c2,rfl,_⟩:=hRb.form;obtain⟨A3,c3,rfl,_⟩:=hRl.form;have hAl:=I wr (.cells #[.int .i64 k, .string (ah nm), .slice A1 ex.length c1, .slice A2 bd.length c2, .slice A3 el.length c3] 72)
   have HQ:=G (show SQ w wr.heap.size bl P X gl loj #[.int .i64 k, .string (ah nm), .slice A1 ex.length c1, .slice A2 bd.length c2, .slice A3 el.length c3] ex bd el A1 A2 A3 c1 c2 c3 (wr.alloc (.cells #[.int .i64 k, .string (ah nm), .slice A1 ex.length c1, .slice A2 bd.length c2, .slice A3 el.length c3] 72))from
    ⟨HX.out.trans (hAl.grownBy _),HKj.out.ext hAl,am wr _ _,(hRe.keep hKP (Q:=P) (fun b hb _=>hb)).keep (.of_ext hAl) (fun b hb _=>hb),(hRb.keep hKP (Q:=P) (fun b hb _=>hb)).keep (.of_ext hAl) (fun b hb _=>hb),(hRl.keep hKP (Q:=P) (fun b hb _=>hb)).keep (.of_ext hAl) (fun b hb _=>hb),hP,lm HKj.out.lt_bl⟩)
   have HEX:=G hEX;have HB1:=G hII.1;have HL1:=G hII.2;clear h0 h1 h2 h3 h4 hRe hRb hRl hEX hII hAl hKP HR HI HEXS HNM;rw[mT]at hS;by_cases hk2:k=2
   ·subst hk2;rw[if_pos rfl]at hS
    cases hr1:nV gl loj nm with
    |error q=>
     obtain⟨qn,m⟩:=q;rw[hr1,fA]at hS;have HFn:=G (show Rv= .error (qn,m)from HQR.out.symm.trans hS);go_wp2_with (go_at_call 119;refine(eD X gl _ loj _ HQ.out.ck nm hnm).mono ?_;rw[hr1];unfold bU a7;rintro e wx ⟨rfl,hE⟩;have HZ:=G (HQ.out.gr.trans (hE.grownBy _));clear hE);exact⟨rfl,by rw[HFn.out];exact⟨HZ.out,rfl⟩⟩
    |ok u=>
     rw[hr1,de]at hS
     cases hr2:lR gl loj ex with
     |error q=>
      obtain⟨qn,m⟩:=q;rw[hr2,fA]at hS;have HFn:=G (show Rv= .error (qn,m)from HQR.out.symm.trans hS);go_wp2_with (first|(go_at_call 119;refine(eD X gl _ loj _ HQ.out.ck nm hnm).mono ?_;rw[hr1];unfold bU;rintro e wx ⟨rfl,hE⟩;replace HQ:=G (HQ.out.ext hE);clear hE;(try clear f0);have f0:=HQ.out.bk.cell;)|(go_at_call 121;refine(HEX.out X gl _ loj P _ A1 ex.length c1 HQ.out.ck HQ.out.re).mono ?_;rw[hr2];unfold bU a7;rintro e wx ⟨rfl,hE⟩;have HZ:=G (HQ.out.gr.trans (hE.grownBy _));clear hE));exact⟨rfl,by rw[HFn.out];exact⟨HZ.out,rfl⟩⟩
     |ok u=>
      rw[hr2,de]at hS;rw[if_neg (by decide),de]at hS;obtain⟨lo1,hlo1⟩: ∃l,loj=l:=⟨_,rfl⟩
      subst hlo1
      cases hr4:eI gl loj bd with
      |error q=>
       obtain⟨qn,m⟩:=q;rw[hr4,fA]at hS;have HFn:=G (show Rv= .error (qn,m)from HQR.out.symm.trans hS);go_wp2_with (first|(go_at_call 119;refine(eD X gl _ loj _ HQ.out.ck nm hnm).mono ?_;rw[hr1];unfold bU;rintro e wx ⟨rfl,hE⟩;replace HQ:=G (HQ.out.ext hE);clear hE;(try clear f0);have f0:=HQ.out.bk.cell;)|(go_at_call 121;refine(HEX.out X gl _ loj P _ A1 ex.length c1 HQ.out.ck HQ.out.re).mono ?_;rw[hr2];unfold bU;rintro e wx ⟨rfl,hE⟩;replace HQ:=G (HQ.out.ext hE);clear hE;(try clear f0);have f0:=HQ.out.bk.cell;)|(go_at_call 74;have hc:=HB1.out X gl bl loj P _ A2 bd.length c2 HQ.out.ck HQ.out.rb hP;rw[hr4]at hc;clear HB1;refine hc.mono ?_;unfold og a7;rintro e wx ⟨hg,rfl⟩;have HZ:=G (HQ.out.gr.trans hg);clear hg hc));exact⟨rfl,by rw[HFn.out];exact⟨HZ.out,rfl⟩⟩
      |ok lo2=>
       rw[hr4,de]at hS
       cases hr5:eI gl lo2 el with
       |error q=>
        obtain⟨qn,m⟩:=q;rw[hr5,fA]at hS;have HFn:=G (show Rv= .error (qn,m)from HQR.out.symm.trans hS);go_wp2_with (first|(go_at_call 119;refine(eD X gl _ loj _ HQ.out.ck nm hnm).mono ?_;rw[hr1];unfold bU;rintro e wx ⟨rfl,hE⟩;replace HQ:=G (HQ.out.ext hE);clear hE;(try clear f0);have f0:=HQ.out.bk.cell;)|(go_at_call 121;refine(HEX.out X gl _ loj P _ A1 ex.length c1 HQ.out.ck HQ.out.re).mono ?_;rw[hr2];unfold bU;rintro e wx ⟨rfl,hE⟩;replace HQ:=G (HQ.out.ext hE);clear hE;(try clear f0);have f0:=HQ.out.bk.cell;)|(go_at_call 74;have hc:=HB1.out X gl bl loj P _ A2 bd.length c2 HQ.out.ck HQ.out.rb hP;rw[hr4]at hc;clear HB1;refine hc.mono ?_;unfold og;rintro e wx ⟨hg,rfl,hck⟩;replace HQ:=G (HQ.out.grown hg hck);clear hg hck hc;(try clear f0);have f0:=HQ.out.bk.cell;)|(go_at_call 74;have hc:=HL1.out X gl bl lo2 P _ A3 el.length c3 HQ.out.ck HQ.out.rl hP;rw[hr5]at hc;clear HL1;refine hc.mono ?_;unfold og a7;rintro e wx ⟨hg,rfl⟩;have HZ:=G (HQ.out.gr.trans hg);clear hg hc));exact⟨rfl,by rw[HFn.out];exact⟨HZ.out,rfl⟩⟩
       |ok lo3=>
        rw[hr5,de]at hS;go_wp2_with (first|(go_at_call 119;refine(eD X gl _ loj _ HQ.out.ck nm hnm).mono ?_;rw[hr1];unfold bU;rintro e wx ⟨rfl,hE⟩;replace HQ:=G (HQ.out.ext hE);clear hE;(try clear f0);have f0:=HQ.out.bk.cell;)|(go_at_call 121;refine(HEX.out X gl _ loj P _ A1 ex.length c1 HQ.out.ck HQ.out.re).mono ?_;rw[hr2];unfold bU;rintro e wx ⟨rfl,hE⟩;replace HQ:=G (HQ.out.ext hE);clear hE;(try clear f0);have f0:=HQ.out.bk.cell;)|(go_at_call 74;have hc:=HB1.out X gl bl loj P _ A2 bd.length c2 HQ.out.ck HQ.out.rb hP;rw[hr4]at hc;clear HB1;refine hc.mono ?_;unfold og;rintro e wx ⟨hg,rfl,hck⟩;replace HQ:=G (HQ.out.grown hg hck);clear hg hck hc;(try clear f0);have f0:=HQ.out.bk.cell;)|(go_at_call 74;have hc:=HL1.out X gl bl lo2 P _ A3 el.length c3 HQ.out.ck HQ.out.rl hP;rw[hr5]at hc;clear HL1;refine hc.mono ?_;unfold og;rintro e wx ⟨hg,rfl,hck⟩;replace HQ:=G (HQ.out.grown hg hck);clear hg hck hc;(try clear f0);have f0:=HQ.out.bk.cell;));go_roundw
        case rel=>exact⟨j+1,lo3,by go_num,by omega,G (hS.symm.trans HQR.out),G HQ.out.gr,G HQ.out.ck⟩
        case measure=>simp[intOf];omega
   by_cases hk3:k=3
   ·subst hk3;rw[if_neg (by decide),if_pos rfl]at hS
    cases hr1:jd gl loj nm with
    |error q=>
     obtain⟨qn,m⟩:=q;rw[hr1,fA]at hS;have HFn:=G (show Rv= .error (qn,m)from HQR.out.symm.trans hS);go_wp2_with (go_at_call 120;refine(dX X gl _ loj _ HQ.out.ck nm hnm).mono ?_;rw[hr1];unfold bU a7;rintro e wx ⟨rfl,hE⟩;have HZ:=G (HQ.out.gr.trans (hE.grownBy _));clear hE);exact⟨rfl,by rw[HFn.out];exact⟨HZ.out,rfl⟩⟩
    |ok u=>
     rw[hr1,de]at hS
     cases hr2:lR gl loj ex with
     |error q=>
      obtain⟨qn,m⟩:=q;rw[hr2,fA]at hS;have HFn:=G (show Rv= .error (qn,m)from HQR.out.symm.trans hS);go_wp2_with (first|(go_at_call 120;refine(dX X gl _ loj _ HQ.out.ck nm hnm).mono ?_;rw[hr1];unfold bU;rintro e wx ⟨rfl,hE⟩;replace HQ:=G (HQ.out.ext hE);clear hE;(try clear f0);have f0:=HQ.out.bk.cell;)|(go_at_call 121;refine(HEX.out X gl _ loj P _ A1 ex.length c1 HQ.out.ck HQ.out.re).mono ?_;rw[hr2];unfold bU a7;rintro e wx ⟨rfl,hE⟩;have HZ:=G (HQ.out.gr.trans (hE.grownBy _));clear hE));exact⟨rfl,by rw[HFn.out];exact⟨HZ.out,rfl⟩⟩
     |ok u=>
      rw[hr2,de]at hS;rw[if_neg (by decide),de]at hS;obtain⟨lo1,hlo1⟩: ∃l,loj=l:=⟨_,rfl⟩
      subst hlo1
      cases hr4:eI gl loj bd with
      |error q=>
       obtain⟨qn,m⟩:=q;rw[hr4,fA]at hS;have HFn:=G (show Rv= .error (qn,m)from HQR.out.symm.trans hS);go_wp2_with (first|(go_at_call 120;refine(dX X gl _ loj _ HQ.out.ck nm hnm).mono ?_;rw[hr1];unfold bU;rintro e wx ⟨rfl,hE⟩;replace HQ:=G (HQ.out.ext hE);clear hE;(try clear f0);have f0:=HQ.out.bk.cell;)|(go_at_call 121;refine(HEX.out X gl _ loj P _ A1 ex.length c1 HQ.out.ck HQ.out.re).mono ?_;rw[hr2];unfold bU;rintro e wx ⟨rfl,hE⟩;replace HQ:=G (HQ.out.ext hE);clear hE;(try clear f0);have f0:=HQ.out.bk.cell;)|(go_at_call 74;have hc:=HB1.out X gl bl loj P _ A2 bd.length c2 HQ.out.ck HQ.out.rb hP;rw[hr4]at hc;clear HB1;refine hc.mono ?_;unfold og a7;rintro e wx ⟨hg,rfl⟩;have HZ:=G (HQ.out.gr.trans hg);clear hg hc));exact⟨rfl,by rw[HFn.out];exact⟨HZ.out,rfl⟩⟩
      |ok lo2=>
       rw[hr4,de]at hS
       cases hr5:eI gl lo2 el with
       |error q=>
        obtain⟨qn,m⟩:=q;rw[hr5,fA]at hS;have HFn:=G (show Rv= .error (qn,m)from HQR.out.symm.trans hS);go_wp2_with (first|(go_at_call 120;refine(dX X gl _ loj _ HQ.out.ck nm hnm).mono ?_;rw[hr1];unfold bU;rintro e wx ⟨rfl,hE⟩;replace HQ:=G (HQ.out.ext hE);clear hE;(try clear f0);have f0:=HQ.out.bk.cell;)|(go_at_call 121;refine(HEX.out X gl _ loj P _ A1 ex.length c1 HQ.out.ck HQ.out.re).mono ?_;rw[hr2];unfold bU;rintro e wx ⟨rfl,hE⟩;replace HQ:=G (HQ.out.ext hE);clear hE;(try clear f0);have f0:=HQ.out.bk.cell;)|(go_at_call 74;have hc:=HB1.out X gl bl loj P _ A2 bd.length c2 HQ.out.ck HQ.out.rb hP;rw[hr4]at hc;clear HB1;refine hc.mono ?_;unfold og;rintro e wx ⟨hg,rfl,hck⟩;replace HQ:=G (HQ.out.grown hg hck);clear hg hck hc;(try clear f0);have f0:=HQ.out.bk.cell;)|(go_at_call 74;have hc:=HL1.out X gl bl lo2 P _ A3 el.length c3 HQ.out.ck HQ.out.rl hP;rw[hr5]at hc;clear HL1;refine hc.mono ?_;unfold og a7;rintro e wx ⟨hg,rfl⟩;have HZ:=G (HQ.out.gr.trans hg);clear hg hc));exact⟨rfl,by rw[HFn.out];exact⟨HZ.out,rfl⟩⟩
       |ok lo3=>
        rw[hr5,de]at hS;go_wp2_with (first|(go_at_call 120;refine(dX X gl _ loj _ HQ.out.ck nm hnm).mono ?_;rw[hr1];unfold bU;rintro e wx ⟨rfl,hE⟩;replace HQ:=G (HQ.out.ext hE);clear hE;(try clear f0);have f0:=HQ.out.bk.cell;)|(go_at_call 121;refine(HEX.out X gl _ loj P _ A1 ex.length c1 HQ.out.ck HQ.out.re).mono ?_;rw[hr2];unfold bU;rintro e wx ⟨rfl,hE⟩;replace HQ:=G (HQ.out.ext hE);clear hE;(try clear f0);have f0:=HQ.out.bk.cell;)|(go_at_call 74;have hc:=HB1.out X gl bl loj P _ A2 bd.length c2 HQ.out.ck HQ.out.rb hP;rw[hr4]at hc;clear HB1;refine hc.mono ?_;unfold og;rintro e wx ⟨hg,rfl,hck⟩;replace HQ:=G (HQ.out.grown hg hck);clear hg hck hc;(try clear f0);have f0:=HQ.out.bk.cell;)|(go_at_call 74;have hc:=HL1.out X gl bl lo2 P _ A3 el.length c3 HQ.out.ck HQ.out.rl hP;rw[hr5]at hc;clear HL1;refine hc.mono ?_;unfold og;rintro e wx ⟨hg,rfl,hck⟩;replace HQ:=G (HQ.out.grown hg hck);clear hg hck hc;(try clear f0);have f0:=HQ.out.bk.cell;));go_roundw
        case rel=>exact⟨j+1,lo3,by go_num,by omega,G (hS.symm.trans HQR.out),G HQ.out.gr,G HQ.out.ck⟩
        case measure=>simp[intOf];omega
   by_cases hk1:k=1
   ·subst hk1;rw[if_neg (by decide),if_neg (by decide),de]at hS
    cases hr2:lR gl loj ex with
    |error q=>
     obtain⟨qn,m⟩:=q;rw[hr2,fA]at hS;have HFn:=G (show Rv= .error (qn,m)from HQR.out.symm.trans hS);go_wp2_with (go_at_call 121;refine(HEX.out X gl _ loj P _ A1 ex.length c1 HQ.out.ck HQ.out.re).mono ?_;rw[hr2];unfold bU a7;rintro e wx ⟨rfl,hE⟩;have HZ:=G (HQ.out.gr.trans (hE.grownBy _));clear hE);exact⟨rfl,by rw[HFn.out];exact⟨HZ.out,rfl⟩⟩
    |ok u=>
     rw[hr2,de]at hS;rw[if_pos rfl]at hS
     cases hr3:gl.known loj nm with
     |true=>
      rw[hr3,if_pos rfl,fA]at hS;have HFn:=G (show Rv= .error (nm,9)from HQR.out.symm.trans hS);go_wp2_with (first|(go_at_call 121;refine(HEX.out X gl _ loj P _ A1 ex.length c1 HQ.out.ck HQ.out.re).mono ?_;rw[hr2];unfold bU;rintro e wx ⟨rfl,hE⟩;replace HQ:=G (HQ.out.ext hE);clear hE;(try clear f0);have f0:=HQ.out.bk.cell;)|(go_at_call 72;refine(dM X gl _ loj _ HQ.out.ck nm hnm).mono ?_;rw[hr3];rintro e wx ⟨rfl,hE⟩;replace HQ:=G (HQ.out.ext hE);clear hE;(try clear f0);have f0:=HQ.out.bk.cell;)|(go_at_call 73;refine(dL nm 9 _).mono ?_;unfold a7;rintro e wx ⟨rfl,hE⟩;have HZ:=G (HQ.out.gr.trans (hE.grownBy _));clear hE));exact⟨rfl,by rw[HFn.out];exact⟨HZ.out,rfl⟩⟩
     |false=>
      rw[hr3,if_neg (by decide),de]at hS;obtain⟨lo1,hlo1⟩: ∃l,loj.add nm=l:=⟨_,rfl⟩
      rw[hlo1]at hS
      cases hr4:eI gl lo1 bd with
      |error q=>
       obtain⟨qn,m⟩:=q;rw[hr4,fA]at hS;have HFn:=G (show Rv= .error (qn,m)from HQR.out.symm.trans hS);go_wp2_with (first|(go_at_call 121;refine(HEX.out X gl _ loj P _ A1 ex.length c1 HQ.out.ck HQ.out.re).mono ?_;rw[hr2];unfold bU;rintro e wx ⟨rfl,hE⟩;replace HQ:=G (HQ.out.ext hE);clear hE;(try clear f0);have f0:=HQ.out.bk.cell;)|(go_at_call 72;refine(dM X gl _ loj _ HQ.out.ck nm hnm).mono ?_;rw[hr3];rintro e wx ⟨rfl,hE⟩;replace HQ:=G (HQ.out.ext hE);clear hE;(try clear f0);have f0:=HQ.out.bk.cell;));refine ay 6 1 [] mixed (by kernel_rfl) trivial ?_;repeat (refine sx ?_ (fun w1 hU=> ?_) ?_;rotate_left;(focus have f0:=(HQ.out.ext hU.un).bk.cell;have fk:=(HQ.out.ext hU.un).ck.blk.cell;clear hU;go_simp<;>with_reducible rfl);simp only[aY,aX,aW,aV,aU])
       intro w7 hw7 _;simp only[aa,an];replace HQ:=G (HQ.out.ext hw7.un);clear hw7;(try clear f0);go_wp2_with (at_mapUpdate;refine cv Av rfl _ _ _ rfl HQ.out.ml rfl (by unfold maxLen;omega) rfl _ rfl ?_;intro w8 hm8 hg8;replace HQ:=G (HQ.out.grown hg8 (HQ.out.ck.add hm8 hg8));clear hm8 hg8;have f0:=HQ.out.bk.cell);rw[hlo1]at HQ;go_wp2_with (go_at_call 74;have hc:=HB1.out X gl bl lo1 P _ A2 bd.length c2 HQ.out.ck HQ.out.rb hP;rw[hr4]at hc;clear HB1;refine hc.mono ?_;unfold og a7;rintro e wx ⟨hg,rfl⟩;have HZ:=G (HQ.out.gr.trans hg);clear hg hc);exact⟨rfl,by rw[HFn.out];exact⟨HZ.out,rfl⟩⟩
      |ok lo2=>
       rw[hr4,de]at hS
       cases hr5:eI gl lo2 el with
       |error q=>
        obtain⟨qn,m⟩:=q;rw[hr5,fA]at hS;have HFn:=G (show Rv= .error (qn,m)from HQR.out.symm.trans hS);go_wp2_with (first|(go_at_call 121;refine(HEX.out X gl _ loj P _ A1 ex.length c1 HQ.out.ck HQ.out.re).mono ?_;rw[hr2];unfold bU;rintro e wx ⟨rfl,hE⟩;replace HQ:=G (HQ.out.ext hE);clear hE;(try clear f0);have f0:=HQ.out.bk.cell;)|(go_at_call 72;refine(dM X gl _ loj _ HQ.out.ck nm hnm).mono ?_;rw[hr3];rintro e wx ⟨rfl,hE⟩;replace HQ:=G (HQ.out.ext hE);clear hE;(try clear f0);have f0:=HQ.out.bk.cell;));refine ay 6 1 [] mixed (by kernel_rfl) trivial ?_;repeat (refine sx ?_ (fun w1 hU=> ?_) ?_;rotate_left;(focus have f0:=(HQ.out.ext hU.un).bk.cell;have fk:=(HQ.out.ext hU.un).ck.blk.cell;clear hU;go_simp<;>with_reducible rfl);simp only[aY,aX,aW,aV,aU])
        intro w7 hw7 _;simp only[aa,an];replace HQ:=G (HQ.out.ext hw7.un);clear hw7;(try clear f0);go_wp2_with (at_mapUpdate;refine cv Av rfl _ _ _ rfl HQ.out.ml rfl (by unfold maxLen;omega) rfl _ rfl ?_;intro w8 hm8 hg8;replace HQ:=G (HQ.out.grown hg8 (HQ.out.ck.add hm8 hg8));clear hm8 hg8;have f0:=HQ.out.bk.cell);rw[hlo1]at HQ;go_wp2_with (first|(go_at_call 74;have hc:=HB1.out X gl bl lo1 P _ A2 bd.length c2 HQ.out.ck HQ.out.rb hP;rw[hr4]at hc;clear HB1;refine hc.mono ?_;unfold og;rintro e wx ⟨hg,rfl,hck⟩;replace HQ:=G (HQ.out.grown hg hck);clear hg hck hc;(try clear f0);have f0:=HQ.out.bk.cell;)|(go_at_call 74;have hc:=HL1.out X gl bl lo2 P _ A3 el.length c3 HQ.out.ck HQ.out.rl hP;rw[hr5]at hc;clear HL1;refine hc.mono ?_;unfold og a7;rintro e wx ⟨hg,rfl⟩;have HZ:=G (HQ.out.gr.trans hg);clear hg hc));exact⟨rfl,by rw[HFn.out];exact⟨HZ.out,rfl⟩⟩
       |ok lo3=>
        rw[hr5,de]at hS;go_wp2_with (first|(go_at_call 121;refine(HEX.out X gl _ loj P _ A1 ex.length c1 HQ.out.ck HQ.out.re).mono ?_;rw[hr2];unfold bU;rintro e wx ⟨rfl,hE⟩;replace HQ:=G (HQ.out.ext hE);clear hE;(try clear f0);have f0:=HQ.out.bk.cell;)|(go_at_call 72;refine(dM X gl _ loj _ HQ.out.ck nm hnm).mono ?_;rw[hr3];rintro e wx ⟨rfl,hE⟩;replace HQ:=G (HQ.out.ext hE);clear hE;(try clear f0);have f0:=HQ.out.bk.cell;));refine ay 6 1 [] mixed (by kernel_rfl) trivial ?_;repeat (refine sx ?_ (fun w1 hU=> ?_) ?_;rotate_left;(focus have f0:=(HQ.out.ext hU.un).bk.cell;have fk:=(HQ.out.ext hU.un).ck.blk.cell;clear hU;go_simp<;>with_reducible rfl);simp only[aY,aX,aW,aV,aU])
        intro w7 hw7 _;simp only[aa,an];replace HQ:=G (HQ.out.ext hw7.un);clear hw7;(try clear f0);go_wp2_with (at_mapUpdate;refine cv Av rfl _ _ _ rfl HQ.out.ml rfl (by unfold maxLen;omega) rfl _ rfl ?_;intro w8 hm8 hg8;replace HQ:=G (HQ.out.grown hg8 (HQ.out.ck.add hm8 hg8));clear hm8 hg8;have f0:=HQ.out.bk.cell);rw[hlo1]at HQ;go_wp2_with (first|(go_at_call 74;have hc:=HB1.out X gl bl lo1 P _ A2 bd.length c2 HQ.out.ck HQ.out.rb hP;rw[hr4]at hc;clear HB1;refine hc.mono ?_;unfold og;rintro e wx ⟨hg,rfl,hck⟩;replace HQ:=G (HQ.out.grown hg hck);clear hg hck hc;(try clear f0);have f0:=HQ.out.bk.cell;)|(go_at_call 74;have hc:=HL1.out X gl bl lo2 P _ A3 el.length c3 HQ.out.ck HQ.out.rl hP;rw[hr5]at hc;clear HL1;refine hc.mono ?_;unfold og;rintro e wx ⟨hg,rfl,hck⟩;replace HQ:=G (HQ.out.grown hg hck);clear hg hck hc;(try clear f0);have f0:=HQ.out.bk.cell;));go_roundw
        case rel=>exact⟨j+1,lo3,by go_num,by omega,G (hS.symm.trans HQR.out),G HQ.out.gr,G HQ.out.ck⟩
        case measure=>simp[intOf];omega
   have n2:=beq_eq_false_iff_ne.2 hk2;have n3:=beq_eq_false_iff_ne.2 hk3;have n1:=beq_eq_false_iff_ne.2 hk1;rw[if_neg hk2,if_neg hk3,de]at hS
   cases hr2:lR gl loj ex with
   |error q=>
    obtain⟨qn,m⟩:=q;rw[hr2,fA]at hS;have HFn:=G (show Rv= .error (qn,m)from HQR.out.symm.trans hS);go_wp2_with (go_at_call 121;refine(HEX.out X gl _ loj P _ A1 ex.length c1 HQ.out.ck HQ.out.re).mono ?_;rw[hr2];unfold bU a7;rintro e wx ⟨rfl,hE⟩;have HZ:=G (HQ.out.gr.trans (hE.grownBy _));clear hE);exact⟨rfl,by rw[HFn.out];exact⟨HZ.out,rfl⟩⟩
   |ok u=>
    rw[hr2,de]at hS;rw[if_neg (hk1),de]at hS;obtain⟨lo1,hlo1⟩: ∃l,loj=l:=⟨_,rfl⟩
    subst hlo1
    cases hr4:eI gl loj bd with
    |error q=>
     obtain⟨qn,m⟩:=q;rw[hr4,fA]at hS;have HFn:=G (show Rv= .error (qn,m)from HQR.out.symm.trans hS);go_wp2_with (first|(go_at_call 121;refine(HEX.out X gl _ loj P _ A1 ex.length c1 HQ.out.ck HQ.out.re).mono ?_;rw[hr2];unfold bU;rintro e wx ⟨rfl,hE⟩;replace HQ:=G (HQ.out.ext hE);clear hE;(try clear f0);have f0:=HQ.out.bk.cell;)|(go_at_call 74;have hc:=HB1.out X gl bl loj P _ A2 bd.length c2 HQ.out.ck HQ.out.rb hP;rw[hr4]at hc;clear HB1;refine hc.mono ?_;unfold og a7;rintro e wx ⟨hg,rfl⟩;have HZ:=G (HQ.out.gr.trans hg);clear hg hc));exact⟨rfl,by rw[HFn.out];exact⟨HZ.out,rfl⟩⟩
    |ok lo2=>
     rw[hr4,de]at hS
     cases hr5:eI gl lo2 el with
     |error q=>
      obtain⟨qn,m⟩:=q;rw[hr5,fA]at hS;have HFn:=G (show Rv= .error (qn,m)from HQR.out.symm.trans hS);go_wp2_with (first|(go_at_call 121;refine(HEX.out X gl _ loj P _ A1 ex.length c1 HQ.out.ck HQ.out.re).mono ?_;rw[hr2];unfold bU;rintro e wx ⟨rfl,hE⟩;replace HQ:=G (HQ.out.ext hE);clear hE;(try clear f0);have f0:=HQ.out.bk.cell;)|(go_at_call 74;have hc:=HB1.out X gl bl loj P _ A2 bd.length c2 HQ.out.ck HQ.out.rb hP;rw[hr4]at hc;clear HB1;refine hc.mono ?_;unfold og;rintro e wx ⟨hg,rfl,hck⟩;replace HQ:=G (HQ.out.grown hg hck);clear hg hck hc;(try clear f0);have f0:=HQ.out.bk.cell;)|(go_at_call 74;have hc:=HL1.out X gl bl lo2 P _ A3 el.length c3 HQ.out.ck HQ.out.rl hP;rw[hr5]at hc;clear HL1;refine hc.mono ?_;unfold og a7;rintro e wx ⟨hg,rfl⟩;have HZ:=G (HQ.out.gr.trans hg);clear hg hc));exact⟨rfl,by rw[HFn.out];exact⟨HZ.out,rfl⟩⟩
     |ok lo3=>
      rw[hr5,de]at hS;go_wp2_with (first|(go_at_call 121;refine(HEX.out X gl _ loj P _ A1 ex.length c1 HQ.out.ck HQ.out.re).mono ?_;rw[hr2];unfold bU;rintro e wx ⟨rfl,hE⟩;replace HQ:=G (HQ.out.ext hE);clear hE;(try clear f0);have f0:=HQ.out.bk.cell;)|(go_at_call 74;have hc:=HB1.out X gl bl loj P _ A2 bd.length c2 HQ.out.ck HQ.out.rb hP;rw[hr4]at hc;clear HB1;refine hc.mono ?_;unfold og;rintro e wx ⟨hg,rfl,hck⟩;replace HQ:=G (HQ.out.grown hg hck);clear hg hck hc;(try clear f0);have f0:=HQ.out.bk.cell;)|(go_at_call 74;have hc:=HL1.out X gl bl lo2 P _ A3 el.length c3 HQ.out.ck HQ.out.rl hP;rw[hr5]at hc;clear HL1;refine hc.mono ?_;unfold og;rintro e wx ⟨hg,rfl,hck⟩;replace HQ:=G (HQ.out.grown hg hck);clear hg hck hc;(try clear f0);have f0:=HQ.out.bk.cell;));go_roundw
      case rel=>exact⟨j+1,lo3,by go_num,by omega,G (hS.symm.trans HQR.out),G HQ.out.gr,G HQ.out.ck⟩
      case measure=>simp[intOf];omega
  ·have hlt': ¬(j:Int)<N:=by omega
   have HFn:=G (show Rv= .ok loj by
    have:=HQR.out;rw[aD (by have:=HN.out;omega),eI]at this
    exact this.symm)
   go_wp2_with fail;exact bodyPost_end (results_none rfl _ _ _) rfl (by rw[HFn.out];exact⟨HX.out,rfl,HKj.out⟩)
theorem kN: ∀(m:Nat) (xs:List St),fj xs<=m->fj xs<=1073741824->Aj xs
 |0,xs,h,hw=>nt xs (by have:=du xs;omega) (fun s hs=>by have:=bQ hs;have:=s.wt_eq;omega) (fun s hs=>by have:=bQ hs;have:=s.wt_eq;omega) (fun s hs=>by have:=bQ hs;have:=s.wt_eq;omega)
 |m+1,xs,h,hw=>nt xs (by have:=du xs;omega) (fun s hs=>by have:=bQ hs;have:=s.wt_eq;omega) (fun s hs=>rO s.ex (by have:=bQ hs;have:=s.wt_eq;omega))
   (fun s hs=>⟨kN m s.body (by have:=bQ hs;have:=s.wt_eq;omega) (by have:=bQ hs;have:=s.wt_eq;omega),kN m s.els (by have:=bQ hs;have:=s.wt_eq;omega) (by have:=bQ hs;have:=s.wt_eq;omega)⟩)
end
section
open Go.RowKit
theorem oP: ∀(f:Nat) (acc:List (List UInt8)) (l:List bK) (x:List (List UInt8)) (r:List bK),eP f acc l= .ok (x,r)->r.length<l.length
 |0,acc,l,x,r,h=>by rw[eP]at h;cases h
 |f+1,acc,l,x,r,h=>by
  rw[eP]at h;obtain⟨a,q,h1,h2⟩:=aM h;have:=(j7 h1).2.2.2;split at h2
  ·rename_i hk;have:=bq hk;rw[<-(bx h2).2];omega
  ·obtain⟨b,q2,h3,h4⟩:=aM h2;have:=(dQ h3).2.2;have:=oP f _ _ _ _ h4;omega
theorem xc {f:Nat} {l:List bK} {x:List (List UInt8)} {r:List bK} (h:eY f l= .ok (x,r)):r.length<l.length:=by
 unfold eY at h;split at h
 ·rename_i hk;have:=bq hk;rw[<-(bx h).2];omega
 ·exact oP _ _ _ _ _ h
theorem zc {l r:List bK} {x:Vr} (h:i_ l= .ok (x,r)):r.length<l.length:=by
 unfold i_ at h;obtain⟨a,q,h1,h2⟩:=aM h;obtain⟨b,q2,h3,h4⟩:=aM h2;obtain⟨c,q3,h5,h6⟩:=aM h4;have:=(j7 h1).2.2.2;have:=(dQ h5).2.2;have h7:=(bx h6).2;subst h7;split at h3
 ·rename_i hk;have:=bq hk;split at h3
  ·split at h3
   ·cases h3
   ·obtain⟨e,q4,h8,h9⟩:=aM h3;have:=(dQ h8).2.2;have h10:=(bx h9).2;subst h10;have:q.tail.tail.length<=q.tail.length:=by simp
    omega
  ·cases h3
 ·have h10:=(bx h3).2;subst h10;omega
theorem uB (w:World) (p:Value):let W0:=((w.alloc (.cells #[p] 153)).alloc (.cells #[.slice none 0 0, .slice none 0 0] 34)).alloc (.cells #[.slice none 0 0, .slice none 0 0] 34)
  au w W0/\aQ W0 w.heap.size 153 #[p]/\aQ W0 (w.heap.size+1) 34 #[.slice none 0 0, .slice none 0 0]/\aQ W0 (w.heap.size+2) 34 #[.slice none 0 0, .slice none 0 0]:=by
 have h1:=am (w.alloc (.cells #[p] 153)) 34 #[.slice none 0 0, .slice none 0 0];have h2:=am ((w.alloc (.cells #[p] 153)).alloc (.cells #[.slice none 0 0, .slice none 0 0] 34)) 34 #[.slice none 0 0, .slice none 0 0];rw[World.size_alloc]at h1;rw[World.size_alloc,World.size_alloc]at h2;exact⟨((I w _).alloc' _).alloc' _,((am w _ _).alloc _).alloc _,h1.alloc _,h2⟩
theorem Bn {w W:World} {g pr:Nat} {en:Int} {z0 z1:Value} {r:PR Pg} {q:List bK} (p:Pg) (A:Option Addr) (n c:Nat) (B:Option Addr) (m d:Nat) (hr:r= .ok (p,q)) (hpr:w.heap.size<=pr) (hB:aQ W pr 34 #[z0,z1]) (hG:w.grownBy W (some g))
  (hV:li W (fun b=>pr<b) (.slice A n c) p.vs) (hF:lW W (fun b=>pr<b) (.slice B m d) p.fs):
  (∀o,(W.setCells pr 0 [.slice A n c, .slice B m d]).cell? ⟨pr,o,none⟩=(#[.slice A n c, .slice B m d]:Array Value)[o]?)/\BF g en w r (.returned (.agg #[.slice A n c, .slice B m d])) (W.setCells pr 0 [.slice A n c, .slice B m d]):=by
 subst hr;have hc:=cS pr [.slice A n c, .slice B m d] 0 W;have hb:=(hB.set 0 (.slice A n c)).set 1 (.slice B m d);have hk:cw (fun b=>pr<b) W (W.setCells pr 0 [.slice A n c, .slice B m d]):= .of_grown hc fun b hb e=>by injection e with e;omega
 exact⟨fun o=>by have:=hb.cell o;simpa[World.setCells]using this,dq hG hc hpr,A,n,c,B,m,d,rfl,hV.keep hk (fun b hb _=>by omega),hF.keep hk (fun b hb _=>by omega)⟩
theorem nD (F0:Nat) (hF0:F0<=400000) (l:List bK) (en:Int) (w:World) (g:Nat) (h:PA w g l en) (hf:4*l.length+2<=F0):Calls prog 60 #[.pointer (some ⟨g,0,none⟩)] w (BF g en w (cR F0 ⟨[],[]⟩ l)):=by
 obtain⟨hX0,hb0,hB0,hS0⟩:=uB w (.pointer (some ⟨g,0,none⟩));have HX0:=G hX0;have Hb0:=G hb0;have HB0:=G hB0;have HS0:=G hS0;have HP0:=G (h.ext hX0);have hgl:=h.lt;have hbg:w.heap.size≠g:=by omega
 have hrg:w.heap.size+1≠g:=by omega
 have hsg:w.heap.size+2≠g:=by omega
 clear h hX0 hb0 hB0 hS0;have hmf: ∀(fn:Fn) (first cap:Array Value) (w:World),(Instr.makeFunc fn first cap).run prog w= .ok (.func fn first cap) w:=fun _ _ _ _=>rfl;go_enter func60,ntmps60;go_wp2_with fail
 go_loopw [] (fun wr=> ∃(k:Nat) (vs:List Vr) (fs:List FV) (r:List bK) (A:Option Addr) (n c:Nat) (B:Option Addr) (m d:Nat),4*r.length+2<=k/\k<=F0/\vs.length=n/\fs.length=m/\n+m+r.length<=l.length/\Hid (cR k ⟨vs,fs.map (·.c)⟩ r=cR F0 ⟨[],[]⟩ l)/\Hid (PA wr g r en)/\Hid (aQ wr w.heap.size 153 #[.pointer (some ⟨g,0,none⟩)])/\Hid (aQ wr (w.heap.size+1) 34 #[.slice none 0 0, .slice none 0 0])/\Hid (aQ wr (w.heap.size+2) 34 #[.slice A n c, .slice B m d])/\
  Hid (jQ wr (w.heap.size+3) (.slice A n c) (.slice B m d) vs fs)/\Hid (w.grownBy wr (some g))) (fun wr=>tokN g wr)
 case atStart=>exact⟨F0,[],[],l,none,0,0,none,0,0,hf,ag _,rfl,rfl,by omega,G rfl,HP0,Hb0,HB0,HS0,G (jQ.nil_ _ _),G (HX0.out.grownBy _)⟩
 case round=>
  clear HX0 Hb0 HB0 HS0 HP0;obtain⟨k,vs,fs,r,A,n,c,B,m,d,hk0,hkF0,hn0,hm,hnm,HRes,HPr,Hbr,HBr,HSr,HOr,HGr⟩:=hrel;obtain⟨k,rfl⟩: ∃k',k=k'+1:=⟨k-1,by omega⟩
  have hkF:k<=400000:=by omega
  have HSt:=G (show cR (k+1) ⟨vs,fs.map (·.c)⟩ r=if r=[]then .ok (⟨vs,fs.map (·.c)⟩,[])else if cI lz r then(i_ r.tail).then fun v r=>cR k ⟨vs++[v],fs.map (·.c)⟩ r
   else(bT j6 r).then fun _ r=>(jH k r).then fun c r=>cR k ⟨vs,fs.map (·.c)++[c]⟩ r from by rw[cR])
  have hpc:=Hbr.out.cell;have hsc:=HSr.out.cell;have hsf:=HSr.out.frozen;by_cases hr0:r=[]
  ·subst hr0;have HR:=G (show cR F0 ⟨[],[]⟩ l= .ok (⟨vs,fs.map (·.c)⟩,[])from by rw[<-HRes.out,HSt.out,if_pos rfl]);obtain⟨Q,cq,hb,ht,hn⟩:=HPr.out;have hbc:=hb.cell;have hrc:=HBr.out.cell;have hrf:=HBr.out.frozen;clear hb ht hn;go_wp2_with fail;have hrd:=HOr.out.rd;obtain⟨hset,hfin⟩:=Bn (en:=en) ⟨vs,fs.map (·.c)⟩ A n c B m d HR.out (jV _) HBr.out HGr.out (hrd.1.keep ⟨ag _,fun _ _ _=>rfl⟩ (fun b hb _=>by omega)) (hrd.2.keep ⟨ag _,fun _ _ _=>rfl⟩ (fun b hb _=>by omega));simp only[World.setCells,aA]at hset hfin;exact bodyPost_ret (v:= .agg #[.slice A n c, .slice B m d]) (by simp[results,results60,go_sem,hset]) rfl hfin
  obtain⟨Q,cq,hb,ht,hn⟩:=HPr.out;have hbc:=hb.cell;obtain⟨N,hN⟩: ∃N,r.length=N:=⟨_,rfl⟩
  rw[hN]at hbc;have hN0:0<N:=by rw[<-hN];exact List.length_pos_iff.2 hr0
  have hN0i:(0:Int)<N:=by omega
  have hrt:r.length=r.tail.length+1:=by simp only[List.length_tail];omega
  have HS2:=G (show cR F0 ⟨[],[]⟩ l=if cI lz r then(i_ r.tail).then fun v r=>cR k ⟨vs++[v],fs.map (·.c)⟩ r
   else(bT j6 r).then fun _ r=>(jH k r).then fun c r=>cR k ⟨vs,fs.map (·.c)++[c]⟩ r from by rw[<-HRes.out,HSt.out,if_neg hr0])
  clear hb ht hn HSt HRes
  cases hv:cI lz r with
  |true=>
   have HPNr:=HPr;go_wp2_with (first|(go_at_call 98;refine(cf g _ en lz _ HPr.out).mono ?_;rw[hv];simp only[if_true];rintro e w1 ⟨rfl,h1,h2⟩;have HP1:=G h1;have HG1:=G (ak HGr.out h2);have Hb1:=G (Hbr.out.grown h2 (fun e=>hbg (O e)));have HB1:=G (HBr.out.grown h2 (fun e=>hrg (O e)));have HS1:=G (HSr.out.grown h2 (fun e=>hsg (O e)));have HO1:=G (HOr.out.grown h2 (fun k e=>by injection e with e;omega));clear hpc hsc hsf hbc;have hpc:=Hb1.out.cell;have hsc:=HS1.out.cell;have hsf:=HS1.out.frozen;clear h1 h2 HPr))
   cases hx:i_ r.tail with
   |error p=>
    obtain⟨q,er⟩:=p;have HR:=G (show cR F0 ⟨[],[]⟩ l= .error (q,er)from by rw[HS2.out,if_pos hv,hx];rfl);refine bO 5 4 [(3,fun v=>v= .agg #[.string ⟨#[]⟩, .int .i64 0],fun _ _=>False),(4,fun v=> ∃gb,v= .slice (some ⟨gb,0,none⟩) 1 1,fun _ _=>True)] 3 (some g) mixed (by kernel_rfl) ⟨fun _ _ _ h _=>h,fun _ _ _ h _=>h,trivial⟩ ⟨.inl rfl, .inr fun _ _ _ h _=>h,trivial⟩ ?_;repeat (refine sx ?_ (fun w1 hU=> ?_) ?_;rotate_left;(focus have f1:=(HS1.out.grown (aE hU) (fun e=>hsg (O e))).cell;have f2:=(Hb1.out.grown (aE hU) (fun e=>hbg (O e))).cell;clear hU;go_simp<;>with_reducible rfl);simp only[aY,aX,aW,aV,aU])
    refine bG _ _ (by rfl) rfl ⟨_,rfl⟩ rfl (fun w6 hT hp K hK=> ?_) ?_
    ·clear hp;have hc:=sT _ en w6 g (HP1.out.ext hT.un);have HT6:=G hT.un;clear hT;go_simp;refine hc.mono ?_;intro e w7 hh;rw[hx]at hh;obtain⟨hG,rfl⟩:=hh;unfold aZ;intro a' hd;exact⟨hd,kq HR.out (ak HG1.out (ak (HT6.out.grownBy _) hG))⟩
    rintro _ rfl;simp only[aY,aX,aW,aV,aU];refine bZ _ _ (by rfl) rfl ⟨_,0,rfl⟩ (by simp) (fun w6 hU hp K hK=> ?_) ?_
    ·clear hp;go_simp;exact hK _ _ (I w6 _) ⟨_,rfl⟩ trivial
    rintro _ ⟨gb,rfl⟩;simp only[aY,aX,aW,aV,aU];intro w6 hw6 hp;exact(hp _ (.tail _ (.head _))).elim
   |ok p=>
    obtain⟨x,q⟩:=p;have hlx:=zc hx;have HRN:=G (show cR k ⟨vs++[x],fs.map (·.c)⟩ q=cR F0 ⟨[],[]⟩ l from by rw[HS2.out,if_pos hv,hx];rfl);have hg1:g<w1.heap.size:=HP1.out.lt;have hz1:w.heap.size+2<w1.heap.size:=HS1.out.lt;refine bO 5 4 [(3,fun v=>v= .agg #[.string (ah x.nm), .int .i64 x.sz],fun v wx=>PA wx g q en),(4,fun v=> ∃gb,v= .slice (some ⟨gb,0,none⟩) 1 1,fun v wx=> ∀gb,v= .slice (some ⟨gb,0,none⟩) 1 1->w1.heap.size<=gb/\aQ wx gb 85 #[.string (ah x.nm), .int .i64 x.sz])] 3 (some g) mixed (by kernel_rfl)
     ⟨fun _ _ _ h hx=>h.ext hx,fun _ _ _ h hx gb e=>⟨(h gb e).1,(h gb e).2.ext hx⟩,trivial⟩ ⟨.inl rfl, .inr fun _ _ _ h hx gb e=>⟨(h gb e).1,(h gb e).2.grown hx (fun e'=>by have:=(h gb e).1;injection e' with e';omega)⟩,trivial⟩ ?_
    repeat (refine sx ?_ (fun w1 hU=> ?_) ?_;rotate_left;(focus have f1:=(HS1.out.grown (aE hU) (fun e=>hsg (O e))).cell;have f2:=(Hb1.out.grown (aE hU) (fun e=>hbg (O e))).cell;clear hU;go_simp<;>with_reducible rfl);simp only[aY,aX,aW,aV,aU])
    refine bG _ _ (by rfl) rfl ⟨_,rfl⟩ rfl (fun w6 hT hp K hK=> ?_) ?_
    ·clear hp;have hc:=sT _ en w6 g (HP1.out.ext hT.un);clear hT;go_simp;refine hc.mono ?_;intro e w7 hh;rw[hx]at hh;obtain⟨hG,rfl,hPA⟩:=hh;exact hK _ _ hG rfl hPA
    rintro _ rfl;simp only[aY,aX,aW,aV,aU];refine bZ _ _ (by rfl) rfl ⟨_,0,rfl⟩ (by simp) (fun w6 hU hp K hK=> ?_) ?_
    ·have hz6:=(aE hU).size;clear hp hU;go_simp;exact hK _ _ (I w6 _) ⟨_,rfl⟩ (fun gb e=>by injection e with e;injection e with e;injection e with e;subst e;exact⟨hz6,am w6 _ _⟩)
    rintro _ ⟨gb,rfl⟩;simp only[aY,aX,aW,aV,aU];intro w8 hw8 hp;obtain⟨hgb,hB3⟩:=hp _ (.head _) gb rfl;have HP8:=G (show PA w8 g q en from hp _ (.tail _ (.head _)));clear hp;simp only[aa,an];have hw8:=aE hw8;have HG8:=G (ak HG1.out hw8);have Hb8:=G (Hb1.out.grown hw8 (fun e=>hbg (O e)));have HB8:=G (HB1.out.grown hw8 (fun e=>hrg (O e)));have HS8:=G (HS1.out.grown hw8 (fun e=>hsg (O e)));have HO8:=G (HO1.out.grown hw8 (fun k e=>by injection e with e;omega));have hrow:=World.ownsRow.lt HO8.out.1;have hrw:=fun k hk=>(hrow k hk).1;have hz8:=HG8.out.size;have hz88:=hw8.size;clear hw8 hpc hsc hsf;refine eX DI rfl _ _ rfl (w.heap.size+3) _ n (jF vs) rfl (by have:=HO8.out.1;rw[hn0]at this;exact this) gb (An x) rfl hB3 rfl (by intro u hu;simp only[An,fB,ej,or_false]at hu;rcases hu with rfl|rfl<;>rfl) (by omega) (by decide) (by omega) ?_;intro A' cap' w9 hq1 hq2 hq3;have hO9:=HO8.out.snocV hn0 hq1 hq2 hq3;have hS9:=HS8.out.grown hq2 (fun e=>by have:=hrw _ e.symm;omega);have hb9:=Hb8.out.grown hq2 (fun e=>by have:=hrw _ e.symm;omega);have hB9:=HB8.out.grown hq2 (fun e=>by have:=hrw _ e.symm;omega);have hP9:=HP8.out.grown hq2 (fun k e=>by have:=hrw k e;omega);have hG9:w.grownBy w9 (some g):=⟨hq2.os.trans HG8.out.os,hq2.tape.trans HG8.out.tape,hq2.output.trans HG8.out.output,aT HG8.out.size hq2.size,fun i hi hne=>(hq2.block i (az hi HG8.out.size) (fun e=>by have:=hrw i e.symm;omega)).trans (HG8.out.block i hi hne)⟩
    have hsc:=hS9.cell;have hsf:=hS9.frozen;have hs:=et w9 (w.heap.size+2) 0 (.slice (some ⟨A',0,none⟩) (n+1) cap');have hs9:=hS9.set 0 (.slice (some ⟨A',0,none⟩) (n+1) cap');simp only[a8,bL]at hs9;have HON:=G (hO9.grown hs (fun k e=>by injection e with e;omega));have HPN:=G (hP9.grown hs (fun k e=>by injection e with e;omega));have HbN:=G (hb9.grown hs (fun e=>by injection e with e;omega));have HBN:=G (hB9.grown hs (fun e=>by injection e with e;omega));have HGN:=G (dq hG9 hs (by omega));have HSN:=G hs9;clear hq1 hq2 hq3 hs hs9 hO9 hS9 hb9 hB9 hP9 hG9 hrow hrw hB3;go_wp2_with fail;go_roundw
    case rel=>exact⟨k,vs++[x],fs,q,some ⟨A',0,none⟩,n+1,cap',B,m,d,by omega,by omega,by simp[hn0],hm,by omega,HRN,HPN,HbN,HBN,HSN,HON,HGN⟩
    case measure=>rw[HPNr.out.tokN,HPN.out.tokN];omega
  |false=>
   have HS3:=G (show cR F0 ⟨[],[]⟩ l=(bT j6 r).then fun _ r=>(jH k r).then fun c r=>cR k ⟨vs,fs.map (·.c)++[c]⟩ r from by rw[HS2.out,if_neg (by rw[hv];simp)]);clear HS2
   cases hfu:cI j6 r with
   |false=>
    have HR:=G (show cR F0 ⟨[],[]⟩ l= .error (r,3)from by rw[HS3.out,em hfu];rfl);go_wp2_with (first|(go_at_call 98;refine(cf g _ en lz _ HPr.out).mono ?_;rw[hv];simp only[aK,if_false];rintro e w1 ⟨rfl,h1,h2⟩;have HP1:=G h1;have HG1:=G (ak HGr.out h2);have Hb1:=G (Hbr.out.grown h2 (fun e=>hbg (O e)));have HB1:=G (HBr.out.grown h2 (fun e=>hrg (O e)));have HS1:=G (HSr.out.grown h2 (fun e=>hsg (O e)));have HO1:=G (HOr.out.grown h2 (fun k e=>by injection e with e;omega));clear hpc hsc hsf hbc;have hpc:=Hb1.out.cell;have hsc:=HS1.out.cell;have hsf:=HS1.out.frozen;clear h1 h2 HPr)|(go_at_call 100;refine(fS g _ en j6 _ HP1.out hfu).mono ?_;unfold aZ;rintro e w2 ⟨rfl,hG⟩;have HGE:=G (ak HG1.out hG);clear hG));exact⟨rfl,kq HR.out HGE.out⟩
   |true=>
    have HS4:=G (show cR F0 ⟨[],[]⟩ l=(jH k r.tail).then fun c r=>cR k ⟨vs,fs.map (·.c)++[c]⟩ r from by rw[HS3.out,co hfu];rfl);clear HS3;by_cases hk:(cg r.tail).k=1
    rotate_left
    ·have HR:=G (show cR F0 ⟨[],[]⟩ l= .error (r.tail,3)from by rw[HS4.out];unfold jH;rw[j8 hk];rfl);go_wp2_with (first|(go_at_call 98;refine(cf g _ en lz _ HPr.out).mono ?_;rw[hv];simp only[aK,if_false];rintro e w1 ⟨rfl,h1,h2⟩;have HP1:=G h1;have HG1:=G (ak HGr.out h2);have Hb1:=G (Hbr.out.grown h2 (fun e=>hbg (O e)));have HB1:=G (HBr.out.grown h2 (fun e=>hrg (O e)));have HS1:=G (HSr.out.grown h2 (fun e=>hsg (O e)));have HO1:=G (HOr.out.grown h2 (fun k e=>by injection e with e;omega));clear hpc hsc hsf hbc;have hpc:=Hb1.out.cell;have hsc:=HS1.out.cell;have hsf:=HS1.out.frozen;clear h1 h2 HPr)|(go_at_call 100;refine(d7 g _ en j6 _ HP1.out hfu).mono ?_;rintro e w2 ⟨rfl,h1,h2⟩;have HP2:=G h1;have HG2:=G (ak HG1.out h2);have Hb2:=G (Hb1.out.grown h2 (fun e=>hbg (O e)));have HB2:=G (HB1.out.grown h2 (fun e=>hrg (O e)));have HS2:=G (HS1.out.grown h2 (fun e=>hsg (O e)));have HO2:=G (HO1.out.grown h2 (fun k e=>by injection e with e;omega));clear hpc hsc hsf;have hpc:=Hb2.out.cell;have hsc:=HS2.out.cell;have hsf:=HS2.out.frozen;clear h1 h2 HP1)|(go_at_call 101;refine(nM g _ en _ HP2.out hk).mono ?_;unfold aZ;rintro e w3 ⟨rfl,hG⟩;have HGE:=G (ak HG2.out hG);clear hG));exact⟨rfl,kq HR.out HGE.out⟩
    have hkt:=gK (l:=r.tail) (by rw[hk];decide)
    cases hlp:cI lY r.tail.tail with
    |false=>
     have HR:=G (show cR F0 ⟨[],[]⟩ l= .error (r.tail.tail,3)from by rw[HS4.out];unfold jH;rw[bH hk,then_ok,em hlp];rfl);go_wp2_with (first|(go_at_call 98;refine(cf g _ en lz _ HPr.out).mono ?_;rw[hv];simp only[aK,if_false];rintro e w1 ⟨rfl,h1,h2⟩;have HP1:=G h1;have HG1:=G (ak HGr.out h2);have Hb1:=G (Hbr.out.grown h2 (fun e=>hbg (O e)));have HB1:=G (HBr.out.grown h2 (fun e=>hrg (O e)));have HS1:=G (HSr.out.grown h2 (fun e=>hsg (O e)));have HO1:=G (HOr.out.grown h2 (fun k e=>by injection e with e;omega));clear hpc hsc hsf hbc;have hpc:=Hb1.out.cell;have hsc:=HS1.out.cell;have hsf:=HS1.out.frozen;clear h1 h2 HPr)|(go_at_call 100;refine(d7 g _ en j6 _ HP1.out hfu).mono ?_;rintro e w2 ⟨rfl,h1,h2⟩;have HP2:=G h1;have HG2:=G (ak HG1.out h2);have Hb2:=G (Hb1.out.grown h2 (fun e=>hbg (O e)));have HB2:=G (HB1.out.grown h2 (fun e=>hrg (O e)));have HS2:=G (HS1.out.grown h2 (fun e=>hsg (O e)));have HO2:=G (HO1.out.grown h2 (fun k e=>by injection e with e;omega));clear hpc hsc hsf;have hpc:=Hb2.out.cell;have hsc:=HS2.out.cell;have hsf:=HS2.out.frozen;clear h1 h2 HP1)|(go_at_call 101;refine(io g _ en _ HP2.out hk).mono ?_;rintro e w3 ⟨rfl,h1,h2⟩;have HG3:=G (ak HG2.out h2);have Hb3:=G (Hb2.out.grown h2 (fun e=>hbg (O e)));have HB3:=G (HB2.out.grown h2 (fun e=>hrg (O e)));have HS3:=G (HS2.out.grown h2 (fun e=>hsg (O e)));have HO3:=G (HO2.out.grown h2 (fun k e=>by injection e with e;omega));have hE:=I w3 (.cells #[.string (ah (cg r.tail).t), .slice none 0 0, .slice none 0 0] 59);have HQ4:=G (hE.grownBy (some g));have HF4:=G (am w3 59 #[.string (ah (cg r.tail).t), .slice none 0 0, .slice none 0 0]);have HP4:=G (h1.ext hE);have HG4:=G (ak HG3.out (hE.grownBy (some g)));have hz3:=HS3.out.lt;have hfg:w3.heap.size≠g:=(by omega);have hgf:g≠w3.heap.size:=(by omega);clear hpc hsc hsf;have hpc:=(Hb3.out.ext hE).cell;clear h1 h2 hE HP2)|(go_at_call 100;refine(fS g _ en lY _ HP4.out hlp).mono ?_;unfold aZ;rintro e w5 ⟨rfl,hG⟩;have HGE:=G (ak HG4.out hG);clear hG));exact⟨rfl,kq HR.out HGE.out⟩
    |true=>
     have hlt:=bq hlp;have hfn:r.tail.tail.tail.length+1<=k:=by omega
     cases hn:eY k r.tail.tail.tail with
     |error p=>
      obtain⟨q,er⟩:=p;have HR:=G (show cR F0 ⟨[],[]⟩ l= .error (q,er)from by rw[HS4.out];unfold jH;rw[bH hk,then_ok,co hlp,then_ok,hn];rfl);go_wp2_with (first|(go_at_call 98;refine(cf g _ en lz _ HPr.out).mono ?_;rw[hv];simp only[aK,if_false];rintro e w1 ⟨rfl,h1,h2⟩;have HP1:=G h1;have HG1:=G (ak HGr.out h2);have Hb1:=G (Hbr.out.grown h2 (fun e=>hbg (O e)));have HB1:=G (HBr.out.grown h2 (fun e=>hrg (O e)));have HS1:=G (HSr.out.grown h2 (fun e=>hsg (O e)));have HO1:=G (HOr.out.grown h2 (fun k e=>by injection e with e;omega));clear hpc hsc hsf hbc;have hpc:=Hb1.out.cell;have hsc:=HS1.out.cell;have hsf:=HS1.out.frozen;clear h1 h2 HPr)|(go_at_call 100;refine(d7 g _ en j6 _ HP1.out hfu).mono ?_;rintro e w2 ⟨rfl,h1,h2⟩;have HP2:=G h1;have HG2:=G (ak HG1.out h2);have Hb2:=G (Hb1.out.grown h2 (fun e=>hbg (O e)));have HB2:=G (HB1.out.grown h2 (fun e=>hrg (O e)));have HS2:=G (HS1.out.grown h2 (fun e=>hsg (O e)));have HO2:=G (HO1.out.grown h2 (fun k e=>by injection e with e;omega));clear hpc hsc hsf;have hpc:=Hb2.out.cell;have hsc:=HS2.out.cell;have hsf:=HS2.out.frozen;clear h1 h2 HP1)|(go_at_call 101;refine(io g _ en _ HP2.out hk).mono ?_;rintro e w3 ⟨rfl,h1,h2⟩;have HG3:=G (ak HG2.out h2);have Hb3:=G (Hb2.out.grown h2 (fun e=>hbg (O e)));have HB3:=G (HB2.out.grown h2 (fun e=>hrg (O e)));have HS3:=G (HS2.out.grown h2 (fun e=>hsg (O e)));have HO3:=G (HO2.out.grown h2 (fun k e=>by injection e with e;omega));have hE:=I w3 (.cells #[.string (ah (cg r.tail).t), .slice none 0 0, .slice none 0 0] 59);have HQ4:=G (hE.grownBy (some g));have HF4:=G (am w3 59 #[.string (ah (cg r.tail).t), .slice none 0 0, .slice none 0 0]);have HP4:=G (h1.ext hE);have HG4:=G (ak HG3.out (hE.grownBy (some g)));have hz3:=HS3.out.lt;have hfg:w3.heap.size≠g:=(by omega);have hgf:g≠w3.heap.size:=(by omega);clear hpc hsc hsf;have hpc:=(Hb3.out.ext hE).cell;clear h1 h2 hE HP2)|(go_at_call 100;refine(d7 g _ en lY _ HP4.out hlp).mono ?_;rintro e w5 ⟨rfl,h1,h2⟩;have HP5:=G h1;have HQ5:=G (ak HQ4.out h2);have HG5:=G (ak HG4.out h2);have HF5:=G (HF4.out.grown h2 (fun e=>hfg (O e)));have Hb5:=G (Hb3.out.grown HQ5.out (fun e=>hbg (O e)));clear hpc;have hpc:=Hb5.out.cell;have HL:=G (kV k w5.heap.size g w3.heap.size w.heap.size (cg r.tail).t r.tail.tail.tail en w5 HP5.out Hb5.out HF5.out (ag _) (by omega) (by omega) (by omega) HF5.out.lt Hb5.out.lt hfn (by omega));clear h1 h2 HP4)|(go_at_call 102;refine HL.out.mono ?_;intro e w6 hh;rw[hn]at hh;obtain⟨hF,rfl⟩:=hh;unfold aZ;have hz5:=HF5.out.lt;have HGE:=G (jg HG5.out hF (by omega) (by omega));clear hF));exact⟨rfl,kq HR.out HGE.out⟩
     |ok p=>
      obtain⟨ps,q⟩:=p;have hnl:=xc hn;have hfb:4*q.length+1<=k:=by omega
      cases hb:db k q with
      |error p=>
       obtain⟨q1,er⟩:=p;have HR:=G (show cR F0 ⟨[],[]⟩ l= .error (q1,er)from by rw[HS4.out];unfold jH;rw[bH hk,then_ok,co hlp,then_ok,hn,then_ok,hb];rfl);go_wp2_with (first|(go_at_call 98;refine(cf g _ en lz _ HPr.out).mono ?_;rw[hv];simp only[aK,if_false];rintro e w1 ⟨rfl,h1,h2⟩;have HP1:=G h1;have HG1:=G (ak HGr.out h2);have Hb1:=G (Hbr.out.grown h2 (fun e=>hbg (O e)));have HB1:=G (HBr.out.grown h2 (fun e=>hrg (O e)));have HS1:=G (HSr.out.grown h2 (fun e=>hsg (O e)));have HO1:=G (HOr.out.grown h2 (fun k e=>by injection e with e;omega));clear hpc hsc hsf hbc;have hpc:=Hb1.out.cell;have hsc:=HS1.out.cell;have hsf:=HS1.out.frozen;clear h1 h2 HPr)|(go_at_call 100;refine(d7 g _ en j6 _ HP1.out hfu).mono ?_;rintro e w2 ⟨rfl,h1,h2⟩;have HP2:=G h1;have HG2:=G (ak HG1.out h2);have Hb2:=G (Hb1.out.grown h2 (fun e=>hbg (O e)));have HB2:=G (HB1.out.grown h2 (fun e=>hrg (O e)));have HS2:=G (HS1.out.grown h2 (fun e=>hsg (O e)));have HO2:=G (HO1.out.grown h2 (fun k e=>by injection e with e;omega));clear hpc hsc hsf;have hpc:=Hb2.out.cell;have hsc:=HS2.out.cell;have hsf:=HS2.out.frozen;clear h1 h2 HP1)|(go_at_call 101;refine(io g _ en _ HP2.out hk).mono ?_;rintro e w3 ⟨rfl,h1,h2⟩;have HG3:=G (ak HG2.out h2);have Hb3:=G (Hb2.out.grown h2 (fun e=>hbg (O e)));have HB3:=G (HB2.out.grown h2 (fun e=>hrg (O e)));have HS3:=G (HS2.out.grown h2 (fun e=>hsg (O e)));have HO3:=G (HO2.out.grown h2 (fun k e=>by injection e with e;omega));have hE:=I w3 (.cells #[.string (ah (cg r.tail).t), .slice none 0 0, .slice none 0 0] 59);have HQ4:=G (hE.grownBy (some g));have HF4:=G (am w3 59 #[.string (ah (cg r.tail).t), .slice none 0 0, .slice none 0 0]);have HP4:=G (h1.ext hE);have HG4:=G (ak HG3.out (hE.grownBy (some g)));have hz3:=HS3.out.lt;have hfg:w3.heap.size≠g:=(by omega);have hgf:g≠w3.heap.size:=(by omega);clear hpc hsc hsf;have hpc:=(Hb3.out.ext hE).cell;clear h1 h2 hE HP2)|(go_at_call 100;refine(d7 g _ en lY _ HP4.out hlp).mono ?_;rintro e w5 ⟨rfl,h1,h2⟩;have HP5:=G h1;have HQ5:=G (ak HQ4.out h2);have HG5:=G (ak HG4.out h2);have HF5:=G (HF4.out.grown h2 (fun e=>hfg (O e)));have Hb5:=G (Hb3.out.grown HQ5.out (fun e=>hbg (O e)));clear hpc;have hpc:=Hb5.out.cell;have HL:=G (kV k w5.heap.size g w3.heap.size w.heap.size (cg r.tail).t r.tail.tail.tail en w5 HP5.out Hb5.out HF5.out (ag _) (by omega) (by omega) (by omega) HF5.out.lt Hb5.out.lt hfn (by omega));clear h1 h2 HP4)|(go_at_call 102;refine HL.out.mono ?_;intro e w6 hh;rw[hn]at hh;obtain⟨hF,rfl,hPA,C,i,j,hX,hR⟩:=hh;have hz5:=HF5.out.lt;have HQ6:=G (jg HQ5.out hF (ag _) (by omega));have HG6:=G (jg HG5.out hF (by omega) (by omega));have HF6:=G hX;have HP6:=G hPA;have HN6:=G (hR.mono (Q:=fun b=>w3.heap.size<b) (fun b hb _=>by omega));have Hb6:=G (Hb3.out.grown HQ6.out (fun e=>hbg (O e)));clear hpc;have hpc:=Hb6.out.cell;clear hF hPA hX hR HP5 HL)|(go_at_call 104;refine(o6 hkF _ en _ g HP6.out hfb).mono ?_;intro e w7 hh;rw[hb]at hh;obtain⟨hG,rfl⟩:=hh;unfold aZ;have HGE:=G (ak HG6.out hG);clear hG));exact⟨rfl,kq HR.out HGE.out⟩
      |ok p=>
       obtain⟨bd,q1⟩:=p;have hlb:=(mW k).1 _ _ _ hb;have HRN:=G (show cR k ⟨vs,fs.map (·.c)++[⟨(cg r.tail).t,ps,bd⟩]⟩ q1=cR F0 ⟨[],[]⟩ l from by rw[HS4.out];unfold jH;rw[bH hk,then_ok,co hlp,then_ok,hn,then_ok,hb];rfl);have HPNr:=HPr;go_wp2_with (first|(go_at_call 98;refine(cf g _ en lz _ HPr.out).mono ?_;rw[hv];simp only[aK,if_false];rintro e w1 ⟨rfl,h1,h2⟩;have HP1:=G h1;have HG1:=G (ak HGr.out h2);have Hb1:=G (Hbr.out.grown h2 (fun e=>hbg (O e)));have HB1:=G (HBr.out.grown h2 (fun e=>hrg (O e)));have HS1:=G (HSr.out.grown h2 (fun e=>hsg (O e)));have HO1:=G (HOr.out.grown h2 (fun k e=>by injection e with e;omega));clear hpc hsc hsf hbc;have hpc:=Hb1.out.cell;have hsc:=HS1.out.cell;have hsf:=HS1.out.frozen;clear h1 h2 HPr)|(go_at_call 100;refine(d7 g _ en j6 _ HP1.out hfu).mono ?_;rintro e w2 ⟨rfl,h1,h2⟩;have HP2:=G h1;have HG2:=G (ak HG1.out h2);have Hb2:=G (Hb1.out.grown h2 (fun e=>hbg (O e)));have HB2:=G (HB1.out.grown h2 (fun e=>hrg (O e)));have HS2:=G (HS1.out.grown h2 (fun e=>hsg (O e)));have HO2:=G (HO1.out.grown h2 (fun k e=>by injection e with e;omega));clear hpc hsc hsf;have hpc:=Hb2.out.cell;have hsc:=HS2.out.cell;have hsf:=HS2.out.frozen;clear h1 h2 HP1)|(go_at_call 101;refine(io g _ en _ HP2.out hk).mono ?_;rintro e w3 ⟨rfl,h1,h2⟩;have HG3:=G (ak HG2.out h2);have Hb3:=G (Hb2.out.grown h2 (fun e=>hbg (O e)));have HB3:=G (HB2.out.grown h2 (fun e=>hrg (O e)));have HS3:=G (HS2.out.grown h2 (fun e=>hsg (O e)));have HO3:=G (HO2.out.grown h2 (fun k e=>by injection e with e;omega));have hE:=I w3 (.cells #[.string (ah (cg r.tail).t), .slice none 0 0, .slice none 0 0] 59);have HQ4:=G (hE.grownBy (some g));have HF4:=G (am w3 59 #[.string (ah (cg r.tail).t), .slice none 0 0, .slice none 0 0]);have HP4:=G (h1.ext hE);have HG4:=G (ak HG3.out (hE.grownBy (some g)));have hz3:=HS3.out.lt;have hfg:w3.heap.size≠g:=(by omega);have hgf:g≠w3.heap.size:=(by omega);clear hpc hsc hsf;have hpc:=(Hb3.out.ext hE).cell;clear h1 h2 hE HP2)|(go_at_call 100;refine(d7 g _ en lY _ HP4.out hlp).mono ?_;rintro e w5 ⟨rfl,h1,h2⟩;have HP5:=G h1;have HQ5:=G (ak HQ4.out h2);have HG5:=G (ak HG4.out h2);have HF5:=G (HF4.out.grown h2 (fun e=>hfg (O e)));have Hb5:=G (Hb3.out.grown HQ5.out (fun e=>hbg (O e)));clear hpc;have hpc:=Hb5.out.cell;have HL:=G (kV k w5.heap.size g w3.heap.size w.heap.size (cg r.tail).t r.tail.tail.tail en w5 HP5.out Hb5.out HF5.out (ag _) (by omega) (by omega) (by omega) HF5.out.lt Hb5.out.lt hfn (by omega));clear h1 h2 HP4)|(go_at_call 102;refine HL.out.mono ?_;intro e w6 hh;rw[hn]at hh;obtain⟨hF,rfl,hPA,C,i,j,hX,hR⟩:=hh;have hz5:=HF5.out.lt;have HQ6:=G (jg HQ5.out hF (ag _) (by omega));have HG6:=G (jg HG5.out hF (by omega) (by omega));have HF6:=G hX;have HP6:=G hPA;have HN6:=G (hR.mono (Q:=fun b=>w3.heap.size<b) (fun b hb _=>by omega));have Hb6:=G (Hb3.out.grown HQ6.out (fun e=>hbg (O e)));clear hpc;have hpc:=Hb6.out.cell;clear hF hPA hX hR HP5 HL)|(go_at_call 104;refine(o6 hkF _ en _ g HP6.out hfb).mono ?_;intro e w7 hh;rw[hb]at hh;obtain⟨hG,D,i2,j2,rfl,hR,hPA⟩:=hh;have hz6:=HF6.out.lt;have hz7:=hG.size;have HQ7:=G (ak HQ6.out hG);have HG7:=G (ak HG6.out hG);have HF7:=G (HF6.out.grown hG (fun e=>hfg (O e)));have hs:=et w7 w3.heap.size 2 (.slice D i2 j2);have HQ8:=G (dq HQ7.out hs (ag _));have HG8:=G (dq HG7.out hs (by omega));have hf8:=HF7.out.set 2 (.slice D i2 j2);simp only[a8,bL,bV]at hf8;have HF8:=G hf8;have HV8:=G (FV.ok.keep (p:=⟨⟨(cg r.tail).t,ps,bd⟩, .slice C i j, .slice D i2 j2⟩) (P:=fun b=>w3.heap.size<b) (w:=w7) ⟨HN6.out.keep (.of_grown hG fun b hb e=>by injection e with e;omega) (fun _ hb _=>hb),hR.mono (fun b hb _=>by omega)⟩ (.of_grown hs fun b hb e=>by injection e with e;omega) (fun _ hb _=>hb));have HP8:=G (hPA.grown hs (fun k e=>by injection e with e;omega));have HO8:=G (HO3.out.grown HQ8.out (fun k e=>by injection e with e;omega));have HS8:=G (HS3.out.grown HQ8.out (fun e=>hsg (O e)));have hfc7:=HF7.out.cell;have hff7:=HF7.out.frozen;have hsc:=HS8.out.cell;have hsf:=HS8.out.frozen;clear hG hs hf8 hR hPA HP6)|(at_builtin;have hE:=I (w7.setCell ⟨w3.heap.size,2,none⟩ (.slice D i2 j2)) (.cells #[.string (ah (cg r.tail).t), .slice C i j, .slice D i2 j2] 59);have hrow:=World.ownsRow.lt HO8.out.2.1;have hrow1:=World.ownsRow.lt HO8.out.1;have hrw:=fun k hk=>(hrow k hk).1;have hO9:=HO8.out.grown (hE.grownBy none) (fun k e=>by cases e);have hlow: ∀k,Value.ownBlock (.slice B m d)=some k->k<w3.heap.size:=(fun k hk=>(World.ownsRow.lt HO3.out.2.1 k hk).2);have hlow1: ∀k,Value.ownBlock (.slice A n c)=some k->k<w3.heap.size:=(fun k hk=>(World.ownsRow.lt HO3.out.1 k hk).2);have hV9:=HV8.out.keep (.of_ext hE) (Q:=fun b=>w.heap.size+3<=b/\some b≠Value.ownBlock (.slice A n c)/\some b≠Value.ownBlock (.slice B m d)) (fun b hb _=>⟨by omega,fun e=>by have:=hlow1 b e.symm;omega,fun e=>by have:=hlow b e.symm;omega⟩);have hN9:=am (w7.setCell ⟨w3.heap.size,2,none⟩ (.slice D i2 j2)) 59 #[.string (ah (cg r.tail).t), .slice C i j, .slice D i2 j2];rw[show(w7.setCell ⟨w3.heap.size,2,none⟩ (.slice D i2 j2)).heap.size=w7.heap.size from(by simp[World.setCell])]at hN9;have hG9:=ak HG8.out (hE.grownBy (some g));have hz9:=hG9.size;refine eX DM rfl _ _ rfl (w.heap.size+3) _ m (jJ fs) rfl (by have:=hO9.2.1;rw[hm]at this;exact this) _ (Ax ⟨⟨(cg r.tail).t,ps,bd⟩, .slice C i j, .slice D i2 j2⟩) rfl hN9 rfl (by intro u hu;simp only[Ax,fB,ej,or_false]at hu;rcases hu with rfl|rfl|rfl<;>rfl) (by omega) (by decide) (by have:=HS8.out.lt;rw[World.size_alloc];omega) ?_;intro A' cap' w9 hq1 hq2 hq3;have HO9:=G (hO9.snocF hV9 hm hq1 hq2 hq3);have hS9:=(HS8.out.ext hE).grown hq2 (fun e=>by have:=hrw _ e.symm;omega);have hb9:=((Hb3.out.grown HQ8.out (fun e=>hbg (O e))).ext hE).grown hq2 (fun e=>by have:=hrw _ e.symm;omega);have hB9:=((HB3.out.grown HQ8.out (fun e=>hrg (O e))).ext hE).grown hq2 (fun e=>by have:=hrw _ e.symm;omega);have hP9:=(HP8.out.ext hE).grown hq2 (fun k e=>by have:=hrw k e;omega);have HG9:=G (show w.grownBy w9 (some g)from⟨hq2.os.trans hG9.os,hq2.tape.trans hG9.tape,hq2.output.trans hG9.output,aT hG9.size hq2.size,fun i hi hne=>(hq2.block i (az hi hG9.size) (fun e=>by have:=hrw i e.symm;omega)).trans (hG9.block i hi hne)⟩);have HS9:=G hS9;have Hb9:=G hb9;have HB9:=G hB9;have HP9:=G hP9;clear hsc hsf;have hsc:=hS9.cell;have hsf:=hS9.frozen;clear hq1 hq2 hq3 hE hrow hrow1 hrw hO9 hlow hlow1 hV9 hN9 hG9 hS9 hb9 hB9 hP9));have hs:=et w9 (w.heap.size+2) 1 (.slice (some ⟨A',0,none⟩) (m+1) cap');have hs9:=HS9.out.set 1 (.slice (some ⟨A',0,none⟩) (m+1) cap');simp only[a8,bL,bV]at hs9;have HON:=G (HO9.out.grown hs (fun k e=>by injection e with e;omega));have HPN:=G (HP9.out.grown hs (fun k e=>by injection e with e;omega));have HbN:=G (Hb9.out.grown hs (fun e=>by injection e with e;omega));have HBN:=G (HB9.out.grown hs (fun e=>by injection e with e;omega));have HGN:=G (dq HG9.out hs (by omega));have HSN:=G hs9;go_roundw
       case rel=>exact⟨k,vs,fs++[⟨⟨(cg r.tail).t,ps,bd⟩, .slice C i j, .slice D i2 j2⟩],q1,A,n,c,some ⟨A',0,none⟩,m+1,cap',by omega,by omega,hn0,by simp[hm],by omega,G (by simpa using HRN.out),HPN,HbN,HBN,HSN,HON,HGN⟩
       case measure=>rw[HPNr.out.tokN,HPN.out.tokN];omega
end
section
open Go.RowKit
section
variable {ts td:TypeId} {w W W':World} {s0 s1 vv fv:Value}
end
end
end Go.Proofs.YtddomeddabfinaaGreatDoor
