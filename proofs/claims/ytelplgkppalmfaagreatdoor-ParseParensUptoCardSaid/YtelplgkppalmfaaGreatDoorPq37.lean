/-
  Parts of the proof: VrK.
-/
import Derived.Test.YtelplgkppalmfaaGreatDoorPq36
set_option maxRecDepth 100000
set_option maxHeartbeats 8000000
set_option linter.unusedVariables false
set_option linter.unusedSimpArgs false
namespace Go.Proofs.YtelplgkppalmfaaGreatDoor
open Go.Proofs.Tryz
open Go.RowKit
theorem rproper_all: ∀(m:Nat) (xs:List St),wtS xs<m->m<=1000000001-> ∀(P:Nat->Prop) (w:World) (u:Value),RdS w P u xs->Calls prog 47 #[u] w fun e w'=>e= .returned (.bool (okS xs))/\Ext w w'
 |0,xs,h,_,_,_,_,_=>absurd h (Nat.not_lt_zero _)
 |m+1,xs,h,hm,P,w,u,hu=>by
  have HIH:=hide (rproper_all m);have HMW:=hide (fun(x:St) (hx:x∈xs)=>show x.wt<=1000000000/\wtS x.body<m/\wtS x.els<m by have:=wtS_mem hx;have:=x.wt_eq;omega);have hnl:=wtS_length xs;obtain⟨A,c,rfl,_⟩:=hu.form;obtain⟨n,hn⟩: ∃n,xs.length=n:=⟨_,rfl⟩
  rw[hn]at hu hnl;rw[hn];have HN:=hide hn;have HR:=hide hu;clear hu hn;go_enter func47,ntmps47;go_wp2_with fail
  go_loopw [3] (fun vi wr=> ∃(j:Nat),vi= .int .i64 (j:Int)/\j<=n/\Hid (okS (xs.take j)=true)/\Hid (Ext w wr)) (fun vi _=>n-(intOf vi).toNat)
  case atStart=>exact⟨0,rfl,Nat.zero_le _,hide (by simp[okS]),hide (Ext.refl w)⟩
  case round=>
   obtain⟨j,rfl,hj,HJ,HX⟩:=hrel;by_cases hlt:j<n
   ·have hjl:j<xs.length:=by have:=HN.out;omega
    obtain⟨b,o,a,g,z,rfl,hb,hP,h0,h1,h2,h3,h4,hRa,hRb,hRc⟩:=HR.out.at_ j hjl
    have HOK:=hide (show ∀y,xs[j]=y->(y.ok=true->okS (xs.take (j+1))=true)/\(y.ok=false->okS xs=false) by
     rintro y rfl;refine⟨fun h=> ?_,fun h=> ?_⟩
     ·have hj0:=HJ.out;rw[okS_all]at hj0⊢;rw[List.take_succ_eq_append_getElem hjl,List.all_append,hj0,List.all_cons,h];rfl
     ·rw[okS_all,List.all_eq_false]
      exact⟨xs[j],List.getElem_mem hjl,by rw[h];simp⟩)
    have hmw:=HMW.out _ (List.getElem_mem hjl);have HO:=hide (HOK.out _ rfl);clear HOK;generalize xs[j]=x at*;have e0:=(HX.out.cell b _ hb).trans h0;have e1:=(HX.out.cell b _ hb).trans h1;have e2:=(HX.out.cell b _ hb).trans h2;have e3:=(HX.out.cell b _ hb).trans h3;have e4:=(HX.out.cell b _ hb).trans h4;clear h0 h1 h2 h3 h4;obtain⟨A2,c2,rfl,_⟩:=hRa.form;obtain⟨B2,d2,rfl,_⟩:=hRb.form;obtain⟨C2,i2,rfl,_⟩:=hRc.form;have hw:=x.wt_eq;have hel:=wtL_length x.ex;obtain⟨k,nm,ex,bd,el⟩:=x;simp only[St.k,St.nm,St.ex,St.body,St.els]at*;have hI:SndE ex:=fun y hy P2 w2 A3 m2 c3 hR2=>rsound_any y.wt y (Nat.le_refl _) (by have:=wtL_mem hy;omega) P2 w2 A3 m2 c3 hR2;have hP1:=fun(W':World) (hW:Ext wr W')=>HIH.out bd (by omega) (by omega) P W' _ (hRb.keep (.of_ext (HX.out.trans hW)) (fun _ hb _=>hb));have hP2:=fun(W':World) (hW:Ext wr W')=>HIH.out el (by omega) (by omega) P W' _ (hRc.keep (.of_ext (HX.out.trans hW)) (fun _ hb _=>hb));have hRa':=hRa.keep (.of_ext HX.out) (Q:=P) (fun _ hb _=>hb);have hq:=St.ok_eq k nm ex bd el;generalize hx:St.ok (.mk k nm ex bd el)=R at*;have key: ∀(Q:Exit->Act->World->Prop) (s0 u1 u2:Value) (a:Act),a=FrB s0 u1 u2 (.int .i64 (j:Int)) (fun i=>a.tmps.getD i undef)->s0= .slice (some ⟨b,o,none⟩) n c->NxtP R Q s0 u1 j wr->RetP R Q s0 u1 j wr->Code.wp prog (lpOf ((loopsOf (Tryz.f47.body.getD .skip)).getD 0 .skip)) Q a wr:=by
     intro Q s0 u1 u2 a ha hs0 hNx hRt;by_cases k1:k=1
     ·subst k1;exact rp_1 b o n c u1 u2 j nm A2 B2 C2 _ _ _ c2 d2 i2 wr P ex _ _ R Q s0 hs0 (by omega) (by omega) (by omega) (by omega) hI hRa' e0 e1 e2 e3 e4 hP1 hP2 hq.symm hNx hRt a ha
     by_cases k2:k=2
     ·subst k2;exact rp_2 b o n c u1 u2 j nm A2 B2 C2 _ _ _ c2 d2 i2 wr P ex _ _ R Q s0 hs0 (by omega) (by omega) (by omega) (by omega) hI hRa' e0 e1 e2 e3 e4 hP1 hP2 hq.symm hNx hRt a ha
     by_cases k3:k=3
     ·subst k3;exact rp_3 b o n c u1 u2 j nm A2 B2 C2 _ _ _ c2 d2 i2 wr P ex _ _ R Q s0 hs0 (by omega) (by omega) (by omega) (by omega) hI hRa' e0 e1 e2 e3 e4 hP1 hP2 hq.symm hNx hRt a ha
     by_cases k4:k=4
     ·subst k4;exact rp_4 b o n c u1 u2 j nm A2 B2 C2 _ _ _ c2 d2 i2 wr P ex _ _ R Q s0 hs0 (by omega) (by omega) (by omega) (by omega) hI hRa' e0 e1 e2 e3 e4 hP1 hP2 hq.symm hNx hRt a ha
     by_cases k5:k=5
     ·subst k5;exact rp_5 b o n c u1 u2 j nm A2 B2 C2 _ _ _ c2 d2 i2 wr P ex _ _ R Q s0 hs0 (by omega) (by omega) (by omega) (by omega) hI hRa' e0 e1 e2 e3 e4 hP1 hP2 hq.symm hNx hRt a ha
     by_cases k6:k=6
     ·subst k6;exact rp_6 b o n c u1 u2 j nm A2 B2 C2 _ _ _ c2 d2 i2 wr P ex _ _ R Q s0 hs0 (by omega) (by omega) (by omega) (by omega) hI hRa' e0 e1 e2 e3 e4 hP1 hP2 hq.symm hNx hRt a ha
     by_cases k7:k=7
     ·subst k7;exact rp_7 b o n c u1 u2 j nm A2 B2 C2 _ _ _ c2 d2 i2 wr P ex _ _ R Q s0 hs0 (by omega) (by omega) (by omega) (by omega) hI hRa' e0 e1 e2 e3 e4 hP1 hP2 hq.symm hNx hRt a ha
     ·exact rp_0 k (fun i h1 h2 h3=>by omega) b o n c u1 u2 j nm A2 B2 C2 _ _ _ c2 d2 i2 wr R Q s0 hs0 (by omega) (by omega) e0 e1 e2 e3 e4 (by rw[hq];unfold hdS;rw[if_neg k1,if_neg k2,if_neg k3,if_neg k4,if_neg k5,if_neg k6,if_neg k7];rfl) hRt a ha
    refine key _ _ _ _ _ rfl rfl (fun h W' a ha hE=> ?_) (fun h W' a ha hE=> ?_)
    ·generalize (fun i=>a.tmps.getD i undef)=u at ha;generalize a.tmps.getD 2 undef=u2 at ha;subst ha;unfold FrB;go_wp2_with fail;go_roundw
     case rel=>exact⟨j+1,by go_num,by omega,hide (HO.out.1 h),hide (HX.out.trans hE)⟩
     case measure=>simp[intOf];omega
    ·generalize (fun i=>a.tmps.getD i undef)=u at ha;subst ha;unfold FrB;go_wp2_with fail;go_ret;exact⟨by rw[HO.out.2 h];rfl,HX.out.trans hE⟩
   ·have hlt': ¬(j:Int)<n:=by omega
    have hjn:j=n:=by omega
    have hQ:xs.take j=xs:=List.take_of_length_le (by have:=HN.out;omega);rw[hQ]at HJ;clear hQ;go_wp2_with fail;go_ret;exact⟨by rw[HJ.out];rfl,HX.out⟩
end Go.Proofs.YtelplgkppalmfaaGreatDoor
