/-
  Parts of the proof: VrK.
-/
import Derived.Test.YtelplgkppalmfaaGreatDoorPs00
import Derived.Test.YtelplgkppalmfaaGreatDoorPs40
set_option maxRecDepth 100000
set_option maxHeartbeats 8000000
set_option linter.unusedVariables false
set_option linter.unusedSimpArgs false
namespace Go.Proofs.YtelplgkppalmfaaGreatDoor
open Go.Proofs.Tryz
open Go.RowKit
theorem lT: ∀(m:Nat) (xs:List St),fQ xs<m->m<=1000000001-> ∀(P:Nat->Prop) (w:World) (u:Value),cP w P u xs->Calls prog 47 #[u] w fun e w'=>e= .returned (.bool (lq xs))/\al w w'
 |0,xs,h,_,_,_,_,_=>absurd h (bK _)
 |m+1,xs,h,hm,P,w,u,hu=>by
  have HIH:=G (lT m);have HMW:=G (fun(x:St) (hx:x∈xs)=>show x.wt<=1000000000/\fQ x.body<m/\fQ x.els<m by have:=dC hx;have:=x.wt_eq;omega);have hnl:=eX xs;obtain⟨A,c,rfl,_⟩:=hu.form;obtain⟨n,hn⟩: ∃n,xs.length=n:=⟨_,rfl⟩
  rw[hn]at hu hnl;rw[hn];have HN:=G hn;have HR:=G hu;clear hu hn;go_enter func47,ntmps47;go_wp2_with fail
  go_loopw [3] (fun vi wr=> ∃(j:Nat),vi= .int .i64 (j:Int)/\j<=n/\Hid (lq (xs.take j)=true)/\Hid (al w wr)) (fun vi _=>n-(intOf vi).toNat)
  case atStart=>exact⟨0,rfl,aB _,G (by simp[lq]),G (aG w)⟩
  case round=>
   obtain⟨j,rfl,hj,HJ,HX⟩:=hrel;by_cases hlt:j<n
   ·have hjl:j<xs.length:=by have:=HN.out;omega
    obtain⟨b,o,a,g,z,rfl,hb,hP,h0,h1,h2,h3,h4,hRa,hRb,hRc⟩:=HR.out.at_ j hjl
    have HOK:=G (show ∀y,xs[j]=y->(y.ok=true->lq (xs.take (j+1))=true)/\(y.ok=false->lq xs=false) by
     rintro y rfl;refine⟨fun h=> ?_,fun h=> ?_⟩
     ·have hj0:=HJ.out;rw[fD]at hj0⊢;rw[aF hjl,dV,hj0,fy,h];rfl
     ·rw[fD,iw]
      exact⟨xs[j],aE hjl,by rw[h];simp⟩)
    have hmw:=HMW.out _ (aE hjl);have HO:=G (HOK.out _ rfl);clear HOK;generalize xs[j]=x at*;have e0:=(HX.out.cell b _ hb).trans h0;have e1:=(HX.out.cell b _ hb).trans h1;have e2:=(HX.out.cell b _ hb).trans h2;have e3:=(HX.out.cell b _ hb).trans h3;have e4:=(HX.out.cell b _ hb).trans h4;clear h0 h1 h2 h3 h4;obtain⟨A2,c2,rfl,_⟩:=hRa.form;obtain⟨B2,d2,rfl,_⟩:=hRb.form;obtain⟨C2,i2,rfl,_⟩:=hRc.form;have hw:=x.wt_eq;have hel:=ed x.ex;obtain⟨k,nm,ex,bd,el⟩:=x;simp only[St.k,St.nm,St.ex,St.body,St.els]at*;have hI:jI ex:=fun y hy P2 w2 A3 m2 c3 hR2=>mB y.wt y (ag _) (by have:=ei hy;omega) P2 w2 A3 m2 c3 hR2;have hP1:=fun(W':World) (hW:al wr W')=>HIH.out bd (by omega) (by omega) P W' _ (hRb.keep (.of_ext (HX.out.trans hW)) (fun _ hb _=>hb));have hP2:=fun(W':World) (hW:al wr W')=>HIH.out el (by omega) (by omega) P W' _ (hRc.keep (.of_ext (HX.out.trans hW)) (fun _ hb _=>hb));have hRa':=hRa.keep (.of_ext HX.out) (Q:=P) (fun _ hb _=>hb);have hq:=St.ok_eq k nm ex bd el;generalize hx:St.ok (.mk k nm ex bd el)=R at*;have key: ∀(Q:Exit->Act->World->Prop) (s0 u1 u2:Value) (a:Act),a=lM s0 u1 u2 (.int .i64 (j:Int)) (fun i=>a.tmps.getD i undef)->s0= .slice (some ⟨b,o,none⟩) n c->lL R Q s0 u1 j wr->ll R Q s0 u1 j wr->Code.wp prog (nA ((ec (Tryz.f47.body.getD .skip)).getD 0 .skip)) Q a wr:=by
     intro Q s0 u1 u2 a ha hs0 hNx hRt;by_cases k1:k=1
     ·subst k1;exact zv b o n c u1 u2 j nm A2 B2 C2 _ _ _ c2 d2 i2 wr P ex _ _ R Q s0 hs0 (by omega) (by omega) (by omega) (by omega) hI hRa' e0 e1 e2 e3 e4 hP1 hP2 hq.symm hNx hRt a ha
     by_cases k2:k=2
     ·subst k2;exact zu b o n c u1 u2 j nm A2 B2 C2 _ _ _ c2 d2 i2 wr P ex _ _ R Q s0 hs0 (by omega) (by omega) (by omega) (by omega) hI hRa' e0 e1 e2 e3 e4 hP1 hP2 hq.symm hNx hRt a ha
     by_cases k3:k=3
     ·subst k3;exact zt b o n c u1 u2 j nm A2 B2 C2 _ _ _ c2 d2 i2 wr P ex _ _ R Q s0 hs0 (by omega) (by omega) (by omega) (by omega) hI hRa' e0 e1 e2 e3 e4 hP1 hP2 hq.symm hNx hRt a ha
     by_cases k4:k=4
     ·subst k4;exact zr b o n c u1 u2 j nm A2 B2 C2 _ _ _ c2 d2 i2 wr P ex _ _ R Q s0 hs0 (by omega) (by omega) (by omega) (by omega) hI hRa' e0 e1 e2 e3 e4 hP1 hP2 hq.symm hNx hRt a ha
     by_cases k5:k=5
     ·subst k5;exact zq b o n c u1 u2 j nm A2 B2 C2 _ _ _ c2 d2 i2 wr P ex _ _ R Q s0 hs0 (by omega) (by omega) (by omega) (by omega) hI hRa' e0 e1 e2 e3 e4 hP1 hP2 hq.symm hNx hRt a ha
     by_cases k6:k=6
     ·subst k6;exact zp b o n c u1 u2 j nm A2 B2 C2 _ _ _ c2 d2 i2 wr P ex _ _ R Q s0 hs0 (by omega) (by omega) (by omega) (by omega) hI hRa' e0 e1 e2 e3 e4 hP1 hP2 hq.symm hNx hRt a ha
     by_cases k7:k=7
     ·subst k7;exact zn b o n c u1 u2 j nm A2 B2 C2 _ _ _ c2 d2 i2 wr P ex _ _ R Q s0 hs0 (by omega) (by omega) (by omega) (by omega) hI hRa' e0 e1 e2 e3 e4 hP1 hP2 hq.symm hNx hRt a ha
     ·exact zw k (fun i h1 h2 h3=>by omega) b o n c u1 u2 j nm A2 B2 C2 _ _ _ c2 d2 i2 wr R Q s0 hs0 (by omega) (by omega) e0 e1 e2 e3 e4 (by rw[hq];unfold qs;rw[if_neg k1,if_neg k2,if_neg k3,if_neg k4,if_neg k5,if_neg k6,if_neg k7];rfl) hRt a ha
    refine key _ _ _ _ _ rfl rfl (fun h W' a ha hE=> ?_) (fun h W' a ha hE=> ?_)
    ·generalize (fun i=>a.tmps.getD i undef)=u at ha;generalize a.tmps.getD 2 undef=u2 at ha;subst ha;unfold lM;go_wp2_with fail;go_roundw
     case rel=>exact⟨j+1,by go_num,by omega,G (HO.out.1 h),G (HX.out.trans hE)⟩
     case measure=>simp[intOf];omega
    ·generalize (fun i=>a.tmps.getD i undef)=u at ha;subst ha;unfold lM;go_wp2_with fail;go_ret;exact⟨by rw[HO.out.2 h];rfl,HX.out.trans hE⟩
   ·have hlt': ¬(j:Int)<n:=by omega
    have hjn:j=n:=by omega
    have hQ:xs.take j=xs:=aK (by have:=HN.out;omega);rw[hQ]at HJ;clear hQ;go_wp2_with fail;go_ret;exact⟨by rw[HJ.out];rfl,HX.out⟩
end Go.Proofs.YtelplgkppalmfaaGreatDoor
