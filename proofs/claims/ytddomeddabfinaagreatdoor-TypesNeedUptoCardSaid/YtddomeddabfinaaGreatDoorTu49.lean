/-
  Parts of the proof: VrI VrW.
-/
import Derived.Test.YtddomeddabfinaaGreatDoorTu00
import Derived.Test.YtddomeddabfinaaGreatDoorTu48
import Derived.Test.YtddomeddabfinaaGreatDoorTu23
import Derived.Test.YtddomeddabfinaaGreatDoorTu15
set_option maxRecDepth 100000
set_option maxHeartbeats 8000000
set_option linter.unusedVariables false
set_option linter.unusedSimpArgs false
set_option linter.unusedSectionVars false
namespace Go.Proofs.YtddomeddabfinaaGreatDoor
open Go.Proofs.Tryz
section
open Go.RowKit
theorem lq {α:Type} (p:α->Bool) {l:List α} {j:Nat} (h:j<l.length):(l.take (j+1)).all p=((l.take j).all p&&p l[j]):=by
 rw[aD h,dQ,eP,ky,cg]
theorem mQ {α:Type} (p:α->Bool) {l:List α} {j:Nat} (h:j<l.length) (hp:p l[j]=false):l.all p=false:=by
 rw[gZ];exact⟨l[j],ai h,by rw[hp];simp⟩
theorem vT (l:List St):decide (dN l<=20)=l.all (fun s=>decide (s.dep<=20)):=by
 induction l with
 |nil=>rfl
 |cons x r ih=>rw[eP,<-ih,dN,<-i'];congr 1;rw[Nat.max_le]
theorem y_ (f:Fc):je f=(bV f.nm&&decide (f.ps.length<=4)&&iM f.body&&decide (dN f.body<=20)&&f.ps.all bV):=by
 unfold je;rw[vT,dX];have:f.body.all (fun s=>decide (s.dep<=20)&&s.ok)=(f.body.all (fun s=>decide (s.dep<=20))&&f.body.all St.ok):=by
  induction f.body with
  |nil=>rfl
  |cons x r ih=>simp only[eP,ih];ac_rfl
 rw[this]
 ac_rfl
theorem y8 {p:Pg} (h:p.vs.all kT=false):fa p=false:=by unfold fa;rw[h];rfl
theorem y9 {p:Pg} (h:p.fs.all je=false):fa p=false:=by unfold fa;rw[h];simp
theorem qJ (p:Pg) (hvn: ∀v,v∈p.vs->v.nm.length<=1073741824) (P:Nat->Prop) (w:World) (A B:Option Addr) (n c m d:Nat) (hfn: ∀f,f∈p.fs->f.nm.length<=1073741824/\(∀y,y∈f.ps->y.length<=1073741824)/\dq f.body<=1000000000) (hsrc:p.vs.all kT=true->p.fs.all je=true->p.vs.length<=20->p.fs.length<=20->(gh p).length<=1000000000) (hV:fH w P (.slice A n c) p.vs) (hF:fO w P (.slice B m d) p.fs):
  Calls prog 39 #[.agg #[.slice A n c, .slice B m d]] w fun e w'=>e= .returned (.bool (fa p))/\au w w':=by
 have HTX:=G (fun(h1:p.vs.all kT=true) (h2:p.fs.all je=true) (h3:p.vs.length<=20) (h4:p.fs.length<=20) (W:World) (hW:au w W)=>sX p (fun f hf=>mz (List.all_eq_true.1 h2 f hf)) (fun v hv=>by have:=List.all_eq_true.1 h1 v hv;unfold kT at this;simp only[ak,decide_eq_true_eq]at this;omega) P W A B n c m d (hV.keep (.of_ext hW) (fun _ hb _=>hb)) (hF.keep (.of_ext hW) (fun _ hb _=>hb)) (hsrc h1 h2 h3 h4));have HSR:=G hsrc;have HPV:=G (fun(h:p.vs.all kT=false)=>y8 h);have HPF:=G (fun(h:p.fs.all je=false)=>y9 h);have HPQ:=G (show fa p=(p.vs.all kT&&p.fs.all je&&decide (p.vs.length<=20)&&decide (p.fs.length<=20)&&decide ((gh p).length<=4000))from rfl);generalize fa p=R at*;generalize gh p=T at*;obtain⟨vs,fs⟩:=p;simp only at*;have HN:=G (rR hV);have HM:=G (rU hF);have hnm:=rQ hV;have hmm:=rT hF;have HV:=G hV;have HF:=G hF;have HVN:=G hvn;have HFN:=G hfn;clear hV hF hvn hfn hsrc;have HE:=G (O w (.cells #[.slice A n c, .slice B m d] 25));have HB:=G (ax w 25 #[.slice A n c, .slice B m d]);go_enter func39,ntmps39;go_wp2_with fail
 go_loopw [3] (fun vi wr=> ∃(j:Nat),vi= .int .i64 (j:Int)/\j<=n/\Hid ((vs.take j).all kT=true)/\Hid (au (w.alloc (.cells #[.slice A n c, .slice B m d] 25)) wr)) (fun vi _=>n-(intOf vi).toNat)
 case atStart=>exact⟨0,rfl,az _,G (by simp),G (aH _)⟩
 case round=>
  obtain⟨j,rfl,hj,HJ,HZ⟩:=hrel;have f1:=(HB.out.ext HZ.out).cell;by_cases hlt:j<n
  ·have hlt':(j:Int)<n:=by omega
   have hjl:j<vs.length:=by have:=HN.out;omega
   obtain⟨bj,oj,rfl,hbj,y0,y1⟩:=uE HV.out j hjl;have e0:=((HE.out.trans HZ.out).cell bj _ hbj).trans y0;have e1:=((HE.out.trans HZ.out).cell bj _ hbj).trans y1;have hbz:bj<wr.heap.size:=aF hbj (HE.out.trans HZ.out).size;have HBad:=G (fun h=>HPV.out (mQ kT hjl h));have HS:=G (lq kT hjl);have hn1:=HVN.out _ (ai hjl);clear y0 y1;generalize vs[j]=v at*;have HI:=G (dT v.nm hn1);have HO:=G (show kT v=(bV v.nm&&decide (0<=v.sz)&&decide (v.sz<=2000))from rfl);obtain⟨nm,sz⟩:=v;simp only at*;generalize bV nm=b at*;have HG:=G (fun(h:kT ⟨nm,sz⟩=true)=>show(vs.take (j+1)).all kT=true by rw[HS.out,HJ.out,h];rfl);clear HS HJ hn1
   cases b with
   |false=>
    have hr:=HBad.out (by rw[HO.out];rfl);clear HBad HO HG;go_wp2_with (go_at_call 77;refine(HI.out _).mono ?_;rintro e w3 ⟨rfl,hE⟩;have HZ3:=G (HZ.out.trans hE);clear hE HI);go_ret;exact⟨by rw[hr];rfl,HE.out.trans HZ3.out⟩
   |true=>
    by_cases h1:sz<0
    ·have hr:=HBad.out (by rw[HO.out,decide_eq_false (by omega)];rfl);clear HBad HO HG;go_wp2_with (go_at_call 77;refine(HI.out _).mono ?_;rintro e w3 ⟨rfl,hE⟩;have HZ3:=G (HZ.out.trans hE);have f3:=(HB.out.ext HZ3.out).cell;have g1:=(hE.cell bj _ hbz).trans e1;clear hE HI f1 e0 e1);go_ret;exact⟨by rw[hr];rfl,HE.out.trans HZ3.out⟩
    ·by_cases h2:2000<sz
     ·have hr:=HBad.out (by rw[HO.out,decide_eq_false (show ¬sz<=2000 by omega)];simp);clear HBad HO HG;go_wp2_with (go_at_call 77;refine(HI.out _).mono ?_;rintro e w3 ⟨rfl,hE⟩;have HZ3:=G (HZ.out.trans hE);have f3:=(HB.out.ext HZ3.out).cell;have g1:=(hE.cell bj _ hbz).trans e1;clear hE HI f1 e0 e1);go_ret;exact⟨by rw[hr];rfl,HE.out.trans HZ3.out⟩
     ·have HJ2:=G (HG.out (by rw[HO.out,decide_eq_true (show 0<=sz by omega),decide_eq_true (show sz<=2000 by omega)];rfl));clear HBad HO HG;go_wp2_with (go_at_call 77;refine(HI.out _).mono ?_;rintro e w3 ⟨rfl,hE⟩;have HZ3:=G (HZ.out.trans hE);have f3:=(HB.out.ext HZ3.out).cell;have g1:=(hE.cell bj _ hbz).trans e1;clear hE HI f1 e0 e1);go_roundw
      case rel=>exact⟨j+1,by go_num,by omega,HJ2,HZ3⟩
      case measure=>simp[intOf];omega
  ·have hlt': ¬(j:Int)<n:=by omega
   have hjn:j=n:=by omega
   have hQ:vs.take j=vs:=aJ (by have:=HN.out;omega);rw[hQ]at HJ;clear hQ HV HVN HPV;go_wp2_with fail;clear f1
   go_loopw [4] (fun vi wq=> ∃(k:Nat),vi= .int .i64 (k:Int)/\k<=m/\Hid ((fs.take k).all je=true)/\Hid (au wr wq)) (fun vi _=>m-(intOf vi).toNat)
   case atStart=>exact⟨0,rfl,az _,G (by simp),G (aH _)⟩
   case round=>
    obtain⟨k,rfl,hk,HK,HQ⟩:=hrel;have f1:=(HB.out.ext (HZ.out.trans HQ.out)).cell;have HG:=G (HE.out.trans (HZ.out.trans HQ.out));by_cases hkt:k<m
    ·have hkt':(k:Int)<m:=by omega
     have hkl:k<fs.length:=by have:=HM.out;omega
     obtain⟨bj,oj,pv,bv,rfl,hbj,y0,y1,y2,hRn,hRs⟩:=uG HF.out k hkl;have e0:=(HG.out.cell bj _ hbj).trans y0;have e1:=(HG.out.cell bj _ hbj).trans y1;have e2:=(HG.out.cell bj _ hbj).trans y2;have HBad:=G (fun h=>HPF.out (mQ je hkl h));have HS:=G (lq je hkl);have hfn:=HFN.out _ (ai hkl);clear y0 y1 y2;generalize fs[k]=f at*;have HO:=G (y_ f);have HGd:=G (fun(h:je f=true)=>show(fs.take (k+1)).all je=true by rw[HS.out,HK.out,h];rfl);clear HS HK;have HI:=G (dT f.nm hfn.1);obtain⟨nm,ps,body⟩:=f;simp only at*;generalize je ⟨nm,ps,body⟩=fo at*;obtain⟨Ap,cp,rfl⟩:=pE hRn;obtain⟨Ab,cb,rfl,_⟩:=hRs.form;have HPr:=G (fun W (hW:au w W)=>lB (dq body+1) body (by omega) (by have:=hfn.2.2;omega) P W _ (hRs.keep (.of_ext hW) (fun _ hb _=>hb)));have HDp:=G (fun W (hW:au w W)=>nF (dq body+1) body (by omega) (by have:=hfn.2.2;omega) P W _ (hRs.keep (.of_ext hW) (fun _ hb _=>hb)));have hdl:=gp body;have hdl2:=hfn.2.2;have HFP:=G hfn.2.1;have hpm:=rS hRn;have HRn:=G hRn;clear hRn hRs hfn;generalize body.length=nb at*;generalize bV nm=b at*;generalize iM body=b2 at*;generalize dN body=dp at*;obtain⟨np,hnp⟩: ∃np,ps.length=np:=⟨_,rfl⟩
     have HNP:=G hnp;rw[hnp]at e1 HRn HO hpm;try simp only[hnp]
     clear hnp;have HB5:=G (ax wr 63 #[.string (ag nm), .slice Ap np cp, .slice Ab nb cb]);have HE5:=G (O wr (.cells #[.string (ag nm), .slice Ap np cp, .slice Ab nb cb] 63))
     cases b with
     |false=>
      have hr:=HBad.out (by rw[HO.out];rfl);clear HBad HO HGd;go_wp2_with (go_at_call 77;refine(HI.out _).mono ?_;rintro e w3 ⟨rfl,hE⟩;have HY:=G hE;have g5:=(HB5.out.ext hE).cell;clear hE HI);go_ret;exact⟨by rw[hr];rfl,HG.out.trans (HE5.out.trans HY.out)⟩
     |true=>
      by_cases h4:(4:Int)<np
      ·have hr:=HBad.out (by rw[HO.out,decide_eq_false (show ¬np<=4 by omega)];rfl);clear HBad HO HGd;go_wp2_with (go_at_call 77;refine(HI.out _).mono ?_;rintro e w3 ⟨rfl,hE⟩;have HY:=G hE;have g5:=(HB5.out.ext hE).cell;clear hE HI);go_ret;exact⟨by rw[hr];rfl,HG.out.trans (HE5.out.trans HY.out)⟩
      ·rw[decide_eq_true (show np<=4 by omega)]at HO
       cases b2 with
       |false=>
        have hr:=HBad.out (by rw[HO.out];rfl);clear HBad HO HGd;go_wp2_with (first|(go_at_call 77;refine(HI.out _).mono ?_;rintro e w3 ⟨rfl,hE⟩;have HY:=G hE;have g5:=(HB5.out.ext hE).cell;clear hE HI)|(go_at_call 78;refine(HPr.out _ (HG.out.trans (HE5.out.trans HY.out))).mono ?_;rintro e w4 ⟨rfl,hE⟩;have HY4:=G (HY.out.trans hE);clear HY;have HY:=HY4;clear HY4;clear g5;have g5:=(HB5.out.ext HY.out).cell;clear hE HPr));go_ret;exact⟨by rw[hr];rfl,HG.out.trans (HE5.out.trans HY.out)⟩
       |true=>
        by_cases h20:(20:Int)<dp
        ·have hr:=HBad.out (by rw[HO.out,decide_eq_false (show ¬dp<=20 by omega)];rfl);clear HBad HO HGd;go_wp2_with (first|(go_at_call 77;refine(HI.out _).mono ?_;rintro e w3 ⟨rfl,hE⟩;have HY:=G hE;have g5:=(HB5.out.ext hE).cell;clear hE HI)|(go_at_call 78;refine(HPr.out _ (HG.out.trans (HE5.out.trans HY.out))).mono ?_;rintro e w4 ⟨rfl,hE⟩;have HY4:=G (HY.out.trans hE);clear HY;have HY:=HY4;clear HY4;clear g5;have g5:=(HB5.out.ext HY.out).cell;clear hE HPr)|(go_at_call 79;refine(HDp.out _ (HG.out.trans (HE5.out.trans HY.out))).mono ?_;rintro e w5 ⟨rfl,hE⟩;have HY4:=G (HY.out.trans hE);clear HY;have HY:=HY4;clear HY4;clear g5;have g5:=(HB5.out.ext HY.out).cell;clear hE HDp));go_ret;exact⟨by rw[hr];rfl,HG.out.trans (HE5.out.trans HY.out)⟩
        ·rw[decide_eq_true (show dp<=20 by omega)]at HO;go_wp2_with (first|(go_at_call 77;refine(HI.out _).mono ?_;rintro e w3 ⟨rfl,hE⟩;have HY:=G hE;have g5:=(HB5.out.ext hE).cell;clear hE HI)|(go_at_call 78;refine(HPr.out _ (HG.out.trans (HE5.out.trans HY.out))).mono ?_;rintro e w4 ⟨rfl,hE⟩;have HY4:=G (HY.out.trans hE);clear HY;have HY:=HY4;clear HY4;clear g5;have g5:=(HB5.out.ext HY.out).cell;clear hE HPr)|(go_at_call 79;refine(HDp.out _ (HG.out.trans (HE5.out.trans HY.out))).mono ?_;rintro e w5 ⟨rfl,hE⟩;have HY4:=G (HY.out.trans hE);clear HY;have HY:=HY4;clear HY4;clear g5;have g5:=(HB5.out.ext HY.out).cell;clear hE HDp));clear g5 f1 e0 e1 e2;have HGY:=G (HG.out.trans (HE5.out.trans HY.out))
         go_loopw [6] (fun vi wz=> ∃(i:Nat),vi= .int .i64 (i:Int)/\i<=np/\Hid ((ps.take i).all bV=true)/\Hid (au (wr.alloc (.cells #[.string (ag nm), .slice Ap np cp, .slice Ab nb cb] 63)) wz)) (fun vi _=>np-(intOf vi).toNat)
         case atStart=>exact⟨0,rfl,az _,G (by simp),HY⟩
         case round=>
          clear HY HGY;obtain⟨i,rfl,hi,HI2,HY⟩:=hrel;have f5:=(HB5.out.ext HY.out).cell;have HGY:=G (HG.out.trans (HE5.out.trans HY.out));by_cases hit:i<np
          ·have hit':(i:Int)<np:=by omega
           have hil:i<ps.length:=by have:=HNP.out;omega
           obtain⟨b3,o3,rfl,hb3,p0⟩:=qQ HRn.out i hil;have g0:=(HGY.out.cell b3 _ hb3).trans p0;have HBad2:=G (fun h=>HBad.out (show fo=false by rw[HO.out,mQ bV hil h];simp));have HS2:=G (lq bV hil);have hns:=HFP.out _ (ai hil);clear p0;generalize ps[i]=s at*;have HI3:=G (dT s hns);generalize bV s=b at*;have HI4:=G (fun(h:b=true)=>show(ps.take (i+1)).all bV=true by rw[HS2.out,HI2.out,h];rfl);clear HS2 HI2 hns
           cases b with
           |false=>
            have hr:=HBad2.out rfl;clear HBad2;go_wp2_with (go_at_call 77;refine(HI3.out _).mono ?_;rintro e w3 ⟨rfl,hE⟩;have HY3:=G (HY.out.trans hE);clear hE HI3);go_ret;exact⟨by rw[hr];rfl,HG.out.trans (HE5.out.trans HY3.out)⟩
           |true=>
            have HI5:=G (HI4.out rfl);clear HBad2 HI4;go_wp2_with (go_at_call 77;refine(HI3.out _).mono ?_;rintro e w3 ⟨rfl,hE⟩;have HY3:=G (HY.out.trans hE);clear hE HI3);go_roundw
            case rel=>exact⟨i+1,by go_num,by omega,HI5,HY3⟩
            case measure=>simp[intOf];omega
          ·have hit': ¬(i:Int)<np:=by omega
           have hin:i=np:=by omega
           have hQ:ps.take i=ps:=aJ (by have:=HNP.out;omega);rw[hQ]at HI2;have HK2:=G (HGd.out (by rw[HO.out,HI2.out];rfl));clear hQ HI2 HGd HO;go_wp2_with fail;go_roundw
           case rel=>exact⟨k+1,by go_num,by omega,HK2,G (HQ.out.trans (HE5.out.trans HY.out))⟩
           case measure=>simp[intOf];omega
    ·have hkt': ¬(k:Int)<m:=by omega
     have hkm:k=m:=by omega
     have hQ:fs.take k=fs:=aJ (by have:=HM.out;omega);rw[hQ]at HK;have HR:=G (HPQ.out);rw[HJ.out,HK.out,<-HN.out,<-HM.out]at HR;have HTY:=HTX;clear HTX;have HTX:=G (fun(h1:n<=20) (h2:m<=20)=>HTY.out HJ.out HK.out (by rw[<-HN.out];exact h1) (by rw[<-HM.out];exact h2));have HSY:=G (fun(h1:n<=20) (h2:m<=20)=>HSR.out HJ.out HK.out (by rw[<-HN.out];exact h1) (by rw[<-HM.out];exact h2));clear hQ HTY HSR HPQ;by_cases h1:(n:Int)<=20
     ·by_cases h2:(m:Int)<=20
      ·rw[decide_eq_true (show n<=20 by omega),decide_eq_true (show m<=20 by omega)]at HR;have HT2:=G (HTX.out (by omega) (by omega));have hsl:=HSY.out (by omega) (by omega);have hst:(ag T).size=T.length:=aL T;clear HTX HSY;by_cases h3:(T.length:Int)<=4000
       ·have hcn:decide (T.length<=4000)=true:=decide_eq_true (by omega);have hcm:decide ((T.length:Int)<=4000)=true:=decide_eq_true h3;rw[hcn]at HR;go_wp2_with (go_at_call 80;refine(HT2.out _ HG.out).mono ?_;rintro e w3 ⟨rfl,hE⟩;have HG3:=G (HG.out.trans hE);clear hE HT2);go_ret;exact⟨by rw[HR.out];rfl,HG3.out⟩
       ·have hcn:decide (T.length<=4000)=false:=decide_eq_false (by omega);have hcm:decide ((T.length:Int)<=4000)=false:=decide_eq_false h3;rw[hcn]at HR;go_wp2_with (go_at_call 80;refine(HT2.out _ HG.out).mono ?_;rintro e w3 ⟨rfl,hE⟩;have HG3:=G (HG.out.trans hE);clear hE HT2);go_ret;exact⟨by rw[HR.out];rfl,HG3.out⟩
      ·rw[decide_eq_false (show ¬m<=20 by omega)]at HR;clear HTX HSY;go_wp2_with fail;go_ret;exact⟨by rw[HR.out];simp,HG.out⟩
     ·rw[decide_eq_false (show ¬n<=20 by omega)]at HR;clear HTX HSY;go_wp2_with fail;go_ret;exact⟨by rw[HR.out];simp,HG.out⟩
end
section
open Go.RowKit
theorem uy (p:Pg) (hw:jS p<=6000000) (P:Nat->Prop) (w:World) (A B:Option Addr) (n c m d:Nat) (hV:fH w P (.slice A n c) p.vs) (hF:fO w P (.slice B m d) p.fs):
  Calls prog 39 #[.agg #[.slice A n c, .slice B m d]] w fun e w'=>e= .returned (.bool (fa p))/\au w w':=
 qJ p (fun v hv=>by have:=uN hv;omega) P w A B n c m d
  (fun f hf=>⟨by have:=jd hf;have:=rX (f:=f);omega,fun y hy=>by have:=jd hf;have:=uO hy;omega,by have:=jd hf;unfold Fc.wt at this;omega⟩)
  (fun h1 h2 h3 h4=>pL hw h1 h2 h3 h4) hV hF
end
end Go.Proofs.YtddomeddabfinaaGreatDoor
