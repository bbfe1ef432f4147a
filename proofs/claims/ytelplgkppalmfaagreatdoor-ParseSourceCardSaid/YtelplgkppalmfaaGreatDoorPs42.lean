/-
  Parts of the proof: VrI RafM VrW RafN Psr.
-/
import Derived.Test.YtelplgkppalmfaaGreatDoorPs00
import Derived.Test.YtelplgkppalmfaaGreatDoorPs40
import Derived.Test.YtelplgkppalmfaaGreatDoorPs41
import Derived.Test.YtelplgkppalmfaaGreatDoorPs28
import Derived.Test.YtelplgkppalmfaaGreatDoorPs36
import Derived.Test.YtelplgkppalmfaaGreatDoorPs29
import Derived.Test.YtelplgkppalmfaaGreatDoorPs26
import Derived.BigRegion
import Derived.Test.YtelplgkppalmfaaGreatDoorPs30
import Derived.Test.YtelplgkppalmfaaGreatDoorPs31
import Derived.Test.YtelplgkppalmfaaGreatDoorPs32
set_option maxRecDepth 100000
set_option maxHeartbeats 8000000
set_option linter.unusedVariables false
set_option linter.unusedSimpArgs false
namespace Go.Proofs.YtelplgkppalmfaaGreatDoor
open Go.Proofs.Tryz
section
open Go.RowKit
theorem lK {α:Type} (p:α->Bool) {l:List α} {j:Nat} (h:j<l.length):(l.take (j+1)).all p=((l.take j).all p&&p l[j]):=by
 rw[aF h,dV,fy,kM,cL]
theorem nc {α:Type} (p:α->Bool) {l:List α} {j:Nat} (h:j<l.length) (hp:p l[j]=false):l.all p=false:=by
 rw[iw];exact⟨l[j],aE h,by rw[hp];simp⟩
theorem vl (l:List St):decide (dU l<=20)=l.all (fun s=>decide (s.dep<=20)):=by
 induction l with
 |nil=>rfl
 |cons x r ih=>rw[fy,<-ih,dU,<-jz];congr 1;rw[Nat.max_le]
theorem xR (f:Fc):kB f=(cn f.nm&&decide (f.ps.length<=4)&&lq f.body&&decide (dU f.body<=20)&&f.ps.all cn):=by
 unfold kB;rw[vl,fD];have:f.body.all (fun s=>decide (s.dep<=20)&&s.ok)=(f.body.all (fun s=>decide (s.dep<=20))&&f.body.all St.ok):=by
  induction f.body with
  |nil=>rfl
  |cons x r ih=>simp only[fy,ih];ac_rfl
 rw[this]
 ac_rfl
theorem xO {p:Pg} (h:p.vs.all lp=false):fP p=false:=by unfold fP;rw[h];rfl
theorem xQ {p:Pg} (h:p.fs.all kB=false):fP p=false:=by unfold fP;rw[h];simp
theorem qX (p:Pg) (hvn: ∀v,v∈p.vs->v.nm.length<=1073741824) (P:Nat->Prop) (w:World) (A B:Option Addr) (n c m d:Nat) (hfn: ∀f,f∈p.fs->f.nm.length<=1073741824/\(∀y,y∈f.ps->y.length<=1073741824)/\fQ f.body<=1000000000) (hsrc:p.vs.all lp=true->p.fs.all kB=true->p.vs.length<=20->p.fs.length<=20->(gJ p).length<=1000000000) (hV:iT w P (.slice A n c) p.vs) (hF:iU w P (.slice B m d) p.fs):
  Calls prog 19 #[.agg #[.slice A n c, .slice B m d]] w fun e w'=>e= .returned (.bool (fP p))/\al w w':=by
 have HTX:=G (fun(h1:p.vs.all lp=true) (h2:p.fs.all kB=true) (h3:p.vs.length<=20) (h4:p.fs.length<=20) (W:World) (hW:al w W)=>sN p (fun f hf=>kW (List.all_eq_true.1 h2 f hf)) (fun v hv=>by have:=List.all_eq_true.1 h1 v hv;unfold lp at this;simp only[au,decide_eq_true_eq]at this;omega) P W A B n c m d (hV.keep (.of_ext hW) (fun _ hb _=>hb)) (hF.keep (.of_ext hW) (fun _ hb _=>hb)) (hsrc h1 h2 h3 h4));have HSR:=G hsrc;have HPV:=G (fun(h:p.vs.all lp=false)=>xO h);have HPF:=G (fun(h:p.fs.all kB=false)=>xQ h);have HPQ:=G (show fP p=(p.vs.all lp&&p.fs.all kB&&decide (p.vs.length<=20)&&decide (p.fs.length<=20)&&decide ((gJ p).length<=4000))from rfl);generalize fP p=R at*;generalize gJ p=T at*;obtain⟨vs,fs⟩:=p;simp only at*;have HN:=G (mf hV);have HM:=G (mg hF);have hnm:=rP hV;have hmm:=rS hF;have HV:=G hV;have HF:=G hF;have HVN:=G hvn;have HFN:=G hfn;clear hV hF hvn hfn hsrc;have HE:=G (O w (.cells #[.slice A n c, .slice B m d] 33));have HB:=G (ai w 33 #[.slice A n c, .slice B m d]);go_enter func19,ntmps19;go_wp2_with fail
 go_loopw [3] (fun vi wr=> ∃(j:Nat),vi= .int .i64 (j:Int)/\j<=n/\Hid ((vs.take j).all lp=true)/\Hid (al (w.alloc (.cells #[.slice A n c, .slice B m d] 33)) wr)) (fun vi _=>n-(intOf vi).toNat)
 case atStart=>exact⟨0,rfl,aB _,G (by simp),G (aG _)⟩
 case round=>
  obtain⟨j,rfl,hj,HJ,HZ⟩:=hrel;have f1:=(HB.out.ext HZ.out).cell;by_cases hlt:j<n
  ·have hlt':(j:Int)<n:=by omega
   have hjl:j<vs.length:=by have:=HN.out;omega
   obtain⟨bj,oj,rfl,hbj,y0,y1⟩:=oO HV.out j hjl;have e0:=((HE.out.trans HZ.out).cell bj _ hbj).trans y0;have e1:=((HE.out.trans HZ.out).cell bj _ hbj).trans y1;have hbz:bj<wr.heap.size:=an hbj (HE.out.trans HZ.out).size;have HBad:=G (fun h=>HPV.out (nc lp hjl h));have HS:=G (lK lp hjl);have hn1:=HVN.out _ (aE hjl);clear y0 y1;generalize vs[j]=v at*;have HI:=G (d7 v.nm hn1);have HO:=G (show lp v=(cn v.nm&&decide (0<=v.sz)&&decide (v.sz<=2000))from rfl);obtain⟨nm,sz⟩:=v;simp only at*;generalize cn nm=b at*;have HG:=G (fun(h:lp ⟨nm,sz⟩=true)=>show(vs.take (j+1)).all lp=true by rw[HS.out,HJ.out,h];rfl);clear HS HJ hn1
   cases b with
   |false=>
    have hr:=HBad.out (by rw[HO.out];rfl);clear HBad HO HG;go_wp2_with (go_at_call 46;refine(HI.out _).mono ?_;rintro e w3 ⟨rfl,hE⟩;have HZ3:=G (HZ.out.trans hE);clear hE HI);go_ret;exact⟨by rw[hr];rfl,HE.out.trans HZ3.out⟩
   |true=>
    by_cases h1:sz<0
    ·have hr:=HBad.out (by rw[HO.out,decide_eq_false (by omega)];rfl);clear HBad HO HG;go_wp2_with (go_at_call 46;refine(HI.out _).mono ?_;rintro e w3 ⟨rfl,hE⟩;have HZ3:=G (HZ.out.trans hE);have f3:=(HB.out.ext HZ3.out).cell;have g1:=(hE.cell bj _ hbz).trans e1;clear hE HI f1 e0 e1);go_ret;exact⟨by rw[hr];rfl,HE.out.trans HZ3.out⟩
    ·by_cases h2:2000<sz
     ·have hr:=HBad.out (by rw[HO.out,decide_eq_false (show ¬sz<=2000 by omega)];simp);clear HBad HO HG;go_wp2_with (go_at_call 46;refine(HI.out _).mono ?_;rintro e w3 ⟨rfl,hE⟩;have HZ3:=G (HZ.out.trans hE);have f3:=(HB.out.ext HZ3.out).cell;have g1:=(hE.cell bj _ hbz).trans e1;clear hE HI f1 e0 e1);go_ret;exact⟨by rw[hr];rfl,HE.out.trans HZ3.out⟩
     ·have HJ2:=G (HG.out (by rw[HO.out,decide_eq_true (show 0<=sz by omega),decide_eq_true (show sz<=2000 by omega)];rfl));clear HBad HO HG;go_wp2_with (go_at_call 46;refine(HI.out _).mono ?_;rintro e w3 ⟨rfl,hE⟩;have HZ3:=G (HZ.out.trans hE);have f3:=(HB.out.ext HZ3.out).cell;have g1:=(hE.cell bj _ hbz).trans e1;clear hE HI f1 e0 e1);go_roundw
      case rel=>exact⟨j+1,by go_num,by omega,HJ2,HZ3⟩
      case measure=>simp[intOf];omega
  ·have hlt': ¬(j:Int)<n:=by omega
   have hjn:j=n:=by omega
   have hQ:vs.take j=vs:=aK (by have:=HN.out;omega);rw[hQ]at HJ;clear hQ HV HVN HPV;go_wp2_with fail;clear f1
   go_loopw [4] (fun vi wq=> ∃(k:Nat),vi= .int .i64 (k:Int)/\k<=m/\Hid ((fs.take k).all kB=true)/\Hid (al wr wq)) (fun vi _=>m-(intOf vi).toNat)
   case atStart=>exact⟨0,rfl,aB _,G (by simp),G (aG _)⟩
   case round=>
    obtain⟨k,rfl,hk,HK,HQ⟩:=hrel;have f1:=(HB.out.ext (HZ.out.trans HQ.out)).cell;have HG:=G (HE.out.trans (HZ.out.trans HQ.out));by_cases hkt:k<m
    ·have hkt':(k:Int)<m:=by omega
     have hkl:k<fs.length:=by have:=HM.out;omega
     obtain⟨bj,oj,pv,bv,rfl,hbj,y0,y1,y2,hRn,hRs⟩:=oP HF.out k hkl;have e0:=(HG.out.cell bj _ hbj).trans y0;have e1:=(HG.out.cell bj _ hbj).trans y1;have e2:=(HG.out.cell bj _ hbj).trans y2;have HBad:=G (fun h=>HPF.out (nc kB hkl h));have HS:=G (lK kB hkl);have hfn:=HFN.out _ (aE hkl);clear y0 y1 y2;generalize fs[k]=f at*;have HO:=G (xR f);have HGd:=G (fun(h:kB f=true)=>show(fs.take (k+1)).all kB=true by rw[HS.out,HK.out,h];rfl);clear HS HK;have HI:=G (d7 f.nm hfn.1);obtain⟨nm,ps,body⟩:=f;simp only at*;generalize kB ⟨nm,ps,body⟩=fo at*;obtain⟨Ap,cp,rfl⟩:=i' hRn;obtain⟨Ab,cb,rfl,_⟩:=hRs.form;have HPr:=G (fun W (hW:al w W)=>lT (fQ body+1) body (by omega) (by have:=hfn.2.2;omega) P W _ (hRs.keep (.of_ext hW) (fun _ hb _=>hb)));have HDp:=G (fun W (hW:al w W)=>nX (fQ body+1) body (by omega) (by have:=hfn.2.2;omega) P W _ (hRs.keep (.of_ext hW) (fun _ hb _=>hb)));have hdl:=gX body;have hdl2:=hfn.2.2;have HFP:=G hfn.2.1;have hpm:=rQ hRn;have HRn:=G hRn;clear hRn hRs hfn;generalize body.length=nb at*;generalize cn nm=b at*;generalize lq body=b2 at*;generalize dU body=dp at*;obtain⟨np,hnp⟩: ∃np,ps.length=np:=⟨_,rfl⟩
     have HNP:=G hnp;rw[hnp]at e1 HRn HO hpm;try simp only[hnp]
     clear hnp;have HB5:=G (ai wr 68 #[.string (ae nm), .slice Ap np cp, .slice Ab nb cb]);have HE5:=G (O wr (.cells #[.string (ae nm), .slice Ap np cp, .slice Ab nb cb] 68))
     cases b with
     |false=>
      have hr:=HBad.out (by rw[HO.out];rfl);clear HBad HO HGd;go_wp2_with (go_at_call 46;refine(HI.out _).mono ?_;rintro e w3 ⟨rfl,hE⟩;have HY:=G hE;have g5:=(HB5.out.ext hE).cell;clear hE HI);go_ret;exact⟨by rw[hr];rfl,HG.out.trans (HE5.out.trans HY.out)⟩
     |true=>
      by_cases h4:(4:Int)<np
      ·have hr:=HBad.out (by rw[HO.out,decide_eq_false (show ¬np<=4 by omega)];rfl);clear HBad HO HGd;go_wp2_with (go_at_call 46;refine(HI.out _).mono ?_;rintro e w3 ⟨rfl,hE⟩;have HY:=G hE;have g5:=(HB5.out.ext hE).cell;clear hE HI);go_ret;exact⟨by rw[hr];rfl,HG.out.trans (HE5.out.trans HY.out)⟩
      ·rw[decide_eq_true (show np<=4 by omega)]at HO
       cases b2 with
       |false=>
        have hr:=HBad.out (by rw[HO.out];rfl);clear HBad HO HGd;go_wp2_with (first|(go_at_call 46;refine(HI.out _).mono ?_;rintro e w3 ⟨rfl,hE⟩;have HY:=G hE;have g5:=(HB5.out.ext hE).cell;clear hE HI)|(go_at_call 47;refine(HPr.out _ (HG.out.trans (HE5.out.trans HY.out))).mono ?_;rintro e w4 ⟨rfl,hE⟩;have HY4:=G (HY.out.trans hE);clear HY;have HY:=HY4;clear HY4;clear g5;have g5:=(HB5.out.ext HY.out).cell;clear hE HPr));go_ret;exact⟨by rw[hr];rfl,HG.out.trans (HE5.out.trans HY.out)⟩
       |true=>
        by_cases h20:(20:Int)<dp
        ·have hr:=HBad.out (by rw[HO.out,decide_eq_false (show ¬dp<=20 by omega)];rfl);clear HBad HO HGd;go_wp2_with (first|(go_at_call 46;refine(HI.out _).mono ?_;rintro e w3 ⟨rfl,hE⟩;have HY:=G hE;have g5:=(HB5.out.ext hE).cell;clear hE HI)|(go_at_call 47;refine(HPr.out _ (HG.out.trans (HE5.out.trans HY.out))).mono ?_;rintro e w4 ⟨rfl,hE⟩;have HY4:=G (HY.out.trans hE);clear HY;have HY:=HY4;clear HY4;clear g5;have g5:=(HB5.out.ext HY.out).cell;clear hE HPr)|(go_at_call 48;refine(HDp.out _ (HG.out.trans (HE5.out.trans HY.out))).mono ?_;rintro e w5 ⟨rfl,hE⟩;have HY4:=G (HY.out.trans hE);clear HY;have HY:=HY4;clear HY4;clear g5;have g5:=(HB5.out.ext HY.out).cell;clear hE HDp));go_ret;exact⟨by rw[hr];rfl,HG.out.trans (HE5.out.trans HY.out)⟩
        ·rw[decide_eq_true (show dp<=20 by omega)]at HO;go_wp2_with (first|(go_at_call 46;refine(HI.out _).mono ?_;rintro e w3 ⟨rfl,hE⟩;have HY:=G hE;have g5:=(HB5.out.ext hE).cell;clear hE HI)|(go_at_call 47;refine(HPr.out _ (HG.out.trans (HE5.out.trans HY.out))).mono ?_;rintro e w4 ⟨rfl,hE⟩;have HY4:=G (HY.out.trans hE);clear HY;have HY:=HY4;clear HY4;clear g5;have g5:=(HB5.out.ext HY.out).cell;clear hE HPr)|(go_at_call 48;refine(HDp.out _ (HG.out.trans (HE5.out.trans HY.out))).mono ?_;rintro e w5 ⟨rfl,hE⟩;have HY4:=G (HY.out.trans hE);clear HY;have HY:=HY4;clear HY4;clear g5;have g5:=(HB5.out.ext HY.out).cell;clear hE HDp));clear g5 f1 e0 e1 e2;have HGY:=G (HG.out.trans (HE5.out.trans HY.out))
         go_loopw [6] (fun vi wz=> ∃(i:Nat),vi= .int .i64 (i:Int)/\i<=np/\Hid ((ps.take i).all cn=true)/\Hid (al (wr.alloc (.cells #[.string (ae nm), .slice Ap np cp, .slice Ab nb cb] 68)) wz)) (fun vi _=>np-(intOf vi).toNat)
         case atStart=>exact⟨0,rfl,aB _,G (by simp),HY⟩
         case round=>
          clear HY HGY;obtain⟨i,rfl,hi,HI2,HY⟩:=hrel;have f5:=(HB5.out.ext HY.out).cell;have HGY:=G (HG.out.trans (HE5.out.trans HY.out));by_cases hit:i<np
          ·have hit':(i:Int)<np:=by omega
           have hil:i<ps.length:=by have:=HNP.out;omega
           obtain⟨b3,o3,rfl,hb3,p0⟩:=mD HRn.out i hil;have g0:=(HGY.out.cell b3 _ hb3).trans p0;have HBad2:=G (fun h=>HBad.out (show fo=false by rw[HO.out,nc cn hil h];simp));have HS2:=G (lK cn hil);have hns:=HFP.out _ (aE hil);clear p0;generalize ps[i]=s at*;have HI3:=G (d7 s hns);generalize cn s=b at*;have HI4:=G (fun(h:b=true)=>show(ps.take (i+1)).all cn=true by rw[HS2.out,HI2.out,h];rfl);clear HS2 HI2 hns
           cases b with
           |false=>
            have hr:=HBad2.out rfl;clear HBad2;go_wp2_with (go_at_call 46;refine(HI3.out _).mono ?_;rintro e w3 ⟨rfl,hE⟩;have HY3:=G (HY.out.trans hE);clear hE HI3);go_ret;exact⟨by rw[hr];rfl,HG.out.trans (HE5.out.trans HY3.out)⟩
           |true=>
            have HI5:=G (HI4.out rfl);clear HBad2 HI4;go_wp2_with (go_at_call 46;refine(HI3.out _).mono ?_;rintro e w3 ⟨rfl,hE⟩;have HY3:=G (HY.out.trans hE);clear hE HI3);go_roundw
            case rel=>exact⟨i+1,by go_num,by omega,HI5,HY3⟩
            case measure=>simp[intOf];omega
          ·have hit': ¬(i:Int)<np:=by omega
           have hin:i=np:=by omega
           have hQ:ps.take i=ps:=aK (by have:=HNP.out;omega);rw[hQ]at HI2;have HK2:=G (HGd.out (by rw[HO.out,HI2.out];rfl));clear hQ HI2 HGd HO;go_wp2_with fail;go_roundw
           case rel=>exact⟨k+1,by go_num,by omega,HK2,G (HQ.out.trans (HE5.out.trans HY.out))⟩
           case measure=>simp[intOf];omega
    ·have hkt': ¬(k:Int)<m:=by omega
     have hkm:k=m:=by omega
     have hQ:fs.take k=fs:=aK (by have:=HM.out;omega);rw[hQ]at HK;have HR:=G (HPQ.out);rw[HJ.out,HK.out,<-HN.out,<-HM.out]at HR;have HTY:=HTX;clear HTX;have HTX:=G (fun(h1:n<=20) (h2:m<=20)=>HTY.out HJ.out HK.out (by rw[<-HN.out];exact h1) (by rw[<-HM.out];exact h2));have HSY:=G (fun(h1:n<=20) (h2:m<=20)=>HSR.out HJ.out HK.out (by rw[<-HN.out];exact h1) (by rw[<-HM.out];exact h2));clear hQ HTY HSR HPQ;by_cases h1:(n:Int)<=20
     ·by_cases h2:(m:Int)<=20
      ·rw[decide_eq_true (show n<=20 by omega),decide_eq_true (show m<=20 by omega)]at HR;have HT2:=G (HTX.out (by omega) (by omega));have hsl:=HSY.out (by omega) (by omega);have hst:(ae T).size=T.length:=aM T;clear HTX HSY;by_cases h3:(T.length:Int)<=4000
       ·have hcn:decide (T.length<=4000)=true:=decide_eq_true (by omega);have hcm:decide ((T.length:Int)<=4000)=true:=decide_eq_true h3;rw[hcn]at HR;go_wp2_with (go_at_call 45;refine(HT2.out _ HG.out).mono ?_;rintro e w3 ⟨rfl,hE⟩;have HG3:=G (HG.out.trans hE);clear hE HT2);go_ret;exact⟨by rw[HR.out];rfl,HG3.out⟩
       ·have hcn:decide (T.length<=4000)=false:=decide_eq_false (by omega);have hcm:decide ((T.length:Int)<=4000)=false:=decide_eq_false h3;rw[hcn]at HR;go_wp2_with (go_at_call 45;refine(HT2.out _ HG.out).mono ?_;rintro e w3 ⟨rfl,hE⟩;have HG3:=G (HG.out.trans hE);clear hE HT2);go_ret;exact⟨by rw[HR.out];rfl,HG3.out⟩
      ·rw[decide_eq_false (show ¬m<=20 by omega)]at HR;clear HTX HSY;go_wp2_with fail;go_ret;exact⟨by rw[HR.out];simp,HG.out⟩
     ·rw[decide_eq_false (show ¬n<=20 by omega)]at HR;clear HTX HSY;go_wp2_with fail;go_ret;exact⟨by rw[HR.out];simp,HG.out⟩
end
section
open Go.RowKit
theorem yE (en:Int) (σ:RS):(ja en σ).2.isD=true\/(ja en σ).2.size<σ.size:=
 gP.lt (p:=ig) (q:=ja en) (fun l hl=>ul en l) (fun _ _ _ h=>oV h) (fun a b=>vT en a b)
theorem yG (en:Int) (f:Nat) (σ:RS) (hf:4*σ.size+3<=f):(eK en f σ).2.isD=true\/(eK en f σ).2.size<σ.size:=
 gP.lt (p:=gE f) (q:=eK en f) (fun l hl=>by subst hl;exact uo en f l hf) (fun _ _ _ h=>qk h) (fun a b=>vV en a b f)
theorem RS.dlt {σ τ:RS} (h:τ.isD=true\/τ.size<σ.size):τ.size<=σ.size:=by
 rcases h with h|h
 ·rw[RS.dead_size h];exact aB _
 ·exact aH h
theorem yu:jw prog 30 91 2 24 (.agg #[.string ⟨#[]⟩, .int .i64 0]):=⟨underlying30,by kernel_rfl,by rfl,by decide⟩
theorem yD:jw prog 31 68 3 64 (.agg #[.string ⟨#[]⟩, .slice none 0 0, .slice none 0 0]):=⟨underlying31,by kernel_rfl,by rfl,by decide⟩
structure PM (w:World) (pr g o:Nat) (vv fv:Value) (vs:List Vr) (fs:List FV) (s:List UInt8) (ts:List bB) (σ:RS) (W:World):Prop where
 ex:al w W
 b0:aT W pr 33 #[.slice none 0 0, .slice none 0 0]
 bo:aT W o 33 #[vv,fv]
 qa:QA W g s ts σ
 ow:gN 91 68 (fun b=>o<b) W (o+1) vv fv vs fs
 hpr:w.heap.size<=pr
 h1:pr<g
 h2:g<o
section
variable {w W W':World} {pr g o:Nat} {vv fv:Value} {vs:List Vr} {fs:List FV} {s:List UInt8} {ts:List bB} {σ τ:RS}
theorem PM.st (h:PM w pr g o vv fv vs fs s ts σ W) (hg:W.grownBy W' (some g)) (hq:QA W' g s ts τ):PM w pr g o vv fv vs fs s ts τ W':=by
 have h0:=h.hpr;have h1:=h.h1;have h2:=h.h2
 exact⟨h.ex.grown hg (fun k e=>by injection e with e;omega),h.b0.grown hg (fun e=>by have:=M e;omega),h.bo.grown hg (fun e=>by have:=M e;omega),hq,
  h.ow.keepW hg.size (fun b hb hl=>hg.block b hl (fun e=>by have:=M e;rcases hb with hb|hb<;>omega)),h0,h1,h2⟩
theorem PM.exw (h:PM w pr g o vv fv vs fs s ts σ W) (hE:al W W'):PM w pr g o vv fv vs fs s ts σ W':=h.st (hE.grownBy _) (h.qa.ext hE)
theorem PM.pushV (h:PM w pr g o vv fv vs fs s ts σ W) {v:Vr} {A n cap:Nat} (hl:vs.length=n) (hn:W'.ownsRow (o+1) 91 2 (.slice (some ⟨A,0,none⟩) (n+1) cap) (n+1) (fM vs++qH v)) (hg:W.grownBy W' vv.ownBlock) (hA:some A=vv.ownBlock\/A=W.heap.size):
  PM w pr g o (.slice (some ⟨A,0,none⟩) (n+1) cap) fv (vs++[v]) fs s ts σ (W'.setCell ⟨o,0,none⟩ (.slice (some ⟨A,0,none⟩) (n+1) cap))/\aT W' o 33 #[vv,fv]:=by
 have h0:=h.hpr;have h1:=h.h1;have h2:=h.h2;have hlt:=fun k hk=>(aJ h.ow.1 k hk).1;have hgs:=cg W' o 0 (.slice (some ⟨A,0,none⟩) (n+1) cap);have k0:=h.b0.grown hg (fun e=>by have:=hlt _ e.symm;omega);have ko:=h.bo.grown hg (fun e=>by have:=hlt _ e.symm;omega);have kq:=h.qa.grown hg (fun k e=>by have:=hlt k e;omega);have kw:=h.ow.snocV hl hn hg (hA.imp id (fun e=>by omega));have ke:=h.ex.grown hg (fun k e=>by have:=hlt k e;omega);have kb:=ko.set 0 (.slice (some ⟨A,0,none⟩) (n+1) cap);simp only[aw,aN]at kb
 exact⟨⟨ke.grown hgs (fun k e=>by injection e with e;omega),k0.grown hgs (fun e=>by have:=M e;omega),kb,kq.grown hgs (fun k e=>by injection e with e;omega),
  kw.keepW hgs.size (fun b hb hl=>hgs.block b hl (fun e=>by have:=M e;rcases hb with hb|hb<;>omega)),h0,h1,h2⟩,ko⟩
theorem PM.pushF (h:PM w pr g o vv fv vs fs s ts σ W) {p:FV} {A n cap:Nat} (hp:p.ok W (fun b=>o<b/\some b≠vv.ownBlock/\some b≠fv.ownBlock)) (hl:fs.length=n) (hn:W'.ownsRow (o+1) 68 3 (.slice (some ⟨A,0,none⟩) (n+1) cap) (n+1) (fO fs++qJ p)) (hg:W.grownBy W' fv.ownBlock) (hA:some A=fv.ownBlock\/A=W.heap.size):
  PM w pr g o vv (.slice (some ⟨A,0,none⟩) (n+1) cap) vs (fs++[p]) s ts σ (W'.setCell ⟨o,1,none⟩ (.slice (some ⟨A,0,none⟩) (n+1) cap))/\aT W' o 33 #[vv,fv]:=by
 have h0:=h.hpr;have h1:=h.h1;have h2:=h.h2;have hlt:=fun k hk=>(aJ h.ow.2.1 k hk).1;have hgs:=cg W' o 1 (.slice (some ⟨A,0,none⟩) (n+1) cap);have k0:=h.b0.grown hg (fun e=>by have:=hlt _ e.symm;omega);have ko:=h.bo.grown hg (fun e=>by have:=hlt _ e.symm;omega);have kq:=h.qa.grown hg (fun k e=>by have:=hlt k e;omega);have kp:p.ok W' (fun b=>o<b/\some b≠vv.ownBlock/\b≠A):=by
  refine kK (P:=fun b=>(o<b/\some b≠vv.ownBlock/\some b≠fv.ownBlock)/\b<W.heap.size) (w:=W) ?_ ⟨hg.size,fun b hb hl=>hg.block b hl (fun e=>hb.1.2.2 e)⟩ (fun b hb _=>⟨hb.1.1,hb.1.2.1,fun e=> ?_⟩)
  ·exact kK hp ⟨ag _,fun _ _ _=>rfl⟩ (fun b hb hl=>⟨hb,hl⟩)
  ·rcases hA with hA|hA
   ·exact hb.1.2.2 (by rw[e];exact hA)
   ·have:=hb.2;omega
 have kw:=h.ow.snocF kp hl hn hg (hA.imp id (fun e=>by omega));have ke:=h.ex.grown hg (fun k e=>by have:=hlt k e;omega);have kb:=ko.set 1 (.slice (some ⟨A,0,none⟩) (n+1) cap);simp only[aw,aN,aO]at kb
 exact⟨⟨ke.grown hgs (fun k e=>by injection e with e;omega),k0.grown hgs (fun e=>by have:=M e;omega),kb,kq.grown hgs (fun k e=>by injection e with e;omega),
  kw.keepW hgs.size (fun b hb hl=>hgs.block b hl (fun e=>by have:=M e;rcases hb with hb|hb<;>omega)),h0,h1,h2⟩,ko⟩
end
theorem xG {w w1:World} {A:Option Addr} {c:Nat} {s:List UInt8} {ts:List bB} (hE:al (w.alloc (.cells #[.slice none 0 0, .slice none 0 0] 33)) w1) (hO:fx w1 (w.alloc (.cells #[.slice none 0 0, .slice none 0 0] 33)).heap.size 62 (.slice A ts.length c) ts):
  PM w w.heap.size w1.heap.size (w1.heap.size+1) (.slice none 0 0) (.slice none 0 0) [] [] s ts (.live ts) ((w1.alloc (.cells #[.string (ae s), .slice A ts.length c, .int .i64 0, .int .i64 0, .int .i64 0] 89)).alloc (.cells #[.slice none 0 0, .slice none 0 0] 33)):=by
 have h1:=O w1 (.cells #[.string (ae s), .slice A ts.length c, .int .i64 0, .int .i64 0, .int .i64 0] 89);have h2:=h1.trans (O _ (.cells #[.slice none 0 0, .slice none 0 0] 33));have hz:=hE.size;rw[aQ]at hz;have hT:=hO.tks.2;refine⟨(O w _).trans (hE.trans h2),((ai w _ _).ext hE).ext h2,?_,⟨A,c,0,0,0,(ai w1 _ _).ext (O _ _),hT.ext h2,fun b off e hne=> ?_,rfl,rfl,aB _,rfl⟩,gN.nil_ _ _ _ _ _,ag _,by omega,by omega⟩
 ·have:=ai (w1.alloc (.cells #[.string (ae s), .slice A ts.length c, .int .i64 0, .int .i64 0, .int .i64 0] 89)) 33 #[.slice none 0 0, .slice none 0 0];rwa [aQ]at this
 ·rcases hT.rd with h0|⟨b',off',ha,hlt,_⟩
  ·exact absurd h0 hne
  ·rw[e]at ha;injection ha with ha;injection ha with ha;omega
end
section
open Go.RowKit
theorem ua (p:Pg) (hw:kU p<=6000000) (P:Nat->Prop) (w:World) (A B:Option Addr) (n c m d:Nat) (hV:iT w P (.slice A n c) p.vs) (hF:iU w P (.slice B m d) p.fs):
  Calls prog 19 #[.agg #[.slice A n c, .slice B m d]] w fun e w'=>e= .returned (.bool (fP p))/\al w w':=
 qX p (fun v hv=>by have:=wP hv;omega) P w A B n c m d
  (fun f hf=>⟨by have:=mL hf;have:=wR (f:=f);omega,fun y hy=>by have:=mL hf;have:=wQ hy;omega,by have:=mL hf;unfold Fc.wt at this;omega⟩)
  (fun h1 h2 h3 h4=>qm hw h1 h2 h3 h4) hV hF
end
section
open Go.RowKit
theorem QA.cells2 {w:World} {g:Nat} {s:List UInt8} {ts:List bB} {r:List bB} (h:QA w g s ts (.live r)): ∃(A:Option Addr) (c nx:Nat),(∀i,w.cell? ⟨g,i,none⟩=(#[.string (ae s), .slice A ts.length c, .int .i64 (nx:Int), .int .i64 0, .int .i64 0]:Array Value)[i]?)/\nx+r.length=ts.length:=by
 obtain⟨A,c,nx,at_,er,hb,ht,hn,rfl,rfl,hnx,hr⟩:=h;exact⟨A,c,nx,hb.cell,by rw[hr,aZ];omega⟩
theorem QA.cells3 {w:World} {g:Nat} {s:List UInt8} {ts:List bB} {p e:Int} (h:QA w g s ts (.dead p e)): ∃(A:Option Addr) (c nx:Nat),(∀i,w.cell? ⟨g,i,none⟩=(#[.string (ae s), .slice A ts.length c, .int .i64 (nx:Int), .int .i64 p, .int .i64 e]:Array Value)[i]?)/\e≠0:=by
 obtain⟨A,c,nx,at_,er,hb,ht,hn,rfl,rfl,he⟩:=h;exact⟨A,c,nx,hb.cell,he⟩
theorem rc (s:List UInt8) (hs:s.length<=100000) (w:World) (ts:List bB) (at_ en:Int) (hR:fz s=(ts,at_,en)) (hen:en≠0):Calls prog 11 #[.string (ae s)] w (nf w (gK s)):=by
 have HTK:=G (show ∀W,Calls prog 25 #[.string (ae s)] W (fun e w'=> ∃A c,e= .returned (.tuple #[.slice A ts.length c, .int .i64 at_, .int .i64 en])/\fx w' W.heap.size 62 (.slice A ts.length c) ts/\al W w')from
  fun W=>by
   have:=lS s hs W;rw[hR]at this
   exact this.mono (fun e w' ⟨⟨A,c,h1,h2⟩,h3⟩=>⟨A,c,h1,h2,h3⟩))
 have HP:=G (show gK s=(f_,at_,en) by unfold gK;rw[hR];exact if_neg hen);have he1:(en !=0)=true:=by simpa using hen
 have he0:(en==0)=false:=beq_eq_false_iff_ne.2 hen;have HE:=G (O w (.cells #[.slice none 0 0, .slice none 0 0] 33));have HB:=G (ai w 33 #[.slice none 0 0, .slice none 0 0]);clear hR hen;go_enter func11,ntmps11;go_wp2_with (go_at_call 25;refine(HTK.out _).mono ?_;rintro e w1 ⟨A,c,rfl,hO,hE⟩;have HX:=G (HE.out.trans hE);have HB1:=G (HB.out.ext hE);have c1:=HB1.out.cell;have z1:=HB1.out.frozen;clear hO hE HTK);have hb2:=(HB1.out.set 0 (.slice none 0 0)).set 1 (.slice none 0 0);simp only[aw,aN,aO]at hb2;have hE2:=(HX.out.set (p:=⟨w.heap.size,0,none⟩) (ag _) (.slice none 0 0)).set (p:=⟨w.heap.size,1,none⟩) (ag _) (.slice none 0 0);have hset:=hb2.cell;exact bodyPost_ret (v:= .tuple #[.agg #[.slice none 0 0, .slice none 0 0], .int .i64 at_, .int .i64 en]) (by simp[results,results11,go_sem,hset]) rfl (by rw[HP.out];exact g_ hE2)
theorem xJ (sl:Nat) (ts:List bB):mM sl ts=match eC sl (4*ts.length+8) f_ (.live ts)with
 |(p, .live _)=>if fP p then(p,0,0)else(f_,0,6)
 |(_, .dead a e)=>(f_,a,e):=by
 unfold mM;rcases(oR (sl:Int) (4*ts.length+8) f_ ts (by omega)).ways with⟨a,q,h1,h2,h3⟩|⟨q,n,h1,h2⟩
 ·rw[h1];generalize eC (sl:Int) (4*ts.length+8) f_ (.live ts)=X at*;obtain⟨p,σ⟩:=X;simp only at h2 h3;subst h2 h3;rfl
 ·rw[h1];generalize eC (sl:Int) (4*ts.length+8) f_ (.live ts)=X at*;obtain⟨p,σ⟩:=X;simp only at h2;subst h2;rfl
theorem uz (sl:Nat) (ts:List bB) (p:Pg) (r:List bB) (h:eC sl (4*ts.length+8) f_ (.live ts)=(p, .live r)):kU p<=c7 ts:=by
 rcases(oR (sl:Int) (4*ts.length+8) f_ ts (by omega)).ways with⟨a,q,h1,h2,h3⟩|⟨q,n,h1,h2⟩
 ·rw[h]at h2;simp only at h2;subst h2;have:=(mI _ _ _ _ _ h1).1;have h0:kU f_=0:=rfl;omega
 ·rw[h]at h2
  cases h2
def Al (w:World) (g o:Nat) (s:List UInt8) (ts:List bB) (X:Pg×RS) (W:World):Prop:=
 ∃(k:Nat) (vs:List Vr) (fs:List FV) (σ:RS) (A:Option Addr) (n c:Nat) (B:Option Addr) (m d:Nat),4*σ.size+6<=k/\k<=400000/\vs.length=n/\fs.length=m/\n+m+σ.size<=ts.length/\Hid (eC s.length k ⟨vs,fs.map (·.c)⟩ σ=X)/\Hid (PM w w.heap.size g o (.slice A n c) (.slice B m d) vs fs s ts σ W)
theorem p9 (s:List UInt8) (hs:s.length<=100000) (w:World) (ts:List bB) (at_:Int) (hR:fz s=(ts,at_,0)):Calls prog 11 #[.string (ae s)] w (nf w (gK s)):=by
 have htw:=oF s;rw[hR]at htw;have htw:ts.length<=4000/\c7 ts<=12000:=htw
 have HTK:=G (show ∀W,Calls prog 25 #[.string (ae s)] W (fun e w'=> ∃A c,e= .returned (.tuple #[.slice A ts.length c, .int .i64 at_, .int .i64 0])/\fx w' W.heap.size 62 (.slice A ts.length c) ts/\al W w')from
  fun W=>by
   have:=lS s hs W;rw[hR]at this
   exact this.mono (fun e w' ⟨⟨A,c,h1,h2⟩,h3⟩=>⟨A,c,h1,h2,h3⟩))
 have HP:=G (show gK s=mM s.length ts by unfold gK;rw[hR];rfl);rw[xJ]at HP;have HOK:=G (uz s.length ts);obtain⟨X,hX⟩: ∃X,eC (s.length:Int) (4*ts.length+8) f_ (.live ts)=X:=⟨_,rfl⟩
 have HX:=G hX;rw[hX]at HP HOK;have hTl:=htw.1;have HTW:=G htw.2;clear hX hR htw;have HE:=G (O w (.cells #[.slice none 0 0, .slice none 0 0] 33));go_enter func11,ntmps11;go_wp2_with (go_at_call 25;refine(HTK.out _).mono ?_;rintro e w1 ⟨A0,c0,rfl,hO,hE⟩;have HM0:=G (xG (s:=s) hE hO);clear hO hE HTK)
 go_loopw [] (fun wr=>Al w w1.heap.size (w1.heap.size+1) s ts X wr) (fun wr=>qN w1.heap.size wr)
 case atStart=>exact⟨4*ts.length+8,[],[], .live ts,none,0,0,none,0,0,by show 4*ts.length+6<=_;omega,by omega,rfl,rfl,by show 0+0+ts.length<=_;omega,HX,HM0⟩
 case round=>
  clear HM0 HX;obtain⟨k,vs,fs,σ,A,n,c,B,m,d,hk0,hkF,hn0,hm0,hnm,HRes,HMr⟩:=hrel;have boc:=HMr.out.bo.cell;have bof:=HMr.out.bo.frozen;have hw1:=HMr.out.h1;have hwo:=HMr.out.ex.size
  cases σ with
  |dead p e=>
   obtain⟨qA,qc,nx,hqc,he⟩:=HMr.out.qa.cells3;have he1:(e !=0)=true:=by simpa using he
   have he0:(e==0)=false:=beq_eq_false_iff_ne.2 he;have HQ:=G (show gK s=(f_,p,e) by rw[HP.out,<-HRes.out,mi]);clear HP HOK HRes;have z0:=HMr.out.b0.cell;have z1:=HMr.out.b0.frozen;go_wp2_with fail;go_region;have hb2:=(HMr.out.b0.set 0 (.slice none 0 0)).set 1 (.slice none 0 0);simp only[aw,aN,aO]at hb2;have hE2:=(HMr.out.ex.set (p:=⟨w.heap.size,0,none⟩) (ag _) (.slice none 0 0)).set (p:=⟨w.heap.size,1,none⟩) (ag _) (.slice none 0 0);have hset:=hb2.cell;go_wp2_with fail;exact bodyPost_ret (v:= .tuple #[.agg #[.slice none 0 0, .slice none 0 0], .int .i64 p, .int .i64 e]) (by simp[results,results11,go_sem,hset]) rfl (by rw[HQ.out];exact g_ (RowKit.Below.drew hE2))
  |live r=>
   obtain⟨qA,qc,nx,hqc,hnx⟩:=HMr.out.qa.cells2;by_cases hr0:r=[]
   ·subst hr0;have hnx:nx=ts.length:=by simpa using hnx
    subst hnx
    have HQ0:=G (show X=(⟨vs,fs.map (·.c)⟩, .live []) by
     rw[<-HRes.out];obtain⟨k,rfl⟩: ∃k',k=k'+1:=⟨k-1,by omega⟩
     rw[eC];rfl)
    have hrd:=HMr.out.ow.rd (fun b hb=>by omega);have hwp:=HOK.out ⟨vs,fs.map (·.c)⟩ [] HQ0.out;have HVd:=G (fun W (hW:al wr W)=>ua ⟨vs,fs.map (·.c)⟩ (by have:=HTW.out;omega) (fun b=>w1.heap.size+1<b) W A B n c m d (hrd.1.keep (.of_ext hW) (fun _ hb _=>hb)) (hrd.2.keep (.of_ext hW) (fun _ hb _=>hb)));have HQ:=G (show gK s=if fP ⟨vs,fs.map (·.c)⟩then(⟨vs,fs.map (·.c)⟩,0,0)else(f_,0,6) by rw[HP.out,HQ0.out]);have HRd:=G hrd;clear HP HOK HRes HQ0 hrd hwp;generalize hok:fP ⟨vs,fs.map (·.c)⟩=ok at*
    cases ok with
    |false=>
     go_wp2_with (go_at_call 19;refine(HVd.out _ (aG _)).mono ?_;rintro e w3 ⟨rfl,hE⟩;have HM3:=G (HMr.out.exw hE);have z0:=HM3.out.b0.cell;have z1:=HM3.out.b0.frozen;clear hE HVd);have hb2:=(HM3.out.b0.set 0 (.slice none 0 0)).set 1 (.slice none 0 0);simp only[aw,aN,aO]at hb2;have hE2:=(HM3.out.ex.set (p:=⟨w.heap.size,0,none⟩) (ag _) (.slice none 0 0)).set (p:=⟨w.heap.size,1,none⟩) (ag _) (.slice none 0 0);have hset:=hb2.cell;exact bodyPost_ret (v:= .tuple #[.agg #[.slice none 0 0, .slice none 0 0], .int .i64 0, .int .i64 6]) (by simp[results,results11,go_sem,hset]) rfl (by rw[HQ.out];exact g_ hE2)
    |true=>
     go_wp2_with (go_at_call 19;refine(HVd.out _ (aG _)).mono ?_;rintro e w3 ⟨rfl,hE⟩;have HM3:=G (HMr.out.exw hE);have HE3:=G hE;have z0:=HM3.out.b0.cell;have z1:=HM3.out.b0.frozen;have y0:=HM3.out.bo.cell;clear hE HVd);have hb2:=(HM3.out.b0.set 0 (.slice A n c)).set 1 (.slice B m d);simp only[aw,aN,aO]at hb2;have hE2:=(HM3.out.ex.set (p:=⟨w.heap.size,0,none⟩) (ag _) (.slice A n c)).set (p:=⟨w.heap.size,1,none⟩) (ag _) (.slice B m d);have hset:=hb2.cell;have hk2:cV (fun b=>w1.heap.size+1<b) wr ((w3.setCell ⟨w.heap.size,0,none⟩ (.slice A n c)).setCell ⟨w.heap.size,1,none⟩ (.slice B m d)):=dP (dP (.of_ext HE3.out) (.of_grown (cg _ _ _ _) fun b hb e=>by injection e with e;omega)) (.of_grown (cg _ _ _ _) fun b hb e=>by injection e with e;omega);exact bodyPost_ret (v:= .tuple #[.agg #[.slice A n c, .slice B m d], .int .i64 0, .int .i64 0]) (by simp[results,results11,go_sem,hset]) rfl (by rw[HQ.out];exact⟨hE2,A,n,c,B,m,d,rfl,HRd.out.1.keep hk2 (fun b hb _=>by omega),HRd.out.2.keep hk2 (fun b hb _=>by omega)⟩)
   ·have hrl:0<r.length:=List.length_pos_iff.2 hr0;have hlt:nx<ts.length:=by omega
    have hlt':(nx:Int)<ts.length:=by omega
    obtain⟨k,rfl⟩: ∃k',k=k'+1:=⟨k-1,by omega⟩
    have hsz:(RS.live r).size=r.length:=rfl;have hts:(RS.live r).tail.size+1=(RS.live r).size:=by show r.tail.length+1=r.length;rw[iW];omega
    have HSt:=G (show X=if(RS.live r).is gA then eC s.length k ⟨vs++[(ja s.length (RS.live r).tail).1],fs.map (·.c)⟩ (ja s.length (RS.live r).tail).2
      else if(RS.live r).is gc then eC s.length k ⟨vs,fs.map (·.c)++[(eK s.length k (RS.live r).tail).1]⟩ (eK s.length k (RS.live r).tail).2 else eC s.length k ⟨vs,fs.map (·.c)⟩ ((RS.live r).fail s.length 3) by
     rw[<-HRes.out,eC,if_neg (by cases r with|nil=>exact absurd rfl hr0|cons a b=>simp[RS.isD,RS.size])])
    have HrN:=G (HMr.out.qa.qN);clear HRes HP HOK
    cases hv:(RS.live r).is gA with
    |true=>
     have hlx:=RS.dlt (yE s.length (RS.live r).tail);obtain⟨⟨x,τ⟩,hy⟩: ∃y,ja s.length (RS.live r).tail=y:=⟨_,rfl⟩
     have HRN:=G (show eC s.length k ⟨vs++[x],fs.map (·.c)⟩ τ=X from by rw[HSt.out,if_pos hv,hy]);rw[hy]at hlx;have hlx:τ.size<=(RS.live r).tail.size:=hlx;clear HSt;go_wp2_with (go_at_call 31;refine(cD w1.heap.size s ts (RS.live r) gA _ HMr.out.qa).mono ?_;rw[hv];simp only[if_true];rintro e w2 ⟨rfl,h1,h2⟩;have HM2:=G (HMr.out.st h2 h1);clear boc bof hqc;have boc:=HM2.out.bo.cell;clear h1 h2);clear boc;refine bC 5 7 [(3,fun v=>v= .agg #[.string (ae x.nm), .int .i64 x.sz],fun v wx=>QA wx w1.heap.size s ts τ),(4,fun v=> ∃gb,v= .slice (some ⟨gb,0,none⟩) 1 1,fun v wx=> ∀gb,v= .slice (some ⟨gb,0,none⟩) 1 1->w2.heap.size<=gb/\aT wx gb 91 #[.string (ae x.nm), .int .i64 x.sz])] 3 (some w1.heap.size) mixed (by kernel_rfl)
      ⟨fun _ _ _ h hx=>h.ext hx,fun _ _ _ h hx gb e=>⟨(h gb e).1,(h gb e).2.ext hx⟩,trivial⟩ ⟨.inl rfl, .inr fun _ _ _ h hx gb e=>⟨(h gb e).1,(h gb e).2.grown hx (fun e'=>by have:=(h gb e).1;have:=HM2.out.qa.lt;injection e' with e';omega)⟩,trivial⟩ ?_
     repeat (refine sx ?_ (fun w1 hU=> ?_) ?_;rotate_left;(focus have f1:=(HM2.out.bo.grown (aD hU) (fun e=>by have:=HM2.out.h2;have:=M e;omega)).cell;clear hU;go_simp<;>with_reducible rfl);simp only[bf,be,bc,a_,a8])
     refine ce _ _ (by rfl) rfl ⟨_,rfl⟩ rfl (fun w6 hT hp K hK=> ?_) ?_
     ·clear hp;have hc:=qd (RS.live r).tail s ts w6 w1.heap.size (HM2.out.qa.ext hT.un);rw[hy]at hc;clear hT;go_simp;refine hc.mono ?_;rintro e w7 ⟨hG,h1,rfl⟩;exact hK _ _ hG rfl h1
     rintro _ rfl;simp only[bf,be,bc,a_,a8];repeat (refine sx ?_ (fun w1 hU=> ?_) ?_;rotate_left;(focus have f1:=(HM2.out.bo.grown (aD hU) (fun e=>by have:=HM2.out.h2;have:=M e;omega)).cell;clear hU;go_simp<;>with_reducible rfl);simp only[bf,be,bc,a_,a8])
     refine bw _ _ (by rfl) rfl ⟨_,0,rfl⟩ (by simp) (fun w6 hU hp K hK=> ?_) ?_
     ·have hz6:=(aD hU).size;clear hp hU;go_simp;exact hK _ _ (O w6 _) ⟨_,rfl⟩ (fun gb e=>by injection e with e;injection e with e;injection e with e;subst e;exact⟨hz6,ai w6 _ _⟩)
     rintro _ ⟨gb,rfl⟩;simp only[bf,be,bc,a_,a8];intro w8 hw8 hp;obtain⟨hgb,hB3⟩:=hp _ (.head _) gb rfl;have h3:=hp _ (.tail _ (.head _));clear hp;simp only[ab,ap];have HM8:=G (HM2.out.st (aD hw8) (τ:=τ) h3);have hz8:=(aD hw8).size;have hrow:=aJ HM8.out.ow.1;have hol:=HM8.out.bo.lt;clear hw8 h3;refine cQ yu rfl _ _ rfl (w1.heap.size+1+1) _ n (fM vs) rfl (by have:=HM8.out.ow.1;rw[hn0]at this;exact this) gb (qH x) rfl hB3 rfl (by intro u hu;simp only[qH,dH,cU,or_false]at hu;rcases hu with rfl|rfl<;>rfl) (by omega) (by decide) (by omega) ?_;intro A' cap' w9 hq1 hq2 hq3;obtain⟨hM9,hb9⟩:=HM8.out.pushV hn0 hq1 hq2 hq3;have boc:=hb9.cell;have bof:=hb9.frozen;have HM9:=G hM9;clear hq1 hq2 hq3 hM9 hb9 hrow hB3;go_wp2_with fail;go_roundw
     case rel=>exact⟨k,vs++[x],fs,τ,some ⟨A',0,none⟩,n+1,cap',B,m,d,by omega,by omega,by simp[hn0],hm0,by omega,HRN,HM9⟩
     case measure=>rw[HrN.out,HM9.out.qa.qN];omega
    |false=>
     have HS3:=G (show X=if(RS.live r).is gc then eC s.length k ⟨vs,fs.map (·.c)++[(eK s.length k (RS.live r).tail).1]⟩ (eK s.length k (RS.live r).tail).2 else eC s.length k ⟨vs,fs.map (·.c)⟩ ((RS.live r).fail s.length 3) by rw[HSt.out,if_neg (by rw[hv];simp)]);clear HSt
     cases hfu:(RS.live r).is gc with
     |true=>
      have hlx:=RS.dlt (yG s.length k (RS.live r).tail (by omega));obtain⟨⟨x,τ⟩,hy⟩: ∃y,eK s.length k (RS.live r).tail=y:=⟨_,rfl⟩
      have HRN:=G (show eC s.length k ⟨vs,fs.map (·.c)++[x]⟩ τ=X from by rw[HS3.out,if_pos hfu,hy]);rw[hy]at hlx;have hlx:τ.size<=(RS.live r).tail.size:=hlx;clear HS3;go_wp2_with (first|(go_at_call 31;refine(cD w1.heap.size s ts (RS.live r) gA _ HMr.out.qa).mono ?_;rw[hv];simp only[aI,if_false];rintro e w2 ⟨rfl,h1,h2⟩;have HMa:=G (HMr.out.st h2 h1);clear boc bof hqc;clear h1 h2 HMr)|(go_at_call 31;refine(cD w1.heap.size s ts (RS.live r) gc _ HMa.out.qa).mono ?_;rw[hfu];simp only[if_true];rintro e w3 ⟨rfl,h1,h2⟩;have HM2:=G (HMa.out.st h2 h1);have boc:=HM2.out.bo.cell;clear h1 h2 HMa));clear boc;obtain⟨xn,xp,xb⟩:=x;have hg3:=HM2.out.qa.lt
      refine bC 5 7 [(3,fun v=> ∃A2 c2 B2 d2,v= .agg #[.string (ae xn), .slice A2 xp.length c2, .slice B2 xb.length d2],fun v wx=>QA wx w1.heap.size s ts τ/\ ∀A2 c2 B2 d2,v= .agg #[.string (ae xn), .slice A2 xp.length c2, .slice B2 xb.length d2]->jK wx (fun b=>w3.heap.size<=b) (.slice A2 xp.length c2) xp/\cP wx (fun b=>w3.heap.size<=b) (.slice B2 xb.length d2) xb),
       (4,fun v=> ∃gb,v= .slice (some ⟨gb,0,none⟩) 1 1,fun v wx=> ∀gb,v= .slice (some ⟨gb,0,none⟩) 1 1->w3.heap.size<=gb/\ ∃A2 c2 B2 d2,aT wx gb 68 #[.string (ae xn), .slice A2 xp.length c2, .slice B2 xb.length d2]/\jK wx (fun b=>w3.heap.size<=b) (.slice A2 xp.length c2) xp/\cP wx (fun b=>w3.heap.size<=b) (.slice B2 xb.length d2) xb)] 3 (some w1.heap.size) mixed (by kernel_rfl)
       ⟨fun _ _ _ h hx=>⟨h.1.ext hx,fun A2 c2 B2 d2 e=>⟨(h.2 A2 c2 B2 d2 e).1.keep (.of_ext hx) (fun _ hb _=>hb),(h.2 A2 c2 B2 d2 e).2.keep (.of_ext hx) (fun _ hb _=>hb)⟩⟩,fun _ _ _ h hx gb e=>⟨(h gb e).1,let⟨A2,c2,B2,d2,q1,q2,q3⟩:=(h gb e).2;⟨A2,c2,B2,d2,q1.ext hx,q2.keep (.of_ext hx) (fun _ hb _=>hb),q3.keep (.of_ext hx) (fun _ hb _=>hb)⟩⟩,trivial⟩
       ⟨.inl rfl, .inr fun _ _ _ h hx gb e=>⟨(h gb e).1,let⟨A2,c2,B2,d2,q1,q2,q3⟩:=(h gb e).2;⟨A2,c2,B2,d2,q1.grown hx (fun e'=>by have:=(h gb e).1;injection e' with e';omega),q2.keep (.of_grown hx fun b hb e'=>by injection e' with e';omega) (fun _ hb _=>hb),q3.keep (.of_grown hx fun b hb e'=>by injection e' with e';omega) (fun _ hb _=>hb)⟩⟩,trivial⟩ ?_
      repeat (refine sx ?_ (fun w1 hU=> ?_) ?_;rotate_left;(focus have f1:=(HM2.out.bo.grown (aD hU) (fun e=>by have:=HM2.out.h2;have:=M e;omega)).cell;clear hU;go_simp<;>with_reducible rfl);simp only[bf,be,bc,a_,a8])
      refine ce _ _ (by rfl) rfl ⟨_,none,0,none,0,rfl⟩ rfl (fun w6 hT hp K hK=> ?_) ?_
      ·clear hp;have hc:=nz k (by omega) (RS.live r).tail s ts w6 w1.heap.size (HM2.out.qa.ext hT.un) (by omega);rw[hy]at hc;have hz6:=hT.un.size;clear hT;go_simp;refine hc.mono ?_;rintro e w7 ⟨hG,h1,A2,n2,c2,B2,m2,d2,rfl,hRn,hRs⟩;obtain rfl:n2=xp.length:=by obtain⟨_,_,hv2,_⟩:=hRn;injection hv2
       obtain rfl:m2=xb.length:=hRs.len
       exact hK _ _ hG ⟨A2,c2,B2,d2,rfl⟩ ⟨h1,fun A3 c3 B3 d3 e=>by
        injection e with e;injection e with e;injection e with e1 e;injection e with e2 e;injection e with e3 e;rw[<-e2,<-e3]
        exact⟨hRn.mono (fun b hb _=>aS hz6 hb),hRs.keep ⟨ag _,fun _ _ _=>rfl⟩ (fun b hb _=>aS hz6 hb)⟩⟩
      rintro _ ⟨A2,c2,B2,d2,rfl⟩;simp only[bf,be,bc,a_,a8];repeat (refine sx ?_ (fun w1 hU=> ?_) ?_;rotate_left;(focus have f1:=(HM2.out.bo.grown (aD hU) (fun e=>by have:=HM2.out.h2;have:=M e;omega)).cell;clear hU;go_simp<;>with_reducible rfl);simp only[bf,be,bc,a_,a8])
      refine bw _ _ (by rfl) rfl ⟨_,0,rfl⟩ (by simp) (fun w6 hU hp K hK=> ?_) ?_
      ·have hz6:=(aD hU).size;have hq:=(hp _ (.head _) (by kernel_rfl)).2 A2 c2 B2 d2 rfl;clear hp hU;go_simp;exact hK _ _ (O w6 _) ⟨_,rfl⟩ (fun gb e=>by injection e with e;injection e with e;injection e with e;subst e;exact⟨hz6,A2,c2,B2,d2,ai w6 _ _,hq.1.keep (.of_ext (O w6 _)) (fun _ hb _=>hb),hq.2.keep (.of_ext (O w6 _)) (fun _ hb _=>hb)⟩)
      rintro _ ⟨gb,rfl⟩;simp only[bf,be,bc,a_,a8];intro w8 hw8 hp;obtain⟨hgb,A4,c4,B4,d4,hB3,hRn,hRs⟩:=hp _ (.head _) gb rfl;have h3:=(hp _ (.tail _ (.head _))).1;clear hp;simp only[ab,ap];have HM8:=G (HM2.out.st (aD hw8) (τ:=τ) h3);have hz8:=(aD hw8).size;have hrow1:=aJ HM2.out.ow.1;have hrow2:=aJ HM2.out.ow.2.1;have hol:=HM2.out.bo.lt;have hF:=kK (p:=⟨⟨xn,xp,xb⟩, .slice A4 xp.length c4, .slice B4 xb.length d4⟩) (P:=fun b=>w3.heap.size<=b) (Q:=fun b=>w1.heap.size+1<b/\some b≠(Value.slice A n c).ownBlock/\some b≠(Value.slice B m d).ownBlock) (w:=w8) (w':=w8) ⟨hRn,hRs⟩ ⟨ag _,fun _ _ _=>rfl⟩ (fun b hb _=>⟨by omega,fun e=>by have:=(hrow1 b e.symm).2;omega,fun e=>by have:=(hrow2 b e.symm).2;omega⟩);have HF:=G hF;clear hw8 h3 hRn hRs hF hrow1 hrow2;refine cQ yD rfl _ _ rfl (w1.heap.size+1+1) _ m (fO fs) rfl (by have:=HM8.out.ow.2.1;rw[hm0]at this;exact this) gb (qJ ⟨⟨xn,xp,xb⟩, .slice A4 xp.length c4, .slice B4 xb.length d4⟩) rfl hB3 rfl (by intro u hu;simp only[qJ,dH,cU,or_false]at hu;rcases hu with rfl|rfl|rfl<;>rfl) (by omega) (by decide) (by omega) ?_;intro A' cap' w9 hq1 hq2 hq3;obtain⟨hM9,hb9⟩:=HM8.out.pushF HF.out hm0 hq1 hq2 hq3;have boc:=hb9.cell;have bof:=hb9.frozen;have HM9:=G hM9;clear hq1 hq2 hq3 hM9 hb9 hB3;go_wp2_with fail;go_roundw
      case rel=>exact⟨k,vs,fs++[⟨⟨xn,xp,xb⟩, .slice A4 xp.length c4, .slice B4 xb.length d4⟩],τ,A,n,c,some ⟨A',0,none⟩,m+1,cap',by omega,by omega,hn0,by simp[hm0],by omega,G (by rw[eJ];exact HRN.out),HM9⟩
      case measure=>rw[HrN.out,HM9.out.qa.qN];omega
     |false=>
      have HRN:=G (show eC s.length k ⟨vs,fs.map (·.c)⟩ ((RS.live r).fail s.length 3)=X from by rw[HS3.out,if_neg (by rw[hfu];simp)]);clear HS3;have hdz:((RS.live r).fail s.length 3).size=0:=rfl;go_wp2_with (first|(go_at_call 31;refine(cD w1.heap.size s ts (RS.live r) gA _ HMr.out.qa).mono ?_;rw[hv];simp only[aI,if_false];rintro e w2 ⟨rfl,h1,h2⟩;have HMa:=G (HMr.out.st h2 h1);clear boc bof hqc;clear h1 h2 HMr)|(go_at_call 31;refine(cD w1.heap.size s ts (RS.live r) gc _ HMa.out.qa).mono ?_;rw[hfu];simp only[aI,if_false];rintro e w3 ⟨rfl,h1,h2⟩;have HM2:=G (HMa.out.st h2 h1);clear h1 h2 HMa)|(go_at_call 34;refine(i_ w1.heap.size s ts (RS.live r) 3 (by decide) _ HM2.out.qa).mono ?_;rintro e w4 ⟨rfl,h1,h2⟩;have HM9:=G (HM2.out.st h2 h1);clear h1 h2 HM2));go_roundw
      case rel=>exact⟨k,vs,fs,(RS.live r).fail s.length 3,A,n,c,B,m,d,by omega,by omega,hn0,hm0,by omega,HRN,HM9⟩
      case measure=>rw[HrN.out,HM9.out.qa.qN];omega
theorem rg (s:List UInt8) (hs:s.length<=100000) (w:World):Calls prog 11 #[.string (ae s)] w (nf w (gK s)):=by
 obtain⟨⟨ts,at_,en⟩,hR⟩: ∃R,fz s=R:=⟨_,rfl⟩
 by_cases hen:en=0
 ·subst hen;exact p9 s hs w ts at_ hR
 ·exact rc s hs w ts at_ en hR hen
end
section
open Go.RowKit
theorem oY:fP f_=true:=by decide
theorem v8 (s:List UInt8):fP (gK s).1=true:=by
 unfold gK mM;split
 ·split
  ·split
   ·assumption
   ·exact oY
  ·exact oY
 ·exact oY
theorem vY (s:List UInt8) (w:World) (hz:EZ w) (ht:dQ w w.heap.size):Calls prog 3 #[.string (ae s)] w fun e w'=>e= .returned (.bool true)/\al w w':=by
 have hsz:(ae s).size=s.length:=aM s;have HAW:=G (tE w hz ht);by_cases hl:(4100:Int)<s.length
 ·have hl2:4100<s.length:=by omega
  go_enter func3,ntmps3;go_wp2_with (go_at_call 9;refine HAW.out.mono ?_;rintro e w1 ⟨rfl,hE⟩;have HX:=G hE;clear hE HAW);go_ret;exact⟨rfl,HX.out⟩
 ·have hl2:s.length<=4100:=by omega
  have HPa:=G (fun(W:World) (h:al w W)=>nZ s W (hz.ext h) (gy ht h));have HRf:=G (fun(W:World)=>rg s (by omega) W);have HW:=G (xK s);have HOK:=G (v8 s);have HT:=G ht;obtain⟨⟨p,at_,en⟩,hr⟩: ∃r,gK s=r:=⟨_,rfl⟩
  rw[hr]at HPa HRf HW HOK;have HW:=G (show kU p<=12000 from HW.out);clear hr hz ht;have HTh:=G (fun(W:World) (A B:Option Addr) (n c m d:Nat) (h1:iT W (fun _=>True) (.slice A n c) p.vs) (h2:iU W (fun _=>True) (.slice B m d) p.fs)=>tT (p:=p) (by have:=HW.out;omega) h1 h2)
  have HVd:=G (show ∀(W:World) (A B:Option Addr) (n c m d:Nat),al w W->iT W (fun _=>True) (.slice A n c) p.vs->iU W (fun _=>True) (.slice B m d) p.fs->Calls prog 14 #[.agg #[.slice A n c, .slice B m d]] W fun e w'=>e= .returned (.bool true)/\al W w' from
   fun W A B n c m d hE h1 h2=>by
    have:=mc p (by have:=HW.out;omega) _ W A B n c m d h1 h2 (gy HT.out hE)
    rwa [show fP p=true from HOK.out]at this)
  have HEq:=G (show ∀(W:World) (A B A' B':Option Addr) (n c m d n' c' m' d':Nat),iT W (fun _=>True) (.slice A n c) p.vs->iU W (fun _=>True) (.slice B m d) p.fs->iT W (fun _=>True) (.slice A' n' c') p.vs->iU W (fun _=>True) (.slice B' m' d') p.fs->Calls prog 12 #[.agg #[.slice A n c, .slice B m d], .agg #[.slice A' n' c', .slice B' m' d']] W fun e w'=>e= .returned (.bool true)/\al W w' from
   fun W A B A' B' n c m d n' c' m' d' h1 h2 h3 h4=>by
    have:=rk p p _ W A B A' B' n c m d n' c' m' d' h1 h2 h3 h4
    rwa [ol]at this)
  clear HW HOK HT;go_enter func3,ntmps3;go_wp2_with (first|(go_at_call 9;refine HAW.out.mono ?_;rintro e w1 ⟨rfl,hE⟩;have HX:=G hE;clear hE HAW)|(go_at_call 10;refine(HPa.out _ HX.out).mono ?_;rintro e w2 ⟨hE,A,n,c,B,m,d,rfl,hV,hF⟩;have HX2:=G (HX.out.trans hE);have HA2:=G (O w2 (.cells #[.slice A n c, .slice B m d] 26));have HB2:=G (ai w2 26 #[.slice A n c, .slice B m d]);have HV2:=G (hV.keep (.of_ext HA2.out) (Q:=fun _=>True) (fun _ _ _=>trivial));have HF2:=G (hF.keep (.of_ext HA2.out) (Q:=fun _=>True) (fun _ _ _=>trivial));clear hE hV hF HPa HX)|(go_at_call 11;refine(HRf.out _).mono ?_;rintro e w4 ⟨hE,A',n',c',B',m',d',rfl,hV,hF⟩;have HA4:=G (O w4 (.cells #[.slice A' n' c', .slice B' m' d'] 33));have HX5:=G (HX2.out.trans (HA2.out.trans (hE.trans HA4.out)));have HB5:=G (ai w4 33 #[.slice A' n' c', .slice B' m' d']);have HC5:=G (HB2.out.ext (hE.trans HA4.out));have HV5:=G (HV2.out.keep (.of_ext (hE.trans HA4.out)) (Q:=fun _=>True) (fun _ _ _=>trivial));have HF5:=G (HF2.out.keep (.of_ext (hE.trans HA4.out)) (Q:=fun _=>True) (fun _ _ _=>trivial));have HU5:=G (hV.keep (.of_ext HA4.out) (Q:=fun _=>True) (fun _ _ _=>trivial));have HG5:=G (hF.keep (.of_ext HA4.out) (Q:=fun _=>True) (fun _ _ _=>trivial));clear hE hV hF HRf HX2 HA2 HB2 HV2 HF2 HA4));by_cases hen:en=0
  ·subst hen;refine am 22 12 [(10,fun v=> ∃A n c B m d,v= .agg #[.slice A n c, .slice B m d],fun v wx=> ∀A n c B m d,v= .agg #[.slice A n c, .slice B m d]->iT wx (fun _=>True) (.slice A n c) p.vs/\iU wx (fun _=>True) (.slice B m d) p.fs),(12,fun v=>v= .bool true,fun _ _=>True),(19,fun v=>v= .bool true,fun _ _=>True)] mixed (by kernel_rfl)
    ⟨fun _ _ _ h hx A n c B m d e=>⟨(h A n c B m d e).1.keep (.of_ext hx) (fun _ hb _=>hb),(h A n c B m d e).2.keep (.of_ext hx) (fun _ hb _=>hb)⟩,fun _ _ _ _ _=>trivial,fun _ _ _ _ _=>trivial,trivial⟩ ?_
   repeat (first|(refine co (by rfl) ?_;simp only[bf,be,bc,a_,a8])|(refine sx ?_ (fun w1 hU=> ?_) ?_;rotate_left;(focus have f1:=(HC5.out.ext hU.un).cell;have f2:=(HB5.out.ext hU.un).cell;clear hU;go_simp<;>with_reducible rfl);simp only[bf,be,bc,a_,a8]))
   refine bw _ _ (by rfl) rfl ⟨_,none,0,0,none,0,0,rfl⟩ (by simp) (fun w6 hU hp K hK=> ?_) ?_
   ·have hc:=HTh.out w6 _ _ _ _ _ _ (HV5.out.keep (.of_ext hU.un) (fun _ hb _=>hb)) (HF5.out.keep (.of_ext hU.un) (fun _ hb _=>hb));clear hp hU;go_simp;refine hc.mono ?_;rintro e w7 ⟨hE,A9,n9,c9,B9,m9,d9,rfl,h1,h2⟩
    exact hK _ _ hE ⟨_,_,_,_,_,_,rfl⟩ (fun A n c B m d e=>by
     injection e with e;simp only[cI,cw,b_,and_true]at e;obtain⟨⟨rfl,rfl,rfl⟩,rfl,rfl,rfl⟩:=e
     exact⟨h1,h2⟩)
   rintro _ ⟨A9,n9,c9,B9,m9,d9,rfl⟩;simp only[bf,be,bc,a_,a8];repeat (first|(refine co (by rfl) ?_;simp only[bf,be,bc,a_,a8])|(refine sx ?_ (fun w1 hU=> ?_) ?_;rotate_left;(focus have f1:=(HC5.out.ext hU.un).cell;have f2:=(HB5.out.ext hU.un).cell;clear hU;go_simp<;>with_reducible rfl);simp only[bf,be,bc,a_,a8]))
   refine so (fun w6 hU hp K hK=> ?_) ?_
   ·have h1:=hp _ (.head _) (by kernel_rfl) _ _ _ _ _ _ rfl;have hc:=HEq.out w6 _ _ _ _ _ _ _ _ _ _ _ _ h1.1 h1.2 (HU5.out.keep (.of_ext hU.un) (fun _ hb _=>hb)) (HG5.out.keep (.of_ext hU.un) (fun _ hb _=>hb));clear hp hU h1;go_simp;refine hc.mono ?_;rintro e w7 ⟨rfl,hE⟩;exact hK _ _ hE rfl trivial
   rintro _ rfl;simp only[bf,be,bc,a_,a8];repeat (first|(refine co (by rfl) ?_;simp only[bf,be,bc,a_,a8])|(refine sx ?_ (fun w1 hU=> ?_) ?_;rotate_left;(focus have f1:=(HC5.out.ext hU.un).cell;have f2:=(HB5.out.ext hU.un).cell;clear hU;go_simp<;>with_reducible rfl);simp only[bf,be,bc,a_,a8]))
   refine so (fun w6 hU hp K hK=> ?_) ?_
   ·have hc:=HVd.out w6 _ _ _ _ _ _ (HX5.out.trans hU.un) (HV5.out.keep (.of_ext hU.un) (fun _ hb _=>hb)) (HF5.out.keep (.of_ext hU.un) (fun _ hb _=>hb));clear hp hU;go_simp;refine hc.mono ?_;rintro e w7 ⟨rfl,hE⟩;exact hK _ _ hE rfl trivial
   rintro _ rfl;simp only[bf,be,bc,a_,a8];repeat (first|(refine co (by rfl) ?_;simp only[bf,be,bc,a_,a8])|(refine sx ?_ (fun w1 hU=> ?_) ?_;rotate_left;(focus have f1:=(HC5.out.ext hU.un).cell;have f2:=(HB5.out.ext hU.un).cell;clear hU;go_simp<;>with_reducible rfl);simp only[bf,be,bc,a_,a8]))
   intro w8 hw8 hp;clear hp;simp only[ab,ap];have HX8:=G (HX5.out.trans hw8.un);clear hw8;go_wp2_with fail;go_ret;exact⟨rfl,HX8.out⟩
  ·have he0:(en==0)=false:=beq_eq_false_iff_ne.2 hen;have he1:(en !=0)=true:=by simpa using hen
   clear hen;refine am 22 12 [(10,fun v=> ∃A n c B m d,v= .agg #[.slice A n c, .slice B m d],fun v wx=> ∀A n c B m d,v= .agg #[.slice A n c, .slice B m d]->iT wx (fun _=>True) (.slice A n c) p.vs/\iU wx (fun _=>True) (.slice B m d) p.fs),(12,fun v=>v= .bool true,fun _ _=>True)] mixed (by kernel_rfl)
    ⟨fun _ _ _ h hx A n c B m d e=>⟨(h A n c B m d e).1.keep (.of_ext hx) (fun _ hb _=>hb),(h A n c B m d e).2.keep (.of_ext hx) (fun _ hb _=>hb)⟩,fun _ _ _ _ _=>trivial,trivial⟩ ?_
   repeat (first|(refine co (by rfl) ?_;simp only[bf,be,bc,a_,a8])|(refine sx ?_ (fun w1 hU=> ?_) ?_;rotate_left;(focus have f1:=(HC5.out.ext hU.un).cell;have f2:=(HB5.out.ext hU.un).cell;clear hU;go_simp<;>with_reducible rfl);simp only[bf,be,bc,a_,a8]))
   refine bw _ _ (by rfl) rfl ⟨_,none,0,0,none,0,0,rfl⟩ (by simp) (fun w6 hU hp K hK=> ?_) ?_
   ·have hc:=HTh.out w6 _ _ _ _ _ _ (HV5.out.keep (.of_ext hU.un) (fun _ hb _=>hb)) (HF5.out.keep (.of_ext hU.un) (fun _ hb _=>hb));clear hp hU;go_simp;refine hc.mono ?_;rintro e w7 ⟨hE,A9,n9,c9,B9,m9,d9,rfl,h1,h2⟩
    exact hK _ _ hE ⟨_,_,_,_,_,_,rfl⟩ (fun A n c B m d e=>by
     injection e with e;simp only[cI,cw,b_,and_true]at e;obtain⟨⟨rfl,rfl,rfl⟩,rfl,rfl,rfl⟩:=e
     exact⟨h1,h2⟩)
   rintro _ ⟨A9,n9,c9,B9,m9,d9,rfl⟩;simp only[bf,be,bc,a_,a8];repeat (first|(refine co (by rfl) ?_;simp only[bf,be,bc,a_,a8])|(refine sx ?_ (fun w1 hU=> ?_) ?_;rotate_left;(focus have f1:=(HC5.out.ext hU.un).cell;have f2:=(HB5.out.ext hU.un).cell;clear hU;go_simp<;>with_reducible rfl);simp only[bf,be,bc,a_,a8]))
   refine so (fun w6 hU hp K hK=> ?_) ?_
   ·have h1:=hp _ (.head _) (by kernel_rfl) _ _ _ _ _ _ rfl;have hc:=HEq.out w6 _ _ _ _ _ _ _ _ _ _ _ _ h1.1 h1.2 (HU5.out.keep (.of_ext hU.un) (fun _ hb _=>hb)) (HG5.out.keep (.of_ext hU.un) (fun _ hb _=>hb));clear hp hU h1;go_simp;refine hc.mono ?_;rintro e w7 ⟨rfl,hE⟩;exact hK _ _ hE rfl trivial
   rintro _ rfl;simp only[bf,be,bc,a_,a8];repeat (first|(refine co (by rfl) ?_;simp only[bf,be,bc,a_,a8])|(refine sx ?_ (fun w1 hU=> ?_) ?_;rotate_left;(focus have f1:=(HC5.out.ext hU.un).cell;have f2:=(HB5.out.ext hU.un).cell;clear hU;go_simp<;>with_reducible rfl);simp only[bf,be,bc,a_,a8]))
   intro w8 hw8 hp;clear hp;simp only[ab,ap];have HX8:=G (HX5.out.trans hw8.un);clear hw8;go_wp2_with fail;go_ret;exact⟨rfl,HX8.out⟩
theorem vO (s:ByteArray):ae s.data.toList=s:=by
 cases s;simp[ae]
theorem vX (a:ByteArray) (w:World) (hz:EZ w) (ht:dQ w w.heap.size):Calls prog 3 #[.string a] w fun e w'=>e= .returned (.bool true)/\al w w':=by
 have:=vY a.data.toList w hz ht;rwa [vO]at this
end
end Go.Proofs.YtelplgkppalmfaaGreatDoor
