/-
  Parts of the proof: VrI VrW RtLexZ RtA RtB RtC RtD RtE RtF RtG RtH RtI.
-/
import Derived.Test.YtelplgkppalmfaaGreatDoorPq36
import Derived.Test.YtelplgkppalmfaaGreatDoorPq37
import Derived.Test.YtelplgkppalmfaaGreatDoorPq27
import Derived.Test.YtelplgkppalmfaaGreatDoorPq25
import Derived.Test.YtelplgkppalmfaaGreatDoorPq32
set_option maxRecDepth 100000
set_option maxHeartbeats 8000000
set_option linter.unusedVariables false
set_option linter.unusedSimpArgs false
namespace Go.Proofs.YtelplgkppalmfaaGreatDoor
open Go.Proofs.Tryz
open Go.RowKit
theorem allG_succ {α:Type} (p:α->Bool) {l:List α} {j:Nat} (h:j<l.length):(l.take (j+1)).all p=((l.take j).all p&&p l[j]):=by
 rw[List.take_succ_eq_append_getElem h,List.all_append,List.all_cons,List.all_nil,Bool.and_true]
theorem allG_bad {α:Type} (p:α->Bool) {l:List α} {j:Nat} (h:j<l.length) (hp:p l[j]=false):l.all p=false:=by
 rw[List.all_eq_false];exact⟨l[j],List.getElem_mem h,by rw[hp];simp⟩
theorem depS_all (l:List St):decide (depS l<=20)=l.all (fun s=>decide (s.dep<=20)):=by
 induction l with
 |nil=>rfl
 |cons x r ih=>rw[List.all_cons,<-ih,depS,<-Bool.decide_and];congr 1;rw[Nat.max_le]
theorem okF_eq (f:Fc):okF f=(isNm f.nm&&decide (f.ps.length<=4)&&okS f.body&&decide (depS f.body<=20)&&f.ps.all isNm):=by
 unfold okF;rw[depS_all,okS_all];have:f.body.all (fun s=>decide (s.dep<=20)&&s.ok)=(f.body.all (fun s=>decide (s.dep<=20))&&f.body.all St.ok):=by
  induction f.body with
  |nil=>rfl
  |cons x r ih=>simp only[List.all_cons,ih];ac_rfl
 rw[this]
 ac_rfl
theorem okPg_v {p:Pg} (h:p.vs.all okV=false):okPg p=false:=by unfold okPg;rw[h];rfl
theorem okPg_f {p:Pg} (h:p.fs.all okF=false):okPg p=false:=by unfold okPg;rw[h];simp
theorem rvalid_any (p:Pg) (hvn: ∀v,v∈p.vs->v.nm.length<=1073741824) (P:Nat->Prop) (w:World) (A B:Option Addr) (n c m d:Nat) (hfn: ∀f,f∈p.fs->f.nm.length<=1073741824/\(∀y,y∈f.ps->y.length<=1073741824)/\wtS f.body<=1000000000) (hsrc:p.vs.all okV=true->p.fs.all okF=true->p.vs.length<=20->p.fs.length<=20->(srcP p).length<=1000000000) (hV:RdV w P (.slice A n c) p.vs) (hF:RdF w P (.slice B m d) p.fs):
  Calls prog 19 #[.agg #[.slice A n c, .slice B m d]] w fun e w'=>e= .returned (.bool (okPg p))/\Ext w w':=by
 have HTX:=hide (fun(h1:p.vs.all okV=true) (h2:p.fs.all okF=true) (h3:p.vs.length<=20) (h4:p.fs.length<=20) (W:World) (hW:Ext w W)=>rtext_any p (fun f hf=>okF_body (List.all_eq_true.1 h2 f hf)) (fun v hv=>by have:=List.all_eq_true.1 h1 v hv;unfold okV at this;simp only[Bool.and_eq_true,decide_eq_true_eq]at this;omega) P W A B n c m d (hV.keep (.of_ext hW) (fun _ hb _=>hb)) (hF.keep (.of_ext hW) (fun _ hb _=>hb)) (hsrc h1 h2 h3 h4));have HSR:=hide hsrc;have HPV:=hide (fun(h:p.vs.all okV=false)=>okPg_v h);have HPF:=hide (fun(h:p.fs.all okF=false)=>okPg_f h);have HPQ:=hide (show okPg p=(p.vs.all okV&&p.fs.all okF&&decide (p.vs.length<=20)&&decide (p.fs.length<=20)&&decide ((srcP p).length<=4000))from rfl);generalize okPg p=R at*;generalize srcP p=T at*;obtain⟨vs,fs⟩:=p;simp only at*;have HN:=hide (rdv_len hV);have HM:=hide (rdf_len hF);have hnm:=rdv_max hV;have hmm:=rdf_max hF;have HV:=hide hV;have HF:=hide hF;have HVN:=hide hvn;have HFN:=hide hfn;clear hV hF hvn hfn hsrc;have HE:=hide (Ext.alloc w (.cells #[.slice A n c, .slice B m d] 33));have HB:=hide (Blk.new w 33 #[.slice A n c, .slice B m d]);go_enter func19,ntmps19;go_wp2_with fail
 go_loopw [3] (fun vi wr=> ∃(j:Nat),vi= .int .i64 (j:Int)/\j<=n/\Hid ((vs.take j).all okV=true)/\Hid (Ext (w.alloc (.cells #[.slice A n c, .slice B m d] 33)) wr)) (fun vi _=>n-(intOf vi).toNat)
 case atStart=>exact⟨0,rfl,Nat.zero_le _,hide (by simp),hide (Ext.refl _)⟩
 case round=>
  obtain⟨j,rfl,hj,HJ,HZ⟩:=hrel;have f1:=(HB.out.ext HZ.out).cell;by_cases hlt:j<n
  ·have hlt':(j:Int)<n:=by omega
   have hjl:j<vs.length:=by have:=HN.out;omega
   obtain⟨bj,oj,rfl,hbj,y0,y1⟩:=rdv_at HV.out j hjl;have e0:=((HE.out.trans HZ.out).cell bj _ hbj).trans y0;have e1:=((HE.out.trans HZ.out).cell bj _ hbj).trans y1;have hbz:bj<wr.heap.size:=Nat.lt_of_lt_of_le hbj (HE.out.trans HZ.out).size;have HBad:=hide (fun h=>HPV.out (allG_bad okV hjl h));have HS:=hide (allG_succ okV hjl);have hn1:=HVN.out _ (List.getElem_mem hjl);clear y0 y1;generalize vs[j]=v at*;have HI:=hide (risname_any v.nm hn1);have HO:=hide (show okV v=(isNm v.nm&&decide (0<=v.sz)&&decide (v.sz<=2000))from rfl);obtain⟨nm,sz⟩:=v;simp only at*;generalize isNm nm=b at*;have HG:=hide (fun(h:okV ⟨nm,sz⟩=true)=>show(vs.take (j+1)).all okV=true by rw[HS.out,HJ.out,h];rfl);clear HS HJ hn1
   cases b with
   |false=>
    have hr:=HBad.out (by rw[HO.out];rfl);clear HBad HO HG;go_wp2_with (go_at_call 46;refine(HI.out _).mono ?_;rintro e w3 ⟨rfl,hE⟩;have HZ3:=hide (HZ.out.trans hE);clear hE HI);go_ret;exact⟨by rw[hr];rfl,HE.out.trans HZ3.out⟩
   |true=>
    by_cases h1:sz<0
    ·have hr:=HBad.out (by rw[HO.out,decide_eq_false (by omega)];rfl);clear HBad HO HG;go_wp2_with (go_at_call 46;refine(HI.out _).mono ?_;rintro e w3 ⟨rfl,hE⟩;have HZ3:=hide (HZ.out.trans hE);have f3:=(HB.out.ext HZ3.out).cell;have g1:=(hE.cell bj _ hbz).trans e1;clear hE HI f1 e0 e1);go_ret;exact⟨by rw[hr];rfl,HE.out.trans HZ3.out⟩
    ·by_cases h2:2000<sz
     ·have hr:=HBad.out (by rw[HO.out,decide_eq_false (show ¬sz<=2000 by omega)];simp);clear HBad HO HG;go_wp2_with (go_at_call 46;refine(HI.out _).mono ?_;rintro e w3 ⟨rfl,hE⟩;have HZ3:=hide (HZ.out.trans hE);have f3:=(HB.out.ext HZ3.out).cell;have g1:=(hE.cell bj _ hbz).trans e1;clear hE HI f1 e0 e1);go_ret;exact⟨by rw[hr];rfl,HE.out.trans HZ3.out⟩
     ·have HJ2:=hide (HG.out (by rw[HO.out,decide_eq_true (show 0<=sz by omega),decide_eq_true (show sz<=2000 by omega)];rfl));clear HBad HO HG;go_wp2_with (go_at_call 46;refine(HI.out _).mono ?_;rintro e w3 ⟨rfl,hE⟩;have HZ3:=hide (HZ.out.trans hE);have f3:=(HB.out.ext HZ3.out).cell;have g1:=(hE.cell bj _ hbz).trans e1;clear hE HI f1 e0 e1);go_roundw
      case rel=>exact⟨j+1,by go_num,by omega,HJ2,HZ3⟩
      case measure=>simp[intOf];omega
  ·have hlt': ¬(j:Int)<n:=by omega
   have hjn:j=n:=by omega
   have hQ:vs.take j=vs:=List.take_of_length_le (by have:=HN.out;omega);rw[hQ]at HJ;clear hQ HV HVN HPV;go_wp2_with fail;clear f1
   go_loopw [4] (fun vi wq=> ∃(k:Nat),vi= .int .i64 (k:Int)/\k<=m/\Hid ((fs.take k).all okF=true)/\Hid (Ext wr wq)) (fun vi _=>m-(intOf vi).toNat)
   case atStart=>exact⟨0,rfl,Nat.zero_le _,hide (by simp),hide (Ext.refl _)⟩
   case round=>
    obtain⟨k,rfl,hk,HK,HQ⟩:=hrel;have f1:=(HB.out.ext (HZ.out.trans HQ.out)).cell;have HG:=hide (HE.out.trans (HZ.out.trans HQ.out));by_cases hkt:k<m
    ·have hkt':(k:Int)<m:=by omega
     have hkl:k<fs.length:=by have:=HM.out;omega
     obtain⟨bj,oj,pv,bv,rfl,hbj,y0,y1,y2,hRn,hRs⟩:=rdf_at HF.out k hkl;have e0:=(HG.out.cell bj _ hbj).trans y0;have e1:=(HG.out.cell bj _ hbj).trans y1;have e2:=(HG.out.cell bj _ hbj).trans y2;have HBad:=hide (fun h=>HPF.out (allG_bad okF hkl h));have HS:=hide (allG_succ okF hkl);have hfn:=HFN.out _ (List.getElem_mem hkl);clear y0 y1 y2;generalize fs[k]=f at*;have HO:=hide (okF_eq f);have HGd:=hide (fun(h:okF f=true)=>show(fs.take (k+1)).all okF=true by rw[HS.out,HK.out,h];rfl);clear HS HK;have HI:=hide (risname_any f.nm hfn.1);obtain⟨nm,ps,body⟩:=f;simp only at*;generalize okF ⟨nm,ps,body⟩=fo at*;obtain⟨Ap,cp,rfl⟩:=rdn_form hRn;obtain⟨Ab,cb,rfl,_⟩:=hRs.form;have HPr:=hide (fun W (hW:Ext w W)=>rproper_all (wtS body+1) body (by omega) (by have:=hfn.2.2;omega) P W _ (hRs.keep (.of_ext hW) (fun _ hb _=>hb)));have HDp:=hide (fun W (hW:Ext w W)=>rdeep_all (wtS body+1) body (by omega) (by have:=hfn.2.2;omega) P W _ (hRs.keep (.of_ext hW) (fun _ hb _=>hb)));have hdl:=depS_le body;have hdl2:=hfn.2.2;have HFP:=hide hfn.2.1;have hpm:=rdn_max hRn;have HRn:=hide hRn;clear hRn hRs hfn;generalize body.length=nb at*;generalize isNm nm=b at*;generalize okS body=b2 at*;generalize depS body=dp at*;obtain⟨np,hnp⟩: ∃np,ps.length=np:=⟨_,rfl⟩
     have HNP:=hide hnp;rw[hnp]at e1 HRn HO hpm;try simp only[hnp]
     clear hnp;have HB5:=hide (Blk.new wr 68 #[.string (str nm), .slice Ap np cp, .slice Ab nb cb]);have HE5:=hide (Ext.alloc wr (.cells #[.string (str nm), .slice Ap np cp, .slice Ab nb cb] 68))
     cases b with
     |false=>
      have hr:=HBad.out (by rw[HO.out];rfl);clear HBad HO HGd;go_wp2_with (go_at_call 46;refine(HI.out _).mono ?_;rintro e w3 ⟨rfl,hE⟩;have HY:=hide hE;have g5:=(HB5.out.ext hE).cell;clear hE HI);go_ret;exact⟨by rw[hr];rfl,HG.out.trans (HE5.out.trans HY.out)⟩
     |true=>
      by_cases h4:(4:Int)<np
      ·have hr:=HBad.out (by rw[HO.out,decide_eq_false (show ¬np<=4 by omega)];rfl);clear HBad HO HGd;go_wp2_with (go_at_call 46;refine(HI.out _).mono ?_;rintro e w3 ⟨rfl,hE⟩;have HY:=hide hE;have g5:=(HB5.out.ext hE).cell;clear hE HI);go_ret;exact⟨by rw[hr];rfl,HG.out.trans (HE5.out.trans HY.out)⟩
      ·rw[decide_eq_true (show np<=4 by omega)]at HO
       cases b2 with
       |false=>
        have hr:=HBad.out (by rw[HO.out];rfl);clear HBad HO HGd;go_wp2_with (first|(go_at_call 46;refine(HI.out _).mono ?_;rintro e w3 ⟨rfl,hE⟩;have HY:=hide hE;have g5:=(HB5.out.ext hE).cell;clear hE HI)|(go_at_call 47;refine(HPr.out _ (HG.out.trans (HE5.out.trans HY.out))).mono ?_;rintro e w4 ⟨rfl,hE⟩;have HY4:=hide (HY.out.trans hE);clear HY;have HY:=HY4;clear HY4;clear g5;have g5:=(HB5.out.ext HY.out).cell;clear hE HPr));go_ret;exact⟨by rw[hr];rfl,HG.out.trans (HE5.out.trans HY.out)⟩
       |true=>
        by_cases h20:(20:Int)<dp
        ·have hr:=HBad.out (by rw[HO.out,decide_eq_false (show ¬dp<=20 by omega)];rfl);clear HBad HO HGd;go_wp2_with (first|(go_at_call 46;refine(HI.out _).mono ?_;rintro e w3 ⟨rfl,hE⟩;have HY:=hide hE;have g5:=(HB5.out.ext hE).cell;clear hE HI)|(go_at_call 47;refine(HPr.out _ (HG.out.trans (HE5.out.trans HY.out))).mono ?_;rintro e w4 ⟨rfl,hE⟩;have HY4:=hide (HY.out.trans hE);clear HY;have HY:=HY4;clear HY4;clear g5;have g5:=(HB5.out.ext HY.out).cell;clear hE HPr)|(go_at_call 48;refine(HDp.out _ (HG.out.trans (HE5.out.trans HY.out))).mono ?_;rintro e w5 ⟨rfl,hE⟩;have HY4:=hide (HY.out.trans hE);clear HY;have HY:=HY4;clear HY4;clear g5;have g5:=(HB5.out.ext HY.out).cell;clear hE HDp));go_ret;exact⟨by rw[hr];rfl,HG.out.trans (HE5.out.trans HY.out)⟩
        ·rw[decide_eq_true (show dp<=20 by omega)]at HO;go_wp2_with (first|(go_at_call 46;refine(HI.out _).mono ?_;rintro e w3 ⟨rfl,hE⟩;have HY:=hide hE;have g5:=(HB5.out.ext hE).cell;clear hE HI)|(go_at_call 47;refine(HPr.out _ (HG.out.trans (HE5.out.trans HY.out))).mono ?_;rintro e w4 ⟨rfl,hE⟩;have HY4:=hide (HY.out.trans hE);clear HY;have HY:=HY4;clear HY4;clear g5;have g5:=(HB5.out.ext HY.out).cell;clear hE HPr)|(go_at_call 48;refine(HDp.out _ (HG.out.trans (HE5.out.trans HY.out))).mono ?_;rintro e w5 ⟨rfl,hE⟩;have HY4:=hide (HY.out.trans hE);clear HY;have HY:=HY4;clear HY4;clear g5;have g5:=(HB5.out.ext HY.out).cell;clear hE HDp));clear g5 f1 e0 e1 e2;have HGY:=hide (HG.out.trans (HE5.out.trans HY.out))
         go_loopw [6] (fun vi wz=> ∃(i:Nat),vi= .int .i64 (i:Int)/\i<=np/\Hid ((ps.take i).all isNm=true)/\Hid (Ext (wr.alloc (.cells #[.string (str nm), .slice Ap np cp, .slice Ab nb cb] 68)) wz)) (fun vi _=>np-(intOf vi).toNat)
         case atStart=>exact⟨0,rfl,Nat.zero_le _,hide (by simp),HY⟩
         case round=>
          clear HY HGY;obtain⟨i,rfl,hi,HI2,HY⟩:=hrel;have f5:=(HB5.out.ext HY.out).cell;have HGY:=hide (HG.out.trans (HE5.out.trans HY.out));by_cases hit:i<np
          ·have hit':(i:Int)<np:=by omega
           have hil:i<ps.length:=by have:=HNP.out;omega
           obtain⟨b3,o3,rfl,hb3,p0⟩:=rdn_at HRn.out i hil;have g0:=(HGY.out.cell b3 _ hb3).trans p0;have HBad2:=hide (fun h=>HBad.out (show fo=false by rw[HO.out,allG_bad isNm hil h];simp));have HS2:=hide (allG_succ isNm hil);have hns:=HFP.out _ (List.getElem_mem hil);clear p0;generalize ps[i]=s at*;have HI3:=hide (risname_any s hns);generalize isNm s=b at*;have HI4:=hide (fun(h:b=true)=>show(ps.take (i+1)).all isNm=true by rw[HS2.out,HI2.out,h];rfl);clear HS2 HI2 hns
           cases b with
           |false=>
            have hr:=HBad2.out rfl;clear HBad2;go_wp2_with (go_at_call 46;refine(HI3.out _).mono ?_;rintro e w3 ⟨rfl,hE⟩;have HY3:=hide (HY.out.trans hE);clear hE HI3);go_ret;exact⟨by rw[hr];rfl,HG.out.trans (HE5.out.trans HY3.out)⟩
           |true=>
            have HI5:=hide (HI4.out rfl);clear HBad2 HI4;go_wp2_with (go_at_call 46;refine(HI3.out _).mono ?_;rintro e w3 ⟨rfl,hE⟩;have HY3:=hide (HY.out.trans hE);clear hE HI3);go_roundw
            case rel=>exact⟨i+1,by go_num,by omega,HI5,HY3⟩
            case measure=>simp[intOf];omega
          ·have hit': ¬(i:Int)<np:=by omega
           have hin:i=np:=by omega
           have hQ:ps.take i=ps:=List.take_of_length_le (by have:=HNP.out;omega);rw[hQ]at HI2;have HK2:=hide (HGd.out (by rw[HO.out,HI2.out];rfl));clear hQ HI2 HGd HO;go_wp2_with fail;go_roundw
           case rel=>exact⟨k+1,by go_num,by omega,HK2,hide (HQ.out.trans (HE5.out.trans HY.out))⟩
           case measure=>simp[intOf];omega
    ·have hkt': ¬(k:Int)<m:=by omega
     have hkm:k=m:=by omega
     have hQ:fs.take k=fs:=List.take_of_length_le (by have:=HM.out;omega);rw[hQ]at HK;have HR:=hide (HPQ.out);rw[HJ.out,HK.out,<-HN.out,<-HM.out]at HR;have HTY:=HTX;clear HTX;have HTX:=hide (fun(h1:n<=20) (h2:m<=20)=>HTY.out HJ.out HK.out (by rw[<-HN.out];exact h1) (by rw[<-HM.out];exact h2));have HSY:=hide (fun(h1:n<=20) (h2:m<=20)=>HSR.out HJ.out HK.out (by rw[<-HN.out];exact h1) (by rw[<-HM.out];exact h2));clear hQ HTY HSR HPQ;by_cases h1:(n:Int)<=20
     ·by_cases h2:(m:Int)<=20
      ·rw[decide_eq_true (show n<=20 by omega),decide_eq_true (show m<=20 by omega)]at HR;have HT2:=hide (HTX.out (by omega) (by omega));have hsl:=HSY.out (by omega) (by omega);have hst:(str T).size=T.length:=str_size T;clear HTX HSY;by_cases h3:(T.length:Int)<=4000
       ·have hcn:decide (T.length<=4000)=true:=decide_eq_true (by omega);have hcm:decide ((T.length:Int)<=4000)=true:=decide_eq_true h3;rw[hcn]at HR;go_wp2_with (go_at_call 45;refine(HT2.out _ HG.out).mono ?_;rintro e w3 ⟨rfl,hE⟩;have HG3:=hide (HG.out.trans hE);clear hE HT2);go_ret;exact⟨by rw[HR.out];rfl,HG3.out⟩
       ·have hcn:decide (T.length<=4000)=false:=decide_eq_false (by omega);have hcm:decide ((T.length:Int)<=4000)=false:=decide_eq_false h3;rw[hcn]at HR;go_wp2_with (go_at_call 45;refine(HT2.out _ HG.out).mono ?_;rintro e w3 ⟨rfl,hE⟩;have HG3:=hide (HG.out.trans hE);clear hE HT2);go_ret;exact⟨by rw[HR.out];rfl,HG3.out⟩
      ·rw[decide_eq_false (show ¬m<=20 by omega)]at HR;clear HTX HSY;go_wp2_with fail;go_ret;exact⟨by rw[HR.out];simp,HG.out⟩
     ·rw[decide_eq_false (show ¬n<=20 by omega)]at HR;clear HTX HSY;go_wp2_with fail;go_ret;exact⟨by rw[HR.out];simp,HG.out⟩
end Go.Proofs.YtelplgkppalmfaaGreatDoor
namespace Go.Proofs.YtelplgkppalmfaaGreatDoor
open Go.Proofs.Tryz
open Go.RowKit
theorem rvalid_w (p:Pg) (hw:pgW p<=6000000) (P:Nat->Prop) (w:World) (A B:Option Addr) (n c m d:Nat) (hV:RdV w P (.slice A n c) p.vs) (hF:RdF w P (.slice B m d) p.fs):
  Calls prog 19 #[.agg #[.slice A n c, .slice B m d]] w fun e w'=>e= .returned (.bool (okPg p))/\Ext w w':=
 rvalid_any p (fun v hv=>by have:=pgW_v hv;omega) P w A B n c m d
  (fun f hf=>⟨by have:=pgW_f hf;have:=pgW_n (f:=f);omega,fun y hy=>by have:=pgW_f hf;have:=pgW_p hy;omega,by have:=pgW_f hf;unfold Fc.wt at this;omega⟩)
  (fun h1 h2 h3 h4=>okPg_len hw h1 h2 h3 h4) hV hF
end Go.Proofs.YtelplgkppalmfaaGreatDoor
namespace Go.Proofs.YtelplgkppalmfaaGreatDoor
open Go.Proofs.Tryz
theorem elem_two (d v:UInt8) (y:List UInt8) (h:escV d=some v):elemL (92::d::y)=(v,2):=by
 have h1: ¬((92:UInt8).toNat<32\/126<(92:UInt8).toNat):=by decide
 simp only[elemL];rw[if_neg h1,if_neg (by simp),h]
theorem elem_escQ (c:UInt8) (h:okC c=true) (y:List UInt8):elemL (escQ c++y)=(c,(escQ c).length)/\(∃d r,escQ c++y=d::r/\d≠34):=by
 unfold escQ;by_cases h1:c=10
 ·subst h1;exact⟨elem_two 110 10 y (by decide),92,_,rfl,by decide⟩
 rw[if_neg h1];by_cases h2:c=9
 ·subst h2;exact⟨elem_two 116 9 y (by decide),92,_,rfl,by decide⟩
 rw[if_neg h2];by_cases h3:c=0
 ·subst h3;exact⟨elem_two 48 0 y (by decide),92,_,rfl,by decide⟩
 rw[if_neg h3];by_cases h4:c=92
 ·subst h4;exact⟨elem_two 92 92 y (by decide),92,_,rfl,by decide⟩
 rw[if_neg h4];by_cases h5:c=39
 ·subst h5;exact⟨elem_two 39 39 y (by decide),92,_,rfl,by decide⟩
 rw[if_neg h5];by_cases h6:c=34
 ·subst h6;exact⟨elem_two 34 34 y (by decide),92,_,rfl,by decide⟩
 rw[if_neg h6];refine⟨?_,c,y,rfl,h6⟩;have hk:32<=c.toNat/\c.toNat<=126:=by
  unfold okC at h;simp only[Bool.or_eq_true,decide_eq_true_eq,beq_iff_eq]at h;rcases h with((h|h)|h)|h
  ·exact h
  ·exact absurd h h1
  ·exact absurd h h2
  ·exact absurd h h3
 show elemL (c::y)=_;simp only[elemL];rw[if_neg (by omega),if_pos h4];rfl
theorem litL_quote (y:List UInt8): ∀l:List UInt8,l.all okC=true->litL (qescL l++34::y)=some (l,(qescL l).length+1)
 | [],_=>litL_end y
 |c::l,h=>by
  simp only[List.all_cons,Bool.and_eq_true]at h;obtain⟨h1,d,r,h2,h3⟩:=elem_escQ c h.1 (qescL l++34::y);have hl:=escQ_length c;have e:qescL (c::l)++34::y=d::r:=by rw[<-h2];simp[qescL]
  rw[h2]at h1;rw[e,litL_step h3 (by rw[h1];simp only;omega),h1,<-h2,List.drop_left,litL_quote y l h.2];simp only[Option.map_some,qescL,List.length_append,Nat.add_assoc]
theorem letB_34:letB 34=false:=by decide
theorem digB_34:digB 34=false:=by decide
theorem tokT_quote (l y:List UInt8) (h:l.all okC=true) (hl:l.length<=128):tokT (quoteL l++y)= .ok ((4,l,0),(quoteL l).length):=by
 have e:quoteL l++y=34::(qescL l++34::y):=by simp[quoteL]
 rw[e];simp only[tokT,letB_34,digB_34];rw[if_neg (by simp),if_neg (by simp),if_neg (by decide),if_pos trivial];unfold textT;rw[List.drop_succ_cons,List.drop_zero,litL_quote y l h];simp only;rw[if_neg (by omega)];simp[quoteL]
theorem skip_char {c:UInt8} {l:List UInt8} (h1:wsB c=false) (h2: ¬(c=47/\l.head? =some 47)):skipC false (c::l)=0:=by
 simp only[skipC];rw[if_neg (by simp[h1]),if_neg h2]
theorem dig_ofNat {d:Nat} (h:d<10):(UInt8.ofNat (48+d)).toNat=48+d:=by
 rw[UInt8.toNat_ofNat'];omega
theorem decL_spec: ∀(N n:Nat),n<N->(decL n).all digB=true/\decL n≠ []/\decV (decL n)=n/\(n≠0->(decL n).head? ≠some 48)/\(n<10->(decL n).length=1)
 |0,n,h=>by omega
 |N+1,n,h=>by
  rw[decL];by_cases hn:n<10
  ·rw[if_pos hn];have hd:=dig_ofNat hn;refine⟨?_,by simp,?_,?_,fun _=>rfl⟩
   ·simp[digB];omega
   ·simp[decV];omega
   ·intro h0 h1;simp only[List.head?_cons,Option.some.injEq]at h1;have:=congrArg UInt8.toNat h1;rw[hd]at this;have:48+n=48:=this;omega
  ·rw[if_neg hn];obtain⟨i1,i2,i3,i4,_⟩:=decL_spec N (n/10) (by omega);have hd:=dig_ofNat (Nat.mod_lt n (by omega:10>0));refine⟨?_,by simp,?_,?_,fun h=>by omega⟩
   ·rw[List.all_append,i1];simp[digB];omega
   ·unfold decV at i3⊢;rw[List.foldl_append,i3];simp only[List.foldl_cons,List.foldl_nil,hd];omega
   ·intro _;have:=i4 (by omega)
    cases hc:decL (n/10)with
    |nil=>exact absurd hc i2
    |cons c r=>rw[hc]at this;simpa using this
theorem decL_one (n:Nat) (h:1<(decL n).length):(decL n).head? ≠some 48:=by
 have hs:=decL_spec (n+1) n (by omega);by_cases h0:n<10
 ·have:=hs.2.2.2.2 h0;omega
 ·exact hs.2.2.2.1 (by omega)
theorem spanN_one {p:UInt8->Bool} {c:UInt8} {l:List UInt8} (h:p c=true):spanN p (c::l)=spanN p l+1:=by
 simp only[spanN];rw[if_pos h]
theorem kw_cases {l:List UInt8} (h:kwB l=true):l=[118,97,114]\/l=[102,117,110,99]\/l=[105,102]\/l=[101,108,115,101]\/l=[119,104,105,108,101]\/l=[114,101,116,117,114,110]:=by
 have:=List.contains_iff_mem.1 h;simpa[kws]using this
theorem dig_not_let {c:UInt8} (h:digB c=true):letB c=false/\c≠39/\c≠34/\wsB c=false/\c≠47:=by
 have key: ∀n:Fin 256,digB (UInt8.ofNat n.val)=true->letB (UInt8.ofNat n.val)=false/\UInt8.ofNat n.val≠39/\UInt8.ofNat n.val≠34/\wsB (UInt8.ofNat n.val)=false/\UInt8.ofNat n.val≠47:=by decide+kernel
 have:=key ⟨c.toNat,c.toNat_lt⟩;rw[UInt8.ofNat_toNat]at this;exact this h
theorem let_not {c:UInt8} (h:letB c=true):wsB c=false/\c≠47:=by
 have key: ∀n:Fin 256,letB (UInt8.ofNat n.val)=true->wsB (UInt8.ofNat n.val)=false/\UInt8.ofNat n.val≠47:=by decide+kernel
 have:=key ⟨c.toNat,c.toNat_lt⟩;rw[UInt8.ofNat_toNat]at this;exact this h
theorem two_cases {l:List UInt8} (h:two.contains l=true):l=[61,61]\/l=[33,61]\/l=[60,61]\/l=[62,61]\/l=[38,38]\/l=[124,124]:=by
 have:=List.contains_iff_mem.1 h;simpa[two]using this
theorem ones_cases {c:UInt8} (h:ones.contains c=true):c=40\/c=41\/c=123\/c=125\/c=91\/c=93\/c=44\/c=59\/c=61\/c=43\/c=45\/c=42\/c=47\/c=37\/c=60\/c=62\/c=33:=by
 have:=List.contains_iff_mem.1 h;simpa[ones]using this
end Go.Proofs.YtelplgkppalmfaaGreatDoor
namespace Go.Proofs.YtelplgkppalmfaaGreatDoor
open Go.Proofs.Tryz
abbrev K3:=Int×List UInt8×Int
def Lx (l:List UInt8) (ks:List K3):Prop:= ∀f a,l.length<f-> ∃us,toksF f l a= .ok us/\us.map (fun t=>(t.k,t.t,t.v))=ks
theorem lx_nil:Lx [] []:=fun f a _=>⟨[],by cases f<;>rfl,rfl⟩
theorem lx_ws {c:UInt8} {l:List UInt8} {ks:List K3} (hc:wsB c=true) (h:Lx l ks):Lx (c::l) ks:=fun f a hf=>by
 cases f with
 |zero=>simp at hf
 |succ f=>
  obtain⟨us,h1,h2⟩:=h (f+1) (a+1) (by simp only[List.length_cons]at hf;omega);refine⟨us,?_,h2⟩;rw[<-h1];have hs:skipC false (c::l)=skipC false l+1:=by simp[skipC,hc]
  simp only[toksF,hs,List.drop_succ_cons];rw[show a+(skipC false l+1)=a+1+skipC false l from by omega]
theorem lx_tok {m y:List UInt8} {k v:Int} {t:List UInt8} {ks:List K3} (ht:tokT (m++y)= .ok ((k,t,v),m.length)) (hm:m≠ []) (hs:skipC false (m++y)=0) (h:Lx y ks):Lx (m++y) ((k,t,v)::ks):=fun f a hf=>by
 cases f with
 |zero=>simp at hf
 |succ f=>
  have hl:0<m.length:=List.length_pos_iff.2 hm;obtain⟨us,h1,h2⟩:=h f (a+m.length) (by simp only[List.length_append]at hf;omega);obtain⟨c,r,hcr⟩: ∃c r,m++y=c::r:=by
   cases m with
   |nil=>exact absurd rfl hm
   |cons c r=>exact⟨c,r++y,rfl⟩
  refine⟨⟨k,t,v,(a:Nat)⟩::us,?_,by rw[List.map_cons,h2]⟩;have hd:(m++y).drop m.length=y:=List.drop_left;rw[hcr]at ht hs hd⊢;simp only[toksF,hs,List.drop_zero,ht,Nat.add_zero,hd,h1]
def Bd (y:List UInt8):Prop:= ∀c,y.head? =some c->prtB c=false
theorem bd_dig {c:UInt8} (h:prtB c=false):digB c=false/\letB c=false:=by
 unfold prtB at h;simp only[Bool.or_eq_false_iff]at h;exact⟨h.1.2,h.1.1⟩
theorem spanN_bd (p:UInt8->Bool) (y:List UInt8) (hs: ∀c,y.head? =some c->p c=false): ∀l:List UInt8,l.all p=true->spanN p (l++y)=l.length
 | [],_=>by
  cases y with
  |nil=>rfl
  |cons c r=>simp[spanN,hs c rfl]
 |c::l,h=>by
  simp only[List.all_cons,Bool.and_eq_true]at h;rw[List.cons_append,spanN_one h.1,spanN_bd p y hs l h.2];rfl
theorem lx_word {w y:List UInt8} {ks:List K3} (h1:w.all prtB=true) (h2:w.head?.any letB=true) (h3:kwB w=true\/w.length<=14) (hy:Bd y) (h:Lx y ks):Lx (w++y) ((if kwB w then 2 else 1,w,0)::ks):=by
 cases w with
 |nil=>cases h2
 |cons c r=>
  have hc:letB c=true:=h2;have hs:=spanN_bd prtB y hy (c::r) h1;obtain⟨q1,q2⟩:=let_not hc;refine lx_tok ?_ (by simp) (skip_char q1 (fun e=>q2 e.1)) h;rw[List.cons_append]at hs⊢;simp only[tokT];rw[if_pos hc];unfold wordT;rw[hs,<-List.cons_append,List.take_left]
  cases hk:kwB (c::r)with
  |true=>simp
  |false=>
   have: ¬14<(c::r).length:=by
    rcases h3 with h3|h3
    ·rw[hk]at h3;cases h3
    ·omega
   rw[if_neg (by simp),if_neg this];simp
theorem lx_num {n:Nat} {y:List UInt8} {ks:List K3} (hn:n<=2147483647) (hy:Bd y) (h:Lx y ks):Lx (decL n++y) ((3,[],(n:Int))::ks):=by
 obtain⟨h1,h2,h3,_,_⟩:=decL_spec (n+1) n (by omega);have hl:=decL_length 9 n (by omega);have ho:=decL_one n;generalize decL n=l at*
 cases l with
 |nil=>exact absurd rfl h2
 |cons c r=>
  have hs:=spanN_bd digB y (fun d hd=>(bd_dig (hy d hd)).1) (c::r) h1;simp only[List.all_cons,Bool.and_eq_true]at h1;obtain⟨q1,q2,q3,q4,q5⟩:=dig_not_let h1.1;refine lx_tok ?_ (by simp) (skip_char q4 (fun e=>q5 e.1)) h;rw[List.cons_append]at hs⊢;simp only[tokT];rw[if_neg (by simp[q1]),if_pos h1.1];unfold numT;rw[hs,<-List.cons_append,List.drop_left,List.take_left,h3,if_neg,if_neg]
  ·rintro(g|⟨g1,g2⟩|g)
   ·omega
   ·exact ho g1 g2
   ·omega
  ·cases y with
   |nil=>simp
   |cons d z=>simpa using hy d rfl
theorem lx_quote {t y:List UInt8} {ks:List K3} (ht:t.all okC=true) (hl:t.length<=128) (h:Lx y ks):Lx (quoteL t++y) ((4,t,0)::ks):=
 lx_tok (tokT_quote t y ht hl) (by simp[quoteL]) (by unfold quoteL;exact skip_char (by decide) (fun e=>absurd e.1 (by decide))) h
def lone:List UInt8:=[40,41,123,125,91,93,44,59,43,45,42,37]
theorem lx_one {c:UInt8} {y:List UInt8} {ks:List K3} (hc:c∈lone) (h:Lx y ks):Lx (c::y) ((5,[c],0)::ks):=by
 have key: ∀d∈lone,wsB d=false/\d≠47/\letB d=false/\digB d=false/\d≠39/\d≠34/\ones.contains d=true/\two.all (fun s=>s.head? !=some d)=true:=by decide+kernel
 obtain⟨k1,k2,k3,k4,k5,k6,k7,k8⟩:=key c hc;refine lx_tok (m:=[c]) ?_ (by simp) (skip_char k1 (fun e=>k2 e.1)) h;show tokT (c::y)=_;simp only[tokT];rw[if_neg (by simp[k3]),if_neg (by simp[k4]),if_neg k5,if_neg k6];unfold markT;rw[if_neg,if_pos (by simpa using k7)]
 ·rfl
 ·intro e;have hm:=List.contains_iff_mem.1 e;have:=List.all_eq_true.1 k8 _ hm;simp at this
theorem lx_mark {m y:List UInt8} {ks:List K3} (hm:two.contains m=true\/ ∃c,m=[c]/\ones.contains c=true) (h:Lx y ks):Lx (m++32::y) ((5,m,0)::ks):=by
 have h2:Lx (32::y) ks:=lx_ws (by decide) h;rcases hm with hm|⟨c,rfl,hc⟩
 ·rcases two_cases hm with rfl|rfl|rfl|rfl|rfl|rfl<;>exact lx_tok rfl (by simp) rfl h2
 ·rcases ones_cases hc with rfl|rfl|rfl|rfl|rfl|rfl|rfl|rfl|rfl|rfl|rfl|rfl|rfl|rfl|rfl|rfl|rfl<;>exact lx_tok rfl (by simp) rfl h2
theorem lx_bang {y:List UInt8} {ks:List K3} (hy:y.head? ≠some 61) (h:Lx y ks):Lx (33::y) ((5,[33],0)::ks):=by
 refine lx_tok (m:=[33]) ?_ (by simp) rfl h;show tokT (33::y)=_;simp only[tokT];rw[if_neg (by decide),if_neg (by decide),if_neg (by decide),if_neg (by decide)];unfold markT;rw[if_neg,if_pos (show((33::y).head?.any fun c=>ones.contains c)=true from rfl)]
 ·rfl
 ·intro e;rcases two_cases e with e|e|e|e|e|e
  ·simp at e
  ·cases y with
   |nil=>simp at e
   |cons d z=>simp at e;exact hy (by rw[e];rfl)
  ·simp at e
  ·simp at e
  ·simp at e
  ·simp at e
theorem lx_toks {l:List UInt8} {ks:List K3} (h:Lx l ks) (hl:l.length<=4000): ∃us,toksR l=(us,0,0)/\us.map (fun t=>(t.k,t.t,t.v))=ks:=by
 obtain⟨us,h1,h2⟩:=h (l.length+1) 0 (by omega);exact⟨us,by unfold toksR toks;rw[if_neg (by omega),h1],h2⟩
end Go.Proofs.YtelplgkppalmfaaGreatDoor
namespace Go.Proofs.YtelplgkppalmfaaGreatDoor
open Go.Proofs.Tryz
def kM (c:UInt8):K3:=(5,[c],0)
def tkPar (b:Bool) (l:List K3):List K3:=if b then kM 40::(l++[kM 41])else l
def joinK:List (List K3)->List K3
 | []=>[]
 |x::r=>x++r.flatMap fun y=>kM 44::y
def tkShape (k:Int) (op nm tx:List UInt8) (v:Int) (ps:List Int) (ss:List (List K3)):List K3:=
 if k=1 then[(3,[],v)]
 else if k=2 then[(4,tx,0)]
 else if k=3 then[(1,nm,0)]
 else if k=4 then(1,nm,0)::kM 91::(ss.headD []++[kM 93])
 else if k=5 then(1,nm,0)::kM 40::(joinK ss++[kM 41])
 else if k=6 then(5,op,0)::tkPar (decide (ps.headD 0<7)) (ss.headD [])
 else if k=7 then tkPar (decide (ps.headD 0<lev op)) (ss.headD [])++(5,op,0)::tkPar (decide (ps.tail.headD 0<=lev op)) (ss.tail.headD [])
 else[]
mutual
def tkE:Ex->List K3| .mk k op nm tx v a=>tkShape k op nm tx v (a.map Ex.prec) (tkEs a)
def tkEs:List Ex->List (List K3)| []=>[]|x::r=>tkE x::tkEs r
end
theorem tkEs_map: ∀l,tkEs l=l.map tkE
 | []=>rfl
 |x::r=>by rw[tkEs,tkEs_map r];rfl
theorem bd_cons {c:UInt8} {y:List UInt8} (h:prtB c=false):Bd (c::y):=fun d hd=>by
 injection hd with hd;subst hd;exact h
theorem nm_word {nm y:List UInt8} {ks:List K3} (h:isNm nm=true) (hy:Bd y) (hk:Lx y ks):Lx (nm++y) ((1,nm,0)::ks):=by
 unfold isNm at h;simp only[Bool.and_eq_true,decide_eq_true_eq,Bool.not_eq_true']at h;obtain⟨⟨⟨h1,h2⟩,h3⟩,h4⟩:=h;have:=lx_word h4 h1 (.inr h2) hy hk;rwa [h3]at this
def Hd (l:List UInt8):Prop:=l≠ []/\l.head? ≠some 61
theorem hd_app {l y:List UInt8} (h:Hd l):Hd (l++y):=by
 obtain⟨h1,h2⟩:=h
 cases l with
 |nil=>exact absurd rfl h1
 |cons c r=>exact⟨by simp,by simpa using h2⟩
theorem nm_hd {nm:List UInt8} (h:isNm nm=true):Hd nm:=by
 unfold isNm at h;simp only[Bool.and_eq_true]at h;obtain⟨⟨⟨h1,_⟩,_⟩,_⟩:=h
 cases nm with
 |nil=>cases h1
 |cons c r=>exact⟨by simp,fun e=>by injection e with e;subst e;exact absurd (show letB 61=true from h1) (by decide)⟩
theorem op_mark {op:List UInt8} (h:0<lev op):two.contains op=true\/ ∃c,op=[c]/\ones.contains c=true:=by
 rcases lev_ways op with rfl|rfl|rfl|rfl|rfl|rfl|rfl|rfl|rfl|rfl|rfl|rfl|rfl|hn<;>first
  |exact .inl rfl
  |exact .inr ⟨_,rfl,rfl⟩
  |skip
 exact absurd h (by rw[hn.2];decide)
theorem par_hd {b:Bool} {s:List UInt8} (h:Hd s):Hd (par b s):=by
 cases b with
 |true=>exact⟨by simp[par],by simp[par]⟩
 |false=>exact h
def LxE (s:List UInt8) (t:List K3):Prop:=Hd s/\ ∀y ks,Bd y->Lx y ks->Lx (s++y) (t++ks)
theorem lx_par {b:Bool} {s:List UInt8} {t:List K3} (h:LxE s t):LxE (par b s) (tkPar b t):=by
 refine⟨par_hd h.1,fun y ks hy hk=> ?_⟩
 cases b with
 |true=>
  show Lx ((40::(s++[41]))++y) ((kM 40::(t++[kM 41]))++ks);rw[List.cons_append,List.cons_append,List.append_assoc,List.append_assoc];exact lx_one (by decide) (h.2 _ _ (bd_cons (by decide)) (lx_one (by decide) hk))
 |false=>exact h.2 y ks hy hk
theorem lx_join: ∀(l:List Ex),(∀x,x∈l->LxE (srcE x) (tkE x))-> ∀y ks,Bd y->Lx y ks->Lx (joinS [44,32] (srcs l)++y) (joinK (tkEs l)++ks):=by
 have tl: ∀(l:List Ex),(∀x,x∈l->LxE (srcE x) (tkE x))-> ∀y ks,Bd y->Lx y ks->Lx ((srcs l).flatMap (fun z=>[44,32]++z)++y) ((tkEs l).flatMap (fun z=>kM 44::z)++ks)/\Bd ((srcs l).flatMap (fun z=>[44,32]++z)++y):=by
  intro l
  induction l with
  |nil=>exact fun _ y ks hy hk=>⟨hk,hy⟩
  |cons x r ih=>
   intro hx y ks hy hk;obtain⟨h1,h2⟩:=ih (fun z hz=>hx z (List.mem_cons_of_mem _ hz)) y ks hy hk;have h3:=(hx x (List.mem_cons_self ..)).2 _ _ h2 h1;simp only[srcs,tkEs,List.flatMap_cons,List.append_assoc,List.cons_append,List.nil_append];exact⟨lx_one (by decide) (lx_ws (by decide) h3),bd_cons (by decide)⟩
 intro l hx y ks hy hk
 cases l with
 |nil=>exact hk
 |cons x r=>
  obtain⟨h1,h2⟩:=tl r (fun z hz=>hx z (List.mem_cons_of_mem _ hz)) y ks hy hk;have h3:=(hx x (List.mem_cons_self ..)).2 _ _ h2 h1;simp only[srcs,tkEs,joinS,joinK,List.append_assoc];exact h3
theorem lxE_all: ∀(m:Nat) (x:Ex),x.wt<=m->x.ok=true->LxE (srcE x) (tkE x)
 |0,x,hm,_=>absurd hm (by have:=x.wt_eq;omega)
 |m+1, .mk k op nm tx v a,hm,h=>by
  have hw:=(Ex.mk k op nm tx v a).wt_eq;simp only[Ex.op,Ex.nm,Ex.tx,Ex.args]at hw;rw[Ex.ok,Bool.and_eq_true]at h;obtain⟨h1,h2⟩:=h;rw[okL_all]at h2;have ih: ∀y,y∈a->LxE (srcE y) (tkE y):=fun y hy=>lxE_all m y (by have:=wtL_mem hy;omega) (List.all_eq_true.1 h2 y hy);rw[srcE,tkE];by_cases k1:k=1
  ·subst k1;rw[if_pos rfl]at h1;simp only[Bool.and_eq_true,decide_eq_true_eq]at h1;have hv:((v.toNat:Nat):Int)=v:=by omega
   obtain⟨d1,d2,_⟩:=decL_spec (v.toNat+1) v.toNat (by omega);refine⟨⟨by simpa[shapeE]using d2,?_⟩,fun y ks hy hk=> ?_⟩
   ·show(decL v.toNat).head? ≠some 61
    cases hl:decL v.toNat with
    |nil=>simp
    |cons c r=>
     rw[hl]at d1;simp only[List.all_cons,Bool.and_eq_true]at d1;exact fun e=>by injection e with e;subst e;exact absurd d1.1 (by decide)
   ·have:=lx_num (n:=v.toNat) (by omega) hy hk;rw[hv]at this;exact this
  rw[if_neg k1]at h1;by_cases k2:k=2
  ·subst k2;rw[if_pos rfl]at h1;simp only[Bool.and_eq_true,okTx,decide_eq_true_eq]at h1;exact⟨⟨by simp[shapeE,quoteL],by simp[shapeE,quoteL]⟩,fun y ks hy hk=>lx_quote h1.1.1.1 h1.1.1.2 hk⟩
  rw[if_neg k2]at h1;by_cases k3:k=3
  ·subst k3;rw[if_pos rfl]at h1;simp only[Bool.and_eq_true]at h1;exact⟨nm_hd h1.1.1,fun y ks hy hk=>nm_word h1.1.1 hy hk⟩
  rw[if_neg k3]at h1;by_cases k4:k=4
  ·subst k4;rw[if_pos rfl]at h1;simp only[Bool.and_eq_true,beq_iff_eq]at h1;obtain⟨z,rfl⟩:=List.length_eq_one_iff.1 h1.2;have hz:=ih z (by simp);refine⟨hd_app (hd_app (hd_app (nm_hd h1.1.1))),fun y ks hy hk=> ?_⟩;show Lx (nm++[91]++srcE z++[93]++y) ((1,nm,0)::kM 91::(tkE z++[kM 93])++ks);simp only[List.append_assoc,List.cons_append,List.nil_append];exact nm_word h1.1.1 (bd_cons (by decide)) (lx_one (by decide) (hz.2 _ _ (bd_cons (by decide)) (lx_one (by decide) hk)))
  rw[if_neg k4]at h1;by_cases k5:k=5
  ·subst k5;rw[if_pos rfl]at h1;simp only[Bool.and_eq_true]at h1;refine⟨hd_app (hd_app (hd_app (nm_hd h1.1.1))),fun y ks hy hk=> ?_⟩;show Lx (nm++[40]++joinS [44,32] (srcs a)++[41]++y) ((1,nm,0)::kM 40::(joinK (tkEs a)++[kM 41])++ks);simp only[List.append_assoc,List.cons_append,List.nil_append];exact nm_word h1.1.1 (bd_cons (by decide)) (lx_one (by decide) (lx_join a ih _ _ (bd_cons (by decide)) (lx_one (by decide) hk)))
  rw[if_neg k5]at h1;by_cases k6:k=6
  ·subst k6;rw[if_pos rfl]at h1;simp only[Bool.and_eq_true,Bool.or_eq_true,beq_iff_eq]at h1;obtain⟨z,rfl⟩:=List.length_eq_one_iff.1 h1.2;have hz:=lx_par (b:=decide (z.prec<7)) (ih z (by simp));rcases h1.1.1 with rfl|rfl
   ·refine⟨⟨by simp[shapeE],by simp[shapeE]⟩,fun y ks hy hk=> ?_⟩;show Lx ([45]++par (decide (z.prec<7)) (srcE z)++y) (kM 45::tkPar (decide (z.prec<7)) (tkE z)++ks);simp only[List.append_assoc,List.cons_append,List.nil_append];exact lx_one (by decide) (hz.2 _ _ hy hk)
   ·refine⟨⟨by simp[shapeE],by simp[shapeE]⟩,fun y ks hy hk=> ?_⟩;show Lx ([33]++par (decide (z.prec<7)) (srcE z)++y) (kM 33::tkPar (decide (z.prec<7)) (tkE z)++ks);simp only[List.append_assoc,List.cons_append,List.nil_append];exact lx_bang (hd_app hz.1).2 (hz.2 _ _ hy hk)
  rw[if_neg k6]at h1;by_cases k7:k=7
  ·subst k7;rw[if_pos rfl]at h1;simp only[Bool.and_eq_true,beq_iff_eq,decide_eq_true_eq]at h1;obtain⟨z,u,rfl⟩: ∃y z,a=[y,z]:=by
    match a,h1.2 with
    | [y,z],_=>exact⟨y,z,rfl⟩
   have hz:=lx_par (b:=decide (z.prec<lev op)) (ih z (by simp));have hu:=lx_par (b:=decide (u.prec<=lev op)) (ih u (by simp));refine⟨hd_app (hd_app hz.1),fun y ks hy hk=> ?_⟩;show Lx (par (decide (z.prec<lev op)) (srcE z)++([32]++op++[32])++par (decide (u.prec<=lev op)) (srcE u)++y) (tkPar (decide (z.prec<lev op)) (tkE z)++(5,op,0)::tkPar (decide (u.prec<=lev op)) (tkE u)++ks);simp only[List.append_assoc,List.cons_append,List.nil_append];exact hz.2 _ _ (bd_cons (by decide)) (lx_ws (by decide) (lx_mark (op_mark h1.1.1) (hu.2 _ _ hy hk)))
  ·rw[if_neg k7]at h1
   cases h1
theorem lxE_any {x:Ex} (h:x.ok=true):LxE (srcE x) (tkE x):=lxE_all _ x (Nat.le_refl _) h
end Go.Proofs.YtelplgkppalmfaaGreatDoor
namespace Go.Proofs.YtelplgkppalmfaaGreatDoor
open Go.Proofs.Tryz
def kW (l:List UInt8):K3:=(2,l,0)
def wReturn:List UInt8:=[114,101,116,117,114,110]
theorem lx_kw {w y:List UInt8} {ks:List K3} (hw:kwB w=true) (hy:Bd y) (h:Lx y ks):Lx (w++y) (kW w::ks):=by
 have hk:w.all prtB=true/\w.head?.any letB=true:=by rcases kw_cases hw with rfl|rfl|rfl|rfl|rfl|rfl<;>decide
 have:=lx_word hk.1 hk.2 (.inl hw) hy h;rwa [hw]at this
end Go.Proofs.YtelplgkppalmfaaGreatDoor
namespace Go.Proofs.YtelplgkppalmfaaGreatDoor
open Go.Proofs.Tryz
def wFunc:List UInt8:=[102,117,110,99]
end Go.Proofs.YtelplgkppalmfaaGreatDoor
namespace Go.Proofs.YtelplgkppalmfaaGreatDoor
open Go.Proofs.Tryz
def Is (l:List Tok) (ks:List K3):Prop:=l.map (fun t=>(t.k,t.t,t.v))=ks
theorem is_cons {l:List Tok} {k v:Int} {t:List UInt8} {ks:List K3} (h:Is l ((k,t,v)::ks)):(hdT l).k=k/\(hdT l).t=t/\(hdT l).v=v/\Is l.tail ks:=by
 cases l with
 |nil=>cases h
 |cons a r=>
  injection h with h1 h2;injection h1 with a1 a2;injection a2 with a2 a3;exact⟨a1,a2,a3,h2⟩
theorem is_isL {l:List Tok} {v:Int} {t:List UInt8} {ks:List K3} (h:Is l ((5,t,v)::ks)) (s:List UInt8):isL s l=(t==s):=by
 obtain⟨h1,h2,_,_⟩:=is_cons h;unfold isL;rw[h1,h2];rfl
def Stop (p:Int) (ks:List K3):Prop:= ∃t v r,ks=(5,t,v)::r/\t≠ [91]/\t≠ [40]/\lev t<=p
theorem stop_kM {c:UInt8} {ks:List K3} {p:Int} (h:c∈ [41,93,44,59,123]) (hp:0<=p):Stop p (kM c::ks):=by
 have key: ∀d∈ [41,93,44,59,123],([d]:List UInt8)≠ [91]/\([d]:List UInt8)≠ [40]/\lev [d]=0:=by decide+kernel
 obtain⟨h1,h2,h3⟩:=key c h;exact⟨[c],0,ks,rfl,h1,h2,by rw[h3];exact hp⟩
theorem Stop.mono {p q:Int} {ks:List K3} (h:Stop p ks) (hq:p<=q):Stop q ks:=by
 obtain⟨t,v,r,h1,h2,h3,h4⟩:=h;exact⟨t,v,r,h1,h2,h3,by omega⟩
def RdP (t:List K3) (x:Ex):Prop:= ∀l ks F p,Is l (t++ks)->Stop p ks->4*t.length+4<=F-> ∃r,Is r ks/\pPrim F l= .ok (x,r)
def RdX (x:Ex):Prop:= ∀n l ks F,Is l (tkE x++ks)->n<=x.prec->Stop x.prec ks->4*(tkE x).length+8<=F-> ∃r c,Is r ks/\1<=c/\c<=(tkE x).length/\pExpr F n l=pLoop (F-c) n x r
theorem loop_stop {F:Nat} {n p:Int} {x:Ex} {r:List Tok} {ks:List K3} (hr:Is r ks) (hs:Stop p ks) (hp:p<n) (hF:1<=F):pLoop F n x r= .ok (x,r):=by
 obtain⟨t,v,q,rfl,_,_,hl⟩:=hs;obtain⟨h1,h2,_,_⟩:=is_cons hr;obtain⟨F,rfl⟩: ∃G,F=G+1:=⟨F-1,by omega⟩
 rw[pLoop,if_neg (by rw[h2];omega)]
theorem rdx_ok {x:Ex} (h:RdX x) {n q:Int} {l:List Tok} {ks:List K3} {F:Nat} (hl:Is l (tkE x++ks)) (hn:n<=x.prec) (hs:Stop q ks) (hq:q<n) (hF:4*(tkE x).length+8<=F): ∃r,Is r ks/\pExpr F n l= .ok (x,r):=by
 obtain⟨r,c,h1,h2,h3,h4⟩:=h n l ks F hl hn (hs.mono (by omega)) hF;exact⟨r,h1,by rw[h4];exact loop_stop h1 hs hq (by omega)⟩
theorem rdx_prim {x:Ex} (h:RdP (tkE x) x) (hl:1<=(tkE x).length):RdX x:=fun n l ks F hi hn hs hF=>by
 obtain⟨F,rfl⟩: ∃G,F=G+1:=⟨F-1,by omega⟩
 obtain⟨r,h1,h2⟩:=h l ks F _ hi hs (by omega);exact⟨r,1,h1,Nat.le_refl _,hl,by rw[pExpr,h2];rfl⟩
theorem rdp_paren {x:Ex} (h:RdX x) (hp:1<=x.prec):RdP (tkPar true (tkE x)) x:=fun l ks F p hi hs hF=>by
 have hi:Is l (kM 40::(tkE x++(kM 41::ks))):=by
  have:tkPar true (tkE x)++ks=kM 40::(tkE x++(kM 41::ks)):=by simp[tkPar]
  rw[<-this];exact hi
 have hlen:(tkPar true (tkE x)).length=(tkE x).length+2:=by simp[tkPar]
 obtain⟨F,rfl⟩: ∃G,F=G+1:=⟨F-1,by omega⟩
 obtain⟨k1,k2,_,k4⟩:=is_cons hi;obtain⟨r,h1,h2⟩:=rdx_ok h (n:=1) (q:=0) (F:=F) k4 hp (stop_kM (by simp) (Int.le_refl _)) (by omega) (by omega);obtain⟨m1,m2,_,m4⟩:=is_cons h1;refine⟨r.tail,m4,?_⟩;have e1:isL sMi l=false:=by rw[is_isL hi];rfl
 have e2:isL sNo l=false:=by rw[is_isL hi];rfl
 have e3:isL sLp l=true:=by rw[is_isL hi];rfl
 have e4:isL sRp r=true:=by rw[is_isL h1];rfl
 rw[pPrim,if_neg (by rw[k1];decide),if_neg (by rw[k1];decide),if_neg (by rw[k1];decide),e1,e2,if_neg (by simp)];unfold wantL;rw[e3,if_pos rfl];show((pExpr F 1 l.tail).then fun x r=>(wantL sRp r).then fun _ r=> .ok (x,r))=_;rw[h2];show((wantL sRp r).then fun _ r=> .ok (x,r))=_;unfold wantL;rw[e4,if_pos rfl];rfl
end Go.Proofs.YtelplgkppalmfaaGreatDoor
namespace Go.Proofs.YtelplgkppalmfaaGreatDoor
open Go.Proofs.Tryz
theorem prim_exp {t:List K3} {x:Ex} (h:RdP t x) {n p:Int} {l:List Tok} {ks:List K3} {F:Nat} (hi:Is l (t++ks)) (hs:Stop p ks) (hF:4*t.length+5<=F): ∃r,Is r ks/\pExpr F n l=pLoop (F-1) n x r:=by
 obtain⟨F,rfl⟩: ∃G,F=G+1:=⟨F-1,by omega⟩
 obtain⟨r,h1,h2⟩:=h l ks F p hi hs (by omega);exact⟨r,h1,by rw[pExpr,h2];rfl⟩
theorem want_is {l:List Tok} {c:UInt8} {ks:List K3} (h:Is l (kM c::ks)):wantL [c] l= .ok ((),l.tail)/\Is l.tail ks:=by
 have e:isL [c] l=true:=by rw[is_isL h];simp
 exact⟨by unfold wantL;rw[e,if_pos rfl],(is_cons h).2.2.2⟩
theorem no_hd {k:Int} {t u v:List UInt8} (h:((k==5||k==2)&&(t==u||t==v))=false):((k==5||k==2)&&t==u)=false/\((k==5||k==2)&&t==v)=false:=by
 revert h
 cases (k==5||k==2)<;>cases (t==u)<;>cases (t==v)<;>simp
structure Rd (x:Ex):Prop where
 rx:RdX x
 rp:x.k≠7->RdP (tkE x) x
 rh: ∃c r,tkE x=c::r/\((c.1==5||c.1==2)&&(c.2.1==[41]||c.2.1==[59]))=false
 rq:1<=x.prec
theorem args_back: ∀(a:List Ex),a≠ []->(∀x,x∈a->Rd x)-> ∀acc l ks F,Is l (joinK (tkEs a)++kM 41::ks)->4*(joinK (tkEs a)).length+12<=F-> ∃r,Is r ks/\pArgs1 F acc l= .ok (acc++a,r)
 | [],h,_,_,_,_,_,_,_=>absurd rfl h
 | [x],_,hx,acc,l,ks,F,hi,hF=>by
  obtain⟨F,rfl⟩: ∃G,F=G+1:=⟨F-1,by omega⟩
  have hi:Is l (tkE x++kM 41::ks):=by simpa[tkEs,joinK]using hi
  have hF:4*(tkE x).length+12<=F+1:=by simpa[tkEs,joinK]using hF
  obtain⟨r,h1,h2⟩:=rdx_ok (hx x (by simp)).rx (n:=1) (q:=0) (F:=F) hi (hx x (by simp)).rq (stop_kM (by simp) (Int.le_refl _)) (by omega) (by omega);obtain⟨h3,h4⟩:=want_is h1;have e:isL sRp r=true:=by rw[is_isL h1];rfl
  refine⟨r.tail,h4,?_⟩;rw[pArgs1,h2];show(if isL sRp r then _ else _)=_;rw[e,if_pos rfl]
 |x::y::r,_,hx,acc,l,ks,F,hi,hF=>by
  obtain⟨F,rfl⟩: ∃G,F=G+1:=⟨F-1,by omega⟩
  have ej:joinK (tkEs (x::y::r))=tkE x++kM 44::joinK (tkEs (y::r)):=by simp[tkEs,joinK]
  rw[ej]at hi hF;rw[List.append_assoc,List.cons_append]at hi;simp only[List.length_append,List.length_cons]at hF;obtain⟨q,h1,h2⟩:=rdx_ok (hx x (by simp)).rx (n:=1) (q:=0) (F:=F) hi (hx x (by simp)).rq (stop_kM (by simp) (Int.le_refl _)) (by omega) (by omega);obtain⟨h3,h4⟩:=want_is h1;have e:isL sRp q=false:=by rw[is_isL h1];rfl
  obtain⟨r2,g1,g2⟩:=args_back (y::r) (by simp) (fun z hz=>hx z (List.mem_cons_of_mem _ hz)) (acc++[x]) q.tail ks F h4 (by omega);refine⟨r2,g1,?_⟩;rw[pArgs1,h2];show(if isL sRp q then _ else(wantL sCm q).then _)=_;rw[e,if_neg (by simp),show wantL sCm q= .ok ((),q.tail)from h3];show pArgs1 F (acc++[x]) q.tail=_;rw[g2,List.append_assoc];rfl
theorem rd_all: ∀(m:Nat) (x:Ex),x.wt<=m->x.ok=true->Rd x
 |0,x,hm,_=>absurd hm (by have:=x.wt_eq;omega)
 |m+1, .mk k op nm tx v a,hm,h=>by
  have hw:=(Ex.mk k op nm tx v a).wt_eq;simp only[Ex.op,Ex.nm,Ex.tx,Ex.args]at hw;rw[Ex.ok,Bool.and_eq_true]at h;obtain⟨h1,h2⟩:=h;rw[okL_all]at h2;have ih: ∀y,y∈a->Rd y:=fun y hy=>rd_all m y (by have:=wtL_mem hy;omega) (List.all_eq_true.1 h2 y hy);have mkp: ∀(x:Ex),RdP (tkE x) x->(∃c r,tkE x=c::r/\((c.1==5||c.1==2)&&(c.2.1==[41]||c.2.1==[59]))=false)->1<=x.prec->Rd x:=fun x h1 h2 h3=>⟨rdx_prim h1 (by obtain⟨c,r,e,_⟩:=h2;rw[e];simp),fun _=>h1,h2,h3⟩
  by_cases k1:k=1
  ·subst k1;rw[if_pos rfl]at h1;simp only[Bool.and_eq_true,beq_iff_eq]at h1;obtain⟨⟨_,⟨rfl,rfl⟩,rfl⟩,ha⟩:=h1;obtain rfl:=List.eq_nil_of_length_eq_zero ha;refine mkp _ (fun l ks F p hi hs hF=> ?_) ⟨_,_,rfl,rfl⟩ (by simp[Ex.prec,Ex.k]);obtain⟨F,rfl⟩: ∃G,F=G+1:=⟨F-1,by omega⟩
   obtain⟨q1,q2,q3,q4⟩:=is_cons (show Is l ((3,[],v)::ks)from hi);exact⟨l.tail,q4,by rw[pPrim,if_pos q1,q3]⟩
  rw[if_neg k1]at h1;by_cases k2:k=2
  ·subst k2;rw[if_pos rfl]at h1;simp only[Bool.and_eq_true,beq_iff_eq]at h1;obtain⟨⟨_,⟨rfl,rfl⟩,rfl⟩,ha⟩:=h1;obtain rfl:=List.eq_nil_of_length_eq_zero ha;refine mkp _ (fun l ks F p hi hs hF=> ?_) ⟨_,_,rfl,rfl⟩ (by simp[Ex.prec,Ex.k]);obtain⟨F,rfl⟩: ∃G,F=G+1:=⟨F-1,by omega⟩
   obtain⟨q1,q2,q3,q4⟩:=is_cons (show Is l ((4,tx,0)::ks)from hi);exact⟨l.tail,q4,by rw[pPrim,if_neg (by rw[q1];decide),if_pos q1,q2]⟩
  rw[if_neg k2]at h1;by_cases k3:k=3
  ·subst k3;rw[if_pos rfl]at h1;simp only[Bool.and_eq_true,beq_iff_eq]at h1;obtain⟨⟨_,⟨rfl,rfl⟩,rfl⟩,ha⟩:=h1;obtain rfl:=List.eq_nil_of_length_eq_zero ha;refine mkp _ (fun l ks F p hi hs hF=> ?_) ⟨_,_,rfl,rfl⟩ (by simp[Ex.prec,Ex.k]);have hi:Is l ((1,nm,0)::ks):=hi;have hF:8<=F:=by simpa[tkE,tkShape]using hF
   obtain⟨F,rfl⟩: ∃G,F=G+1+1:=⟨F-2,by omega⟩
   obtain⟨q1,q2,q3,q4⟩:=is_cons hi;obtain⟨t,w,r,rfl,s1,s2,_⟩:=hs;have e1:isL sLs l.tail=false:=by rw[is_isL q4];exact beq_eq_false_iff_ne.2 s1
   have e2:isL sLp l.tail=false:=by rw[is_isL q4];exact beq_eq_false_iff_ne.2 s2
   exact⟨l.tail,q4,by rw[pPrim,if_neg (by rw[q1];decide),if_neg (by rw[q1];decide),if_pos q1,q2,pNamed,e1,e2,if_neg (by simp),if_neg (by simp)]⟩
  rw[if_neg k3]at h1;by_cases k4:k=4
  ·subst k4;rw[if_pos rfl]at h1;simp only[Bool.and_eq_true,beq_iff_eq]at h1;obtain⟨⟨_,⟨rfl,rfl⟩,rfl⟩,ha⟩:=h1;obtain⟨z,rfl⟩:=List.length_eq_one_iff.1 ha;have hz:=ih z (by simp);have et:tkE (.mk 4 [] nm [] 0 [z])=(1,nm,0)::kM 91::(tkE z++[kM 93]):=rfl;refine mkp _ (fun l ks F p hi hs hF=> ?_) ⟨_,_,et,rfl⟩ (by simp[Ex.prec,Ex.k]);rw[et]at hi hF;simp only[List.cons_append,List.append_assoc,List.nil_append,List.length_cons,List.length_append,List.length_nil]at hi hF;obtain⟨F,rfl⟩: ∃G,F=G+1+1:=⟨F-2,by omega⟩
   obtain⟨q1,q2,q3,q4⟩:=is_cons hi;have e1:isL sLs l.tail=true:=by rw[is_isL q4];rfl
   obtain⟨_,_,_,q5⟩:=is_cons q4;obtain⟨r,g1,g2⟩:=rdx_ok hz.rx (n:=1) (q:=0) (F:=F) q5 hz.rq (stop_kM (by simp) (Int.le_refl _)) (by omega) (by omega);obtain⟨g3,g4⟩:=want_is g1;refine⟨r.tail,g4,?_⟩;rw[pPrim,if_neg (by rw[q1];decide),if_neg (by rw[q1];decide),if_pos q1,q2,pNamed,e1,if_pos rfl,g2];show(wantL sRs r).then _=_;rw[show wantL sRs r= .ok ((),r.tail)from g3];rfl
  rw[if_neg k4]at h1;by_cases k5:k=5
  ·subst k5;rw[if_pos rfl]at h1;simp only[Bool.and_eq_true,beq_iff_eq]at h1;obtain⟨_,⟨rfl,rfl⟩,rfl⟩:=h1;have et:tkE (.mk 5 [] nm [] 0 a)=(1,nm,0)::kM 40::(joinK (tkEs a)++[kM 41]):=rfl;refine mkp _ (fun l ks F p hi hs hF=> ?_) ⟨_,_,et,rfl⟩ (by simp[Ex.prec,Ex.k]);rw[et]at hi hF;simp only[List.cons_append,List.append_assoc,List.nil_append,List.length_cons,List.length_append,List.length_nil]at hi hF;obtain⟨F,rfl⟩: ∃G,F=G+1+1+1:=⟨F-3,by omega⟩
   obtain⟨q1,q2,q3,q4⟩:=is_cons hi;have e1:isL sLs l.tail=false:=by rw[is_isL q4];rfl
   have e2:isL sLp l.tail=true:=by rw[is_isL q4];rfl
   obtain⟨_,_,_,q5⟩:=is_cons q4;have fin: ∃r,Is r ks/\pArgs (F+1) l.tail.tail= .ok (a,r):=by
    cases a with
    |nil=>
     have q6:Is l.tail.tail (kM 41::ks):=q5;have e3:isL sRp l.tail.tail=true:=by rw[is_isL q6];rfl
     exact⟨_,(is_cons q6).2.2.2,by rw[pArgs,e3,if_pos rfl]⟩
    |cons x r=>
     have e3:isL sRp l.tail.tail=false:=by
      obtain⟨c,q,ec,hc⟩:=(ih x (by simp)).rh;have q6:Is l.tail.tail (c::(q++(r.flatMap fun y=>kM 44::tkE y)++kM 41::ks)):=by
       have:joinK (tkEs (x::r))++kM 41::ks=c::(q++(r.flatMap fun y=>kM 44::tkE y)++kM 41::ks):=by
        simp only[tkEs,joinK,ec,tkEs_map,List.flatMap_map,List.cons_append,List.append_assoc]
       rw[<-this];exact q5
      obtain⟨ck,ct,cv⟩:=c;obtain⟨d1,d2,_,_⟩:=is_cons q6;unfold isL;rw[d1,d2];exact(no_hd hc).1
     obtain⟨r2,g1,g2⟩:=args_back (x::r) (by simp) ih [] _ ks F q5 (by omega);exact⟨r2,g1,by rw[pArgs,e3,if_neg (by simp),g2];rfl⟩
   obtain⟨r,g1,g2⟩:=fin;refine⟨r,g1,?_⟩;rw[pPrim,if_neg (by rw[q1];decide),if_neg (by rw[q1];decide),if_pos q1,q2,pNamed,e1,if_neg (by simp),e2,if_pos rfl,g2];rfl
  rw[if_neg k5]at h1
  -- what stands in parentheses where its level is too low
  have inner: ∀(z:Ex) (b:Bool),Rd z->(b=false->z.k≠7)->RdP (tkPar b (tkE z)) z:=fun z b hz hb=>by
   cases b with
   |true=>exact rdp_paren hz.rx hz.rq
   |false=>exact hz.rp (hb rfl)
  by_cases k6:k=6
  ·subst k6;rw[if_pos rfl]at h1;simp only[Bool.and_eq_true,Bool.or_eq_true,beq_iff_eq]at h1;obtain⟨⟨ho,⟨rfl,rfl⟩,rfl⟩,ha⟩:=h1;obtain⟨z,rfl⟩:=List.length_eq_one_iff.1 ha;have hz:=ih z (by simp)
   have hin:=inner z (decide (z.prec<7)) hz (fun hb h7=>by
    have: ¬z.prec<7:=of_decide_eq_false hb;have hl:=lev_le z.op;unfold Ex.prec at this;rw[if_pos h7]at this
    omega)
   have et:tkE (.mk 6 op [] [] 0 [z])=(5,op,0)::tkPar (decide (z.prec<7)) (tkE z):=rfl;generalize decide (z.prec<7)=b at*;refine mkp _ (fun l ks F p hi hs hF=> ?_) ⟨_,_,et,by rcases ho with rfl|rfl<;>rfl⟩ (by simp[Ex.prec,Ex.k]);rw[et]at hi hF;simp only[List.cons_append,List.length_cons]at hi hF;obtain⟨F,rfl⟩: ∃G,F=G+1:=⟨F-1,by omega⟩
   obtain⟨q1,q2,q3,q4⟩:=is_cons hi;obtain⟨r,g1,g2⟩:=hin l.tail ks F p q4 hs (by omega);have e1:(isL sMi l||isL sNo l)=true:=by rw[is_isL hi,is_isL hi];rcases ho with rfl|rfl<;>rfl
   refine⟨r,g1,?_⟩;rw[pPrim,if_neg (by rw[q1];decide),if_neg (by rw[q1];decide),if_neg (by rw[q1];decide),e1,if_pos rfl,g2,q2];rfl
  rw[if_neg k6]at h1;by_cases k7:k=7
  ·subst k7;rw[if_pos rfl]at h1;simp only[Bool.and_eq_true,beq_iff_eq,decide_eq_true_eq]at h1;obtain⟨⟨ho,⟨rfl,rfl⟩,rfl⟩,ha⟩:=h1;obtain⟨z,u,rfl⟩: ∃y z,a=[y,z]:=by
    match a,ha with
    | [y,z],_=>exact⟨y,z,rfl⟩
   have hz:=ih z (by simp);have hu:=ih u (by simp);have et:tkE (.mk 7 op [] [] 0 [z,u])=tkPar (decide (z.prec<lev op)) (tkE z)++(5,op,0)::tkPar (decide (u.prec<=lev op)) (tkE u):=rfl;have ep:(Ex.mk 7 op [] [] 0 [z,u]).prec=lev op:=rfl;have hop:op≠ [91]/\op≠ [40]:=⟨fun e=>by subst e;exact absurd ho (by decide),fun e=>by subst e;exact absurd ho (by decide)⟩
   refine⟨fun n l ks F hi hn hs hF=> ?_,fun h=>absurd rfl h,?_,by rw[ep];omega⟩
   ·rw[ep]at hn hs;rw[et]at hi hF⊢;simp only[List.append_assoc,List.cons_append,List.length_append,List.length_cons]at hi hF⊢;have s1: ∃r c,Is r ((5,op,0)::(tkPar (decide (u.prec<=lev op)) (tkE u)++ks))/\1<=c/\c<=(tkPar (decide (z.prec<lev op)) (tkE z)).length/\pExpr F n l=pLoop (F-c) n z r:=by
     by_cases hw:z.prec<lev op
     ·rw[decide_eq_true hw]at hi hF⊢;obtain⟨r,g1,g2⟩:=prim_exp (n:=n) (F:=F) (rdp_paren hz.rx hz.rq) hi (p:=lev op) ⟨op,0,_,rfl,hop.1,hop.2,Int.le_refl _⟩ (by omega);exact⟨r,1,g1,Nat.le_refl _,by simp[tkPar],g2⟩
     ·rw[decide_eq_false hw]at hi hF⊢;exact hz.rx n l _ F hi (by omega) ⟨op,0,_,rfl,hop.1,hop.2,by omega⟩ (by have e:(tkPar false (tkE z)).length=(tkE z).length:=rfl;omega)
    obtain⟨r,c,g1,g2,g3,g4⟩:=s1;obtain⟨G,hG⟩: ∃G,F-c=G+1:=⟨F-c-1,by omega⟩
    obtain⟨q1,q2,_,q4⟩:=is_cons g1;have s2: ∃r2,Is r2 ks/\pExpr G (lev op+1) r.tail= .ok (u,r2):=by
     by_cases hw:u.prec<=lev op
     ·rw[decide_eq_true hw]at q4 hF;obtain⟨r2,m1,m2⟩:=prim_exp (n:=lev op+1) (F:=G) (rdp_paren hu.rx hu.rq) q4 hs (by omega);exact⟨r2,m1,by rw[m2];exact loop_stop m1 hs (by omega) (by omega)⟩
     ·rw[decide_eq_false hw]at q4 hF;exact rdx_ok hu.rx q4 (by omega) hs (by omega) (by have e:(tkPar false (tkE u)).length=(tkE u).length:=rfl;omega)
    obtain⟨r2,m1,m2⟩:=s2;refine⟨r2,c+1,m1,by omega,by omega,?_⟩;rw[g4,hG,pLoop,if_pos ⟨q1,by rw[q2];exact hn⟩,q2,m2,show F-(c+1)=G from by omega];rfl
   ·rw[et];by_cases hw:z.prec<lev op
    ·rw[decide_eq_true hw];exact⟨_,_,rfl,rfl⟩
    ·rw[decide_eq_false hw];obtain⟨c,q,ec,hc⟩:=hz.rh;exact⟨c,q++(5,op,0)::tkPar (decide (u.prec<=lev op)) (tkE u),by rw[show tkPar false (tkE z)=tkE z from rfl,ec];rfl,hc⟩
  ·rw[if_neg k7]at h1
   cases h1
theorem rd_any {x:Ex} (h:x.ok=true):Rd x:=rd_all _ x (Nat.le_refl _) h
end Go.Proofs.YtelplgkppalmfaaGreatDoor
namespace Go.Proofs.YtelplgkppalmfaaGreatDoor
open Go.Proofs.Tryz
theorem is_isK {l:List Tok} {v:Int} {t:List UInt8} {ks:List K3} (h:Is l ((2,t,v)::ks)) (s:List UInt8):isL s l=(t==s):=by
 obtain⟨h1,h2,_,_⟩:=is_cons h;unfold isL;rw[h1,h2];rfl
theorem name_is {l:List Tok} {v:Int} {t:List UInt8} {ks:List K3} (h:Is l ((1,t,v)::ks)):nameL l= .ok (t,l.tail)/\Is l.tail ks:=by
 obtain⟨h1,h2,_,h4⟩:=is_cons h;exact⟨by unfold nameL;rw[if_pos h1,h2],h4⟩
theorem Rd.no59 {z:Ex} (h:Rd z) {l:List Tok} {ks:List K3} (hl:Is l (tkE z++ks)):isL sSc l=false:=by
 obtain⟨⟨k,s,v⟩,r,e,hc⟩:=h.rh;rw[e]at hl;obtain⟨h1,h2,_,_⟩:=is_cons hl;unfold isL;rw[h1,h2];exact(no_hd hc).2
theorem kw_var {l:List Tok} {ks:List K3} {w:List UInt8} (h:Is l (kW w::ks)):isL sIf l=(w==sIf)/\isL sWhile l=(w==sWhile)/\isL sVar l=(w==sVar)/\isL sReturn l=(w==sReturn)/\Is l.tail ks:=
 ⟨is_isK h _,is_isK h _,is_isK h _,is_isK h _,(is_cons h).2.2.2⟩
end Go.Proofs.YtelplgkppalmfaaGreatDoor
namespace Go.Proofs.YtelplgkppalmfaaGreatDoor
open Go.Proofs.Tryz
end Go.Proofs.YtelplgkppalmfaaGreatDoor
namespace Go.Proofs.YtelplgkppalmfaaGreatDoor
open Go.Proofs.Tryz
def nmMain:List UInt8:=[109,97,105,110]
def retP (x:Ex):Pg:=⟨[],[⟨nmMain,[],[.mk 6 [] [x] [] []]⟩]⟩
theorem retP_ok {x:Ex} (h:okPg (retP x)=true):x.ok=true/\(srcE x).length+26<=4000:=by
 unfold okPg at h;simp only[Bool.and_eq_true,decide_eq_true_eq]at h;obtain⟨⟨⟨⟨_,h1⟩,_⟩,_⟩,h2⟩:=h;have hb:=okF_body (List.all_eq_true.1 h1 ⟨nmMain,[],[.mk 6 [] [x] [] []]⟩ (by simp[retP]));have hx:(St.mk 6 [] [x] [] []).ok=true:=by
  rw[okS_all]at hb;exact List.all_eq_true.1 hb _ (by simp)
 rw[St.ok,Bool.and_eq_true,Bool.and_eq_true]at hx;have hx2:=hx.1.2;rw[okL_all]at hx2;refine⟨List.all_eq_true.1 hx2 x (by simp),?_⟩;have e:srcP (retP x)=[102,117,110,99,32,109,97,105,110,40,41,32,123,10,9,114,101,116,117,114,110,32]++(srcE x++[59,10,125,10]):=by
  simp[srcP,retP,srcF,srcSs,srcSt,shapeS,srcs,blkS,tabs,joinS,nmMain,tFunc,tReturn]
 rw[e]at h2;simp only[List.length_append,List.length_cons,List.length_nil]at h2;omega
def retK (T:List K3):List K3:=kW wFunc::(1,nmMain,0)::kM 40::kM 41::kM 123::kW wReturn::(T++[kM 59,kM 125])
theorem lx_ret {S:List UInt8} {T:List K3} (h: ∀y ks,Bd y->Lx y ks->Lx (S++y) (T++ks)):Lx (exA++S++exB) (retK T):=by
 have e:exA++S++exB=wFunc++32::(nmMain++40::41::123::(wReturn++32::(S++[59,125]))):=by simp[exA,exB,wFunc,nmMain,wReturn]
 rw[e]
 exact lx_kw (w:=wFunc) (by decide) (bd_cons (by decide)) (lx_ws (c:=32) (by decide) (nm_word (by decide) (bd_cons (by decide)) (lx_one (c:=40) (by decide) (lx_one (c:=41) (by decide) (lx_one (c:=123) (by decide)
  (lx_kw (w:=wReturn) (by decide) (bd_cons (by decide)) (lx_ws (c:=32) (by decide) (h _ _ (bd_cons (by decide)) (lx_one (c:=59) (by decide) (lx_one (c:=125) (by decide) lx_nil))))))))))
theorem ret_back {x:Ex} {T:List K3} (hx: ∀l ks F,Is l (T++kM 59::ks)->4*T.length+8<=F-> ∃r,Is r (kM 59::ks)/\pExpr F 1 l= .ok (x,r)) (hn: ∀l ks,Is l (T++kM 59::ks)->isL sSc l=false) {us:List Tok} (h:Is us (retK T)):
  pProg (4*us.length+8) noPg us= .ok (retP x,[]):=by
 have hl:us.length=T.length+8:=by
  have:=congrArg List.length h;rw[List.length_map]at this;rw[this];simp[retK]
 obtain⟨G,hG⟩: ∃G,4*us.length+8=G+1+1+1+1+1:=⟨4*us.length+3,by omega⟩
 have hG2:4*T.length+8<=G:=by omega
 rw[hG];have h:Is us (kW wFunc::(1,nmMain,0)::kM 40::kM 41::kM 123::kW wReturn::(T++[kM 59,kM 125])):=h;obtain⟨_,_,e3,_,q1⟩:=kw_var h;have e4:wantL sFunc us= .ok ((),us.tail):=by unfold wantL;rw[is_isK h,if_pos (by decide)]
 have hne:us≠ []:=fun e=>by subst e;cases h
 obtain⟨n1,q2⟩:=name_is q1;obtain⟨w1,q3⟩:=want_is q2;have e5:isL sRp us.tail.tail.tail=true:=by rw[is_isL q3];rfl
 have q4:=(is_cons q3).2.2.2;obtain⟨w2,q5⟩:=want_is q4;have e6:isL sRb us.tail.tail.tail.tail.tail=false:=by rw[is_isK q5];rfl
 obtain⟨r1,r2,r3,r4,q6⟩:=kw_var q5;have q6:Is us.tail.tail.tail.tail.tail.tail (T++kM 59::[kM 125]):=by simpa using q6
 have e7:=hn _ _ q6;obtain⟨r,g1,g2⟩:=hx _ _ (G+1) q6 (by omega);obtain⟨w3,q7⟩:=want_is g1;have e8:isL sRb r.tail=true:=by rw[is_isL q7];rfl
 have q8:Is r.tail.tail []:=(is_cons q7).2.2.2;have e9:r.tail.tail=[]:=by cases hh:r.tail.tail with|nil=>rfl|cons a b=>rw[hh]at q8;cases q8
 have st:pStmt (G+1+1) us.tail.tail.tail.tail.tail= .ok (.mk 6 [] [x] [] [],r.tail):=by
  rw[pStmt,r1,r2,r3,r4,if_neg (by decide),if_neg (by decide),if_neg (by decide),if_pos (by decide),e7,if_neg (by simp),g2];show(wantL sSc r).then _=_;rw[show wantL sSc r= .ok ((),r.tail)from w3];rfl
 have bl:pBlock (G+1+1+1+1) us.tail.tail.tail.tail= .ok ([.mk 6 [] [x] [] []],[]):=by
  rw[pBlock,show wantL sLb us.tail.tail.tail.tail= .ok ((),us.tail.tail.tail.tail.tail)from w2];show pBlock1 (G+1+1+1) [] us.tail.tail.tail.tail.tail=_;rw[pBlock1,e6,if_neg (by simp),st];show pBlock1 (G+1+1) [.mk 6 [] [x] [] []] r.tail=_;rw[pBlock1,e8,if_pos rfl,e9]
 have fn:pFunc (G+1+1+1+1) us.tail= .ok (⟨nmMain,[],[.mk 6 [] [x] [] []]⟩,[]):=by
  unfold pFunc;rw[n1];show((wantL sLp us.tail.tail).then _:PR Fc)=_;rw[show wantL sLp us.tail.tail= .ok ((),us.tail.tail.tail)from w1];show((pNames (G+1+1+1+1) us.tail.tail.tail).then _:PR Fc)=_;unfold pNames;rw[e5,if_pos rfl];show((pBlock (G+1+1+1+1) us.tail.tail.tail.tail).then _:PR Fc)=_;rw[bl];rfl
 rw[pProg,if_neg hne,e3,if_neg (by decide),e4];show((pFunc (G+1+1+1+1) us.tail).then _:PR Pg)=_;rw[fn];show pProg (G+1+1+1+1) (retP x) []=_;rw[pProg,if_pos rfl]
theorem rdp_par {t:List K3} {x:Ex} (h:RdP t x):RdP (tkPar true t) x:=fun l ks F p hi hs hF=>by
 have hi:Is l (kM 40::(t++(kM 41::ks))):=by
  have:tkPar true t++ks=kM 40::(t++(kM 41::ks)):=by simp[tkPar]
  rw[<-this];exact hi
 have hlen:(tkPar true t).length=t.length+2:=by simp[tkPar]
 obtain⟨F,rfl⟩: ∃G,F=G+1:=⟨F-1,by omega⟩
 obtain⟨k1,k2,_,k4⟩:=is_cons hi;have s4:Stop 0 (kM 41::ks):=stop_kM (by simp) (Int.le_refl _);obtain⟨r,h1,h2⟩:=prim_exp h (n:=1) (F:=F) k4 s4 (by omega);rw[loop_stop h1 s4 (by omega) (by omega)]at h2;obtain⟨m1,m2⟩:=want_is h1;refine⟨r.tail,m2,?_⟩;have e1:isL sMi l=false:=by rw[is_isL hi];rfl
 have e2:isL sNo l=false:=by rw[is_isL hi];rfl
 have e3:isL sLp l=true:=by rw[is_isL hi];rfl
 rw[pPrim,if_neg (by rw[k1];decide),if_neg (by rw[k1];decide),if_neg (by rw[k1];decide),e1,e2,if_neg (by simp)];unfold wantL;rw[e3,if_pos rfl];show((pExpr F 1 l.tail).then fun x r=>(wantL sRp r).then fun _ r=> .ok (x,r))=_;rw[h2];show((wantL sRp r).then fun _ r=> .ok (x,r))=_;rw[show wantL sRp r= .ok ((),r.tail)from m1];rfl
theorem exprL_ret {S:List UInt8} {T:List K3} {x:Ex} (ho:okPg (retP x)=true) (hS: ∀y ks,Bd y->Lx y ks->Lx (S++y) (T++ks)) (hl:S.length<=3979) (hx: ∀l ks F,Is l (T++kM 59::ks)->4*T.length+8<=F-> ∃r,Is r (kM 59::ks)/\pExpr F 1 l= .ok (x,r)) (hn: ∀l ks,Is l (T++kM 59::ks)->isL sSc l=false):exprL S=some x:=by
 obtain⟨us,h1,h2⟩:=lx_toks (lx_ret hS) (by simp only[List.length_append,exA,exB,List.length_cons,List.length_nil];omega);have hb:=ret_back hx hn (us:=us) h2;have hp:parL (exA++S++exB)=(retP x,0,0):=by
  unfold parL;rw[h1,if_pos rfl];unfold parT;rw[hb];show(if okPg (retP x)then _ else _)=_;rw[ho,if_pos rfl]
 unfold exprL;rw[hp];rfl
theorem exprL_src {x:Ex} (h:okPg (retP x)=true):exprL (srcE x)=some x/\exprL ([40,40]++srcE x++[41,41])=some x:=by
 obtain⟨hx,hl⟩:=retP_ok h;have hr:=rd_any hx;have hL:=lxE_any hx;refine⟨exprL_ret h hL.2 (by omega) (fun l ks F hi hF=>rdx_ok hr.rx (n:=1) (q:=0) hi hr.rq (stop_kM (by simp) (Int.le_refl _)) (by omega) hF) (fun l ks hi=>hr.no59 hi),?_⟩;refine exprL_ret (T:=tkPar true (tkPar true (tkE x))) h (fun y ks hy hk=> ?_) (by simp;omega) (fun l ks F hi hF=> ?_) (fun l ks hi=> ?_)
 ·have e:[40,40]++srcE x++[41,41]++y=40::40::(srcE x++41::41::y):=by simp
  have e2:tkPar true (tkPar true (tkE x))++ks=kM 40::kM 40::(tkE x++kM 41::kM 41::ks):=by simp[tkPar]
  rw[e,e2];exact lx_one (by decide) (lx_one (by decide) (hL.2 _ _ (bd_cons (by decide)) (lx_one (by decide) (lx_one (by decide) hk))))
 ·have s4:Stop 0 (kM 59::ks):=stop_kM (by simp) (Int.le_refl _);have hp:=rdp_par (rdp_paren hr.rx hr.rq);obtain⟨r,h1,h2⟩:=prim_exp hp (n:=1) (F:=F) hi s4 (by omega);rw[loop_stop h1 s4 (by omega) (by omega)]at h2;exact⟨r,h1,h2⟩
 ·have hi:Is l (kM 40::_):=hi;rw[is_isL hi];rfl
end Go.Proofs.YtelplgkppalmfaaGreatDoor
