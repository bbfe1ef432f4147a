/-
  Parts of the proof: TyAl.
-/
import Derived.Test.YtddomeddabfinaaGreatDoorTu00
import Derived.Test.YtddomeddabfinaaGreatDoorTu19
set_option maxRecDepth 100000
set_option maxHeartbeats 8000000
set_option linter.unusedVariables false
set_option linter.unusedSimpArgs false
set_option linter.unusedSectionVars false
namespace Go.Proofs.YtddomeddabfinaaGreatDoor
open Go.Proofs.Tryz
open Go.RowKit
theorem mM {α β γ:Type} (x:Except Er α) (k:α->Except Er β) (l:β->Except Er γ):CR.then (CR.then x k) l=CR.then x fun a=>CR.then (k a) l:=by cases x<;>rfl
abbrev CB.U (X:CB) (k:Nat):Prop:=k=X.g\/X.S k
section
variable {X:CB} {gl:Gl} {lv:Value} {lo lo':Ls} {w W:World}
theorem CK.lt (h:CK X gl lv lo w):X.g<w.heap.size/\X.bi<w.heap.size/\X.ba<w.heap.size/\X.bf<w.heap.size:=⟨h.blk.lt,h.i.lt,h.a.lt,h.f.lt⟩
theorem oH {b:Nat} {t:TypeId} {cs:Array Value} {L:KF} (h:aO w b t cs) (hm:bU w b L):False:=by
 obtain⟨es,c,hm,_⟩:=hm;unfold aO at h;rw[h]at hm;cases hm
theorem CK.newL (h:CK X gl lv lo w) (hg:X.g≠0):CK X gl (.map (some w.heap.size)) ek ((w.alloc (.map #[] 0)).setCell ⟨X.g,5,none⟩ (.map (some w.heap.size))):=by
 obtain⟨h1,h2,h3,h4⟩:=h.lt;have he:=O w (.map #[] 0);have hi:X.bi≠X.g:=fun e=>oH h.blk (e▸h.i);have ha:X.ba≠X.g:=fun e=>oH h.blk (e▸h.a);have hf:X.bf≠X.g:=fun e=>oH h.blk (e▸h.f);have hm:=iJ w;refine⟨?_,(h.i.ext he).set hi _,(h.a.ext he).set ha _,(h.f.ext he).set hf _, .inr ⟨_,rfl,?_,by omega,by omega,by omega,by omega⟩,?_⟩
 ·have:=(h.blk.ext he).set 5 (.map (some w.heap.size));simpa using this
 ·refine(hm.set (p:=⟨X.g,5,none⟩) (by show _≠X.g;omega) _).congr fun s=> ?_;simp[zn,ek]
 ·obtain⟨t,fr,ht⟩:=h.t.ext he;exact⟨t,fr,(Below.heap_setCell _ ⟨X.g,5,none⟩ _ _ (fun e=>hg e.symm)).trans ht⟩
end
theorem tG {g:Gl} {lo:Ls} {l:List (List UInt8)} {j:Nat} (h:j<l.length):im g lo (l.drop j)=if g.known lo l[j]=true then .error (l[j],9)else im g (lo.add l[j]) (l.drop (j+1)):=by
 rw[ay h,im]
theorem tH {g:Gl} {l:List Fc} {j:Nat} (h:j<l.length):fd g (l.drop j)=CR.then (im g ek l[j].ps) fun lo=>CR.then (dm g lo l[j].body) fun _=>fd g (l.drop (j+1)):=by
 rw[ay h,fd]
theorem rp {l:List Fc} {j:Nat} (h:j<l.length):cY (l.drop j)=if 20<l[j].ps.length+cC l[j].body\/jN l[j].body=true then .error (l[j].nm,6)else cY (l.drop (j+1)):=by
 rw[ay h,cY]
def Ct (X:CB) (r:CR) (w:World) (e:Ending) (w':World):Prop:=Mv X.U w w'/\e=bQ r
theorem ug (p:Pg) (hw:jS p<=6000000) (X:CB) (hX:X.Ok) (hgt:X.g≠0) (P:Nat->Prop) (w:World) (hV:fH w P X.sv p.vs) (hF:fO w P X.sf p.fs) (hP: ∀b,P b-> ¬X.U b) (hK:CK X k' (.map none) ek w):
  Calls prog 37 #[X.p] w (Ct X (fT p) w):=by
 have hmm:= @run_makeMap prog;have HTO:=G (sC p hw X hX P w hV hF (fun b hb hs=>hP b hb (.inr hs)) hK);have hlf:p.fs.length<=6000000:=by have:=t6 p;omega
 have HFN:=G (fun f (hf:f∈p.fs)=>show f.nm.length<=1073741824/\dq f.body<=6000000/\f.ps.length<=6000000/\ ∀y∈f.ps,y.length<=1073741824 by
  have h1:=jd hf;have h2:=rX (f:=f);have h3:dq f.body<=f.wt:=by unfold Fc.wt;omega
  have h4:f.ps.length<=f.wt:=by
   have:=gB (fun _:List UInt8=>1) (fun s=>s.length+1) f.ps (fun v _=>by omega);rw[eJ]at this;unfold Fc.wt;omega
  exact⟨by omega,by omega,by omega,fun y hy=>by have:=uO hy;omega⟩)
 obtain⟨Rv,hRv⟩: ∃R,fT p=R:=⟨_,rfl⟩
 have HQT:=G (show CR.then (ji p) (fun g=>CR.then (fd g (p.fs.drop 0)) fun _=>cY p.fs)=Rv from hRv);rw[hRv];clear hRv hw;obtain⟨vs,fs⟩:=p;generalize ji ⟨vs,fs⟩=tr at*;obtain⟨g,bi,ba,bf,sv,sf⟩:=X;simp only[CB.p]at*;obtain⟨NF,hNF⟩: ∃n,fs.length=n:=⟨_,rfl⟩
 obtain⟨B,cb,hB⟩: ∃B cb,sf= .slice B NF cb:=by obtain⟨A,ca,h,_⟩:=hF;exact⟨A,ca,by rw[h,hNF]⟩
 subst hB;rw[hNF]at hlf;have HNF:=G hNF;have HFr:=G (hF.keep (Q:=fun b=>P b/\b<w.heap.size) ⟨an _,fun _ _ _=>rfl⟩ (fun b h1 h2=>⟨h1,h2⟩));have HKP:=G (fun W (h:Mv (CB.U ⟨g,bi,ba,bf,sv, .slice B NF cb⟩) w W)=>show cP (fun b=>P b/\b<w.heap.size) w W from h.keepP (fun k hk _=>hP k hk.1));have HX:=G hX;have HGT:=G hgt;clear hV hF hP hK hX hNF hgt
 cases tr with
 |error q=>
  obtain⟨qn,m⟩:=q;have HFn:=G (show Rv= .error (qn,m)from HQT.out.symm);go_enter func37,ntmps37;go_wp2_with (go_at_call 71;refine HTO.out.mono ?_;unfold Cm bh;rintro e w1 ⟨hM,rfl⟩;have HM:=G (hM.mono (S':=CB.U ⟨g,bi,ba,bf,sv, .slice B NF cb⟩) (fun k _ h=> .inr h));clear hM HTO);exact⟨rfl,HM.out,by rw[HFn.out];rfl⟩
 |ok gl=>
  have HQ0:=G (show CR.then (fd gl (fs.drop 0)) (fun _=>cY fs)=Rv from HQT.out);go_enter func37,ntmps37;go_wp2_with (go_at_call 71;refine HTO.out.mono ?_;unfold Cm;rintro e w1 ⟨hM,rfl,hK1⟩;have HM0:=G (hM.mono (S':=CB.U ⟨g,bi,ba,bf,sv, .slice B NF cb⟩) (fun k _ h=> .inr h));have HK0:=G hK1;have hc:=HK0.out.blk.cell;clear hM hK1 HTO);clear hc
  go_loopw [16] (fun vi wr=> ∃(j:Nat) (lv:Value) (lo:Ls),vi= .int .i64 (j:Int)/\j<=NF/\Hid (CR.then (fd gl (fs.drop j)) (fun _=>cY fs)=Rv)/\Hid (Mv (CB.U ⟨g,bi,ba,bf,sv, .slice B NF cb⟩) w wr)/\Hid (CK ⟨g,bi,ba,bf,sv, .slice B NF cb⟩ gl lv lo wr)) (fun vi _=>NF-(intOf vi).toNat)
  case atStart=>exact⟨0,_,_,rfl,az _,HQ0,HM0,HK0⟩
  case round=>
   obtain⟨j,lv,lo,rfl,hj,HQ,HM,HKj⟩:=hrel;generalize wr=wo at*;by_cases hlt:j<NF
   ·have hlt':(j:Int)<NF:=by omega
    have hjl:j<fs.length:=by have:=HNF.out;omega
    obtain⟨b,o,pv,bv,rfl,hb,hPb,h0,h1,h2,hRp,hRb⟩:=lV HFr.out j hjl;have hS:=tH (g:=gl) hjl;have hFn:=HFN.out _ (ai hjl);obtain⟨y,hy⟩: ∃y,fs[j]=y:=⟨_,rfl⟩
    rw[hy]at h0 hRp hRb hS hFn;clear hy;obtain⟨nm,ps,bd⟩:=y;simp only at h0 hRp hRb hS hFn;obtain⟨hnm,hwb,hpl,hpy⟩:=hFn
    have HQ1:=G (show CR.then (im gl ek (ps.drop 0)) (fun lo=>CR.then (dm gl lo bd) fun _=>CR.then (fd gl (fs.drop (j+1))) fun _=>cY fs)=Rv by
     rw[<-HQ.out,hS,mM]
     simp only[mM,ap])
    obtain⟨M,hM⟩: ∃m,ps.length=m:=⟨_,rfl⟩
    obtain⟨Ap,cp,hpv,hRp⟩:=hRp;rw[hM]at hpv hpl;subst hpv;have HPM:=G hM;obtain⟨Ab,cb2,rfl,_⟩:=hRb.form;have e0:=((HKP.out _ HM.out).cell _ hPb hb).trans h0;have e1:=((HKP.out _ HM.out).cell _ hPb hb).trans h1;have e2:=((HKP.out _ HM.out).cell _ hPb hb).trans h2;have HRb:=G hRb;have HRp:=G hRp;have hAl:=O wo (.cells #[.string (ag nm), .slice Ap M cp, .slice Ab bd.length cb2] 59);have HKA:=G (HKj.out.ext hAl);have HBA:=G (ax wo 59 #[.string (ag nm), .slice Ap M cp, .slice Ab bd.length cb2]);have HMA:=G (HM.out.alloc (.cells #[.string (ag nm), .slice Ap M cp, .slice Ab bd.length cb2] 59));have hm2:=O (wo.alloc (.cells #[.string (ag nm), .slice Ap M cp, .slice Ab bd.length cb2] 59)) (.map #[] 0);have hka:=(HKA.out.blk.ext hm2).cell;have hkf:=(HKA.out.blk.ext hm2).frozen;have hgl:g≠wo.heap.size:=by have:=HKj.out.lt.1;simp only at this;omega
    have hgl2:wo.heap.size≠g:=fun e=>hgl e.symm;have HB3:=G ((HBA.out.ext hm2).far (p:=⟨g,5,none⟩) hgl2 (.map (some (wo.heap.size+1))));have fb3:=HB3.out.cell
    have HK3:=G (show CK ⟨g,bi,ba,bf,sv, .slice (some ⟨b,o,none⟩) NF cb⟩ gl (.map (some (wo.heap.size+1))) ek (((wo.alloc (.cells #[.string (ag nm), .slice Ap M cp, .slice Ab bd.length cb2] 59)).alloc (.map #[] 0)).setCell ⟨g,5,none⟩ (.map (some (wo.heap.size+1))))from by
     have:=HKA.out.newL HGT.out
     rwa [World.size_alloc]at this)
    have HM3:=G ((HMA.out.alloc (.map #[] 0)).set (p:=⟨g,5,none⟩) (fun _=> .inl rfl) (.map (some (wo.heap.size+1))));have HG3:=G (World.grownBy.refl (((wo.alloc (.cells #[.string (ag nm), .slice Ap M cp, .slice Ab bd.length cb2] 59)).alloc (.map #[] 0)).setCell ⟨g,5,none⟩ (.map (some (wo.heap.size+1)))) (some (wo.heap.size+1)));have hne3:wo.heap.size+1≠wo.heap.size:=by omega
    have HS3:=G (show w.heap.size<=wo.heap.size from HM.out.size);have HMW:=G (fun W (h:World.grownBy (((wo.alloc (.cells #[.string (ag nm), .slice Ap M cp, .slice Ab bd.length cb2] 59)).alloc (.map #[] 0)).setCell ⟨g,5,none⟩ (.map (some (wo.heap.size+1)))) W (some (wo.heap.size+1)))=>show Mv (CB.U ⟨g,bi,ba,bf,sv, .slice (some ⟨b,o,none⟩) NF cb⟩) w W from HM3.out.tr (.of_grown (S:=fun k=>k=wo.heap.size+1) h (fun k e=>by injection e with e;exact e.symm)) (fun k h1 h2=>absurd h2 (by have:=HS3.out;omega)));clear h0 h1 h2 hRb hM hm2;go_wp2_with fail;clear fb3 hka hkf hmm
    go_loopw [27] (fun vi wr=> ∃(i:Nat) (loi:Ls),vi= .int .i64 (i:Int)/\i<=M/\Hid (CR.then (im gl loi (ps.drop i)) (fun lo=>CR.then (dm gl lo bd) fun _=>CR.then (fd gl (fs.drop (j+1))) fun _=>cY fs)=Rv)/\Hid (World.grownBy (((wo.alloc (.cells #[.string (ag nm), .slice Ap M cp, .slice Ab bd.length cb2] 59)).alloc (.map #[] 0)).setCell ⟨g,5,none⟩ (.map (some (wo.heap.size+1)))) wr (some (wo.heap.size+1)))/\Hid (CK ⟨g,bi,ba,bf,sv, .slice (some ⟨b,o,none⟩) NF cb⟩ gl (.map (some (wo.heap.size+1))) loi wr)) (fun vi _=>M-(intOf vi).toNat)
    case atStart=>exact⟨0,ek,rfl,az _,HQ1,HG3,HK3⟩
    case round=>
     obtain⟨i,loi,rfl,hi,HIQ,HG,HKi⟩:=hrel;by_cases hli:i<M
     ·have hli':(i:Int)<M:=by omega
      have hil:i<ps.length:=by have:=HPM.out;omega
      have hpc: ∃b2 o2,Ap=some ⟨b2,o2,none⟩/\(P b2/\b2<w.heap.size)/\b2<w.heap.size/\w.cell? ⟨b2,o2+i,none⟩=some (.string (ag ps[i])):=by
       rcases HRp.out with h|⟨_,_,b2,o2,h1,h2,h3,h4⟩
       ·rw[h]at hil;simp at hil
       ·exact⟨b2,o2,h1,h2,h3,h4 i hil⟩
      obtain⟨b2,o2,rfl,hb2,hb2l,p0⟩:=hpc;have q0:=((HKP.out _ (HMW.out _ HG.out)).cell _ hb2 hb2l).trans p0;have hS:=tG (g:=gl) (lo:=loi) hil;have hyl:=hpy _ (ai hil);generalize ps[i]=y at*;have hkc:=HKi.out.blk.cell
      cases hkn:gl.known loi y with
      |true=>
       have HFn:=G (show Rv= .error (y,9) by rw[<-HIQ.out,hS,hkn];rfl);go_wp2_with (first|(go_at_call 72;refine(dD _ gl _ loi _ HKi.out y hyl).mono ?_;rw[hkn];rintro e wx ⟨rfl,hE⟩;have HMX:=G ((HMW.out _ HG.out).trans (.of_ext hE));clear hE)|(go_at_call 73;refine(dC y 9 _).mono ?_;unfold bh;rintro e wx ⟨rfl,hE⟩;have HMY:=G (HMX.out.trans (.of_ext hE));clear hE));exact⟨rfl,HMY.out,by rw[HFn.out];rfl⟩
      |false=>
       have hS2:im gl loi (ps.drop i)=im gl (loi.add y) (ps.drop (i+1)):=by rw[hS,hkn,if_neg (by decide)]
       go_wp2_with (first|(go_at_call 72;refine(dD _ gl _ loi _ HKi.out y hyl).mono ?_;rw[hkn];rintro e wx ⟨rfl,hE⟩;have HGX:=G (HG.out.trans (hE.grownBy _));have HKX:=G (HKi.out.ext hE);clear hkc;have hkc:=HKX.out.blk.cell;clear hE)|(at_mapUpdate;refine dz yf rfl _ _ _ rfl HKX.out.ml.1 rfl (by unfold maxLen;omega) rfl _ rfl ?_;intro w8 hm8 hg8;have HK8:=G (HKX.out.add hm8 hg8);have HG8:=G (HGX.out.trans hg8);clear hm8 hg8));go_roundw
       case rel=>exact⟨i+1,loi.add y,by go_num,by omega,G (by rw[<-hS2];exact HIQ.out),HG8,HK8⟩
       case measure=>simp[intOf];omega
     ·have hli': ¬(i:Int)<M:=by omega
      have HQ2:=G (show CR.then (dm gl loi bd) (fun _=>CR.then (fd gl (fs.drop (j+1))) fun _=>cY fs)=Rv by
       have:=HIQ.out;rw[aB (l:=ps) (by have:=HPM.out;omega),im,dK]at this
       exact this)
      have fb:=(HB3.out.grown HG.out (ww hne3.symm)).cell;have HMi:=G (HMW.out _ HG.out);have hc:=j8 _ bd (an _) (by omega) _ gl (wo.heap.size+1) loi (fun b=>P b/\b<w.heap.size) wr Ab _ cb2 HKi.out (HRb.out.keep (HKP.out _ HMi.out) (fun b hb _=>hb)) (fun b hb e=>by have:=HS3.out;omega);have HC:=G hc;clear hc
      cases hr:dm gl loi bd with
      |error q=>
       obtain⟨qn,m⟩:=q;have HFn:=G (show Rv= .error (qn,m) by rw[<-HQ2.out,hr];rfl);go_wp2_with (go_at_call 74;have hc:=HC.out;rw[hr]at hc;refine hc.mono ?_;unfold mS bh;rintro e wx ⟨hg,rfl⟩;have HMZ:=G (HMW.out _ (HG.out.trans hg));clear hg hc HC);exact⟨rfl,HMZ.out,by rw[HFn.out];rfl⟩
      |ok lo2=>
       have HQ3:=G (show CR.then (fd gl (fs.drop (j+1))) (fun _=>cY fs)=Rv by rw[<-HQ2.out,hr];rfl);go_wp2_with (go_at_call 74;have hc:=HC.out;rw[hr]at hc;refine hc.mono ?_;unfold mS;rintro e wx ⟨hg,rfl,hck⟩;have HMZ:=G (HMW.out _ (HG.out.trans hg));have HKZ:=G hck;clear hg hc HC hck);go_roundw
       case rel=>exact⟨j+1,_,lo2,by go_num,by omega,HQ3,HMZ,HKZ⟩
       case measure=>simp[intOf];omega
   ·have hlt': ¬(j:Int)<NF:=by omega
    have HQ1:=G (show cY (fs.drop 0)=Rv by
     have:=HQ.out;rw[aB (by have:=HNF.out;omega),fd,dK]at this
     exact this)
    have hc:=HKj.out.blk.cell;go_wp2_with fail;clear hc
    go_loopw [53] (fun vi wr=> ∃(i:Nat),vi= .int .i64 (i:Int)/\i<=NF/\Hid (cY (fs.drop i)=Rv)/\Hid (au wo wr)) (fun vi _=>NF-(intOf vi).toNat)
    case atStart=>exact⟨0,rfl,az _,HQ1,G (aH _)⟩
    case round=>
     obtain⟨i,rfl,hi,HIQ,HX3⟩:=hrel;by_cases hli:i<NF
     ·have hli':(i:Int)<NF:=by omega
      have hil:i<fs.length:=by have:=HNF.out;omega
      obtain⟨b,o,pv,bv,rfl,hb,hPb,h0,h1,h2,hRp,hRb⟩:=lV HFr.out i hil;have hS:=rp hil;have hFn:=HFN.out _ (ai hil);obtain⟨y,hy⟩: ∃y,fs[i]=y:=⟨_,rfl⟩
      rw[hy]at h0 hRp hRb hS hFn;clear hy;obtain⟨nm,ps,bd⟩:=y;simp only at h0 hRp hRb hS hFn;obtain⟨hnm,hwb,hpl,hpy⟩:=hFn;obtain⟨M,hM⟩: ∃m,ps.length=m:=⟨_,rfl⟩
      obtain⟨Ap,cp,hpv,hRp⟩:=hRp;rw[hM]at hpv hpl hS;subst hpv;obtain⟨Ab,cb2,rfl,_⟩:=hRb.form;have HMx:=G (HM.out.trans (.of_ext HX3.out));have e0:=((HKP.out _ HMx.out).cell _ hPb hb).trans h0;have e1:=((HKP.out _ HMx.out).cell _ hPb hb).trans h1;have e2:=((HKP.out _ HMx.out).cell _ hPb hb).trans h2;have hAl:=O wr (.cells #[.string (ag nm), .slice Ap M cp, .slice Ab bd.length cb2] 59);have HBA:=G (ax wr 59 #[.string (ag nm), .slice Ap M cp, .slice Ab bd.length cb2]);have HXA:=G (HX3.out.trans hAl);have HRb:=G ((hRb.keep (HKP.out _ HMx.out) (Q:=fun b=>P b/\b<w.heap.size) (fun b hb _=>hb)).keep (.of_ext hAl) (Q:=fun b=>P b/\b<w.heap.size) (fun b hb _=>hb));have hdl:=fK bd;obtain⟨q,hq⟩: ∃q,cC bd=q:=⟨_,rfl⟩
      obtain⟨r,hr⟩: ∃r,jN bd=r:=⟨_,rfl⟩
      rw[hq,hr]at hS;rw[hq]at hdl;have HC1:=G (fun W (h:au (wr.alloc (.cells #[.string (ag nm), .slice Ap M cp, .slice Ab bd.length cb2] 59)) W)=>hq▸vU bd (by omega) (fun b=>P b/\b<w.heap.size) W Ab _ cb2 (HRb.out.keep (.of_ext h) (fun b hb _=>hb)));have HC2:=G (fun W (h:au (wr.alloc (.cells #[.string (ag nm), .slice Ap M cp, .slice Ab bd.length cb2] 59)) W)=>hr▸j_ _ bd (an _) (by omega) (fun b=>P b/\b<w.heap.size) W Ab _ cb2 (HKj.out.t.ext (HXA.out.trans h)) (HRb.out.keep (.of_ext h) (fun b hb _=>hb)));have hwr:IntKind.i64.wrap ((M:Int)+(q:Int))=(M:Int)+(q:Int):=by simp[IntKind.wrap,IntKind.signed,IntKind.bits];omega
      clear h0 h1 h2 hRp hRb hM hAl hq hr;have HS:=G hS;clear hS;by_cases h20:20<M+q
      ·have h20':(20:Int)<(M:Int)+(q:Int):=by omega
       have h20d:decide ((20:Int)<(M:Int)+(q:Int))=true:=decide_eq_true h20';have HFn:=G (show Rv= .error (nm,6) by rw[<-HIQ.out,HS.out,if_pos (.inl h20)]);go_wp2_with fail;refine am 13 4 [(5,fun v=>v= .int .i64 (q:Int),fun _ _=>True)] mixed (by kernel_rfl) ⟨fun _ _ _ _ _=>trivial,trivial⟩ ?_;repeat (first|(refine a7 (by rfl) ?_;simp only[aU,aT,aS,aR,aQ])|(refine sx ?_ (fun w1 hU=> ?_) ?_;rotate_left;(focus have f1:=(HBA.out.ext hU.un).cell;clear hU;go_simp<;>with_reducible rfl);simp only[aU,aT,aS,aR,aQ]))
       refine so (fun w6 hU hp K hK=> ?_) ?_
       ·have hc:=HC1.out w6 hU.un;clear hp hU;go_simp;refine hc.mono ?_;rintro e w7 ⟨rfl,hE⟩;exact hK _ _ hE rfl trivial
       rintro _ rfl;simp only[aU,aT,aS,aR,aQ];repeat (first|(refine a7 (by rfl) ?_;simp only[aU,aT,aS,aR,aQ])|(refine sx ?_ (fun w1 hU=> ?_) ?_;rotate_left;(focus have f1:=(HBA.out.ext hU.un).cell;clear hU;go_simp<;>with_reducible rfl);simp only[aU,aT,aS,aR,aQ]))
       intro w8 hw8 hp;clear hp;simp only[ab,aG];have f1:=(HBA.out.ext hw8.un).cell;have HX8:=G (HXA.out.trans hw8.un);clear hw8;go_wp2_with (go_at_call 73;refine(dC nm 6 _).mono ?_;unfold bh;rintro e wx ⟨rfl,hE⟩;have HMY:=G (HM.out.trans (.of_ext (HX8.out.trans hE)));clear hE);exact⟨rfl,HMY.out,by rw[HFn.out];rfl⟩
      ·have h20': ¬(20:Int)<(M:Int)+(q:Int):=by omega
       have h20d:decide ((20:Int)<(M:Int)+(q:Int))=false:=decide_eq_false h20';go_wp2_with fail;refine am 13 4 [(5,fun v=>v= .int .i64 (q:Int),fun _ _=>True),(11,fun v=>v= .bool r,fun _ _=>True)] mixed (by kernel_rfl) ⟨fun _ _ _ _ _=>trivial,fun _ _ _ _ _=>trivial,trivial⟩ ?_;repeat (first|(refine a7 (by rfl) ?_;simp only[aU,aT,aS,aR,aQ])|(refine sx ?_ (fun w1 hU=> ?_) ?_;rotate_left;(focus have f1:=(HBA.out.ext hU.un).cell;clear hU;go_simp<;>with_reducible rfl);simp only[aU,aT,aS,aR,aQ]))
       refine so (fun w6 hU hp K hK=> ?_) ?_
       ·have hc:=HC1.out w6 hU.un;clear hp hU;go_simp;refine hc.mono ?_;rintro e w7 ⟨rfl,hE⟩;exact hK _ _ hE rfl trivial
       rintro _ rfl;simp only[aU,aT,aS,aR,aQ];repeat (first|(refine a7 (by rfl) ?_;simp only[aU,aT,aS,aR,aQ])|(refine sx ?_ (fun w1 hU=> ?_) ?_;rotate_left;(focus have f1:=(HBA.out.ext hU.un).cell;clear hU;go_simp<;>with_reducible rfl);simp only[aU,aT,aS,aR,aQ]))
       refine so (fun w6 hU hp K hK=> ?_) ?_
       ·have hc:=HC2.out w6 hU.un;clear hp hU;go_simp;refine hc.mono ?_;rintro e w7 ⟨rfl,hE⟩;exact hK _ _ hE rfl trivial
       rintro _ rfl;simp only[aU,aT,aS,aR,aQ];repeat (first|(refine a7 (by rfl) ?_;simp only[aU,aT,aS,aR,aQ])|(refine sx ?_ (fun w1 hU=> ?_) ?_;rotate_left;(focus have f1:=(HBA.out.ext hU.un).cell;clear hU;go_simp<;>with_reducible rfl);simp only[aU,aT,aS,aR,aQ]))
       intro w8 hw8 hp;clear hp;simp only[ab,aG];have f1:=(HBA.out.ext hw8.un).cell;have HX8:=G (HXA.out.trans hw8.un);clear hw8
       cases r with
       |false=>
        have HFn:=G (show cY (fs.drop (i+1))=Rv by rw[<-HIQ.out,HS.out,if_neg (by simp;omega)]);go_wp2_with fail;go_roundw
        case rel=>exact⟨i+1,by go_num,by omega,HFn,HX8⟩
        case measure=>simp[intOf];omega
       |true=>
        have HFn:=G (show Rv= .error (nm,6) by rw[<-HIQ.out,HS.out,if_pos (.inr rfl)]);go_wp2_with (go_at_call 73;refine(dC nm 6 _).mono ?_;unfold bh;rintro e wx ⟨rfl,hE⟩;have HMY:=G (HM.out.trans (.of_ext (HX8.out.trans hE)));clear hE);exact⟨rfl,HMY.out,by rw[HFn.out];rfl⟩
     ·have hli': ¬(i:Int)<NF:=by omega
      have HFn:=G (show Rv= .ok () by
       have:=HIQ.out;rw[aB (by have:=HNF.out;omega),cY]at this
       exact this.symm)
      go_wp2_with fail;exact bodyPost_end (results_none rfl _ _ _) rfl ⟨HM.out.trans (.of_ext HX3.out),by rw[HFn.out];rfl⟩
end Go.Proofs.YtddomeddabfinaaGreatDoor
