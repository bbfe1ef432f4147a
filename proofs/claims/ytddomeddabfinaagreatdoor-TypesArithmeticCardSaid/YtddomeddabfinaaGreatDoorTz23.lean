/-
  Parts of the proof: TyJ TyK TyFr TyAl.
-/
import Derived.Test.YtddomeddabfinaaGreatDoorTz00
import Derived.Test.YtddomeddabfinaaGreatDoorTz22
import Derived.Test.YtddomeddabfinaaGreatDoorTz01
set_option maxRecDepth 100000
set_option maxHeartbeats 8000000
set_option linter.unusedVariables false
set_option linter.unusedSimpArgs false
set_option linter.unusedSectionVars false
namespace Go.Proofs.YtddomeddabfinaaGreatDoor
open Go.Proofs.Tryz
section
open Go.RowKit
structure CB.Ok (X:CB):Prop where
 gi:X.g≠X.bi
 ga:X.g≠X.ba
 gf:X.g≠X.bf
 ia:X.bi≠X.ba
 jf:X.bi≠X.bf
 af:X.ba≠X.bf
abbrev CB.S (X:CB) (k:Nat):Prop:=k=X.bi\/k=X.ba\/k=X.bf
section
variable {X:CB} {gl:Gl} {lo lo':Ls} {w W:World}
theorem yE {b:Nat} {L:KF} (h:BT w) (hm:bM w b L):b≠0:=by
 rintro rfl;obtain⟨t,fr,ht⟩:=h;obtain⟨es,c,hm,_⟩:=hm;rw[ht]at hm;cases hm
theorem BT.grown {b:Nat} (h:BT w) (hg:w.grownBy W (some b)) (hb:b≠0):BT W:=by
 obtain⟨t,fr,ht⟩:=h;exact⟨t,fr,(hg.block _ (Array.getElem?_eq_some_iff.1 ht).1 (fun e=>hb (by injection e with e;exact e.symm))).trans ht⟩
theorem my {a b:Nat} (h:a≠b):some a≠some b:=fun e=>h (by injection e)
theorem CK.addI {v:Vr} (hX:X.Ok) (h:CK X gl (.map none) eY w) (hz: ¬0<v.sz) (hm:bM W X.bi ((Al gl).upd v.nm (.bool true))) (hg:w.grownBy W (some X.bi)):CK X (gl.addV v) (.map none) eY W:=by
 have e:gl.addV v={gl with int:=fun x=>x==v.nm||gl.int x}:=by unfold Gl.addV;rw[if_neg hz]
 rw[e];refine⟨h.blk.grown hg (my hX.gi),hm.congr fun s=> ?_,h.a.grown hg (my (ff hX.ia)),h.f.grown hg (my (ff hX.jf)), .inl ⟨rfl,rfl⟩,h.t.grown hg (yE h.t h.i)⟩;unfold KF.upd Al;by_cases e:s=v.nm
 ·subst e;simp
 ·simp[e]
theorem CK.addA {v:Vr} (hX:X.Ok) (h:CK X gl (.map none) eY w) (hz:0<v.sz) (hm:bM W X.ba ((Am gl).upd v.nm (.int .i64 v.sz))) (hg:w.grownBy W (some X.ba)):CK X (gl.addV v) (.map none) eY W:=by
 have e:gl.addV v={gl with arr:=fun x=>if x=v.nm then some v.sz else gl.arr x}:=by unfold Gl.addV;rw[if_pos hz]
 rw[e];refine⟨h.blk.grown hg (my hX.ga),h.i.grown hg (my hX.ia),hm.congr fun s=> ?_,h.f.grown hg (my (ff hX.af)), .inl ⟨rfl,rfl⟩,h.t.grown hg (yE h.t h.a)⟩;unfold KF.upd Am;by_cases e:s=v.nm
 ·subst e;simp
 ·simp[e]
theorem CK.addF {f:Fc} (hX:X.Ok) (h:CK X gl (.map none) eY w) (hm:bM W X.bf ((DC gl).upd f.nm (.int .i64 (f.ps.length:Int)))) (hg:w.grownBy W (some X.bf)):CK X (gl.addF f) (.map none) eY W:=by
 refine⟨h.blk.grown hg (my hX.gf),h.i.grown hg (my hX.jf),h.a.grown hg (my hX.af),hm.congr fun s=> ?_, .inl ⟨rfl,rfl⟩,h.t.grown hg (yE h.t h.f)⟩;unfold KF.upd DC Gl.addF;by_cases e:s=f.nm
 ·subst e;simp
 ·simp[e]
end
theorem Bs (p:Pg):p.vs.length<=lz p:=by
 have:=jr (fun _:Vr=>1) (fun v=>v.nm.length+1) p.vs (fun v _=>by omega);rw[gh]at this;unfold lz;omega
theorem wC (p:Pg):p.fs.length<=lz p:=by
 have:=jr (fun _:Fc=>1) (fun f=>f.wt+1) p.fs (fun v _=>by omega);rw[gh]at this;unfold lz;omega
theorem np {w:World} {P:Nat->Prop} {A:Option Addr} {n c:Nat} {ls:List Fc} (h:mm w P (.slice A n c) ls) (i:Nat) (hi:i<ls.length):
  ∃b o pv bv,A=some ⟨b,o,none⟩/\b<w.heap.size/\P b/\w.cell? ⟨b,o+i*3,none⟩=some (.string (ai ls[i].nm))/\w.cell? ⟨b,o+i*3+1,none⟩=some pv/\w.cell? ⟨b,o+i*3+2,none⟩=some bv/\lC w P pv ls[i].ps/\cR w P bv ls[i].body:=by
 obtain⟨A',c',hv,h⟩:=h;injection hv with h1 h2 h3;rcases h with h|⟨_,_,b,o,ha,hP,hb,pv,bv,hc⟩
 ·subst h;simp at hi
 ·obtain⟨q0,q1,q2,q3,q4⟩:=hc i hi;exact⟨b,o,pv i,bv i,by rw[h1];exact ha,hb,hP,q0,q1,q2,q3,q4⟩
theorem zw {w:World} {P:Nat->Prop} {A:Option Addr} {n c:Nat} {ls:List Vr} (h:mc w P (.slice A n c) ls) (i:Nat) (hi:i<ls.length):
  ∃b o,A=some ⟨b,o,none⟩/\b<w.heap.size/\P b/\w.cell? ⟨b,o+i*2,none⟩=some (.string (ai ls[i].nm))/\w.cell? ⟨b,o+i*2+1,none⟩=some (.int .i64 ls[i].sz):=by
 obtain⟨A',c',hv,h⟩:=h;injection hv with h1 h2 h3;rcases h with h|⟨_,_,b,o,ha,hP,hb,hc⟩
 ·subst h;simp at hi
 ·exact⟨b,o,by rw[h1];exact ha,hb,hP,(hc i hi).1,(hc i hi).2⟩
theorem uF {g:Gl} {l:List Vr} {j:Nat} (h:j<l.length):jp g (l.drop j)=if g.known eY l[j].nm=true then .error (l[j].nm,9)else jp (g.addV l[j]) (l.drop (j+1)):=by
 rw[ay h,jp]
theorem uH {g:Gl} {l:List Fc} {j:Nat} (h:j<l.length):gV g (l.drop j)=if g.known eY l[j].nm=true then .error (l[j].nm,9)else gV (g.addF l[j]) (l.drop (j+1)):=by
 rw[ay h,gV]
def uG (g:Gl):Except Er Gl:=match g.fn bC with
 |none=> .error (bC,8)
 |some n=>if 0<n then .error (bC,16)else .ok g
def Ep (X:CB) (r:Except Er Gl) (w:World) (e:Ending) (w':World):Prop:=Mv X.S w w'/\match r with
 | .ok g=>e= .returned (.tuple #[])/\CK X g (.map none) eY w'
 | .error (nm,n)=>e=a_ nm n
theorem uC (p:Pg) (hw:lz p<=6000000) (X:CB) (hX:X.Ok) (P:Nat->Prop) (w:World) (hV:mc w P X.sv p.vs) (hF:mm w P X.sf p.fs) (hP: ∀b,P b-> ¬X.S b) (hK:CK X mx (.map none) eY w):
  Calls prog 71 #[X.p] w (Ep X (lF p) w):=by
 obtain⟨g,bi,ba,bf,sv,sf⟩:=X;have hlv:p.vs.length<=6000000:=by have:=Bs p;omega
 have hlf:p.fs.length<=6000000:=by have:=wC p;omega
 have HVN:=G (fun v (hv:v∈p.vs)=>show v.nm.length<=1073741824 by have:=xo hv;omega);have HFN:=G (fun f (hf:f∈p.fs)=>show f.nm.length<=1073741824 by have:=nV hf;have:=tW (f:=f);omega);obtain⟨Rv,hRv⟩: ∃R,lF p=R:=⟨_,rfl⟩
 have HQ0:=G (show CR.then (jp mx (p.vs.drop 0)) (fun g=>CR.then (gV g (p.fs.drop 0)) uG)=Rv from hRv);rw[hRv];clear hRv hw;obtain⟨vs,fs⟩:=p;simp only at*;obtain⟨NV,hNV⟩: ∃n,vs.length=n:=⟨_,rfl⟩
 obtain⟨NF,hNF⟩: ∃n,fs.length=n:=⟨_,rfl⟩
 obtain⟨A,ca,hA⟩: ∃A ca,sv= .slice A NV ca:=by obtain⟨A,ca,h,_⟩:=hV;exact⟨A,ca,by rw[h,hNV]⟩
 obtain⟨B,cb,hB⟩: ∃B cb,sf= .slice B NF cb:=by obtain⟨A,ca,h,_⟩:=hF;exact⟨A,ca,by rw[h,hNF]⟩
 subst hA hB;rw[hNV]at hlv;rw[hNF]at hlf;have HNV:=G hNV;have HNF:=G hNF;simp only[CB.p]at*;have HKS: ∀W,Mv (CB.S ⟨g,bi,ba,bf, .slice A NV ca, .slice B NF cb⟩) w W->cC P w W:=fun W h=>h.keepP (fun k hk _=>hP k hk);have HKP:=G HKS;have HVr:=G hV;have HFr:=G hF;have HX:=G hX;have HM0:=G (iK (CB.S ⟨g,bi,ba,bf, .slice A NV ca, .slice B NF cb⟩) w);have HK0:=G hK;have hc:=hK.blk.cell;clear hV hF hP hK hX HKS hNV hNF;go_enter func71,ntmps71;go_wp2_with fail;clear hc
 go_loopw [14] (fun vi wr=> ∃(j:Nat) (gj:Gl),vi= .int .i64 (j:Int)/\j<=NV/\Hid (CR.then (jp gj (vs.drop j)) (fun g=>CR.then (gV g (fs.drop 0)) uG)=Rv)/\Hid (Mv (CB.S ⟨g,bi,ba,bf, .slice A NV ca, .slice B NF cb⟩) w wr)/\Hid (CK ⟨g,bi,ba,bf, .slice A NV ca, .slice B NF cb⟩ gj (.map none) eY wr)) (fun vi _=>NV-(intOf vi).toNat)
 case atStart=>exact⟨0,mx,rfl,aG _,HQ0,HM0,HK0⟩
 case round=>
  obtain⟨j,gj,rfl,hj,HQ,HM,HKj⟩:=hrel;by_cases hlt:j<NV
  ·have hlt':(j:Int)<NV:=by omega
   have hjl:j<vs.length:=by have:=HNV.out;omega
   obtain⟨b,o,rfl,hb,hPb,h0,h1⟩:=zw HVr.out j hjl;have hS:=uF (g:=gj) hjl;have hnm:=HVN.out _ (au hjl);obtain⟨y,hy⟩: ∃y,vs[j]=y:=⟨_,rfl⟩
   rw[hy]at h0 h1 hS hnm;clear hy;obtain⟨nm,sz⟩:=y;simp only at h0 h1 hnm;have e0:=((HKP.out _ HM.out).cell _ hPb hb).trans h0;have e1:=((HKP.out _ HM.out).cell _ hPb hb).trans h1;have hAl:=O wr (.cells #[.string (ai nm), .int .i64 sz] 85);have HKA:=G (HKj.out.ext hAl);have HBA:=G (an wr 85 #[.string (ai nm), .int .i64 sz]);have HMA:=G (HM.out.alloc (.cells #[.string (ai nm), .int .i64 sz] 85));clear h0 h1 hAl
   cases hkn:gj.known eY nm with
   |true=>
    have HFn:=G (show Rv= .error (nm,9) by rw[<-HQ.out,hS];simp only[hkn,if_true];rfl);go_wp2_with (first|(go_at_call 72;refine(dO _ gj _ eY _ HKA.out nm hnm).mono ?_;rw[hkn];rintro e wx ⟨rfl,hE⟩;have HMB:=G (HMA.out.trans (.of_ext hE));have f0:=(HBA.out.ext hE).cell;clear hE)|(go_at_call 73;refine(dN nm 9 _).mono ?_;unfold a_;rintro e wx ⟨rfl,hE⟩;have HMC:=G (HMB.out.trans (.of_ext hE));clear hE));exact⟨rfl,by rw[HFn.out];exact⟨HMC.out,rfl⟩⟩
   |false=>
    have hS2:jp gj (vs.drop j)=jp (gj.addV ⟨nm,sz⟩) (vs.drop (j+1)):=by rw[hS];simp only[hkn,aN,if_false]
    by_cases hz:0<sz
    ·have hz':decide (0<sz)=true:=decide_eq_true hz;go_wp2_with (go_at_call 72;refine(dO _ gj _ eY _ HKA.out nm hnm).mono ?_;rw[hkn];rintro e wx ⟨rfl,hE⟩;have HMB:=G (HMA.out.trans (.of_ext hE));have HBB:=G (HBA.out.ext hE);have f0:=HBB.out.cell;have HKB:=G (HKA.out.ext hE);clear hE);refine az 8 1 [] mixed (by kernel_rfl) trivial ?_;repeat (refine sx ?_ (fun w1 hU=> ?_) ?_;rotate_left;(focus have f0:=(HBB.out.ext hU.un).cell;have fk:=(HKB.out.ext hU.un).blk.cell;clear hU;go_simp<;>with_reducible rfl);simp only[aY,aX,aW,aV,aU])
     intro w7 hw7 _;simp only[ac,ap];have HK7:=G (HKB.out.ext hw7.un);have HM7:=G (HMB.out.trans (.of_ext hw7.un));clear hw7 f0;go_wp2_with (at_mapUpdate;refine cB DB rfl _ _ _ rfl HK7.out.a rfl (by unfold maxLen;omega) rfl _ rfl ?_;intro w8 hm8 hg8;have HK8:=G (HK7.out.addA (v:=⟨nm,sz⟩) HX.out hz hm8 hg8);have HM8:=G (HM7.out.trans (.of_grown hg8 (fun k e=>by injection e with e;exact .inr (.inl e.symm))));clear hm8 hg8);go_roundw
     case rel=>exact⟨j+1,gj.addV ⟨nm,sz⟩,by go_num,by omega,G (by rw[<-hS2];exact HQ.out),HM8,HK8⟩
     case measure=>simp[intOf];omega
    ·have hz':decide (0<sz)=false:=decide_eq_false hz;go_wp2_with (go_at_call 72;refine(dO _ gj _ eY _ HKA.out nm hnm).mono ?_;rw[hkn];rintro e wx ⟨rfl,hE⟩;have HMB:=G (HMA.out.trans (.of_ext hE));have HBB:=G (HBA.out.ext hE);have f0:=HBB.out.cell;have HKB:=G (HKA.out.ext hE);clear hE);refine az 6 1 [] mixed (by kernel_rfl) trivial ?_;repeat (refine sx ?_ (fun w1 hU=> ?_) ?_;rotate_left;(focus have f0:=(HBB.out.ext hU.un).cell;have fk:=(HKB.out.ext hU.un).blk.cell;clear hU;go_simp<;>with_reducible rfl);simp only[aY,aX,aW,aV,aU])
     intro w7 hw7 _;simp only[ac,ap];have HK7:=G (HKB.out.ext hw7.un);have HM7:=G (HMB.out.trans (.of_ext hw7.un));clear hw7 f0;go_wp2_with (at_mapUpdate;refine cB Bg rfl _ _ _ rfl HK7.out.i rfl (by unfold maxLen;omega) rfl _ rfl ?_;intro w8 hm8 hg8;have HK8:=G (HK7.out.addI (v:=⟨nm,sz⟩) HX.out (show ¬0<sz by omega) hm8 hg8);have HM8:=G (HM7.out.trans (.of_grown hg8 (fun k e=>by injection e with e;exact .inl e.symm)));clear hm8 hg8);go_roundw
     case rel=>exact⟨j+1,gj.addV ⟨nm,sz⟩,by go_num,by omega,G (by rw[<-hS2];exact HQ.out),HM8,HK8⟩
     case measure=>simp[intOf];omega
  ·have hlt': ¬(j:Int)<NV:=by omega
   have HQ1:=G (show CR.then (gV gj (fs.drop 0)) uG=Rv by
    have:=HQ.out;rw[aF (l:=vs) (by have:=HNV.out;omega),jp,dV]at this
    exact this)
   have hc:=HKj.out.blk.cell;go_wp2_with fail;clear hc
   go_loopw [49] (fun vi wr=> ∃(j:Nat) (gj:Gl),vi= .int .i64 (j:Int)/\j<=NF/\Hid (CR.then (gV gj (fs.drop j)) uG=Rv)/\Hid (Mv (CB.S ⟨g,bi,ba,bf, .slice A NV ca, .slice B NF cb⟩) w wr)/\Hid (CK ⟨g,bi,ba,bf, .slice A NV ca, .slice B NF cb⟩ gj (.map none) eY wr)) (fun vi _=>NF-(intOf vi).toNat)
   case atStart=>exact⟨0,gj,rfl,aG _,HQ1,HM,HKj⟩
   case round=>
    clear HQ HM HKj HQ1 hlt hlt' hj;obtain⟨j,gj,rfl,hj,HQ,HM,HKj⟩:=hrel;by_cases hlt:j<NF
    ·have hlt':(j:Int)<NF:=by omega
     have hjl:j<fs.length:=by have:=HNF.out;omega
     obtain⟨b,o,pv,bv,rfl,hb,hPb,h0,h1,h2,hRp,hRb⟩:=np HFr.out j hjl;have hS:=uH (g:=gj) hjl;have hnm:=HFN.out _ (au hjl);obtain⟨y,hy⟩: ∃y,fs[j]=y:=⟨_,rfl⟩
     rw[hy]at h0 hRp hRb hS hnm;clear hy;obtain⟨nm,ps,bd⟩:=y;simp only at h0 hRp hRb hnm;obtain⟨Ap,cp,rfl,_⟩:=hRp;obtain⟨Ab,cb2,rfl,_⟩:=hRb.form;have e0:=((HKP.out _ HM.out).cell _ hPb hb).trans h0;have e1:=((HKP.out _ HM.out).cell _ hPb hb).trans h1;have e2:=((HKP.out _ HM.out).cell _ hPb hb).trans h2;have hAl:=O wr (.cells #[.string (ai nm), .slice Ap ps.length cp, .slice Ab bd.length cb2] 59);have HKA:=G (HKj.out.ext hAl);have HBA:=G (an wr 59 #[.string (ai nm), .slice Ap ps.length cp, .slice Ab bd.length cb2]);have HMA:=G (HM.out.alloc (.cells #[.string (ai nm), .slice Ap ps.length cp, .slice Ab bd.length cb2] 59));clear h0 h1 h2 hAl hRb
     cases hkn:gj.known eY nm with
     |true=>
      have HFn:=G (show Rv= .error (nm,9) by rw[<-HQ.out,hS];simp only[hkn,if_true];rfl);go_wp2_with (first|(go_at_call 72;refine(dO _ gj _ eY _ HKA.out nm hnm).mono ?_;rw[hkn];rintro e wx ⟨rfl,hE⟩;have HMB:=G (HMA.out.trans (.of_ext hE));have f0:=(HBA.out.ext hE).cell;clear hE)|(go_at_call 73;refine(dN nm 9 _).mono ?_;unfold a_;rintro e wx ⟨rfl,hE⟩;have HMC:=G (HMB.out.trans (.of_ext hE));clear hE));exact⟨rfl,by rw[HFn.out];exact⟨HMC.out,rfl⟩⟩
     |false=>
      have hS2:gV gj (fs.drop j)=gV (gj.addF ⟨nm,ps,bd⟩) (fs.drop (j+1)):=by rw[hS];simp only[hkn,aN,if_false]
      go_wp2_with (go_at_call 72;refine(dO _ gj _ eY _ HKA.out nm hnm).mono ?_;rw[hkn];rintro e wx ⟨rfl,hE⟩;have HMB:=G (HMA.out.trans (.of_ext hE));have HBB:=G (HBA.out.ext hE);have f0:=HBB.out.cell;have HKB:=G (HKA.out.ext hE);clear hE);refine az 9 1 [] mixed (by kernel_rfl) trivial ?_;repeat (refine sx ?_ (fun w1 hU=> ?_) ?_;rotate_left;(focus have f0:=(HBB.out.ext hU.un).cell;have fk:=(HKB.out.ext hU.un).blk.cell;clear hU;go_simp<;>with_reducible rfl);simp only[aY,aX,aW,aV,aU])
      intro w7 hw7 _;simp only[ac,ap];have HK7:=G (HKB.out.ext hw7.un);have HM7:=G (HMB.out.trans (.of_ext hw7.un));clear hw7 f0;go_wp2_with (at_mapUpdate;refine cB DB rfl _ _ _ rfl HK7.out.f rfl (by unfold maxLen;omega) rfl _ rfl ?_;intro w8 hm8 hg8;have HK8:=G (HK7.out.addF (f:=⟨nm,ps,bd⟩) HX.out hm8 hg8);have HM8:=G (HM7.out.trans (.of_grown hg8 (fun k e=>by injection e with e;exact .inr (.inr e.symm))));clear hm8 hg8);go_roundw
      case rel=>exact⟨j+1,gj.addF ⟨nm,ps,bd⟩,by go_num,by omega,G (by rw[<-hS2];exact HQ.out),HM8,HK8⟩
      case measure=>simp[intOf];omega
    ·have hlt': ¬(j:Int)<NF:=by omega
     have HQ2:=G (show uG gj=Rv by
      have:=HQ.out;rw[aF (by have:=HNF.out;omega),gV,dV]at this
      exact this)
     have hc:=HKj.out.blk.cell;have fm:(Instr.lookup 106 (.map (some bf)) (.string ⟨#[109,97,105,110]⟩) true).run prog wr= .ok (.tuple #[.int .i64 (((gj.fn bC).getD 0:Nat):Int), .bool (gj.fn bC).isSome]) wr:=HKj.out.lookF (s:=bC) (by decide);unfold uG at HQ2
     cases hfm:gj.fn bC with
     |none=>
      rw[hfm]at HQ2 fm;simp only[dL,cQ]at fm;have HFn:=G HQ2.out.symm;go_wp2_with (go_at_call 73;refine(show Calls prog 73 #[.string ⟨#[109,97,105,110]⟩, .int .i64 8] _ _ from dN bC 8 _).mono ?_;unfold a_;rintro e wx ⟨rfl,hE⟩;have HMC:=G (HM.out.trans (.of_ext hE));clear hE);exact⟨rfl,by rw[HFn.out];exact⟨HMC.out,rfl⟩⟩
     |some n=>
      rw[hfm]at HQ2 fm;simp only[bx,cF]at fm HQ2;by_cases hn:0<n
      ·have hn':(0:Int)<n:=by omega
       have HFn:=G (show Rv= .error (bC,16) by rw[<-HQ2.out,if_pos hn]);go_wp2_with (go_at_call 73;refine(show Calls prog 73 #[.string ⟨#[109,97,105,110]⟩, .int .i64 16] _ _ from dN bC 16 _).mono ?_;unfold a_;rintro e wx ⟨rfl,hE⟩;have HMC:=G (HM.out.trans (.of_ext hE));clear hE);exact⟨rfl,by rw[HFn.out];exact⟨HMC.out,rfl⟩⟩
      ·have hn': ¬(0:Int)<n:=by omega
       have HFn:=G (show Rv= .ok gj by rw[<-HQ2.out,if_neg hn]);go_wp2_with fail;exact bodyPost_end (results_none rfl _ _ _) rfl (by rw[HFn.out];exact⟨HM.out,rfl,HKj.out⟩)
end
section
open Go.RowKit
mutual
theorem Ay: ∀s:St,s9 s<=s.wt
 | .mk k nm e b l=>by
  have:=jz b;have:=jz l;rw[s9,St.wt];split<;>omega
theorem jz: ∀l:List St,fd l<=fq l
 | []=>by simp[fd]
 |s::r=>by
  have:=Ay s;have:=jz r;rw[fd,fq];omega
end
theorem vT {l:List St} {j:Nat} (h:j<l.length):fd (l.drop j)=s9 l[j]+fd (l.drop (j+1)):=by
 rw[ay h,fd]
def Dv (xs:List St):Prop:= ∀(P:Nat->Prop) (w:World) (A:Option Addr) (n c:Nat),cR w P (.slice A n c) xs->Calls prog 54 #[.slice A n c] w fun e w'=>e= .returned (.int .i64 (fd xs:Int))/\aq w w'
theorem rF (xs:List St) (hw:fq xs<=1073741824) (hIH: ∀s∈xs,Dv s.body/\Dv s.els):Dv xs:=by
 intro P w A n c hR;obtain⟨A',c',hv,hf⟩:=hR.form;injection hv with hv1 hv2 hv3;subst hv1 hv2 hv3;have hl:=dz xs;have hdl:=jz xs;have HR:=G hR;have HI:=G hIH;obtain⟨N,hN⟩: ∃N,xs.length=N:=⟨_,rfl⟩
 have HN:=G hN;rw[hN]at HR hl;obtain⟨Rv,hRv⟩: ∃R,fd xs=R:=⟨_,rfl⟩
 have HQ0:=G (show 0+fd (xs.drop 0)=Rv by rw[<-hRv];simp);have HX0:=G (aR w);have hRb:Rv<=1073741824:=by omega
 rw[hN,hRv];clear hR hf hIH hN hRv hdl;go_enter func54,ntmps54;go_wp2_with fail
 go_loopw [3,8] (fun vm vi wr=> ∃(j m:Nat),vi= .int .i64 (j:Int)/\vm= .int .i64 (m:Int)/\j<=N/\Hid (m+fd (xs.drop j)=Rv)/\Hid (aq w wr)) (fun _ vi _=>N-(intOf vi).toNat)
 case atStart=>exact⟨0,0,rfl,rfl,aG _,HQ0,HX0⟩
 case round=>
  obtain⟨j,m,rfl,rfl,hj,HQ,HX⟩:=hrel;by_cases hlt:j<N
  ·have hlt':(j:Int)<N:=by omega
   have hjl:j<xs.length:=by have:=HN.out;omega
   obtain⟨b,o,e,bv,lv,rfl,hb,hPb,h0,h1,h2,h3,h4,hRe,hRb2,hRl⟩:=HR.out.at_ j hjl;have hS:=vT hjl;have hII:=HI.out _ (au hjl);obtain⟨y,hy⟩: ∃y,xs[j]=y:=⟨_,rfl⟩
   rw[hy]at h0 h1 hRe hRb2 hRl hS hII;clear hy;obtain⟨k,nm,ex,bd,el⟩:=y;simp only[St.k,St.nm,St.ex,St.body,St.els]at h0 h1 hRe hRb2 hRl hII;rw[s9]at hS;have hSb:=HQ.out;rw[hS]at hSb;have e0:=(HX.out.cell b _ hb).trans h0;have e1:=(HX.out.cell b _ hb).trans h1;have e2:=(HX.out.cell b _ hb).trans h2;have e3:=(HX.out.cell b _ hb).trans h3;have e4:=(HX.out.cell b _ hb).trans h4;obtain⟨A1,c1,rfl,_⟩:=hRe.form;obtain⟨A2,c2,rfl,_⟩:=hRb2.form;obtain⟨A3,c3,rfl,_⟩:=hRl.form;have hAl:=O wr (.cells #[.int .i64 k, .string (ai nm), .slice A1 ex.length c1, .slice A2 bd.length c2, .slice A3 el.length c3] 72);have HBK:=G (an wr 72 #[.int .i64 k, .string (ai nm), .slice A1 ex.length c1, .slice A2 bd.length c2, .slice A3 el.length c3]);have HXA:=G (HX.out.trans hAl);have HRb:=G (hRb2.keep (.of_ext HXA.out) (Q:=P) (fun b hb _=>hb));have HRl:=G (hRl.keep (.of_ext HXA.out) (Q:=P) (fun b hb _=>hb));have HII:=G hII;obtain⟨d1,hd1⟩: ∃d,fd bd=d:=⟨_,rfl⟩
   obtain⟨d2,hd2⟩: ∃d,fd el=d:=⟨_,rfl⟩
   rw[hd1,hd2]at hSb;have HC1:=G (fun W (h:aq (wr.alloc (.cells #[.int .i64 k, .string (ai nm), .slice A1 ex.length c1, .slice A2 bd.length c2, .slice A3 el.length c3] 72)) W)=>hd1▸HII.out.1 P W A2 _ c2 (HRb.out.keep (.of_ext h) (Q:=P) (fun b hb _=>hb)));have HC2:=G (fun W (h:aq (wr.alloc (.cells #[.int .i64 k, .string (ai nm), .slice A1 ex.length c1, .slice A2 bd.length c2, .slice A3 el.length c3] 72)) W)=>hd2▸HII.out.2 P W A3 _ c3 (HRl.out.keep (.of_ext h) (Q:=P) (fun b hb _=>hb)));have HSb:=G hSb;clear h0 h1 h2 h3 h4 hRe hRb2 hRl hII hAl HRb HRl HII hd1 hd2 hS hSb;have hbs:m+(if k=1 then 1 else 0)+(d1+d2)<=1073741824:=by have:=HSb.out;omega
   have hwr: ∀z:Nat,z<=1073741824->IntKind.i64.wrap (z:Int)=z:=fun z hz=>by simp[IntKind.wrap,IntKind.signed,IntKind.bits];omega
   have hw1:IntKind.i64.wrap ((d1:Int)+(d2:Int))=((d1+d2:Nat):Int):=by rw[<-Int.natCast_add];exact hwr _ (by omega)
   by_cases hk:k=1
   ·subst hk;have hbs:m+1+(d1+d2)<=1073741824:=by simpa using hbs
    have hw2:IntKind.i64.wrap ((m:Int)+1+((d1+d2:Nat):Int))=((m+1+(d1+d2):Nat):Int):=by rw[<-hwr (m+1+(d1+d2)) hbs];congr 1
    clear hwr;go_wp2_with fail;refine cN 9 4 [(3,fun v=>v= .int .i64 (d1:Int),fun _ _=>True),(6,fun v=>v= .int .i64 (d2:Int),fun _ _=>True)] [] [1,4] mixed (by kernel_rfl) (by kernel_rfl) (by kernel_rfl) (by rfl) ⟨fun _ _ _ _ _=>trivial,fun _ _ _ _ _=>trivial,trivial⟩ (fun i hi=>by cases hi) ?_;repeat (first|(refine bL (by rfl) ?_;simp only[aY,aX,aW,aV,aU])|(refine sx ?_ (fun w1 hU=> ?_) ?_;rotate_left;(focus have f1:=(HBK.out.ext hU.un).cell;clear hU;go_simp<;>with_reducible rfl);simp only[aY,aX,aW,aV,aU]))
    refine so (fun w6 hU hp K hK=> ?_) ?_
    ·have hc:=HC1.out w6 hU.un;clear hp hU;go_simp;refine hc.mono ?_;rintro e w7 ⟨rfl,hE⟩;exact hK _ _ hE rfl trivial
    rintro _ rfl;simp only[aY,aX,aW,aV,aU];repeat (first|(refine bL (by rfl) ?_;simp only[aY,aX,aW,aV,aU])|(refine sx ?_ (fun w1 hU=> ?_) ?_;rotate_left;(focus have f1:=(HBK.out.ext hU.un).cell;clear hU;go_simp<;>with_reducible rfl);simp only[aY,aX,aW,aV,aU]))
    refine so (fun w6 hU hp K hK=> ?_) ?_
    ·have hc:=HC2.out w6 hU.un;clear hp hU;go_simp;refine hc.mono ?_;rintro e w7 ⟨rfl,hE⟩;exact hK _ _ hE rfl trivial
    rintro _ rfl;simp only[aY,aX,aW,aV,aU];repeat (first|(refine bL (by rfl) ?_;simp only[aY,aX,aW,aV,aU])|(refine sx ?_ (fun w1 hU=> ?_) ?_;rotate_left;(focus have f1:=(HBK.out.ext hU.un).cell;clear hU;go_simp<;>with_reducible rfl);simp only[aY,aX,aW,aV,aU]))
    intro w8 hw8 hp hpair;clear hp hpair;simp only[ac,ap];have HX8:=G (HXA.out.trans hw8.un);refine aK (by rfl) (by simp) (fun K hK=> ?_);go_simp;refine hK _ _ hw8 ?_;clear hK hw8;refine cg ?_;go_wp2_with fail;go_roundw
    case rel=>exact⟨j+1,m+1+(d1+d2),by go_num,congrArg (Value.int .i64) (by simp[IntKind.wrap,IntKind.signed,IntKind.bits];omega),by omega,G (by have:=HSb.out;simp only[if_true]at this;omega),HX8⟩
    case measure=>simp[intOf];omega
   ·have hkb:=beq_eq_false_iff_ne.2 hk;have hbs:m+(d1+d2)<=1073741824:=by simpa[hk]using hbs
    have hw2:IntKind.i64.wrap ((m:Int)+((d1+d2:Nat):Int))=((m+(d1+d2):Nat):Int):=by rw[<-hwr (m+(d1+d2)) hbs];congr 1
    clear hwr;go_wp2_with fail;refine cN 9 4 [(3,fun v=>v= .int .i64 (d1:Int),fun _ _=>True),(6,fun v=>v= .int .i64 (d2:Int),fun _ _=>True)] [] [1,4] mixed (by kernel_rfl) (by kernel_rfl) (by kernel_rfl) (by rfl) ⟨fun _ _ _ _ _=>trivial,fun _ _ _ _ _=>trivial,trivial⟩ (fun i hi=>by cases hi) ?_;repeat (first|(refine bL (by rfl) ?_;simp only[aY,aX,aW,aV,aU])|(refine sx ?_ (fun w1 hU=> ?_) ?_;rotate_left;(focus have f1:=(HBK.out.ext hU.un).cell;clear hU;go_simp<;>with_reducible rfl);simp only[aY,aX,aW,aV,aU]))
    refine so (fun w6 hU hp K hK=> ?_) ?_
    ·have hc:=HC1.out w6 hU.un;clear hp hU;go_simp;refine hc.mono ?_;rintro e w7 ⟨rfl,hE⟩;exact hK _ _ hE rfl trivial
    rintro _ rfl;simp only[aY,aX,aW,aV,aU];repeat (first|(refine bL (by rfl) ?_;simp only[aY,aX,aW,aV,aU])|(refine sx ?_ (fun w1 hU=> ?_) ?_;rotate_left;(focus have f1:=(HBK.out.ext hU.un).cell;clear hU;go_simp<;>with_reducible rfl);simp only[aY,aX,aW,aV,aU]))
    refine so (fun w6 hU hp K hK=> ?_) ?_
    ·have hc:=HC2.out w6 hU.un;clear hp hU;go_simp;refine hc.mono ?_;rintro e w7 ⟨rfl,hE⟩;exact hK _ _ hE rfl trivial
    rintro _ rfl;simp only[aY,aX,aW,aV,aU];repeat (first|(refine bL (by rfl) ?_;simp only[aY,aX,aW,aV,aU])|(refine sx ?_ (fun w1 hU=> ?_) ?_;rotate_left;(focus have f1:=(HBK.out.ext hU.un).cell;clear hU;go_simp<;>with_reducible rfl);simp only[aY,aX,aW,aV,aU]))
    intro w8 hw8 hp hpair;clear hp hpair;simp only[ac,ap];have HX8:=G (HXA.out.trans hw8.un);refine aK (by rfl) (by simp) (fun K hK=> ?_);go_simp;refine hK _ _ hw8 ?_;clear hK hw8;refine cg ?_;go_wp2_with fail;go_roundw
    case rel=>exact⟨j+1,m+(d1+d2),by go_num,congrArg (Value.int .i64) (by simp[IntKind.wrap,IntKind.signed,IntKind.bits];omega),by omega,G (by have:=HSb.out;rw[if_neg hk]at this;omega),HX8⟩
    case measure=>simp[intOf];omega
  ·have hlt': ¬(j:Int)<N:=by omega
   have HM:=G (show m=Rv by
    have:=HQ.out;rw[aF (by have:=HN.out;omega),fd]at this
    omega)
   go_wp2_with fail;go_ret;exact⟨by rw[<-HM.out];rfl,HX.out⟩
theorem jy: ∀(m:Nat) (xs:List St),fq xs<=m->fq xs<=1073741824->Dv xs
 |0,xs,h,hw=>rF xs hw (fun s hs=>by have:=bS hs;have:=s.wt_eq;omega)
 |m+1,xs,h,hw=>rF xs hw (fun s hs=>⟨jy m s.body (by have:=bS hs;have:=s.wt_eq;omega) (by have:=bS hs;have:=s.wt_eq;omega),jy m s.els (by have:=bS hs;have:=s.wt_eq;omega) (by have:=bS hs;have:=s.wt_eq;omega)⟩)
end
section
open Go.RowKit
theorem yn (xs:List St) (h:fq xs<=1073741824):Dv xs:=jy _ xs (ah _) h
theorem sg (nm:List UInt8) (ps:List (List UInt8)) (bd:List St) (hw:fq bd<=6000000) (hp:ps.length<=6000000) (P:Nat->Prop) (w:World) (A B:Option Addr) (c d:Nat) (hR:cR w P (.slice B bd.length d) bd):
  Calls prog 24 #[.agg #[.string (ai nm), .slice A ps.length c, .slice B bd.length d]] w fun e w'=>e= .returned (.int .i64 (gF ⟨nm,ps,bd⟩:Int))/\aq w w':=by
 have hE0:=O w (.cells #[.string (ai nm), .slice A ps.length c, .slice B bd.length d] 59);have HE0:=G hE0;have HB0:=G (an w 59 #[.string (ai nm), .slice A ps.length c, .slice B bd.length d]);have hdl:=jz bd;obtain⟨q,hq⟩: ∃q,fd bd=q:=⟨_,rfl⟩
 have HD:=G (fun W (h:aq (w.alloc (.cells #[.string (ai nm), .slice A ps.length c, .slice B bd.length d] 59)) W)=>hq▸yn bd (by omega) P W B _ d ((hR.keep (.of_ext hE0) (Q:=P) (fun b hb _=>hb)).keep (.of_ext h) (Q:=P) (fun b hb _=>hb)));have HF:=G (show gF ⟨nm,ps,bd⟩=4*(8+ps.length+q) by rw[<-hq];rfl);rw[hq]at hdl;generalize ps.length=n at*;generalize bd.length=m at*;clear hR hE0 hq;go_enter func24,ntmps24;go_wp2_with fail;refine az 10 3 [(6,fun v=>v= .int .i64 (q:Int),fun _ _=>True)] mixed (by kernel_rfl) ⟨fun _ _ _ _ _=>trivial,trivial⟩ ?_;repeat (first|(refine bL (by rfl) ?_;simp only[aY,aX,aW,aV,aU])|(refine sx ?_ (fun w1 hU=> ?_) ?_;rotate_left;(focus have f1:=(HB0.out.ext hU.un).cell;clear hU;go_simp<;>with_reducible rfl);simp only[aY,aX,aW,aV,aU]))
 refine so (fun w6 hU hp K hK=> ?_) ?_
 ·have hc:=HD.out w6 hU.un;clear hp hU;go_simp;refine hc.mono ?_;rintro e w7 ⟨rfl,hE⟩;exact hK _ _ hE rfl trivial
 rintro _ rfl;simp only[aY,aX,aW,aV,aU];repeat (first|(refine bL (by rfl) ?_;simp only[aY,aX,aW,aV,aU])|(refine sx ?_ (fun w1 hU=> ?_) ?_;rotate_left;(focus have f1:=(HB0.out.ext hU.un).cell;clear hU;go_simp<;>with_reducible rfl);simp only[aY,aX,aW,aV,aU]))
 intro w8 hw8 hp;clear hp;simp only[ac,aM];have HX8:=G (HE0.out.trans hw8.un);clear hw8;go_wp2_with fail;go_ret;refine⟨congrArg (fun z=>Ending.returned (.int .i64 z)) ?_,HX8.out⟩;rw[HF.out];simp[IntKind.wrap,IntKind.signed,IntKind.bits];omega
def DF (xs:List St):Prop:= ∀(P:Nat->Prop) (w:World) (A:Option Addr) (n c:Nat),BT w->cR w P (.slice A n c) xs->Calls prog 75 #[.slice A n c] w fun e w'=>e= .returned (.bool (lA xs))/\aq w w'
theorem xD {l:List St} {j:Nat} (h:j<l.length):lA (l.drop j)=(DA l[j]||lA (l.drop (j+1))):=by
 rw[ay h,lA]
theorem yO {l:List Ex} {j:Nat} (h:j<l.length):(l.drop j).any (fun y=>decide (7<cX y))=(decide (7<cX l[j])||(l.drop (j+1)).any (fun y=>decide (7<cX y))):=by
 rw[ay h,iM]
theorem rh (xs:List St) (hw:fq xs<=1073741824) (hIH: ∀s∈xs,DF s.body/\DF s.els):DF xs:=by
 intro P w A n c hT hR;obtain⟨A',c',hv,hf⟩:=hR.form;injection hv with hv1 hv2 hv3;subst hv1 hv2 hv3;have hl:=dz xs;have HR:=G hR;have HI:=G hIH;have HT:=G hT;have HWT:=G (fun s (hs:s∈xs)=>show fL s.ex<=1073741824 by have:=bS hs;have:=s.wt_eq;omega);obtain⟨N,hN⟩: ∃N,xs.length=N:=⟨_,rfl⟩
 have HN:=G hN;rw[hN]at HR hl;obtain⟨Rv,hRv⟩: ∃R,lA xs=R:=⟨_,rfl⟩
 have HQ0:=G (show lA (xs.drop 0)=Rv from hRv);have HX0:=G (aR w);rw[hN,hRv];clear hR hf hIH hN hRv hT;go_enter func75,ntmps75;go_wp2_with fail
 go_loopw [9] (fun vi wr=> ∃(j:Nat),vi= .int .i64 (j:Int)/\j<=N/\Hid (lA (xs.drop j)=Rv)/\Hid (aq w wr)) (fun vi _=>N-(intOf vi).toNat)
 case atStart=>exact⟨0,rfl,aG _,HQ0,HX0⟩
 case round=>
  obtain⟨j,rfl,hj,HQ,HX⟩:=hrel;generalize wr=wo at*;by_cases hlt:j<N
  ·have hlt':(j:Int)<N:=by omega
   have hjl:j<xs.length:=by have:=HN.out;omega
   obtain⟨b,o,e,bv,lv,rfl,hb,hPb,h0,h1,h2,h3,h4,hRe,hRb2,hRl⟩:=HR.out.at_ j hjl;have hS:=xD hjl;have hII:=HI.out _ (au hjl);have hWx:=HWT.out _ (au hjl);obtain⟨y,hy⟩: ∃y,xs[j]=y:=⟨_,rfl⟩
   rw[hy]at h0 h1 hRe hRb2 hRl hS hII hWx;clear hy;obtain⟨k,nm,ex,bd,el⟩:=y;simp only[St.k,St.nm,St.ex,St.body,St.els]at h0 h1 hRe hRb2 hRl hII hWx;rw[DA]at hS;have HS:=G (HQ.out.symm.trans hS);obtain⟨M,hM⟩: ∃m,ex.length=m:=⟨_,rfl⟩
   obtain⟨A1,c1,rfl,_⟩:=hRe.form;obtain⟨A2,c2,rfl,_⟩:=hRb2.form;obtain⟨A3,c3,rfl,_⟩:=hRl.form;rw[hM]at h2 hRe;have HM:=G hM;have hMb:M<=1073741824:=by have:=dB ex;omega
   have e0:=(HX.out.cell b _ hb).trans h0;have e1:=(HX.out.cell b _ hb).trans h1;have e2:=(HX.out.cell b _ hb).trans h2;have e3:=(HX.out.cell b _ hb).trans h3;have e4:=(HX.out.cell b _ hb).trans h4;have hAl:=O wo (.cells #[.int .i64 k, .string (ai nm), .slice A1 M c1, .slice A2 bd.length c2, .slice A3 el.length c3] 72);have HBK:=G (an wo 72 #[.int .i64 k, .string (ai nm), .slice A1 M c1, .slice A2 bd.length c2, .slice A3 el.length c3]);have HXA:=G (HX.out.trans hAl);have HRe:=G (hRe.keep (.of_ext HXA.out) (Q:=P) (fun b hb _=>hb));have HRb:=G (hRb2.keep (.of_ext HXA.out) (Q:=P) (fun b hb _=>hb));have HRl:=G (hRl.keep (.of_ext HXA.out) (Q:=P) (fun b hb _=>hb));have HII:=G hII;have HWX:=G hWx;have HI0:=G (show(((ex.drop 0).any (fun y=>decide (7<cX y))||(lA bd||lA el))||lA (xs.drop (j+1)))=Rv from HS.out.symm);have HY0:=G (aR (wo.alloc (.cells #[.int .i64 k, .string (ai nm), .slice A1 M c1, .slice A2 bd.length c2, .slice A3 el.length c3] 72)));clear h0 h1 h2 h3 h4 hRe hRb2 hRl hII hS hAl hM hWx HR HI HWT;go_wp2_with fail
   go_loopw [16] (fun vi wr=> ∃(i:Nat),vi= .int .i64 (i:Int)/\i<=M/\Hid ((((ex.drop i).any (fun y=>decide (7<cX y))||(lA bd||lA el))||lA (xs.drop (j+1)))=Rv)/\Hid (aq (wo.alloc (.cells #[.int .i64 k, .string (ai nm), .slice A1 M c1, .slice A2 bd.length c2, .slice A3 el.length c3] 72)) wr)) (fun vi _=>M-(intOf vi).toNat)
   case atStart=>exact⟨0,rfl,aG _,HI0,HY0⟩
   case round=>
    obtain⟨i,rfl,hi,HIQ,HY⟩:=hrel;by_cases hli:i<M
    ·have hli':(i:Int)<M:=by omega
     have hil:i<ex.length:=by have:=HM.out;omega
     obtain⟨b2,o2,a2,rfl,hb2,hP2,g0,g1,g2,g3,g4,g5,hRa⟩:=HRe.out.at_ i hil;have HSI:=G (yO hil);have hyw:=dG (au hil);have hyn:=gR ex[i];have HND:=G (oW _ ex[i] (ah _) (by have:=HWX.out;omega));generalize ex[i]=y at*;have q0:=(HY.out.cell b2 _ hb2).trans g0;have q1:=(HY.out.cell b2 _ hb2).trans g1;have q2:=(HY.out.cell b2 _ hb2).trans g2;have q3:=(HY.out.cell b2 _ hb2).trans g3;have q4:=(HY.out.cell b2 _ hb2).trans g4;have q5:=(HY.out.cell b2 _ hb2).trans g5;obtain⟨B,d,rfl,_⟩:=hRa.form;have HRa:=G ((hRa.keep (.of_ext HY.out) (Q:=P) (fun b hb _=>hb)).keep (.of_ext (O _ (.cells #[.int .i64 y.k, .string (ai y.op), .string (ai y.nm), .string (ai y.tx), .int .i64 y.v, .slice B y.args.length d] 70))) (Q:=P) (fun b hb _=>hb));have HTi:=G (((HT.out.ext HXA.out).ext HY.out).ext (O wr (.cells #[.int .i64 y.k, .string (ai y.op), .string (ai y.nm), .string (ai y.tx), .int .i64 y.v, .slice B y.args.length d] 70)));clear g0 g1 g2 g3 g4 g5 hRa hyw hyn;by_cases h7:7<cX y
     ·have h7':(7:Int)<(cX y:Int):=by omega
      have HF:=G (show Rv=true by rw[<-HIQ.out,HSI.out,decide_eq_true h7];rfl);go_wp2_with (go_at_call 26;refine(HND.out P _ B _ d HRa.out HTi.out).mono ?_;rintro e w3 ⟨rfl,hE⟩;have HZ:=G (((HXA.out.trans HY.out).alloc' _).trans hE);clear hE);go_ret;exact⟨by rw[HF.out];rfl,HZ.out⟩
     ·have h7': ¬(7:Int)<(cX y:Int):=by omega
      have HF:=G (show(((ex.drop (i+1)).any (fun y=>decide (7<cX y))||(lA bd||lA el))||lA (xs.drop (j+1)))=Rv by rw[<-HIQ.out,HSI.out,decide_eq_false h7];rfl);go_wp2_with (go_at_call 26;refine(HND.out P _ B _ d HRa.out HTi.out).mono ?_;rintro e w3 ⟨rfl,hE⟩;have HZ:=G ((HY.out.alloc' _).trans hE);clear hE);go_roundw
      case rel=>exact⟨i+1,by go_num,by omega,HF,HZ⟩
      case measure=>simp[intOf];omega
    ·have hli': ¬(i:Int)<M:=by omega
     have HF:=G (show((lA bd||lA el)||lA (xs.drop (j+1)))=Rv by
      have:=HIQ.out;rw[aF (l:=ex) (by have:=HM.out;omega)]at this
      exact this)
     have f0:=(HBK.out.ext HY.out).cell;have HXY:=G (HXA.out.trans HY.out);have HC1:=HII.out.1 P wr A2 _ c2 (HT.out.ext HXY.out) (HRb.out.keep (.of_ext HY.out) (Q:=P) (fun b hb _=>hb));have HC1:=G HC1
     cases hr1:lA bd with
     |true=>
      rw[hr1]at HF HC1;have HF:=G (show Rv=true from HF.out.symm);go_wp2_with (go_at_call 75;refine HC1.out.mono ?_;rintro e w3 ⟨rfl,hE⟩;have HZ:=G (HXY.out.trans hE);clear hE HC1);go_ret;exact⟨by rw[HF.out];rfl,HZ.out⟩
     |false=>
      rw[hr1]at HF HC1
      cases hr2:lA el with
      |true=>
       rw[hr2]at HF;have HF:=G (show Rv=true from HF.out.symm);go_wp2_with (first|(go_at_call 75;refine HC1.out.mono ?_;clear HC1;rintro e w3 ⟨rfl,hE⟩;have HZ:=G (HXY.out.trans hE);have HE3:=G hE;clear f0;have f0:=(HBK.out.ext (HY.out.trans hE)).cell;clear hE)|(go_at_call 75;have hc:=HII.out.2 P _ A3 _ c3 (HT.out.ext HZ.out) (HRl.out.keep (.of_ext (HY.out.trans HE3.out)) (Q:=P) (fun b hb _=>hb));rw[hr2]at hc;refine hc.mono ?_;clear hc;rintro e w4 ⟨rfl,hE⟩;have HZ4:=G (HZ.out.trans hE);clear hE));go_ret;exact⟨by rw[HF.out];rfl,HZ4.out⟩
      |false=>
       rw[hr2]at HF;have HF:=G (show lA (xs.drop (j+1))=Rv from HF.out);go_wp2_with (first|(go_at_call 75;refine HC1.out.mono ?_;clear HC1;rintro e w3 ⟨rfl,hE⟩;have HZ:=G (HXY.out.trans hE);have HE3:=G hE;clear f0;have f0:=(HBK.out.ext (HY.out.trans hE)).cell;clear hE)|(go_at_call 75;have hc:=HII.out.2 P _ A3 _ c3 (HT.out.ext HZ.out) (HRl.out.keep (.of_ext (HY.out.trans HE3.out)) (Q:=P) (fun b hb _=>hb));rw[hr2]at hc;refine hc.mono ?_;clear hc;rintro e w4 ⟨rfl,hE⟩;have HZ4:=G (HZ.out.trans hE);clear hE));go_roundw
       case rel=>exact⟨j+1,by go_num,by omega,HF,HZ4⟩
       case measure=>simp[intOf];omega
  ·have hlt': ¬(j:Int)<N:=by omega
   have HF:=G (show Rv=false by
    have:=HQ.out;rw[aF (by have:=HN.out;omega),lA]at this
    exact this.symm)
   go_wp2_with fail;go_ret;exact⟨by rw[HF.out];rfl,HX.out⟩
theorem lc: ∀(m:Nat) (xs:List St),fq xs<=m->fq xs<=1073741824->DF xs
 |0,xs,h,hw=>rh xs hw (fun s hs=>by have:=bS hs;have:=s.wt_eq;omega)
 |m+1,xs,h,hw=>rh xs hw (fun s hs=>⟨lc m s.body (by have:=bS hs;have:=s.wt_eq;omega) (by have:=bS hs;have:=s.wt_eq;omega),lc m s.els (by have:=bS hs;have:=s.wt_eq;omega) (by have:=bS hs;have:=s.wt_eq;omega)⟩)
end
section
open Go.RowKit
theorem rI {α β γ:Type} (x:Except Er α) (k:α->Except Er β) (l:β->Except Er γ):CR.then (CR.then x k) l=CR.then x fun a=>CR.then (k a) l:=by cases x<;>rfl
abbrev CB.U (X:CB) (k:Nat):Prop:=k=X.g\/X.S k
section
variable {X:CB} {gl:Gl} {lv:Value} {lo lo':Ls} {w W:World}
theorem CK.lt (h:CK X gl lv lo w):X.g<w.heap.size/\X.bi<w.heap.size/\X.ba<w.heap.size/\X.bf<w.heap.size:=⟨h.blk.lt,h.i.lt,h.a.lt,h.f.lt⟩
theorem f8 {b:Nat} {t:TypeId} {cs:Array Value} {L:KF} (h:aL w b t cs) (hm:bM w b L):False:=by
 obtain⟨es,c,hm,_⟩:=hm;unfold aL at h;rw[h]at hm;cases hm
theorem CK.newL (h:CK X gl lv lo w) (hg:X.g≠0):CK X gl (.map (some w.heap.size)) eY ((w.alloc (.map #[] 0)).setCell ⟨X.g,5,none⟩ (.map (some w.heap.size))):=by
 obtain⟨h1,h2,h3,h4⟩:=h.lt;have he:=O w (.map #[] 0);have hi:X.bi≠X.g:=fun e=>f8 h.blk (e▸h.i);have ha:X.ba≠X.g:=fun e=>f8 h.blk (e▸h.a);have hf:X.bf≠X.g:=fun e=>f8 h.blk (e▸h.f);have hm:=gp w;refine⟨?_,(h.i.ext he).set hi _,(h.a.ext he).set ha _,(h.f.ext he).set hf _, .inr ⟨_,rfl,?_,by omega,by omega,by omega,by omega⟩,?_⟩
 ·have:=(h.blk.ext he).set 5 (.map (some w.heap.size));simpa using this
 ·refine(hm.set (p:=⟨X.g,5,none⟩) (by show _≠X.g;omega) _).congr fun s=> ?_;simp[B9,eY]
 ·obtain⟨t,fr,ht⟩:=h.t.ext he;exact⟨t,fr,(Below.heap_setCell _ ⟨X.g,5,none⟩ _ _ (fun e=>hg e.symm)).trans ht⟩
end
theorem vW {g:Gl} {lo:Ls} {l:List (List UInt8)} {j:Nat} (h:j<l.length):mI g lo (l.drop j)=if g.known lo l[j]=true then .error (l[j],9)else mI g (lo.add l[j]) (l.drop (j+1)):=by
 rw[ay h,mI]
theorem vX {g:Gl} {l:List Fc} {j:Nat} (h:j<l.length):jd g (l.drop j)=CR.then (mI g eY l[j].ps) fun lo=>CR.then (fe g lo l[j].body) fun _=>jd g (l.drop (j+1)):=by
 rw[ay h,jd]
theorem s_ {l:List Fc} {j:Nat} (h:j<l.length):fE (l.drop j)=if 20<l[j].ps.length+fd l[j].body\/lA l[j].body=true then .error (l[j].nm,6)else fE (l.drop (j+1)):=by
 rw[ay h,fE]
def EB (X:CB) (r:CR) (w:World) (e:Ending) (w':World):Prop:=Mv X.U w w'/\e=bW r
theorem wK (p:Pg) (hw:lz p<=6000000) (X:CB) (hX:X.Ok) (hgt:X.g≠0) (P:Nat->Prop) (w:World) (hV:mc w P X.sv p.vs) (hF:mm w P X.sf p.fs) (hP: ∀b,P b-> ¬X.U b) (hK:CK X mx (.map none) eY w):
  Calls prog 37 #[X.p] w (EB X (fR p) w):=by
 have hmm:= @run_makeMap prog;have HTO:=G (uC p hw X hX P w hV hF (fun b hb hs=>hP b hb (.inr hs)) hK);have hlf:p.fs.length<=6000000:=by have:=wC p;omega
 have HFN:=G (fun f (hf:f∈p.fs)=>show f.nm.length<=1073741824/\fq f.body<=6000000/\f.ps.length<=6000000/\ ∀y∈f.ps,y.length<=1073741824 by
  have h1:=nV hf;have h2:=tW (f:=f);have h3:fq f.body<=f.wt:=by unfold Fc.wt;omega
  have h4:f.ps.length<=f.wt:=by
   have:=jr (fun _:List UInt8=>1) (fun s=>s.length+1) f.ps (fun v _=>by omega);rw[gh]at this;unfold Fc.wt;omega
  exact⟨by omega,by omega,by omega,fun y hy=>by have:=xp hy;omega⟩)
 obtain⟨Rv,hRv⟩: ∃R,fR p=R:=⟨_,rfl⟩
 have HQT:=G (show CR.then (lF p) (fun g=>CR.then (jd g (p.fs.drop 0)) fun _=>fE p.fs)=Rv from hRv);rw[hRv];clear hRv hw;obtain⟨vs,fs⟩:=p;generalize lF ⟨vs,fs⟩=tr at*;obtain⟨g,bi,ba,bf,sv,sf⟩:=X;simp only[CB.p]at*;obtain⟨NF,hNF⟩: ∃n,fs.length=n:=⟨_,rfl⟩
 obtain⟨B,cb,hB⟩: ∃B cb,sf= .slice B NF cb:=by obtain⟨A,ca,h,_⟩:=hF;exact⟨A,ca,by rw[h,hNF]⟩
 subst hB;rw[hNF]at hlf;have HNF:=G hNF;have HFr:=G (hF.keep (Q:=fun b=>P b/\b<w.heap.size) ⟨ah _,fun _ _ _=>rfl⟩ (fun b h1 h2=>⟨h1,h2⟩));have HKP:=G (fun W (h:Mv (CB.U ⟨g,bi,ba,bf,sv, .slice B NF cb⟩) w W)=>show cC (fun b=>P b/\b<w.heap.size) w W from h.keepP (fun k hk _=>hP k hk.1));have HX:=G hX;have HGT:=G hgt;clear hV hF hP hK hX hNF hgt
 cases tr with
 |error q=>
  obtain⟨qn,m⟩:=q;have HFn:=G (show Rv= .error (qn,m)from HQT.out.symm);go_enter func37,ntmps37;go_wp2_with (go_at_call 71;refine HTO.out.mono ?_;unfold Ep a_;rintro e w1 ⟨hM,rfl⟩;have HM:=G (hM.mono (S':=CB.U ⟨g,bi,ba,bf,sv, .slice B NF cb⟩) (fun k _ h=> .inr h));clear hM HTO);exact⟨rfl,HM.out,by rw[HFn.out];rfl⟩
 |ok gl=>
  have HQ0:=G (show CR.then (jd gl (fs.drop 0)) (fun _=>fE fs)=Rv from HQT.out);go_enter func37,ntmps37;go_wp2_with (go_at_call 71;refine HTO.out.mono ?_;unfold Ep;rintro e w1 ⟨hM,rfl,hK1⟩;have HM0:=G (hM.mono (S':=CB.U ⟨g,bi,ba,bf,sv, .slice B NF cb⟩) (fun k _ h=> .inr h));have HK0:=G hK1;have hc:=HK0.out.blk.cell;clear hM hK1 HTO);clear hc
  go_loopw [16] (fun vi wr=> ∃(j:Nat) (lv:Value) (lo:Ls),vi= .int .i64 (j:Int)/\j<=NF/\Hid (CR.then (jd gl (fs.drop j)) (fun _=>fE fs)=Rv)/\Hid (Mv (CB.U ⟨g,bi,ba,bf,sv, .slice B NF cb⟩) w wr)/\Hid (CK ⟨g,bi,ba,bf,sv, .slice B NF cb⟩ gl lv lo wr)) (fun vi _=>NF-(intOf vi).toNat)
  case atStart=>exact⟨0,_,_,rfl,aG _,HQ0,HM0,HK0⟩
  case round=>
   obtain⟨j,lv,lo,rfl,hj,HQ,HM,HKj⟩:=hrel;generalize wr=wo at*;by_cases hlt:j<NF
   ·have hlt':(j:Int)<NF:=by omega
    have hjl:j<fs.length:=by have:=HNF.out;omega
    obtain⟨b,o,pv,bv,rfl,hb,hPb,h0,h1,h2,hRp,hRb⟩:=np HFr.out j hjl;have hS:=vX (g:=gl) hjl;have hFn:=HFN.out _ (au hjl);obtain⟨y,hy⟩: ∃y,fs[j]=y:=⟨_,rfl⟩
    rw[hy]at h0 hRp hRb hS hFn;clear hy;obtain⟨nm,ps,bd⟩:=y;simp only at h0 hRp hRb hS hFn;obtain⟨hnm,hwb,hpl,hpy⟩:=hFn
    have HQ1:=G (show CR.then (mI gl eY (ps.drop 0)) (fun lo=>CR.then (fe gl lo bd) fun _=>CR.then (jd gl (fs.drop (j+1))) fun _=>fE fs)=Rv by
     rw[<-HQ.out,hS,rI]
     simp only[rI,ap])
    obtain⟨M,hM⟩: ∃m,ps.length=m:=⟨_,rfl⟩
    obtain⟨Ap,cp,hpv,hRp⟩:=hRp;rw[hM]at hpv hpl;subst hpv;have HPM:=G hM;obtain⟨Ab,cb2,rfl,_⟩:=hRb.form;have e0:=((HKP.out _ HM.out).cell _ hPb hb).trans h0;have e1:=((HKP.out _ HM.out).cell _ hPb hb).trans h1;have e2:=((HKP.out _ HM.out).cell _ hPb hb).trans h2;have HRb:=G hRb;have HRp:=G hRp;have hAl:=O wo (.cells #[.string (ai nm), .slice Ap M cp, .slice Ab bd.length cb2] 59);have HKA:=G (HKj.out.ext hAl);have HBA:=G (an wo 59 #[.string (ai nm), .slice Ap M cp, .slice Ab bd.length cb2]);have HMA:=G (HM.out.alloc (.cells #[.string (ai nm), .slice Ap M cp, .slice Ab bd.length cb2] 59));have hm2:=O (wo.alloc (.cells #[.string (ai nm), .slice Ap M cp, .slice Ab bd.length cb2] 59)) (.map #[] 0);have hka:=(HKA.out.blk.ext hm2).cell;have hkf:=(HKA.out.blk.ext hm2).frozen;have hgl:g≠wo.heap.size:=by have:=HKj.out.lt.1;simp only at this;omega
    have hgl2:wo.heap.size≠g:=fun e=>hgl e.symm;have HB3:=G ((HBA.out.ext hm2).far (p:=⟨g,5,none⟩) hgl2 (.map (some (wo.heap.size+1))));have fb3:=HB3.out.cell
    have HK3:=G (show CK ⟨g,bi,ba,bf,sv, .slice (some ⟨b,o,none⟩) NF cb⟩ gl (.map (some (wo.heap.size+1))) eY (((wo.alloc (.cells #[.string (ai nm), .slice Ap M cp, .slice Ab bd.length cb2] 59)).alloc (.map #[] 0)).setCell ⟨g,5,none⟩ (.map (some (wo.heap.size+1))))from by
     have:=HKA.out.newL HGT.out
     rwa [World.size_alloc]at this)
    have HM3:=G ((HMA.out.alloc (.map #[] 0)).set (p:=⟨g,5,none⟩) (fun _=> .inl rfl) (.map (some (wo.heap.size+1))));have HG3:=G (World.grownBy.refl (((wo.alloc (.cells #[.string (ai nm), .slice Ap M cp, .slice Ab bd.length cb2] 59)).alloc (.map #[] 0)).setCell ⟨g,5,none⟩ (.map (some (wo.heap.size+1)))) (some (wo.heap.size+1)));have hne3:wo.heap.size+1≠wo.heap.size:=by omega
    have HS3:=G (show w.heap.size<=wo.heap.size from HM.out.size);have HMW:=G (fun W (h:World.grownBy (((wo.alloc (.cells #[.string (ai nm), .slice Ap M cp, .slice Ab bd.length cb2] 59)).alloc (.map #[] 0)).setCell ⟨g,5,none⟩ (.map (some (wo.heap.size+1)))) W (some (wo.heap.size+1)))=>show Mv (CB.U ⟨g,bi,ba,bf,sv, .slice (some ⟨b,o,none⟩) NF cb⟩) w W from HM3.out.tr (.of_grown (S:=fun k=>k=wo.heap.size+1) h (fun k e=>by injection e with e;exact e.symm)) (fun k h1 h2=>absurd h2 (by have:=HS3.out;omega)));clear h0 h1 h2 hRb hM hm2;go_wp2_with fail;clear fb3 hka hkf hmm
    go_loopw [27] (fun vi wr=> ∃(i:Nat) (loi:Ls),vi= .int .i64 (i:Int)/\i<=M/\Hid (CR.then (mI gl loi (ps.drop i)) (fun lo=>CR.then (fe gl lo bd) fun _=>CR.then (jd gl (fs.drop (j+1))) fun _=>fE fs)=Rv)/\Hid (World.grownBy (((wo.alloc (.cells #[.string (ai nm), .slice Ap M cp, .slice Ab bd.length cb2] 59)).alloc (.map #[] 0)).setCell ⟨g,5,none⟩ (.map (some (wo.heap.size+1)))) wr (some (wo.heap.size+1)))/\Hid (CK ⟨g,bi,ba,bf,sv, .slice (some ⟨b,o,none⟩) NF cb⟩ gl (.map (some (wo.heap.size+1))) loi wr)) (fun vi _=>M-(intOf vi).toNat)
    case atStart=>exact⟨0,eY,rfl,aG _,HQ1,HG3,HK3⟩
    case round=>
     obtain⟨i,loi,rfl,hi,HIQ,HG,HKi⟩:=hrel;by_cases hli:i<M
     ·have hli':(i:Int)<M:=by omega
      have hil:i<ps.length:=by have:=HPM.out;omega
      have hpc: ∃b2 o2,Ap=some ⟨b2,o2,none⟩/\(P b2/\b2<w.heap.size)/\b2<w.heap.size/\w.cell? ⟨b2,o2+i,none⟩=some (.string (ai ps[i])):=by
       rcases HRp.out with h|⟨_,_,b2,o2,h1,h2,h3,h4⟩
       ·rw[h]at hil;simp at hil
       ·exact⟨b2,o2,h1,h2,h3,h4 i hil⟩
      obtain⟨b2,o2,rfl,hb2,hb2l,p0⟩:=hpc;have q0:=((HKP.out _ (HMW.out _ HG.out)).cell _ hb2 hb2l).trans p0;have hS:=vW (g:=gl) (lo:=loi) hil;have hyl:=hpy _ (au hil);generalize ps[i]=y at*;have hkc:=HKi.out.blk.cell
      cases hkn:gl.known loi y with
      |true=>
       have HFn:=G (show Rv= .error (y,9) by rw[<-HIQ.out,hS,hkn];rfl);go_wp2_with (first|(go_at_call 72;refine(dO _ gl _ loi _ HKi.out y hyl).mono ?_;rw[hkn];rintro e wx ⟨rfl,hE⟩;have HMX:=G ((HMW.out _ HG.out).trans (.of_ext hE));clear hE)|(go_at_call 73;refine(dN y 9 _).mono ?_;unfold a_;rintro e wx ⟨rfl,hE⟩;have HMY:=G (HMX.out.trans (.of_ext hE));clear hE));exact⟨rfl,HMY.out,by rw[HFn.out];rfl⟩
      |false=>
       have hS2:mI gl loi (ps.drop i)=mI gl (loi.add y) (ps.drop (i+1)):=by rw[hS,hkn,if_neg (by decide)]
       go_wp2_with (first|(go_at_call 72;refine(dO _ gl _ loi _ HKi.out y hyl).mono ?_;rw[hkn];rintro e wx ⟨rfl,hE⟩;have HGX:=G (HG.out.trans (hE.grownBy _));have HKX:=G (HKi.out.ext hE);clear hkc;have hkc:=HKX.out.blk.cell;clear hE)|(at_mapUpdate;refine cB Bg rfl _ _ _ rfl HKX.out.ml.1 rfl (by unfold maxLen;omega) rfl _ rfl ?_;intro w8 hm8 hg8;have HK8:=G (HKX.out.add hm8 hg8);have HG8:=G (HGX.out.trans hg8);clear hm8 hg8));go_roundw
       case rel=>exact⟨i+1,loi.add y,by go_num,by omega,G (by rw[<-hS2];exact HIQ.out),HG8,HK8⟩
       case measure=>simp[intOf];omega
     ·have hli': ¬(i:Int)<M:=by omega
      have HQ2:=G (show CR.then (fe gl loi bd) (fun _=>CR.then (jd gl (fs.drop (j+1))) fun _=>fE fs)=Rv by
       have:=HIQ.out;rw[aF (l:=ps) (by have:=HPM.out;omega),mI,dV]at this
       exact this)
      have fb:=(HB3.out.grown HG.out (my hne3.symm)).cell;have HMi:=G (HMW.out _ HG.out);have hc:=k_ _ bd (ah _) (by omega) _ gl (wo.heap.size+1) loi (fun b=>P b/\b<w.heap.size) wr Ab _ cb2 HKi.out (HRb.out.keep (HKP.out _ HMi.out) (fun b hb _=>hb)) (fun b hb e=>by have:=HS3.out;omega);have HC:=G hc;clear hc
      cases hr:fe gl loi bd with
      |error q=>
       obtain⟨qn,m⟩:=q;have HFn:=G (show Rv= .error (qn,m) by rw[<-HQ2.out,hr];rfl);go_wp2_with (go_at_call 74;have hc:=HC.out;rw[hr]at hc;refine hc.mono ?_;unfold oF a_;rintro e wx ⟨hg,rfl⟩;have HMZ:=G (HMW.out _ (HG.out.trans hg));clear hg hc HC);exact⟨rfl,HMZ.out,by rw[HFn.out];rfl⟩
      |ok lo2=>
       have HQ3:=G (show CR.then (jd gl (fs.drop (j+1))) (fun _=>fE fs)=Rv by rw[<-HQ2.out,hr];rfl);go_wp2_with (go_at_call 74;have hc:=HC.out;rw[hr]at hc;refine hc.mono ?_;unfold oF;rintro e wx ⟨hg,rfl,hck⟩;have HMZ:=G (HMW.out _ (HG.out.trans hg));have HKZ:=G hck;clear hg hc HC hck);go_roundw
       case rel=>exact⟨j+1,_,lo2,by go_num,by omega,HQ3,HMZ,HKZ⟩
       case measure=>simp[intOf];omega
   ·have hlt': ¬(j:Int)<NF:=by omega
    have HQ1:=G (show fE (fs.drop 0)=Rv by
     have:=HQ.out;rw[aF (by have:=HNF.out;omega),jd,dV]at this
     exact this)
    have hc:=HKj.out.blk.cell;go_wp2_with fail;clear hc
    go_loopw [53] (fun vi wr=> ∃(i:Nat),vi= .int .i64 (i:Int)/\i<=NF/\Hid (fE (fs.drop i)=Rv)/\Hid (aq wo wr)) (fun vi _=>NF-(intOf vi).toNat)
    case atStart=>exact⟨0,rfl,aG _,HQ1,G (aR _)⟩
    case round=>
     obtain⟨i,rfl,hi,HIQ,HX3⟩:=hrel;by_cases hli:i<NF
     ·have hli':(i:Int)<NF:=by omega
      have hil:i<fs.length:=by have:=HNF.out;omega
      obtain⟨b,o,pv,bv,rfl,hb,hPb,h0,h1,h2,hRp,hRb⟩:=np HFr.out i hil;have hS:=s_ hil;have hFn:=HFN.out _ (au hil);obtain⟨y,hy⟩: ∃y,fs[i]=y:=⟨_,rfl⟩
      rw[hy]at h0 hRp hRb hS hFn;clear hy;obtain⟨nm,ps,bd⟩:=y;simp only at h0 hRp hRb hS hFn;obtain⟨hnm,hwb,hpl,hpy⟩:=hFn;obtain⟨M,hM⟩: ∃m,ps.length=m:=⟨_,rfl⟩
      obtain⟨Ap,cp,hpv,hRp⟩:=hRp;rw[hM]at hpv hpl hS;subst hpv;obtain⟨Ab,cb2,rfl,_⟩:=hRb.form;have HMx:=G (HM.out.trans (.of_ext HX3.out));have e0:=((HKP.out _ HMx.out).cell _ hPb hb).trans h0;have e1:=((HKP.out _ HMx.out).cell _ hPb hb).trans h1;have e2:=((HKP.out _ HMx.out).cell _ hPb hb).trans h2;have hAl:=O wr (.cells #[.string (ai nm), .slice Ap M cp, .slice Ab bd.length cb2] 59);have HBA:=G (an wr 59 #[.string (ai nm), .slice Ap M cp, .slice Ab bd.length cb2]);have HXA:=G (HX3.out.trans hAl);have HRb:=G ((hRb.keep (HKP.out _ HMx.out) (Q:=fun b=>P b/\b<w.heap.size) (fun b hb _=>hb)).keep (.of_ext hAl) (Q:=fun b=>P b/\b<w.heap.size) (fun b hb _=>hb));have hdl:=jz bd;obtain⟨q,hq⟩: ∃q,fd bd=q:=⟨_,rfl⟩
      obtain⟨r,hr⟩: ∃r,lA bd=r:=⟨_,rfl⟩
      rw[hq,hr]at hS;rw[hq]at hdl;have HC1:=G (fun W (h:aq (wr.alloc (.cells #[.string (ai nm), .slice Ap M cp, .slice Ab bd.length cb2] 59)) W)=>hq▸yn bd (by omega) (fun b=>P b/\b<w.heap.size) W Ab _ cb2 (HRb.out.keep (.of_ext h) (fun b hb _=>hb)));have HC2:=G (fun W (h:aq (wr.alloc (.cells #[.string (ai nm), .slice Ap M cp, .slice Ab bd.length cb2] 59)) W)=>hr▸lc _ bd (ah _) (by omega) (fun b=>P b/\b<w.heap.size) W Ab _ cb2 (HKj.out.t.ext (HXA.out.trans h)) (HRb.out.keep (.of_ext h) (fun b hb _=>hb)));have hwr:IntKind.i64.wrap ((M:Int)+(q:Int))=(M:Int)+(q:Int):=by simp[IntKind.wrap,IntKind.signed,IntKind.bits];omega
      clear h0 h1 h2 hRp hRb hM hAl hq hr;have HS:=G hS;clear hS;by_cases h20:20<M+q
      ·have h20':(20:Int)<(M:Int)+(q:Int):=by omega
       have h20d:decide ((20:Int)<(M:Int)+(q:Int))=true:=decide_eq_true h20';have HFn:=G (show Rv= .error (nm,6) by rw[<-HIQ.out,HS.out,if_pos (.inl h20)]);go_wp2_with fail;refine az 13 4 [(5,fun v=>v= .int .i64 (q:Int),fun _ _=>True)] mixed (by kernel_rfl) ⟨fun _ _ _ _ _=>trivial,trivial⟩ ?_;repeat (first|(refine bL (by rfl) ?_;simp only[aY,aX,aW,aV,aU])|(refine sx ?_ (fun w1 hU=> ?_) ?_;rotate_left;(focus have f1:=(HBA.out.ext hU.un).cell;clear hU;go_simp<;>with_reducible rfl);simp only[aY,aX,aW,aV,aU]))
       refine so (fun w6 hU hp K hK=> ?_) ?_
       ·have hc:=HC1.out w6 hU.un;clear hp hU;go_simp;refine hc.mono ?_;rintro e w7 ⟨rfl,hE⟩;exact hK _ _ hE rfl trivial
       rintro _ rfl;simp only[aY,aX,aW,aV,aU];repeat (first|(refine bL (by rfl) ?_;simp only[aY,aX,aW,aV,aU])|(refine sx ?_ (fun w1 hU=> ?_) ?_;rotate_left;(focus have f1:=(HBA.out.ext hU.un).cell;clear hU;go_simp<;>with_reducible rfl);simp only[aY,aX,aW,aV,aU]))
       intro w8 hw8 hp;clear hp;simp only[ac,aM];have f1:=(HBA.out.ext hw8.un).cell;have HX8:=G (HXA.out.trans hw8.un);clear hw8;go_wp2_with (go_at_call 73;refine(dN nm 6 _).mono ?_;unfold a_;rintro e wx ⟨rfl,hE⟩;have HMY:=G (HM.out.trans (.of_ext (HX8.out.trans hE)));clear hE);exact⟨rfl,HMY.out,by rw[HFn.out];rfl⟩
      ·have h20': ¬(20:Int)<(M:Int)+(q:Int):=by omega
       have h20d:decide ((20:Int)<(M:Int)+(q:Int))=false:=decide_eq_false h20';go_wp2_with fail;refine az 13 4 [(5,fun v=>v= .int .i64 (q:Int),fun _ _=>True),(11,fun v=>v= .bool r,fun _ _=>True)] mixed (by kernel_rfl) ⟨fun _ _ _ _ _=>trivial,fun _ _ _ _ _=>trivial,trivial⟩ ?_;repeat (first|(refine bL (by rfl) ?_;simp only[aY,aX,aW,aV,aU])|(refine sx ?_ (fun w1 hU=> ?_) ?_;rotate_left;(focus have f1:=(HBA.out.ext hU.un).cell;clear hU;go_simp<;>with_reducible rfl);simp only[aY,aX,aW,aV,aU]))
       refine so (fun w6 hU hp K hK=> ?_) ?_
       ·have hc:=HC1.out w6 hU.un;clear hp hU;go_simp;refine hc.mono ?_;rintro e w7 ⟨rfl,hE⟩;exact hK _ _ hE rfl trivial
       rintro _ rfl;simp only[aY,aX,aW,aV,aU];repeat (first|(refine bL (by rfl) ?_;simp only[aY,aX,aW,aV,aU])|(refine sx ?_ (fun w1 hU=> ?_) ?_;rotate_left;(focus have f1:=(HBA.out.ext hU.un).cell;clear hU;go_simp<;>with_reducible rfl);simp only[aY,aX,aW,aV,aU]))
       refine so (fun w6 hU hp K hK=> ?_) ?_
       ·have hc:=HC2.out w6 hU.un;clear hp hU;go_simp;refine hc.mono ?_;rintro e w7 ⟨rfl,hE⟩;exact hK _ _ hE rfl trivial
       rintro _ rfl;simp only[aY,aX,aW,aV,aU];repeat (first|(refine bL (by rfl) ?_;simp only[aY,aX,aW,aV,aU])|(refine sx ?_ (fun w1 hU=> ?_) ?_;rotate_left;(focus have f1:=(HBA.out.ext hU.un).cell;clear hU;go_simp<;>with_reducible rfl);simp only[aY,aX,aW,aV,aU]))
       intro w8 hw8 hp;clear hp;simp only[ac,aM];have f1:=(HBA.out.ext hw8.un).cell;have HX8:=G (HXA.out.trans hw8.un);clear hw8
       cases r with
       |false=>
        have HFn:=G (show fE (fs.drop (i+1))=Rv by rw[<-HIQ.out,HS.out,if_neg (by simp;omega)]);go_wp2_with fail;go_roundw
        case rel=>exact⟨i+1,by go_num,by omega,HFn,HX8⟩
        case measure=>simp[intOf];omega
       |true=>
        have HFn:=G (show Rv= .error (nm,6) by rw[<-HIQ.out,HS.out,if_pos (.inr rfl)]);go_wp2_with (go_at_call 73;refine(dN nm 6 _).mono ?_;unfold a_;rintro e wx ⟨rfl,hE⟩;have HMY:=G (HM.out.trans (.of_ext (HX8.out.trans hE)));clear hE);exact⟨rfl,HMY.out,by rw[HFn.out];rfl⟩
     ·have hli': ¬(i:Int)<NF:=by omega
      have HFn:=G (show Rv= .ok () by
       have:=HIQ.out;rw[aF (by have:=HNF.out;omega),fE]at this
       exact this.symm)
      go_wp2_with fail;exact bodyPost_end (results_none rfl _ _ _) rfl ⟨HM.out.trans (.of_ext HX3.out),by rw[HFn.out];rfl⟩
end
end Go.Proofs.YtddomeddabfinaaGreatDoor
