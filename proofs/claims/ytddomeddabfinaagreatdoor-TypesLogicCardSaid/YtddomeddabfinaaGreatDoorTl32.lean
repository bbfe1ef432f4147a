/-
  Parts of the proof: TyJ TyK TyFr TyAl.
-/
import Derived.Test.YtddomeddabfinaaGreatDoorTl31
import Derived.Test.YtddomeddabfinaaGreatDoorTl02
set_option maxRecDepth 100000
set_option maxHeartbeats 8000000
set_option linter.unusedVariables false
set_option linter.unusedSimpArgs false
set_option linter.unusedSectionVars false
namespace Go.Proofs.YtddomeddabfinaaGreatDoor
open Go.Proofs.Tryz
open Go.RowKit
structure CB.Ok (X:CB):Prop where
 gi:X.g≠X.bi
 ga:X.g≠X.ba
 gf:X.g≠X.bf
 ia:X.bi≠X.ba
 jf:X.bi≠X.bf
 af:X.ba≠X.bf
abbrev CB.S (X:CB) (k:Nat):Prop:=k=X.bi\/k=X.ba\/k=X.bf
section
variable {X:CB} {gl:Gl} {lo lo':Ls} {w W:World}
theorem bt_ne {b:Nat} {L:KF} (h:BT w) (hm:MapIs w b L):b≠0:=by
 rintro rfl;obtain⟨t,fr,ht⟩:=h;obtain⟨es,c,hm,_⟩:=hm;rw[ht]at hm;cases hm
theorem BT.grown {b:Nat} (h:BT w) (hg:w.grownBy W (some b)) (hb:b≠0):BT W:=by
 obtain⟨t,fr,ht⟩:=h;exact⟨t,fr,(hg.block _ (Array.getElem?_eq_some_iff.1 ht).1 (fun e=>hb (by injection e with e;exact e.symm))).trans ht⟩
theorem nes {a b:Nat} (h:a≠b):some a≠some b:=fun e=>h (by injection e)
theorem CK.addI {v:Vr} (hX:X.Ok) (h:CK X gl (.map none) noLs w) (hz: ¬0<v.sz) (hm:MapIs W X.bi ((kInt gl).upd v.nm (.bool true))) (hg:w.grownBy W (some X.bi)):CK X (gl.addV v) (.map none) noLs W:=by
 have e:gl.addV v={gl with int:=fun x=>x==v.nm||gl.int x}:=by unfold Gl.addV;rw[if_neg hz]
 rw[e];refine⟨h.blk.grown hg (nes hX.gi),hm.congr fun s=> ?_,h.a.grown hg (nes (Ne.symm hX.ia)),h.f.grown hg (nes (Ne.symm hX.jf)), .inl ⟨rfl,rfl⟩,h.t.grown hg (bt_ne h.t h.i)⟩;unfold KF.upd kInt;by_cases e:s=v.nm
 ·subst e;simp
 ·simp[e]
theorem CK.addA {v:Vr} (hX:X.Ok) (h:CK X gl (.map none) noLs w) (hz:0<v.sz) (hm:MapIs W X.ba ((kArr gl).upd v.nm (.int .i64 v.sz))) (hg:w.grownBy W (some X.ba)):CK X (gl.addV v) (.map none) noLs W:=by
 have e:gl.addV v={gl with arr:=fun x=>if x=v.nm then some v.sz else gl.arr x}:=by unfold Gl.addV;rw[if_pos hz]
 rw[e];refine⟨h.blk.grown hg (nes hX.ga),h.i.grown hg (nes hX.ia),hm.congr fun s=> ?_,h.f.grown hg (nes (Ne.symm hX.af)), .inl ⟨rfl,rfl⟩,h.t.grown hg (bt_ne h.t h.a)⟩;unfold KF.upd kArr;by_cases e:s=v.nm
 ·subst e;simp
 ·simp[e]
theorem CK.addF {f:Fc} (hX:X.Ok) (h:CK X gl (.map none) noLs w) (hm:MapIs W X.bf ((kFn gl).upd f.nm (.int .i64 (f.ps.length:Int)))) (hg:w.grownBy W (some X.bf)):CK X (gl.addF f) (.map none) noLs W:=by
 refine⟨h.blk.grown hg (nes hX.gf),h.i.grown hg (nes hX.jf),h.a.grown hg (nes hX.af),hm.congr fun s=> ?_, .inl ⟨rfl,rfl⟩,h.t.grown hg (bt_ne h.t h.f)⟩;unfold KF.upd kFn Gl.addF;by_cases e:s=f.nm
 ·subst e;simp
 ·simp[e]
end
theorem tpg_vs (p:Pg):p.vs.length<=pgW p:=by
 have:=sum_le (fun _:Vr=>1) (fun v=>v.nm.length+1) p.vs (fun v _=>by omega);rw[sum_const]at this;unfold pgW;omega
theorem tpg_fs (p:Pg):p.fs.length<=pgW p:=by
 have:=sum_le (fun _:Fc=>1) (fun f=>f.wt+1) p.fs (fun v _=>by omega);rw[sum_const]at this;unfold pgW;omega
theorem rdf_atP {w:World} {P:Nat->Prop} {A:Option Addr} {n c:Nat} {ls:List Fc} (h:RdF w P (.slice A n c) ls) (i:Nat) (hi:i<ls.length):
  ∃b o pv bv,A=some ⟨b,o,none⟩/\b<w.heap.size/\P b/\w.cell? ⟨b,o+i*3,none⟩=some (.string (str ls[i].nm))/\w.cell? ⟨b,o+i*3+1,none⟩=some pv/\w.cell? ⟨b,o+i*3+2,none⟩=some bv/\RdN w P pv ls[i].ps/\RdS w P bv ls[i].body:=by
 obtain⟨A',c',hv,h⟩:=h;injection hv with h1 h2 h3;rcases h with h|⟨_,_,b,o,ha,hP,hb,pv,bv,hc⟩
 ·subst h;simp at hi
 ·obtain⟨q0,q1,q2,q3,q4⟩:=hc i hi;exact⟨b,o,pv i,bv i,by rw[h1];exact ha,hb,hP,q0,q1,q2,q3,q4⟩
theorem rdv_atP {w:World} {P:Nat->Prop} {A:Option Addr} {n c:Nat} {ls:List Vr} (h:RdV w P (.slice A n c) ls) (i:Nat) (hi:i<ls.length):
  ∃b o,A=some ⟨b,o,none⟩/\b<w.heap.size/\P b/\w.cell? ⟨b,o+i*2,none⟩=some (.string (str ls[i].nm))/\w.cell? ⟨b,o+i*2+1,none⟩=some (.int .i64 ls[i].sz):=by
 obtain⟨A',c',hv,h⟩:=h;injection hv with h1 h2 h3;rcases h with h|⟨_,_,b,o,ha,hP,hb,hc⟩
 ·subst h;simp at hi
 ·exact⟨b,o,by rw[h1];exact ha,hb,hP,(hc i hi).1,(hc i hi).2⟩
theorem topV_drop {g:Gl} {l:List Vr} {j:Nat} (h:j<l.length):topV g (l.drop j)=if g.known noLs l[j].nm=true then .error (l[j].nm,9)else topV (g.addV l[j]) (l.drop (j+1)):=by
 rw[List.drop_eq_getElem_cons h,topV]
theorem topF_drop {g:Gl} {l:List Fc} {j:Nat} (h:j<l.length):topF g (l.drop j)=if g.known noLs l[j].nm=true then .error (l[j].nm,9)else topF (g.addF l[j]) (l.drop (j+1)):=by
 rw[List.drop_eq_getElem_cons h,topF]
def topK (g:Gl):Except Er Gl:=match g.fn tyMain with
 |none=> .error (tyMain,8)
 |some n=>if 0<n then .error (tyMain,16)else .ok g
def TPp (X:CB) (r:Except Er Gl) (w:World) (e:Ending) (w':World):Prop:=Mv X.S w w'/\match r with
 | .ok g=>e= .returned (.tuple #[])/\CK X g (.map none) noLs w'
 | .error (nm,n)=>e=mistakeV nm n
theorem ttops_any (p:Pg) (hw:pgW p<=6000000) (X:CB) (hX:X.Ok) (P:Nat->Prop) (w:World) (hV:RdV w P X.sv p.vs) (hF:RdF w P X.sf p.fs) (hP: ∀b,P b-> ¬X.S b) (hK:CK X noGl (.map none) noLs w):
  Calls prog 71 #[X.p] w (TPp X (tops p) w):=by
 obtain⟨g,bi,ba,bf,sv,sf⟩:=X;have hlv:p.vs.length<=6000000:=by have:=tpg_vs p;omega
 have hlf:p.fs.length<=6000000:=by have:=tpg_fs p;omega
 have HVN:=hide (fun v (hv:v∈p.vs)=>show v.nm.length<=1073741824 by have:=pgW_v hv;omega);have HFN:=hide (fun f (hf:f∈p.fs)=>show f.nm.length<=1073741824 by have:=pgW_f hf;have:=pgW_n (f:=f);omega);obtain⟨Rv,hRv⟩: ∃R,tops p=R:=⟨_,rfl⟩
 have HQ0:=hide (show CR.then (topV noGl (p.vs.drop 0)) (fun g=>CR.then (topF g (p.fs.drop 0)) topK)=Rv from hRv);rw[hRv];clear hRv hw;obtain⟨vs,fs⟩:=p;simp only at*;obtain⟨NV,hNV⟩: ∃n,vs.length=n:=⟨_,rfl⟩
 obtain⟨NF,hNF⟩: ∃n,fs.length=n:=⟨_,rfl⟩
 obtain⟨A,ca,hA⟩: ∃A ca,sv= .slice A NV ca:=by obtain⟨A,ca,h,_⟩:=hV;exact⟨A,ca,by rw[h,hNV]⟩
 obtain⟨B,cb,hB⟩: ∃B cb,sf= .slice B NF cb:=by obtain⟨A,ca,h,_⟩:=hF;exact⟨A,ca,by rw[h,hNF]⟩
 subst hA hB;rw[hNV]at hlv;rw[hNF]at hlf;have HNV:=hide hNV;have HNF:=hide hNF;simp only[CB.p]at*;have HKS: ∀W,Mv (CB.S ⟨g,bi,ba,bf, .slice A NV ca, .slice B NF cb⟩) w W->KeepP P w W:=fun W h=>h.keepP (fun k hk _=>hP k hk);have HKP:=hide HKS;have HVr:=hide hV;have HFr:=hide hF;have HX:=hide hX;have HM0:=hide (Mv.refl (CB.S ⟨g,bi,ba,bf, .slice A NV ca, .slice B NF cb⟩) w);have HK0:=hide hK;have hc:=hK.blk.cell;clear hV hF hP hK hX HKS hNV hNF;go_enter func71,ntmps71;go_wp2_with fail;clear hc
 go_loopw [14] (fun vi wr=> ∃(j:Nat) (gj:Gl),vi= .int .i64 (j:Int)/\j<=NV/\Hid (CR.then (topV gj (vs.drop j)) (fun g=>CR.then (topF g (fs.drop 0)) topK)=Rv)/\Hid (Mv (CB.S ⟨g,bi,ba,bf, .slice A NV ca, .slice B NF cb⟩) w wr)/\Hid (CK ⟨g,bi,ba,bf, .slice A NV ca, .slice B NF cb⟩ gj (.map none) noLs wr)) (fun vi _=>NV-(intOf vi).toNat)
 case atStart=>exact⟨0,noGl,rfl,Nat.zero_le _,HQ0,HM0,HK0⟩
 case round=>
  obtain⟨j,gj,rfl,hj,HQ,HM,HKj⟩:=hrel;by_cases hlt:j<NV
  ·have hlt':(j:Int)<NV:=by omega
   have hjl:j<vs.length:=by have:=HNV.out;omega
   obtain⟨b,o,rfl,hb,hPb,h0,h1⟩:=rdv_atP HVr.out j hjl;have hS:=topV_drop (g:=gj) hjl;have hnm:=HVN.out _ (List.getElem_mem hjl);obtain⟨y,hy⟩: ∃y,vs[j]=y:=⟨_,rfl⟩
   rw[hy]at h0 h1 hS hnm;clear hy;obtain⟨nm,sz⟩:=y;simp only at h0 h1 hnm;have e0:=((HKP.out _ HM.out).cell _ hPb hb).trans h0;have e1:=((HKP.out _ HM.out).cell _ hPb hb).trans h1;have hAl:=Ext.alloc wr (.cells #[.string (str nm), .int .i64 sz] 85);have HKA:=hide (HKj.out.ext hAl);have HBA:=hide (Blk.new wr 85 #[.string (str nm), .int .i64 sz]);have HMA:=hide (HM.out.alloc (.cells #[.string (str nm), .int .i64 sz] 85));clear h0 h1 hAl
   cases hkn:gj.known noLs nm with
   |true=>
    have HFn:=hide (show Rv= .error (nm,9) by rw[<-HQ.out,hS];simp only[hkn,if_true];rfl);go_wp2_with (first|(go_at_call 72;refine(known_any _ gj _ noLs _ HKA.out nm hnm).mono ?_;rw[hkn];rintro e wx ⟨rfl,hE⟩;have HMB:=hide (HMA.out.trans (.of_ext hE));have f0:=(HBA.out.ext hE).cell;clear hE)|(go_at_call 73;refine(tfail_any nm 9 _).mono ?_;unfold mistakeV;rintro e wx ⟨rfl,hE⟩;have HMC:=hide (HMB.out.trans (.of_ext hE));clear hE));exact⟨rfl,by rw[HFn.out];exact⟨HMC.out,rfl⟩⟩
   |false=>
    have hS2:topV gj (vs.drop j)=topV (gj.addV ⟨nm,sz⟩) (vs.drop (j+1)):=by rw[hS];simp only[hkn,Bool.false_eq_true,if_false]
    by_cases hz:0<sz
    ·have hz':decide (0<sz)=true:=decide_eq_true hz;go_wp2_with (go_at_call 72;refine(known_any _ gj _ noLs _ HKA.out nm hnm).mono ?_;rw[hkn];rintro e wx ⟨rfl,hE⟩;have HMB:=hide (HMA.out.trans (.of_ext hE));have HBB:=hide (HBA.out.ext hE);have f0:=HBB.out.cell;have HKB:=hide (HKA.out.ext hE);clear hE);refine wp_region_ext 8 1 [] mixed (by kernel_rfl) trivial ?_;repeat (refine sx ?_ (fun w1 hU=> ?_) ?_;rotate_left;(focus have f0:=(HBB.out.ext hU.un).cell;have fk:=(HKB.out.ext hU.un).blk.cell;clear hU;go_simp<;>with_reducible rfl);simp only[pq0,pq1,pq2,pq3,pq4])
     intro w7 hw7 _;simp only[List.drop_succ_cons,List.drop_zero];have HK7:=hide (HKB.out.ext hw7.un);have HM7:=hide (HMB.out.trans (.of_ext hw7.un));clear hw7 f0;go_wp2_with (at_mapUpdate;refine wpList_store mtI rfl _ _ _ rfl HK7.out.a rfl (by unfold maxLen;omega) rfl _ rfl ?_;intro w8 hm8 hg8;have HK8:=hide (HK7.out.addA (v:=⟨nm,sz⟩) HX.out hz hm8 hg8);have HM8:=hide (HM7.out.trans (.of_grown hg8 (fun k e=>by injection e with e;exact .inr (.inl e.symm))));clear hm8 hg8);go_roundw
     case rel=>exact⟨j+1,gj.addV ⟨nm,sz⟩,by go_num,by omega,hide (by rw[<-hS2];exact HQ.out),HM8,HK8⟩
     case measure=>simp[intOf];omega
    ·have hz':decide (0<sz)=false:=decide_eq_false hz;go_wp2_with (go_at_call 72;refine(known_any _ gj _ noLs _ HKA.out nm hnm).mono ?_;rw[hkn];rintro e wx ⟨rfl,hE⟩;have HMB:=hide (HMA.out.trans (.of_ext hE));have HBB:=hide (HBA.out.ext hE);have f0:=HBB.out.cell;have HKB:=hide (HKA.out.ext hE);clear hE);refine wp_region_ext 6 1 [] mixed (by kernel_rfl) trivial ?_;repeat (refine sx ?_ (fun w1 hU=> ?_) ?_;rotate_left;(focus have f0:=(HBB.out.ext hU.un).cell;have fk:=(HKB.out.ext hU.un).blk.cell;clear hU;go_simp<;>with_reducible rfl);simp only[pq0,pq1,pq2,pq3,pq4])
     intro w7 hw7 _;simp only[List.drop_succ_cons,List.drop_zero];have HK7:=hide (HKB.out.ext hw7.un);have HM7:=hide (HMB.out.trans (.of_ext hw7.un));clear hw7 f0;go_wp2_with (at_mapUpdate;refine wpList_store mtB rfl _ _ _ rfl HK7.out.i rfl (by unfold maxLen;omega) rfl _ rfl ?_;intro w8 hm8 hg8;have HK8:=hide (HK7.out.addI (v:=⟨nm,sz⟩) HX.out (show ¬0<sz by omega) hm8 hg8);have HM8:=hide (HM7.out.trans (.of_grown hg8 (fun k e=>by injection e with e;exact .inl e.symm)));clear hm8 hg8);go_roundw
     case rel=>exact⟨j+1,gj.addV ⟨nm,sz⟩,by go_num,by omega,hide (by rw[<-hS2];exact HQ.out),HM8,HK8⟩
     case measure=>simp[intOf];omega
  ·have hlt': ¬(j:Int)<NV:=by omega
   have HQ1:=hide (show CR.then (topF gj (fs.drop 0)) topK=Rv by
    have:=HQ.out;rw[List.drop_of_length_le (l:=vs) (by have:=HNV.out;omega),topV,cr_ok]at this
    exact this)
   have hc:=HKj.out.blk.cell;go_wp2_with fail;clear hc
   go_loopw [49] (fun vi wr=> ∃(j:Nat) (gj:Gl),vi= .int .i64 (j:Int)/\j<=NF/\Hid (CR.then (topF gj (fs.drop j)) topK=Rv)/\Hid (Mv (CB.S ⟨g,bi,ba,bf, .slice A NV ca, .slice B NF cb⟩) w wr)/\Hid (CK ⟨g,bi,ba,bf, .slice A NV ca, .slice B NF cb⟩ gj (.map none) noLs wr)) (fun vi _=>NF-(intOf vi).toNat)
   case atStart=>exact⟨0,gj,rfl,Nat.zero_le _,HQ1,HM,HKj⟩
   case round=>
    clear HQ HM HKj HQ1 hlt hlt' hj;obtain⟨j,gj,rfl,hj,HQ,HM,HKj⟩:=hrel;by_cases hlt:j<NF
    ·have hlt':(j:Int)<NF:=by omega
     have hjl:j<fs.length:=by have:=HNF.out;omega
     obtain⟨b,o,pv,bv,rfl,hb,hPb,h0,h1,h2,hRp,hRb⟩:=rdf_atP HFr.out j hjl;have hS:=topF_drop (g:=gj) hjl;have hnm:=HFN.out _ (List.getElem_mem hjl);obtain⟨y,hy⟩: ∃y,fs[j]=y:=⟨_,rfl⟩
     rw[hy]at h0 hRp hRb hS hnm;clear hy;obtain⟨nm,ps,bd⟩:=y;simp only at h0 hRp hRb hnm;obtain⟨Ap,cp,rfl,_⟩:=hRp;obtain⟨Ab,cb2,rfl,_⟩:=hRb.form;have e0:=((HKP.out _ HM.out).cell _ hPb hb).trans h0;have e1:=((HKP.out _ HM.out).cell _ hPb hb).trans h1;have e2:=((HKP.out _ HM.out).cell _ hPb hb).trans h2;have hAl:=Ext.alloc wr (.cells #[.string (str nm), .slice Ap ps.length cp, .slice Ab bd.length cb2] 59);have HKA:=hide (HKj.out.ext hAl);have HBA:=hide (Blk.new wr 59 #[.string (str nm), .slice Ap ps.length cp, .slice Ab bd.length cb2]);have HMA:=hide (HM.out.alloc (.cells #[.string (str nm), .slice Ap ps.length cp, .slice Ab bd.length cb2] 59));clear h0 h1 h2 hAl hRb
     cases hkn:gj.known noLs nm with
     |true=>
      have HFn:=hide (show Rv= .error (nm,9) by rw[<-HQ.out,hS];simp only[hkn,if_true];rfl);go_wp2_with (first|(go_at_call 72;refine(known_any _ gj _ noLs _ HKA.out nm hnm).mono ?_;rw[hkn];rintro e wx ⟨rfl,hE⟩;have HMB:=hide (HMA.out.trans (.of_ext hE));have f0:=(HBA.out.ext hE).cell;clear hE)|(go_at_call 73;refine(tfail_any nm 9 _).mono ?_;unfold mistakeV;rintro e wx ⟨rfl,hE⟩;have HMC:=hide (HMB.out.trans (.of_ext hE));clear hE));exact⟨rfl,by rw[HFn.out];exact⟨HMC.out,rfl⟩⟩
     |false=>
      have hS2:topF gj (fs.drop j)=topF (gj.addF ⟨nm,ps,bd⟩) (fs.drop (j+1)):=by rw[hS];simp only[hkn,Bool.false_eq_true,if_false]
      go_wp2_with (go_at_call 72;refine(known_any _ gj _ noLs _ HKA.out nm hnm).mono ?_;rw[hkn];rintro e wx ⟨rfl,hE⟩;have HMB:=hide (HMA.out.trans (.of_ext hE));have HBB:=hide (HBA.out.ext hE);have f0:=HBB.out.cell;have HKB:=hide (HKA.out.ext hE);clear hE);refine wp_region_ext 9 1 [] mixed (by kernel_rfl) trivial ?_;repeat (refine sx ?_ (fun w1 hU=> ?_) ?_;rotate_left;(focus have f0:=(HBB.out.ext hU.un).cell;have fk:=(HKB.out.ext hU.un).blk.cell;clear hU;go_simp<;>with_reducible rfl);simp only[pq0,pq1,pq2,pq3,pq4])
      intro w7 hw7 _;simp only[List.drop_succ_cons,List.drop_zero];have HK7:=hide (HKB.out.ext hw7.un);have HM7:=hide (HMB.out.trans (.of_ext hw7.un));clear hw7 f0;go_wp2_with (at_mapUpdate;refine wpList_store mtI rfl _ _ _ rfl HK7.out.f rfl (by unfold maxLen;omega) rfl _ rfl ?_;intro w8 hm8 hg8;have HK8:=hide (HK7.out.addF (f:=⟨nm,ps,bd⟩) HX.out hm8 hg8);have HM8:=hide (HM7.out.trans (.of_grown hg8 (fun k e=>by injection e with e;exact .inr (.inr e.symm))));clear hm8 hg8);go_roundw
      case rel=>exact⟨j+1,gj.addF ⟨nm,ps,bd⟩,by go_num,by omega,hide (by rw[<-hS2];exact HQ.out),HM8,HK8⟩
      case measure=>simp[intOf];omega
    ·have hlt': ¬(j:Int)<NF:=by omega
     have HQ2:=hide (show topK gj=Rv by
      have:=HQ.out;rw[List.drop_of_length_le (by have:=HNF.out;omega),topF,cr_ok]at this
      exact this)
     have hc:=HKj.out.blk.cell;have fm:(Instr.lookup 106 (.map (some bf)) (.string ⟨#[109,97,105,110]⟩) true).run prog wr= .ok (.tuple #[.int .i64 (((gj.fn tyMain).getD 0:Nat):Int), .bool (gj.fn tyMain).isSome]) wr:=HKj.out.lookF (s:=tyMain) (by decide);unfold topK at HQ2
     cases hfm:gj.fn tyMain with
     |none=>
      rw[hfm]at HQ2 fm;simp only[Option.getD_none,Option.isSome_none]at fm;have HFn:=hide HQ2.out.symm;go_wp2_with (go_at_call 73;refine(show Calls prog 73 #[.string ⟨#[109,97,105,110]⟩, .int .i64 8] _ _ from tfail_any tyMain 8 _).mono ?_;unfold mistakeV;rintro e wx ⟨rfl,hE⟩;have HMC:=hide (HM.out.trans (.of_ext hE));clear hE);exact⟨rfl,by rw[HFn.out];exact⟨HMC.out,rfl⟩⟩
     |some n=>
      rw[hfm]at HQ2 fm;simp only[Option.getD_some,Option.isSome_some]at fm HQ2;by_cases hn:0<n
      ·have hn':(0:Int)<n:=by omega
       have HFn:=hide (show Rv= .error (tyMain,16) by rw[<-HQ2.out,if_pos hn]);go_wp2_with (go_at_call 73;refine(show Calls prog 73 #[.string ⟨#[109,97,105,110]⟩, .int .i64 16] _ _ from tfail_any tyMain 16 _).mono ?_;unfold mistakeV;rintro e wx ⟨rfl,hE⟩;have HMC:=hide (HM.out.trans (.of_ext hE));clear hE);exact⟨rfl,by rw[HFn.out];exact⟨HMC.out,rfl⟩⟩
      ·have hn': ¬(0:Int)<n:=by omega
       have HFn:=hide (show Rv= .ok gj by rw[<-HQ2.out,if_neg hn]);go_wp2_with fail;exact bodyPost_end (results_none rfl _ _ _) rfl (by rw[HFn.out];exact⟨HM.out,rfl,HKj.out⟩)
end Go.Proofs.YtddomeddabfinaaGreatDoor
namespace Go.Proofs.YtddomeddabfinaaGreatDoor
open Go.Proofs.Tryz
open Go.RowKit
mutual
theorem decS_le: ∀s:St,decS s<=s.wt
 | .mk k nm e b l=>by
  have:=decL_le b;have:=decL_le l;rw[decS,St.wt];split<;>omega
theorem decL_le: ∀l:List St,decL' l<=wtS l
 | []=>by simp[decL']
 |s::r=>by
  have:=decS_le s;have:=decL_le r;rw[decL',wtS];omega
end
theorem decL_drop {l:List St} {j:Nat} (h:j<l.length):decL' (l.drop j)=decS l[j]+decL' (l.drop (j+1)):=by
 rw[List.drop_eq_getElem_cons h,decL']
def DcS (xs:List St):Prop:= ∀(P:Nat->Prop) (w:World) (A:Option Addr) (n c:Nat),RdS w P (.slice A n c) xs->Calls prog 54 #[.slice A n c] w fun e w'=>e= .returned (.int .i64 (decL' xs:Int))/\Ext w w'
theorem dec_step (xs:List St) (hw:wtS xs<=1073741824) (hIH: ∀s∈xs,DcS s.body/\DcS s.els):DcS xs:=by
 intro P w A n c hR;obtain⟨A',c',hv,hf⟩:=hR.form;injection hv with hv1 hv2 hv3;subst hv1 hv2 hv3;have hl:=wtS_length xs;have hdl:=decL_le xs;have HR:=hide hR;have HI:=hide hIH;obtain⟨N,hN⟩: ∃N,xs.length=N:=⟨_,rfl⟩
 have HN:=hide hN;rw[hN]at HR hl;obtain⟨Rv,hRv⟩: ∃R,decL' xs=R:=⟨_,rfl⟩
 have HQ0:=hide (show 0+decL' (xs.drop 0)=Rv by rw[<-hRv];simp);have HX0:=hide (Ext.refl w);have hRb:Rv<=1073741824:=by omega
 rw[hN,hRv];clear hR hf hIH hN hRv hdl;go_enter func54,ntmps54;go_wp2_with fail
 go_loopw [3,8] (fun vm vi wr=> ∃(j m:Nat),vi= .int .i64 (j:Int)/\vm= .int .i64 (m:Int)/\j<=N/\Hid (m+decL' (xs.drop j)=Rv)/\Hid (Ext w wr)) (fun _ vi _=>N-(intOf vi).toNat)
 case atStart=>exact⟨0,0,rfl,rfl,Nat.zero_le _,HQ0,HX0⟩
 case round=>
  obtain⟨j,m,rfl,rfl,hj,HQ,HX⟩:=hrel;by_cases hlt:j<N
  ·have hlt':(j:Int)<N:=by omega
   have hjl:j<xs.length:=by have:=HN.out;omega
   obtain⟨b,o,e,bv,lv,rfl,hb,hPb,h0,h1,h2,h3,h4,hRe,hRb2,hRl⟩:=HR.out.at_ j hjl;have hS:=decL_drop hjl;have hII:=HI.out _ (List.getElem_mem hjl);obtain⟨y,hy⟩: ∃y,xs[j]=y:=⟨_,rfl⟩
   rw[hy]at h0 h1 hRe hRb2 hRl hS hII;clear hy;obtain⟨k,nm,ex,bd,el⟩:=y;simp only[St.k,St.nm,St.ex,St.body,St.els]at h0 h1 hRe hRb2 hRl hII;rw[decS]at hS;have hSb:=HQ.out;rw[hS]at hSb;have e0:=(HX.out.cell b _ hb).trans h0;have e1:=(HX.out.cell b _ hb).trans h1;have e2:=(HX.out.cell b _ hb).trans h2;have e3:=(HX.out.cell b _ hb).trans h3;have e4:=(HX.out.cell b _ hb).trans h4;obtain⟨A1,c1,rfl,_⟩:=hRe.form;obtain⟨A2,c2,rfl,_⟩:=hRb2.form;obtain⟨A3,c3,rfl,_⟩:=hRl.form;have hAl:=Ext.alloc wr (.cells #[.int .i64 k, .string (str nm), .slice A1 ex.length c1, .slice A2 bd.length c2, .slice A3 el.length c3] 72);have HBK:=hide (Blk.new wr 72 #[.int .i64 k, .string (str nm), .slice A1 ex.length c1, .slice A2 bd.length c2, .slice A3 el.length c3]);have HXA:=hide (HX.out.trans hAl);have HRb:=hide (hRb2.keep (.of_ext HXA.out) (Q:=P) (fun b hb _=>hb));have HRl:=hide (hRl.keep (.of_ext HXA.out) (Q:=P) (fun b hb _=>hb));have HII:=hide hII;obtain⟨d1,hd1⟩: ∃d,decL' bd=d:=⟨_,rfl⟩
   obtain⟨d2,hd2⟩: ∃d,decL' el=d:=⟨_,rfl⟩
   rw[hd1,hd2]at hSb;have HC1:=hide (fun W (h:Ext (wr.alloc (.cells #[.int .i64 k, .string (str nm), .slice A1 ex.length c1, .slice A2 bd.length c2, .slice A3 el.length c3] 72)) W)=>hd1▸HII.out.1 P W A2 _ c2 (HRb.out.keep (.of_ext h) (Q:=P) (fun b hb _=>hb)));have HC2:=hide (fun W (h:Ext (wr.alloc (.cells #[.int .i64 k, .string (str nm), .slice A1 ex.length c1, .slice A2 bd.length c2, .slice A3 el.length c3] 72)) W)=>hd2▸HII.out.2 P W A3 _ c3 (HRl.out.keep (.of_ext h) (Q:=P) (fun b hb _=>hb)));have HSb:=hide hSb;clear h0 h1 h2 h3 h4 hRe hRb2 hRl hII hAl HRb HRl HII hd1 hd2 hS hSb;have hbs:m+(if k=1 then 1 else 0)+(d1+d2)<=1073741824:=by have:=HSb.out;omega
   have hwr: ∀z:Nat,z<=1073741824->IntKind.i64.wrap (z:Int)=z:=fun z hz=>by simp[IntKind.wrap,IntKind.signed,IntKind.bits];omega
   have hw1:IntKind.i64.wrap ((d1:Int)+(d2:Int))=((d1+d2:Nat):Int):=by rw[<-Int.natCast_add];exact hwr _ (by omega)
   by_cases hk:k=1
   ·subst hk;have hbs:m+1+(d1+d2)<=1073741824:=by simpa using hbs
    have hw2:IntKind.i64.wrap ((m:Int)+1+((d1+d2:Nat):Int))=((m+1+(d1+d2):Nat):Int):=by rw[<-hwr (m+1+(d1+d2)) hbs];congr 1
    clear hwr;go_wp2_with fail;refine wp_region_take 9 4 [(3,fun v=>v= .int .i64 (d1:Int),fun _ _=>True),(6,fun v=>v= .int .i64 (d2:Int),fun _ _=>True)] [] [1,4] mixed (by kernel_rfl) (by kernel_rfl) (by kernel_rfl) (by rfl) ⟨fun _ _ _ _ _=>trivial,fun _ _ _ _ _=>trivial,trivial⟩ (fun i hi=>by cases hi) ?_;repeat (first|(refine seq_skip (by rfl) ?_;simp only[pq0,pq1,pq2,pq3,pq4])|(refine sx ?_ (fun w1 hU=> ?_) ?_;rotate_left;(focus have f1:=(HBK.out.ext hU.un).cell;clear hU;go_simp<;>with_reducible rfl);simp only[pq0,pq1,pq2,pq3,pq4]))
    refine so (fun w6 hU hp K hK=> ?_) ?_
    ·have hc:=HC1.out w6 hU.un;clear hp hU;go_simp;refine hc.mono ?_;rintro e w7 ⟨rfl,hE⟩;exact hK _ _ hE rfl trivial
    rintro _ rfl;simp only[pq0,pq1,pq2,pq3,pq4];repeat (first|(refine seq_skip (by rfl) ?_;simp only[pq0,pq1,pq2,pq3,pq4])|(refine sx ?_ (fun w1 hU=> ?_) ?_;rotate_left;(focus have f1:=(HBK.out.ext hU.un).cell;clear hU;go_simp<;>with_reducible rfl);simp only[pq0,pq1,pq2,pq3,pq4]))
    refine so (fun w6 hU hp K hK=> ?_) ?_
    ·have hc:=HC2.out w6 hU.un;clear hp hU;go_simp;refine hc.mono ?_;rintro e w7 ⟨rfl,hE⟩;exact hK _ _ hE rfl trivial
    rintro _ rfl;simp only[pq0,pq1,pq2,pq3,pq4];repeat (first|(refine seq_skip (by rfl) ?_;simp only[pq0,pq1,pq2,pq3,pq4])|(refine sx ?_ (fun w1 hU=> ?_) ?_;rotate_left;(focus have f1:=(HBK.out.ext hU.un).cell;clear hU;go_simp<;>with_reducible rfl);simp only[pq0,pq1,pq2,pq3,pq4]))
    intro w8 hw8 hp hpair;clear hp hpair;simp only[List.drop_succ_cons,List.drop_zero];have HX8:=hide (HXA.out.trans hw8.un);refine tailS_step (by rfl) (by simp) (fun K hK=> ?_);go_simp;refine hK _ _ hw8 ?_;clear hK hw8;refine tailS_nil ?_;go_wp2_with fail;go_roundw
    case rel=>exact⟨j+1,m+1+(d1+d2),by go_num,congrArg (Value.int .i64) (by simp[IntKind.wrap,IntKind.signed,IntKind.bits];omega),by omega,hide (by have:=HSb.out;simp only[if_true]at this;omega),HX8⟩
    case measure=>simp[intOf];omega
   ·have hkb:=beq_eq_false_iff_ne.2 hk;have hbs:m+(d1+d2)<=1073741824:=by simpa[hk]using hbs
    have hw2:IntKind.i64.wrap ((m:Int)+((d1+d2:Nat):Int))=((m+(d1+d2):Nat):Int):=by rw[<-hwr (m+(d1+d2)) hbs];congr 1
    clear hwr;go_wp2_with fail;refine wp_region_take 9 4 [(3,fun v=>v= .int .i64 (d1:Int),fun _ _=>True),(6,fun v=>v= .int .i64 (d2:Int),fun _ _=>True)] [] [1,4] mixed (by kernel_rfl) (by kernel_rfl) (by kernel_rfl) (by rfl) ⟨fun _ _ _ _ _=>trivial,fun _ _ _ _ _=>trivial,trivial⟩ (fun i hi=>by cases hi) ?_;repeat (first|(refine seq_skip (by rfl) ?_;simp only[pq0,pq1,pq2,pq3,pq4])|(refine sx ?_ (fun w1 hU=> ?_) ?_;rotate_left;(focus have f1:=(HBK.out.ext hU.un).cell;clear hU;go_simp<;>with_reducible rfl);simp only[pq0,pq1,pq2,pq3,pq4]))
    refine so (fun w6 hU hp K hK=> ?_) ?_
    ·have hc:=HC1.out w6 hU.un;clear hp hU;go_simp;refine hc.mono ?_;rintro e w7 ⟨rfl,hE⟩;exact hK _ _ hE rfl trivial
    rintro _ rfl;simp only[pq0,pq1,pq2,pq3,pq4];repeat (first|(refine seq_skip (by rfl) ?_;simp only[pq0,pq1,pq2,pq3,pq4])|(refine sx ?_ (fun w1 hU=> ?_) ?_;rotate_left;(focus have f1:=(HBK.out.ext hU.un).cell;clear hU;go_simp<;>with_reducible rfl);simp only[pq0,pq1,pq2,pq3,pq4]))
    refine so (fun w6 hU hp K hK=> ?_) ?_
    ·have hc:=HC2.out w6 hU.un;clear hp hU;go_simp;refine hc.mono ?_;rintro e w7 ⟨rfl,hE⟩;exact hK _ _ hE rfl trivial
    rintro _ rfl;simp only[pq0,pq1,pq2,pq3,pq4];repeat (first|(refine seq_skip (by rfl) ?_;simp only[pq0,pq1,pq2,pq3,pq4])|(refine sx ?_ (fun w1 hU=> ?_) ?_;rotate_left;(focus have f1:=(HBK.out.ext hU.un).cell;clear hU;go_simp<;>with_reducible rfl);simp only[pq0,pq1,pq2,pq3,pq4]))
    intro w8 hw8 hp hpair;clear hp hpair;simp only[List.drop_succ_cons,List.drop_zero];have HX8:=hide (HXA.out.trans hw8.un);refine tailS_step (by rfl) (by simp) (fun K hK=> ?_);go_simp;refine hK _ _ hw8 ?_;clear hK hw8;refine tailS_nil ?_;go_wp2_with fail;go_roundw
    case rel=>exact⟨j+1,m+(d1+d2),by go_num,congrArg (Value.int .i64) (by simp[IntKind.wrap,IntKind.signed,IntKind.bits];omega),by omega,hide (by have:=HSb.out;rw[if_neg hk]at this;omega),HX8⟩
    case measure=>simp[intOf];omega
  ·have hlt': ¬(j:Int)<N:=by omega
   have HM:=hide (show m=Rv by
    have:=HQ.out;rw[List.drop_of_length_le (by have:=HN.out;omega),decL']at this
    omega)
   go_wp2_with fail;go_ret;exact⟨by rw[<-HM.out];rfl,HX.out⟩
theorem declares_any: ∀(m:Nat) (xs:List St),wtS xs<=m->wtS xs<=1073741824->DcS xs
 |0,xs,h,hw=>dec_step xs hw (fun s hs=>by have:=wtS_mem hs;have:=s.wt_eq;omega)
 |m+1,xs,h,hw=>dec_step xs hw (fun s hs=>⟨declares_any m s.body (by have:=wtS_mem hs;have:=s.wt_eq;omega) (by have:=wtS_mem hs;have:=s.wt_eq;omega),declares_any m s.els (by have:=wtS_mem hs;have:=s.wt_eq;omega) (by have:=wtS_mem hs;have:=s.wt_eq;omega)⟩)
end Go.Proofs.YtddomeddabfinaaGreatDoor
namespace Go.Proofs.YtddomeddabfinaaGreatDoor
open Go.Proofs.Tryz
open Go.RowKit
theorem decl_w (xs:List St) (h:wtS xs<=1073741824):DcS xs:=declares_any _ xs (Nat.le_refl _) h
theorem tframe_any (nm:List UInt8) (ps:List (List UInt8)) (bd:List St) (hw:wtS bd<=6000000) (hp:ps.length<=6000000) (P:Nat->Prop) (w:World) (A B:Option Addr) (c d:Nat) (hR:RdS w P (.slice B bd.length d) bd):
  Calls prog 24 #[.agg #[.string (str nm), .slice A ps.length c, .slice B bd.length d]] w fun e w'=>e= .returned (.int .i64 (frameL ⟨nm,ps,bd⟩:Int))/\Ext w w':=by
 have hE0:=Ext.alloc w (.cells #[.string (str nm), .slice A ps.length c, .slice B bd.length d] 59);have HE0:=hide hE0;have HB0:=hide (Blk.new w 59 #[.string (str nm), .slice A ps.length c, .slice B bd.length d]);have hdl:=decL_le bd;obtain⟨q,hq⟩: ∃q,decL' bd=q:=⟨_,rfl⟩
 have HD:=hide (fun W (h:Ext (w.alloc (.cells #[.string (str nm), .slice A ps.length c, .slice B bd.length d] 59)) W)=>hq▸decl_w bd (by omega) P W B _ d ((hR.keep (.of_ext hE0) (Q:=P) (fun b hb _=>hb)).keep (.of_ext h) (Q:=P) (fun b hb _=>hb)));have HF:=hide (show frameL ⟨nm,ps,bd⟩=4*(8+ps.length+q) by rw[<-hq];rfl);rw[hq]at hdl;generalize ps.length=n at*;generalize bd.length=m at*;clear hR hE0 hq;go_enter func24,ntmps24;go_wp2_with fail;refine wp_region_ext 10 3 [(6,fun v=>v= .int .i64 (q:Int),fun _ _=>True)] mixed (by kernel_rfl) ⟨fun _ _ _ _ _=>trivial,trivial⟩ ?_;repeat (first|(refine seq_skip (by rfl) ?_;simp only[pq0,pq1,pq2,pq3,pq4])|(refine sx ?_ (fun w1 hU=> ?_) ?_;rotate_left;(focus have f1:=(HB0.out.ext hU.un).cell;clear hU;go_simp<;>with_reducible rfl);simp only[pq0,pq1,pq2,pq3,pq4]))
 refine so (fun w6 hU hp K hK=> ?_) ?_
 ·have hc:=HD.out w6 hU.un;clear hp hU;go_simp;refine hc.mono ?_;rintro e w7 ⟨rfl,hE⟩;exact hK _ _ hE rfl trivial
 rintro _ rfl;simp only[pq0,pq1,pq2,pq3,pq4];repeat (first|(refine seq_skip (by rfl) ?_;simp only[pq0,pq1,pq2,pq3,pq4])|(refine sx ?_ (fun w1 hU=> ?_) ?_;rotate_left;(focus have f1:=(HB0.out.ext hU.un).cell;clear hU;go_simp<;>with_reducible rfl);simp only[pq0,pq1,pq2,pq3,pq4]))
 intro w8 hw8 hp;clear hp;simp only[List.drop_succ_cons,List.drop_nil];have HX8:=hide (HE0.out.trans hw8.un);clear hw8;go_wp2_with fail;go_ret;refine⟨congrArg (fun z=>Ending.returned (.int .i64 z)) ?_,HX8.out⟩;rw[HF.out];simp[IntKind.wrap,IntKind.signed,IntKind.bits];omega
def NdS (xs:List St):Prop:= ∀(P:Nat->Prop) (w:World) (A:Option Addr) (n c:Nat),BT w->RdS w P (.slice A n c) xs->Calls prog 75 #[.slice A n c] w fun e w'=>e= .returned (.bool (ndL xs))/\Ext w w'
theorem ndL_drop {l:List St} {j:Nat} (h:j<l.length):ndL (l.drop j)=(ndS l[j]||ndL (l.drop (j+1))):=by
 rw[List.drop_eq_getElem_cons h,ndL]
theorem any_drop {l:List Ex} {j:Nat} (h:j<l.length):(l.drop j).any (fun y=>decide (7<need y))=(decide (7<need l[j])||(l.drop (j+1)).any (fun y=>decide (7<need y))):=by
 rw[List.drop_eq_getElem_cons h,List.any_cons]
theorem nds_step (xs:List St) (hw:wtS xs<=1073741824) (hIH: ∀s∈xs,NdS s.body/\NdS s.els):NdS xs:=by
 intro P w A n c hT hR;obtain⟨A',c',hv,hf⟩:=hR.form;injection hv with hv1 hv2 hv3;subst hv1 hv2 hv3;have hl:=wtS_length xs;have HR:=hide hR;have HI:=hide hIH;have HT:=hide hT;have HWT:=hide (fun s (hs:s∈xs)=>show wtL s.ex<=1073741824 by have:=wtS_mem hs;have:=s.wt_eq;omega);obtain⟨N,hN⟩: ∃N,xs.length=N:=⟨_,rfl⟩
 have HN:=hide hN;rw[hN]at HR hl;obtain⟨Rv,hRv⟩: ∃R,ndL xs=R:=⟨_,rfl⟩
 have HQ0:=hide (show ndL (xs.drop 0)=Rv from hRv);have HX0:=hide (Ext.refl w);rw[hN,hRv];clear hR hf hIH hN hRv hT;go_enter func75,ntmps75;go_wp2_with fail
 go_loopw [9] (fun vi wr=> ∃(j:Nat),vi= .int .i64 (j:Int)/\j<=N/\Hid (ndL (xs.drop j)=Rv)/\Hid (Ext w wr)) (fun vi _=>N-(intOf vi).toNat)
 case atStart=>exact⟨0,rfl,Nat.zero_le _,HQ0,HX0⟩
 case round=>
  obtain⟨j,rfl,hj,HQ,HX⟩:=hrel;generalize wr=wo at*;by_cases hlt:j<N
  ·have hlt':(j:Int)<N:=by omega
   have hjl:j<xs.length:=by have:=HN.out;omega
   obtain⟨b,o,e,bv,lv,rfl,hb,hPb,h0,h1,h2,h3,h4,hRe,hRb2,hRl⟩:=HR.out.at_ j hjl;have hS:=ndL_drop hjl;have hII:=HI.out _ (List.getElem_mem hjl);have hWx:=HWT.out _ (List.getElem_mem hjl);obtain⟨y,hy⟩: ∃y,xs[j]=y:=⟨_,rfl⟩
   rw[hy]at h0 h1 hRe hRb2 hRl hS hII hWx;clear hy;obtain⟨k,nm,ex,bd,el⟩:=y;simp only[St.k,St.nm,St.ex,St.body,St.els]at h0 h1 hRe hRb2 hRl hII hWx;rw[ndS]at hS;have HS:=hide (HQ.out.symm.trans hS);obtain⟨M,hM⟩: ∃m,ex.length=m:=⟨_,rfl⟩
   obtain⟨A1,c1,rfl,_⟩:=hRe.form;obtain⟨A2,c2,rfl,_⟩:=hRb2.form;obtain⟨A3,c3,rfl,_⟩:=hRl.form;rw[hM]at h2 hRe;have HM:=hide hM;have hMb:M<=1073741824:=by have:=wtL_length ex;omega
   have e0:=(HX.out.cell b _ hb).trans h0;have e1:=(HX.out.cell b _ hb).trans h1;have e2:=(HX.out.cell b _ hb).trans h2;have e3:=(HX.out.cell b _ hb).trans h3;have e4:=(HX.out.cell b _ hb).trans h4;have hAl:=Ext.alloc wo (.cells #[.int .i64 k, .string (str nm), .slice A1 M c1, .slice A2 bd.length c2, .slice A3 el.length c3] 72);have HBK:=hide (Blk.new wo 72 #[.int .i64 k, .string (str nm), .slice A1 M c1, .slice A2 bd.length c2, .slice A3 el.length c3]);have HXA:=hide (HX.out.trans hAl);have HRe:=hide (hRe.keep (.of_ext HXA.out) (Q:=P) (fun b hb _=>hb));have HRb:=hide (hRb2.keep (.of_ext HXA.out) (Q:=P) (fun b hb _=>hb));have HRl:=hide (hRl.keep (.of_ext HXA.out) (Q:=P) (fun b hb _=>hb));have HII:=hide hII;have HWX:=hide hWx;have HI0:=hide (show(((ex.drop 0).any (fun y=>decide (7<need y))||(ndL bd||ndL el))||ndL (xs.drop (j+1)))=Rv from HS.out.symm);have HY0:=hide (Ext.refl (wo.alloc (.cells #[.int .i64 k, .string (str nm), .slice A1 M c1, .slice A2 bd.length c2, .slice A3 el.length c3] 72)));clear h0 h1 h2 h3 h4 hRe hRb2 hRl hII hS hAl hM hWx HR HI HWT;go_wp2_with fail
   go_loopw [16] (fun vi wr=> ∃(i:Nat),vi= .int .i64 (i:Int)/\i<=M/\Hid ((((ex.drop i).any (fun y=>decide (7<need y))||(ndL bd||ndL el))||ndL (xs.drop (j+1)))=Rv)/\Hid (Ext (wo.alloc (.cells #[.int .i64 k, .string (str nm), .slice A1 M c1, .slice A2 bd.length c2, .slice A3 el.length c3] 72)) wr)) (fun vi _=>M-(intOf vi).toNat)
   case atStart=>exact⟨0,rfl,Nat.zero_le _,HI0,HY0⟩
   case round=>
    obtain⟨i,rfl,hi,HIQ,HY⟩:=hrel;by_cases hli:i<M
    ·have hli':(i:Int)<M:=by omega
     have hil:i<ex.length:=by have:=HM.out;omega
     obtain⟨b2,o2,a2,rfl,hb2,hP2,g0,g1,g2,g3,g4,g5,hRa⟩:=HRe.out.at_ i hil;have HSI:=hide (any_drop hil);have hyw:=wtL_mem (List.getElem_mem hil);have hyn:=need_le ex[i];have HND:=hide (tneed_any _ ex[i] (Nat.le_refl _) (by have:=HWX.out;omega));generalize ex[i]=y at*;have q0:=(HY.out.cell b2 _ hb2).trans g0;have q1:=(HY.out.cell b2 _ hb2).trans g1;have q2:=(HY.out.cell b2 _ hb2).trans g2;have q3:=(HY.out.cell b2 _ hb2).trans g3;have q4:=(HY.out.cell b2 _ hb2).trans g4;have q5:=(HY.out.cell b2 _ hb2).trans g5;obtain⟨B,d,rfl,_⟩:=hRa.form;have HRa:=hide ((hRa.keep (.of_ext HY.out) (Q:=P) (fun b hb _=>hb)).keep (.of_ext (Ext.alloc _ (.cells #[.int .i64 y.k, .string (str y.op), .string (str y.nm), .string (str y.tx), .int .i64 y.v, .slice B y.args.length d] 70))) (Q:=P) (fun b hb _=>hb));have HTi:=hide (((HT.out.ext HXA.out).ext HY.out).ext (Ext.alloc wr (.cells #[.int .i64 y.k, .string (str y.op), .string (str y.nm), .string (str y.tx), .int .i64 y.v, .slice B y.args.length d] 70)));clear g0 g1 g2 g3 g4 g5 hRa hyw hyn;by_cases h7:7<need y
     ·have h7':(7:Int)<(need y:Int):=by omega
      have HF:=hide (show Rv=true by rw[<-HIQ.out,HSI.out,decide_eq_true h7];rfl);go_wp2_with (go_at_call 26;refine(HND.out P _ B _ d HRa.out HTi.out).mono ?_;rintro e w3 ⟨rfl,hE⟩;have HZ:=hide (((HXA.out.trans HY.out).alloc' _).trans hE);clear hE);go_ret;exact⟨by rw[HF.out];rfl,HZ.out⟩
     ·have h7': ¬(7:Int)<(need y:Int):=by omega
      have HF:=hide (show(((ex.drop (i+1)).any (fun y=>decide (7<need y))||(ndL bd||ndL el))||ndL (xs.drop (j+1)))=Rv by rw[<-HIQ.out,HSI.out,decide_eq_false h7];rfl);go_wp2_with (go_at_call 26;refine(HND.out P _ B _ d HRa.out HTi.out).mono ?_;rintro e w3 ⟨rfl,hE⟩;have HZ:=hide ((HY.out.alloc' _).trans hE);clear hE);go_roundw
      case rel=>exact⟨i+1,by go_num,by omega,HF,HZ⟩
      case measure=>simp[intOf];omega
    ·have hli': ¬(i:Int)<M:=by omega
     have HF:=hide (show((ndL bd||ndL el)||ndL (xs.drop (j+1)))=Rv by
      have:=HIQ.out;rw[List.drop_of_length_le (l:=ex) (by have:=HM.out;omega)]at this
      exact this)
     have f0:=(HBK.out.ext HY.out).cell;have HXY:=hide (HXA.out.trans HY.out);have HC1:=HII.out.1 P wr A2 _ c2 (HT.out.ext HXY.out) (HRb.out.keep (.of_ext HY.out) (Q:=P) (fun b hb _=>hb));have HC1:=hide HC1
     cases hr1:ndL bd with
     |true=>
      rw[hr1]at HF HC1;have HF:=hide (show Rv=true from HF.out.symm);go_wp2_with (go_at_call 75;refine HC1.out.mono ?_;rintro e w3 ⟨rfl,hE⟩;have HZ:=hide (HXY.out.trans hE);clear hE HC1);go_ret;exact⟨by rw[HF.out];rfl,HZ.out⟩
     |false=>
      rw[hr1]at HF HC1
      cases hr2:ndL el with
      |true=>
       rw[hr2]at HF;have HF:=hide (show Rv=true from HF.out.symm);go_wp2_with (first|(go_at_call 75;refine HC1.out.mono ?_;clear HC1;rintro e w3 ⟨rfl,hE⟩;have HZ:=hide (HXY.out.trans hE);have HE3:=hide hE;clear f0;have f0:=(HBK.out.ext (HY.out.trans hE)).cell;clear hE)|(go_at_call 75;have hc:=HII.out.2 P _ A3 _ c3 (HT.out.ext HZ.out) (HRl.out.keep (.of_ext (HY.out.trans HE3.out)) (Q:=P) (fun b hb _=>hb));rw[hr2]at hc;refine hc.mono ?_;clear hc;rintro e w4 ⟨rfl,hE⟩;have HZ4:=hide (HZ.out.trans hE);clear hE));go_ret;exact⟨by rw[HF.out];rfl,HZ4.out⟩
      |false=>
       rw[hr2]at HF;have HF:=hide (show ndL (xs.drop (j+1))=Rv from HF.out);go_wp2_with (first|(go_at_call 75;refine HC1.out.mono ?_;clear HC1;rintro e w3 ⟨rfl,hE⟩;have HZ:=hide (HXY.out.trans hE);have HE3:=hide hE;clear f0;have f0:=(HBK.out.ext (HY.out.trans hE)).cell;clear hE)|(go_at_call 75;have hc:=HII.out.2 P _ A3 _ c3 (HT.out.ext HZ.out) (HRl.out.keep (.of_ext (HY.out.trans HE3.out)) (Q:=P) (fun b hb _=>hb));rw[hr2]at hc;refine hc.mono ?_;clear hc;rintro e w4 ⟨rfl,hE⟩;have HZ4:=hide (HZ.out.trans hE);clear hE));go_roundw
       case rel=>exact⟨j+1,by go_num,by omega,HF,HZ4⟩
       case measure=>simp[intOf];omega
  ·have hlt': ¬(j:Int)<N:=by omega
   have HF:=hide (show Rv=false by
    have:=HQ.out;rw[List.drop_of_length_le (by have:=HN.out;omega),ndL]at this
    exact this.symm)
   go_wp2_with fail;go_ret;exact⟨by rw[HF.out];rfl,HX.out⟩
theorem tneeds_any: ∀(m:Nat) (xs:List St),wtS xs<=m->wtS xs<=1073741824->NdS xs
 |0,xs,h,hw=>nds_step xs hw (fun s hs=>by have:=wtS_mem hs;have:=s.wt_eq;omega)
 |m+1,xs,h,hw=>nds_step xs hw (fun s hs=>⟨tneeds_any m s.body (by have:=wtS_mem hs;have:=s.wt_eq;omega) (by have:=wtS_mem hs;have:=s.wt_eq;omega),tneeds_any m s.els (by have:=wtS_mem hs;have:=s.wt_eq;omega) (by have:=wtS_mem hs;have:=s.wt_eq;omega)⟩)
end Go.Proofs.YtddomeddabfinaaGreatDoor
namespace Go.Proofs.YtddomeddabfinaaGreatDoor
open Go.Proofs.Tryz
open Go.RowKit
theorem cr_assoc {α β γ:Type} (x:Except Er α) (k:α->Except Er β) (l:β->Except Er γ):CR.then (CR.then x k) l=CR.then x fun a=>CR.then (k a) l:=by cases x<;>rfl
abbrev CB.U (X:CB) (k:Nat):Prop:=k=X.g\/X.S k
section
variable {X:CB} {gl:Gl} {lv:Value} {lo lo':Ls} {w W:World}
theorem CK.lt (h:CK X gl lv lo w):X.g<w.heap.size/\X.bi<w.heap.size/\X.ba<w.heap.size/\X.bf<w.heap.size:=⟨h.blk.lt,h.i.lt,h.a.lt,h.f.lt⟩
theorem map_blk {b:Nat} {t:TypeId} {cs:Array Value} {L:KF} (h:Blk w b t cs) (hm:MapIs w b L):False:=by
 obtain⟨es,c,hm,_⟩:=hm;unfold Blk at h;rw[h]at hm;cases hm
theorem CK.newL (h:CK X gl lv lo w) (hg:X.g≠0):CK X gl (.map (some w.heap.size)) noLs ((w.alloc (.map #[] 0)).setCell ⟨X.g,5,none⟩ (.map (some w.heap.size))):=by
 obtain⟨h1,h2,h3,h4⟩:=h.lt;have he:=Ext.alloc w (.map #[] 0);have hi:X.bi≠X.g:=fun e=>map_blk h.blk (e▸h.i);have ha:X.ba≠X.g:=fun e=>map_blk h.blk (e▸h.a);have hf:X.bf≠X.g:=fun e=>map_blk h.blk (e▸h.f);have hm:=MapIs.new w;refine⟨?_,(h.i.ext he).set hi _,(h.a.ext he).set ha _,(h.f.ext he).set hf _, .inr ⟨_,rfl,?_,by omega,by omega,by omega,by omega⟩,?_⟩
 ·have:=(h.blk.ext he).set 5 (.map (some w.heap.size));simpa using this
 ·refine(hm.set (p:=⟨X.g,5,none⟩) (by show _≠X.g;omega) _).congr fun s=> ?_;simp[kLo,noLs]
 ·obtain⟨t,fr,ht⟩:=h.t.ext he;exact⟨t,fr,(Below.heap_setCell _ ⟨X.g,5,none⟩ _ _ (fun e=>hg e.symm)).trans ht⟩
end
theorem ckPs_drop {g:Gl} {lo:Ls} {l:List (List UInt8)} {j:Nat} (h:j<l.length):ckPs g lo (l.drop j)=if g.known lo l[j]=true then .error (l[j],9)else ckPs g (lo.add l[j]) (l.drop (j+1)):=by
 rw[List.drop_eq_getElem_cons h,ckPs]
theorem ckFs_drop {g:Gl} {l:List Fc} {j:Nat} (h:j<l.length):ckFs g (l.drop j)=CR.then (ckPs g noLs l[j].ps) fun lo=>CR.then (ckSs g lo l[j].body) fun _=>ckFs g (l.drop (j+1)):=by
 rw[List.drop_eq_getElem_cons h,ckFs]
theorem ckLim_drop {l:List Fc} {j:Nat} (h:j<l.length):ckLim (l.drop j)=if 20<l[j].ps.length+decL' l[j].body\/ndL l[j].body=true then .error (l[j].nm,6)else ckLim (l.drop (j+1)):=by
 rw[List.drop_eq_getElem_cons h,ckLim]
def ALp (X:CB) (r:CR) (w:World) (e:Ending) (w':World):Prop:=Mv X.U w w'/\e=ckEnd r
theorem tall_any (p:Pg) (hw:pgW p<=6000000) (X:CB) (hX:X.Ok) (hgt:X.g≠0) (P:Nat->Prop) (w:World) (hV:RdV w P X.sv p.vs) (hF:RdF w P X.sf p.fs) (hP: ∀b,P b-> ¬X.U b) (hK:CK X noGl (.map none) noLs w):
  Calls prog 37 #[X.p] w (ALp X (ckAll p) w):=by
 have hmm:= @run_makeMap prog;have HTO:=hide (ttops_any p hw X hX P w hV hF (fun b hb hs=>hP b hb (.inr hs)) hK);have hlf:p.fs.length<=6000000:=by have:=tpg_fs p;omega
 have HFN:=hide (fun f (hf:f∈p.fs)=>show f.nm.length<=1073741824/\wtS f.body<=6000000/\f.ps.length<=6000000/\ ∀y∈f.ps,y.length<=1073741824 by
  have h1:=pgW_f hf;have h2:=pgW_n (f:=f);have h3:wtS f.body<=f.wt:=by unfold Fc.wt;omega
  have h4:f.ps.length<=f.wt:=by
   have:=sum_le (fun _:List UInt8=>1) (fun s=>s.length+1) f.ps (fun v _=>by omega);rw[sum_const]at this;unfold Fc.wt;omega
  exact⟨by omega,by omega,by omega,fun y hy=>by have:=pgW_p hy;omega⟩)
 obtain⟨Rv,hRv⟩: ∃R,ckAll p=R:=⟨_,rfl⟩
 have HQT:=hide (show CR.then (tops p) (fun g=>CR.then (ckFs g (p.fs.drop 0)) fun _=>ckLim p.fs)=Rv from hRv);rw[hRv];clear hRv hw;obtain⟨vs,fs⟩:=p;generalize tops ⟨vs,fs⟩=tr at*;obtain⟨g,bi,ba,bf,sv,sf⟩:=X;simp only[CB.p]at*;obtain⟨NF,hNF⟩: ∃n,fs.length=n:=⟨_,rfl⟩
 obtain⟨B,cb,hB⟩: ∃B cb,sf= .slice B NF cb:=by obtain⟨A,ca,h,_⟩:=hF;exact⟨A,ca,by rw[h,hNF]⟩
 subst hB;rw[hNF]at hlf;have HNF:=hide hNF;have HFr:=hide (hF.keep (Q:=fun b=>P b/\b<w.heap.size) ⟨Nat.le_refl _,fun _ _ _=>rfl⟩ (fun b h1 h2=>⟨h1,h2⟩));have HKP:=hide (fun W (h:Mv (CB.U ⟨g,bi,ba,bf,sv, .slice B NF cb⟩) w W)=>show KeepP (fun b=>P b/\b<w.heap.size) w W from h.keepP (fun k hk _=>hP k hk.1));have HX:=hide hX;have HGT:=hide hgt;clear hV hF hP hK hX hNF hgt
 cases tr with
 |error q=>
  obtain⟨qn,m⟩:=q;have HFn:=hide (show Rv= .error (qn,m)from HQT.out.symm);go_enter func37,ntmps37;go_wp2_with (go_at_call 71;refine HTO.out.mono ?_;unfold TPp mistakeV;rintro e w1 ⟨hM,rfl⟩;have HM:=hide (hM.mono (S':=CB.U ⟨g,bi,ba,bf,sv, .slice B NF cb⟩) (fun k _ h=> .inr h));clear hM HTO);exact⟨rfl,HM.out,by rw[HFn.out];rfl⟩
 |ok gl=>
  have HQ0:=hide (show CR.then (ckFs gl (fs.drop 0)) (fun _=>ckLim fs)=Rv from HQT.out);go_enter func37,ntmps37;go_wp2_with (go_at_call 71;refine HTO.out.mono ?_;unfold TPp;rintro e w1 ⟨hM,rfl,hK1⟩;have HM0:=hide (hM.mono (S':=CB.U ⟨g,bi,ba,bf,sv, .slice B NF cb⟩) (fun k _ h=> .inr h));have HK0:=hide hK1;have hc:=HK0.out.blk.cell;clear hM hK1 HTO);clear hc
  go_loopw [16] (fun vi wr=> ∃(j:Nat) (lv:Value) (lo:Ls),vi= .int .i64 (j:Int)/\j<=NF/\Hid (CR.then (ckFs gl (fs.drop j)) (fun _=>ckLim fs)=Rv)/\Hid (Mv (CB.U ⟨g,bi,ba,bf,sv, .slice B NF cb⟩) w wr)/\Hid (CK ⟨g,bi,ba,bf,sv, .slice B NF cb⟩ gl lv lo wr)) (fun vi _=>NF-(intOf vi).toNat)
  case atStart=>exact⟨0,_,_,rfl,Nat.zero_le _,HQ0,HM0,HK0⟩
  case round=>
   obtain⟨j,lv,lo,rfl,hj,HQ,HM,HKj⟩:=hrel;generalize wr=wo at*;by_cases hlt:j<NF
   ·have hlt':(j:Int)<NF:=by omega
    have hjl:j<fs.length:=by have:=HNF.out;omega
    obtain⟨b,o,pv,bv,rfl,hb,hPb,h0,h1,h2,hRp,hRb⟩:=rdf_atP HFr.out j hjl;have hS:=ckFs_drop (g:=gl) hjl;have hFn:=HFN.out _ (List.getElem_mem hjl);obtain⟨y,hy⟩: ∃y,fs[j]=y:=⟨_,rfl⟩
    rw[hy]at h0 hRp hRb hS hFn;clear hy;obtain⟨nm,ps,bd⟩:=y;simp only at h0 hRp hRb hS hFn;obtain⟨hnm,hwb,hpl,hpy⟩:=hFn
    have HQ1:=hide (show CR.then (ckPs gl noLs (ps.drop 0)) (fun lo=>CR.then (ckSs gl lo bd) fun _=>CR.then (ckFs gl (fs.drop (j+1))) fun _=>ckLim fs)=Rv by
     rw[<-HQ.out,hS,cr_assoc]
     simp only[cr_assoc,List.drop_zero])
    obtain⟨M,hM⟩: ∃m,ps.length=m:=⟨_,rfl⟩
    obtain⟨Ap,cp,hpv,hRp⟩:=hRp;rw[hM]at hpv hpl;subst hpv;have HPM:=hide hM;obtain⟨Ab,cb2,rfl,_⟩:=hRb.form;have e0:=((HKP.out _ HM.out).cell _ hPb hb).trans h0;have e1:=((HKP.out _ HM.out).cell _ hPb hb).trans h1;have e2:=((HKP.out _ HM.out).cell _ hPb hb).trans h2;have HRb:=hide hRb;have HRp:=hide hRp;have hAl:=Ext.alloc wo (.cells #[.string (str nm), .slice Ap M cp, .slice Ab bd.length cb2] 59);have HKA:=hide (HKj.out.ext hAl);have HBA:=hide (Blk.new wo 59 #[.string (str nm), .slice Ap M cp, .slice Ab bd.length cb2]);have HMA:=hide (HM.out.alloc (.cells #[.string (str nm), .slice Ap M cp, .slice Ab bd.length cb2] 59));have hm2:=Ext.alloc (wo.alloc (.cells #[.string (str nm), .slice Ap M cp, .slice Ab bd.length cb2] 59)) (.map #[] 0);have hka:=(HKA.out.blk.ext hm2).cell;have hkf:=(HKA.out.blk.ext hm2).frozen;have hgl:g≠wo.heap.size:=by have:=HKj.out.lt.1;simp only at this;omega
    have hgl2:wo.heap.size≠g:=fun e=>hgl e.symm;have HB3:=hide ((HBA.out.ext hm2).far (p:=⟨g,5,none⟩) hgl2 (.map (some (wo.heap.size+1))));have fb3:=HB3.out.cell
    have HK3:=hide (show CK ⟨g,bi,ba,bf,sv, .slice (some ⟨b,o,none⟩) NF cb⟩ gl (.map (some (wo.heap.size+1))) noLs (((wo.alloc (.cells #[.string (str nm), .slice Ap M cp, .slice Ab bd.length cb2] 59)).alloc (.map #[] 0)).setCell ⟨g,5,none⟩ (.map (some (wo.heap.size+1))))from by
     have:=HKA.out.newL HGT.out
     rwa [World.size_alloc]at this)
    have HM3:=hide ((HMA.out.alloc (.map #[] 0)).set (p:=⟨g,5,none⟩) (fun _=> .inl rfl) (.map (some (wo.heap.size+1))));have HG3:=hide (World.grownBy.refl (((wo.alloc (.cells #[.string (str nm), .slice Ap M cp, .slice Ab bd.length cb2] 59)).alloc (.map #[] 0)).setCell ⟨g,5,none⟩ (.map (some (wo.heap.size+1)))) (some (wo.heap.size+1)));have hne3:wo.heap.size+1≠wo.heap.size:=by omega
    have HS3:=hide (show w.heap.size<=wo.heap.size from HM.out.size);have HMW:=hide (fun W (h:World.grownBy (((wo.alloc (.cells #[.string (str nm), .slice Ap M cp, .slice Ab bd.length cb2] 59)).alloc (.map #[] 0)).setCell ⟨g,5,none⟩ (.map (some (wo.heap.size+1)))) W (some (wo.heap.size+1)))=>show Mv (CB.U ⟨g,bi,ba,bf,sv, .slice (some ⟨b,o,none⟩) NF cb⟩) w W from HM3.out.tr (.of_grown (S:=fun k=>k=wo.heap.size+1) h (fun k e=>by injection e with e;exact e.symm)) (fun k h1 h2=>absurd h2 (by have:=HS3.out;omega)));clear h0 h1 h2 hRb hM hm2;go_wp2_with fail;clear fb3 hka hkf hmm
    go_loopw [27] (fun vi wr=> ∃(i:Nat) (loi:Ls),vi= .int .i64 (i:Int)/\i<=M/\Hid (CR.then (ckPs gl loi (ps.drop i)) (fun lo=>CR.then (ckSs gl lo bd) fun _=>CR.then (ckFs gl (fs.drop (j+1))) fun _=>ckLim fs)=Rv)/\Hid (World.grownBy (((wo.alloc (.cells #[.string (str nm), .slice Ap M cp, .slice Ab bd.length cb2] 59)).alloc (.map #[] 0)).setCell ⟨g,5,none⟩ (.map (some (wo.heap.size+1)))) wr (some (wo.heap.size+1)))/\Hid (CK ⟨g,bi,ba,bf,sv, .slice (some ⟨b,o,none⟩) NF cb⟩ gl (.map (some (wo.heap.size+1))) loi wr)) (fun vi _=>M-(intOf vi).toNat)
    case atStart=>exact⟨0,noLs,rfl,Nat.zero_le _,HQ1,HG3,HK3⟩
    case round=>
     obtain⟨i,loi,rfl,hi,HIQ,HG,HKi⟩:=hrel;by_cases hli:i<M
     ·have hli':(i:Int)<M:=by omega
      have hil:i<ps.length:=by have:=HPM.out;omega
      have hpc: ∃b2 o2,Ap=some ⟨b2,o2,none⟩/\(P b2/\b2<w.heap.size)/\b2<w.heap.size/\w.cell? ⟨b2,o2+i,none⟩=some (.string (str ps[i])):=by
       rcases HRp.out with h|⟨_,_,b2,o2,h1,h2,h3,h4⟩
       ·rw[h]at hil;simp at hil
       ·exact⟨b2,o2,h1,h2,h3,h4 i hil⟩
      obtain⟨b2,o2,rfl,hb2,hb2l,p0⟩:=hpc;have q0:=((HKP.out _ (HMW.out _ HG.out)).cell _ hb2 hb2l).trans p0;have hS:=ckPs_drop (g:=gl) (lo:=loi) hil;have hyl:=hpy _ (List.getElem_mem hil);generalize ps[i]=y at*;have hkc:=HKi.out.blk.cell
      cases hkn:gl.known loi y with
      |true=>
       have HFn:=hide (show Rv= .error (y,9) by rw[<-HIQ.out,hS,hkn];rfl);go_wp2_with (first|(go_at_call 72;refine(known_any _ gl _ loi _ HKi.out y hyl).mono ?_;rw[hkn];rintro e wx ⟨rfl,hE⟩;have HMX:=hide ((HMW.out _ HG.out).trans (.of_ext hE));clear hE)|(go_at_call 73;refine(tfail_any y 9 _).mono ?_;unfold mistakeV;rintro e wx ⟨rfl,hE⟩;have HMY:=hide (HMX.out.trans (.of_ext hE));clear hE));exact⟨rfl,HMY.out,by rw[HFn.out];rfl⟩
      |false=>
       have hS2:ckPs gl loi (ps.drop i)=ckPs gl (loi.add y) (ps.drop (i+1)):=by rw[hS,hkn,if_neg (by decide)]
       go_wp2_with (first|(go_at_call 72;refine(known_any _ gl _ loi _ HKi.out y hyl).mono ?_;rw[hkn];rintro e wx ⟨rfl,hE⟩;have HGX:=hide (HG.out.trans (hE.grownBy _));have HKX:=hide (HKi.out.ext hE);clear hkc;have hkc:=HKX.out.blk.cell;clear hE)|(at_mapUpdate;refine wpList_store mtB rfl _ _ _ rfl HKX.out.ml.1 rfl (by unfold maxLen;omega) rfl _ rfl ?_;intro w8 hm8 hg8;have HK8:=hide (HKX.out.add hm8 hg8);have HG8:=hide (HGX.out.trans hg8);clear hm8 hg8));go_roundw
       case rel=>exact⟨i+1,loi.add y,by go_num,by omega,hide (by rw[<-hS2];exact HIQ.out),HG8,HK8⟩
       case measure=>simp[intOf];omega
     ·have hli': ¬(i:Int)<M:=by omega
      have HQ2:=hide (show CR.then (ckSs gl loi bd) (fun _=>CR.then (ckFs gl (fs.drop (j+1))) fun _=>ckLim fs)=Rv by
       have:=HIQ.out;rw[List.drop_of_length_le (l:=ps) (by have:=HPM.out;omega),ckPs,cr_ok]at this
       exact this)
      have fb:=(HB3.out.grown HG.out (nes hne3.symm)).cell;have HMi:=hide (HMW.out _ HG.out);have hc:=tstmts_any _ bd (Nat.le_refl _) (by omega) _ gl (wo.heap.size+1) loi (fun b=>P b/\b<w.heap.size) wr Ab _ cb2 HKi.out (HRb.out.keep (HKP.out _ HMi.out) (fun b hb _=>hb)) (fun b hb e=>by have:=HS3.out;omega);have HC:=hide hc;clear hc
      cases hr:ckSs gl loi bd with
      |error q=>
       obtain⟨qn,m⟩:=q;have HFn:=hide (show Rv= .error (qn,m) by rw[<-HQ2.out,hr];rfl);go_wp2_with (go_at_call 74;have hc:=HC.out;rw[hr]at hc;refine hc.mono ?_;unfold SSp mistakeV;rintro e wx ⟨hg,rfl⟩;have HMZ:=hide (HMW.out _ (HG.out.trans hg));clear hg hc HC);exact⟨rfl,HMZ.out,by rw[HFn.out];rfl⟩
      |ok lo2=>
       have HQ3:=hide (show CR.then (ckFs gl (fs.drop (j+1))) (fun _=>ckLim fs)=Rv by rw[<-HQ2.out,hr];rfl);go_wp2_with (go_at_call 74;have hc:=HC.out;rw[hr]at hc;refine hc.mono ?_;unfold SSp;rintro e wx ⟨hg,rfl,hck⟩;have HMZ:=hide (HMW.out _ (HG.out.trans hg));have HKZ:=hide hck;clear hg hc HC hck);go_roundw
       case rel=>exact⟨j+1,_,lo2,by go_num,by omega,HQ3,HMZ,HKZ⟩
       case measure=>simp[intOf];omega
   ·have hlt': ¬(j:Int)<NF:=by omega
    have HQ1:=hide (show ckLim (fs.drop 0)=Rv by
     have:=HQ.out;rw[List.drop_of_length_le (by have:=HNF.out;omega),ckFs,cr_ok]at this
     exact this)
    have hc:=HKj.out.blk.cell;go_wp2_with fail;clear hc
    go_loopw [53] (fun vi wr=> ∃(i:Nat),vi= .int .i64 (i:Int)/\i<=NF/\Hid (ckLim (fs.drop i)=Rv)/\Hid (Ext wo wr)) (fun vi _=>NF-(intOf vi).toNat)
    case atStart=>exact⟨0,rfl,Nat.zero_le _,HQ1,hide (Ext.refl _)⟩
    case round=>
     obtain⟨i,rfl,hi,HIQ,HX3⟩:=hrel;by_cases hli:i<NF
     ·have hli':(i:Int)<NF:=by omega
      have hil:i<fs.length:=by have:=HNF.out;omega
      obtain⟨b,o,pv,bv,rfl,hb,hPb,h0,h1,h2,hRp,hRb⟩:=rdf_atP HFr.out i hil;have hS:=ckLim_drop hil;have hFn:=HFN.out _ (List.getElem_mem hil);obtain⟨y,hy⟩: ∃y,fs[i]=y:=⟨_,rfl⟩
      rw[hy]at h0 hRp hRb hS hFn;clear hy;obtain⟨nm,ps,bd⟩:=y;simp only at h0 hRp hRb hS hFn;obtain⟨hnm,hwb,hpl,hpy⟩:=hFn;obtain⟨M,hM⟩: ∃m,ps.length=m:=⟨_,rfl⟩
      obtain⟨Ap,cp,hpv,hRp⟩:=hRp;rw[hM]at hpv hpl hS;subst hpv;obtain⟨Ab,cb2,rfl,_⟩:=hRb.form;have HMx:=hide (HM.out.trans (.of_ext HX3.out));have e0:=((HKP.out _ HMx.out).cell _ hPb hb).trans h0;have e1:=((HKP.out _ HMx.out).cell _ hPb hb).trans h1;have e2:=((HKP.out _ HMx.out).cell _ hPb hb).trans h2;have hAl:=Ext.alloc wr (.cells #[.string (str nm), .slice Ap M cp, .slice Ab bd.length cb2] 59);have HBA:=hide (Blk.new wr 59 #[.string (str nm), .slice Ap M cp, .slice Ab bd.length cb2]);have HXA:=hide (HX3.out.trans hAl);have HRb:=hide ((hRb.keep (HKP.out _ HMx.out) (Q:=fun b=>P b/\b<w.heap.size) (fun b hb _=>hb)).keep (.of_ext hAl) (Q:=fun b=>P b/\b<w.heap.size) (fun b hb _=>hb));have hdl:=decL_le bd;obtain⟨q,hq⟩: ∃q,decL' bd=q:=⟨_,rfl⟩
      obtain⟨r,hr⟩: ∃r,ndL bd=r:=⟨_,rfl⟩
      rw[hq,hr]at hS;rw[hq]at hdl;have HC1:=hide (fun W (h:Ext (wr.alloc (.cells #[.string (str nm), .slice Ap M cp, .slice Ab bd.length cb2] 59)) W)=>hq▸decl_w bd (by omega) (fun b=>P b/\b<w.heap.size) W Ab _ cb2 (HRb.out.keep (.of_ext h) (fun b hb _=>hb)));have HC2:=hide (fun W (h:Ext (wr.alloc (.cells #[.string (str nm), .slice Ap M cp, .slice Ab bd.length cb2] 59)) W)=>hr▸tneeds_any _ bd (Nat.le_refl _) (by omega) (fun b=>P b/\b<w.heap.size) W Ab _ cb2 (HKj.out.t.ext (HXA.out.trans h)) (HRb.out.keep (.of_ext h) (fun b hb _=>hb)));have hwr:IntKind.i64.wrap ((M:Int)+(q:Int))=(M:Int)+(q:Int):=by simp[IntKind.wrap,IntKind.signed,IntKind.bits];omega
      clear h0 h1 h2 hRp hRb hM hAl hq hr;have HS:=hide hS;clear hS;by_cases h20:20<M+q
      ·have h20':(20:Int)<(M:Int)+(q:Int):=by omega
       have h20d:decide ((20:Int)<(M:Int)+(q:Int))=true:=decide_eq_true h20';have HFn:=hide (show Rv= .error (nm,6) by rw[<-HIQ.out,HS.out,if_pos (.inl h20)]);go_wp2_with fail;refine wp_region_ext 13 4 [(5,fun v=>v= .int .i64 (q:Int),fun _ _=>True)] mixed (by kernel_rfl) ⟨fun _ _ _ _ _=>trivial,trivial⟩ ?_;repeat (first|(refine seq_skip (by rfl) ?_;simp only[pq0,pq1,pq2,pq3,pq4])|(refine sx ?_ (fun w1 hU=> ?_) ?_;rotate_left;(focus have f1:=(HBA.out.ext hU.un).cell;clear hU;go_simp<;>with_reducible rfl);simp only[pq0,pq1,pq2,pq3,pq4]))
       refine so (fun w6 hU hp K hK=> ?_) ?_
       ·have hc:=HC1.out w6 hU.un;clear hp hU;go_simp;refine hc.mono ?_;rintro e w7 ⟨rfl,hE⟩;exact hK _ _ hE rfl trivial
       rintro _ rfl;simp only[pq0,pq1,pq2,pq3,pq4];repeat (first|(refine seq_skip (by rfl) ?_;simp only[pq0,pq1,pq2,pq3,pq4])|(refine sx ?_ (fun w1 hU=> ?_) ?_;rotate_left;(focus have f1:=(HBA.out.ext hU.un).cell;clear hU;go_simp<;>with_reducible rfl);simp only[pq0,pq1,pq2,pq3,pq4]))
       intro w8 hw8 hp;clear hp;simp only[List.drop_succ_cons,List.drop_nil];have f1:=(HBA.out.ext hw8.un).cell;have HX8:=hide (HXA.out.trans hw8.un);clear hw8;go_wp2_with (go_at_call 73;refine(tfail_any nm 6 _).mono ?_;unfold mistakeV;rintro e wx ⟨rfl,hE⟩;have HMY:=hide (HM.out.trans (.of_ext (HX8.out.trans hE)));clear hE);exact⟨rfl,HMY.out,by rw[HFn.out];rfl⟩
      ·have h20': ¬(20:Int)<(M:Int)+(q:Int):=by omega
       have h20d:decide ((20:Int)<(M:Int)+(q:Int))=false:=decide_eq_false h20';go_wp2_with fail;refine wp_region_ext 13 4 [(5,fun v=>v= .int .i64 (q:Int),fun _ _=>True),(11,fun v=>v= .bool r,fun _ _=>True)] mixed (by kernel_rfl) ⟨fun _ _ _ _ _=>trivial,fun _ _ _ _ _=>trivial,trivial⟩ ?_;repeat (first|(refine seq_skip (by rfl) ?_;simp only[pq0,pq1,pq2,pq3,pq4])|(refine sx ?_ (fun w1 hU=> ?_) ?_;rotate_left;(focus have f1:=(HBA.out.ext hU.un).cell;clear hU;go_simp<;>with_reducible rfl);simp only[pq0,pq1,pq2,pq3,pq4]))
       refine so (fun w6 hU hp K hK=> ?_) ?_
       ·have hc:=HC1.out w6 hU.un;clear hp hU;go_simp;refine hc.mono ?_;rintro e w7 ⟨rfl,hE⟩;exact hK _ _ hE rfl trivial
       rintro _ rfl;simp only[pq0,pq1,pq2,pq3,pq4];repeat (first|(refine seq_skip (by rfl) ?_;simp only[pq0,pq1,pq2,pq3,pq4])|(refine sx ?_ (fun w1 hU=> ?_) ?_;rotate_left;(focus have f1:=(HBA.out.ext hU.un).cell;clear hU;go_simp<;>with_reducible rfl);simp only[pq0,pq1,pq2,pq3,pq4]))
       refine so (fun w6 hU hp K hK=> ?_) ?_
       ·have hc:=HC2.out w6 hU.un;clear hp hU;go_simp;refine hc.mono ?_;rintro e w7 ⟨rfl,hE⟩;exact hK _ _ hE rfl trivial
       rintro _ rfl;simp only[pq0,pq1,pq2,pq3,pq4];repeat (first|(refine seq_skip (by rfl) ?_;simp only[pq0,pq1,pq2,pq3,pq4])|(refine sx ?_ (fun w1 hU=> ?_) ?_;rotate_left;(focus have f1:=(HBA.out.ext hU.un).cell;clear hU;go_simp<;>with_reducible rfl);simp only[pq0,pq1,pq2,pq3,pq4]))
       intro w8 hw8 hp;clear hp;simp only[List.drop_succ_cons,List.drop_nil];have f1:=(HBA.out.ext hw8.un).cell;have HX8:=hide (HXA.out.trans hw8.un);clear hw8
       cases r with
       |false=>
        have HFn:=hide (show ckLim (fs.drop (i+1))=Rv by rw[<-HIQ.out,HS.out,if_neg (by simp;omega)]);go_wp2_with fail;go_roundw
        case rel=>exact⟨i+1,by go_num,by omega,HFn,HX8⟩
        case measure=>simp[intOf];omega
       |true=>
        have HFn:=hide (show Rv= .error (nm,6) by rw[<-HIQ.out,HS.out,if_pos (.inr rfl)]);go_wp2_with (go_at_call 73;refine(tfail_any nm 6 _).mono ?_;unfold mistakeV;rintro e wx ⟨rfl,hE⟩;have HMY:=hide (HM.out.trans (.of_ext (HX8.out.trans hE)));clear hE);exact⟨rfl,HMY.out,by rw[HFn.out];rfl⟩
     ·have hli': ¬(i:Int)<NF:=by omega
      have HFn:=hide (show Rv= .ok () by
       have:=HIQ.out;rw[List.drop_of_length_le (by have:=HNF.out;omega),ckLim]at this
       exact this.symm)
      go_wp2_with fail;exact bodyPost_end (results_none rfl _ _ _) rfl ⟨HM.out.trans (.of_ext HX3.out),by rw[HFn.out];rfl⟩
end Go.Proofs.YtddomeddabfinaaGreatDoor
