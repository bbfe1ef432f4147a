/-
  Parts of the proof: TyWh.
-/
import Derived.Test.YtddomeddabfinaaGreatDoorTa00
import Derived.Test.YtddomeddabfinaaGreatDoorTa39
set_option maxRecDepth 100000
set_option maxHeartbeats 8000000
set_option linter.unusedVariables false
set_option linter.unusedSimpArgs false
set_option linter.unusedSectionVars false
namespace Go.Proofs.YtddomeddabfinaaGreatDoor
open Go.Proofs.Tryz
open Go.RowKit
def sC (g:Nat) (w:World):Nat:=match w.cell? ⟨g,4,none⟩with
 |some (.int _ v)=>v.toNat
 | _=>0
theorem MA.leftE {X:MX} {C:Cx} {σ:Ms} {w:World} (h:MA X C σ w):sC X.g w=σ.left:=by
 obtain⟨lf,h1,_,_,hb⟩:=h.blk;unfold sC;rw[hb.cell];exact h1
theorem AG {C:Cx} {n:Nat} {s s':Ms} {l:Lo} {ex:List Ex} {v:Int} (he:ex≠ []) (h:val C n s l ex= .ok (v,s')):s'.left+1<=s.left:=by
 unfold val at h;rw[if_neg he]at h;exact Ck h
theorem zq (X:MX) (C:Cx) (n:Nat) (nm:List UInt8) (ex:List Ex) (bd el:List St) (hne:ex≠ []) (hEx: ∀m,m<=n-> ∀y∈ex,mP X C m y) (hB: ∀m,m<=n->Af X C m bd):rB X C n (.mk 5 nm ex bd el):=by
 intro σ l fb lb w A1 A2 A3 c1 c2 c3 hA hF hl hn hRe hRb hRl;simp only[St.k,St.nm,St.ex,St.body,St.els]at hRe hRb hRl⊢;have hn1:2*σ.step.left+1<=n:=by show 2*(σ.left-1)+1<=n;omega
 have HQ0:=G (jn hA hF hRe hRb hRl #[.int .i64 5, .string (ah nm), .slice A1 ex.length c1, .slice A2 bd.length c2, .slice A3 el.length c3]);have HS:=G (eR HQ0.out.ma hl);have hmf: ∀(fn:Fn) (first cap:Array Value) (w:World),(Instr.makeFunc fn first cap).run prog w= .ok (.func fn first cap) w:=fun _ _ _ _=>rfl;obtain⟨Rv,hRv⟩: ∃R,st C (n+1) σ l (.mk 5 nm ex bd el)=R:=⟨_,rfl⟩
 have HE0:=G (show wh C n σ.step l (ex.getD 0 nf) bd=Rv from by rw[<-hRv,BY hl]);have HEX:=G hEx;have HB:=G hB;have HNE:=G hne;have HN0:=G hn1;have HVA:=G (fun m s l=>show ev C m s l (ex.getD 0 nf)=val C m s l ex from by unfold val;rw[if_neg hne]);rw[hRv];have f0:=HQ0.out.b0.cell;clear hA hF hRe hRb hRl hEx hB hRv hne hn1 hn;simp only[MX.p]at*;go_enter func130,ntmps130;go_wp2_with (go_at_call 162;refine HS.out.mono ?_;rintro e w1 ⟨rfl,hM,hA1⟩;have HQ1:=G (HQ0.out.ms hM hA1);clear f0;have f0:=HQ1.out.b0.cell;have f1:=HQ1.out.b1.cell;have f2:=HQ1.out.b2.cell;have fk:=HQ1.out.fi.fr.blk.cell;clear hM hA1 HS HQ0);clear f0 f1 f2 fk
 go_loopw [] (fun wr=> ∃(m:Nat) (σj:Ms) (lj:Lo),Hid (m<=n)/\Hid (2*σj.left+1<=m)/\Hid (wh C m σj lj (ex.getD 0 nf) bd=Rv)/\Hid (TQ X C σj lj none fb lb w #[.int .i64 5, .string (ah nm), .slice A1 ex.length c1, .slice A2 bd.length c2, .slice A3 el.length c3] (.slice A1 ex.length c1) (.slice A2 bd.length c2) (.slice A3 el.length c3) ex bd el wr)) (fun wr=>sC X.g wr)
 case atStart=>exact⟨n,σ.step,l,G (ag _),HN0,HE0,HQ1⟩
 case round=>
  obtain⟨m,σj,lj,HM,HL,HE,HQ⟩:=hrel;obtain⟨m,rfl⟩: ∃k,m=k+1:=⟨m-1,by have:=HL.out;omega⟩
  have hE:=HE.out;rw[wh,HVA.out]at hE;have hmn:m<=n:=by have:=HM.out;omega
  have hm2:2*σj.left<=m:=by have:=HL.out;omega
  have HV:=G (fun W (h:yx X C σj lj fb lb w.heap.size (w.heap.size+1) (w.heap.size+1+1) #[.int .i64 5, .string (ah nm), .slice A1 ex.length c1, .slice A2 bd.length c2, .slice A3 el.length c3] (.slice A1 ex.length c1) ex W)=>gt X C m 5 nm ex (HEX.out m hmn) σj lj fb lb w.heap.size (w.heap.size+1) (w.heap.size+1+1) A1 ex.length c1 (.slice A2 bd.length c2) (.slice A3 el.length c3) W h hm2);have hs2:=HB.out m hmn;unfold Af at hs2;have HS2:=G hs2;clear hs2;simp only[MX.p]at HS2;have f0:=HQ.out.b0.cell;have f1:=HQ.out.b1.cell;have f2:=HQ.out.b2.cell;have fk:=HQ.out.fi.fr.blk.cell;rcases hr:val C m σj lj ex with oc|⟨v,s1⟩
  ·rw[hr,ed]at hE;have HER:=G hE.symm;clear hE;go_wp2_with (go_at_call 163;refine(HV.out _ HQ.out.vq).mono ?_;intro e w2 h;rw[hr]at h;obtain⟨hM,rfl,hH⟩:=h.err_;have HMx:=G (HQ.out.mv.trans (hM.mono fun k _ h=> .inl h));have HH:=G hH;clear hM hH h HV);exact⟨rfl,cL HMx.out HER.out rfl HH.out⟩
  ·rw[hr,d_]at hE;have hlt:=AG HNE.out hr;have hn2:2*s1.left<=m:=by omega
   by_cases hv0:v=0
   ·subst hv0;rw[if_pos rfl]at hE;have HER:=G hE.symm;clear hE;go_wp2_with (go_at_call 163;refine(HV.out _ HQ.out.vq).mono ?_;intro e w2 h;rw[hr]at h;obtain⟨hM,rfl,hA2⟩:=h.ok_;have HQ2:=G (HQ.out.ms hM hA2);clear f0 f1 f2 fk;have f0:=HQ2.out.b0.cell;have f1:=HQ2.out.b1.cell;have f2:=HQ2.out.b2.cell;have fk:=HQ2.out.fi.fr.blk.cell;clear hM hA2 h HV);exact bodyPost_end (results_none rfl _ _ _) rfl (gC HQ2.out.mv HER.out HQ2.out.ma HQ2.out.fi.fr)
   ·rw[if_neg hv0]at hE;have hvb:(v !=0)=true:=by simpa using hv0
    rcases hs:lw (fun s l y=>st C m s l y) s1 lj bd with oc|⟨⟨rt,l2⟩,s2⟩
    ·rw[hs,ed]at hE;have HER:=G hE.symm;clear hE;go_wp2_with (first|(go_at_call 163;refine(HV.out _ HQ.out.vq).mono ?_;intro e w2 h;rw[hr]at h;obtain⟨hM,rfl,hA2⟩:=h.ok_;have HQ2:=G (HQ.out.ms hM hA2);clear f0 f1 f2 fk;have f0:=HQ2.out.b0.cell;have f1:=HQ2.out.b1.cell;have f2:=HQ2.out.b2.cell;have fk:=HQ2.out.fi.fr.blk.cell;clear hM hA2 h HV)|(go_at_call 86;refine(HS2.out _ _ fb lb _ A2 c2 HQ2.out.ma HQ2.out.fi hn2 HQ2.out.rb).mono ?_;intro e w3 h;rw[hs]at h;obtain⟨hM,rfl,hH⟩:=h.err_;have HMx:=G (HQ2.out.mv.trans hM);have HH:=G hH;clear hM hH h));exact⟨rfl,cL HMx.out HER.out rfl HH.out⟩
    ·have hls:=wu hs;rw[hs,d_]at hE
     cases rt with
     |some u=>
      have HER:=G hE.symm;clear hE;go_wp2_with (first|(go_at_call 163;refine(HV.out _ HQ.out.vq).mono ?_;intro e w2 h;rw[hr]at h;obtain⟨hM,rfl,hA2⟩:=h.ok_;have HQ2:=G (HQ.out.ms hM hA2);clear f0 f1 f2 fk;have f0:=HQ2.out.b0.cell;have f1:=HQ2.out.b1.cell;have f2:=HQ2.out.b2.cell;have fk:=HQ2.out.fi.fr.blk.cell;clear hM hA2 h HV)|(go_at_call 86;refine(HS2.out _ _ fb lb _ A2 c2 HQ2.out.ma HQ2.out.fi hn2 HQ2.out.rb).mono ?_;intro e w3 h;rw[hs]at h;obtain⟨hM,rfl,hA3,hF3⟩:=h.ok_;have HQ3:=G (HQ2.out.mt hM hA3 hF3);clear f0 f1 f2 fk;have f0:=HQ3.out.b0.cell;have f1:=HQ3.out.b1.cell;have f2:=HQ3.out.b2.cell;have fk:=HQ3.out.fi.fr.blk.cell;simp only[gE,cz,bz]at fk;clear hM hA3 hF3 h));exact bodyPost_ret (results_none rfl _ _ _) rfl (gC HQ3.out.mv HER.out HQ3.out.ma HQ3.out.fi.fr)
     |none=>
      have HER:=G (show wh C m s2 l2 (ex.getD 0 nf) bd=Rv from hE);clear hE;go_wp2_with (first|(go_at_call 163;refine(HV.out _ HQ.out.vq).mono ?_;intro e w2 h;rw[hr]at h;obtain⟨hM,rfl,hA2⟩:=h.ok_;have HQ2:=G (HQ.out.ms hM hA2);clear f0 f1 f2 fk;have f0:=HQ2.out.b0.cell;have f1:=HQ2.out.b1.cell;have f2:=HQ2.out.b2.cell;have fk:=HQ2.out.fi.fr.blk.cell;clear hM hA2 h HV)|(go_at_call 86;refine(HS2.out _ _ fb lb _ A2 c2 HQ2.out.ma HQ2.out.fi hn2 HQ2.out.rb).mono ?_;intro e w3 h;rw[hs]at h;obtain⟨hM,rfl,hA3,hF3⟩:=h.ok_;have HQ3:=G (HQ2.out.mt hM hA3 hF3);clear f0 f1 f2 fk;have f0:=HQ3.out.b0.cell;have f1:=HQ3.out.b1.cell;have f2:=HQ3.out.b2.cell;have fk:=HQ3.out.fi.fr.blk.cell;simp only[gE,cJ,dJ]at fk;clear hM hA3 hF3 h));go_roundw
      case rel=>exact⟨m,s2,l2,G hmn,G (by omega),HER,HQ3⟩
      case measure=>rw[HQ3.out.ma.leftE,HQ.out.ma.leftE];omega
end Go.Proofs.YtddomeddabfinaaGreatDoor
