/-
  Parts of the proof: OpenR TyOs OwnA OwnB Few EqR EqQ Peq.
-/
import Derived.Test.YtddomeddabfinaaGreatDoorTp00
import Derived.Test.YtddomeddabfinaaGreatDoorTp40
import Derived.Test.YtddomeddabfinaaGreatDoorTp41
import Derived.Test.YtddomeddabfinaaGreatDoorTp10
import Derived.Test.YtddomeddabfinaaGreatDoorTp22
import Derived.Test.YtddomeddabfinaaGreatDoorTp37
import Derived.Test.YtddomeddabfinaaGreatDoorTp01
import Derived.Test.YtddomeddabfinaaGreatDoorTp39
set_option maxRecDepth 100000
set_option maxHeartbeats 8000000
set_option linter.unusedVariables false
set_option linter.unusedSimpArgs false
set_option linter.defProp false
set_option linter.unusedSectionVars false
namespace Go.Proofs.YtddomeddabfinaaGreatDoor
open Go.Proofs.Tryz
section
open Go.Joins Go.ChangeShapes Go.WideShapes Go.ChangeAt Go.RowKit Go.Deep
theorem Sl.bk {w:World} {A:Option Addr} {c:Nat} {l:List UInt8} (h:Sl w A c l): ∀b o,A=some ⟨b,o,none⟩->l≠ []->b<w.heap.size:=fun b o e hn=>by
 rcases h.rd with h0|⟨b',o',ha,hb,_⟩
 ·exact absurd h0 hn
 ·rw[e]at ha;injection ha with ha;injection ha with ha;omega
instance:Inhabited RV:=⟨⟨0,[],none,0⟩⟩
section
variable {H:Type} {enc:TypeId×Value->H} {W:World}
theorem qr {base fuel:Nat} {hd:Bool} {c:Value} {y:DataW H×List MemPlace} (h:DataW.trod enc prog W base (fun _=>true) hd fuel 37 [c]=some y): ∃R,jA W (wL W) c R/\R.length+1<=Rows.uptoBulk y.1:=by
 have c0:prog.cellsOf 121=2:=by kernel_rfl
 have cS:prog.cellsOf 40=1:=by kernel_rfl
 have cI:prog.cellsOf 3=1:=by kernel_rfl
 rcases ij underlying37 h with rfl|⟨a,len,cap,n,elems,rest,rfl,rfl,hl,hm,hlen0,hy,hx⟩
 ·exact⟨[],⟨none,0,rfl, .inl rfl⟩,ej _⟩
 ·rw[c0]at hx;have key: ∀i,i<len-> ∃p:RV,(∀k,k<2->W.cell? ((a.add (i*2)).add k)=(sZ p)[k]?)/\Sl W p.A p.d p.l:=fun i hi=>by
   have hie:i<elems.length:=by omega
   obtain⟨cs',h1,h2,h3⟩:=hx i hie
   match cs',h2 with
   | [u0,u1],_=>
    obtain⟨m,xs,rfl,_,hyx,hxl,hf⟩:=gF underlying121 h3;obtain⟨y0,j0,k0⟩:=hf 0 _ rfl;have k0:DataW.trod enc prog W base (fun _=>true) hd m 3 [u0]=some y0:=by simpa[cI]using k0
    obtain⟨y1,j1,k1⟩:=hf 1 _ rfl;have k1:DataW.trod enc prog W base (fun _=>true) hd m 40 [u1]=some y1:=by simpa[cS]using k1
    obtain⟨z0,rfl,_⟩:=gK underlying3 k0;obtain⟨A1,d1,l1,rfl,s1,_⟩:=pd underlying40 underlying5 (by kernel_rfl) (by kernel_rfl) k1;exact⟨⟨z0,l1,A1,d1⟩,h1,s1⟩
  obtain⟨f,hf⟩:=choose_lt (α:=RV) key;have hbk:len+1<=Rows.uptoBulk y.1:=by
   have h1:=iz (fun _:Nat=>1) elems (fun i=>i) (fun i hi=>ej _);have h2:=gz elems rest;rw[hy];rw[dx]at h1;have h3:(List.map ((fun _:Nat=>1) ∘ fun i=>i) (List.range elems.length)).sum=elems.length:=by
    rw[show(List.map ((fun _:Nat=>1) ∘ fun i=>i) (List.range elems.length))=List.replicate elems.length 1 from by rw[List.eq_replicate_iff];simp];simp
   omega
  by_cases h0:len=0
  ·subst h0;exact⟨[],⟨some a,cap,rfl, .inl rfl⟩,ej _⟩
  ·obtain⟨b,off,spot⟩:=a;have q1:=(hf 0 (by omega)).1 0 (by omega);have hspot:spot=none:=by simpa[Addr.add]using World.cell?_spot (show _=some _ from q1)
   subst hspot;have hlt:b<W.heap.size:=by
    have:=World.block_lt_of_cell? _ _ (show _=some _ from q1);simpa[Addr.add]using this
   refine⟨(List.range len).map fun i=>((f i).x,(f i).l),⟨some ⟨b,off,none⟩,cap,by simp, .inr ⟨by simpa using hl,hm,b,off,rfl,hlt,hlt,fun i=>(f i).A,fun i=>(f i).d,fun i hi=> ?_⟩⟩,by simpa using hbk⟩;have hi':i<len:=by simpa using hi
   have g0:=(hf i hi').1 0 (by omega);have g1:=(hf i hi').1 1 (by omega);rw[oM]at g0 g1;have hs:=(hf i hi').2;refine⟨by simpa[sZ]using g0,by simpa[sZ,RV.val]using g1,by simpa using hs,fun b2 o2 e hne=>hs.bk b2 o2 e (by simpa using hne)⟩
end
end
section
open Go.RowKit
theorem Ft:mR prog 45 80 2 32 (.agg #[.int .i64 0, .slice none 0 0]):=⟨underlying45,by kernel_rfl,by rfl,by decide⟩
theorem Ah (p:RV): ∀u∈sZ p,u.oneCell'=true:=by
 intro u hu;simp only[sZ,RV.val,dQ,cX,or_false]at hu;rcases hu with rfl|rfl<;>rfl
theorem ye (R:Rs) (hl:R.length<=1000000000) (P:Nat->Prop) (w:World) (v:Value) (hR:jA w P v R):Calls prog 18 #[v] w fun e w'=>au w w'/\ ∃v',e= .returned v'/\jA w' (fun b=>P b\/w.heap.size<=b) v' R:=by
 obtain⟨A,n,c,rfl,hn⟩:=hR.form;rw[hn]at hl;obtain⟨q,hq,hqn,hok,hcell⟩:=hR.rvs;have HQ:=G hq;have HQN:=G hqn;have HOK:=G hok;have HC:=G hcell;clear hR hn hq hqn hok hcell;go_enter func18,ntmps18;go_wp2_with fail
 go_loopw [3,4] (fun vo vi wr=> ∃(j:Nat) (C:Option Addr) (cap:Nat),vi= .int .i64 (j:Int)/\vo= .slice C j cap/\j<=n/\Hid (au w wr)/\Hid (wr.ownsRow w.heap.size 80 2 (.slice C j cap) j (iU (q.take j)))) (fun vo vi _=>n-(intOf vi).toNat)
 case atStart=>exact⟨0,none,0,rfl,rfl,aB _,G (aN w),G (World.ownsRow_nil _ _ _ _)⟩
 case round=>
  obtain⟨j,C,cap,rfl,rfl,hj,HX,HO⟩:=hrel;by_cases hlt:j<n
  ·have hlt':(j:Int)<n:=by omega
   have hjl:j<q.length:=by have:=HQN.out;omega
   rcases HC.out with h0|⟨hnc,hm,b,o,rfl,_,hb,hcc⟩
   ·exact absurd hlt (by omega)
   obtain⟨q0,q1⟩:=hcc j hjl;have e0:=(HX.out.cell b _ hb).trans q0;have e1:=(HX.out.cell b _ hb).trans q1;unfold RV.val at e1;have HT:=G (show q.take (j+1)=q.take j++[q[j]]from aT hjl);have hrow:=World.ownsRow.lt HO.out;have hwl:w.heap.size<=wr.heap.size:=HX.out.size;have hbl:b<wr.heap.size:=aA hb hwl;generalize q[j]=p at*;clear q0 q1 hcc hnc hm;go_wp2_with (refine dR Ft rfl _ _ rfl w.heap.size _ j (iU (q.take j)) rfl (World.ownsRow.alloc HO.out _) wr.heap.size (sZ p) rfl (ap wr 80 (sZ p).toArray) rfl (Ah p) (by omega) (by decide) (by rw[World.size_alloc];omega) ?_;intro A' cap' w2 h1 h2 h3;have HX2:=G ((HX.out.alloc' (.cells (sZ p).toArray 80)).grown h2 (fun k e=>(hrow k e).1));have HO2:=G h1;clear h1 h2 h3 HX HO)
   have HO3:=G (show w2.ownsRow w.heap.size 80 2 (.slice (some ⟨A',0,none⟩) (j+1) cap') (j+1) (iU (q.take (j+1))) by
    rw[HT.out,vH];have:iU [p]=sZ p:=by simp[iU]
    rw[this]
    exact HO2.out)
   clear HO2 hrow;go_roundw
   case rel=>exact⟨j+1,_,_,by go_num,rfl,by omega,HX2,HO3⟩
   case measure=>simp[intOf];omega
  ·have hlt': ¬(j:Int)<n:=by omega
   have hjn:j=n:=by omega
   have HF:=G (show jA wr (fun b=>P b\/w.heap.size<=b) (.slice C j cap) R by
    have h1:=HO.out;rw[br (by have:=HQN.out;omega)]at h1;have:=jA.of_row (Q:=fun b=>P b\/w.heap.size<=b) h1 (by have:=HQN.out;omega) (fun b hb=> .inr hb) (fun p hp=>⟨(HOK.out p hp).1.ext HX.out,fun b o e hne=> .inl ((HOK.out p hp).2 b o e hne)⟩);rw[HQ.out]at this
    exact this)
   clear HO hjn;go_wp2_with fail;go_ret;exact⟨HX.out,_,rfl,HF.out⟩
end
section
open Go.RowKit
def yi (xs:List Ex):Prop:= ∀(P:Nat->Prop) (w:World) (u:Value),cJ w P u xs->Calls prog 76 #[u] w fun e w'=>au w w'/\ ∃A c,e= .returned (.slice A xs.length c)/\cJ w' (fun b=>w.heap.size<=b) (.slice A xs.length c) xs
def yh (xs:List St):Prop:= ∀(P:Nat->Prop) (w:World) (u:Value),cL w P u xs->Calls prog 38 #[u] w fun e w'=>au w w'/\ ∃A c,e= .returned (.slice A xs.length c)/\cL w' (fun b=>w.heap.size<=b) (.slice A xs.length c) xs
theorem vV (xs:List Ex) (hl:xs.length<=1073741824) (hIH: ∀x,x∈xs->yi x.args):yi xs:=by
 intro P w u hu;obtain⟨A,c,rfl,_⟩:=hu.form;obtain⟨n,hn⟩: ∃n,xs.length=n:=⟨_,rfl⟩
 rw[hn]at hu⊢;rw[hn]at hl;have HN:=G hn;have HR:=G hu;have HI:=G hIH;clear hu hIH hn;go_enter func76,ntmps76;go_wp2_with fail
 go_loopw [3,4] (fun vo vi wr=> ∃(j:Nat) (acc:List (Ex×Value)) (C:Option Addr) (cap:Nat),vi= .int .i64 (j:Int)/\vo= .slice C j cap/\j<=n/\Hid (acc.map (·.1)=xs.take j)/\Hid (acc.length=j)/\Hid (fG wr w.heap.size 70 (.slice C j cap) acc)/\Hid (au w wr)) (fun vo vi _=>n-(intOf vi).toNat)
 case atStart=>exact⟨0,[],none,0,rfl,rfl,aB _,G rfl,G rfl,G (mT _ _ _),G (aN w)⟩
 case round=>
  obtain⟨j,acc,C,cap,rfl,rfl,hj,HM,HL,HO,HX⟩:=hrel;by_cases hlt:j<n
  ·have hlt':(j:Int)<n:=by omega
   have hjl:j<xs.length:=by have:=HN.out;omega
   obtain⟨b,o,a,rfl,hb,hP,h0,h1,h2,h3,h4,h5,hRa⟩:=HR.out.at_ j hjl;have hbl:b<wr.heap.size:=aA hb HX.out.size;have HT:=G (show xs.take (j+1)=xs.take j++[xs[j]]from aT hjl);have hIx:=HI.out _ (aq hjl);generalize xs[j]=x at*;have e0:=(HX.out.cell b _ hb).trans h0;have e1:=(HX.out.cell b _ hb).trans h1;have e2:=(HX.out.cell b _ hb).trans h2;have e3:=(HX.out.cell b _ hb).trans h3;have e4:=(HX.out.cell b _ hb).trans h4;have e5:=(HX.out.cell b _ hb).trans h5;obtain⟨A2,c2,rfl,_⟩:=hRa.form;have HRa:=G (hRa.keep (.of_ext HX.out) (Q:=P) (fun b hb _=>hb));have HIx:=G hIx;have HB:=G (ap wr 75 #[.int .i64 x.k, .string (ai x.op), .string (ai x.nm), .string (ai x.tx), .int .i64 x.v, .slice A2 x.args.length c2]);have hx1:=O wr (.cells #[.int .i64 x.k, .string (ai x.op), .string (ai x.nm), .string (ai x.tx), .int .i64 x.v, .slice A2 x.args.length c2] 75);have HX1:=G hx1;clear h0 h1 h2 h3 h4 h5 hRa hIx hx1;go_wp2_with fail;clear e0 e1 e2 e3 e4 e5
   refine az 16 12 [(13,fun v=> ∃A c,v= .slice A x.args.length c,fun v wx=>cJ wx (fun b=>wr.heap.size<=b) v x.args),
     (15,fun v=> ∃gb,v= .slice (some ⟨gb,0,none⟩) 1 1,fun v wx=> ∃gb A c,v= .slice (some ⟨gb,0,none⟩) 1 1/\wr.heap.size<=gb/\aS wx gb 70 #[.int .i64 x.k, .string (ai x.op), .string (ai x.nm), .string (ai x.tx), .int .i64 x.v, .slice A x.args.length c]/\cJ wx (fun b=>wr.heap.size<=b) (.slice A x.args.length c) x.args)] mixed (by kernel_rfl)
    ⟨fun _ _ _ h hx=>h.keep (.of_ext hx) (fun _ hb _=>hb),fun _ _ _ h hx=>(let⟨gb,A,c,h1,h2,h3,h4⟩:=h;⟨gb,A,c,h1,h2,h3.ext hx,h4.keep (.of_ext hx) (fun _ hb _=>hb)⟩),trivial⟩ ?_
   repeat (refine sx ?_ (fun w1 hU=> ?_) ?_;rotate_left;(focus have f1:=(HB.out.ext hU.un).cell;clear hU;go_simp<;>with_reducible rfl);simp only[aY,aX,aW,aV,aU])
   refine be _ _ (by rfl) rfl ⟨_,none,0,rfl⟩ (by simp) (fun w6 hU hp K hK=> ?_) ?_
   ·clear hp;have hE6:=HX1.out.trans hU.un;have hc:=HIx.out P w6 _ (HRa.out.keep (.of_ext hE6) (fun _ hb _=>hb));have hs:=hE6.size;clear hU hE6;go_simp;refine hc.mono ?_;rintro e w7 ⟨hE,A3,c3,rfl,hR3⟩;exact hK _ _ hE ⟨_,_,rfl⟩ (hR3.mono (fun b hb _=>aM hs hb))
   rintro _ ⟨A3,c3,rfl⟩;simp only[aY,aX,aW,aV,aU];repeat (refine sx ?_ (fun w1 hU=> ?_) ?_;rotate_left;(focus go_simp<;>with_reducible rfl);simp only[aY,aX,aW,aV,aU])
   refine be _ _ (by rfl) rfl ⟨_,0,rfl⟩ (by simp) (fun w6 hU hp K hK=> ?_) ?_
   ·have h3:cJ w6 (fun b=>wr.heap.size<=b) (.slice A3 x.args.length c3) x.args:=hp _ (.head _) (by kernel_rfl);have hs:=(HX1.out.trans hU.un).size;clear hU hp;go_simp;exact hK _ _ (O w6 _) ⟨_,rfl⟩ ⟨_,_,_,rfl,hs,ap w6 _ _,h3.keep (.of_ext (O w6 _)) (fun _ hb _=>hb)⟩
   rintro _ ⟨gb,rfl⟩;simp only[aY,aX,aW,aV,aU];intro w8 hw8 hp;obtain⟨gb',A4,c4,hgb,hz,hB3,hR3⟩:=hp _ (.head _);injection hgb with hgb;injection hgb with hgb;injection hgb with hgb;subst hgb;clear hp;simp only[ac,an];have hE8:=HX1.out.trans hw8.un;have HX8:=G (HX.out.trans hE8);have hO8:=HO.out.ext hE8;have hrow:=World.ownsRow.lt HO.out.1;have hs8:=HX8.out.size;have HR3:=G (hR3.mono (Q:=fun b=>w.heap.size<=b/\some b≠Value.ownBlock (.slice C j cap)) (fun b hb _=>⟨aM HX.out.size hb,fun e=>by have:=(hrow b e.symm).2;omega⟩));clear hw8 hE8 hR3;have hl8:=HL.out;refine dR D_ rfl _ _ rfl w.heap.size _ j (fO acc) rfl (by have:=hO8.1;rw[hl8]at this;exact this) gb (sy x (.slice A4 x.args.length c4)) rfl hB3 rfl (qF _ _ _ _) (by omega) (by decide) hs8 ?_;intro A' cap' w9 hq1 hq2 hq3;have HO9:=G (hO8.snoc HR3.out (by rw[hl8];exact hq1) hq2 hq3);rw[hl8]at HO9;have HX9:=G (HX8.out.grown hq2 (fun k e=>(hrow k e).1));have HM9:=G (show(acc++[(x,Value.slice A4 x.args.length c4)]).map (·.1)=xs.take (j+1) by rw[HT.out,eb,HM.out];rfl);have HL9:=G (show(acc++[(x,Value.slice A4 x.args.length c4)]).length=j+1 by rw[aa,hl8];rfl);clear hq1 hq2 hq3 hO8 hB3 HR3 hrow HM HL hl8 HT;go_wp2_with fail;go_roundw
   case rel=>exact⟨j+1,_,_,_,by go_num,rfl,by omega,HM9,HL9,HO9,HX9⟩
   case measure=>simp[intOf];omega
  ·have hlt': ¬(j:Int)<n:=by omega
   have hjn:j=n:=by omega
   subst hjn
   have HQ:=G (show cJ wr (fun b=>w.heap.size<=b) (.slice C j cap) xs by
    have:=HO.out.rd;rw[HM.out,br (by have:=HN.out;omega)]at this
    exact this)
   clear HO HM HL;go_wp2_with fail;go_ret;exact⟨HX.out,C,cap,rfl,HQ.out⟩
theorem rz: ∀(k:Nat) (xs:List Ex),fH xs<k->k<=1000000001->yi xs
 |0,xs,h,_=>absurd h (gR _)
 |k+1,xs,h,hk=>vV xs (by have:=db xs;omega) (fun x hx=>rz k x.args (by have:=dB hx;have:=x.wt_eq;omega) (by omega))
theorem DJ {xs:List Ex} (h:fH xs<=1000000000):yi xs:=rz _ xs (fB _) (by omega)
theorem vU (xs:List St) (hl:xs.length<=1073741824) (hIH: ∀x,x∈xs->yi x.ex/\yh x.body/\yh x.els):yh xs:=by
 intro P w u hu;obtain⟨A,c,rfl,_⟩:=hu.form;obtain⟨n,hn⟩: ∃n,xs.length=n:=⟨_,rfl⟩
 rw[hn]at hu⊢;rw[hn]at hl;have HN:=G hn;have HR:=G hu;have HI:=G hIH;clear hu hIH hn;go_enter func38,ntmps38;go_wp2_with fail
 go_loopw [3,4] (fun vo vi wr=> ∃(j:Nat) (acc:List SV) (C:Option Addr) (cap:Nat),vi= .int .i64 (j:Int)/\vo= .slice C j cap/\j<=n/\Hid (acc.map (·.s)=xs.take j)/\Hid (acc.length=j)/\Hid (gO wr w.heap.size 72 (.slice C j cap) acc)/\Hid (au w wr)) (fun vo vi _=>n-(intOf vi).toNat)
 case atStart=>exact⟨0,[],none,0,rfl,rfl,aB _,G rfl,G rfl,G (gO.nil_ _ _ _),G (aN w)⟩
 case round=>
  obtain⟨j,acc,C,cap,rfl,rfl,hj,HM,HL,HO,HX⟩:=hrel;by_cases hlt:j<n
  ·have hlt':(j:Int)<n:=by omega
   have hjl:j<xs.length:=by have:=HN.out;omega
   obtain⟨b,o,a,g,z,rfl,hb,hP,h0,h1,h2,h3,h4,hRa,hRb,hRc⟩:=HR.out.at_ j hjl;have hbl:b<wr.heap.size:=aA hb HX.out.size;have HT:=G (show xs.take (j+1)=xs.take j++[xs[j]]from aT hjl);have hIx:=HI.out _ (aq hjl);generalize xs[j]=x at*;have e0:=(HX.out.cell b _ hb).trans h0;have e1:=(HX.out.cell b _ hb).trans h1;have e2:=(HX.out.cell b _ hb).trans h2;have e3:=(HX.out.cell b _ hb).trans h3;have e4:=(HX.out.cell b _ hb).trans h4;obtain⟨A2,c2,rfl,_⟩:=hRa.form;obtain⟨B2,d2,rfl,_⟩:=hRb.form;obtain⟨C2,i2,rfl,_⟩:=hRc.form;have HRa:=G (hRa.keep (.of_ext HX.out) (Q:=P) (fun b hb _=>hb));have HRb:=G (hRb.keep (.of_ext HX.out) (Q:=P) (fun b hb _=>hb));have HRc:=G (hRc.keep (.of_ext HX.out) (Q:=P) (fun b hb _=>hb));have HIx:=G hIx;have HB:=G (ap wr 66 #[.int .i64 x.k, .string (ai x.nm), .slice A2 x.ex.length c2, .slice B2 x.body.length d2, .slice C2 x.els.length i2]);have hx1:=O wr (.cells #[.int .i64 x.k, .string (ai x.nm), .slice A2 x.ex.length c2, .slice B2 x.body.length d2, .slice C2 x.els.length i2] 66);have HX1:=G hx1;clear h0 h1 h2 h3 h4 hRa hRb hRc hIx hx1;go_wp2_with fail;clear e0 e1 e2 e3 e4
   refine az 16 12 [(7,fun v=> ∃A c,v= .slice A x.ex.length c,fun v wx=>cJ wx (fun b=>wr.heap.size<=b) v x.ex),
     (10,fun v=> ∃A c,v= .slice A x.body.length c,fun v wx=>cL wx (fun b=>wr.heap.size<=b) v x.body),(13,fun v=> ∃A c,v= .slice A x.els.length c,fun v wx=>cL wx (fun b=>wr.heap.size<=b) v x.els),
     (15,fun v=> ∃gb,v= .slice (some ⟨gb,0,none⟩) 1 1,fun v wx=> ∃gb A c B d C i,v= .slice (some ⟨gb,0,none⟩) 1 1/\wr.heap.size<=gb/\aS wx gb 72 #[.int .i64 x.k, .string (ai x.nm), .slice A x.ex.length c, .slice B x.body.length d, .slice C x.els.length i]/\cJ wx (fun b=>wr.heap.size<=b) (.slice A x.ex.length c) x.ex/\cL wx (fun b=>wr.heap.size<=b) (.slice B x.body.length d) x.body/\cL wx (fun b=>wr.heap.size<=b) (.slice C x.els.length i) x.els)] mixed (by kernel_rfl)
    ⟨fun _ _ _ h hx=>h.keep (.of_ext hx) (fun _ hb _=>hb),fun _ _ _ h hx=>h.keep (.of_ext hx) (fun _ hb _=>hb),fun _ _ _ h hx=>h.keep (.of_ext hx) (fun _ hb _=>hb),fun _ _ _ h hx=>(let⟨gb,A,c,B,d,C,i,h1,h2,h3,h4,h5,h6⟩:=h;⟨gb,A,c,B,d,C,i,h1,h2,h3.ext hx,h4.keep (.of_ext hx) (fun _ hb _=>hb),h5.keep (.of_ext hx) (fun _ hb _=>hb),h6.keep (.of_ext hx) (fun _ hb _=>hb)⟩),trivial⟩ ?_
   repeat (refine sx ?_ (fun w1 hU=> ?_) ?_;rotate_left;(focus have f1:=(HB.out.ext hU.un).cell;clear hU;go_simp<;>with_reducible rfl);simp only[aY,aX,aW,aV,aU])
   refine be _ _ (by rfl) rfl ⟨_,none,0,rfl⟩ (by simp) (fun w6 hU hp K hK=> ?_) ?_
   ·clear hp;have hE6:=HX1.out.trans hU.un;have hc:=HIx.out.1 P w6 _ (HRa.out.keep (.of_ext hE6) (fun _ hb _=>hb));have hs:=hE6.size;clear hU hE6;go_simp;refine hc.mono ?_;rintro e w7 ⟨hE,A3,c3,rfl,hR3⟩;exact hK _ _ hE ⟨_,_,rfl⟩ (hR3.mono (fun b hb _=>aM hs hb))
   rintro _ ⟨A3,c3,rfl⟩;simp only[aY,aX,aW,aV,aU];repeat (refine sx ?_ (fun w1 hU=> ?_) ?_;rotate_left;(focus have f1:=(HB.out.ext hU.un).cell;clear hU;go_simp<;>with_reducible rfl);simp only[aY,aX,aW,aV,aU])
   refine be _ _ (by rfl) rfl ⟨_,none,0,rfl⟩ (by simp) (fun w6 hU hp K hK=> ?_) ?_
   ·clear hp;have hE6:=HX1.out.trans hU.un;have hc:=HIx.out.2.1 P w6 _ (HRb.out.keep (.of_ext hE6) (fun _ hb _=>hb));have hs:=hE6.size;clear hU hE6;go_simp;refine hc.mono ?_;rintro e w7 ⟨hE,A4,c4,rfl,hR3⟩;exact hK _ _ hE ⟨_,_,rfl⟩ (hR3.mono (fun b hb _=>aM hs hb))
   rintro _ ⟨B3,d3,rfl⟩;simp only[aY,aX,aW,aV,aU];repeat (refine sx ?_ (fun w1 hU=> ?_) ?_;rotate_left;(focus have f1:=(HB.out.ext hU.un).cell;clear hU;go_simp<;>with_reducible rfl);simp only[aY,aX,aW,aV,aU])
   refine be _ _ (by rfl) rfl ⟨_,none,0,rfl⟩ (by simp) (fun w6 hU hp K hK=> ?_) ?_
   ·clear hp;have hE6:=HX1.out.trans hU.un;have hc:=HIx.out.2.2 P w6 _ (HRc.out.keep (.of_ext hE6) (fun _ hb _=>hb));have hs:=hE6.size;clear hU hE6;go_simp;refine hc.mono ?_;rintro e w7 ⟨hE,A4,c4,rfl,hR3⟩;exact hK _ _ hE ⟨_,_,rfl⟩ (hR3.mono (fun b hb _=>aM hs hb))
   rintro _ ⟨C3,i3,rfl⟩;simp only[aY,aX,aW,aV,aU];repeat (refine sx ?_ (fun w1 hU=> ?_) ?_;rotate_left;(focus go_simp<;>with_reducible rfl);simp only[aY,aX,aW,aV,aU])
   refine be _ _ (by rfl) rfl ⟨_,0,rfl⟩ (by simp) (fun w6 hU hp K hK=> ?_) ?_
   ·have h3:cL w6 (fun b=>wr.heap.size<=b) (.slice C3 x.els.length i3) x.els:=hp _ (.head _) (by kernel_rfl);have h4:cL w6 (fun b=>wr.heap.size<=b) (.slice B3 x.body.length d3) x.body:=hp _ (.tail _ (.head _)) (by kernel_rfl);have h5:cJ w6 (fun b=>wr.heap.size<=b) (.slice A3 x.ex.length c3) x.ex:=hp _ (.tail _ (.tail _ (.head _))) (by kernel_rfl);have hs:=(HX1.out.trans hU.un).size;clear hU hp;go_simp;exact hK _ _ (O w6 _) ⟨_,rfl⟩ ⟨_,_,_,_,_,_,_,rfl,hs,ap w6 _ _,h5.keep (.of_ext (O w6 _)) (fun _ hb _=>hb),h4.keep (.of_ext (O w6 _)) (fun _ hb _=>hb),h3.keep (.of_ext (O w6 _)) (fun _ hb _=>hb)⟩
   rintro _ ⟨gb,rfl⟩;simp only[aY,aX,aW,aV,aU];intro w8 hw8 hp;obtain⟨gb',A4,c4,B4,d4,C4,i4,hgb,hz,hB3,hR3,hR4,hR5⟩:=hp _ (.head _);injection hgb with hgb;injection hgb with hgb;injection hgb with hgb;subst hgb;clear hp;simp only[ac,an];have hE8:=HX1.out.trans hw8.un;have HX8:=G (HX.out.trans hE8);have hO8:=HO.out.ext hE8;have hrow:=World.ownsRow.lt HO.out.1;have hs8:=HX8.out.size;have hq: ∀b,wr.heap.size<=b->w.heap.size<=b/\some b≠Value.ownBlock (.slice C j cap):=fun b hb=>⟨aM HX.out.size hb,fun e=>by have:=(hrow b e.symm).2;omega⟩
   have HR3:=G (show SV.ok w8 (fun b=>w.heap.size<=b/\some b≠Value.ownBlock (.slice C j cap)) ⟨x, .slice A4 x.ex.length c4, .slice B4 x.body.length d4, .slice C4 x.els.length i4⟩from⟨hR3.mono (fun b hb _=>hq b hb),hR4.mono (fun b hb _=>hq b hb),hR5.mono (fun b hb _=>hq b hb)⟩);clear hw8 hE8 hR3 hR4 hR5 hq;have hl8:=HL.out;refine dR Fe rfl _ _ rfl w.heap.size _ j (d9 acc) rfl (by have:=hO8.1;rw[hl8]at this;exact this) gb (sO ⟨x, .slice A4 x.ex.length c4, .slice B4 x.body.length d4, .slice C4 x.els.length i4⟩) rfl hB3 rfl (ug _ _ _ _ _ _ _ _ _ _) (by omega) (by decide) hs8 ?_;intro A' cap' w9 hq1 hq2 hq3;have HO9:=G (hO8.snoc HR3.out (by rw[hl8];exact hq1) hq2 hq3);rw[hl8]at HO9;have HX9:=G (HX8.out.grown hq2 (fun k e=>(hrow k e).1));have HM9:=G (show(acc++[SV.mk x (.slice A4 x.ex.length c4) (.slice B4 x.body.length d4) (.slice C4 x.els.length i4)]).map (·.s)=xs.take (j+1) by rw[HT.out,eb,HM.out];rfl);have HL9:=G (show(acc++[SV.mk x (.slice A4 x.ex.length c4) (.slice B4 x.body.length d4) (.slice C4 x.els.length i4)]).length=j+1 by rw[aa,hl8];rfl);clear hq1 hq2 hq3 hO8 hB3 HR3 hrow HM HL hl8 HT;go_wp2_with fail;go_roundw
   case rel=>exact⟨j+1,_,_,_,by go_num,rfl,by omega,HM9,HL9,HO9,HX9⟩
   case measure=>simp[intOf];omega
  ·have hlt': ¬(j:Int)<n:=by omega
   have hjn:j=n:=by omega
   subst hjn
   have HQ:=G (show cL wr (fun b=>w.heap.size<=b) (.slice C j cap) xs by
    have:=HO.out.rd;rw[HM.out,br (by have:=HN.out;omega)]at this
    exact this)
   clear HO HM HL;go_wp2_with fail;go_ret;exact⟨HX.out,C,cap,rfl,HQ.out⟩
theorem oe: ∀(k:Nat) (xs:List St),eO xs<k->k<=1000000001->yh xs
 |0,xs,h,_=>absurd h (gR _)
 |k+1,xs,h,hk=>vU xs (by have:=c_ xs;omega) (fun x hx=>⟨DJ (by have:=bJ hx;have:=x.wt_eq;omega),oe k x.body (by have:=bJ hx;have:=x.wt_eq;omega) (by omega),oe k x.els (by have:=bJ hx;have:=x.wt_eq;omega) (by omega)⟩)
theorem DI {xs:List St} (h:eO xs<=1000000000):yh xs:=oe _ xs (fB _) (by omega)
end
section
open Go.RowKit
theorem Aw (p:Pg) (hv:p.vs.length<=1000000000) (hf:p.fs.length<=1000000000) (hb: ∀f,f∈p.fs->eO f.body<=1000000000) (P:Nat->Prop) (w:World) (A B:Option Addr) (n c m d:Nat) (hV:iO w P (.slice A n c) p.vs) (hF:ja w P (.slice B m d) p.fs):
  Calls prog 14 #[.agg #[.slice A n c, .slice B m d]] w fun e w'=>au w w'/\ ∃A' n' c' B' m' d',e= .returned (.agg #[.slice A' n' c', .slice B' m' d'])/\iO w' (fun b=>P b\/w.heap.size<=b) (.slice A' n' c') p.vs/\ja w' (fun b=>P b\/w.heap.size<=b) (.slice B' m' d') p.fs:=by
 obtain⟨vs,fs⟩:=p;simp only at*;have hnv:n=vs.length:=by obtain⟨A',c',hh,_⟩:=hV;injection hh
 have hnf:m=fs.length:=by obtain⟨A',c',hh,_⟩:=hF;injection hh
 rw[<-hnv]at hv;rw[<-hnf]at hf;have HNV:=G hnv;have HNF:=G hnf;have HV:=G hV;have HF:=G hF;have HBD:=G hb;have HP0:=G (Cs 25 34 w (.slice A n c) (.slice B m d));have HO0:=G (iG.nil_ 85 59 (QO w P) (((w.alloc (.cells #[.slice A n c, .slice B m d] 25)).alloc (.cells #[.slice none 0 0, .slice none 0 0] 34)).alloc (.cells #[.slice none 0 0, .slice none 0 0] 34)) (w.heap.size+3));clear hnv hnf hV hF hb;have c0:=HP0.out.bs.cell;go_enter func14,ntmps14;go_wp2_with fail
 go_loopw [4] (fun vi wr=> ∃(j:Nat) (C:Option Addr) (cap:Nat),vi= .int .i64 (j:Int)/\j<=n/\Hid (PO 25 34 w (.slice A n c) (.slice B m d) (.slice C j cap) (.slice none 0 0) wr)/\Hid (iG 85 59 (QO w P) wr (w.heap.size+3) (.slice C j cap) (.slice none 0 0) (vs.take j) [])) (fun vi _=>n-(intOf vi).toNat)
 case atStart=>exact⟨0,none,0,rfl,aB _,HP0,HO0⟩
 case round=>
  clear c0 HP0 HO0;obtain⟨j,C,cap,rfl,hj,HP,HO⟩:=hrel;have c0:=HP.out.bs.cell;by_cases hlt:j<n
  ·have hlt':(j:Int)<n:=by omega
   have hjl:j<vs.length:=by have:=HNV.out;omega
   obtain⟨b,o,rfl,hb,h0,h1⟩:=Am HV.out j hjl;have e0:=(HP.out.e.cell b _ hb).trans h0;have e1:=(HP.out.e.cell b _ hb).trans h1;have hbl:b<wr.heap.size:=aA hb HP.out.e.size;have HT:=G (show vs.take (j+1)=vs.take j++[vs[j]]from aT hjl);have hlj:(vs.take j).length=j:=by rw[bm];omega
   generalize vs[j]=x at*;clear h0 h1 hjl;go_wp2_with fail;clear c0;have hrow:=World.ownsRow.lt HO.out.1
   refine bM 9 12 [(7,fun v=> ∃gb,v= .slice (some ⟨gb,0,none⟩) 1 1,fun v wx=> ∃gb,v= .slice (some ⟨gb,0,none⟩) 1 1/\wr.heap.size<=gb/\aS wx gb 85 #[.string (ai x.nm), .int .i64 x.sz]),
     (8,fun v=> ∃A' cap',v= .slice (some ⟨A',0,none⟩) (j+1) cap',fun v wx=> ∃A' cap',v= .slice (some ⟨A',0,none⟩) (j+1) cap'/\wx.ownsRow (w.heap.size+3) 85 2 v (j+1) (gn (vs.take j)++sk x)/\(some A'=Value.ownBlock (.slice C j cap)\/wr.heap.size<=A'))] 8 (Value.ownBlock (.slice C j cap)) mixed (by kernel_rfl)
    ⟨fun _ _ _ h hx=>(let⟨gb,h1,h2,h3⟩:=h;⟨gb,h1,h2,h3.ext hx⟩),fun _ _ _ h hx=>(let⟨A',cap',h1,h2,h3⟩:=h;⟨A',cap',h1,World.ownsRow.kept h2 (hx.grownBy none) (.inr (by rw[h1];simp[Value.ownBlock])),h3⟩),trivial⟩
    ⟨.inr fun _ _ _ h hx=>(let⟨gb,h1,h2,h3⟩:=h;⟨gb,h1,h2,h3.grown hx (fun e=>by have:=(hrow _ e.symm).2;omega)⟩), .inl rfl,trivial⟩ ?_
   repeat (refine sx ?_ (fun w1 hU=> ?_) ?_;rotate_left;(focus have hpq:=HP.out.grown (aF hU) (fun k e=>(hrow k e).1);have f1:=hpq.bs.cell;have f2:=hpq.bo.cell;have hbk:=(aF hU).block b hbl (fun e=>by have:=(hrow _ e.symm).1;omega);have g0:=(World.cell?_of_block (w:=wr) (a:=⟨b,o+j*2,none⟩) hbk).trans e0;have g1:=(World.cell?_of_block (w:=wr) (a:=⟨b,o+j*2+1,none⟩) hbk).trans e1;clear hU hpq hbk;go_simp<;>with_reducible rfl);simp only[aY,aX,aW,aV,aU])
   refine be _ _ (by rfl) rfl ⟨_,0,rfl⟩ (by simp) (fun w6 hU hp K hK=> ?_) ?_
   ·have hs:=(aF hU).size;clear hU hp;go_simp;exact hK _ _ (O w6 _) ⟨_,rfl⟩ ⟨_,rfl,hs,ap w6 _ _⟩
   rintro _ ⟨gb,rfl⟩;simp only[aY,aX,aW,aV,aU];refine bI _ _ (by rfl) rfl ⟨_,0,0,rfl⟩ rfl (fun w6 hT hp K hK=> ?_) ?_
   ·obtain⟨gb',hgb,hz,hB3⟩:=hp _ (.head _) (by kernel_rfl);injection hgb with hgb;injection hgb with hgb;injection hgb with hgb;subst hgb;have hO6:=HO.out.ext hT.un;have hs6:=(HP.out.ex hT.un).lt;have hs7:=hT.un.size;clear hp hT;refine p_ Fd _ _ rfl (w.heap.size+3) _ j (gn (vs.take j)) rfl (by have:=hO6.1;rw[hlj]at this;exact this) gb (sk x) rfl hB3 rfl (zO x) (by omega) (by decide) (by omega) ?_;intro A' cap' w9 hq1 hq2 hq3;exact hK _ _ hq2 ⟨_,_,rfl⟩ ⟨_,_,rfl,hq1,hq3.imp_right (fun e=>by omega)⟩
   rintro _ ⟨A',cap',rfl⟩;simp only[aY,aX,aW,aV,aU];repeat (refine sx ?_ (fun w1 hU=> ?_) ?_;rotate_left;(focus go_simp<;>with_reducible rfl);simp only[aY,aX,aW,aV,aU])
   intro w8 hw8 hp;obtain⟨A2,cap2,hv2,hq1,hA⟩:=hp _ (.head _);injection hv2 with hv2 _ hv3;injection hv2 with hv2;injection hv2 with hv2;subst hv2 hv3;clear hp;simp only[ac,an];have hg8:=aF hw8;have HP8:=G (HP.out.grown hg8 (fun k e=>(hrow k e).1));have HO8:=G (HO.out.snocV hlj hq1 hg8 hA);rw[<-HT.out]at HO8;have HP9:=G (HP8.out.putV (.slice (some ⟨A',0,none⟩) (j+1) cap'));have HO9:=G (HO8.out.far (b:=w.heap.size+1+1) (i:=0) (by omega) (by omega) (.slice (some ⟨A',0,none⟩) (j+1) cap'));have d0:=HP8.out.bo.cell;have z0:=HP8.out.bo.frozen;clear hw8 hg8 hq1 hA hrow HO HP HO8 HT hlj e0 e1;go_wp2_with fail;go_roundw
   case rel=>exact⟨j+1,_,_,by go_num,by omega,HP9,HO9⟩
   case measure=>simp[intOf];omega
  ·have hlt': ¬(j:Int)<n:=by omega
   have hjn:j=n:=by omega
   have HO1:=G (show iG 85 59 (QO w P) wr (w.heap.size+3) (.slice C j cap) (.slice none 0 0) vs ([].map id) by
    have:=HO.out;rw[br (by have:=HNV.out;omega)]at this
    exact this)
   clear HO;obtain⟨vv,hvv⟩: ∃vv,Value.slice C j cap=vv:=⟨_,rfl⟩
   rw[hvv]at HO1 HP;have HVV:=G hvv;clear hvv hjn hj hlt c0;have c0:=HP.out.bs.cell;go_wp2_with fail
   go_loopw [5] (fun vi wr=> ∃(j:Nat) (acc:List FV) (C:Option Addr) (cap:Nat),vi= .int .i64 (j:Int)/\j<=m/\Hid (acc.map (·.c)=fs.take j)/\Hid (acc.length=j)/\Hid (PO 25 34 w (.slice A n c) (.slice B m d) vv (.slice C j cap) wr)/\Hid (iG 85 59 (QO w P) wr (w.heap.size+3) vv (.slice C j cap) vs acc)) (fun vi _=>m-(intOf vi).toNat)
   case atStart=>exact⟨0,[],none,0,rfl,aB _,G rfl,G rfl,HP,HO1⟩
   case round=>
    clear c0 HP HO1;obtain⟨j,acc,C,cap,rfl,hj,HM,HL,HP,HO⟩:=hrel;have c0:=HP.out.bs.cell;by_cases hlt:j<m
    ·have hlt':(j:Int)<m:=by omega
     have hjl:j<fs.length:=by have:=HNF.out;omega
     obtain⟨b,o,pv,bv,rfl,hb,h0,h1,h2,hRp,hRb⟩:=uk HF.out j hjl;have e0:=(HP.out.e.cell b _ hb).trans h0;have e1:=(HP.out.e.cell b _ hb).trans h1;have e2:=(HP.out.e.cell b _ hb).trans h2;have hbl:b<wr.heap.size:=aA hb HP.out.e.size;have HT:=G (show fs.take (j+1)=fs.take j++[fs[j]]from aT hjl);have hwx:=HBD.out _ (aq hjl);generalize fs[j]=x at*;have hlp: ∃A' c',pv= .slice A' x.ps.length c':=by obtain⟨A',c',hh,_⟩:=hRp;exact⟨A',c',hh⟩
     obtain⟨A3,c3,rfl⟩:=hlp;obtain⟨B3,d3,rfl,_⟩:=hRb.form;have HRp:=G hRp;have hrow:=World.ownsRow.lt HO.out.2.1;have hrow1:=World.ownsRow.lt HO.out.1;have HCB:=G (fun(W:World) (h:wr.grownBy W (Value.ownBlock (.slice C j cap)))=>DI hwx P W (.slice B3 x.body.length d3) (hRb.keep ⟨aM HP.out.e.size h.size,fun b _ hb=>(h.block b (aA hb HP.out.e.size) (fun e=>by have:=(hrow _ e.symm).1;omega)).trans (HP.out.e.obj hb)⟩ (fun _ hb _=>hb)));clear h0 h1 h2 hjl hRp hRb hwx;go_wp2_with fail;clear c0
     refine bM 24 12 [(20,fun v=> ∃A c,v= .slice A x.body.length c,fun v wx=>cL wx (fun b=>wr.heap.size<=b) v x.body),
       (22,fun v=> ∃gb,v= .slice (some ⟨gb,0,none⟩) 1 1,fun v wx=> ∃gb B4 d4,v= .slice (some ⟨gb,0,none⟩) 1 1/\wr.heap.size<=gb/\aS wx gb 59 #[.string (ai x.nm), .slice A3 x.ps.length c3, .slice B4 x.body.length d4]/\cL wx (fun b=>wr.heap.size<=b) (.slice B4 x.body.length d4) x.body),
       (23,fun v=> ∃A' cap',v= .slice (some ⟨A',0,none⟩) (j+1) cap',fun v wx=> ∃A' cap' B4 d4,v= .slice (some ⟨A',0,none⟩) (j+1) cap'/\wx.ownsRow (w.heap.size+3) 59 3 v (j+1) (gq acc++rQ ⟨x, .slice A3 x.ps.length c3, .slice B4 x.body.length d4⟩)/\(some A'=Value.ownBlock (.slice C j cap)\/wr.heap.size<=A')/\cL wx (fun b=>wr.heap.size<=b/\b≠A') (.slice B4 x.body.length d4) x.body)] 23 (Value.ownBlock (.slice C j cap)) mixed (by kernel_rfl)
      ⟨fun _ _ _ h hx=>h.keep (.of_ext hx) (fun _ hb _=>hb),fun _ _ _ h hx=>(let⟨gb,B4,d4,h1,h2,h3,h4⟩:=h;⟨gb,B4,d4,h1,h2,h3.ext hx,h4.keep (.of_ext hx) (fun _ hb _=>hb)⟩),fun _ _ _ h hx=>(let⟨A',cap',B4,d4,h1,h2,h3,h4⟩:=h;⟨A',cap',B4,d4,h1,World.ownsRow.kept h2 (hx.grownBy none) (.inr (by rw[h1];simp[Value.ownBlock])),h3,h4.keep (.of_ext hx) (fun _ hb _=>hb)⟩),trivial⟩
      ⟨.inr fun _ _ _ h hx=>h.keep (.of_grown hx fun b hb e=>by have:=(hrow _ e.symm).2;omega) (fun _ hb _=>hb), .inr fun _ _ _ h hx=>(let⟨gb,B4,d4,h1,h2,h3,h4⟩:=h;⟨gb,B4,d4,h1,h2,h3.grown hx (fun e=>by have:=(hrow _ e.symm).2;omega),h4.keep (.of_grown hx fun b hb e=>by have:=(hrow _ e.symm).2;omega) (fun _ hb _=>hb)⟩), .inl rfl,trivial⟩ ?_
     repeat (refine sx ?_ (fun w1 hU=> ?_) ?_;rotate_left;(focus have hpq:=HP.out.grown (aF hU) (fun k e=>(hrow k e).1);have f1:=hpq.bs.cell;have f2:=hpq.bo.cell;have hbk:=(aF hU).block b hbl (fun e=>by have:=(hrow _ e.symm).1;omega);have g0:=(World.cell?_of_block (w:=wr) (a:=⟨b,o+j*3,none⟩) hbk).trans e0;have g1:=(World.cell?_of_block (w:=wr) (a:=⟨b,o+j*3+1,none⟩) hbk).trans e1;have g2:=(World.cell?_of_block (w:=wr) (a:=⟨b,o+j*3+2,none⟩) hbk).trans e2;clear hU hpq hbk;go_simp<;>with_reducible rfl);simp only[aY,aX,aW,aV,aU])
     refine be _ _ (by rfl) rfl ⟨_,none,0,rfl⟩ (by simp) (fun w6 hU hp K hK=> ?_) ?_
     ·clear hp;have hc:=HCB.out w6 (aF hU);have hs:=(aF hU).size;clear hU;go_simp;refine hc.mono ?_;rintro e w7 ⟨hE,A4,c4,rfl,hR3⟩;exact hK _ _ hE ⟨_,_,rfl⟩ (hR3.mono (fun b hb _=>aM hs hb))
     rintro _ ⟨A4,c4,rfl⟩;simp only[aY,aX,aW,aV,aU];repeat (refine sx ?_ (fun w1 hU=> ?_) ?_;rotate_left;(focus go_simp<;>with_reducible rfl);simp only[aY,aX,aW,aV,aU])
     refine be _ _ (by rfl) rfl ⟨_,0,rfl⟩ (by simp) (fun w6 hU hp K hK=> ?_) ?_
     ·have h3:cL w6 (fun b=>wr.heap.size<=b) (.slice A4 x.body.length c4) x.body:=hp _ (.head _) (by kernel_rfl);have hs:=(aF hU).size;clear hU hp;go_simp;exact hK _ _ (O w6 _) ⟨_,rfl⟩ ⟨_,_,_,rfl,hs,ap w6 _ _,h3.keep (.of_ext (O w6 _)) (fun _ hb _=>hb)⟩
     rintro _ ⟨gb,rfl⟩;simp only[aY,aX,aW,aV,aU];refine bI _ _ (by rfl) rfl ⟨_,0,0,rfl⟩ rfl (fun w6 hT hp K hK=> ?_) ?_
     ·obtain⟨gb',B4,d4,hgb,hz,hB3,hR3⟩:=hp _ (.head _) (by kernel_rfl);injection hgb with hgb;injection hgb with hgb;injection hgb with hgb;subst hgb;have hO6:=HO.out.ext hT.un;have hs6:=(HP.out.ex hT.un).lt;have hs7:=hT.un.size;have hl8:=HL.out;clear hp hT;refine p_ Fi _ _ rfl (w.heap.size+3) _ j (gq acc) rfl (by have:=hO6.2.1;rw[hl8]at this;exact this) gb (rQ ⟨x, .slice A3 x.ps.length c3, .slice B4 x.body.length d4⟩) rfl hB3 rfl (Bb _ _ _ _ _ _ _) (by omega) (by decide) (by omega) ?_;intro A' cap' w9 hq1 hq2 hq3;exact hK _ _ hq2 ⟨_,_,rfl⟩ ⟨_,_,_,_,rfl,hq1,hq3.imp_right (fun e=>by omega),hR3.keep (.of_grown hq2 fun b hb e=>by have:=(hrow _ e.symm).2;omega) (fun b hb hlt=>⟨hb,fun e=>by rcases hq3 with hq3|hq3;(have:=(hrow _ hq3.symm).2;omega);omega⟩)⟩
     rintro _ ⟨A',cap',rfl⟩;simp only[aY,aX,aW,aV,aU];repeat (refine sx ?_ (fun w1 hU=> ?_) ?_;rotate_left;(focus go_simp<;>with_reducible rfl);simp only[aY,aX,aW,aV,aU])
     intro w8 hw8 hp;obtain⟨A2,cap2,B4,d4,hv2,hq1,hA,hR4⟩:=hp _ (.head _);injection hv2 with hv2 _ hv3;injection hv2 with hv2;injection hv2 with hv2;subst hv2 hv3;clear hp;simp only[ac,an];have hg8:=aF hw8;have hlw:=HP.out.lt;have HP8:=G (HP.out.grown hg8 (fun k e=>(hrow k e).1));have hok:FV.ok w8 (fun b=>QO w P b/\some b≠vv.ownBlock/\b≠A') ⟨x, .slice A3 x.ps.length c3, .slice B4 x.body.length d4⟩:=by
      refine⟨HRp.out.keep (.of_ext HP8.out.e) (fun b hb hlt=>⟨.inl ⟨hb,hlt⟩,fun e=>by have:=(hrow1 b e.symm).1;omega,fun e=>by rcases hA with hA|hA;(have:=(hrow _ hA.symm).1;omega);omega⟩),hR4.mono (fun b hb hlt=>⟨.inr (by omega),fun e=>by have:=(hrow1 b e.symm).2;omega,hb.2⟩)⟩
     have HO8:=G (HO.out.snocF hok HL.out hq1 hg8 hA);have HP9:=G (HP8.out.putF (.slice (some ⟨A',0,none⟩) (j+1) cap'));have HO9:=G (HO8.out.far (b:=w.heap.size+1+1) (i:=1) (by omega) (by omega) (.slice (some ⟨A',0,none⟩) (j+1) cap'));have HM9:=G (show(acc++[FV.mk x (.slice A3 x.ps.length c3) (.slice B4 x.body.length d4)]).map (·.c)=fs.take (j+1) by rw[HT.out,eb,HM.out];rfl);have HL9:=G (show(acc++[FV.mk x (.slice A3 x.ps.length c3) (.slice B4 x.body.length d4)]).length=j+1 by rw[aa,HL.out];rfl);have d0:=HP8.out.bo.cell;have z0:=HP8.out.bo.frozen;clear hw8 hg8 hq1 hA hrow hrow1 HO HP HO8 HT HM HL e0 e1 e2 hok hR4 hlw;go_wp2_with fail;go_roundw
     case rel=>exact⟨j+1,_,_,_,by go_num,by omega,HM9,HL9,HP9,HO9⟩
     case measure=>simp[intOf];omega
    ·have hlt': ¬(j:Int)<m:=by omega
     obtain⟨hrv,hrf⟩:=HO.out.rd (fun b hb=> .inr hb);rw[HM.out,br (by have:=HNF.out;omega)]at hrf;have hkk:=yD (xO (P:=P) (w:=w) (W:=wr) (b:=w.heap.size+1) (i:=0) vv (by omega) (by omega)) (xO (P:=P) (w:=w) (b:=w.heap.size+1) (i:=1) (.slice C j cap) (by omega) (by omega));have HRV:=G (hrv.keep hkk (Q:=fun b=>P b\/w.heap.size<=b) (fun b hb _=>by rcases hb with hb|hb;(exact .inl hb.1);(exact .inr (by omega))));have HRF:=G (hrf.keep hkk (Q:=fun b=>P b\/w.heap.size<=b) (fun b hb _=>by rcases hb with hb|hb;(exact .inl hb.1);(exact .inr (by omega))));have HE9:=G ((HP.out.e.set (p:=⟨w.heap.size+1,0,none⟩) (by show w.heap.size<=w.heap.size+1;omega) vv).set (p:=⟨w.heap.size+1,1,none⟩) (by show w.heap.size<=w.heap.size+1;omega) (.slice C j cap));have hB9:=(HP.out.bz.set 0 vv).set 1 (.slice C j cap);have hz9:=hB9.cell;have d0:=HP.out.bo.cell;have d1:=HP.out.bz.cell;have z1:=HP.out.bz.frozen;clear hrv hrf hkk HO HM HL hB9;have hvv:=HVV.out;subst hvv;go_wp2_with fail;refine bodyPost_ret (v:= .agg #[.slice _ _ _, .slice C j cap]) ?_ rfl ⟨HE9.out,_,_,_,_,_,_,rfl,HRV.out,HRF.out⟩;simp[results,results14,go_sem,hz9]
end
section
open Go.RowKit
def D0 (xs:List Ex):Prop:= ∀(P:Nat->Prop) (w:World) (u:Value),cJ w P u xs->Calls prog 65 #[u] w fun e w'=>(∃k:Int,e= .returned (.int .i64 k))/\au w w'
def DZ (xs:List St):Prop:= ∀(P:Nat->Prop) (w:World) (u:Value),cL w P u xs->Calls prog 34 #[u] w fun e w'=>(∃k:Int,e= .returned (.int .i64 k))/\au w w'
theorem xq (xs:List Ex) (hl:xs.length<=1073741824) (hIH: ∀x,x∈xs->D0 x.args):D0 xs:=by
 intro P w u hu;obtain⟨A,c,rfl,_⟩:=hu.form;obtain⟨n,hn⟩: ∃n,xs.length=n:=⟨_,rfl⟩
 rw[hn]at hu hl;rw[hn];have HN:=G hn;have HR:=G hu;have HI:=G hIH;clear hu hIH hn;go_enter func65,ntmps65;go_wp2_with fail
 go_loopw [3,4] (fun vo vi wr=> ∃(j:Nat) (k:Int),vi= .int .i64 (j:Int)/\vo= .int .i64 k/\j<=n/\Hid (au w wr)) (fun vo vi _=>n-(intOf vi).toNat)
 case atStart=>exact⟨0,0,rfl,rfl,aB _,G (aN w)⟩
 case round=>
  obtain⟨j,k,rfl,rfl,hj,HX⟩:=hrel;by_cases hlt:j<n
  ·have hlt':(j:Int)<n:=by omega
   have hjl:j<xs.length:=by have:=HN.out;omega
   obtain⟨b,o,a,rfl,hb,hP,h0,h1,h2,h3,h4,h5,hRa⟩:=HR.out.at_ j hjl;have hbl:b<wr.heap.size:=aA hb HX.out.size;have hIx:=HI.out _ (aq hjl);generalize xs[j]=x at*;have e5:=(HX.out.cell b _ hb).trans h5;obtain⟨A2,c2,rfl,_⟩:=hRa.form;have HC:=G (hIx P wr _ (hRa.keep (.of_ext HX.out) (fun b hb _=>hb)));clear h0 h1 h2 h3 h4 h5 hRa hIx;go_wp2_with (go_at_call 65;refine HC.out.mono ?_;rintro e w1 ⟨⟨q,rfl⟩,hE⟩;have HX1:=G (HX.out.trans hE);clear hE HC);go_roundw
   case rel=>exact⟨j+1,_,by go_num,rfl,by omega,HX1⟩
   case measure=>simp[intOf];omega
  ·have hlt': ¬(j:Int)<n:=by omega
   go_wp2_with fail;go_ret;exact⟨⟨_,rfl⟩,HX.out⟩
theorem ub: ∀(k:Nat) (xs:List Ex),fH xs<k->k<=1000000001->D0 xs
 |0,xs,h,_=>absurd h (gR _)
 |k+1,xs,h,hk=>xq xs (by have:=db xs;omega) (fun x hx=>ub k x.args (by have:=dB hx;have:=x.wt_eq;omega) (by omega))
theorem Ei {xs:List Ex} (h:fH xs<=1000000000):D0 xs:=ub _ xs (fB _) (by omega)
theorem xp (xs:List St) (hl:xs.length<=1073741824) (hIH: ∀x,x∈xs->D0 x.ex/\DZ x.body/\DZ x.els):DZ xs:=by
 intro P w u hu;obtain⟨A,c,rfl,_⟩:=hu.form;obtain⟨n,hn⟩: ∃n,xs.length=n:=⟨_,rfl⟩
 rw[hn]at hu hl;rw[hn];have HN:=G hn;have HR:=G hu;have HI:=G hIH;clear hu hIH hn;go_enter func34,ntmps34;go_wp2_with fail
 go_loopw [3,4] (fun vo vi wr=> ∃(j:Nat) (k:Int),vi= .int .i64 (j:Int)/\vo= .int .i64 k/\j<=n/\Hid (au w wr)) (fun vo vi _=>n-(intOf vi).toNat)
 case atStart=>exact⟨0,0,rfl,rfl,aB _,G (aN w)⟩
 case round=>
  obtain⟨j,k,rfl,rfl,hj,HX⟩:=hrel;by_cases hlt:j<n
  ·have hlt':(j:Int)<n:=by omega
   have hjl:j<xs.length:=by have:=HN.out;omega
   obtain⟨b,o,a,g,z,rfl,hb,hP,h0,h1,h2,h3,h4,hRa,hRb,hRc⟩:=HR.out.at_ j hjl;have hbl:b<wr.heap.size:=aA hb HX.out.size;have hIx:=HI.out _ (aq hjl);generalize xs[j]=x at*;have e2:=(HX.out.cell b _ hb).trans h2;have e3:=(HX.out.cell b _ hb).trans h3;have e4:=(HX.out.cell b _ hb).trans h4;obtain⟨A2,c2,rfl,_⟩:=hRa.form;obtain⟨B2,d2,rfl,_⟩:=hRb.form;obtain⟨C2,i2,rfl,_⟩:=hRc.form;have HC:=G (fun(W:World) (h:au wr W)=>hIx.1 P W _ (hRa.keep (.of_ext (HX.out.trans h)) (fun b hb _=>hb)));have HC1:=G (fun(W:World) (h:au wr W)=>hIx.2.1 P W _ (hRb.keep (.of_ext (HX.out.trans h)) (fun b hb _=>hb)));have HC2:=G (fun(W:World) (h:au wr W)=>hIx.2.2 P W _ (hRc.keep (.of_ext (HX.out.trans h)) (fun b hb _=>hb)));clear h0 h1 h2 h3 h4 hRa hRb hRc hIx;go_wp2_with fail;refine az 23 12 [(6,fun v=> ∃k:Int,v= .int .i64 k,fun _ _=>True),(13,fun v=> ∃k:Int,v= .int .i64 k,fun _ _=>True),(20,fun v=> ∃k:Int,v= .int .i64 k,fun _ _=>True)] mixed (by kernel_rfl)
    ⟨fun _ _ _ _ _=>trivial,fun _ _ _ _ _=>trivial,fun _ _ _ _ _=>trivial,trivial⟩ ?_
   repeat (refine sx ?_ (fun w1 hU=> ?_) ?_;rotate_left;(focus have g2:=(hU.un.cell b _ hbl).trans e2;clear hU;go_simp<;>with_reducible rfl);simp only[aY,aX,aW,aV,aU])
   refine be _ _ (by rfl) rfl ⟨_,0,rfl⟩ (by simp) (fun w6 hU hp K hK=> ?_) ?_
   ·have hc:=HC.out w6 hU.un;clear hp hU;go_simp;refine hc.mono ?_;rintro e w7 ⟨⟨q,rfl⟩,hE⟩;exact hK _ _ hE ⟨_,rfl⟩ trivial
   rintro _ ⟨k1,rfl⟩;simp only[aY,aX,aW,aV,aU];repeat (refine sx ?_ (fun w1 hU=> ?_) ?_;rotate_left;(focus have g3:=(hU.un.cell b _ hbl).trans e3;clear hU;go_simp<;>with_reducible rfl);simp only[aY,aX,aW,aV,aU])
   refine be _ _ (by rfl) rfl ⟨_,0,rfl⟩ (by simp) (fun w6 hU hp K hK=> ?_) ?_
   ·have hc:=HC1.out w6 hU.un;clear hp hU;go_simp;refine hc.mono ?_;rintro e w7 ⟨⟨q,rfl⟩,hE⟩;exact hK _ _ hE ⟨_,rfl⟩ trivial
   rintro _ ⟨k2,rfl⟩;simp only[aY,aX,aW,aV,aU];repeat (refine sx ?_ (fun w1 hU=> ?_) ?_;rotate_left;(focus have g4:=(hU.un.cell b _ hbl).trans e4;clear hU;go_simp<;>with_reducible rfl);simp only[aY,aX,aW,aV,aU])
   refine be _ _ (by rfl) rfl ⟨_,0,rfl⟩ (by simp) (fun w6 hU hp K hK=> ?_) ?_
   ·have hc:=HC2.out w6 hU.un;clear hp hU;go_simp;refine hc.mono ?_;rintro e w7 ⟨⟨q,rfl⟩,hE⟩;exact hK _ _ hE ⟨_,rfl⟩ trivial
   rintro _ ⟨k3,rfl⟩;simp only[aY,aX,aW,aV,aU];repeat (refine sx ?_ (fun w1 hU=> ?_) ?_;rotate_left;(focus go_simp<;>with_reducible rfl);simp only[aY,aX,aW,aV,aU])
   intro w8 hw8 hp;clear hp;simp only[ac,an];have HX8:=G (HX.out.trans hw8.un);clear hw8;go_wp2_with fail;go_roundw
   case rel=>exact⟨j+1,_,by go_num,rfl,by omega,HX8⟩
   case measure=>simp[intOf];omega
  ·have hlt': ¬(j:Int)<n:=by omega
   go_wp2_with fail;go_ret;exact⟨⟨_,rfl⟩,HX.out⟩
theorem qf: ∀(k:Nat) (xs:List St),eO xs<k->k<=1000000001->DZ xs
 |0,xs,h,_=>absurd h (gR _)
 |k+1,xs,h,hk=>xp xs (by have:=c_ xs;omega) (fun x hx=>⟨Ei (by have:=bJ hx;have:=x.wt_eq;omega),qf k x.body (by have:=bJ hx;have:=x.wt_eq;omega) (by omega),qf k x.els (by have:=bJ hx;have:=x.wt_eq;omega) (by omega)⟩)
theorem Eh {xs:List St} (h:eO xs<=1000000000):DZ xs:=qf _ xs (fB _) (by omega)
theorem Ba (p:Pg) (hv:p.vs.length<=1000000000) (hf:p.fs.length<=1000000000) (hb: ∀f,f∈p.fs->eO f.body<=1000000000) (P:Nat->Prop) (w:World) (A B:Option Addr) (n c m d:Nat) (hV:iO w P (.slice A n c) p.vs) (hF:ja w P (.slice B m d) p.fs):
  Calls prog 12 #[.agg #[.slice A n c, .slice B m d]] w fun e w'=>(∃b:Bool,e= .returned (.bool b))/\au w w':=by
 obtain⟨vs,fs⟩:=p;simp only at*;have hnv:n=vs.length:=by obtain⟨A',c',hh,_⟩:=hV;injection hh
 have hnf:m=fs.length:=by obtain⟨A',c',hh,_⟩:=hF;injection hh
 rw[<-hnv]at hv;rw[<-hnf]at hf;have HNF:=G hnf;have HF:=G hF;have HBD:=G hb;have HE0:=G (O w (.cells #[.slice A n c, .slice B m d] 25));have HB0:=G (ap w 25 #[.slice A n c, .slice B m d]);have hwr:IntKind.i64.wrap ((n:Int)+m)=n+m:=by simp[IntKind.wrap,IntKind.signed,IntKind.bits];omega
 clear hnv hnf hV hF hb;have c0:=HB0.out.cell;go_enter func12,ntmps12;go_wp2_with fail
 go_loopw [3,4] (fun vo vi wr=> ∃(j:Nat) (k:Int),vi= .int .i64 (j:Int)/\vo= .int .i64 k/\j<=m/\Hid (au w wr)/\Hid (aS wr w.heap.size 25 #[.slice A n c, .slice B m d])) (fun vo vi _=>m-(intOf vi).toNat)
 case atStart=>exact⟨0,0,rfl,rfl,aB _,HE0,HB0⟩
 case round=>
  clear c0 HE0 HB0;obtain⟨j,k,rfl,rfl,hj,HX,HB⟩:=hrel;have c0:=HB.out.cell;by_cases hlt:j<m
  ·have hlt':(j:Int)<m:=by omega
   have hjl:j<fs.length:=by have:=HNF.out;omega
   obtain⟨b,o,pv,bv,rfl,hb,h0,h1,h2,hRp,hRb⟩:=uk HF.out j hjl;have e1:=(HX.out.cell b _ hb).trans h1;have e2:=(HX.out.cell b _ hb).trans h2;have hbl:b<wr.heap.size:=aA hb HX.out.size;have hwx:=HBD.out _ (aq hjl);generalize fs[j]=x at*;have hlp: ∃A' c',pv= .slice A' x.ps.length c':=by obtain⟨A',c',hh,_⟩:=hRp;exact⟨A',c',hh⟩
   obtain⟨A3,c3,rfl⟩:=hlp;obtain⟨B3,d3,rfl,_⟩:=hRb.form;have HC:=G (fun(W:World) (h:au wr W)=>Eh hwx P W _ (hRb.keep (.of_ext (HX.out.trans h)) (fun b hb _=>hb)));clear h0 h1 h2 hRp hRb hwx;go_wp2_with fail;clear c0;refine az 17 12 [(14,fun v=> ∃k:Int,v= .int .i64 k,fun _ _=>True)] mixed (by kernel_rfl) ⟨fun _ _ _ _ _=>trivial,trivial⟩ ?_;repeat (refine sx ?_ (fun w1 hU=> ?_) ?_;rotate_left;(focus have f1:=(HB.out.ext hU.un).cell;have g1:=(hU.un.cell b _ hbl).trans e1;have g2:=(hU.un.cell b _ hbl).trans e2;clear hU;go_simp<;>with_reducible rfl);simp only[aY,aX,aW,aV,aU])
   refine be _ _ (by rfl) rfl ⟨_,0,rfl⟩ (by simp) (fun w6 hU hp K hK=> ?_) ?_
   ·have hc:=HC.out w6 hU.un;clear hp hU;go_simp;refine hc.mono ?_;rintro e w7 ⟨⟨q,rfl⟩,hE⟩;exact hK _ _ hE ⟨_,rfl⟩ trivial
   rintro _ ⟨k1,rfl⟩;simp only[aY,aX,aW,aV,aU];repeat (refine sx ?_ (fun w1 hU=> ?_) ?_;rotate_left;(focus go_simp<;>with_reducible rfl);simp only[aY,aX,aW,aV,aU])
   intro w8 hw8 hp;clear hp;simp only[ac,an];have HX8:=G (HX.out.trans hw8.un);have HB8:=G (HB.out.ext hw8.un);clear hw8;go_wp2_with fail;go_roundw
   case rel=>exact⟨j+1,_,by go_num,rfl,by omega,HX8,HB8⟩
   case measure=>simp[intOf];omega
  ·have hlt': ¬(j:Int)<m:=by omega
   by_cases h1:(n:Int)+m<=60
   ·by_cases h2:k<=600
    ·go_wp2_with fail;go_ret;first|exact⟨.inl rfl,HX.out⟩|exact⟨.inr rfl,HX.out⟩
    ·go_wp2_with fail;go_ret;first|exact⟨.inl rfl,HX.out⟩|exact⟨.inr rfl,HX.out⟩
   ·go_wp2_with fail;go_ret;first|exact⟨.inl rfl,HX.out⟩|exact⟨.inr rfl,HX.out⟩
end
section
open Go.RowKit
def jV (w0:World) (t:TypeId) (cs:Array Value) (v:Value) (w:World):Prop:= ∃g,v= .pointer (some ⟨g,0,none⟩)/\w0.heap.size<=g/\aS w g t cs
theorem jV.ext {w0:World} {t:TypeId} {cs:Array Value} {v:Value} {w w':World} (h:jV w0 t cs v w) (he:au w w'):jV w0 t cs v w':=let⟨g,h1,h2,h3⟩:=h;⟨g,h1,h2,h3.ext he⟩
theorem jV.old {w0:World} {t:TypeId} {cs:Array Value}: ∀(v:Value) (w:World),jV w0 t cs v w-> ∀g,pB v=some g->g<w.heap.size:=fun v w ⟨g,h1,_,h3⟩ k hk=>by
 subst h1;injection hk with hk;subst hk;exact h3.lt
theorem jV.at_ {w0 w:World} {t:TypeId} {cs:Array Value} {g:Nat} (h:jV w0 t cs (.pointer (some ⟨g,0,none⟩)) w):w0.heap.size<=g/\aS w g t cs:=by
 obtain⟨k,h1,h2,h3⟩:=h;injection h1 with h1;injection h1 with h1;injection h1 with h1;subst h1;exact⟨h2,h3⟩
def Ed (v:Value):Prop:= ∃g,v= .pointer (some ⟨g,0,none⟩)
theorem AF {w:World} {n:Nat} (h:w.heap.size=n): ∀g,pB (.pointer (some ⟨n,0,none⟩))=some g->w.heap.size<=g:=fun g hg=>by
 have hg:some n=some g:=hg;injection hg with hg;omega
theorem jw {W w:World} {g:Nat} (h:au W w) (hg:W.heap.size<=g) (vs:List Value):au W (w.setCells g 0 vs):=h.grown (cZ g vs 0 w) (fun k e=>by injection e with e;omega)
end
section
open Go.RowKit
end
section
open Go.RowKit
theorem xW (p:Pg):p.vs.length<=jk p:=by
 have:=io (fun _:Vr=>1) (fun v=>v.nm.length+1) p.vs (fun v _=>by omega);rw[fE]at this;unfold jk;omega
theorem xZ (p:Pg):p.fs.length<=jk p:=by
 have:=io (fun _:Fc=>1) (fun f=>f.wt+1) p.fs (fun v _=>by omega);rw[fE]at this;unfold jk;omega
theorem BR {p:Pg} {f:Fc} (h:f∈p.fs):eO f.body<=jk p:=by
 have:=mZ h;have:eO f.body<=f.wt:=by unfold Fc.wt;omega
 omega
theorem yf {p:Pg} (hw:jk p<=6000000) {P:Nat->Prop} {w:World} {A B:Option Addr} {n c m d:Nat} (hV:iO w P (.slice A n c) p.vs) (hF:ja w P (.slice B m d) p.fs):
  Calls prog 14 #[.agg #[.slice A n c, .slice B m d]] w fun e w'=>au w w'/\ ∃A' n' c' B' m' d',e= .returned (.agg #[.slice A' n' c', .slice B' m' d'])/\iO w' (fun _=>True) (.slice A' n' c') p.vs/\ja w' (fun _=>True) (.slice B' m' d') p.fs:=by
 refine(Aw p (by have:=xW p;omega) (by have:=xZ p;omega) (fun f hf=>by have:=BR hf;omega) P w A B n c m d hV hF).mono fun e w' hh=> ?_;obtain⟨hE,A',n',c',B',m',d',he,h1,h2⟩:=hh;exact⟨hE,A',n',c',B',m',d',he,h1.keep ⟨ah _,fun _ _ _=>rfl⟩ (fun _ _ _=>trivial),h2.keep ⟨ah _,fun _ _ _=>rfl⟩ (fun _ _ _=>trivial)⟩
theorem BX {p:Pg} (hw:jk p<=6000000) {P:Nat->Prop} {w:World} {A B:Option Addr} {n c m d:Nat} (hV:iO w P (.slice A n c) p.vs) (hF:ja w P (.slice B m d) p.fs):
  Calls prog 12 #[.agg #[.slice A n c, .slice B m d]] w fun e w'=>(∃b:Bool,e= .returned (.bool b))/\au w w':=
 Ba p (by have:=xW p;omega) (by have:=xZ p;omega) (fun f hf=>by have:=BR hf;omega) P w A B n c m d hV hF
def oT:=@jV.old
def oU:=@jV.at_
end
end Go.Proofs.YtddomeddabfinaaGreatDoor
