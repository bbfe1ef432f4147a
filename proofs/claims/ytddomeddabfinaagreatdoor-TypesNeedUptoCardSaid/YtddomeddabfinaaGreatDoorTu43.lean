/-
  Parts of the proof: SrG OwnA OwnB Few EqR EqQ Peq RcP RcA RcB RcC RcD.
-/
import Derived.Test.YtddomeddabfinaaGreatDoorTu00
import Derived.Test.YtddomeddabfinaaGreatDoorTu42
import Derived.Test.YtddomeddabfinaaGreatDoorTu28
import Derived.Test.YtddomeddabfinaaGreatDoorTu09
import Derived.Test.YtddomeddabfinaaGreatDoorTu19
import Derived.Test.YtddomeddabfinaaGreatDoorTu33
import Derived.Test.YtddomeddabfinaaGreatDoorTu01
import Derived.Test.YtddomeddabfinaaGreatDoorTu35
import Derived.Test.YtddomeddabfinaaGreatDoorTu18
import Derived.Test.YtddomeddabfinaaGreatDoorTu27
import Derived.Test.YtddomeddabfinaaGreatDoorTu17
import Derived.Test.YtddomeddabfinaaGreatDoorTu06
set_option maxRecDepth 100000
set_option maxHeartbeats 8000000
set_option linter.unusedVariables false
set_option linter.unusedSimpArgs false
set_option linter.defProp false
set_option linter.unusedSectionVars false
namespace Go.Proofs.YtddomeddabfinaaGreatDoor
open Go.Proofs.Tryz
section
open Go.RowKit
theorem CL (w:World) (A B:Option Addr) (n c m d:Nat) (hV:fH w (fun _=>True) (.slice A n c) j'.vs) (hF:fO w (fun _=>True) (.slice B m d) j'.fs) (hT:dn w w.heap.size) (hB:BT w):
  Calls prog 17 #[.agg #[.slice A n c, .slice B m d], .slice none 0 0, .int .i64 100] w fun e w'=>au w w'/\ ∃A c,e= .returned (.tuple #[za (zN true) A c, .int .i64 0]):=by
 have hm:m=1:=by obtain⟨A',c',e,_⟩:=hF;injection e
 subst hm;refine uw true j' xY yn 6 [] [.mk 1 [] [] [] 300 []] rfl (.inl rfl) rfl (by decide+kernel) (by decide+kernel) (100-1-1) w A B n c d hV hF hT hB ?_;intro g bf bi ba fb lb a W A1 A2 A3 n1 c1 n2 c2 n3 c3 _ hg _ _ hgf hb hf hR;refine(yw g fb lb bf bi ba 100 32 (ag []) A1 n1 c1 A2 A3 n2 c2 n3 c3 _ 300 [] W (by decide) (by decide) (by decide) hb hf hgf hR (fun b hb=>by omega)).mono ?_;rintro e w' ⟨rfl,h⟩;exact .ok h
theorem CJ (w:World) (A B:Option Addr) (n c m d:Nat) (hV:fH w (fun _=>True) (.slice A n c) js.vs) (hF:fO w (fun _=>True) (.slice B m d) js.fs) (hT:dn w w.heap.size) (hB:BT w):
  Calls prog 17 #[.agg #[.slice A n c, .slice B m d], .slice none 0 0, .int .i64 100] w fun e w'=>au w w'/\ ∃A c,e= .returned (.tuple #[za (zN false) A c, .int .i64 0]):=by
 have hm:m=1:=by obtain⟨A',c',e,_⟩:=hF;injection e
 subst hm;refine uw false js xX ym 3 [97] [.mk 1 [] [] [] 3 [], .mk 1 [] [] [] 1 []] rfl (.inr rfl) rfl (by decide+kernel) (by decide+kernel) (100-1-1-1) w A B n c d hV hF hT hB ?_;intro g bf bi ba fb lb a W A1 A2 A3 n1 c1 n2 c2 n3 c3 ha hg hm hn hgf hb hf hR;obtain⟨E,ce,ha⟩:=ha.resolve_left (by decide+kernel);refine(yx g fb bf bi ba 100 32 [97] (by decide) A1 n1 c1 A2 A3 n2 c2 n3 c3 _ 3 1 [] E 3 ce a W (by decide) (by decide) (by decide) (by decide) (by decide) (by decide) (by decide) hb hm ha hn hR (fun b hb=>by omega)).mono ?_;rintro e w' ⟨rfl,h⟩;exact .bad h
theorem nX (w:World) (hz:EZ w) (ht:dn w w.heap.size) (hB:BT w):Calls prog 11 #[] w fun e w'=>e= .returned (.bool true)/\au w w':=by
 have HZ:=G hz;have HT:=G ht;have HB:=G hB;have HP1:=G (show Calls prog 32 #[.string ⟨#[102,117,110,99,32,109,97,105,110,40,41,32,123,32,114,101,116,117,114,110,32,51,48,48,59,32,125]⟩] w fun e w'=>au w w'/\ ∃A n c B m d,e= .returned (.tuple #[.agg #[.slice A n c, .slice B m d], .int .i64 0, .int .i64 0])/\fH w' (fun _=>True) (.slice A n c) j'.vs/\fO w' (fun _=>True) (.slice B m d) j'.fs from yX w hz ht);have HP2:=G (show ∀W,au w W->Calls prog 32 #[.string ⟨#[118,97,114,32,97,91,51,93,59,32,102,117,110,99,32,109,97,105,110,40,41,32,123,32,97,91,51,93,32,61,32,49,59,32,125]⟩] W fun e w'=>au W w'/\ ∃A n c B m d,e= .returned (.tuple #[.agg #[.slice A n c, .slice B m d], .int .i64 0, .int .i64 0])/\fH w' (fun _=>True) (.slice A n c) js.vs/\fO w' (fun _=>True) (.slice B m d) js.fs from fun W hE=>yW W (hz.ext hE) (fh ht hE));have HR1:=G (show ∀(W:World) (A B:Option Addr) (n c m d:Nat),au w W->fH W (fun _=>True) (.slice A n c) j'.vs->fO W (fun _=>True) (.slice B m d) j'.fs->Calls prog 17 #[.agg #[.slice A n c, .slice B m d], .slice none 0 0, .int .i64 100] W fun e w'=>au W w'/\ ∃A c,e= .returned (.tuple #[.agg #[.int .i64 1, .int .i64 0, .int .i64 44, .int .i64 0, .int .i64 0, .slice A 0 c, .int .i64 0], .int .i64 0])from fun W A B n c m d hE hV hF=>CL W A B n c m d hV hF (fh ht hE) (hB.ext hE))
 have HR2:=G (show ∀(W:World) (A B:Option Addr) (n c m d:Nat),au w W->fH W (fun _=>True) (.slice A n c) js.vs->fO W (fun _=>True) (.slice B m d) js.fs->Calls prog 17 #[.agg #[.slice A n c, .slice B m d], .slice none 0 0, .int .i64 100] W fun e w'=>au W w'/\ ∃(x1 x2 x3 x4:Int) (x5:Option Addr) (x6 x7:Nat) (x8:Int),e= .returned (.tuple #[.agg #[.int .i64 2, .int .i64 x1, .int .i64 x2, .int .i64 x3, .int .i64 x4, .slice x5 x6 x7, .int .i64 x8], .int .i64 0])from fun W A B n c m d hE hV hF=>by
  refine(CJ W A B n c m d hV hF (fh ht hE) (hB.ext hE)).mono fun e w' hh=> ?_;obtain⟨h1,A,c,h2⟩:=hh
  exact⟨h1,_,_,_,_,_,_,_,_,h2⟩)
 have HQ:=G (fun W=>CU 44 0 0 44 0 0 W);generalize j'.vs=vs at*;generalize j'.fs=fs at*;generalize js.vs=vt at*;generalize js.fs=ft at*;clear hz ht hB;go_enter func11,ntmps11
 go_upto_region 2 with(go_at_call 32;refine HP1.out.mono ?_;rintro e w1 ⟨hE,A,n,c,B,m,d,rfl,hV,hF⟩;have hE1:=O w1 (.cells #[.slice A n c, .slice B m d] 34);have HX1:=G (hE.trans hE1);have HB1:=G (ax w1 34 #[.slice A n c, .slice B m d]);have HV1:=G (hV.keep (.of_ext hE1) (Q:=fun _=>True) (fun _ hb _=>hb));have HF1:=G (hF.keep (.of_ext hE1) (Q:=fun _=>True) (fun _ hb _=>hb));clear hE hV hF hE1 HP1)
 generalize w1.alloc (.cells #[.slice A n c, .slice B m d] 34)=W1 at*
 go_upto_region 3 with(go_at_call 32;refine(HP2.out _ HX1.out).mono ?_;rintro e w2 ⟨hE,A2,n2,c2,B2,m2,d2,rfl,hV,hF⟩;have hE1:=O w2 (.cells #[.slice A2 n2 c2, .slice B2 m2 d2] 34);have HX2:=G (HX1.out.trans (hE.trans hE1));have HB2:=G (ax w2 34 #[.slice A2 n2 c2, .slice B2 m2 d2]);have HB1a:=G (HB1.out.ext (hE.trans hE1));have HV1a:=G (HV1.out.keep (.of_ext (hE.trans hE1)) (Q:=fun _=>True) (fun _ hb _=>hb));have HF1a:=G (HF1.out.keep (.of_ext (hE.trans hE1)) (Q:=fun _=>True) (fun _ hb _=>hb));have HV2:=G (hV.keep (.of_ext hE1) (Q:=fun _=>True) (fun _ hb _=>hb));have HF2:=G (hF.keep (.of_ext hE1) (Q:=fun _=>True) (fun _ hb _=>hb));clear hE hV hF hE1 HP2 HB1 HV1 HF1 HX1)
 generalize w2.alloc (.cells #[.slice A2 n2 c2, .slice B2 m2 d2] 34)=W2 at*;have c1:=HB1a.out.cell
 go_upto_region 4 with(go_at_call 17;refine(HR1.out _ _ _ _ _ _ _ HX2.out HV1a.out HF1a.out).mono ?_;rintro e w3 ⟨hE,A3,c3,rfl⟩;have hE1:=O w3 (.cells #[.int .i64 1, .int .i64 0, .int .i64 44, .int .i64 0, .int .i64 0, .slice A3 0 c3, .int .i64 0] 42);have HX3:=G (HX2.out.trans (hE.trans hE1));have HB3:=G (ax w3 42 #[.int .i64 1, .int .i64 0, .int .i64 44, .int .i64 0, .int .i64 0, .slice A3 0 c3, .int .i64 0]);have HB2a:=G (HB2.out.ext (hE.trans hE1));have HV2a:=G (HV2.out.keep (.of_ext (hE.trans hE1)) (Q:=fun _=>True) (fun _ hb _=>hb));have HF2a:=G (HF2.out.keep (.of_ext (hE.trans hE1)) (Q:=fun _=>True) (fun _ hb _=>hb));clear hE hE1 HR1 HB2 HV2 HF2 HX2 c1 HB1a HV1a HF1a)
 generalize w3.alloc (.cells #[.int .i64 1, .int .i64 0, .int .i64 44, .int .i64 0, .int .i64 0, .slice A3 0 c3, .int .i64 0] 42)=W3 at*;have c2':=HB2a.out.cell
 go_upto_region 5 with(go_at_call 17;refine(HR2.out _ _ _ _ _ _ _ HX3.out HV2a.out HF2a.out).mono ?_;rintro e w4 ⟨hE,x1,x2,x3,x4,x5,x6,x7,x8,rfl⟩;have hE1:=O w4 (.cells #[.int .i64 2, .int .i64 x1, .int .i64 x2, .int .i64 x3, .int .i64 x4, .slice x5 x6 x7, .int .i64 x8] 42);have HX4:=G (HX3.out.trans (hE.trans hE1));have HB4:=G (ax w4 42 #[.int .i64 2, .int .i64 x1, .int .i64 x2, .int .i64 x3, .int .i64 x4, .slice x5 x6 x7, .int .i64 x8]);have HB3a:=G (HB3.out.ext (hE.trans hE1));clear hE hE1 HR2 HB3 HX3 c2' HB2a HV2a HF2a)
 generalize w4.alloc (.cells #[.int .i64 2, .int .i64 x1, .int .i64 x2, .int .i64 x3, .int .i64 x4, .slice x5 x6 x7, .int .i64 x8] 42)=W4 at*;have c3':=HB3a.out.cell;have c4':=HB4.out.cell;have q:=HQ.out W4;go_wp2_with fail;go_ret;exact⟨uB (by simp),HX4.out⟩
end
section
open Go.RowKit
def uW (xs:List Ex):Prop:= ∀(P:Nat->Prop) (w:World) (u:Value),b8 w P u xs->Calls prog 76 #[u] w fun e w'=>au w w'/\ ∃A c,e= .returned (.slice A xs.length c)/\b8 w' (fun b=>w.heap.size<=b) (.slice A xs.length c) xs
def uV (xs:List St):Prop:= ∀(P:Nat->Prop) (w:World) (u:Value),cM w P u xs->Calls prog 38 #[u] w fun e w'=>au w w'/\ ∃A c,e= .returned (.slice A xs.length c)/\cM w' (fun b=>w.heap.size<=b) (.slice A xs.length c) xs
theorem s_ (xs:List Ex) (hl:xs.length<=1073741824) (hIH: ∀x,x∈xs->uW x.args):uW xs:=by
 intro P w u hu;obtain⟨A,c,rfl,_⟩:=hu.form;obtain⟨n,hn⟩: ∃n,xs.length=n:=⟨_,rfl⟩
 rw[hn]at hu⊢;rw[hn]at hl;have HN:=G hn;have HR:=G hu;have HI:=G hIH;clear hu hIH hn;go_enter func76,ntmps76;go_wp2_with fail
 go_loopw [3,4] (fun vo vi wr=> ∃(j:Nat) (acc:List (Ex×Value)) (C:Option Addr) (cap:Nat),vi= .int .i64 (j:Int)/\vo= .slice C j cap/\j<=n/\Hid (acc.map (·.1)=xs.take j)/\Hid (acc.length=j)/\Hid (gT wr w.heap.size 70 (.slice C j cap) acc)/\Hid (au w wr)) (fun vo vi _=>n-(intOf vi).toNat)
 case atStart=>exact⟨0,[],none,0,rfl,rfl,az _,G rfl,G rfl,G (n9 _ _ _),G (aH w)⟩
 case round=>
  obtain⟨j,acc,C,cap,rfl,rfl,hj,HM,HL,HO,HX⟩:=hrel;by_cases hlt:j<n
  ·have hlt':(j:Int)<n:=by omega
   have hjl:j<xs.length:=by have:=HN.out;omega
   obtain⟨b,o,a,rfl,hb,hP,h0,h1,h2,h3,h4,h5,hRa⟩:=HR.out.at_ j hjl;have hbl:b<wr.heap.size:=aF hb HX.out.size;have HT:=G (show xs.take (j+1)=xs.take j++[xs[j]]from aD hjl);have hIx:=HI.out _ (ai hjl);generalize xs[j]=x at*;have e0:=(HX.out.cell b _ hb).trans h0;have e1:=(HX.out.cell b _ hb).trans h1;have e2:=(HX.out.cell b _ hb).trans h2;have e3:=(HX.out.cell b _ hb).trans h3;have e4:=(HX.out.cell b _ hb).trans h4;have e5:=(HX.out.cell b _ hb).trans h5;obtain⟨A2,c2,rfl,_⟩:=hRa.form;have HRa:=G (hRa.keep (.of_ext HX.out) (Q:=P) (fun b hb _=>hb));have HIx:=G hIx;have HB:=G (ax wr 75 #[.int .i64 x.k, .string (ag x.op), .string (ag x.nm), .string (ag x.tx), .int .i64 x.v, .slice A2 x.args.length c2]);have hx1:=O wr (.cells #[.int .i64 x.k, .string (ag x.op), .string (ag x.nm), .string (ag x.tx), .int .i64 x.v, .slice A2 x.args.length c2] 75);have HX1:=G hx1;clear h0 h1 h2 h3 h4 h5 hRa hIx hx1;go_wp2_with fail;clear e0 e1 e2 e3 e4 e5
   refine am 16 12 [(13,fun v=> ∃A c,v= .slice A x.args.length c,fun v wx=>b8 wx (fun b=>wr.heap.size<=b) v x.args),
     (15,fun v=> ∃gb,v= .slice (some ⟨gb,0,none⟩) 1 1,fun v wx=> ∃gb A c,v= .slice (some ⟨gb,0,none⟩) 1 1/\wr.heap.size<=gb/\aO wx gb 70 #[.int .i64 x.k, .string (ag x.op), .string (ag x.nm), .string (ag x.tx), .int .i64 x.v, .slice A x.args.length c]/\b8 wx (fun b=>wr.heap.size<=b) (.slice A x.args.length c) x.args)] mixed (by kernel_rfl)
    ⟨fun _ _ _ h hx=>h.keep (.of_ext hx) (fun _ hb _=>hb),fun _ _ _ h hx=>(let⟨gb,A,c,h1,h2,h3,h4⟩:=h;⟨gb,A,c,h1,h2,h3.ext hx,h4.keep (.of_ext hx) (fun _ hb _=>hb)⟩),trivial⟩ ?_
   repeat (refine sx ?_ (fun w1 hU=> ?_) ?_;rotate_left;(focus have f1:=(HB.out.ext hU.un).cell;clear hU;go_simp<;>with_reducible rfl);simp only[aU,aT,aS,aR,aQ])
   refine b6 _ _ (by rfl) rfl ⟨_,none,0,rfl⟩ (by simp) (fun w6 hU hp K hK=> ?_) ?_
   ·clear hp;have hE6:=HX1.out.trans hU.un;have hc:=HIx.out P w6 _ (HRa.out.keep (.of_ext hE6) (fun _ hb _=>hb));have hs:=hE6.size;clear hU hE6;go_simp;refine hc.mono ?_;rintro e w7 ⟨hE,A3,c3,rfl,hR3⟩;exact hK _ _ hE ⟨_,_,rfl⟩ (hR3.mono (fun b hb _=>a_ hs hb))
   rintro _ ⟨A3,c3,rfl⟩;simp only[aU,aT,aS,aR,aQ];repeat (refine sx ?_ (fun w1 hU=> ?_) ?_;rotate_left;(focus go_simp<;>with_reducible rfl);simp only[aU,aT,aS,aR,aQ])
   refine b6 _ _ (by rfl) rfl ⟨_,0,rfl⟩ (by simp) (fun w6 hU hp K hK=> ?_) ?_
   ·have h3:b8 w6 (fun b=>wr.heap.size<=b) (.slice A3 x.args.length c3) x.args:=hp _ (.head _) (by kernel_rfl);have hs:=(HX1.out.trans hU.un).size;clear hU hp;go_simp;exact hK _ _ (O w6 _) ⟨_,rfl⟩ ⟨_,_,_,rfl,hs,ax w6 _ _,h3.keep (.of_ext (O w6 _)) (fun _ hb _=>hb)⟩
   rintro _ ⟨gb,rfl⟩;simp only[aU,aT,aS,aR,aQ];intro w8 hw8 hp;obtain⟨gb',A4,c4,hgb,hz,hB3,hR3⟩:=hp _ (.head _);injection hgb with hgb;injection hgb with hgb;injection hgb with hgb;subst hgb;clear hp;simp only[ab,ap];have hE8:=HX1.out.trans hw8.un;have HX8:=G (HX.out.trans hE8);have hO8:=HO.out.ext hE8;have hrow:=World.ownsRow.lt HO.out.1;have hs8:=HX8.out.size;have HR3:=G (hR3.mono (Q:=fun b=>w.heap.size<=b/\some b≠Value.ownBlock (.slice C j cap)) (fun b hb _=>⟨a_ HX.out.size hb,fun e=>by have:=(hrow b e.symm).2;omega⟩));clear hw8 hE8 hR3;have hl8:=HL.out;refine ec CA rfl _ _ rfl w.heap.size _ j (iF acc) rfl (by have:=hO8.1;rw[hl8]at this;exact this) gb (tQ x (.slice A4 x.args.length c4)) rfl hB3 rfl (si _ _ _ _) (by omega) (by decide) hs8 ?_;intro A' cap' w9 hq1 hq2 hq3;have HO9:=G (hO8.snoc HR3.out (by rw[hl8];exact hq1) hq2 hq3);rw[hl8]at HO9;have HX9:=G (HX8.out.grown hq2 (fun k e=>(hrow k e).1));have HM9:=G (show(acc++[(x,Value.slice A4 x.args.length c4)]).map (·.1)=xs.take (j+1) by rw[HT.out,fY,HM.out];rfl);have HL9:=G (show(acc++[(x,Value.slice A4 x.args.length c4)]).length=j+1 by rw[aa,hl8];rfl);clear hq1 hq2 hq3 hO8 hB3 HR3 hrow HM HL hl8 HT;go_wp2_with fail;go_roundw
   case rel=>exact⟨j+1,_,_,_,by go_num,rfl,by omega,HM9,HL9,HO9,HX9⟩
   case measure=>simp[intOf];omega
  ·have hlt': ¬(j:Int)<n:=by omega
   have hjn:j=n:=by omega
   subst hjn
   have HQ:=G (show b8 wr (fun b=>w.heap.size<=b) (.slice C j cap) xs by
    have:=HO.out.rd;rw[HM.out,aJ (by have:=HN.out;omega)]at this
    exact this)
   clear HO HM HL;go_wp2_with fail;go_ret;exact⟨HX.out,C,cap,rfl,HQ.out⟩
theorem pJ: ∀(k:Nat) (xs:List Ex),gt xs<k->k<=1000000001->uW xs
 |0,xs,h,_=>absurd h (eg _)
 |k+1,xs,h,hk=>s_ xs (by have:=bF xs;omega) (fun x hx=>pJ k x.args (by have:=bX hx;have:=x.wt_eq;omega) (by omega))
theorem AD {xs:List Ex} (h:gt xs<=1000000000):uW xs:=pJ _ xs (eH _) (by omega)
theorem s8 (xs:List St) (hl:xs.length<=1073741824) (hIH: ∀x,x∈xs->uW x.ex/\uV x.body/\uV x.els):uV xs:=by
 intro P w u hu;obtain⟨A,c,rfl,_⟩:=hu.form;obtain⟨n,hn⟩: ∃n,xs.length=n:=⟨_,rfl⟩
 rw[hn]at hu⊢;rw[hn]at hl;have HN:=G hn;have HR:=G hu;have HI:=G hIH;clear hu hIH hn;go_enter func38,ntmps38;go_wp2_with fail
 go_loopw [3,4] (fun vo vi wr=> ∃(j:Nat) (acc:List SV) (C:Option Addr) (cap:Nat),vi= .int .i64 (j:Int)/\vo= .slice C j cap/\j<=n/\Hid (acc.map (·.s)=xs.take j)/\Hid (acc.length=j)/\Hid (fV wr w.heap.size 72 (.slice C j cap) acc)/\Hid (au w wr)) (fun vo vi _=>n-(intOf vi).toNat)
 case atStart=>exact⟨0,[],none,0,rfl,rfl,az _,G rfl,G rfl,G (fV.nil_ _ _ _),G (aH w)⟩
 case round=>
  obtain⟨j,acc,C,cap,rfl,rfl,hj,HM,HL,HO,HX⟩:=hrel;by_cases hlt:j<n
  ·have hlt':(j:Int)<n:=by omega
   have hjl:j<xs.length:=by have:=HN.out;omega
   obtain⟨b,o,a,g,z,rfl,hb,hP,h0,h1,h2,h3,h4,hRa,hRb,hRc⟩:=HR.out.at_ j hjl;have hbl:b<wr.heap.size:=aF hb HX.out.size;have HT:=G (show xs.take (j+1)=xs.take j++[xs[j]]from aD hjl);have hIx:=HI.out _ (ai hjl);generalize xs[j]=x at*;have e0:=(HX.out.cell b _ hb).trans h0;have e1:=(HX.out.cell b _ hb).trans h1;have e2:=(HX.out.cell b _ hb).trans h2;have e3:=(HX.out.cell b _ hb).trans h3;have e4:=(HX.out.cell b _ hb).trans h4;obtain⟨A2,c2,rfl,_⟩:=hRa.form;obtain⟨B2,d2,rfl,_⟩:=hRb.form;obtain⟨C2,i2,rfl,_⟩:=hRc.form;have HRa:=G (hRa.keep (.of_ext HX.out) (Q:=P) (fun b hb _=>hb));have HRb:=G (hRb.keep (.of_ext HX.out) (Q:=P) (fun b hb _=>hb));have HRc:=G (hRc.keep (.of_ext HX.out) (Q:=P) (fun b hb _=>hb));have HIx:=G hIx;have HB:=G (ax wr 66 #[.int .i64 x.k, .string (ag x.nm), .slice A2 x.ex.length c2, .slice B2 x.body.length d2, .slice C2 x.els.length i2]);have hx1:=O wr (.cells #[.int .i64 x.k, .string (ag x.nm), .slice A2 x.ex.length c2, .slice B2 x.body.length d2, .slice C2 x.els.length i2] 66);have HX1:=G hx1;clear h0 h1 h2 h3 h4 hRa hRb hRc hIx hx1;go_wp2_with fail;clear e0 e1 e2 e3 e4
   refine am 16 12 [(7,fun v=> ∃A c,v= .slice A x.ex.length c,fun v wx=>b8 wx (fun b=>wr.heap.size<=b) v x.ex),
     (10,fun v=> ∃A c,v= .slice A x.body.length c,fun v wx=>cM wx (fun b=>wr.heap.size<=b) v x.body),(13,fun v=> ∃A c,v= .slice A x.els.length c,fun v wx=>cM wx (fun b=>wr.heap.size<=b) v x.els),
     (15,fun v=> ∃gb,v= .slice (some ⟨gb,0,none⟩) 1 1,fun v wx=> ∃gb A c B d C i,v= .slice (some ⟨gb,0,none⟩) 1 1/\wr.heap.size<=gb/\aO wx gb 72 #[.int .i64 x.k, .string (ag x.nm), .slice A x.ex.length c, .slice B x.body.length d, .slice C x.els.length i]/\b8 wx (fun b=>wr.heap.size<=b) (.slice A x.ex.length c) x.ex/\cM wx (fun b=>wr.heap.size<=b) (.slice B x.body.length d) x.body/\cM wx (fun b=>wr.heap.size<=b) (.slice C x.els.length i) x.els)] mixed (by kernel_rfl)
    ⟨fun _ _ _ h hx=>h.keep (.of_ext hx) (fun _ hb _=>hb),fun _ _ _ h hx=>h.keep (.of_ext hx) (fun _ hb _=>hb),fun _ _ _ h hx=>h.keep (.of_ext hx) (fun _ hb _=>hb),fun _ _ _ h hx=>(let⟨gb,A,c,B,d,C,i,h1,h2,h3,h4,h5,h6⟩:=h;⟨gb,A,c,B,d,C,i,h1,h2,h3.ext hx,h4.keep (.of_ext hx) (fun _ hb _=>hb),h5.keep (.of_ext hx) (fun _ hb _=>hb),h6.keep (.of_ext hx) (fun _ hb _=>hb)⟩),trivial⟩ ?_
   repeat (refine sx ?_ (fun w1 hU=> ?_) ?_;rotate_left;(focus have f1:=(HB.out.ext hU.un).cell;clear hU;go_simp<;>with_reducible rfl);simp only[aU,aT,aS,aR,aQ])
   refine b6 _ _ (by rfl) rfl ⟨_,none,0,rfl⟩ (by simp) (fun w6 hU hp K hK=> ?_) ?_
   ·clear hp;have hE6:=HX1.out.trans hU.un;have hc:=HIx.out.1 P w6 _ (HRa.out.keep (.of_ext hE6) (fun _ hb _=>hb));have hs:=hE6.size;clear hU hE6;go_simp;refine hc.mono ?_;rintro e w7 ⟨hE,A3,c3,rfl,hR3⟩;exact hK _ _ hE ⟨_,_,rfl⟩ (hR3.mono (fun b hb _=>a_ hs hb))
   rintro _ ⟨A3,c3,rfl⟩;simp only[aU,aT,aS,aR,aQ];repeat (refine sx ?_ (fun w1 hU=> ?_) ?_;rotate_left;(focus have f1:=(HB.out.ext hU.un).cell;clear hU;go_simp<;>with_reducible rfl);simp only[aU,aT,aS,aR,aQ])
   refine b6 _ _ (by rfl) rfl ⟨_,none,0,rfl⟩ (by simp) (fun w6 hU hp K hK=> ?_) ?_
   ·clear hp;have hE6:=HX1.out.trans hU.un;have hc:=HIx.out.2.1 P w6 _ (HRb.out.keep (.of_ext hE6) (fun _ hb _=>hb));have hs:=hE6.size;clear hU hE6;go_simp;refine hc.mono ?_;rintro e w7 ⟨hE,A4,c4,rfl,hR3⟩;exact hK _ _ hE ⟨_,_,rfl⟩ (hR3.mono (fun b hb _=>a_ hs hb))
   rintro _ ⟨B3,d3,rfl⟩;simp only[aU,aT,aS,aR,aQ];repeat (refine sx ?_ (fun w1 hU=> ?_) ?_;rotate_left;(focus have f1:=(HB.out.ext hU.un).cell;clear hU;go_simp<;>with_reducible rfl);simp only[aU,aT,aS,aR,aQ])
   refine b6 _ _ (by rfl) rfl ⟨_,none,0,rfl⟩ (by simp) (fun w6 hU hp K hK=> ?_) ?_
   ·clear hp;have hE6:=HX1.out.trans hU.un;have hc:=HIx.out.2.2 P w6 _ (HRc.out.keep (.of_ext hE6) (fun _ hb _=>hb));have hs:=hE6.size;clear hU hE6;go_simp;refine hc.mono ?_;rintro e w7 ⟨hE,A4,c4,rfl,hR3⟩;exact hK _ _ hE ⟨_,_,rfl⟩ (hR3.mono (fun b hb _=>a_ hs hb))
   rintro _ ⟨C3,i3,rfl⟩;simp only[aU,aT,aS,aR,aQ];repeat (refine sx ?_ (fun w1 hU=> ?_) ?_;rotate_left;(focus go_simp<;>with_reducible rfl);simp only[aU,aT,aS,aR,aQ])
   refine b6 _ _ (by rfl) rfl ⟨_,0,rfl⟩ (by simp) (fun w6 hU hp K hK=> ?_) ?_
   ·have h3:cM w6 (fun b=>wr.heap.size<=b) (.slice C3 x.els.length i3) x.els:=hp _ (.head _) (by kernel_rfl);have h4:cM w6 (fun b=>wr.heap.size<=b) (.slice B3 x.body.length d3) x.body:=hp _ (.tail _ (.head _)) (by kernel_rfl);have h5:b8 w6 (fun b=>wr.heap.size<=b) (.slice A3 x.ex.length c3) x.ex:=hp _ (.tail _ (.tail _ (.head _))) (by kernel_rfl);have hs:=(HX1.out.trans hU.un).size;clear hU hp;go_simp;exact hK _ _ (O w6 _) ⟨_,rfl⟩ ⟨_,_,_,_,_,_,_,rfl,hs,ax w6 _ _,h5.keep (.of_ext (O w6 _)) (fun _ hb _=>hb),h4.keep (.of_ext (O w6 _)) (fun _ hb _=>hb),h3.keep (.of_ext (O w6 _)) (fun _ hb _=>hb)⟩
   rintro _ ⟨gb,rfl⟩;simp only[aU,aT,aS,aR,aQ];intro w8 hw8 hp;obtain⟨gb',A4,c4,B4,d4,C4,i4,hgb,hz,hB3,hR3,hR4,hR5⟩:=hp _ (.head _);injection hgb with hgb;injection hgb with hgb;injection hgb with hgb;subst hgb;clear hp;simp only[ab,ap];have hE8:=HX1.out.trans hw8.un;have HX8:=G (HX.out.trans hE8);have hO8:=HO.out.ext hE8;have hrow:=World.ownsRow.lt HO.out.1;have hs8:=HX8.out.size;have hq: ∀b,wr.heap.size<=b->w.heap.size<=b/\some b≠Value.ownBlock (.slice C j cap):=fun b hb=>⟨a_ HX.out.size hb,fun e=>by have:=(hrow b e.symm).2;omega⟩
   have HR3:=G (show SV.ok w8 (fun b=>w.heap.size<=b/\some b≠Value.ownBlock (.slice C j cap)) ⟨x, .slice A4 x.ex.length c4, .slice B4 x.body.length d4, .slice C4 x.els.length i4⟩from⟨hR3.mono (fun b hb _=>hq b hb),hR4.mono (fun b hb _=>hq b hb),hR5.mono (fun b hb _=>hq b hb)⟩);clear hw8 hE8 hR3 hR4 hR5 hq;have hl8:=HL.out;refine ec Cv rfl _ _ rfl w.heap.size _ j (dO acc) rfl (by have:=hO8.1;rw[hl8]at this;exact this) gb (qD ⟨x, .slice A4 x.ex.length c4, .slice B4 x.body.length d4, .slice C4 x.els.length i4⟩) rfl hB3 rfl (rM _ _ _ _ _ _ _ _ _ _) (by omega) (by decide) hs8 ?_;intro A' cap' w9 hq1 hq2 hq3;have HO9:=G (hO8.snoc HR3.out (by rw[hl8];exact hq1) hq2 hq3);rw[hl8]at HO9;have HX9:=G (HX8.out.grown hq2 (fun k e=>(hrow k e).1));have HM9:=G (show(acc++[SV.mk x (.slice A4 x.ex.length c4) (.slice B4 x.body.length d4) (.slice C4 x.els.length i4)]).map (·.s)=xs.take (j+1) by rw[HT.out,fY,HM.out];rfl);have HL9:=G (show(acc++[SV.mk x (.slice A4 x.ex.length c4) (.slice B4 x.body.length d4) (.slice C4 x.els.length i4)]).length=j+1 by rw[aa,hl8];rfl);clear hq1 hq2 hq3 hO8 hB3 HR3 hrow HM HL hl8 HT;go_wp2_with fail;go_roundw
   case rel=>exact⟨j+1,_,_,_,by go_num,rfl,by omega,HM9,HL9,HO9,HX9⟩
   case measure=>simp[intOf];omega
  ·have hlt': ¬(j:Int)<n:=by omega
   have hjn:j=n:=by omega
   subst hjn
   have HQ:=G (show cM wr (fun b=>w.heap.size<=b) (.slice C j cap) xs by
    have:=HO.out.rd;rw[HM.out,aJ (by have:=HN.out;omega)]at this
    exact this)
   clear HO HM HL;go_wp2_with fail;go_ret;exact⟨HX.out,C,cap,rfl,HQ.out⟩
theorem mu: ∀(k:Nat) (xs:List St),dq xs<k->k<=1000000001->uV xs
 |0,xs,h,_=>absurd h (eg _)
 |k+1,xs,h,hk=>s8 xs (by have:=cw xs;omega) (fun x hx=>⟨AD (by have:=bq hx;have:=x.wt_eq;omega),mu k x.body (by have:=bq hx;have:=x.wt_eq;omega) (by omega),mu k x.els (by have:=bq hx;have:=x.wt_eq;omega) (by omega)⟩)
theorem AC {xs:List St} (h:dq xs<=1000000000):uV xs:=mu _ xs (eH _) (by omega)
end
section
open Go.RowKit
theorem xl (p:Pg) (hv:p.vs.length<=1000000000) (hf:p.fs.length<=1000000000) (hb: ∀f,f∈p.fs->dq f.body<=1000000000) (P:Nat->Prop) (w:World) (A B:Option Addr) (n c m d:Nat) (hV:fH w P (.slice A n c) p.vs) (hF:fO w P (.slice B m d) p.fs):
  Calls prog 14 #[.agg #[.slice A n c, .slice B m d]] w fun e w'=>au w w'/\ ∃A' n' c' B' m' d',e= .returned (.agg #[.slice A' n' c', .slice B' m' d'])/\fH w' (fun b=>P b\/w.heap.size<=b) (.slice A' n' c') p.vs/\fO w' (fun b=>P b\/w.heap.size<=b) (.slice B' m' d') p.fs:=by
 obtain⟨vs,fs⟩:=p;simp only at*;have hnv:n=vs.length:=by obtain⟨A',c',hh,_⟩:=hV;injection hh
 have hnf:m=fs.length:=by obtain⟨A',c',hh,_⟩:=hF;injection hh
 rw[<-hnv]at hv;rw[<-hnf]at hf;have HNV:=G hnv;have HNF:=G hnf;have HV:=G hV;have HF:=G hF;have HBD:=G hb;have HP0:=G (yY 25 34 w (.slice A n c) (.slice B m d));have HO0:=G (gS.nil_ 85 59 (QO w P) (((w.alloc (.cells #[.slice A n c, .slice B m d] 25)).alloc (.cells #[.slice none 0 0, .slice none 0 0] 34)).alloc (.cells #[.slice none 0 0, .slice none 0 0] 34)) (w.heap.size+3));clear hnv hnf hV hF hb;have c0:=HP0.out.bs.cell;go_enter func14,ntmps14;go_wp2_with fail
 go_loopw [4] (fun vi wr=> ∃(j:Nat) (C:Option Addr) (cap:Nat),vi= .int .i64 (j:Int)/\j<=n/\Hid (PO 25 34 w (.slice A n c) (.slice B m d) (.slice C j cap) (.slice none 0 0) wr)/\Hid (gS 85 59 (QO w P) wr (w.heap.size+3) (.slice C j cap) (.slice none 0 0) (vs.take j) [])) (fun vi _=>n-(intOf vi).toNat)
 case atStart=>exact⟨0,none,0,rfl,az _,HP0,HO0⟩
 case round=>
  clear c0 HP0 HO0;obtain⟨j,C,cap,rfl,hj,HP,HO⟩:=hrel;have c0:=HP.out.bs.cell;by_cases hlt:j<n
  ·have hlt':(j:Int)<n:=by omega
   have hjl:j<vs.length:=by have:=HNV.out;omega
   obtain⟨b,o,rfl,hb,h0,h1⟩:=wZ HV.out j hjl;have e0:=(HP.out.e.cell b _ hb).trans h0;have e1:=(HP.out.e.cell b _ hb).trans h1;have hbl:b<wr.heap.size:=aF hb HP.out.e.size;have HT:=G (show vs.take (j+1)=vs.take j++[vs[j]]from aD hjl);have hlj:(vs.take j).length=j:=by rw[dg];omega
   generalize vs[j]=x at*;clear h0 h1 hjl;go_wp2_with fail;clear c0;have hrow:=World.ownsRow.lt HO.out.1
   refine eo 9 12 [(7,fun v=> ∃gb,v= .slice (some ⟨gb,0,none⟩) 1 1,fun v wx=> ∃gb,v= .slice (some ⟨gb,0,none⟩) 1 1/\wr.heap.size<=gb/\aO wx gb 85 #[.string (ag x.nm), .int .i64 x.sz]),
     (8,fun v=> ∃A' cap',v= .slice (some ⟨A',0,none⟩) (j+1) cap',fun v wx=> ∃A' cap',v= .slice (some ⟨A',0,none⟩) (j+1) cap'/\wx.ownsRow (w.heap.size+3) 85 2 v (j+1) (fC (vs.take j)++qq x)/\(some A'=Value.ownBlock (.slice C j cap)\/wr.heap.size<=A'))] 8 (Value.ownBlock (.slice C j cap)) mixed (by kernel_rfl)
    ⟨fun _ _ _ h hx=>(let⟨gb,h1,h2,h3⟩:=h;⟨gb,h1,h2,h3.ext hx⟩),fun _ _ _ h hx=>(let⟨A',cap',h1,h2,h3⟩:=h;⟨A',cap',h1,World.ownsRow.kept h2 (hx.grownBy none) (.inr (by rw[h1];simp[Value.ownBlock])),h3⟩),trivial⟩
    ⟨.inr fun _ _ _ h hx=>(let⟨gb,h1,h2,h3⟩:=h;⟨gb,h1,h2,h3.grown hx (fun e=>by have:=(hrow _ e.symm).2;omega)⟩), .inl rfl,trivial⟩ ?_
   repeat (refine sx ?_ (fun w1 hU=> ?_) ?_;rotate_left;(focus have hpq:=HP.out.grown (aV hU) (fun k e=>(hrow k e).1);have f1:=hpq.bs.cell;have f2:=hpq.bo.cell;have hbk:=(aV hU).block b hbl (fun e=>by have:=(hrow _ e.symm).1;omega);have g0:=(World.cell?_of_block (w:=wr) (a:=⟨b,o+j*2,none⟩) hbk).trans e0;have g1:=(World.cell?_of_block (w:=wr) (a:=⟨b,o+j*2+1,none⟩) hbk).trans e1;clear hU hpq hbk;go_simp<;>with_reducible rfl);simp only[aU,aT,aS,aR,aQ])
   refine b6 _ _ (by rfl) rfl ⟨_,0,rfl⟩ (by simp) (fun w6 hU hp K hK=> ?_) ?_
   ·have hs:=(aV hU).size;clear hU hp;go_simp;exact hK _ _ (O w6 _) ⟨_,rfl⟩ ⟨_,rfl,hs,ax w6 _ _⟩
   rintro _ ⟨gb,rfl⟩;simp only[aU,aT,aS,aR,aQ];refine eQ _ _ (by rfl) rfl ⟨_,0,0,rfl⟩ rfl (fun w6 hT hp K hK=> ?_) ?_
   ·obtain⟨gb',hgb,hz,hB3⟩:=hp _ (.head _) (by kernel_rfl);injection hgb with hgb;injection hgb with hgb;injection hgb with hgb;subst hgb;have hO6:=HO.out.ext hT.un;have hs6:=(HP.out.ex hT.un).lt;have hs7:=hT.un.size;clear hp hT;refine lO Cu _ _ rfl (w.heap.size+3) _ j (fC (vs.take j)) rfl (by have:=hO6.1;rw[hlj]at this;exact this) gb (qq x) rfl hB3 rfl (wF x) (by omega) (by decide) (by omega) ?_;intro A' cap' w9 hq1 hq2 hq3;exact hK _ _ hq2 ⟨_,_,rfl⟩ ⟨_,_,rfl,hq1,hq3.imp_right (fun e=>by omega)⟩
   rintro _ ⟨A',cap',rfl⟩;simp only[aU,aT,aS,aR,aQ];repeat (refine sx ?_ (fun w1 hU=> ?_) ?_;rotate_left;(focus go_simp<;>with_reducible rfl);simp only[aU,aT,aS,aR,aQ])
   intro w8 hw8 hp;obtain⟨A2,cap2,hv2,hq1,hA⟩:=hp _ (.head _);injection hv2 with hv2 _ hv3;injection hv2 with hv2;injection hv2 with hv2;subst hv2 hv3;clear hp;simp only[ab,ap];have hg8:=aV hw8;have HP8:=G (HP.out.grown hg8 (fun k e=>(hrow k e).1));have HO8:=G (HO.out.snocV hlj hq1 hg8 hA);rw[<-HT.out]at HO8;have HP9:=G (HP8.out.putV (.slice (some ⟨A',0,none⟩) (j+1) cap'));have HO9:=G (HO8.out.far (b:=w.heap.size+1+1) (i:=0) (by omega) (by omega) (.slice (some ⟨A',0,none⟩) (j+1) cap'));have d0:=HP8.out.bo.cell;have z0:=HP8.out.bo.frozen;clear hw8 hg8 hq1 hA hrow HO HP HO8 HT hlj e0 e1;go_wp2_with fail;go_roundw
   case rel=>exact⟨j+1,_,_,by go_num,by omega,HP9,HO9⟩
   case measure=>simp[intOf];omega
  ·have hlt': ¬(j:Int)<n:=by omega
   have hjn:j=n:=by omega
   have HO1:=G (show gS 85 59 (QO w P) wr (w.heap.size+3) (.slice C j cap) (.slice none 0 0) vs ([].map id) by
    have:=HO.out;rw[aJ (by have:=HNV.out;omega)]at this
    exact this)
   clear HO;obtain⟨vv,hvv⟩: ∃vv,Value.slice C j cap=vv:=⟨_,rfl⟩
   rw[hvv]at HO1 HP;have HVV:=G hvv;clear hvv hjn hj hlt c0;have c0:=HP.out.bs.cell;go_wp2_with fail
   go_loopw [5] (fun vi wr=> ∃(j:Nat) (acc:List FV) (C:Option Addr) (cap:Nat),vi= .int .i64 (j:Int)/\j<=m/\Hid (acc.map (·.c)=fs.take j)/\Hid (acc.length=j)/\Hid (PO 25 34 w (.slice A n c) (.slice B m d) vv (.slice C j cap) wr)/\Hid (gS 85 59 (QO w P) wr (w.heap.size+3) vv (.slice C j cap) vs acc)) (fun vi _=>m-(intOf vi).toNat)
   case atStart=>exact⟨0,[],none,0,rfl,az _,G rfl,G rfl,HP,HO1⟩
   case round=>
    clear c0 HP HO1;obtain⟨j,acc,C,cap,rfl,hj,HM,HL,HP,HO⟩:=hrel;have c0:=HP.out.bs.cell;by_cases hlt:j<m
    ·have hlt':(j:Int)<m:=by omega
     have hjl:j<fs.length:=by have:=HNF.out;omega
     obtain⟨b,o,pv,bv,rfl,hb,h0,h1,h2,hRp,hRb⟩:=rV HF.out j hjl;have e0:=(HP.out.e.cell b _ hb).trans h0;have e1:=(HP.out.e.cell b _ hb).trans h1;have e2:=(HP.out.e.cell b _ hb).trans h2;have hbl:b<wr.heap.size:=aF hb HP.out.e.size;have HT:=G (show fs.take (j+1)=fs.take j++[fs[j]]from aD hjl);have hwx:=HBD.out _ (ai hjl);generalize fs[j]=x at*;have hlp: ∃A' c',pv= .slice A' x.ps.length c':=by obtain⟨A',c',hh,_⟩:=hRp;exact⟨A',c',hh⟩
     obtain⟨A3,c3,rfl⟩:=hlp;obtain⟨B3,d3,rfl,_⟩:=hRb.form;have HRp:=G hRp;have hrow:=World.ownsRow.lt HO.out.2.1;have hrow1:=World.ownsRow.lt HO.out.1;have HCB:=G (fun(W:World) (h:wr.grownBy W (Value.ownBlock (.slice C j cap)))=>AC hwx P W (.slice B3 x.body.length d3) (hRb.keep ⟨a_ HP.out.e.size h.size,fun b _ hb=>(h.block b (aF hb HP.out.e.size) (fun e=>by have:=(hrow _ e.symm).1;omega)).trans (HP.out.e.obj hb)⟩ (fun _ hb _=>hb)));clear h0 h1 h2 hjl hRp hRb hwx;go_wp2_with fail;clear c0
     refine eo 24 12 [(20,fun v=> ∃A c,v= .slice A x.body.length c,fun v wx=>cM wx (fun b=>wr.heap.size<=b) v x.body),
       (22,fun v=> ∃gb,v= .slice (some ⟨gb,0,none⟩) 1 1,fun v wx=> ∃gb B4 d4,v= .slice (some ⟨gb,0,none⟩) 1 1/\wr.heap.size<=gb/\aO wx gb 59 #[.string (ag x.nm), .slice A3 x.ps.length c3, .slice B4 x.body.length d4]/\cM wx (fun b=>wr.heap.size<=b) (.slice B4 x.body.length d4) x.body),
       (23,fun v=> ∃A' cap',v= .slice (some ⟨A',0,none⟩) (j+1) cap',fun v wx=> ∃A' cap' B4 d4,v= .slice (some ⟨A',0,none⟩) (j+1) cap'/\wx.ownsRow (w.heap.size+3) 59 3 v (j+1) (fD acc++p7 ⟨x, .slice A3 x.ps.length c3, .slice B4 x.body.length d4⟩)/\(some A'=Value.ownBlock (.slice C j cap)\/wr.heap.size<=A')/\cM wx (fun b=>wr.heap.size<=b/\b≠A') (.slice B4 x.body.length d4) x.body)] 23 (Value.ownBlock (.slice C j cap)) mixed (by kernel_rfl)
      ⟨fun _ _ _ h hx=>h.keep (.of_ext hx) (fun _ hb _=>hb),fun _ _ _ h hx=>(let⟨gb,B4,d4,h1,h2,h3,h4⟩:=h;⟨gb,B4,d4,h1,h2,h3.ext hx,h4.keep (.of_ext hx) (fun _ hb _=>hb)⟩),fun _ _ _ h hx=>(let⟨A',cap',B4,d4,h1,h2,h3,h4⟩:=h;⟨A',cap',B4,d4,h1,World.ownsRow.kept h2 (hx.grownBy none) (.inr (by rw[h1];simp[Value.ownBlock])),h3,h4.keep (.of_ext hx) (fun _ hb _=>hb)⟩),trivial⟩
      ⟨.inr fun _ _ _ h hx=>h.keep (.of_grown hx fun b hb e=>by have:=(hrow _ e.symm).2;omega) (fun _ hb _=>hb), .inr fun _ _ _ h hx=>(let⟨gb,B4,d4,h1,h2,h3,h4⟩:=h;⟨gb,B4,d4,h1,h2,h3.grown hx (fun e=>by have:=(hrow _ e.symm).2;omega),h4.keep (.of_grown hx fun b hb e=>by have:=(hrow _ e.symm).2;omega) (fun _ hb _=>hb)⟩), .inl rfl,trivial⟩ ?_
     repeat (refine sx ?_ (fun w1 hU=> ?_) ?_;rotate_left;(focus have hpq:=HP.out.grown (aV hU) (fun k e=>(hrow k e).1);have f1:=hpq.bs.cell;have f2:=hpq.bo.cell;have hbk:=(aV hU).block b hbl (fun e=>by have:=(hrow _ e.symm).1;omega);have g0:=(World.cell?_of_block (w:=wr) (a:=⟨b,o+j*3,none⟩) hbk).trans e0;have g1:=(World.cell?_of_block (w:=wr) (a:=⟨b,o+j*3+1,none⟩) hbk).trans e1;have g2:=(World.cell?_of_block (w:=wr) (a:=⟨b,o+j*3+2,none⟩) hbk).trans e2;clear hU hpq hbk;go_simp<;>with_reducible rfl);simp only[aU,aT,aS,aR,aQ])
     refine b6 _ _ (by rfl) rfl ⟨_,none,0,rfl⟩ (by simp) (fun w6 hU hp K hK=> ?_) ?_
     ·clear hp;have hc:=HCB.out w6 (aV hU);have hs:=(aV hU).size;clear hU;go_simp;refine hc.mono ?_;rintro e w7 ⟨hE,A4,c4,rfl,hR3⟩;exact hK _ _ hE ⟨_,_,rfl⟩ (hR3.mono (fun b hb _=>a_ hs hb))
     rintro _ ⟨A4,c4,rfl⟩;simp only[aU,aT,aS,aR,aQ];repeat (refine sx ?_ (fun w1 hU=> ?_) ?_;rotate_left;(focus go_simp<;>with_reducible rfl);simp only[aU,aT,aS,aR,aQ])
     refine b6 _ _ (by rfl) rfl ⟨_,0,rfl⟩ (by simp) (fun w6 hU hp K hK=> ?_) ?_
     ·have h3:cM w6 (fun b=>wr.heap.size<=b) (.slice A4 x.body.length c4) x.body:=hp _ (.head _) (by kernel_rfl);have hs:=(aV hU).size;clear hU hp;go_simp;exact hK _ _ (O w6 _) ⟨_,rfl⟩ ⟨_,_,_,rfl,hs,ax w6 _ _,h3.keep (.of_ext (O w6 _)) (fun _ hb _=>hb)⟩
     rintro _ ⟨gb,rfl⟩;simp only[aU,aT,aS,aR,aQ];refine eQ _ _ (by rfl) rfl ⟨_,0,0,rfl⟩ rfl (fun w6 hT hp K hK=> ?_) ?_
     ·obtain⟨gb',B4,d4,hgb,hz,hB3,hR3⟩:=hp _ (.head _) (by kernel_rfl);injection hgb with hgb;injection hgb with hgb;injection hgb with hgb;subst hgb;have hO6:=HO.out.ext hT.un;have hs6:=(HP.out.ex hT.un).lt;have hs7:=hT.un.size;have hl8:=HL.out;clear hp hT;refine lO CG _ _ rfl (w.heap.size+3) _ j (fD acc) rfl (by have:=hO6.2.1;rw[hl8]at this;exact this) gb (p7 ⟨x, .slice A3 x.ps.length c3, .slice B4 x.body.length d4⟩) rfl hB3 rfl (xE _ _ _ _ _ _ _) (by omega) (by decide) (by omega) ?_;intro A' cap' w9 hq1 hq2 hq3;exact hK _ _ hq2 ⟨_,_,rfl⟩ ⟨_,_,_,_,rfl,hq1,hq3.imp_right (fun e=>by omega),hR3.keep (.of_grown hq2 fun b hb e=>by have:=(hrow _ e.symm).2;omega) (fun b hb hlt=>⟨hb,fun e=>by rcases hq3 with hq3|hq3;(have:=(hrow _ hq3.symm).2;omega);omega⟩)⟩
     rintro _ ⟨A',cap',rfl⟩;simp only[aU,aT,aS,aR,aQ];repeat (refine sx ?_ (fun w1 hU=> ?_) ?_;rotate_left;(focus go_simp<;>with_reducible rfl);simp only[aU,aT,aS,aR,aQ])
     intro w8 hw8 hp;obtain⟨A2,cap2,B4,d4,hv2,hq1,hA,hR4⟩:=hp _ (.head _);injection hv2 with hv2 _ hv3;injection hv2 with hv2;injection hv2 with hv2;subst hv2 hv3;clear hp;simp only[ab,ap];have hg8:=aV hw8;have hlw:=HP.out.lt;have HP8:=G (HP.out.grown hg8 (fun k e=>(hrow k e).1));have hok:FV.ok w8 (fun b=>QO w P b/\some b≠vv.ownBlock/\b≠A') ⟨x, .slice A3 x.ps.length c3, .slice B4 x.body.length d4⟩:=by
      refine⟨HRp.out.keep (.of_ext HP8.out.e) (fun b hb hlt=>⟨.inl ⟨hb,hlt⟩,fun e=>by have:=(hrow1 b e.symm).1;omega,fun e=>by rcases hA with hA|hA;(have:=(hrow _ hA.symm).1;omega);omega⟩),hR4.mono (fun b hb hlt=>⟨.inr (by omega),fun e=>by have:=(hrow1 b e.symm).2;omega,hb.2⟩)⟩
     have HO8:=G (HO.out.snocF hok HL.out hq1 hg8 hA);have HP9:=G (HP8.out.putF (.slice (some ⟨A',0,none⟩) (j+1) cap'));have HO9:=G (HO8.out.far (b:=w.heap.size+1+1) (i:=1) (by omega) (by omega) (.slice (some ⟨A',0,none⟩) (j+1) cap'));have HM9:=G (show(acc++[FV.mk x (.slice A3 x.ps.length c3) (.slice B4 x.body.length d4)]).map (·.c)=fs.take (j+1) by rw[HT.out,fY,HM.out];rfl);have HL9:=G (show(acc++[FV.mk x (.slice A3 x.ps.length c3) (.slice B4 x.body.length d4)]).length=j+1 by rw[aa,HL.out];rfl);have d0:=HP8.out.bo.cell;have z0:=HP8.out.bo.frozen;clear hw8 hg8 hq1 hA hrow hrow1 HO HP HO8 HT HM HL e0 e1 e2 hok hR4 hlw;go_wp2_with fail;go_roundw
     case rel=>exact⟨j+1,_,_,_,by go_num,by omega,HM9,HL9,HP9,HO9⟩
     case measure=>simp[intOf];omega
    ·have hlt': ¬(j:Int)<m:=by omega
     obtain⟨hrv,hrf⟩:=HO.out.rd (fun b hb=> .inr hb);rw[HM.out,aJ (by have:=HNF.out;omega)]at hrf;have hkk:=vB (uI (P:=P) (w:=w) (W:=wr) (b:=w.heap.size+1) (i:=0) vv (by omega) (by omega)) (uI (P:=P) (w:=w) (b:=w.heap.size+1) (i:=1) (.slice C j cap) (by omega) (by omega));have HRV:=G (hrv.keep hkk (Q:=fun b=>P b\/w.heap.size<=b) (fun b hb _=>by rcases hb with hb|hb;(exact .inl hb.1);(exact .inr (by omega))));have HRF:=G (hrf.keep hkk (Q:=fun b=>P b\/w.heap.size<=b) (fun b hb _=>by rcases hb with hb|hb;(exact .inl hb.1);(exact .inr (by omega))));have HE9:=G ((HP.out.e.set (p:=⟨w.heap.size+1,0,none⟩) (by show w.heap.size<=w.heap.size+1;omega) vv).set (p:=⟨w.heap.size+1,1,none⟩) (by show w.heap.size<=w.heap.size+1;omega) (.slice C j cap));have hB9:=(HP.out.bz.set 0 vv).set 1 (.slice C j cap);have hz9:=hB9.cell;have d0:=HP.out.bo.cell;have d1:=HP.out.bz.cell;have z1:=HP.out.bz.frozen;clear hrv hrf hkk HO HM HL hB9;have hvv:=HVV.out;subst hvv;go_wp2_with fail;refine bodyPost_ret (v:= .agg #[.slice _ _ _, .slice C j cap]) ?_ rfl ⟨HE9.out,_,_,_,_,_,_,rfl,HRV.out,HRF.out⟩;simp[results,results14,go_sem,hz9]
end
section
open Go.RowKit
def AQ (xs:List Ex):Prop:= ∀(P:Nat->Prop) (w:World) (u:Value),b8 w P u xs->Calls prog 65 #[u] w fun e w'=>(∃k:Int,e= .returned (.int .i64 k))/\au w w'
def AP (xs:List St):Prop:= ∀(P:Nat->Prop) (w:World) (u:Value),cM w P u xs->Calls prog 34 #[u] w fun e w'=>(∃k:Int,e= .returned (.int .i64 k))/\au w w'
theorem um (xs:List Ex) (hl:xs.length<=1073741824) (hIH: ∀x,x∈xs->AQ x.args):AQ xs:=by
 intro P w u hu;obtain⟨A,c,rfl,_⟩:=hu.form;obtain⟨n,hn⟩: ∃n,xs.length=n:=⟨_,rfl⟩
 rw[hn]at hu hl;rw[hn];have HN:=G hn;have HR:=G hu;have HI:=G hIH;clear hu hIH hn;go_enter func65,ntmps65;go_wp2_with fail
 go_loopw [3,4] (fun vo vi wr=> ∃(j:Nat) (k:Int),vi= .int .i64 (j:Int)/\vo= .int .i64 k/\j<=n/\Hid (au w wr)) (fun vo vi _=>n-(intOf vi).toNat)
 case atStart=>exact⟨0,0,rfl,rfl,az _,G (aH w)⟩
 case round=>
  obtain⟨j,k,rfl,rfl,hj,HX⟩:=hrel;by_cases hlt:j<n
  ·have hlt':(j:Int)<n:=by omega
   have hjl:j<xs.length:=by have:=HN.out;omega
   obtain⟨b,o,a,rfl,hb,hP,h0,h1,h2,h3,h4,h5,hRa⟩:=HR.out.at_ j hjl;have hbl:b<wr.heap.size:=aF hb HX.out.size;have hIx:=HI.out _ (ai hjl);generalize xs[j]=x at*;have e5:=(HX.out.cell b _ hb).trans h5;obtain⟨A2,c2,rfl,_⟩:=hRa.form;have HC:=G (hIx P wr _ (hRa.keep (.of_ext HX.out) (fun b hb _=>hb)));clear h0 h1 h2 h3 h4 h5 hRa hIx;go_wp2_with (go_at_call 65;refine HC.out.mono ?_;rintro e w1 ⟨⟨q,rfl⟩,hE⟩;have HX1:=G (HX.out.trans hE);clear hE HC);go_roundw
   case rel=>exact⟨j+1,_,by go_num,rfl,by omega,HX1⟩
   case measure=>simp[intOf];omega
  ·have hlt': ¬(j:Int)<n:=by omega
   go_wp2_with fail;go_ret;exact⟨⟨_,rfl⟩,HX.out⟩
theorem rI: ∀(k:Nat) (xs:List Ex),gt xs<k->k<=1000000001->AQ xs
 |0,xs,h,_=>absurd h (eg _)
 |k+1,xs,h,hk=>um xs (by have:=bF xs;omega) (fun x hx=>rI k x.args (by have:=bX hx;have:=x.wt_eq;omega) (by omega))
theorem Bf {xs:List Ex} (h:gt xs<=1000000000):AQ xs:=rI _ xs (eH _) (by omega)
theorem ul (xs:List St) (hl:xs.length<=1073741824) (hIH: ∀x,x∈xs->AQ x.ex/\AP x.body/\AP x.els):AP xs:=by
 intro P w u hu;obtain⟨A,c,rfl,_⟩:=hu.form;obtain⟨n,hn⟩: ∃n,xs.length=n:=⟨_,rfl⟩
 rw[hn]at hu hl;rw[hn];have HN:=G hn;have HR:=G hu;have HI:=G hIH;clear hu hIH hn;go_enter func34,ntmps34;go_wp2_with fail
 go_loopw [3,4] (fun vo vi wr=> ∃(j:Nat) (k:Int),vi= .int .i64 (j:Int)/\vo= .int .i64 k/\j<=n/\Hid (au w wr)) (fun vo vi _=>n-(intOf vi).toNat)
 case atStart=>exact⟨0,0,rfl,rfl,az _,G (aH w)⟩
 case round=>
  obtain⟨j,k,rfl,rfl,hj,HX⟩:=hrel;by_cases hlt:j<n
  ·have hlt':(j:Int)<n:=by omega
   have hjl:j<xs.length:=by have:=HN.out;omega
   obtain⟨b,o,a,g,z,rfl,hb,hP,h0,h1,h2,h3,h4,hRa,hRb,hRc⟩:=HR.out.at_ j hjl;have hbl:b<wr.heap.size:=aF hb HX.out.size;have hIx:=HI.out _ (ai hjl);generalize xs[j]=x at*;have e2:=(HX.out.cell b _ hb).trans h2;have e3:=(HX.out.cell b _ hb).trans h3;have e4:=(HX.out.cell b _ hb).trans h4;obtain⟨A2,c2,rfl,_⟩:=hRa.form;obtain⟨B2,d2,rfl,_⟩:=hRb.form;obtain⟨C2,i2,rfl,_⟩:=hRc.form;have HC:=G (fun(W:World) (h:au wr W)=>hIx.1 P W _ (hRa.keep (.of_ext (HX.out.trans h)) (fun b hb _=>hb)));have HC1:=G (fun(W:World) (h:au wr W)=>hIx.2.1 P W _ (hRb.keep (.of_ext (HX.out.trans h)) (fun b hb _=>hb)));have HC2:=G (fun(W:World) (h:au wr W)=>hIx.2.2 P W _ (hRc.keep (.of_ext (HX.out.trans h)) (fun b hb _=>hb)));clear h0 h1 h2 h3 h4 hRa hRb hRc hIx;go_wp2_with fail;refine am 23 12 [(6,fun v=> ∃k:Int,v= .int .i64 k,fun _ _=>True),(13,fun v=> ∃k:Int,v= .int .i64 k,fun _ _=>True),(20,fun v=> ∃k:Int,v= .int .i64 k,fun _ _=>True)] mixed (by kernel_rfl)
    ⟨fun _ _ _ _ _=>trivial,fun _ _ _ _ _=>trivial,fun _ _ _ _ _=>trivial,trivial⟩ ?_
   repeat (refine sx ?_ (fun w1 hU=> ?_) ?_;rotate_left;(focus have g2:=(hU.un.cell b _ hbl).trans e2;clear hU;go_simp<;>with_reducible rfl);simp only[aU,aT,aS,aR,aQ])
   refine b6 _ _ (by rfl) rfl ⟨_,0,rfl⟩ (by simp) (fun w6 hU hp K hK=> ?_) ?_
   ·have hc:=HC.out w6 hU.un;clear hp hU;go_simp;refine hc.mono ?_;rintro e w7 ⟨⟨q,rfl⟩,hE⟩;exact hK _ _ hE ⟨_,rfl⟩ trivial
   rintro _ ⟨k1,rfl⟩;simp only[aU,aT,aS,aR,aQ];repeat (refine sx ?_ (fun w1 hU=> ?_) ?_;rotate_left;(focus have g3:=(hU.un.cell b _ hbl).trans e3;clear hU;go_simp<;>with_reducible rfl);simp only[aU,aT,aS,aR,aQ])
   refine b6 _ _ (by rfl) rfl ⟨_,0,rfl⟩ (by simp) (fun w6 hU hp K hK=> ?_) ?_
   ·have hc:=HC1.out w6 hU.un;clear hp hU;go_simp;refine hc.mono ?_;rintro e w7 ⟨⟨q,rfl⟩,hE⟩;exact hK _ _ hE ⟨_,rfl⟩ trivial
   rintro _ ⟨k2,rfl⟩;simp only[aU,aT,aS,aR,aQ];repeat (refine sx ?_ (fun w1 hU=> ?_) ?_;rotate_left;(focus have g4:=(hU.un.cell b _ hbl).trans e4;clear hU;go_simp<;>with_reducible rfl);simp only[aU,aT,aS,aR,aQ])
   refine b6 _ _ (by rfl) rfl ⟨_,0,rfl⟩ (by simp) (fun w6 hU hp K hK=> ?_) ?_
   ·have hc:=HC2.out w6 hU.un;clear hp hU;go_simp;refine hc.mono ?_;rintro e w7 ⟨⟨q,rfl⟩,hE⟩;exact hK _ _ hE ⟨_,rfl⟩ trivial
   rintro _ ⟨k3,rfl⟩;simp only[aU,aT,aS,aR,aQ];repeat (refine sx ?_ (fun w1 hU=> ?_) ?_;rotate_left;(focus go_simp<;>with_reducible rfl);simp only[aU,aT,aS,aR,aQ])
   intro w8 hw8 hp;clear hp;simp only[ab,ap];have HX8:=G (HX.out.trans hw8.un);clear hw8;go_wp2_with fail;go_roundw
   case rel=>exact⟨j+1,_,by go_num,rfl,by omega,HX8⟩
   case measure=>simp[intOf];omega
  ·have hlt': ¬(j:Int)<n:=by omega
   go_wp2_with fail;go_ret;exact⟨⟨_,rfl⟩,HX.out⟩
theorem oh: ∀(k:Nat) (xs:List St),dq xs<k->k<=1000000001->AP xs
 |0,xs,h,_=>absurd h (eg _)
 |k+1,xs,h,hk=>ul xs (by have:=cw xs;omega) (fun x hx=>⟨Bf (by have:=bq hx;have:=x.wt_eq;omega),oh k x.body (by have:=bq hx;have:=x.wt_eq;omega) (by omega),oh k x.els (by have:=bq hx;have:=x.wt_eq;omega) (by omega)⟩)
theorem Be {xs:List St} (h:dq xs<=1000000000):AP xs:=oh _ xs (eH _) (by omega)
theorem xD (p:Pg) (hv:p.vs.length<=1000000000) (hf:p.fs.length<=1000000000) (hb: ∀f,f∈p.fs->dq f.body<=1000000000) (P:Nat->Prop) (w:World) (A B:Option Addr) (n c m d:Nat) (hV:fH w P (.slice A n c) p.vs) (hF:fO w P (.slice B m d) p.fs):
  Calls prog 12 #[.agg #[.slice A n c, .slice B m d]] w fun e w'=>(∃b:Bool,e= .returned (.bool b))/\au w w':=by
 obtain⟨vs,fs⟩:=p;simp only at*;have hnv:n=vs.length:=by obtain⟨A',c',hh,_⟩:=hV;injection hh
 have hnf:m=fs.length:=by obtain⟨A',c',hh,_⟩:=hF;injection hh
 rw[<-hnv]at hv;rw[<-hnf]at hf;have HNF:=G hnf;have HF:=G hF;have HBD:=G hb;have HE0:=G (O w (.cells #[.slice A n c, .slice B m d] 25));have HB0:=G (ax w 25 #[.slice A n c, .slice B m d]);have hwr:IntKind.i64.wrap ((n:Int)+m)=n+m:=by simp[IntKind.wrap,IntKind.signed,IntKind.bits];omega
 clear hnv hnf hV hF hb;have c0:=HB0.out.cell;go_enter func12,ntmps12;go_wp2_with fail
 go_loopw [3,4] (fun vo vi wr=> ∃(j:Nat) (k:Int),vi= .int .i64 (j:Int)/\vo= .int .i64 k/\j<=m/\Hid (au w wr)/\Hid (aO wr w.heap.size 25 #[.slice A n c, .slice B m d])) (fun vo vi _=>m-(intOf vi).toNat)
 case atStart=>exact⟨0,0,rfl,rfl,az _,HE0,HB0⟩
 case round=>
  clear c0 HE0 HB0;obtain⟨j,k,rfl,rfl,hj,HX,HB⟩:=hrel;have c0:=HB.out.cell;by_cases hlt:j<m
  ·have hlt':(j:Int)<m:=by omega
   have hjl:j<fs.length:=by have:=HNF.out;omega
   obtain⟨b,o,pv,bv,rfl,hb,h0,h1,h2,hRp,hRb⟩:=rV HF.out j hjl;have e1:=(HX.out.cell b _ hb).trans h1;have e2:=(HX.out.cell b _ hb).trans h2;have hbl:b<wr.heap.size:=aF hb HX.out.size;have hwx:=HBD.out _ (ai hjl);generalize fs[j]=x at*;have hlp: ∃A' c',pv= .slice A' x.ps.length c':=by obtain⟨A',c',hh,_⟩:=hRp;exact⟨A',c',hh⟩
   obtain⟨A3,c3,rfl⟩:=hlp;obtain⟨B3,d3,rfl,_⟩:=hRb.form;have HC:=G (fun(W:World) (h:au wr W)=>Be hwx P W _ (hRb.keep (.of_ext (HX.out.trans h)) (fun b hb _=>hb)));clear h0 h1 h2 hRp hRb hwx;go_wp2_with fail;clear c0;refine am 17 12 [(14,fun v=> ∃k:Int,v= .int .i64 k,fun _ _=>True)] mixed (by kernel_rfl) ⟨fun _ _ _ _ _=>trivial,trivial⟩ ?_;repeat (refine sx ?_ (fun w1 hU=> ?_) ?_;rotate_left;(focus have f1:=(HB.out.ext hU.un).cell;have g1:=(hU.un.cell b _ hbl).trans e1;have g2:=(hU.un.cell b _ hbl).trans e2;clear hU;go_simp<;>with_reducible rfl);simp only[aU,aT,aS,aR,aQ])
   refine b6 _ _ (by rfl) rfl ⟨_,0,rfl⟩ (by simp) (fun w6 hU hp K hK=> ?_) ?_
   ·have hc:=HC.out w6 hU.un;clear hp hU;go_simp;refine hc.mono ?_;rintro e w7 ⟨⟨q,rfl⟩,hE⟩;exact hK _ _ hE ⟨_,rfl⟩ trivial
   rintro _ ⟨k1,rfl⟩;simp only[aU,aT,aS,aR,aQ];repeat (refine sx ?_ (fun w1 hU=> ?_) ?_;rotate_left;(focus go_simp<;>with_reducible rfl);simp only[aU,aT,aS,aR,aQ])
   intro w8 hw8 hp;clear hp;simp only[ab,ap];have HX8:=G (HX.out.trans hw8.un);have HB8:=G (HB.out.ext hw8.un);clear hw8;go_wp2_with fail;go_roundw
   case rel=>exact⟨j+1,_,by go_num,rfl,by omega,HX8,HB8⟩
   case measure=>simp[intOf];omega
  ·have hlt': ¬(j:Int)<m:=by omega
   by_cases h1:(n:Int)+m<=60
   ·by_cases h2:k<=600
    ·go_wp2_with fail;go_ret;first|exact⟨.inl rfl,HX.out⟩|exact⟨.inr rfl,HX.out⟩
    ·go_wp2_with fail;go_ret;first|exact⟨.inl rfl,HX.out⟩|exact⟨.inr rfl,HX.out⟩
   ·go_wp2_with fail;go_ret;first|exact⟨.inl rfl,HX.out⟩|exact⟨.inr rfl,HX.out⟩
end
section
open Go.RowKit
def i6 (w0:World) (t:TypeId) (cs:Array Value) (v:Value) (w:World):Prop:= ∃g,v= .pointer (some ⟨g,0,none⟩)/\w0.heap.size<=g/\aO w g t cs
theorem i6.ext {w0:World} {t:TypeId} {cs:Array Value} {v:Value} {w w':World} (h:i6 w0 t cs v w) (he:au w w'):i6 w0 t cs v w':=let⟨g,h1,h2,h3⟩:=h;⟨g,h1,h2,h3.ext he⟩
theorem i6.old {w0:World} {t:TypeId} {cs:Array Value}: ∀(v:Value) (w:World),i6 w0 t cs v w-> ∀g,pB v=some g->g<w.heap.size:=fun v w ⟨g,h1,_,h3⟩ k hk=>by
 subst h1;injection hk with hk;subst hk;exact h3.lt
theorem i6.at_ {w0 w:World} {t:TypeId} {cs:Array Value} {g:Nat} (h:i6 w0 t cs (.pointer (some ⟨g,0,none⟩)) w):w0.heap.size<=g/\aO w g t cs:=by
 obtain⟨k,h1,h2,h3⟩:=h;injection h1 with h1;injection h1 with h1;injection h1 with h1;subst h1;exact⟨h2,h3⟩
def A9 (v:Value):Prop:= ∃g,v= .pointer (some ⟨g,0,none⟩)
theorem xu {w:World} {n:Nat} (h:w.heap.size=n): ∀g,pB (.pointer (some ⟨n,0,none⟩))=some g->w.heap.size<=g:=fun g hg=>by
 have hg:some n=some g:=hg;injection hg with hg;omega
end
section
open Go.RowKit
end
section
open Go.RowKit
theorem uM (p:Pg):p.vs.length<=jS p:=by
 have:=gB (fun _:Vr=>1) (fun v=>v.nm.length+1) p.vs (fun v _=>by omega);rw[eJ]at this;unfold jS;omega
theorem qW (p:Pg):p.fs.length<=jS p:=by
 have:=gB (fun _:Fc=>1) (fun f=>f.wt+1) p.fs (fun v _=>by omega);rw[eJ]at this;unfold jS;omega
theorem x_ {p:Pg} {f:Fc} (h:f∈p.fs):dq f.body<=jS p:=by
 have:=jd h;have:dq f.body<=f.wt:=by unfold Fc.wt;omega
 omega
theorem uT {p:Pg} (hw:jS p<=6000000) {P:Nat->Prop} {w:World} {A B:Option Addr} {n c m d:Nat} (hV:fH w P (.slice A n c) p.vs) (hF:fO w P (.slice B m d) p.fs):
  Calls prog 14 #[.agg #[.slice A n c, .slice B m d]] w fun e w'=>au w w'/\ ∃A' n' c' B' m' d',e= .returned (.agg #[.slice A' n' c', .slice B' m' d'])/\fH w' (fun _=>True) (.slice A' n' c') p.vs/\fO w' (fun _=>True) (.slice B' m' d') p.fs:=by
 refine(xl p (by have:=uM p;omega) (by have:=qW p;omega) (fun f hf=>by have:=x_ hf;omega) P w A B n c m d hV hF).mono fun e w' hh=> ?_;obtain⟨hE,A',n',c',B',m',d',he,h1,h2⟩:=hh;exact⟨hE,A',n',c',B',m',d',he,h1.keep ⟨an _,fun _ _ _=>rfl⟩ (fun _ _ _=>trivial),h2.keep ⟨an _,fun _ _ _=>rfl⟩ (fun _ _ _=>trivial)⟩
theorem yg {p:Pg} (hw:jS p<=6000000) {P:Nat->Prop} {w:World} {A B:Option Addr} {n c m d:Nat} (hV:fH w P (.slice A n c) p.vs) (hF:fO w P (.slice B m d) p.fs):
  Calls prog 12 #[.agg #[.slice A n c, .slice B m d]] w fun e w'=>(∃b:Bool,e= .returned (.bool b))/\au w w':=
 xD p (by have:=uM p;omega) (by have:=qW p;omega) (fun f hf=>by have:=x_ hf;omega) P w A B n c m d hV hF
end
section
def ip {α:Type} (r:Except Er α):Er:=match r with
 | .ok _=>([],0)
 | .error e=>e
def pN:List (List UInt8)->List UInt8->Nat->Int
 | [],_,_=> -1
 |n::r,s,j=>if n=s then(j:Int)else pN r s (j+1)
theorem pM {l:List (List UInt8)} {s:List UInt8} {j:Nat} (h:j<l.length):pN (l.drop j) s j=if l[j]=s then(j:Int)else pN (l.drop (j+1)) s (j+1):=by
 rw[ay h,pN]
theorem la (s:List UInt8): ∀(l:List (List UInt8)) (j:Nat),(pN l s j= -1/\ ∀x∈l,x≠s)\/ ∃(i:Nat) (h:i<l.length),pN l s j=((j+i:Nat):Int)/\l[i]=s/\ ∀(k:Nat) (hk:k<l.length),k<i->l[k]≠s
 | [],j=> .inl ⟨rfl,by simp⟩
 |n::r,j=>by
  rw[pN];by_cases e:n=s
  ·rw[if_pos e];exact .inr ⟨0,by simp,by simp,by simpa using e,fun k hk h=>by omega⟩
  ·rw[if_neg e];rcases la s r (j+1)with⟨h1,h2⟩|⟨i,hi,h1,h2,h3⟩
   ·refine .inl ⟨h1,fun x hx=> ?_⟩;rcases List.mem_cons.1 hx with rfl|hx
    ·exact e
    ·exact h2 x hx
   ·refine .inr ⟨i+1,by simpa using hi,by rw[h1];congr 1;omega,by simpa using h2,fun k hk hki=> ?_⟩
    cases k with
    |zero=>simpa using e
    |succ k=>simpa using h3 k (by simpa using hk) (by omega)
def wy (fs:List Fc) (s:List UInt8):Int:=pN (fs.map (·.nm)) s 0
def tX (vs:List Vr) (s:List UInt8):Int:=pN (vs.map (·.nm)) s 0
theorem ll (fs:List Fc) (s:List UInt8):(wy fs s= -1/\iW fs s=none)\/ ∃(i:Nat) (h:i<fs.length),wy fs s=(i:Int)/\iW fs s=some fs[i]/\fs[i].nm=s:=by
 rcases la s (fs.map (·.nm)) 0 with⟨h1,h2⟩|⟨i,hi,h1,h2,h3⟩
 ·refine .inl ⟨h1,?_⟩;unfold iW;rw[eV];intro x hx;have:=h2 x.nm (List.mem_map.2 ⟨x,hx,rfl⟩);simpa using fun e=>this e.symm
 ·have hi':i<fs.length:=by simpa using hi
  refine .inr ⟨i,hi',by rw[wy,h1];simp,?_,by simpa using h2⟩;unfold iW;rw[fF];refine⟨by simpa using h2.symm,i,hi',rfl,fun k hk=> ?_⟩;have:=h3 k (by simp;omega) hk;simpa using fun e=>this (by simpa using e.symm)
theorem nj (fs:List Vr) (s:List UInt8):(tX fs s= -1/\dJ fs s=none)\/ ∃(i:Nat) (h:i<fs.length),tX fs s=(i:Int)/\dJ fs s=some fs[i]/\fs[i].nm=s:=by
 rcases la s (fs.map (·.nm)) 0 with⟨h1,h2⟩|⟨i,hi,h1,h2,h3⟩
 ·refine .inl ⟨h1,?_⟩;unfold dJ;rw[eV];intro x hx;have:=h2 x.nm (List.mem_map.2 ⟨x,hx,rfl⟩);simpa using fun e=>this e.symm
 ·have hi':i<fs.length:=by simpa using hi
  refine .inr ⟨i,hi',by rw[tX,h1];simp,?_,by simpa using h2⟩;unfold dJ;rw[fF];refine⟨by simpa using h2.symm,i,hi',rfl,fun k hk=> ?_⟩;have:=h3 k (by simp;omega) hk;simpa using fun e=>this (by simpa using e.symm)
theorem vQ (fs:List Fc) (s:List UInt8):decide (0<=wy fs s)=(iW fs s).isSome:=by
 rcases ll fs s with⟨h,h2⟩|⟨i,hi,h,h2,_⟩
 ·rw[h,h2];rfl
 ·rw[h,h2];simp
theorem o8 (fs:List Vr) (s:List UInt8):decide (0<=tX fs s)=(dJ fs s).isSome:=by
 rcases nj fs s with⟨h,h2⟩|⟨i,hi,h,h2,_⟩
 ·rw[h,h2];rfl
 ·rw[h,h2];simp
def gI (b:Bi) (i:Nat):UInt8:=match b with
 |none=>105
 |some (_,a)=>if i<a.length then a.getD i 0 else 105
theorem pC (b:Bi) (i:Nat):iE b i=(gI b i==105):=by
 unfold iE gI
 cases b with
 |none=>rfl
 |some x=>
  obtain⟨c,a⟩:=x;by_cases h:i<a.length
  ·simp only[if_pos h,decide_eq_false (show ¬a.length<=i by omega),cK]
  ·simp only[if_neg h,decide_eq_true (show a.length<=i by omega),ge];rfl
def jR (g:Gl) (lo:Ls) (c:UInt8) (nm:List UInt8) (y:Ex):CR:=
 if c=105 then io g lo y else if c≠97/\y.k=2 then .ok ()else if c=115\/y.k≠3 then .error (nm,16)else d9 g lo y.nm
theorem xc {g:Gl} {lo:Ls} {s nm:List UInt8} {i:Nat} {y:Ex}:jR g lo (gI (bD s) i) nm y=if iE (bD s) i=true then io g lo y else if jU (tp (bD s) i) y.k=true then .error (nm,16)else if y.k=3 then d9 g lo y.nm else .ok ():=by
 rw[pC];unfold jR;by_cases h:gI (bD s) i=105
 ·rw[if_pos h,h];rfl
 ·rw[beq_eq_false_iff_ne.2 h];simp only[bR,if_false];rw[if_neg h]
  cases hb:bD s with
  |none=>rw[hb]at h;exact absurd rfl h
  |some x=>
   obtain⟨c,a⟩:=x;rw[hb]at h;have hl:=qe hb;by_cases hi:i<a.length
   ·have e:gI (some (c,a)) i=a.getD i 0:=by simp only[gI,if_pos hi]
    have e2:tp (some (c,a)) i=a.getD i 0:=rfl;have hm:a.getD i 0∈a:=by rw[bK,aN hi];exact ai hi
    rw[e]at h;rw[e,e2];rcases hl _ hm with h1|h1|h1|h1
    ·exact absurd h1 h
    ·rw[h1];by_cases h2:y.k=2
     ·rw[h2];rfl
     ·rw[if_neg (by simp[h2]),if_pos (.inl rfl)];have:jU 115 y.k=true:=by simp[jU,h2]
      rw[if_pos this]
    ·rw[h1];rw[if_neg (by simp)];by_cases h3:y.k=3
     ·rw[h3];rfl
     ·rw[if_pos (.inr h3)];have:jU 97 y.k=true:=by simp[jU,h3]
      rw[if_pos this]
    ·rw[h1];by_cases h2:y.k=2
     ·rw[h2];rfl
     ·rw[if_neg (by simp[h2])];by_cases h3:y.k=3
      ·rw[h3];rfl
      ·rw[if_pos (.inr h3)];have:jU 98 y.k=true:=by simp[jU,h2,h3]
       rw[if_pos this]
   ·exact absurd (by simp only[gI,if_neg hi]) h
theorem nH {g:Gl} {lo:Ls} {nm:List UInt8} {l:List Ex} {j:Nat} (h:j<l.length):jT g lo nm (bD nm) j (l.drop j)=CR.then (jR g lo (gI (bD nm) j) nm l[j]) fun _=>jT g lo nm (bD nm) (j+1) (l.drop (j+1)):=by
 rw[ay h,jT,xc]
def qT (p:Pg) (nm:List UInt8):Nat:=match iW p.fs nm with
 |some f=>f.ps.length
 |none=>match bD nm with
  |some (_,a)=>a.length
  |none=>0
theorem xd {p:Pg} {g:Gl} (hG:GL p g) (nm:List UInt8):qh g nm=if cX p nm=true then some (qT p nm)else none:=by
 unfold qh cX o6 qT;rw[hG.fn]
 cases hb:bD nm with
 |none=>
  cases hf:iW p.fs nm with
  |none=>rfl
  |some f=>rfl
 |some x=>
  obtain⟨c,a⟩:=x
  cases hf:iW p.fs nm with
  |none=>rfl
  |some f=>
   exfalso
   unfold iW at hf;have h1:=c8 hf;have h2:nm=f.nm:=by simpa using i_ hf
   have:=hG.nb f.nm (List.mem_append_right _ (List.mem_map.2 ⟨f,h1,rfl⟩));rw[<-h2]at this;unfold o6 at this;rw[hb]at this
   cases this
theorem AO {g:Gl} {lo:Ls} {op nm tx:List UInt8} {v:Int} {a:List Ex}:io g lo (.mk 2 op nm tx v a)= .error ([],16):=by
 rw[io,if_neg (by decide),if_neg (by decide),if_pos rfl]
theorem AN {g:Gl} {lo:Ls} {op nm tx:List UInt8} {v:Int} {a:List Ex}:io g lo (.mk 3 op nm tx v a)=gN g lo nm:=by rw[io,if_pos rfl]
theorem AM {g:Gl} {lo:Ls} {op nm tx:List UInt8} {v:Int} {a:List Ex}:io g lo (.mk 4 op nm tx v a)=CR.then (d9 g lo nm) fun _=>gX g lo a:=by rw[io,if_neg (by decide),if_pos rfl]
theorem AL {p:Pg} {g:Gl} (hG:GL p g) {lo:Ls} {op nm tx:List UInt8} {v:Int} {a:List Ex}:io g lo (.mk 5 op nm tx v a)=if cX p nm=false then .error (nm,15)else if qT p nm=a.length then jT g lo nm (bD nm) 0 a else .error (nm,16):=by
 rw[io,if_neg (by decide),if_neg (by decide),if_neg (by decide),if_pos rfl,xd hG]
 cases cX p nm<;>rfl
theorem AK {g:Gl} {lo:Ls} {k:Int} {op nm tx:List UInt8} {v:Int} {a:List Ex} (h2:k≠2) (h3:k≠3) (h4:k≠4) (h5:k≠5) (h:Ex.ok (.mk k op nm tx v a)=true):io g lo (.mk k op nm tx v a)=gX g lo a:=by
 rw[io,if_neg h3,if_neg h4,if_neg h2,if_neg h5];split
 ·rfl
 ·rename_i h67;rw[Ex.ok,ak]at h;have h:=h.1;by_cases h1:k=1
  ·rw[if_pos h1]at h;simp only[ak,beq_iff_eq]at h;rw[aM h.2];rfl
  ·rw[if_neg h1,if_neg h2,if_neg h3,if_neg h4,if_neg h5,if_neg (fun e=>h67 (.inl e)),if_neg (fun e=>h67 (.inr e))]at h
   cases h
def dh (k:Int) (op:List UInt8) (b:Bi):Nat->Nat->Nat->List Ex->Nat
 |i,fr,m,[]=>m
 |i,fr,m,y::r=>if k=5/\iE b i=true then dh k op b (i+1) (fr+1) (max m (ci y+fr)) r else if k=7/\lM op=false then dh k op b (i+1) fr (max m (ci y+i)) r else if k≠5 then dh k op b (i+1) fr (max m (ci y)) r else dh k op b (i+1) fr m r
theorem ou (op:List UInt8) (b:Bi): ∀(l:List Ex) (i fr m:Nat),dh 5 op b i fr m l=ed b i fr m l
 | [],i,fr,m=>by rw[dh,ed]
 |y::r,i,fr,m=>by
  rw[dh,ed]
  cases iE b i with
  |true=>rw[if_pos ⟨rfl,rfl⟩,if_pos rfl,ou op b r,Nat.add_comm fr (ci y)]
  |false=>rw[if_neg (by simp),if_neg (by simp),if_neg (by simp),if_neg (by simp),ou op b r]
theorem lU (k:Int) (op:List UInt8) (b:Bi) (h5:k≠5) (h7:k=7->lM op=true): ∀(l:List Ex) (i fr m:Nat),dh k op b i fr m l=eB m l
 | [],i,fr,m=>by rw[dh,eB]
 |y::r,i,fr,m=>by
  rw[dh,eB,if_neg (fun h=>h5 h.1),if_neg (fun h=>by rw[h7 h.1]at h;exact absurd h.2 (by decide)),if_pos h5,lU k op b h5 h7 r]
theorem sg: ∀(l:List Ex) (i m:Nat),d7 true i m l=eB m l
 | [],i,m=>by rw[d7,eB]
 |y::r,i,m=>by rw[d7,eB,if_neg (by simp),sg r]
theorem uA (k:Int) (op nm tx:List UInt8) (v:Int) (a:List Ex) (h:Ex.ok (.mk k op nm tx v a)=true):dh k op (bD nm) 0 0 1 a=ci (.mk k op nm tx v a):=by
 rw[ci];by_cases h46:k=4\/k=6
 ·rw[if_pos h46,lU k op _ (by omega) (by omega)]
 rw[if_neg h46];rw[Ex.ok,ak]at h;have h:=h.1;by_cases h7:k=7
 ·subst h7;rw[if_pos rfl];simp only[show ¬(7:Int)=1 by decide,show ¬(7:Int)=2 by decide,show ¬(7:Int)=3 by decide,show ¬(7:Int)=4 by decide,show ¬(7:Int)=5 by decide,show ¬(7:Int)=6 by decide,if_false,if_true,ak,beq_iff_eq]at h
  cases hl:lM op with
  |true=>rw[lU 7 op _ (by decide) (fun _=>hl),sg]
  |false=>
   match a,h.2 with
   | [x,y],_=>
    simp only[dh,d7,hl];simp
 rw[if_neg h7];by_cases h5:k=5
 ·subst h5;rw[if_pos rfl,ou]
 rw[if_neg h5,lU k op _ h5 (fun e=>absurd e h7)];have hl:a.length=0:=by
  by_cases h1:k=1
  ·rw[if_pos h1]at h;simp only[ak,beq_iff_eq]at h;exact h.2
  by_cases h2:k=2
  ·rw[if_neg h1,if_pos h2]at h;simp only[ak,beq_iff_eq]at h;exact h.2
  by_cases h3:k=3
  ·rw[if_neg h1,if_neg h2,if_pos h3]at h;simp only[ak,beq_iff_eq]at h;exact h.2
  rw[if_neg h1,if_neg h2,if_neg h3,if_neg (fun e=>h46 (.inl e)),if_neg h5,if_neg (fun e=>h46 (.inr e)),if_neg h7]at h
  cases h
 rw[aM hl,eB]
def qr:List Ex->Nat
 | []=>0
 |y::r=>max (ci y) (qr r)
mutual
def yd:St->Nat
 | .mk _ _ x b e=>max (qr x) (max (ki b) (ki e))
def ki:List St->Nat
 | []=>0
 |s::r=>max (yd s) (ki r)
end
theorem ye: ∀l:List Ex,decide (7<qr l)=l.any (fun y=>decide (7<ci y))
 | []=>rfl
 |y::r=>by
  rw[qr,fI,<-ye r,cF];simp only[decide_eq_true_eq,bP];omega
mutual
theorem AI: ∀s:St,decide (7<yd s)=zQ s
 | .mk k nm x b e=>by
  have h1:=se b;have h2:=se e;rw[yd,zQ,<-h1,<-h2,<-ye x,cF];simp only[decide_eq_true_eq,bP];omega
theorem se: ∀l:List St,decide (7<ki l)=jN l
 | []=>rfl
 |s::r=>by
  have h1:=AI s;have h2:=se r;rw[ki,jN,<-h1,<-h2,cF];simp only[decide_eq_true_eq,bP];omega
end
theorem vg {l:List Ex} {j:Nat} (h:j<l.length):qr (l.drop j)=max (ci l[j]) (qr (l.drop (j+1))):=by
 rw[ay h,qr]
theorem va {l:List St} {j:Nat} (h:j<l.length):ki (l.drop j)=max (yd l[j]) (ki (l.drop (j+1))):=by
 rw[ay h,ki]
end
section
open Go.RowKit
def zP:Array Value:=(lN.map fun x=>Value.string (ag x.1)).toArray
def zS:Array Value:=(lN.map fun x=>Value.int .i64 x.2.1).toArray
def zU:Array Value:=(lN.map fun x=>Value.string (ag x.2.2)).toArray
theorem oQ (i:Nat) (hi:i<19):lN[i]? =some (oR i):=by
 unfold oR;rw[bK,aN (show i<lN.length from hi)];rfl
theorem xr (i:Nat) (hi:i<19):zP[i]? =some (.string (ag (oR i).1)):=by simp[zP,oQ i hi]
theorem xI (i:Nat) (hi:i<19):zS[i]? =some (.int .i64 (oR i).2.1):=by simp[zS,oQ i hi]
theorem xN (i:Nat) (hi:i<19):zU[i]? =some (.string (ag (oR i).2.2)):=by simp[zU,oQ i hi]
structure RB (w W:World):Prop where
 e:au w W
 b1:aO W w.heap.size 9 zP
 b2:aO W (w.heap.size+1) 3 zS
 b3:aO W (w.heap.size+1+1) 9 zU
theorem yP (w:World) (c1 c2 c3:Array Value) (h1:c1=zP) (h2:c2=zS) (h3:c3=zU):RB w (((w.alloc (.cells c1 9)).alloc (.cells c2 3)).alloc (.cells c3 9)):=by
 subst h1 h2 h3;refine⟨((O w _).alloc' _).alloc' _,((ax w _ _).alloc _).alloc _,?_,?_⟩
 ·have:=(ax (w.alloc (.cells zP 9)) 3 zS).alloc (.cells zU 9);rwa [World.size_alloc]at this
 ·have:=ax ((w.alloc (.cells zP 9)).alloc (.cells zS 3)) 9 zU;rwa [World.size_alloc,World.size_alloc]at this
theorem uH (s:List UInt8) (w:World):Calls prog 23 #[.string (ag s)] w fun e w'=>e=xM (bD s)/\au w w':=by
 have HR:=G (nW s);go_enter func23,ntmps23;go_wp2_with fail
 go_loopw [8] (fun vi wr=> ∃(j:Nat),vi= .int .i64 (j:Int)/\j<=19/\Hid (bD s=((lN.drop j).find? (fun x=>x.1==s)).map (·.2))/\Hid (RB w wr)) (fun vi _=>19-(intOf vi).toNat)
 case atStart=>exact⟨0,rfl,by omega,HR,G (yP w _ _ _ (by kernel_rfl) (by kernel_rfl) (by kernel_rfl))⟩
 case round=>
  obtain⟨j,rfl,hj,HQ,HX⟩:=hrel;by_cases hlt:j<19
  ·have hlt':(j:Int)<19:=by omega
   have f1:=(HX.out.b1.cell j).trans (xr j hlt);have f2:=(HX.out.b2.cell j).trans (xI j hlt);have f3:=(HX.out.b3.cell j).trans (xN j hlt);have HS:=G (sr (s:=s) hlt);generalize oR j=y at*;obtain⟨nm,c,a⟩:=y;simp only at f1 f2 f3
   cases hs:(nm==s)with
   |true=>
    have HE:=G (show bD s=some (c,a) by rw[HQ.out,HS.out,hs];rfl);go_wp2_with (go_quiet (fail));exact bodyPost_ret (v:= .tuple #[.int .i64 c, .string (ag a), .bool true]) (by simp[results,results23,go_sem]) rfl ⟨by rw[HE.out];rfl,HX.out.e.drewN _⟩
   |false=>
    have HE:=G (show bD s=((lN.drop (j+1)).find? (fun x=>x.1==s)).map (·.2) by rw[HQ.out,HS.out,hs];rfl);go_wp2_with fail;go_roundw
    case rel=>exact⟨j+1,by go_num,by omega,HE,HX⟩
    case measure=>simp[intOf];omega
  ·have hlt': ¬(j:Int)<19:=by omega
   obtain rfl:j=19:=by omega
   have HE:=G (show bD s=none from HQ.out);go_wp2_with fail;exact bodyPost_ret (v:= .tuple #[.int .i64 0, .string (ag []), .bool false]) (by simp[results,results23,go_sem,ag]) rfl ⟨by rw[HE.out];rfl,HX.out.e⟩
theorem gv (s:List UInt8) (w:World):Calls prog 23 #[.string (ag s)] w fun e w'=>e= .returned (.tuple #[.int .i64 (wg (bD s)), .string (ag (nc (bD s))), .bool (bD s).isSome])/\au w w':=by
 refine(uH s w).mono fun e w' ⟨he,hE⟩=>⟨?_,hE⟩
 rw[he]
 cases bD s<;>rfl
theorem pD (s:List UInt8) (i:Nat) (hi:i<=1073741824) (w:World):Calls prog 56 #[.string (ag s), .int .i64 (i:Int)] w fun e w'=>e= .returned (.int .u8 ((gI (bD s) i).toNat:Int))/\au w w':=by
 have HB:=G (gv s w);have hsz:=aL (nc (bD s));have hbl:=l7 s
 cases hb:bD s with
 |none=>
  have HI:=G (show gI none i=105 from rfl);rw[hb]at HB hsz;simp only[nc,wg,dE]at*;clear hb;go_enter func56,ntmps56;go_wp2_with (go_at_call 23;refine HB.out.mono ?_;rintro e w1 ⟨rfl,hE⟩;have HX:=G hE;clear hE HB);go_ret;exact⟨by rw[HI.out];rfl,HX.out⟩
 |some x=>
  obtain⟨c,a⟩:=x;rw[hb]at HB hsz hbl;simp only[nc,wg,cQ]at*;clear hb;by_cases h:i<a.length
  ·have h':(i:Int)<a.length:=by omega
   have hix:=fun w=>kW a i h w;have hg:a.getD i 0=a[i]'h:=by rw[bK,aN h];rfl
   have HI:=G (show gI (some (c,a)) i=a.getD i 0 by simp only[gI,if_pos h]);rw[<-hg]at hix;generalize a.getD i 0=q at*;clear hg;go_enter func56,ntmps56;go_wp2_with (go_at_call 23;refine HB.out.mono ?_;rintro e w1 ⟨rfl,hE⟩;have HX:=G hE;clear hE HB);go_ret;exact⟨by rw[HI.out];rfl,HX.out⟩
  ·have h': ¬(i:Int)<a.length:=by omega
   have HI:=G (show gI (some (c,a)) i=105 by simp only[gI,if_neg h]);go_enter func56,ntmps56;go_wp2_with (go_at_call 23;refine HB.out.mono ?_;rintro e w1 ⟨rfl,hE⟩;have HX:=G hE;clear hE HB);go_ret;exact⟨by rw[HI.out];rfl,HX.out⟩
theorem fO.at0 {w:World} {P:Nat->Prop} {B:Option Addr} {m d:Nat} {fs:List Fc} (h:fO w P (.slice B m d) fs) (i:Nat) (hi:i<fs.length): ∃b o pv bv,B=some ⟨b,o,none⟩/\P b/\b<w.heap.size/\w.cell? ⟨b,o+i*3,none⟩=some (.string (ag fs[i].nm))/\w.cell? ⟨b,o+i*3+1,none⟩=some pv/\w.cell? ⟨b,o+i*3+2,none⟩=some bv/\j7 w P pv fs[i].ps/\cM w P bv fs[i].body:=by
 obtain⟨B',d',e,h⟩:=h;injection e with e1 e2 e3;subst e1 e2 e3;rcases h with h|⟨_,_,b,o,rfl,hP,hb,pv,bv,hc⟩
 ·subst h;simp at hi
 ·obtain⟨q0,q1,q2,q3,q4⟩:=hc i hi;exact⟨b,o,pv i,bv i,rfl,hP,hb,q0,q1,q2,q3,q4⟩
theorem fH.at0 {w:World} {P:Nat->Prop} {A:Option Addr} {n c:Nat} {vs:List Vr} (h:fH w P (.slice A n c) vs) (i:Nat) (hi:i<vs.length): ∃b o,A=some ⟨b,o,none⟩/\P b/\b<w.heap.size/\w.cell? ⟨b,o+i*2,none⟩=some (.string (ag vs[i].nm))/\w.cell? ⟨b,o+i*2+1,none⟩=some (.int .i64 vs[i].sz):=by
 obtain⟨A',c',e,h⟩:=h;injection e with e1 e2 e3;subst e1 e2 e3;rcases h with h|⟨_,_,b,o,rfl,hP,hb,hc⟩
 ·subst h;simp at hi
 ·exact⟨b,o,rfl,hP,hb,(hc i hi).1,(hc i hi).2⟩
theorem j7.at0 {w:World} {P:Nat->Prop} {A:Option Addr} {n c:Nat} {ls:List (List UInt8)} (h:j7 w P (.slice A n c) ls) (i:Nat) (hi:i<ls.length): ∃b o,A=some ⟨b,o,none⟩/\P b/\b<w.heap.size/\w.cell? ⟨b,o+i,none⟩=some (.string (ag ls[i])):=by
 obtain⟨A',c',e,h⟩:=h;injection e with e1 e2 e3;subst e1 e2 e3;rcases h with h|⟨_,_,b,o,rfl,hP,hb,hc⟩
 ·subst h;simp at hi
 ·exact⟨b,o,rfl,hP,hb,hc i hi⟩
theorem fO.ln {w:World} {P:Nat->Prop} {B:Option Addr} {m d:Nat} {fs:List Fc} (h:fO w P (.slice B m d) fs):fs.length=m:=by
 obtain⟨B',d',e,h⟩:=h;injection e with _ e _;exact e.symm
theorem fH.ln {w:World} {P:Nat->Prop} {B:Option Addr} {m d:Nat} {fs:List Vr} (h:fH w P (.slice B m d) fs):fs.length=m:=by
 obtain⟨B',d',e,h⟩:=h;injection e with _ e _;exact e.symm
theorem j7.ln {w:World} {P:Nat->Prop} {B:Option Addr} {m d:Nat} {fs:List (List UInt8)} (h:j7 w P (.slice B m d) fs):fs.length=m:=by
 obtain⟨B',d',e,h⟩:=h;injection e with _ e _;exact e.symm
theorem qC {a b:List UInt8} (h:(a==b)=false):a≠b:=fun e=>by subst e;simp at h
theorem mm (p:Pg) (P:Nat->Prop) (w:World) (sv:Value) (B:Option Addr) (m d:Nat) (hF:fO w P (.slice B m d) p.fs) (hl:p.fs.length<=1073741824) (s:List UInt8):
  Calls prog 51 #[.agg #[sv, .slice B m d], .string (ag s)] w fun e w'=>e= .returned (.int .i64 (wy p.fs s))/\au w w':=by
 have hm:=hF.ln;rw[hm]at hl;have HN:=G hm;have HF:=G hF;have HE0:=G (O w (.cells #[sv, .slice B m d] 25));have HB0:=G (ax w 25 #[sv, .slice B m d]);have HQ0:=G (show pN ((p.fs.map (·.nm)).drop 0) s 0=wy p.fs s from rfl);clear hF hm;generalize wy p.fs s=R at*;generalize p.fs=fs at*;go_enter func51,ntmps51;go_wp2_with fail
 go_loopw [5] (fun vi wr=> ∃(j:Nat),vi= .int .i64 (j:Int)/\j<=m/\Hid (pN ((fs.map (·.nm)).drop j) s j=R)/\Hid (au w wr)/\Hid (aO wr w.heap.size 25 #[sv, .slice B m d])) (fun vi _=>m-(intOf vi).toNat)
 case atStart=>exact⟨0,rfl,az _,HQ0,HE0,HB0⟩
 case round=>
  obtain⟨j,rfl,hj,HQ,HX,HB⟩:=hrel;have c0:=HB.out.cell;by_cases hlt:j<m
  ·have hlt':(j:Int)<m:=by omega
   have hjl:j<fs.length:=by have:=HN.out;omega
   obtain⟨b,o,pv,bv,rfl,hP,hb,h0,_⟩:=HF.out.at0 j hjl;have e0:=(HX.out.cell b _ hb).trans h0;clear h0;have HS:=G (pM (l:=fs.map (·.nm)) (s:=s) (j:=j) (by simpa using hjl));rw[List.getElem_map]at HS;generalize fs[j].nm=nm at*
   cases hs:(nm==s)with
   |true=>
    have HE:=G (show R=(j:Int) by rw[<-HQ.out,HS.out,if_pos (by simpa using hs)]);go_wp2_with fail;go_ret;exact⟨by rw[HE.out];rfl,HX.out⟩
   |false=>
    have HE:=G (show pN ((fs.map (·.nm)).drop (j+1)) s (j+1)=R by rw[<-HQ.out,HS.out,if_neg (qC hs)]);go_wp2_with fail;go_roundw
    case rel=>exact⟨j+1,by go_num,by omega,HE,HX,HB⟩
    case measure=>simp[intOf];omega
  ·have hlt': ¬(j:Int)<m:=by omega
   have HE:=G (show R= -1 by
    rw[<-HQ.out,aB (by simp;have:=HN.out;omega),pN])
   go_wp2_with fail;go_ret;exact⟨by rw[HE.out];rfl,HX.out⟩
theorem kB (p:Pg) (P:Nat->Prop) (w:World) (sv:Value) (B:Option Addr) (m d:Nat) (hF:fH w P (.slice B m d) p.vs) (hl:p.vs.length<=1073741824) (s:List UInt8):
  Calls prog 42 #[.agg #[.slice B m d,sv], .string (ag s)] w fun e w'=>e= .returned (.int .i64 (tX p.vs s))/\au w w':=by
 have hm:=hF.ln;rw[hm]at hl;have HN:=G hm;have HF:=G hF;have HE0:=G (O w (.cells #[.slice B m d,sv] 25));have HB0:=G (ax w 25 #[.slice B m d,sv]);have HQ0:=G (show pN ((p.vs.map (·.nm)).drop 0) s 0=tX p.vs s from rfl);clear hF hm;generalize tX p.vs s=R at*;generalize p.vs=fs at*;go_enter func42,ntmps42;go_wp2_with fail
 go_loopw [5] (fun vi wr=> ∃(j:Nat),vi= .int .i64 (j:Int)/\j<=m/\Hid (pN ((fs.map (·.nm)).drop j) s j=R)/\Hid (au w wr)/\Hid (aO wr w.heap.size 25 #[.slice B m d,sv])) (fun vi _=>m-(intOf vi).toNat)
 case atStart=>exact⟨0,rfl,az _,HQ0,HE0,HB0⟩
 case round=>
  obtain⟨j,rfl,hj,HQ,HX,HB⟩:=hrel;have c0:=HB.out.cell;by_cases hlt:j<m
  ·have hlt':(j:Int)<m:=by omega
   have hjl:j<fs.length:=by have:=HN.out;omega
   obtain⟨b,o,rfl,hP,hb,h0,_⟩:=HF.out.at0 j hjl;have e0:=(HX.out.cell b _ hb).trans h0;clear h0;have HS:=G (pM (l:=fs.map (·.nm)) (s:=s) (j:=j) (by simpa using hjl));rw[List.getElem_map]at HS;generalize fs[j].nm=nm at*
   cases hs:(nm==s)with
   |true=>
    have HE:=G (show R=(j:Int) by rw[<-HQ.out,HS.out,if_pos (by simpa using hs)]);go_wp2_with fail;go_ret;exact⟨by rw[HE.out];rfl,HX.out⟩
   |false=>
    have HE:=G (show pN ((fs.map (·.nm)).drop (j+1)) s (j+1)=R by rw[<-HQ.out,HS.out,if_neg (qC hs)]);go_wp2_with fail;go_roundw
    case rel=>exact⟨j+1,by go_num,by omega,HE,HX,HB⟩
    case measure=>simp[intOf];omega
  ·have hlt': ¬(j:Int)<m:=by omega
   have HE:=G (show R= -1 by
    rw[<-HQ.out,aB (by simp;have:=HN.out;omega),pN])
   go_wp2_with fail;go_ret;exact⟨by rw[HE.out];rfl,HX.out⟩
def b7 (l:List (List UInt8)) (s:List UInt8):Bool:=l.contains s
theorem kI (l r:List (List UInt8)) (s:List UInt8):b7 (l++r) s=(b7 l s||b7 r s):=by simp[b7]
theorem kH (x s:List UInt8):b7 [x] s=(s==x):=by
 unfold b7;rw[dH,List.contains_nil,ie]
theorem m_ {l:List (List UInt8)} {s:List UInt8} {j:Nat} (h:j<l.length):b7 (l.take (j+1)) s=(b7 (l.take j) s||s==l[j]):=by
 rw[aD h,kI,kH]
theorem kC (l:List (List UInt8)) (P:Nat->Prop) (w:World) (v:Value) (hN:j7 w P v l) (hl:l.length<=1073741824) (s:List UInt8):
  Calls prog 43 #[v, .string (ag s)] w fun e w'=>e= .returned (.bool (b7 l s))/\au w w':=by
 obtain⟨A,c,rfl,_⟩:=id hN;obtain⟨m,hm⟩: ∃m,l.length=m:=⟨_,rfl⟩
 rw[hm]at hN hl⊢;have HN:=G hm;have HF:=G hN;have HE0:=G (aH w);clear hN hm;go_enter func43,ntmps43;go_wp2_with fail
 go_loopw [5] (fun vi wr=> ∃(j:Nat),vi= .int .i64 (j:Int)/\j<=m/\Hid (b7 (l.take j) s=false)/\Hid (au w wr)) (fun vi _=>m-(intOf vi).toNat)
 case atStart=>exact⟨0,rfl,az _,G (by simp[b7]),HE0⟩
 case round=>
  obtain⟨j,rfl,hj,HQ,HX⟩:=hrel;by_cases hlt:j<m
  ·have hlt':(j:Int)<m:=by omega
   have hjl:j<l.length:=by have:=HN.out;omega
   obtain⟨b,o,rfl,hP,hb,h0⟩:=HF.out.at0 j hjl;have e0:=(HX.out.cell b _ hb).trans h0;clear h0;have HC:=G (m_ (s:=s) hjl);have HM:=G (ai hjl);generalize l[j]=nm at*
   cases hs:(nm==s)with
   |true=>
    have HE:=G (show b7 l s=true by
     have he:nm=s:=by simpa using hs
     subst he
     simpa[b7]using HM.out)
    go_wp2_with fail;go_ret;exact⟨by rw[HE.out];rfl,HX.out⟩
   |false=>
    have HE:=G (show b7 (l.take (j+1)) s=false by
     rw[HC.out,HQ.out,cK]
     exact beq_eq_false_iff_ne.2 (fun e=>qC hs e.symm))
    go_wp2_with fail;go_roundw
    case rel=>exact⟨j+1,by go_num,by omega,HE,HX⟩
    case measure=>simp[intOf];omega
  ·have hlt': ¬(j:Int)<m:=by omega
   have HE:=G (show b7 l s=false by
    have:=HQ.out
    rwa [aJ (by have:=HN.out;omega)]at this)
   go_wp2_with fail;go_ret;exact⟨by rw[HE.out];rfl,HX.out⟩
end
section
open Go.RowKit
def Cp (x:Ex):Prop:= ∀(P:Nat->Prop) (w:World) (A:Option Addr) (n c:Nat),b8 w P (.slice A n c) x.args->
 Calls prog 27 #[.agg #[.int .i64 x.k, .string (ag x.op), .string (ag x.nm), .string (ag x.tx), .int .i64 x.v, .slice A n c]] w fun e w'=>e= .returned (.int .i64 (ci x:Int))/\au w w'
theorem qN {k:Int} {op:List UInt8} {b:Bi} {l:List Ex} {j fr m:Nat} (h:j<l.length):dh k op b j fr m (l.drop j)=if k=5/\iE b j=true then dh k op b (j+1) (fr+1) (max m (ci l[j]+fr)) (l.drop (j+1))else if k=7/\lM op=false then dh k op b (j+1) fr (max m (ci l[j]+j)) (l.drop (j+1))else if k≠5 then dh k op b (j+1) fr (max m (ci l[j])) (l.drop (j+1))else dh k op b (j+1) fr m (l.drop (j+1)):=by
 rw[ay h,dh]
theorem jy (k:Int) (op:List UInt8) (b:Bi): ∀(l:List Ex) (i fr m:Nat),m<=dh k op b i fr m l
 | [],i,fr,m=>by rw[dh];exact an _
 |y::r,i,fr,m=>by
  rw[dh];split
  ·have:=jy k op b r (i+1) (fr+1) (max m (ci y+fr));omega
  ·split
   ·have:=jy k op b r (i+1) fr (max m (ci y+i));omega
   ·split
    ·have:=jy k op b r (i+1) fr (max m (ci y));omega
    ·exact jy k op b r (i+1) fr m
theorem mG (op:List UInt8):lM op=(op==[38,38]||op==[124,124]):=rfl
theorem qM (x:Ex) (hok:x.ok=true) (hw:x.wt<=1073741824) (hIH: ∀y∈x.args,Cp y):Cp x:=by
 intro P w A n c hR;obtain⟨k,op,nm,tx,v,xs⟩:=x;have hrn:=uA k op nm tx v xs hok;have hnl:=eL (.mk k op nm tx v xs);have hnw:=bF xs;rw[Ex.wt]at hw;simp only[Ex.wt]at hnl;have hwl:gt xs<=1073741823:=by omega
 simp only[Ex.k,Ex.op,Ex.nm,Ex.tx,Ex.v,Ex.args]at*;obtain⟨A',c',hv,hf⟩:=hR.form;injection hv with hv1 hv2 hv3;subst hv1 hv2 hv3;have HR:=G hR;have HI:=G hIH;obtain⟨N,hN⟩: ∃N,xs.length=N:=⟨_,rfl⟩
 have hNb:N<=1073741823:=by omega
 have HN:=G hN;rw[hN]at HR;obtain⟨Rv,hRv⟩: ∃R,ci (.mk k op nm tx v xs)=R:=⟨_,rfl⟩
 rw[hRv]at hrn hnl;have HQ0:=G (show dh k op (bD nm) 0 0 1 (xs.drop 0)=Rv from hrn);have HRv:=G hRv;have HE0:=G (O w (.cells #[.int .i64 k, .string (ag op), .string (ag nm), .string (ag tx), .int .i64 v, .slice A N c] 75));have HB0:=G (ax w 75 #[.int .i64 k, .string (ag op), .string (ag nm), .string (ag tx), .int .i64 v, .slice A N c]);have HLT:=G (fun(i:Nat) (hi:i<=1073741824) W=>pD nm i hi W);have hRb:Rv<=1073741824:=by omega
 clear hR hf hIH hw hRv hrn hnl hok;rw[hN];clear hN;go_enter func27,ntmps27;go_wp2_with fail
 go_loopw [3,4,5] (fun vm vf vi wr=> ∃(j m fr:Nat),vi= .int .i64 (j:Int)/\vm= .int .i64 (m:Int)/\vf= .int .i64 (fr:Int)/\j<=N/\fr<=j/\Hid (dh k op (bD nm) j fr m (xs.drop j)=Rv)/\Hid (au w wr)/\Hid (aO wr w.heap.size 75 #[.int .i64 k, .string (ag op), .string (ag nm), .string (ag tx), .int .i64 v, .slice A N c])) (fun _ _ vi _=>N-(intOf vi).toNat)
 case atStart=>exact⟨0,1,0,rfl,rfl,rfl,az _,az _,HQ0,HE0,HB0⟩
 case round=>
  obtain⟨j,m,fr,rfl,rfl,rfl,hj,hfr,HQ,HX,HB⟩:=hrel;have hm:m<=1073741824:=by have:=jy k op (bD nm) (xs.drop j) j fr m;rw[HQ.out]at this;omega
  have c0:=HB.out.cell;by_cases hlt:j<N
  ·have hlt':(j:Int)<N:=by omega
   have hjl:j<xs.length:=by have:=HN.out;omega
   obtain⟨b,o,a,rfl,hb,hP,h0,h1,h2,h3,h4,h5,hRa⟩:=HR.out.at_ j hjl;have HS:=G (qN (k:=k) (op:=op) (b:=bD nm) (fr:=fr) (m:=m) hjl);have hyb:=eL xs[j];have hyw:=bX (ai hjl);have hIy:=HI.out _ (ai hjl);generalize xs[j]=y at*;have e0:=(HX.out.cell b _ hb).trans h0;have e1:=(HX.out.cell b _ hb).trans h1;have e2:=(HX.out.cell b _ hb).trans h2;have e3:=(HX.out.cell b _ hb).trans h3;have e4:=(HX.out.cell b _ hb).trans h4;have e5:=(HX.out.cell b _ hb).trans h5;obtain⟨B,d,rfl,_⟩:=hRa.form;have HIy:=G (hIy P wr B _ d (hRa.keep (.of_ext HX.out) (Q:=P) (fun b hb _=>hb)));have hnb:ci y<=1073741823:=by omega
   have HL1:=G (HLT.out j (by omega));have HIA:=G (pC (bD nm) j);clear h0 h1 h2 h3 h4 h5 hRa hIy hyb hyw;generalize ci y=ny at*;generalize hrl:gI (bD nm) j=rl at*;clear hrl
   have HU:=G (show((rl.toNat:Int)==105)=(rl==105) by
    by_cases e:rl=105
    ·subst e;rfl
    ·have: ¬(rl.toNat:Int)=105:=fun h=>e (UInt8.toNat_inj.1 (by have:(105:UInt8).toNat=105:=rfl;omega))
     rw[beq_eq_false_iff_ne.2 this,beq_eq_false_iff_ne.2 e])
   rw[HIA.out]at HS;by_cases h5:k=5
   ·subst h5
    cases hia:(rl==105)with
    |true=>
     have hu:((rl.toNat:Int)==105)=true:=HU.out.trans hia;have HS2:=G (show dh 5 op (bD nm) j fr m (xs.drop j)=dh 5 op (bD nm) (j+1) (fr+1) (max m (ny+fr)) (xs.drop (j+1)) by rw[HS.out,if_pos ⟨rfl,hia⟩]);clear HS;go_wp2_with (first|(go_at_call 27;refine HIy.out.mono ?_;rintro e w2 ⟨rfl,hE⟩;have HX2:=G (HX.out.trans hE);have HB2:=G (HB.out.ext hE);clear c0;have c0:=HB2.out.cell;clear hE HIy)|(go_at_call 56;refine(HL1.out _).mono ?_;rintro e w3 ⟨rfl,hE⟩;have HX3:=G (HX2.out.trans hE);have HB3:=G (HB2.out.ext hE);clear c0;have c0:=HB3.out.cell;clear hE HL1));go_roundw
     case rel=>exact⟨j+1,max m (ny+fr),fr+1,by go_num,by congr 1;omega,by go_num,by omega,by omega,G (HS2.out.symm.trans HQ.out),HX3,HB3⟩
     case measure=>simp[intOf];omega
    |false=>
     have hu:((rl.toNat:Int)==105)=false:=HU.out.trans hia;have HS2:=G (show dh 5 op (bD nm) j fr m (xs.drop j)=dh 5 op (bD nm) (j+1) fr m (xs.drop (j+1)) by rw[HS.out,if_neg (fun h=>by rw[hia]at h;exact absurd h.2 (by decide)),if_neg (by simp),if_neg (by simp)]);clear HS;go_wp2_with (first|(go_at_call 27;refine HIy.out.mono ?_;rintro e w2 ⟨rfl,hE⟩;have HX2:=G (HX.out.trans hE);have HB2:=G (HB.out.ext hE);clear c0;have c0:=HB2.out.cell;clear hE HIy)|(go_at_call 56;refine(HL1.out _).mono ?_;rintro e w3 ⟨rfl,hE⟩;have HX3:=G (HX2.out.trans hE);have HB3:=G (HB2.out.ext hE);clear c0;have c0:=HB3.out.cell;clear hE HL1));go_roundw
     case rel=>exact⟨j+1,m,fr,by go_num,rfl,rfl,by omega,by omega,G (HS2.out.symm.trans HQ.out),HX3,HB3⟩
     case measure=>simp[intOf];omega
   ·have h5':(k==5)=false:=beq_eq_false_iff_ne.2 h5;by_cases h7:k=7
    ·subst h7
     cases hl1:(op==[38,38])with
     |true=>
      have HS2:=G (show dh 7 op (bD nm) j fr m (xs.drop j)=dh 7 op (bD nm) (j+1) fr (max m ny) (xs.drop (j+1)) by rw[HS.out,if_neg (by simp),if_neg (fun h=>by rw[mG,hl1]at h;exact absurd h.2 (by simp)),if_pos (by decide)]);clear HS;go_wp2_with (go_at_call 27;refine HIy.out.mono ?_;rintro e w2 ⟨rfl,hE⟩;have HX3:=G (HX.out.trans hE);have HB3:=G (HB.out.ext hE);clear c0;have c0:=HB3.out.cell;clear hE HIy);go_roundw
      case rel=>exact⟨j+1,max m ny,fr,by go_num,by congr 1;omega,rfl,by omega,by omega,G (HS2.out.symm.trans HQ.out),HX3,HB3⟩
      case measure=>simp[intOf];omega
     |false=>
      cases hl2:(op==[124,124])with
      |true=>
       have HS2:=G (show dh 7 op (bD nm) j fr m (xs.drop j)=dh 7 op (bD nm) (j+1) fr (max m ny) (xs.drop (j+1)) by rw[HS.out,if_neg (by simp),if_neg (fun h=>by rw[mG,hl1,hl2]at h;exact absurd h.2 (by simp)),if_pos (by decide)]);clear HS;go_wp2_with (go_at_call 27;refine HIy.out.mono ?_;rintro e w2 ⟨rfl,hE⟩;have HX3:=G (HX.out.trans hE);have HB3:=G (HB.out.ext hE);clear c0;have c0:=HB3.out.cell;clear hE HIy);go_roundw
       case rel=>exact⟨j+1,max m ny,fr,by go_num,by congr 1;omega,rfl,by omega,by omega,G (HS2.out.symm.trans HQ.out),HX3,HB3⟩
       case measure=>simp[intOf];omega
      |false=>
       have HS2:=G (show dh 7 op (bD nm) j fr m (xs.drop j)=dh 7 op (bD nm) (j+1) fr (max m (ny+j)) (xs.drop (j+1)) by rw[HS.out,if_neg (by simp),if_pos ⟨rfl,by rw[mG,hl1,hl2];rfl⟩]);clear HS;go_wp2_with (go_at_call 27;refine HIy.out.mono ?_;rintro e w2 ⟨rfl,hE⟩;have HX3:=G (HX.out.trans hE);have HB3:=G (HB.out.ext hE);clear c0;have c0:=HB3.out.cell;clear hE HIy);go_roundw
       case rel=>exact⟨j+1,max m (ny+j),fr,by go_num,by congr 1;omega,rfl,by omega,by omega,G (HS2.out.symm.trans HQ.out),HX3,HB3⟩
       case measure=>simp[intOf];omega
    ·have h7':(k==7)=false:=beq_eq_false_iff_ne.2 h7;have HS2:=G (show dh k op (bD nm) j fr m (xs.drop j)=dh k op (bD nm) (j+1) fr (max m ny) (xs.drop (j+1)) by rw[HS.out,if_neg (fun h=>h5 h.1),if_neg (fun h=>h7 h.1),if_pos h5]);clear HS;go_wp2_with (go_at_call 27;refine HIy.out.mono ?_;rintro e w2 ⟨rfl,hE⟩;have HX3:=G (HX.out.trans hE);have HB3:=G (HB.out.ext hE);clear c0;have c0:=HB3.out.cell;clear hE HIy);go_roundw
     case rel=>exact⟨j+1,max m ny,fr,by go_num,by congr 1;omega,rfl,by omega,by omega,G (HS2.out.symm.trans HQ.out),HX3,HB3⟩
     case measure=>simp[intOf];omega
  ·have hlt': ¬(j:Int)<N:=by omega
   have HM:=G (show m=Rv by
    have:=HQ.out;rw[aB (by have:=HN.out;omega),dh]at this
    exact this)
   go_wp2_with fail;go_ret;exact⟨by rw[HRv.out,<-HM.out];rfl,HX.out⟩
theorem my {l:List Ex} (h:gK l=true): ∀y∈l,y.ok=true:=by rw[gn]at h;exact fun y hy=>List.all_eq_true.1 h y hy
theorem r6 {x:Ex} (h:x.ok=true):gK x.args=true:=by
 obtain⟨k,op,nm,tx,v,xs⟩:=x;rw[Ex.ok,ak]at h;exact h.2
theorem kZ: ∀(m:Nat) (x:Ex),x.wt<=m->x.wt<=1073741824->x.ok=true->Cp x
 |0,x,h,_,_=>absurd h (by have:=x.wt_eq;omega)
 |m+1,x,h,hw,hok=>qM x hok hw fun y hy=>kZ m y (by have:=bX hy;have:=x.wt_eq;omega) (by have:=bX hy;have:=x.wt_eq;omega) (my (r6 hok) y hy)
end
section
open Go.RowKit
structure RK (p:Pg) (P:Nat->Prop) (g base:Nat) (A B C:Option Addr) (n c m d q e:Nat) (ls:List (List UInt8)) (w:World):Prop where
 blk:aO w g 116 #[.slice A n c, .slice B m d, .slice C q e]
 v:fH w P (.slice A n c) p.vs
 f:fO w P (.slice B m d) p.fs
 l:mU w base (.slice C q e) ls
section
variable {p:Pg} {P:Nat->Prop} {g base:Nat} {A B C:Option Addr} {n c m d q e:Nat} {ls:List (List UInt8)} {w w':World}
theorem RK.ext (h:RK p P g base A B C n c m d q e ls w) (he:au w w'):RK p P g base A B C n c m d q e ls w':=
 ⟨h.blk.ext he,h.v.keep (.of_ext he) (fun _ hb _=>hb),h.f.keep (.of_ext he) (fun _ hb _=>hb),cm h.l (fun b _ hb _=>he.obj hb)⟩
end
structure zY (p:Pg):Prop where
 v:p.vs.length<=1000000
 f:p.fs.length<=1000000
def qV {α:Type} (r:Except Er α):Value:= .agg #[.string (ag (ip r).1), .int .i64 (ip r).2]
section
variable {p:Pg} (hS:zY p) {P:Nat->Prop} {g base:Nat} {A B C:Option Addr} {n c m d q e:Nat} {ls:List (List UInt8)} {w:World} (h:RK p P g base A B C n c m d q e ls w)
include hS h
theorem jL (s:List UInt8):
  Calls prog 41 #[.pointer (some ⟨g,0,none⟩), .string (ag s)] w fun e w'=>e= .returned (.bool (cX p s))/\au w w':=by
 have HB:=G (gv s w);have HK:=G h;have HF:=G (fun(W:World) (hE:au w W)=>mm p P W (.slice A n c) B m d (h.ext hE).f (by have:=hS.f;omega) s);have HC:=G (show cX p s=((bD s).isSome||decide (0<=wy p.fs s)) by rw[vQ];rfl);clear h hS;generalize (bD s).isSome=b at*;generalize wg (bD s)=x1 at*;generalize nc (bD s)=x2 at*;generalize wy p.fs s=r at*
 cases b with
 |true=>
  go_enter func41,ntmps41;go_wp2_with (go_at_call 23;refine HB.out.mono ?_;rintro e w1 ⟨rfl,hE⟩;have HE:=G hE;clear hE HB);go_ret;exact⟨by rw[HC.out];rfl,HE.out⟩
 |false=>
  go_enter func41,ntmps41;go_wp2_with (first|(go_at_call 23;refine HB.out.mono ?_;rintro e w1 ⟨rfl,hE⟩;have HE:=G hE;have c0:=(HK.out.ext hE).blk.cell;clear hE HB)|(go_at_call 51;refine(HF.out _ HE.out).mono ?_;rintro e w2 ⟨rfl,hE⟩;have HE2:=G (HE.out.trans hE);clear hE HF));all_goals (go_ret;exact⟨by rw[HC.out];simp_all,HE2.out⟩)
omit hS h in
theorem fy (w:World):Calls prog 81 #[] w fun e w'=>e= .returned (.agg #[.string ⟨#[]⟩, .int .i64 0])/\au w w':=by
 have HE0:=G (O w (.cells #[.string ⟨#[]⟩, .int .i64 0] 112));have HB0:=G (ax w 112 #[.string ⟨#[]⟩, .int .i64 0]);have c0:=HB0.out.cell;go_enter func81,ntmps81;go_wp2_with fail;exact bodyPost_ret (v:= .agg #[.string ⟨#[]⟩, .int .i64 0]) (by simp[results,results81,go_sem,c0]) rfl ⟨rfl,HE0.out⟩
structure RC (w:World) (k:Nat) (x y:Value) (W:World):Prop where
 e:au w W
 b:aO W k 112 #[x,y]
 h:w.heap.size<=k
omit hS h in
theorem RC.new (w:World) (x y:Value):RC w w.heap.size x y (w.alloc (.cells #[x,y] 112)):=⟨O w _,ax w _ _,an _⟩
omit hS h in
theorem RC.ext {w W W':World} {k:Nat} {x y:Value} (h:RC w k x y W) (he:au W W'):RC w k x y W':=⟨h.e.trans he,h.b.ext he,h.h⟩
omit hS h in
theorem RC.put {w W:World} {k:Nat} {x y:Value} (h:RC w k x y W) (a b:Value):RC w k a b ((W.setCell ⟨k,0,none⟩ a).setCell ⟨k,1,none⟩ b):=
 ⟨(h.e.set (by show w.heap.size<=k;exact h.h) _).set (by show w.heap.size<=k;exact h.h) _,by simpa using(h.b.set 0 a).set 1 b,h.h⟩
theorem gH (hlen:ls.length<=1000000000) (s:List UInt8) (array:Bool):
  Calls prog 82 #[.pointer (some ⟨g,0,none⟩), .string (ag s), .bool array] w fun e w'=>e= .returned (qV (ko p (b7 ls) s array))/\au w w':=by
 have HN:=G (show ko p (b7 ls) s array=if b7 ls s=true then(if array=true then .error (s,16)else .ok ())else match dJ p.vs s with|none=>if cX p s=true then .error (s,16)else .error (s,15)|some v=>if decide (0<v.sz)≠array then .error (s,16)else .ok ()from rfl);have HK:=G h;have HIN:=G (fun(W:World) (hE:au w W)=>kC ls _ W _ (h.ext hE).l.rd (by omega) s);have HCA:=G (fun(W:World) (hE:au w W)=>jL hS (h.ext hE) s);have HFI:=G (fun(W:World)=>fy W);have HC0:=G (RC.new w (.string ⟨#[]⟩) (.int .i64 0));have c0:=HC0.out.b.cell;have k0:=(HK.out.ext HC0.out.e).blk.cell;generalize b7 ls s=lo at*;generalize cX p s=cb at*;generalize hnm:ko p (b7 ls) s array=R at*;clear hnm;rcases nj p.vs s with⟨hr,hv⟩|⟨i,hi,hr,hv,hnm⟩
 ·have HVA:=G (fun(W:World) (hE:au w W)=>kB p P W (.slice B m d) A n c (h.ext hE).v (by have:=hS.v;omega) s);rw[hr]at HVA;rw[hv]at HN;clear h hS hr hv
  cases lo with
  |true=>
   clear HVA HCA
   cases array with
   |true=>
    go_enter func82,ntmps82;go_wp2_with (go_at_call 43;refine(HIN.out _ HC0.out.e).mono ?_;rintro e w1 ⟨rfl,hE⟩;have HC1:=G (HC0.out.ext hE);have k1:=(HK.out.ext HC1.out.e).blk.cell;have c1:=HC1.out.b.cell;have z1:=HC1.out.b.frozen;clear c0 k0 hE HIN);have HZ:=G (HC1.out.put (.string (ag s)) (.int .i64 16));have cz:=HZ.out.b.cell;exact bodyPost_ret (v:= .agg #[.string (ag s), .int .i64 16]) (by simp[results,results82,go_sem,cz]) rfl ⟨by rw[HN.out];rfl,HZ.out.e⟩
   |false=>
    go_enter func82,ntmps82;go_wp2_with (first|(go_at_call 43;refine(HIN.out _ HC0.out.e).mono ?_;rintro e w1 ⟨rfl,hE⟩;have HC1:=G (HC0.out.ext hE);have k1:=(HK.out.ext HC1.out.e).blk.cell;have c1:=HC1.out.b.cell;have z1:=HC1.out.b.frozen;clear c0 k0 hE HIN)|(go_at_call 81;refine(HFI.out _).mono ?_;rintro e w5 ⟨rfl,hE⟩;have HC5:=G (HC1.out.ext hE);have c5:=HC5.out.b.cell;have z5:=HC5.out.b.frozen;clear hE HFI));have HZ:=G (HC5.out.put (.string ⟨#[]⟩) (.int .i64 0));have cz:=HZ.out.b.cell;exact bodyPost_ret (v:= .agg #[.string ⟨#[]⟩, .int .i64 0]) (by simp[results,results82,go_sem,cz]) rfl ⟨by rw[HN.out];rfl,HZ.out.e⟩
  |false=>
   cases cb with
   |true=>
    go_enter func82,ntmps82;go_wp2_with (first|(go_at_call 43;refine(HIN.out _ HC0.out.e).mono ?_;rintro e w1 ⟨rfl,hE⟩;have HC1:=G (HC0.out.ext hE);have k1:=(HK.out.ext HC1.out.e).blk.cell;have c1:=HC1.out.b.cell;have z1:=HC1.out.b.frozen;clear c0 k0 hE HIN)|(go_at_call 42;refine(HVA.out _ HC1.out.e).mono ?_;rintro e w2 ⟨rfl,hE⟩;have HC2:=G (HC1.out.ext hE);have k2:=(HK.out.ext HC2.out.e).blk.cell;have c2:=HC2.out.b.cell;have z2:=HC2.out.b.frozen;clear c1 z1 k1 hE HVA)|(go_at_call 41;refine(HCA.out _ HC2.out.e).mono ?_;rintro e w3 ⟨rfl,hE⟩;have HC3:=G (HC2.out.ext hE);have c3:=HC3.out.b.cell;have z3:=HC3.out.b.frozen;clear c2 z2 k2 hE HCA));have HZ:=G (HC3.out.put (.string (ag s)) (.int .i64 16));have cz:=HZ.out.b.cell;exact bodyPost_ret (v:= .agg #[.string (ag s), .int .i64 16]) (by simp[results,results82,go_sem,cz]) rfl ⟨by rw[HN.out];rfl,HZ.out.e⟩
   |false=>
    go_enter func82,ntmps82;go_wp2_with (first|(go_at_call 43;refine(HIN.out _ HC0.out.e).mono ?_;rintro e w1 ⟨rfl,hE⟩;have HC1:=G (HC0.out.ext hE);have k1:=(HK.out.ext HC1.out.e).blk.cell;have c1:=HC1.out.b.cell;have z1:=HC1.out.b.frozen;clear c0 k0 hE HIN)|(go_at_call 42;refine(HVA.out _ HC1.out.e).mono ?_;rintro e w2 ⟨rfl,hE⟩;have HC2:=G (HC1.out.ext hE);have k2:=(HK.out.ext HC2.out.e).blk.cell;have c2:=HC2.out.b.cell;have z2:=HC2.out.b.frozen;clear c1 z1 k1 hE HVA)|(go_at_call 41;refine(HCA.out _ HC2.out.e).mono ?_;rintro e w3 ⟨rfl,hE⟩;have HC3:=G (HC2.out.ext hE);have c3:=HC3.out.b.cell;have z3:=HC3.out.b.frozen;clear c2 z2 k2 hE HCA));have HZ:=G (HC3.out.put (.string (ag s)) (.int .i64 15));have cz:=HZ.out.b.cell;exact bodyPost_ret (v:= .agg #[.string (ag s), .int .i64 15]) (by simp[results,results82,go_sem,cz]) rfl ⟨by rw[HN.out];rfl,HZ.out.e⟩
 ·obtain⟨b,o,rfl,hP,hb,_,h1⟩:=h.v.at0 i hi;have HVA:=G (fun(W:World) (hE:au w W)=>kB p P W (.slice B m d) (some ⟨b,o,none⟩) n c (h.ext hE).v (by have:=hS.v;omega) s);rw[hr]at HVA;rw[hv]at HN;simp only at HN;have hin:i<n:=by have:=h.v.ln;omega
  have hin':(i:Int)<n:=by omega
  have HV1:=G h1;generalize p.vs[i].sz=sz at*;clear h hS hr hv hnm h1 HCA
  cases lo with
  |true=>
   clear HVA HV1
   cases array with
   |true=>
    go_enter func82,ntmps82;go_wp2_with (go_at_call 43;refine(HIN.out _ HC0.out.e).mono ?_;rintro e w1 ⟨rfl,hE⟩;have HC1:=G (HC0.out.ext hE);have k1:=(HK.out.ext HC1.out.e).blk.cell;have c1:=HC1.out.b.cell;have z1:=HC1.out.b.frozen;clear c0 k0 hE HIN);have HZ:=G (HC1.out.put (.string (ag s)) (.int .i64 16));have cz:=HZ.out.b.cell;exact bodyPost_ret (v:= .agg #[.string (ag s), .int .i64 16]) (by simp[results,results82,go_sem,cz]) rfl ⟨by rw[HN.out];rfl,HZ.out.e⟩
   |false=>
    go_enter func82,ntmps82;go_wp2_with (first|(go_at_call 43;refine(HIN.out _ HC0.out.e).mono ?_;rintro e w1 ⟨rfl,hE⟩;have HC1:=G (HC0.out.ext hE);have k1:=(HK.out.ext HC1.out.e).blk.cell;have c1:=HC1.out.b.cell;have z1:=HC1.out.b.frozen;clear c0 k0 hE HIN)|(go_at_call 81;refine(HFI.out _).mono ?_;rintro e w5 ⟨rfl,hE⟩;have HC5:=G (HC1.out.ext hE);have c5:=HC5.out.b.cell;have z5:=HC5.out.b.frozen;clear hE HFI));have HZ:=G (HC5.out.put (.string ⟨#[]⟩) (.int .i64 0));have cz:=HZ.out.b.cell;exact bodyPost_ret (v:= .agg #[.string ⟨#[]⟩, .int .i64 0]) (by simp[results,results82,go_sem,cz]) rfl ⟨by rw[HN.out];rfl,HZ.out.e⟩
  |false=>
   by_cases hz:0<sz
   ·have HM:=G (show R=if true≠array then .error (s,16)else .ok () by rw[HN.out,decide_eq_true hz];rfl);have hz3:=decide_eq_true hz
    cases array with
    |true=>
     go_enter func82,ntmps82;go_wp2_with (first|(go_at_call 43;refine(HIN.out _ HC0.out.e).mono ?_;rintro e w1 ⟨rfl,hE⟩;have HC1:=G (HC0.out.ext hE);have k1:=(HK.out.ext HC1.out.e).blk.cell;have c1:=HC1.out.b.cell;have z1:=HC1.out.b.frozen;clear c0 k0 hE HIN)|(go_at_call 42;refine(HVA.out _ HC1.out.e).mono ?_;rintro e w2 ⟨rfl,hE⟩;have HC2:=G (HC1.out.ext hE);have k2:=(HK.out.ext HC2.out.e).blk.cell;have c2:=HC2.out.b.cell;have z2:=HC2.out.b.frozen;have q1:=(HC2.out.e.cell b _ hb).trans HV1.out;clear c1 z1 k1 hE HVA)|(go_at_call 81;refine(HFI.out _).mono ?_;rintro e w5 ⟨rfl,hE⟩;have HC5:=G (HC2.out.ext hE);have c5:=HC5.out.b.cell;have z5:=HC5.out.b.frozen;clear hE HFI));have HZ:=G (HC5.out.put (.string ⟨#[]⟩) (.int .i64 0));have cz:=HZ.out.b.cell;exact bodyPost_ret (v:= .agg #[.string ⟨#[]⟩, .int .i64 0]) (by simp[results,results82,go_sem,cz]) rfl ⟨by rw[HM.out];rfl,HZ.out.e⟩
    |false=>
     go_enter func82,ntmps82;go_wp2_with (first|(go_at_call 43;refine(HIN.out _ HC0.out.e).mono ?_;rintro e w1 ⟨rfl,hE⟩;have HC1:=G (HC0.out.ext hE);have k1:=(HK.out.ext HC1.out.e).blk.cell;have c1:=HC1.out.b.cell;have z1:=HC1.out.b.frozen;clear c0 k0 hE HIN)|(go_at_call 42;refine(HVA.out _ HC1.out.e).mono ?_;rintro e w2 ⟨rfl,hE⟩;have HC2:=G (HC1.out.ext hE);have k2:=(HK.out.ext HC2.out.e).blk.cell;have c2:=HC2.out.b.cell;have z2:=HC2.out.b.frozen;have q1:=(HC2.out.e.cell b _ hb).trans HV1.out;clear c1 z1 k1 hE HVA));have HZ:=G (HC2.out.put (.string (ag s)) (.int .i64 16));have cz:=HZ.out.b.cell;exact bodyPost_ret (v:= .agg #[.string (ag s), .int .i64 16]) (by simp[results,results82,go_sem,cz]) rfl ⟨by rw[HM.out];rfl,HZ.out.e⟩
   ·have HM:=G (show R=if false≠array then .error (s,16)else .ok () by rw[HN.out,decide_eq_false hz];rfl);have hz3:=decide_eq_false hz;have hz4:(sz>0)=False:=by simp;omega
    cases array with
    |true=>
     go_enter func82,ntmps82;go_wp2_with (first|(go_at_call 43;refine(HIN.out _ HC0.out.e).mono ?_;rintro e w1 ⟨rfl,hE⟩;have HC1:=G (HC0.out.ext hE);have k1:=(HK.out.ext HC1.out.e).blk.cell;have c1:=HC1.out.b.cell;have z1:=HC1.out.b.frozen;clear c0 k0 hE HIN)|(go_at_call 42;refine(HVA.out _ HC1.out.e).mono ?_;rintro e w2 ⟨rfl,hE⟩;have HC2:=G (HC1.out.ext hE);have k2:=(HK.out.ext HC2.out.e).blk.cell;have c2:=HC2.out.b.cell;have z2:=HC2.out.b.frozen;have q1:=(HC2.out.e.cell b _ hb).trans HV1.out;clear c1 z1 k1 hE HVA));have HZ:=G (HC2.out.put (.string (ag s)) (.int .i64 16));have cz:=HZ.out.b.cell;exact bodyPost_ret (v:= .agg #[.string (ag s), .int .i64 16]) (by simp[results,results82,go_sem,cz]) rfl ⟨by rw[HM.out];rfl,HZ.out.e⟩
    |false=>
     go_enter func82,ntmps82;go_wp2_with (first|(go_at_call 43;refine(HIN.out _ HC0.out.e).mono ?_;rintro e w1 ⟨rfl,hE⟩;have HC1:=G (HC0.out.ext hE);have k1:=(HK.out.ext HC1.out.e).blk.cell;have c1:=HC1.out.b.cell;have z1:=HC1.out.b.frozen;clear c0 k0 hE HIN)|(go_at_call 42;refine(HVA.out _ HC1.out.e).mono ?_;rintro e w2 ⟨rfl,hE⟩;have HC2:=G (HC1.out.ext hE);have k2:=(HK.out.ext HC2.out.e).blk.cell;have c2:=HC2.out.b.cell;have z2:=HC2.out.b.frozen;have q1:=(HC2.out.e.cell b _ hb).trans HV1.out;clear c1 z1 k1 hE HVA)|(go_at_call 81;refine(HFI.out _).mono ?_;rintro e w5 ⟨rfl,hE⟩;have HC5:=G (HC2.out.ext hE);have c5:=HC5.out.b.cell;have z5:=HC5.out.b.frozen;clear hE HFI));have HZ:=G (HC5.out.put (.string ⟨#[]⟩) (.int .i64 0));have cz:=HZ.out.b.cell;exact bodyPost_ret (v:= .agg #[.string ⟨#[]⟩, .int .i64 0]) (by simp[results,results82,go_sem,cz]) rfl ⟨by rw[HM.out];rfl,HZ.out.e⟩
end
end
section
open Go.RowKit
def tM (p:Pg) (gl:Gl) (x:Ex):Prop:= ∀(P Q:Nat->Prop) (g base:Nat) (A B C:Option Addr) (n c m d q e:Nat) (ls:List (List UInt8)) (w:World) (D:Option Addr) (k l:Nat),RK p P g base A B C n c m d q e ls w->Dj p (b7 ls)->ls.length<=1000000000->b8 w Q (.slice D k l) x.args->
 Calls prog 83 #[.pointer (some ⟨g,0,none⟩), .agg #[.int .i64 x.k, .string (ag x.op), .string (ag x.nm), .string (ag x.tx), .int .i64 x.v, .slice D k l]] w fun e w'=>e= .returned (qV (io gl (b7 ls) x))/\au w w'
theorem tY (a b:UInt8):((a.toNat:Int)==(b.toNat:Int))=(a==b):=by
 by_cases e:a=b
 ·subst e;simp
 ·have: ¬(a.toNat:Int)=(b.toNat:Int):=fun h=>e (UInt8.toNat_inj.1 (by omega));rw[beq_eq_false_iff_ne.2 this,beq_eq_false_iff_ne.2 e]
theorem f9 {α:Type} (r:Except Er α) {a:List UInt8} {b:Int} (h:ip r=(a,b)):qV r= .agg #[.string (ag a), .int .i64 b]:=by unfold qV;rw[h]
theorem k9 (w:World) (cs:Array Value) (a b:Value):RC w (w.heap.size+1) a b ((w.alloc (.cells cs 75)).alloc (.cells #[a,b] 112)):=
 ⟨(O w _).alloc' _,by have:=ax (w.alloc (.cells cs 75)) 112 #[a,b];rwa [World.size_alloc]at this,Nat.le_succ _⟩
section
variable {p:Pg} {gl:Gl} (hS:zY p) (hG:GL p gl)
include hS hG
theorem jM (y:Ex) (ch:UInt8) (nm:List UInt8) (hX:ch=105->tM p gl y) (P Q:Nat->Prop) (g base:Nat) (A B C:Option Addr) (n c m d q e:Nat) (ls:List (List UInt8)) (w:World) (D:Option Addr) (N l:Nat) (hK:RK p P g base A B C n c m d q e ls w) (hD:Dj p (b7 ls)) (hlen:ls.length<=1000000000) (hR:b8 w Q (.slice D N l) y.args):
  Calls prog 129 #[.pointer (some ⟨g,0,none⟩), .agg #[.int .i64 y.k, .string (ag y.op), .string (ag y.nm), .string (ag y.tx), .int .i64 y.v, .slice D N l], .int .u8 (ch.toNat:Int), .string (ag nm)] w fun e w'=>e= .returned (qV (jR gl (b7 ls) ch nm y))/\au w w':=by
 obtain⟨k,op,ynm,tx,v,xs⟩:=y;have hE1:=O w (.cells #[.int .i64 k, .string (ag op), .string (ag ynm), .string (ag tx), .int .i64 v, .slice D N l] 75);have HE1:=G hE1;have hE2:=O (w.alloc (.cells #[.int .i64 k, .string (ag op), .string (ag ynm), .string (ag tx), .int .i64 v, .slice D N l] 75)) (.cells #[.string ⟨#[]⟩, .int .i64 0] 112);have HB0:=G ((ax w 75 #[.int .i64 k, .string (ag op), .string (ag ynm), .string (ag tx), .int .i64 v, .slice D N l]).ext hE2);have HC0:=G (k9 w #[.int .i64 k, .string (ag op), .string (ag ynm), .string (ag tx), .int .i64 v, .slice D N l] (.string ⟨#[]⟩) (.int .i64 0));simp only[Ex.k,Ex.op,Ex.nm,Ex.tx,Ex.v,Ex.args]at*;have b0:=HB0.out.cell;have c0:=HC0.out.b.cell;have z0:=HC0.out.b.frozen;have HRA:=G (show jR gl (b7 ls) ch nm (.mk k op ynm tx v xs)=if ch=105 then io gl (b7 ls) (.mk k op ynm tx v xs)else if ch≠97/\k=2 then .ok ()else if ch=115\/k≠3 then .error (nm,16)else d9 gl (b7 ls) ynm from rfl);generalize jR gl (b7 ls) ch nm (.mk k op ynm tx v xs)=R at*;have HFI:=G (fun(W:World)=>fy W)
 have HNM:=G (fun(W:World) (hE:au w W)=>show Calls prog 82 #[.pointer (some ⟨g,0,none⟩), .string (ag ynm), .bool true] W fun e w'=>e= .returned (qV (d9 gl (b7 ls) ynm))/\au W w' from by
  have:=gH hS (hK.ext hE) hlen ynm true
  rwa [lc hG hD]at this)
 have hu1:=tY ch 105;have hu2:=tY ch 97;have hu3:=tY ch 115;by_cases hc:ch=105
 ·have HXX:=G (fun(W:World) (hE:au w W)=>hX hc P Q g base A B C n c m d q e ls W D N l (hK.ext hE) hD hlen (hR.keep (.of_ext hE) (fun _ hb _=>hb)));obtain⟨⟨a,b⟩,hab⟩: ∃z,ip (io gl (b7 ls) (.mk k op ynm tx v xs))=z:=⟨_,rfl⟩
  have HV:=G (f9 _ hab);simp only[Ex.k,Ex.op,Ex.nm,Ex.tx,Ex.v,f9 _ hab]at HXX;subst hc;have HF:=G (show R=io gl (b7 ls) (.mk k op ynm tx v xs) by rw[HRA.out,if_pos rfl]);clear hK hD hR hX hE1 hE2 HNM HFI HRA hu1 hu2 hu3 hab;go_enter func129,ntmps129;go_wp2_with (go_at_call 83;refine(HXX.out _ HC0.out.e).mono ?_;rintro e w1 ⟨rfl,hE⟩;have HC1:=G (HC0.out.ext hE);clear c0 z0 b0;have c0:=HC1.out.b.cell;have z0:=HC1.out.b.frozen;clear hE HXX);have HZ:=G (HC1.out.put (.string (ag a)) (.int .i64 b));have cz:=HZ.out.b.cell;exact bodyPost_ret (v:= .agg #[.string (ag a), .int .i64 b]) (by simp[results,results129,go_sem,cz]) rfl ⟨by rw[HF.out,HV.out],HZ.out.e⟩
 ·have h105:(ch==105)=false:=beq_eq_false_iff_ne.2 hc;rw[h105]at hu1;have hu1:((ch.toNat:Int)==105)=false:=hu1;have HRB:=G (show R=if ch≠97/\k=2 then .ok ()else if ch=115\/k≠3 then .error (nm,16)else d9 gl (b7 ls) ynm by rw[HRA.out,if_neg hc]);obtain⟨⟨a,b⟩,hab⟩: ∃z,ip (d9 gl (b7 ls) ynm)=z:=⟨_,rfl⟩
  have HV:=G (f9 _ hab);rw[f9 _ hab]at HNM;clear hK hD hR hX hE1 hE2 HRA hab;by_cases h97:ch=97
  ·have hu2:((ch.toNat:Int)==97)=true:=by rw[h97];rfl
   have hu2':((ch.toNat:Int) !=97)=false:=by rw[h97];rfl
   have hu3:((ch.toNat:Int)==115)=false:=by rw[h97];rfl
   by_cases h3:k=3
   ·subst h3;have HF:=G (show R=d9 gl (b7 ls) ynm by rw[HRB.out,if_neg (fun h=>h.1 h97),if_neg (by rw[h97];decide)]);go_enter func129,ntmps129;go_wp2_with (go_at_call 82;refine(HNM.out _ HC0.out.e).mono ?_;rintro e w1 ⟨rfl,hE⟩;have HC1:=G (HC0.out.ext hE);clear c0 z0 b0;have c0:=HC1.out.b.cell;have z0:=HC1.out.b.frozen;clear hE HNM);have HZ:=G (HC1.out.put (.string (ag a)) (.int .i64 b));have cz:=HZ.out.b.cell;exact bodyPost_ret (v:= .agg #[.string (ag a), .int .i64 b]) (by simp[results,results129,go_sem,cz]) rfl ⟨by rw[HF.out,HV.out],HZ.out.e⟩
   ·have h3':(k==3)=false:=beq_eq_false_iff_ne.2 h3;have h3n:(k !=3)=true:=by simp[bne,h3']
    clear HNM;have HF:=G (show R= .error (nm,16) by rw[HRB.out,if_neg (fun h=>h.1 h97),if_pos (.inr h3)]);go_enter func129,ntmps129;go_wp2_with fail;have HZ:=G (k9 w #[.int .i64 k, .string (ag op), .string (ag ynm), .string (ag tx), .int .i64 v, .slice D N l] (.string (ag nm)) (.int .i64 16));have cz:=HZ.out.b.cell;exact bodyPost_ret (v:= .agg #[.string (ag nm), .int .i64 16]) (by simp[results,results129,go_sem,cz]) rfl ⟨by rw[HF.out];rfl,HZ.out.e⟩
  ·have hu2:((ch.toNat:Int)==97)=false:=by rw[show((ch.toNat:Int)==97)=(ch==97)from hu2];exact beq_eq_false_iff_ne.2 h97
   have hu2':((ch.toNat:Int) !=97)=true:=by simp[bne,hu2]
   by_cases h2:k=2
   ·subst h2;clear HNM;have HF:=G (show R= .ok () by rw[HRB.out,if_pos ⟨h97,rfl⟩]);go_enter func129,ntmps129;go_wp2_with (go_at_call 81;refine(HFI.out _).mono ?_;rintro e w1 ⟨rfl,hE⟩;have HC1:=G (HC0.out.ext hE);clear c0 z0 b0;have c0:=HC1.out.b.cell;have z0:=HC1.out.b.frozen;clear hE HFI);have HZ:=G (HC1.out.put (.string ⟨#[]⟩) (.int .i64 0));have cz:=HZ.out.b.cell;exact bodyPost_ret (v:= .agg #[.string ⟨#[]⟩, .int .i64 0]) (by simp[results,results129,go_sem,cz]) rfl ⟨by rw[HF.out];rfl,HZ.out.e⟩
   ·have h2':(k==2)=false:=beq_eq_false_iff_ne.2 h2;by_cases h115:ch=115
    ·have hu3:((ch.toNat:Int)==115)=true:=by rw[h115];rfl
     clear HNM;have HF:=G (show R= .error (nm,16) by rw[HRB.out,if_neg (fun h=>h2 h.2),if_pos (.inl h115)]);go_enter func129,ntmps129;go_wp2_with fail;have HZ:=G (k9 w #[.int .i64 k, .string (ag op), .string (ag ynm), .string (ag tx), .int .i64 v, .slice D N l] (.string (ag nm)) (.int .i64 16));have cz:=HZ.out.b.cell;exact bodyPost_ret (v:= .agg #[.string (ag nm), .int .i64 16]) (by simp[results,results129,go_sem,cz]) rfl ⟨by rw[HF.out];rfl,HZ.out.e⟩
    ·have hu3:((ch.toNat:Int)==115)=false:=by rw[show((ch.toNat:Int)==115)=(ch==115)from hu3];exact beq_eq_false_iff_ne.2 h115
     by_cases h3:k=3
     ·subst h3;have HF:=G (show R=d9 gl (b7 ls) ynm by rw[HRB.out,if_neg (fun h=>h2 h.2),if_neg (fun h=>h.elim h115 (fun h=>h rfl))]);go_enter func129,ntmps129;go_wp2_with (go_at_call 82;refine(HNM.out _ HC0.out.e).mono ?_;rintro e w1 ⟨rfl,hE⟩;have HC1:=G (HC0.out.ext hE);clear c0 z0 b0;have c0:=HC1.out.b.cell;have z0:=HC1.out.b.frozen;clear hE HNM);have HZ:=G (HC1.out.put (.string (ag a)) (.int .i64 b));have cz:=HZ.out.b.cell;exact bodyPost_ret (v:= .agg #[.string (ag a), .int .i64 b]) (by simp[results,results129,go_sem,cz]) rfl ⟨by rw[HF.out,HV.out],HZ.out.e⟩
     ·have h3':(k==3)=false:=beq_eq_false_iff_ne.2 h3;have h3n:(k !=3)=true:=by simp[bne,h3']
      clear HNM;have HF:=G (show R= .error (nm,16) by rw[HRB.out,if_neg (fun h=>h2 h.2),if_pos (.inr h3)]);go_enter func129,ntmps129;go_wp2_with fail;have HZ:=G (k9 w #[.int .i64 k, .string (ag op), .string (ag ynm), .string (ag tx), .int .i64 v, .slice D N l] (.string (ag nm)) (.int .i64 16));have cz:=HZ.out.b.cell;exact bodyPost_ret (v:= .agg #[.string (ag nm), .int .i64 16]) (by simp[results,results129,go_sem,cz]) rfl ⟨by rw[HF.out];rfl,HZ.out.e⟩
end
def mV:=@i6.old
def mW:=@i6.at_
end
end Go.Proofs.YtddomeddabfinaaGreatDoor
