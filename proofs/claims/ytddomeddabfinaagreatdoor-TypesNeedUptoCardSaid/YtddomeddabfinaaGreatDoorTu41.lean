/-
  Parts of the proof: SrB SrC SrD SrE.
-/
import Derived.Test.YtddomeddabfinaaGreatDoorTu00
import Derived.Deep.RegionWith
import Derived.Test.YtddomeddabfinaaGreatDoorTu40
import Derived.Test.YtddomeddabfinaaGreatDoorTu19
import Derived.BigRegion
set_option maxRecDepth 100000
set_option maxHeartbeats 8000000
set_option linter.unusedVariables false
set_option linter.unusedSimpArgs false
set_option linter.unusedSectionVars false
namespace Go.Proofs.YtddomeddabfinaaGreatDoor
open Go.Proofs.Tryz
section
open Go.RowKit
def SF (g fb lb bf bi ba:Nat) (l s v:Int) (w w':World):Prop:=Mv (fun k=>k=g\/k=fb) w w'/\aO w' g 127 (ri bf bi ba l s)/\aO w' fb 182 #[.map (some lb), .bool true, .int .i32 v]
section
variable {g fb lb bf bi ba:Nat} {l s:Int} {w w' W:World}
theorem SM.tr {l' s':Int} (h:SM g bf bi ba l' s' w W) (k:SM g bf bi ba l s W w'):SM g bf bi ba l s w w':=⟨h.1.trans k.1,k.2⟩
theorem Aj (h:SM g bf bi ba l s w W) (hf:Hid (aO W fb 182 #[.map (some lb), .bool false, .int .i32 0])) (hn:g≠fb) (v:Int):SF g fb lb bf bi ba l s v w ((W.setCell ⟨fb,2,none⟩ (.int .i32 v)).setCell ⟨fb,1,none⟩ (.bool true)):=
 ⟨((h.1.mono fun k _ e=> .inl e).set (p:=⟨fb,2,none⟩) (fun _=> .inr rfl) _).set (p:=⟨fb,1,none⟩) (fun _=> .inr rfl) _,(h.2.far (p:=⟨fb,2,none⟩) hn _).far (p:=⟨fb,1,none⟩) hn _,(hf.out.set 2 (.int .i32 v)).set 1 (.bool true)⟩
theorem uC {P:Nat->Prop} {v:Value} {xs:List Ex} (h:Hid (b8 w P v xs)) (hM:SM g bf bi ba l s w W) (hP: ∀b,P b->b≠g):Hid (b8 W P v xs):=b8.keep h (hM.1.keepP fun k hk _ e=>hP k hk e) fun b hb _=>hb
end
theorem yw (g fb lb bf bi ba:Nat) (l s:Int) (nm:ByteArray) (A:Option Addr) (n c:Nat) (A2 A3:Option Addr) (n2 c2 n3 c3:Nat) (P:Nat->Prop) (v:Int) (r:List Ex) (w:World) (hl:10<l) (hu:l<=1000) (hv:IntKind.i32.wrap v=v) (hb:aO w g 127 (ri bf bi ba l s))
  (hf:aO w fb 182 #[.map (some lb), .bool false, .int .i32 0]) (hn:g≠fb) (hR:b8 w P (.slice A n c) (.mk 1 [] [] [] v []::r)) (hP: ∀b,P b->b≠g):
  Calls prog 130 #[.pointer (some ⟨g,0,none⟩), .pointer (some ⟨fb,0,none⟩), .agg #[.int .i64 6, .string nm, .slice A n c, .slice A2 n2 c2, .slice A3 n3 c3]] w fun e w'=>e= .returned (.tuple #[])/\SF g fb lb bf bi ba (l-1-1) s v w w':=by
 have hmf: ∀(fn:Fn) (first cap:Array Value) (w:World),(Instr.makeFunc fn first cap).run prog w= .ok (.func fn first cap) w:=fun _ _ _ _=>rfl;have HS:=G (fun W h=>ol g bf bi ba l s W (by omega) hu h);have HV:=G (fun pm pf ps W h h0 h1 h2 hR=>ut g bf bi ba (l-1) s fb pm pf ps 6 nm A n c A2 A3 n2 c2 n3 c3 P v r W (by omega) (by omega) hv h h0 h1 h2 hR);have hg:=hb.lt;have hg2:=hf.lt;have m:=G hb;have f:=G hf;have R:=G hR;have HP:=G hP;clear hb hf hR hP hl hu;go_enter func130,ntmps130
 go_upto_region 1 with fail
 generalize hW:World.alloc (World.alloc (World.alloc w _) _) _=W0;obtain⟨hX,b0,b1,b2,_⟩:=Ck hW;replace m:=kb m hX;replace f:=kb f hX;replace R:=G (R.out.xt hX);replace hX:=G hX;clear hW;have c0:=b0.out.cell
 go_upto_region 2 with(go_at_call 162;refine(HS.out _ m.out).mono ?_;rintro e w1 ⟨rfl,hM⟩;clear c0;replace b0:=km b0 hM.1 (by omega);replace b1:=km b1 hM.1 (by omega);replace b2:=km b2 hM.1 (by omega);replace f:=km f hM.1 (fun e=>hn e.symm);replace R:=uC R hM HP.out;replace m:=G hM.2;have HM:=G (hM.pre hX.out);clear hM HS hX)
 have f2:=b2.out.cell;go_wp2_with fail;clear f2;have hD:au w1 w1.drew:=au.drew (aH _);replace HM:=G (HM.out.fwd hD);replace m:=kb m hD;replace b0:=kb b0 hD;replace b1:=kb b1 hD;replace b2:=kb b2 hD;replace f:=kb f hD;replace R:=G (R.out.xt hD);clear hD;have f0:=b0.out.cell;have f1:=b1.out.cell;have f2:=b2.out.cell;have fk:=f.out.cell
 go_region_with (go_at_call 163;refine(HV.out _ _ _ _ m.out b0.out b1.out b2.out R.out).mono ?_;rintro e w2 ⟨rfl,hM⟩;clear f0 f1 f2 fk;have fq:=km f hM.1 (fun e=>hn e.symm);have f0:=(km b0 hM.1 (by omega)).out.cell;have f1:=(km b1 hM.1 (by omega)).out.cell;have f2:=(km b2 hM.1 (by omega)).out.cell;have fk:=fq.out.cell;have fz:=fq.out.frozen;have HF:=G (Aj (HM.out.tr hM) fq hn v);clear hM fq)
 all_goals (go_wp2_with fail;exact bodyPost_end (results_none rfl _ _ _) rfl ⟨rfl,HF.out⟩)
theorem yx (g fb bf bi ba:Nat) (l s:Int) (nm:List UInt8) (hnm:nm.length<=maxLen) (A:Option Addr) (n c:Nat) (A2 A3:Option Addr) (n2 c2 n3 c3:Nat) (P:Nat->Prop) (i v:Int) (r:List Ex) (B:Option Addr) (k d:Nat) (L:KF) (w:World) (hl:10<l) (hu:l<=1000) (hi:IntKind.i32.wrap i=i) (hi2:IntKind.i64.wrap i=i) (hi3: ¬i<0) (hik:(k:Int)<=i) (hv:IntKind.i32.wrap v=v)
  (hb:aO w g 127 (ri bf bi ba l s)) (hm:bU w ba L) (hL:(L nm).getD (.slice none 0 0)= .slice B k d) (hn:ba≠g) (hR:b8 w P (.slice A n c) (.mk 1 [] [] [] i []:: .mk 1 [] [] [] v []::r)) (hP: ∀b,P b->b≠g):
  Calls prog 130 #[.pointer (some ⟨g,0,none⟩), .pointer (some ⟨fb,0,none⟩), .agg #[.int .i64 3, .string (ag nm), .slice A n c, .slice A2 n2 c2, .slice A3 n3 c3]] w fun e w'=>e=vO 2/\SM g bf bi ba (l-1-1-1) s w w':=by
 have hmf: ∀(fn:Fn) (first cap:Array Value) (w:World),(Instr.makeFunc fn first cap).run prog w= .ok (.func fn first cap) w:=fun _ _ _ _=>rfl;have HS:=G (fun W h=>ol g bf bi ba l s W (by omega) hu h);have HV:=G (fun pm pf ps W h h0 h1 h2 hR=>ut g bf bi ba (l-1) s fb pm pf ps 3 (ag nm) A n c A2 A3 n2 c2 n3 c3 P i (.mk 1 [] [] [] v []::r) W (by omega) (by omega) hi h h0 h1 h2 hR);have HN:=G (fun W o1 o2 o3 A n c h=>uv g bf bi ba (l-1-1) s (some ⟨fb,0,none⟩) o1 o2 o3 A n c v W (by omega) (by omega) hv h);have HEl:=G (fun W h hm=>wS g bf bi ba (l-1-1-1) s nm hnm B k d i hi3 hik L hL W hi2 h hm);have hg:=hb.lt;have m:=G hb;have a:=G hm;have R:=G hR;have HP:=G hP;have hn2:2<=n:=by obtain⟨A',c',e,_⟩:=hR.form;injection e with _ e _;simp at e;omega
 have hn3:(1:Int)<(n:Int):=by omega
 have hn4:1<n:=by omega
 clear hb hm hL hR hP hl hu hi hi2 hi3 hik hn2 hv;go_enter func130,ntmps130
 go_upto_region 1 with fail
 generalize hW:World.alloc (World.alloc (World.alloc w _) _) _=W0;obtain⟨hX,b0,b1,b2,_⟩:=Ck hW;replace m:=kb m hX;replace a:=G (a.out.ext hX);replace R:=G (R.out.xt hX);replace hX:=G hX;clear hW;have c0:=b0.out.cell
 go_upto_region 2 with(go_at_call 162;refine(HS.out _ m.out).mono ?_;rintro e w1 ⟨rfl,hM⟩;clear c0;replace b0:=km b0 hM.1 (by omega);replace b1:=km b1 hM.1 (by omega);replace b2:=km b2 hM.1 (by omega);replace a:=G (hM.1.map a.out hn);replace R:=uC R hM HP.out;replace m:=G hM.2;have HM:=G (hM.pre hX.out);clear hM HS hX)
 have f2:=b2.out.cell
 go_upto_region 10 with(go_at_call 163;refine(HV.out _ _ _ _ m.out b0.out b1.out b2.out R.out).mono ?_;rintro e w2 ⟨rfl,hM⟩;clear f2;replace b0:=km b0 hM.1 (by omega);replace b1:=km b1 hM.1 (by omega);replace b2:=km b2 hM.1 (by omega);replace a:=G (hM.1.map a.out hn);replace R:=uC R hM HP.out;replace m:=G hM.2;replace HM:=G (HM.out.tr hM);have f2:=b2.out.cell;clear hM HV)
 obtain⟨b,o,E,d1,hAq,hbs,_,hY,_⟩:=R.out.yc 1 (by simp);subst hAq;simp only[aK,aE,bM,Ex.k,Ex.op,Ex.nm,Ex.tx,Ex.v,Ex.args,ah]at hY;have HY:=G hY;clear hY f2;refine am 6 1 [] mixed (by kernel_rfl) trivial ?_;repeat (refine sx ?_ (fun w1 hU=> ?_) ?_;rotate_left;(focus have f0:=(b0.out.ext hU.un).cell;have f1:=(b1.out.ext hU.un).cell;have f2:=(b2.out.ext hU.un).cell;obtain⟨e0,e1,e2,e3,e4,e5⟩:=HY.out.kp (.of_ext (P:=fun _=>True) hU.un) trivial hbs;clear hU;go_simp<;>with_reducible rfl);simp only[aU,aT,aS,aR,aQ])
 intro w7 hw7 _;simp only[ab,ap];have hD:=hw7.un;replace HM:=G (HM.out.fwd hD);replace m:=kb m hD;replace b0:=kb b0 hD;replace b2:=kb b2 hD;replace a:=G (a.out.ext hD);clear hD hw7 R
 go_upto_region 11 with(go_at_call 164;refine(HN.out _ _ _ _ _ _ _ m.out).mono ?_;rintro e w8 ⟨rfl,hM⟩;replace b0:=km b0 hM.1 (by omega);replace b2:=km b2 hM.1 (by omega);replace a:=G (hM.1.map a.out hn);replace m:=G hM.2;replace HM:=G (HM.out.tr hM);clear hM HN)
 have f0:=b0.out.cell;have f2:=b2.out.cell;go_wp2_with (go_at_call 166;refine(HEl.out _ m.out a.out).mono ?_;rintro e w9 ⟨he,rfl⟩;unfold vO at he;subst he);exact⟨rfl,rfl,HM.out⟩
end
section
open Go.RowKit
inductive zW (g fb lb bf bi ba:Nat) (l s v:Int) (w:World):Bool->Ending->World->Prop where
 |ok {w'} (h:SF g fb lb bf bi ba l s v w w'):zW g fb lb bf bi ba l s v w true (.returned (.tuple #[])) w'
 |bad {w'} (h:SM g bf bi ba l s w w'):zW g fb lb bf bi ba l s v w false (.panicked [{v:= .iface 129 (.agg #[.int .i64 2]),recovered:=false}]) w'
section
variable {g fb lb bf bi ba:Nat} {l s v:Int} {w w' W:World}
theorem SF.pre (h:SF g fb lb bf bi ba l s v W w') (hX:au w W):SF g fb lb bf bi ba l s v w w':=⟨(jQ hX).trans h.1,h.2⟩
end
theorem uu (r:Bool) (g fb lb bf bi ba:Nat) (l s v:Int) (A:Option Addr) (c:Nat) (P:Nat->Prop) (k:Int) (nm:List UInt8) (ex:List Ex) (w:World) (hR:cM w P (.slice A 1 c) [.mk k nm ex [] []])
  (hC: ∀(W:World) (A1 A2 A3:Option Addr) (n1 c1 n2 c2 n3 c3:Nat),au w W->b8 W P (.slice A1 n1 c1) ex->Calls prog 130 #[.pointer (some ⟨g,0,none⟩), .pointer (some ⟨fb,0,none⟩), .agg #[.int .i64 k, .string (ag nm), .slice A1 n1 c1, .slice A2 n2 c2, .slice A3 n3 c3]] W (zW g fb lb bf bi ba l s v W r)):
  Calls prog 86 #[.pointer (some ⟨g,0,none⟩), .pointer (some ⟨fb,0,none⟩), .slice A 1 c] w (zW g fb lb bf bi ba l s v w r):=by
 obtain⟨b,o,e,bv,lv,rfl,hb,_,h0,h1,h2,h3,h4,hRe,hRb,hRl⟩:=hR.at_ 0 (by simp);simp only[aE,aW,bg,St.k,St.nm,St.ex,St.body,St.els]at h0 h1 hRe hRb hRl;obtain⟨A1,c1,rfl,_⟩:=hRe.form;obtain⟨A2,c2,rfl,_⟩:=hRb.form;obtain⟨A3,c3,rfl,_⟩:=hRl.form;simp only[ah]at h3 h4;have HC:=G (fun W (h:au w W)=>hC W A1 A2 A3 _ c1 0 c2 0 c3 h (hRe.xt h));generalize ex.length=n1 at*;clear hR hRe hRb hRl hC;go_enter func86,ntmps86;go_wp2_with fail
 go_loopw [10] (fun vi wr=>vi= .int .i64 0/\wr=w) (fun _ _=>0)
 case atStart=>exact⟨rfl,rfl⟩
 case round=>
  obtain⟨rfl,rfl⟩:=hrel
  go_upto_region 3 with fail
  generalize hW:World.alloc wr _=W0;obtain⟨hX,b0,_⟩:=wk hW;clear hW h0 h1 h2 h3 h4;replace hX:=G hX;have f0:=b0.out.cell
  cases r
  ·go_upto_region 4 with(go_at_call 130;refine(HC.out _ hX.out).mono ?_;intro e w1 h;cases h;rename_i h;have HM:=G (h.pre hX.out);clear h)
   exact⟨rfl, .bad HM.out⟩
  ·go_upto_region 4 with(go_at_call 130;refine(HC.out _ hX.out).mono ?_;intro e w1 h;cases h;rename_i h;have HM:=G (h.pre hX.out);clear h)
   have fk:=HM.out.2.2.cell;go_wp2_with fail;exact bodyPost_ret (results_none rfl _ _ _) rfl (.ok HM.out)
theorem wT (g fb:Nat) (A:Option Addr) (c:Nat) (w:World):Calls prog 85 #[.pointer (some ⟨g,0,none⟩), .pointer (some ⟨fb,0,none⟩), .slice A 0 c] w fun e w'=>e= .returned (.tuple #[])/\au w w':=by
 go_enter func85,ntmps85;go_wp2_with fail
 go_loopw [10] (fun vi wr=>vi= .int .i64 0/\wr=w) (fun _ _=>0)
 case atStart=>exact⟨rfl,rfl⟩
 case round=>
  obtain⟨rfl,rfl⟩:=hrel;go_wp2_with fail;exact bodyPost_end (results_none rfl _ _ _) rfl ⟨rfl,aH _⟩
theorem yy (g fb:Nat) (A:Option Addr) (c:Nat) (P:Nat->Prop) (k:Int) (nm:List UInt8) (ex:List Ex) (w:World) (hR:cM w P (.slice A 1 c) [.mk k nm ex [] []]) (hk:(k==1)=false):
  Calls prog 85 #[.pointer (some ⟨g,0,none⟩), .pointer (some ⟨fb,0,none⟩), .slice A 1 c] w fun e w'=>e= .returned (.tuple #[])/\au w w':=by
 obtain⟨b,o,e,bv,lv,rfl,hb,_,h0,h1,h2,h3,h4,hRe,hRb,hRl⟩:=hR.at_ 0 (by simp);simp only[aE,aW,bg,St.k,St.nm,St.ex,St.body,St.els]at h0 h1 hRe hRb hRl;obtain⟨A1,c1,rfl,_⟩:=hRe.form;obtain⟨A2,c2,rfl,_⟩:=hRb.form;obtain⟨A3,c3,rfl,_⟩:=hRl.form;simp only[ah]at h3 h4;have HD:=G (fun A c W=>wT g fb A c W);generalize ex.length=n1 at*;clear hR hRe hRb hRl;go_enter func85,ntmps85;go_wp2_with fail
 go_loopw [10] (fun vi wr=>(vi= .int .i64 0/\wr=w)\/(vi= .int .i64 1/\Hid (au w wr))) (fun vi _=>1-(intOf vi).toNat)
 case atStart=>exact .inl ⟨rfl,rfl⟩
 case round=>
  rcases hrel with⟨rfl,rfl⟩|⟨rfl,hX⟩
  ·go_upto_region 3 with fail
   generalize hW:World.alloc wr _=W0;obtain⟨hX,b0,_⟩:=wk hW;clear hW h0 h1 h2 h3 h4;replace hX:=G hX;have f0:=b0.out.cell
   go_upto_region 6 with(go_at_call 85;refine(HD.out _ _ _).mono ?_;rintro e w1 ⟨rfl,hE⟩;clear f0;replace b0:=kb b0 hE;replace hX:=kx hX hE;have f0:=b0.out.cell;clear hE)
   go_wp2_with (go_at_call 85;refine(HD.out _ _ _).mono ?_;rintro e w2 ⟨rfl,hE⟩;clear f0;replace hX:=kx hX hE;clear hE);go_roundw
   case rel=>exact .inr ⟨by go_num,hX⟩
   case measure=>simp[intOf]
  ·go_wp2_with fail;exact bodyPost_end (results_none rfl _ _ _) rfl ⟨rfl,hX.out⟩
end
section
open Go.RowKit
inductive Cn (g bf bi ba:Nat) (l v:Int) (w:World):Bool->Ending->World->Prop where
 |ok {w'} (h:SM g bf bi ba l 0 w w'):Cn g bf bi ba l v w true (.returned (.int .i32 v)) w'
 |bad {w'} (h:SM g bf bi ba l 32 w w'):Cn g bf bi ba l v w false (.panicked [{v:= .iface 129 (.agg #[.int .i64 2]),recovered:=false}]) w'
theorem zq {w W:World} {g:Nat} {tm t:TypeId} {ms cs:Array Value} {v:Value} (h:((w.setCell ⟨g,5,none⟩ v).alloc (.map #[] 0)).alloc (.cells cs t)=W) (hb:Hid (aO w g tm ms)):
  Mv (fun k=>k=g) w W/\Hid (aO W g tm (ms.setIfInBounds 5 v))/\Hid (aO W (w.heap.size+1) t cs):=by
 subst h;have hs:(w.setCell ⟨g,5,none⟩ v).heap.size=w.heap.size:=by simp[World.setCell]
 have h1:=((O (w.setCell ⟨g,5,none⟩ v) (.map #[] 0)).alloc' (.cells cs t))
 refine⟨((i7 (fun k=>k=g) w).set (p:=⟨g,5,none⟩) (fun _=>rfl) v).trans (.of_ext h1),(aO.set hb 5 v).ext h1,?_⟩;have:=ax ((w.setCell ⟨g,5,none⟩ v).alloc (.map #[] 0)) t cs;rwa [World.size_alloc,hs]at this
theorem yv (r:Bool) (g bf bi ba:Nat) (l l' v:Int) (nm0:List UInt8) (Ap Ab:Option Addr) (cp cb:Nat) (P:Nat->Prop) (k:Int) (nm:List UInt8) (ex:List Ex) (w:World) (hR:cM w P (.slice Ab 1 cb) [.mk k nm ex [] []]) (hk:(k==1)=false) (hw:dq [.mk k nm ex [] []]<=6000000)
  (hfl:kt ⟨nm0,[],[.mk k nm ex [] []]⟩=32) (hP: ∀b,P b->b≠g) (hb:aO w g 127 (ri bf bi ba l 0))
  (hC: ∀(fb lb:Nat) (W:World) (A1 A2 A3:Option Addr) (n1 c1 n2 c2 n3 c3:Nat),Mv (fun k=>k=g) w W->g≠fb->aO W g 127 (ri bf bi ba l 32)->aO W fb 182 #[.map (some lb), .bool false, .int .i32 0]->b8 W P (.slice A1 n1 c1) ex->
   Calls prog 130 #[.pointer (some ⟨g,0,none⟩), .pointer (some ⟨fb,0,none⟩), .agg #[.int .i64 k, .string (ag nm), .slice A1 n1 c1, .slice A2 n2 c2, .slice A3 n3 c3]] W (zW g fb lb bf bi ba l' 32 v W r)):
  Calls prog 48 #[.pointer (some ⟨g,0,none⟩), .agg #[.string (ag nm0), .slice Ap 0 cp, .slice Ab 1 cb], .slice none 0 0] w (Cn g bf bi ba l' v w r):=by
 have hmm:= @run_makeMap prog
 have HFR:=G (fun W (h:au w W)=>show Calls prog 24 #[.agg #[.string (ag nm0), .slice Ap 0 cp, .slice Ab 1 cb]] W fun e w'=>e= .returned (.int .i64 32)/\au W w' from by
  have:=l_ nm0 [] [.mk k nm ex [] []] hw (by simp) P W Ap Ab cp cb (hR.xt h);rw[hfl]at this
  exact this)
 have hg:=hb.lt;have m:=G hb;have R:=G hR;have HP:=G hP;have HC:=G hC;have HD:=G (fun fb W hR=>yy g fb Ab cb P k nm ex W hR hk);clear hR hw hfl hP hb hC hk;go_enter func48,ntmps48
 go_upto_region 1 with fail
 generalize hW:World.alloc w _=W0;obtain⟨hX,b0,hs⟩:=wk hW;replace m:=kb m hX;replace hX:=G hX;clear hW;have f0:=b0.out.cell
 go_upto_region 2 with(go_at_call 24;refine(HFR.out _ hX.out).mono ?_;rintro e w1 ⟨rfl,hE⟩;clear f0;have hz:w.heap.size+1<=w1.heap.size:=(by have:=hs.out;have:=kS hE;omega);replace m:=kb m hE;replace b0:=kb b0 hE;replace hX:=kx hX hE;clear hE HFR)
 have fm:=m.out.cell;have fz:=m.out.frozen
 go_upto_region 6 with fail
 generalize hW:World.alloc (World.alloc (World.setCell w1 _ _) _) _=W3;obtain⟨hM,m3,fr⟩:=zq hW m;replace b0:=km b0 hM (by omega);have HM:=G ((jQ hX.out).trans hM);replace R:=G (R.out.keep (HM.out.keepP fun k hk _ e=>HP.out k hk e) fun b hb _=>hb);clear hW hM m fm fz hX;have f0:=b0.out.cell;go_wp2_with fail
 go_loopw [36] (fun vi wr=>vi= .int .i64 0/\wr=W3) (fun _ _=>0)
 case atStart=>exact⟨rfl,rfl⟩
 case round=>
  obtain⟨rfl,rfl⟩:=hrel
  go_upto_region 12 with(go_at_call 85;refine(HD.out _ _ R.out).mono ?_;rintro e w4 ⟨rfl,hE⟩;clear f0;replace m3:=kb m3 hE;replace b0:=kb b0 hE;replace fr:=kb fr hE;replace HM:=G (HM.out.trans (.of_ext hE));replace R:=G (R.out.xt hE);clear hE HD)
  have f0:=b0.out.cell;have hn:g≠w1.heap.size+1:=by omega
  have HSt:=G (uu r g (w1.heap.size+1) w1.heap.size bf bi ba l' 32 v Ab cb P k nm ex w4 R.out (fun W A1 A2 A3 n1 c1 n2 c2 n3 c3 hE h=>HC.out _ _ W A1 A2 A3 n1 c1 n2 c2 n3 c3 (HM.out.trans (.of_ext hE)) hn (m3.out.ext hE) (fr.out.ext hE) h));clear HC
  cases r
  ·go_upto_region 13 with(go_at_call 86;refine HSt.out.mono ?_;intro e w5 h;cases h;rename_i h)
   exact⟨rfl, .bad ⟨HM.out.trans h.1,h.2⟩⟩
  ·go_upto_region 13 with(go_at_call 86;refine HSt.out.mono ?_;intro e w5 h;cases h;rename_i h;have HF:=G h;clear h HSt f0)
   have fm:=HF.out.2.1.cell;have fz:=HF.out.2.1.frozen;have fk:=HF.out.2.2.cell;have hn':w1.heap.size+1≠g:=fun e=>hn e.symm;have HR:=G (show SM g bf bi ba l' 0 w (w5.setCell ⟨g,5,none⟩ (.int .i64 0))from⟨(HM.out.tr HF.out.1 fun i hi e=>e.elim id (fun e=>by omega)).set (p:=⟨g,5,none⟩) (fun _=>rfl) _,HF.out.2.1.set 5 _⟩);clear HF m3 fr;go_wp2_with fail;go_ret;exact .ok HR.out
end
section
open Go.RowKit
abbrev Cf (bf bi ba:Nat) (l s x:Int):Array Value:= #[.map (some bf), .map (some bi), .map (some ba), .slice none 0 0, .int .i64 l, .int .i64 s, .int .i64 0, .int .i64 0, .int .i64 x, .int .i64 0, .int .i64 0, .slice none 0 0, .int .i64 0]
theorem yp {w w7:World} {g bf bi ba:Nat} {l s:Int} (x:Int) (hX:Hid (au w w7)) (m:Hid (aO w7 g 127 (ri bf bi ba l s))):
  Mv (fun k=>k=g) w (((((w7.setCell ⟨g,7,none⟩ (.int .i64 0)).setCell ⟨g,8,none⟩ (.int .i64 x)).setCell ⟨g,9,none⟩ (.int .i64 0)).setCell ⟨g,10,none⟩ (.int .i64 0)).setCell ⟨g,11,none⟩ (.slice none 0 0)).drew/\
  aO (((((w7.setCell ⟨g,7,none⟩ (.int .i64 0)).setCell ⟨g,8,none⟩ (.int .i64 x)).setCell ⟨g,9,none⟩ (.int .i64 0)).setCell ⟨g,10,none⟩ (.int .i64 0)).setCell ⟨g,11,none⟩ (.slice none 0 0)).drew g 127 (Cf bf bi ba l s x):=by
 refine⟨Mv.drew ?_,aO.drew ?_⟩
 ·exact(((((jQ (S:=fun k=>k=g) hX.out).set (p:=⟨g,7,none⟩) (fun _=>rfl) _).set (p:=⟨g,8,none⟩) (fun _=>rfl) _).set (p:=⟨g,9,none⟩) (fun _=>rfl) _).set (p:=⟨g,10,none⟩) (fun _=>rfl) _).set (p:=⟨g,11,none⟩) (fun _=>rfl) _
 ·exact((((m.out.set 7 (.int .i64 0)).set 8 (.int .i64 x)).set 9 (.int .i64 0)).set 10 (.int .i64 0)).set 11 (.slice none 0 0)
theorem yu (g bf bi ba:Nat) (l s x:Int) (w:World) (hb:aO w g 127 (ri bf bi ba l s)):
  Calls prog 49 #[.pointer (some ⟨g,0,none⟩), .int .i64 0, .agg #[.int .i64 x, .int .i64 0, .int .i64 0], .slice none 0 0] w fun e w'=>e= .panicked [{v:= .iface 129 (.agg #[.int .i64 1]),recovered:=false}]/\Mv (fun k=>k=g) w w'/\aO w' g 127 (Cf bf bi ba l s x):=by
 have hg:=hb.lt;have m:=G hb;clear hb;go_enter func49,ntmps49
 go_upto_region 1 with fail
 generalize hW:World.alloc (World.alloc w _) _=W0;obtain⟨hX,b0,b1,hs⟩:=Cl hW;replace m:=kb m hX;replace hX:=G hX;clear hW;refine am 11 1 [] mixed (by kernel_rfl) trivial ?_;repeat (refine sx ?_ (fun w1 hU=> ?_) ?_;rotate_left;(focus have fk:=(m.out.ext hU.un).cell;clear hU;go_simp<;>with_reducible rfl);simp only[aU,aT,aS,aR,aQ])
 intro w7 hw7 _;simp only[ab,aG];have hD:=hw7.un;replace hX:=kx hX hD;replace m:=kb m hD;replace b0:=kb b0 hD;clear hD hw7
 go_upto_region 2 with fail
 have fk:=m.out.cell;have fz:=m.out.frozen;have f0:=b0.out.cell;have hn:g≠w.heap.size:=by omega
 have hn':w.heap.size≠g:=by omega
 have HQ:=G (show Mv (fun k=>k=g) w _/\aO _ g 127 (Cf bf bi ba l s x)from yp x hX m);go_region;go_wp2_with fail;exact⟨rfl,rfl,HQ.out⟩
end
end Go.Proofs.YtddomeddabfinaaGreatDoor
