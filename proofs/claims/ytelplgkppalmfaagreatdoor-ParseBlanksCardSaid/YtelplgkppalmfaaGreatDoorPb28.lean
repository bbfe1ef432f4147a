/-
  Parts of the proof: PaB PaC EqP EqW.
-/
import Derived.BigRegion
import Derived.Test.YtelplgkppalmfaaGreatDoorPb10
import Derived.Test.YtelplgkppalmfaaGreatDoorPb26
import Derived.Test.YtelplgkppalmfaaGreatDoorPb27
import Derived.Test.YtelplgkppalmfaaGreatDoorPb09
import Derived.Test.YtelplgkppalmfaaGreatDoorPb17
set_option maxRecDepth 100000
set_option maxHeartbeats 8000000
set_option linter.unusedVariables false
set_option linter.unusedSimpArgs false
namespace Go.Proofs.YtelplgkppalmfaaGreatDoor
open Go.Proofs.Tryz
open Go.RowKit
structure PW (w:World) (x0 x1 y z:Value) (W:World):Prop where
 e:Ext w W
 b0:Blk W w.heap.size 26 #[x0,x1]
 b1:Blk W (w.heap.size+1) 3 #[y]
 b2:Blk W (w.heap.size+1+1) 27 #[z]
theorem pw_new (w:World) (x0 x1 y z:Value):PW w x0 x1 y z (((w.alloc (.cells #[x0,x1] 26)).alloc (.cells #[y] 3)).alloc (.cells #[z] 27)):=by
 refine⟨((Ext.alloc w _).alloc' _).alloc' _,((Blk.new w _ _).alloc _).alloc _,?_,?_⟩
 ·have:=(Blk.new (w.alloc (.cells #[x0,x1] 26)) 3 #[y]).alloc (.cells #[z] 27);rwa [World.size_alloc]at this
 ·have:=Blk.new ((w.alloc (.cells #[x0,x1] 26)).alloc (.cells #[y] 3)) 27 #[z];rwa [World.size_alloc,World.size_alloc]at this
section
variable {w W W':World} {x0 x1 y z:Value}
theorem PW.ex (h:PW w x0 x1 y z W) (hE:Ext W W'):PW w x0 x1 y z W':=⟨h.e.trans hE,h.b0.ext hE,h.b1.ext hE,h.b2.ext hE⟩
theorem PW.lt (h:PW w x0 x1 y z W):w.heap.size+1+1<W.heap.size:=h.b2.lt
theorem PW.grown {g:Nat} (h:PW w x0 x1 y z W) (hg:W.grownBy W' (some g)) (hk:w.heap.size+1+1<g):PW w x0 x1 y z W':=
 ⟨h.e.grown hg (fun k e=>by injection e with e;omega),h.b0.grown hg (fun e=>by injection e with e;omega),h.b1.grown hg (fun e=>by injection e with e;omega),h.b2.grown hg (fun e=>by injection e with e;omega)⟩
theorem PW.drew (h:PW w x0 x1 y z W):PW w x0 x1 y z W.drew:=⟨h.e.drew,h.b0.drew,h.b1.drew,h.b2.drew⟩
theorem PW.put0 (h:PW w x0 x1 y z W) (p0 p1:Value):PW w p0 p1 y z ((W.setCell ⟨w.heap.size,0,none⟩ p0).setCell ⟨w.heap.size,1,none⟩ p1):=by
 refine⟨(h.e.set (Nat.le_refl _) _).set (Nat.le_refl _) _,?_,(h.b1.far (p:=⟨w.heap.size,0,none⟩) (by show _≠w.heap.size;omega) _).far (p:=⟨w.heap.size,1,none⟩) (by show _≠w.heap.size;omega) _,(h.b2.far (p:=⟨w.heap.size,0,none⟩) (by show _≠w.heap.size;omega) _).far (p:=⟨w.heap.size,1,none⟩) (by show _≠w.heap.size;omega) _⟩;have:=(h.b0.set 0 p0).set 1 p1;simpa using this
theorem PW.put1 (h:PW w x0 x1 y z W) (q:Value):PW w x0 x1 q z (W.setCell ⟨w.heap.size+1,0,none⟩ q):=by
 refine⟨h.e.set (by show w.heap.size<=w.heap.size+1;omega) _,h.b0.far (p:=⟨w.heap.size+1,0,none⟩) (by show _≠w.heap.size+1;omega) _,?_,h.b2.far (p:=⟨w.heap.size+1,0,none⟩) (by show _≠w.heap.size+1;omega) _⟩;have:=h.b1.set 0 q;simpa using this
theorem PW.put2 (h:PW w x0 x1 y z W) (q:Value):PW w x0 x1 y q (W.setCell ⟨w.heap.size+1+1,0,none⟩ q):=by
 refine⟨h.e.set (by show w.heap.size<=w.heap.size+1+1;omega) _,h.b0.far (p:=⟨w.heap.size+1+1,0,none⟩) (by show _≠w.heap.size+1+1;omega) _,h.b1.far (p:=⟨w.heap.size+1+1,0,none⟩) (by show _≠w.heap.size+1+1;omega) _,?_⟩;have:=h.b2.set 0 q;simpa using this
end
theorem set_ext {w W:World} {b i:Nat} (v:Value):KeepP (fun k=>k≠b) W (W.setCell ⟨b,i,none⟩ v):=⟨by simp[World.setCell],fun k hk _=>Below.heap_setCell W ⟨b,i,none⟩ v k hk⟩
theorem Tks.keepP {w w':World} {P:Nat->Prop} {A:Option Addr} {c:Nat} {l:List Tok} (h:Tks w A c l) (hk:KeepP P w w') (hP: ∀b off,A=some ⟨b,off,none⟩->l≠ []->P b):Tks w' A c l:=by
 refine⟨h.le,h.max,?_⟩;by_cases hl:l=[]
 ·exact .inl hl
 ·rcases h.rd with h0|⟨b,off,ha,hlt,hc⟩
  ·exact .inl h0
  ·have cc:=fun o=>hk.cell o (hP b off ha hl) hlt;exact .inr ⟨b,off,ha,Nat.lt_of_lt_of_le hlt hk.size,fun i hi=>let⟨q0,q1,q2,q3⟩:=hc i hi;⟨(cc _).trans q0,(cc _).trans q1,(cc _).trans q2,(cc _).trans q3⟩⟩
theorem pa_new {w W:World} {x0 x1 y z a b:Value} {base:Nat} {A:Option Addr} {c:Nat} {ts:List Tok} (sl:Int) (h:PW w x0 x1 y z W) (hO:OwnT W base 116 (.slice A ts.length c) ts) (hb:w.heap.size+3<=base):
  PA (((W.setCell ⟨w.heap.size+1,0,none⟩ a).setCell ⟨w.heap.size+1+1,0,none⟩ b).alloc (.cells #[.slice A ts.length c, .int .i64 sl] 85)) W.heap.size ts sl:=by
 have hT:=hO.tks.2;have hB: ∀k,(Value.slice A ts.length c).ownBlock=some k->base<=k:=fun k hk=>(World.ownsRow.lt hO k hk).1;have hk1: ∀b off,A=some ⟨b,off,none⟩->ts≠ []->b≠w.heap.size+1/\b≠w.heap.size+1+1:=fun b off e hne=>by
  subst e;have:=hB b rfl;omega
 have hs:(((W.setCell ⟨w.heap.size+1,0,none⟩ a).setCell ⟨w.heap.size+1+1,0,none⟩ b)).heap.size=W.heap.size:=by simp[World.setCell]
 have hT1:=(hT.keepP (set_ext (w:=w) (b:=w.heap.size+1) (i:=0) a) (fun b off e hne=>(hk1 b off e hne).1)).keepP (set_ext (w:=w) (b:=w.heap.size+1+1) (i:=0) b) (fun b off e hne=>(hk1 b off e hne).2);refine⟨A,c,?_,hT1.ext (Ext.alloc _ _),fun b off e hne=> ?_⟩
 ·have:=Blk.new ((W.setCell ⟨w.heap.size+1,0,none⟩ a).setCell ⟨w.heap.size+1+1,0,none⟩ b) 85 #[.slice A ts.length c, .int .i64 sl];rwa [hs]at this
 ·rcases hT.rd with h0|⟨b',off',ha,hlt,_⟩
  ·exact absurd h0 hne
  ·rw[e]at ha;injection ha with ha;injection ha with ha;omega
theorem tabw_ext {w w':World} (h:TabW w w.heap.size) (he:Ext w w'):TabW w' w'.heap.size:=⟨(h.fb (FB.of_ext he (Nat.le_refl _))).1,Nat.lt_of_lt_of_le h.2 he.size⟩
theorem kp_set {w W:World} {b i:Nat} (v:Value) (hb:b<=w.heap.size+1+1):KeepP (fun b=>w.heap.size+1+1<b) W (W.setCell ⟨b,i,none⟩ v):=
 ⟨by simp[World.setCell],fun k hk _=>Below.heap_setCell W ⟨b,i,none⟩ v k (by show k≠b;omega)⟩
theorem kp_two {w W:World} (a b:Value):KeepP (fun b=>w.heap.size+1+1<b) W ((W.setCell ⟨w.heap.size,0,none⟩ a).setCell ⟨w.heap.size,1,none⟩ b):=
 kp_trans (kp_set a (by omega)) (kp_set b (by omega))
theorem kp_fin {w W:World} (a b c d:Value):KeepP (fun b=>w.heap.size+1+1<b) W ((((W.setCell ⟨w.heap.size,0,none⟩ a).setCell ⟨w.heap.size,1,none⟩ b).setCell ⟨w.heap.size+1,0,none⟩ c).setCell ⟨w.heap.size+1+1,0,none⟩ d):=
 kp_trans (kp_trans (kp_trans (kp_set a (by omega)) (kp_set b (by omega))) (kp_set c (by omega))) (kp_set d (by omega))
def ParseP (w:World) (r:Pg×Int×Int) (e:Ending) (w':World):Prop:=
 Ext w w'/\ ∃A n c B m d,e= .returned (.tuple #[.agg #[.slice A n c, .slice B m d], .int .i64 r.2.1, .int .i64 r.2.2])/\RdV w' (fun b=>w.heap.size<=b) (.slice A n c) r.1.vs/\RdF w' (fun b=>w.heap.size<=b) (.slice B m d) r.1.fs
theorem parsep_no {w w':World} {at_ en:Int} (hE:Ext w w'):ParseP w (noPg,at_,en) (.returned (.tuple #[.agg #[.slice none 0 0, .slice none 0 0], .int .i64 at_, .int .i64 en])) w':=
 ⟨hE,none,0,0,none,0,0,rfl,⟨none,0,rfl, .inl rfl⟩,⟨none,0,rfl, .inl rfl⟩⟩
theorem parse_any (s:List UInt8) (w:World) (hz:EZ w) (ht:TabW w w.heap.size):Calls prog 10 #[.string (str s)] w (ParseP w (parL s)):=by
 have hmf: ∀(fn:Fn) (first cap:Array Value) (w:World),(Instr.makeFunc fn first cap).run prog w= .ok (.func fn first cap) w:=fun _ _ _ _=>rfl;obtain⟨⟨ts,at_,en⟩,hR⟩: ∃R,toksR s=R:=⟨_,rfl⟩
 have hsz:(str s).size=s.length:=str_size s;have HW0:=hide (pw_new w (.slice none 0 0) (.slice none 0 0) (.int .i64 0) (.int .i64 0))
 have HTK:=hide (show ∀W,EZ W->Calls prog 28 #[.string (str s)] W (fun e w'=> ∃A c,e= .returned (.tuple #[.slice A ts.length c, .int .i64 at_, .int .i64 en])/\OwnT w' W.heap.size 116 (.slice A ts.length c) ts/\Ext W w')from
  fun W h=>by
   have:=tokens_all s W h;rw[hR]at this
   exact this.mono (fun e w' ⟨⟨A,c,h1,h2⟩,h3⟩=>⟨A,c,h1,h2,h3⟩))
 have HZ:=hide hz;have HT:=hide ht;clear hz ht;by_cases hen:en=0
 ·subst hen;have HP:=hide (show parL s=parT s.length ts by unfold parL;rw[hR];rfl);have htw:=toksR_w s;rw[hR]at htw;have htw:ts.length<=4000/\tokW ts<=12000:=htw;have HTW:=hide htw;clear hR htw;generalize s.length=sl at*;generalize hxx:pProg (4*ts.length+8) noPg ts=X;have HX:=hide hxx
  cases X with
  |error qn=>
   obtain⟨q,n⟩:=qn;have HQ:=hide (show parL s=(noPg,atT (sl:Int) q,n) by rw[HP.out,parT,hxx]);clear hxx HP;go_enter_defers func10,ntmps10;go_wp2_with (first|(go_at_call 28;refine(HTK.out _ (HZ.out.ext HW0.out.e)).mono ?_;rintro e w1 ⟨A,c,rfl,hO,hE⟩;have HW1:=hide (HW0.out.ex hE);have c1:=HW1.out.b1.cell;have z1:=HW1.out.b1.frozen;have c2:=HW1.out.b2.cell;have z2:=HW1.out.b2.frozen;have HPA:=hide (pa_new (a:= .int .i64 at_) (b:= .int .i64 0) (sl:Int) HW1.out hO (by have:=HW0.out.lt;omega));have HW5:=hide (((HW1.out.put1 (.int .i64 at_)).put2 (.int .i64 0)).ex (Ext.alloc _ (.cells #[.slice A ts.length c, .int .i64 sl] 85)));have hgl:=HW1.out.lt;clear hE hO HTK HZ HW0 HW1)|(go_at_call 30;refine(prog_any (4*ts.length+8) (by have:=HTW.out.1;omega) ts (sl:Int) _ _ HPA.out (by omega)).mono ?_;intro e w3 hh;rw[show pProg (4*ts.length+8) ⟨[],[]⟩ ts=_ from HX.out]at hh;obtain⟨hG,he⟩:=hh;have he:e= .panicked [{v:= .iface 81 (.agg #[.int .i64 (atT (sl:Int) q), .int .i64 n]),recovered:=false}]:=he;subst he;have HW3:=hide (HW5.out.grown hG hgl);clear hG HPA HW5));refine leaves_cons (f:=29) (args:= #[.pointer (some ⟨w.heap.size,0,none⟩), .pointer (some ⟨w.heap.size+1,0,none⟩), .pointer (some ⟨w.heap.size+1+1,0,none⟩)]) (by simp) (by simp[go_sem]) ?_;refine(catch_wrong w w3 w.heap.size (w.heap.size+1) (w.heap.size+1+1) _ _ _ _ _ _ _ HW3.out.e HW3.out.b0 HW3.out.b1 HW3.out.b2 (by omega) (by omega) (by omega) (by omega) (by omega) (by omega)).mono ?_;rintro e u' w4 ⟨rfl,rfl,hE,h0,h1,h2⟩;have d0:=h0.cell;have d1:=h1.cell;have d2:=h2.cell;refine(show Leaves _ _ _ _ [] .returning w4 from ?_);refine⟨.tuple #[.agg #[.slice none 0 0, .slice none 0 0], .int .i64 (atT (sl:Int) q), .int .i64 n],?_,by rw[HQ.out];exact parsep_no hE⟩;simp[results,results10,go_sem,d0,d1,d2]
  |ok pr=>
   obtain⟨p,r⟩:=pr;have hwp:pgW p<=6000000:=by
    have:=(prog_w _ _ _ _ _ hxx).1;have h0:pgW noPg=0:=rfl;have:=HTW.out.2;omega
   generalize hokk:okPg p=ok
   have HVD:=hide (show ∀(P:Nat->Prop) (W:World) (A B:Option Addr) (n c m d:Nat),RdV W P (.slice A n c) p.vs->RdF W P (.slice B m d) p.fs->TabW W W.heap.size->Calls prog 14 #[.agg #[.slice A n c, .slice B m d]] W fun e w'=>e= .returned (.bool ok)/\Ext W w' from
    fun P W A B n c m d h1 h2 h3=>hokk▸valid_w p hwp P W A B n c m d h1 h2 h3)
   have HQ:=hide (show parL s=if ok then(p,0,0)else(noPg,0,6) by rw[HP.out,parT,hxx];simp only[hokk]);clear hxx HP hokk hwp
   cases ok with
   |true=>
    have HQ:=hide (show parL s=(p,0,0)from HQ.out);go_enter_defers func10,ntmps10;go_wp2_with (first|(go_at_call 28;refine(HTK.out _ (HZ.out.ext HW0.out.e)).mono ?_;rintro e w1 ⟨A,c,rfl,hO,hE⟩;have HW1:=hide (HW0.out.ex hE);have c1:=HW1.out.b1.cell;have z1:=HW1.out.b1.frozen;have c2:=HW1.out.b2.cell;have z2:=HW1.out.b2.frozen;have HPA:=hide (pa_new (a:= .int .i64 at_) (b:= .int .i64 0) (sl:Int) HW1.out hO (by have:=HW0.out.lt;omega));have HW5:=hide (((HW1.out.put1 (.int .i64 at_)).put2 (.int .i64 0)).ex (Ext.alloc _ (.cells #[.slice A ts.length c, .int .i64 sl] 85)));have hgl:=HW1.out.lt;clear hE hO HTK HZ HW0 HW1)|(go_at_call 30;refine(prog_any (4*ts.length+8) (by have:=HTW.out.1;omega) ts (sl:Int) _ _ HPA.out (by omega)).mono ?_;intro e w3 hh;rw[show pProg (4*ts.length+8) ⟨[],[]⟩ ts=_ from HX.out]at hh;obtain⟨hG,A2,n2,cc2,B2,m2,dd2,he,hV,hF⟩:=hh;subst he;have HW3:=hide (HW5.out.grown hG hgl);have hs5:=HW5.out.lt;have HW4:=hide (HW3.out.put0 (.slice A2 n2 cc2) (.slice B2 m2 dd2));have HV4:=hide ((hV.keep (Q:=fun b=>w.heap.size+1+1<b) ⟨Nat.le_refl _,fun _ _ _=>rfl⟩ (fun b hb _=>Nat.lt_of_lt_of_le hs5 hb)).keep (Q:=fun b=>w.heap.size+1+1<b) (kp_two (.slice A2 n2 cc2) (.slice B2 m2 dd2)) (fun _ hb _=>hb));have HF4:=hide ((hF.keep (Q:=fun b=>w.heap.size+1+1<b) ⟨Nat.le_refl _,fun _ _ _=>rfl⟩ (fun b hb _=>Nat.lt_of_lt_of_le hs5 hb)).keep (Q:=fun b=>w.heap.size+1+1<b) (kp_two (.slice A2 n2 cc2) (.slice B2 m2 dd2)) (fun _ hb _=>hb));have c0:=HW3.out.b0.cell;have z0:=HW3.out.b0.frozen;clear hG HPA HW5 hV hF hs5 HW3)|(go_at_call 14;refine(HVD.out _ _ _ _ _ _ _ _ HV4.out HF4.out (tabw_ext HT.out HW4.out.e)).mono ?_;rintro e w5 ⟨rfl,hE⟩;clear c0 z0;have HW6:=hide (HW4.out.ex hE);have HV6:=hide (HV4.out.keep (.of_ext hE) (Q:=fun b=>w.heap.size+1+1<b) (fun _ hb _=>hb));have HF6:=hide (HF4.out.keep (.of_ext hE) (Q:=fun b=>w.heap.size+1+1<b) (fun _ hb _=>hb));have c0:=HW6.out.b0.cell;have z0:=HW6.out.b0.frozen;have c1:=HW6.out.b1.cell;have z1:=HW6.out.b1.frozen;have c2:=HW6.out.b2.cell;have z2:=HW6.out.b2.frozen;clear hE HV4 HF4 HW4 HVD HT));have HW7:=hide (((HW6.out.put0 (.slice A2 n2 cc2) (.slice B2 m2 dd2)).put1 (.int .i64 0)).put2 (.int .i64 0));have HV7:=hide (HV6.out.keep (Q:=fun b=>w.heap.size<=b) (kp_fin (.slice A2 n2 cc2) (.slice B2 m2 dd2) (.int .i64 0) (.int .i64 0)) (fun b hb _=>by omega));have HF7:=hide (HF6.out.keep (Q:=fun b=>w.heap.size<=b) (kp_fin (.slice A2 n2 cc2) (.slice B2 m2 dd2) (.int .i64 0) (.int .i64 0)) (fun b hb _=>by omega));refine leaves_cons (f:=29) (args:= #[.pointer (some ⟨w.heap.size,0,none⟩), .pointer (some ⟨w.heap.size+1,0,none⟩), .pointer (some ⟨w.heap.size+1+1,0,none⟩)]) (by simp) (by simp[go_sem]) ?_;refine(catch_idle _ _ _ _).mono ?_;rintro e u' w8 ⟨rfl,rfl,rfl⟩;have d0:=HW7.out.b0.cell;have d1:=HW7.out.b1.cell;have d2:=HW7.out.b2.cell;refine(show Leaves _ _ _ _ [] .returning _ from ?_);refine⟨.tuple #[.agg #[.slice A2 n2 cc2, .slice B2 m2 dd2], .int .i64 0, .int .i64 0],?_,by rw[HQ.out];exact⟨HW7.out.e,_,_,_,_,_,_,rfl,HV7.out,HF7.out⟩⟩;simp[results,results10,go_sem,d0,d1,d2]
   |false=>
    have HQ:=hide (show parL s=(noPg,0,6)from HQ.out);go_enter_defers func10,ntmps10;go_wp2_with (first|(go_at_call 28;refine(HTK.out _ (HZ.out.ext HW0.out.e)).mono ?_;rintro e w1 ⟨A,c,rfl,hO,hE⟩;have HW1:=hide (HW0.out.ex hE);have c1:=HW1.out.b1.cell;have z1:=HW1.out.b1.frozen;have c2:=HW1.out.b2.cell;have z2:=HW1.out.b2.frozen;have HPA:=hide (pa_new (a:= .int .i64 at_) (b:= .int .i64 0) (sl:Int) HW1.out hO (by have:=HW0.out.lt;omega));have HW5:=hide (((HW1.out.put1 (.int .i64 at_)).put2 (.int .i64 0)).ex (Ext.alloc _ (.cells #[.slice A ts.length c, .int .i64 sl] 85)));have hgl:=HW1.out.lt;clear hE hO HTK HZ HW0 HW1)|(go_at_call 30;refine(prog_any (4*ts.length+8) (by have:=HTW.out.1;omega) ts (sl:Int) _ _ HPA.out (by omega)).mono ?_;intro e w3 hh;rw[show pProg (4*ts.length+8) ⟨[],[]⟩ ts=_ from HX.out]at hh;obtain⟨hG,A2,n2,cc2,B2,m2,dd2,he,hV,hF⟩:=hh;subst he;have HW3:=hide (HW5.out.grown hG hgl);have hs5:=HW5.out.lt;have HW4:=hide (HW3.out.put0 (.slice A2 n2 cc2) (.slice B2 m2 dd2));have HV4:=hide ((hV.keep (Q:=fun b=>w.heap.size+1+1<b) ⟨Nat.le_refl _,fun _ _ _=>rfl⟩ (fun b hb _=>Nat.lt_of_lt_of_le hs5 hb)).keep (Q:=fun b=>w.heap.size+1+1<b) (kp_two (.slice A2 n2 cc2) (.slice B2 m2 dd2)) (fun _ hb _=>hb));have HF4:=hide ((hF.keep (Q:=fun b=>w.heap.size+1+1<b) ⟨Nat.le_refl _,fun _ _ _=>rfl⟩ (fun b hb _=>Nat.lt_of_lt_of_le hs5 hb)).keep (Q:=fun b=>w.heap.size+1+1<b) (kp_two (.slice A2 n2 cc2) (.slice B2 m2 dd2)) (fun _ hb _=>hb));have c0:=HW3.out.b0.cell;have z0:=HW3.out.b0.frozen;clear hG HPA HW5 hV hF hs5 HW3)|(go_at_call 14;refine(HVD.out _ _ _ _ _ _ _ _ HV4.out HF4.out (tabw_ext HT.out HW4.out.e)).mono ?_;rintro e w5 ⟨rfl,hE⟩;clear c0 z0;have HW6:=hide (HW4.out.ex hE);have HV6:=hide (HV4.out.keep (.of_ext hE) (Q:=fun b=>w.heap.size+1+1<b) (fun _ hb _=>hb));have HF6:=hide (HF4.out.keep (.of_ext hE) (Q:=fun b=>w.heap.size+1+1<b) (fun _ hb _=>hb));have c0:=HW6.out.b0.cell;have z0:=HW6.out.b0.frozen;have c1:=HW6.out.b1.cell;have z1:=HW6.out.b1.frozen;have c2:=HW6.out.b2.cell;have z2:=HW6.out.b2.frozen;clear hE HV4 HF4 HW4 HVD HT));have HW7:=hide (((HW6.out.put0 (.slice none 0 0) (.slice none 0 0)).put1 (.int .i64 0)).put2 (.int .i64 6));refine leaves_cons (f:=29) (args:= #[.pointer (some ⟨w.heap.size,0,none⟩), .pointer (some ⟨w.heap.size+1,0,none⟩), .pointer (some ⟨w.heap.size+1+1,0,none⟩)]) (by simp) (by simp[go_sem]) ?_;refine(catch_idle _ _ _ _).mono ?_;rintro e u' w8 ⟨rfl,rfl,rfl⟩;have d0:=HW7.out.b0.cell;have d1:=HW7.out.b1.cell;have d2:=HW7.out.b2.cell;refine(show Leaves _ _ _ _ [] .returning _ from ?_);refine⟨.tuple #[.agg #[.slice none 0 0, .slice none 0 0], .int .i64 0, .int .i64 6],?_,by rw[HQ.out];exact parsep_no HW7.out.e⟩;simp[results,results10,go_sem,d0,d1,d2]
 ·have hne:(en !=0)=true:=by simp[bne,hen]
  have hee:(en==0)=false:=by simp[hen]
  have HP:=hide (show parL s=(noPg,at_,en) by unfold parL;rw[hR];exact if_neg hen);clear hR hen hsz;go_enter_defers func10,ntmps10;go_wp2_with (go_at_call 28;refine(HTK.out _ (HZ.out.ext HW0.out.e)).mono ?_;rintro e w1 ⟨A,c,rfl,hO,hE⟩;have HW1:=hide (HW0.out.ex hE);have c1:=HW1.out.b1.cell;have z1:=HW1.out.b1.frozen;have c2:=HW1.out.b2.cell;have z2:=HW1.out.b2.frozen;clear hE hO HTK HZ HT HW0);have HW2:=hide ((HW1.out.put1 (.int .i64 at_)).put2 (.int .i64 en));clear c1 z1 c2 z2 HW1;generalize (w1.setCell ⟨w.heap.size+1,0,none⟩ (.int .i64 at_)).setCell ⟨w.heap.size+1+1,0,none⟩ (.int .i64 en)=w2 at*;have c0:=HW2.out.b0.cell;have c1:=HW2.out.b1.cell;have c2:=HW2.out.b2.cell;have z0:=HW2.out.b0.frozen;have z1:=HW2.out.b1.frozen;have z2:=HW2.out.b2.frozen;go_region;have HW3:=hide ((((HW2.out.put0 (.slice none 0 0) (.slice none 0 0)).put1 (.int .i64 at_)).put2 (.int .i64 en)).drew);go_wp2_with fail;have d0:=HW3.out.b0.cell;have d1:=HW3.out.b1.cell;have d2:=HW3.out.b2.cell;refine⟨.tuple #[.agg #[.slice none 0 0, .slice none 0 0], .int .i64 at_, .int .i64 en],?_,by rw[HP.out];exact parsep_no HW3.out.e⟩;simp[results,results10,go_sem,d0,d1,d2]
end Go.Proofs.YtelplgkppalmfaaGreatDoor
namespace Go.Proofs.YtelplgkppalmfaaGreatDoor
open Go.Proofs.Tryz
open Go.RowKit
def prtL (p:Pg):List UInt8×Int:=if okPg p then(srcP p,0)else([],1)
theorem print_any (p:Pg) (hw:pgW p<=6000000) (P:Nat->Prop) (w:World) (A B:Option Addr) (n c m d:Nat) (hV:RdV w P (.slice A n c) p.vs) (hF:RdF w P (.slice B m d) p.fs) (hT:TabW w w.heap.size):
  Calls prog 16 #[.agg #[.slice A n c, .slice B m d]] w fun e w'=>e= .returned (.tuple #[.string (str (prtL p).1), .int .i64 (prtL p).2])/\Ext w w':=by
 have hx:=Ext.alloc w (.cells #[.slice A n c, .slice B m d] 26);have HX:=hide hx;have HB:=hide (Blk.new w 26 #[.slice A n c, .slice B m d]);have HVD:=hide (valid_w p hw P _ A B n c m d (hV.keep (.of_ext hx) (Q:=P) (fun _ hb _=>hb)) (hF.keep (.of_ext hx) (Q:=P) (fun _ hb _=>hb)) (tabw_ext hT hx))
 cases hok:okPg p with
 |false=>
  have HP:=hide (show prtL p=([],1) by unfold prtL;rw[hok];rfl);rw[hok]at HVD;clear hV hF hx hok;go_enter func16,ntmps16;go_wp2_with (go_at_call 14;refine HVD.out.mono ?_;rintro e w1 ⟨rfl,hE⟩;have HE:=hide (HX.out.trans hE);clear hE HVD HB);go_ret2;exact⟨by rw[HP.out];rfl,HE.out⟩
 |true=>
  have HP:=hide (show prtL p=(srcP p,0) by unfold prtL;rw[hok];rfl)
  have HS:=hide (fun(W:World) (h:Ext w W)=>source_any p (fun f hf=>by
    have h1:=hok;unfold okPg at h1;simp only[Bool.and_eq_true,List.all_eq_true]at h1;exact okF_body (h1.1.1.1.2 f hf)) (fun v hv=>by
    have h1:=hok;unfold okPg at h1;simp only[Bool.and_eq_true,List.all_eq_true]at h1;have:=h1.1.1.1.1 v hv;unfold okV at this;simp only[Bool.and_eq_true,decide_eq_true_eq]at this
    omega) P W A B n c m d (hV.keep (.of_ext h) (Q:=P) (fun _ hb _=>hb)) (hF.keep (.of_ext h) (Q:=P) (fun _ hb _=>hb)) (tabw_ext hT h) (by have:=okPg_src hok;omega))
  rw[hok]at HVD;generalize srcP p=S at*;clear hV hF hx hok;go_enter func16,ntmps16;go_wp2_with (first|(go_at_call 14;refine HVD.out.mono ?_;rintro e w1 ⟨rfl,hE⟩;have HE:=hide (HX.out.trans hE);have f1:=(HB.out.ext hE).cell;clear hE HVD HB)|(go_at_call 42;refine(HS.out _ HE.out).mono ?_;rintro e w2 ⟨rfl,hE⟩;have HE2:=hide (HE.out.trans hE);clear hE HS));go_ret2;exact⟨by rw[HP.out];rfl,HE2.out⟩
def wakS:List UInt8:=[102,117,110,99,32,109,97,105,110,40,41,123,119,104,105,108,101,32,49,123,119,114,105,116,101,40,49,44,34,120,34,44,49,41,59,125,125]
def wakB:List St:=[.mk 5 [] [.mk 1 [] [] [] 1 []] [.mk 7 [] [.mk 5 [] [119,114,105,116,101] [] 0 [.mk 1 [] [] [] 1 [], .mk 2 [] [] [120] 0 [], .mk 1 [] [] [] 1 []]] [] []] []]
def wakP:Pg:=⟨[],[⟨[109,97,105,110],[],wakB⟩]⟩
def wakT:List Tok:=[⟨2,[102,117,110,99],0,0⟩,⟨1,[109,97,105,110],0,5⟩,⟨5,[40],0,9⟩,⟨5,[41],0,10⟩,⟨5,[123],0,11⟩,⟨2,[119,104,105,108,101],0,12⟩,⟨3,[],1,18⟩,⟨5,[123],0,19⟩,⟨1,[119,114,105,116,101],0,20⟩,⟨5,[40],0,25⟩,⟨3,[],1,26⟩,⟨5,[44],0,27⟩,⟨4,[120],0,28⟩,⟨5,[44],0,31⟩,⟨3,[],1,32⟩,⟨5,[41],0,33⟩,⟨5,[59],0,34⟩,⟨5,[125],0,35⟩,⟨5,[125],0,36⟩]
theorem wak_toks:toksR wakS=(wakT,0,0):=by decide+kernel
theorem wak_prog:pProg 84 noPg wakT= .ok (wakP,[]):=by kernel_rfl
theorem decL_1:decL 1=[49]:=by rw[decL];rfl
def wakO:List UInt8:=[102,117,110,99,32,109,97,105,110,40,41,32,123,10,9,119,104,105,108,101,32,49,32,123,10,9,9,119,114,105,116,101,40,49,44,32,34,120,34,44,32,49,41,59,10,9,125,10,125,10]
theorem wak_src:srcP wakP=wakO:=by
 have h1:srcE (.mk 1 [] [] [] 1 [])=[49]:=by
  show decL 1=[49];exact decL_1
 have h2:srcE (.mk 5 [] [119,114,105,116,101] [] 0 [.mk 1 [] [] [] 1 [], .mk 2 [] [] [120] 0 [], .mk 1 [] [] [] 1 []])=[119,114,105,116,101,40,49,44,32,34,120,34,44,32,49,41]:=by
  rw[srcE,srcs_map];simp only[List.map_cons,List.map_nil,h1];rfl
 unfold srcP wakP wakB;simp only[List.flatMap_nil,List.flatMap_cons,srcF,srcSs,srcSt,srcs,h1,h2];rfl
theorem wak_ok:okPg wakP=true:=by
 unfold okPg;rw[wak_src];decide+kernel
theorem wak_par:parL wakS=(wakP,0,0):=by
 unfold parL;rw[wak_toks];simp only[if_true];unfold parT;rw[show pProg (4*wakT.length+8) noPg wakT= .ok (wakP,[])from wak_prog];simp only[wak_ok,if_true]
theorem wak_prt:prtL wakP=(wakO,0):=by unfold prtL;rw[wak_ok,wak_src];rfl
theorem wak_w:pgW wakP<=6000000:=by decide+kernel
end Go.Proofs.YtelplgkppalmfaaGreatDoor
namespace Go.Proofs.YtelplgkppalmfaaGreatDoor
open Go.Proofs.Tryz
mutual
def eqE:Ex->Ex->Bool
 | .mk k o n t v a, .mk k' o' n' t' v' a'=>k==k'&&o==o'&&n==n'&&t==t'&&v==v'&&eqL a a'
def eqL:List Ex->List Ex->Bool
 | [],[]=>true
 | [],_::_=>false
 | _::_,[]=>false
 |x::a,y::b=>eqE x y&&eqL a b
end
mutual
def eqSt:St->St->Bool
 | .mk k n e b l, .mk k' n' e' b' l'=>k==k'&&n==n'&&eqL e e'&&eqS b b'&&eqS l l'
def eqS:List St->List St->Bool
 | [],[]=>true
 | [],_::_=>false
 | _::_,[]=>false
 |x::a,y::b=>eqSt x y&&eqS a b
end
theorem eqL_len: ∀{a b:List Ex},a.length≠b.length->eqL a b=false
 | [],[],h=>absurd rfl h
 | [],_::_,_=>rfl
 | _::_,[],_=>rfl
 |x::a,y::b,h=>by rw[eqL,eqL_len (by simpa using h),Bool.and_false]
theorem eqS_len: ∀{a b:List St},a.length≠b.length->eqS a b=false
 | [],[],h=>absurd rfl h
 | [],_::_,_=>rfl
 | _::_,[],_=>rfl
 |x::a,y::b,h=>by rw[eqS,eqS_len (by simpa using h),Bool.and_false]
theorem eqL_bad: ∀{a b:List Ex} (i:Nat) (h:i<a.length) (h':i<b.length),eqE a[i] b[i]=false->eqL a b=false
 |x::a,y::b,0,_,_,he=>by rw[eqL,show eqE x y=false from he,Bool.false_and]
 |x::a,y::b,i+1,h,h',he=>by rw[eqL,eqL_bad i (by simpa using h) (by simpa using h') (by simpa using he),Bool.and_false]
theorem eqS_bad: ∀{a b:List St} (i:Nat) (h:i<a.length) (h':i<b.length),eqSt a[i] b[i]=false->eqS a b=false
 |x::a,y::b,0,_,_,he=>by rw[eqS,show eqSt x y=false from he,Bool.false_and]
 |x::a,y::b,i+1,h,h',he=>by rw[eqS,eqS_bad i (by simpa using h) (by simpa using h') (by simpa using he),Bool.and_false]
theorem eqL_good: ∀{a b:List Ex},a.length=b.length->(∀i (h:i<a.length) (h':i<b.length),eqE a[i] b[i]=true)->eqL a b=true
 | [],[],_,_=>rfl
 |x::a,y::b,hl,h=>by
  rw[eqL,eqL_good (by simpa using hl) (fun i h1 h2=>by have:=h (i+1) (by simpa using h1) (by simpa using h2);simpa using this),show eqE x y=true from h 0 (by simp) (by simp)];rfl
theorem eqS_good: ∀{a b:List St},a.length=b.length->(∀i (h:i<a.length) (h':i<b.length),eqSt a[i] b[i]=true)->eqS a b=true
 | [],[],_,_=>rfl
 |x::a,y::b,hl,h=>by
  rw[eqS,eqS_good (by simpa using hl) (fun i h1 h2=>by have:=h (i+1) (by simpa using h1) (by simpa using h2);simpa using this),show eqSt x y=true from h 0 (by simp) (by simp)];rfl
mutual
theorem eqE_self: ∀x,eqE x x=true
 | .mk k o n t v a=>by simp[eqE,eqL_self a]
theorem eqL_self: ∀l,eqL l l=true
 | []=>rfl
 |x::r=>by simp[eqL,eqE_self x,eqL_self r]
end
mutual
theorem eqSt_self: ∀x,eqSt x x=true
 | .mk k n e b l=>by simp[eqSt,eqL_self e,eqS_self b,eqS_self l]
theorem eqS_self: ∀l,eqS l l=true
 | []=>rfl
 |x::r=>by simp[eqS,eqSt_self x,eqS_self r]
end
def eqV (x y:Vr):Bool:=x.nm==y.nm&&x.sz==y.sz
def eqF (x y:Fc):Bool:=x.nm==y.nm&&x.ps==y.ps&&eqS x.body y.body
def eqVs:List Vr->List Vr->Bool
 | [],[]=>true
 |x::a,y::b=>eqV x y&&eqVs a b
 | _,_=>false
def eqFs:List Fc->List Fc->Bool
 | [],[]=>true
 |x::a,y::b=>eqF x y&&eqFs a b
 | _,_=>false
theorem eqVs_len: ∀{a b:List Vr},a.length≠b.length->eqVs a b=false
 | [],[],h=>absurd rfl h
 | [],_::_,_=>rfl
 | _::_,[],_=>rfl
 |x::a,y::b,h=>by rw[eqVs,eqVs_len (by simpa using h),Bool.and_false]
theorem eqFs_len: ∀{a b:List Fc},a.length≠b.length->eqFs a b=false
 | [],[],h=>absurd rfl h
 | [],_::_,_=>rfl
 | _::_,[],_=>rfl
 |x::a,y::b,h=>by rw[eqFs,eqFs_len (by simpa using h),Bool.and_false]
theorem eqVs_bad: ∀{a b:List Vr} (i:Nat) (h:i<a.length) (h':i<b.length),eqV a[i] b[i]=false->eqVs a b=false
 |x::a,y::b,0,_,_,he=>by rw[eqVs,show eqV x y=false from he,Bool.false_and]
 |x::a,y::b,i+1,h,h',he=>by rw[eqVs,eqVs_bad i (by simpa using h) (by simpa using h') (by simpa using he),Bool.and_false]
theorem eqFs_bad: ∀{a b:List Fc} (i:Nat) (h:i<a.length) (h':i<b.length),eqF a[i] b[i]=false->eqFs a b=false
 |x::a,y::b,0,_,_,he=>by rw[eqFs,show eqF x y=false from he,Bool.false_and]
 |x::a,y::b,i+1,h,h',he=>by rw[eqFs,eqFs_bad i (by simpa using h) (by simpa using h') (by simpa using he),Bool.and_false]
theorem eqVs_good: ∀{a b:List Vr},a.length=b.length->(∀i (h:i<a.length) (h':i<b.length),eqV a[i] b[i]=true)->eqVs a b=true
 | [],[],_,_=>rfl
 |x::a,y::b,hl,h=>by
  rw[eqVs,eqVs_good (by simpa using hl) (fun i h1 h2=>by have:=h (i+1) (by simpa using h1) (by simpa using h2);simpa using this),show eqV x y=true from h 0 (by simp) (by simp)];rfl
theorem eqFs_good: ∀{a b:List Fc},a.length=b.length->(∀i (h:i<a.length) (h':i<b.length),eqF a[i] b[i]=true)->eqFs a b=true
 | [],[],_,_=>rfl
 |x::a,y::b,hl,h=>by
  rw[eqFs,eqFs_good (by simpa using hl) (fun i h1 h2=>by have:=h (i+1) (by simpa using h1) (by simpa using h2);simpa using this),show eqF x y=true from h 0 (by simp) (by simp)];rfl
def eqPg (p q:Pg):Bool:=eqVs p.vs q.vs&&eqFs p.fs q.fs
theorem eqPg_self (p:Pg):eqPg p p=true:=by
 have h1:eqVs p.vs p.vs=true:=eqVs_good rfl fun i h h'=>by simp[eqV]
 have h2:eqFs p.fs p.fs=true:=eqFs_good rfl fun i h h'=>by simp[eqF,eqS_self]
 rw[eqPg,h1,h2];rfl
end Go.Proofs.YtelplgkppalmfaaGreatDoor
namespace Go.Proofs.YtelplgkppalmfaaGreatDoor
open Go.Proofs.Tryz
open Go.RowKit
theorem ret_b {a b:Bool} (h:a=b):Ending.returned (.bool a)= .returned (.bool b):=by rw[h]
def EqX (xs ys:List Ex):Prop:= ∀(P:Nat->Prop) (w:World) (u v:Value),RdE w P u xs->RdE w P v ys->Calls prog 100 #[u,v] w fun e w'=>e= .returned (.bool (eqL xs ys))/\Ext w w'
def EqZ (xs ys:List St):Prop:= ∀(P:Nat->Prop) (w:World) (u v:Value),RdS w P u xs->RdS w P v ys->Calls prog 53 #[u,v] w fun e w'=>e= .returned (.bool (eqS xs ys))/\Ext w w'
theorem eqeC_any (x y:Ex) (P:Nat->Prop) (a b:Value) (w:World) (hIH:EqX x.args y.args) (ha:RdE w P a x.args) (hb:RdE w P b y.args):
  Calls prog 134 #[.agg #[.int .i64 x.k, .string (str x.op), .string (str x.nm), .string (str x.tx), .int .i64 x.v,a], .agg #[.int .i64 y.k, .string (str y.op), .string (str y.nm), .string (str y.tx), .int .i64 y.v,b]] w fun e w'=>e= .returned (.bool (eqE x y))/\Ext w w':=by
 have HC:=hide (fun(W:World) (h:Ext w W)=>hIH P W a b (ha.keep (.of_ext h) (fun _ hb _=>hb)) (hb.keep (.of_ext h) (fun _ hb _=>hb)));obtain⟨A,c,rfl,_⟩:=ha.form;obtain⟨B,d,rfl,_⟩:=hb.form;clear ha hb hIH;obtain⟨k,o,n,t,v,ax⟩:=x;obtain⟨k',o',n',t',v',bx⟩:=y;simp only[Ex.k,Ex.op,Ex.nm,Ex.tx,Ex.v,Ex.args]at*;generalize hrr:eqL ax bx=r at HC;have HR:=hide hrr;clear hrr;generalize ax.length=la at*;generalize bx.length=lb at*;by_cases hk:k=k'
 ·subst hk;by_cases ho:o=o'
  ·subst ho;by_cases hn:n=n'
   ·subst hn;by_cases ht:t=t'
    ·subst ht;by_cases hv:v=v'
     ·subst hv;go_enter func134,ntmps134;go_wp2_with (go_at_call 100;refine(HC.out _ ((Ext.alloc _ _).alloc' _)).mono ?_;rintro e w1 ⟨rfl,hE⟩;have HZ:=hide (((Ext.alloc _ _).alloc' _).trans hE);clear hE HC);go_ret;exact⟨ret_b (by rw[eqE,HR.out];simp),HZ.out⟩
     ·have fv:(v==v')=false:=by simpa using hv
      clear hv HC;go_enter func134,ntmps134;go_wp2_with fail;go_ret;exact⟨ret_b (by simp[eqE,fv]),(Ext.alloc w _).alloc' _⟩
    ·have ft:(t==t')=false:=by simpa using ht
     clear ht HC;go_enter func134,ntmps134;go_wp2_with fail;go_ret;exact⟨ret_b (by simp[eqE,ft]),(Ext.alloc w _).alloc' _⟩
   ·have fn:(n==n')=false:=by simpa using hn
    clear hn HC;go_enter func134,ntmps134;go_wp2_with fail;go_ret;exact⟨ret_b (by simp[eqE,fn]),(Ext.alloc w _).alloc' _⟩
  ·have fo:(o==o')=false:=by simpa using ho
   clear ho HC;go_enter func134,ntmps134;go_wp2_with fail;go_ret;exact⟨ret_b (by simp[eqE,fo]),(Ext.alloc w _).alloc' _⟩
 ·have fk:(k==k')=false:=by simpa using hk
  clear hk HC;go_enter func134,ntmps134;go_wp2_with fail;go_ret;exact⟨ret_b (by simp[eqE,fk]),(Ext.alloc w _).alloc' _⟩
theorem eqfE_any (xs ys:List Ex) (P:Nat->Prop) (w:World) (A B:Option Addr) (n m c d:Nat) (hA:RdE w P (.slice A n c) xs) (hB:RdE w P (.slice B m d) ys) (hIH: ∀x,x∈xs-> ∀y:Ex,EqX x.args y.args):
  Calls prog 133 #[.slice A n c, .slice B m d, .func (.func 134) #[] #[]] w fun e w'=>e= .returned (.bool (eqL xs ys))/\Ext w w':=by
 have hnl:=hA.len;have hml:=hB.len;have hnm:n<=maxLen:=by obtain⟨A',c',hv,h⟩:=hA.form;injection hv with _ hn _;rcases h with h|⟨h1,h2,_⟩;(rw[hn,h];exact Nat.zero_le _);omega
 unfold maxLen at hnm;have HNL:=hide hnl;have HML:=hide hml;have HA:=hide hA;have HB:=hide hB;have HI:=hide hIH;clear hA hB hIH hnl hml;by_cases h2:n=m
 ·have h2b:((n:Int)==(m:Int))=true:=by simp[h2]
  have h2c:((n:Int) !=(m:Int))=false:=by simp[h2]
  have H2:=hide h2;clear h2;go_enter func133,ntmps133;go_wp2_with fail
  go_loopw [17] (fun i wr=> ∃j:Nat,j<=n/\i= .int .i64 (j:Int)/\Hid (Ext w wr)/\Hid (∀i (h:i<xs.length) (h':i<ys.length),i<j->eqE xs[i] ys[i]=true)) (fun i _=>n-(intOf i).toNat)
  case atStart=>exact⟨0,Nat.zero_le _,rfl,hide (Ext.refl w),hide (fun _ _ _ h=>absurd h (Nat.not_lt_zero _))⟩
  case round=>
   obtain⟨j,hj,rfl,HX,HT⟩:=hrel;clear h2b h2c;by_cases hlt:j<n
   ·have hlt':(j:Int)<n:=by omega
    have hlt2:j<m:=by have:=H2.out;omega
    have hlt2':(j:Int)<m:=by omega
    have hjl:j<xs.length:=by have:=HNL.out;omega
    have hjl2:j<ys.length:=by have:=HML.out;omega
    obtain⟨b1,o1,a1,rfl,hb1,_,p0,p1,p2,p3,p4,p5,hRa⟩:=HA.out.at_ j hjl;obtain⟨b2,o2,a2,rfl,hb2,_,q0,q1,q2,q3,q4,q5,hRb⟩:=HB.out.at_ j hjl2;have pe0:=(HX.out.cell b1 _ hb1).trans p0;have pe1:=(HX.out.cell b1 _ hb1).trans p1;have pe2:=(HX.out.cell b1 _ hb1).trans p2;have pe3:=(HX.out.cell b1 _ hb1).trans p3;have pe4:=(HX.out.cell b1 _ hb1).trans p4;have pe5:=(HX.out.cell b1 _ hb1).trans p5;clear p0 p1 p2 p3 p4 p5;have qe0:=(HX.out.cell b2 _ hb2).trans q0;have qe1:=(HX.out.cell b2 _ hb2).trans q1;have qe2:=(HX.out.cell b2 _ hb2).trans q2;have qe3:=(HX.out.cell b2 _ hb2).trans q3;have qe4:=(HX.out.cell b2 _ hb2).trans q4;have qe5:=(HX.out.cell b2 _ hb2).trans q5;clear q0 q1 q2 q3 q4 q5;have hl1:b1<wr.heap.size:=Nat.lt_of_lt_of_le hb1 HX.out.size;have hl2:b2<wr.heap.size:=Nat.lt_of_lt_of_le hb2 HX.out.size;have HBad:=hide (fun h=>eqL_bad (a:=xs) (b:=ys) j hjl hjl2 h)
    have HG:=hide (fun(h:eqE xs[j] ys[j]=true)=>(show ∀i (h:i<xs.length) (h':i<ys.length),i<j+1->eqE xs[i] ys[i]=true from fun i h1 h2 h3=>by
     by_cases h4:i=j
     ·subst h4;exact h
     ·exact HT.out i h1 h2 (by omega)))
    have hih:=HI.out xs[j] (List.getElem_mem hjl) ys[j];generalize xs[j]=x at*;generalize ys[j]=y at*;obtain⟨A1,c1,rfl,_⟩:=hRa.form;obtain⟨B1,d1,rfl,_⟩:=hRb.form;have HY:=hide (fun(W:World) (h:Ext wr W)=>eqeC_any x y P _ _ W hih (hRa.keep (.of_ext (HX.out.trans h)) (fun _ hb _=>hb)) (hRb.keep (.of_ext (HX.out.trans h)) (fun _ hb _=>hb)));clear hRa hRb;generalize hpe:eqE x y=pe at*;have HPE:=hide hpe;clear hpe hih
    cases pe with
    |false=>
     have HQ:=hide (HBad.out rfl);clear HG HBad;go_wp2_with (go_at_call 134;refine(HY.out _ ((Ext.alloc _ _).alloc' _)).mono ?_;rintro e w1 ⟨rfl,hE⟩;have HE:=hide (((Ext.alloc _ _).alloc' _).trans hE);clear hE HY);go_ret;exact⟨ret_b HQ.out.symm,HX.out.trans HE.out⟩
    |true=>
     have HQ:=hide (HG.out rfl);clear HG HBad;go_wp2_with (go_at_call 134;refine(HY.out _ ((Ext.alloc _ _).alloc' _)).mono ?_;rintro e w1 ⟨rfl,hE⟩;have HE:=hide (((Ext.alloc _ _).alloc' _).trans hE);clear hE HY);go_roundw
     case rel=>exact⟨j+1,by omega,by go_num,hide (HX.out.trans HE.out),HQ⟩
     case measure=>simp[intOf];omega
   ·have hlt': ¬(j:Int)<n:=by omega
    have hjj:j=n:=by omega
    have HQ:=hide (eqL_good (a:=xs) (b:=ys) (by have:=HNL.out;have:=HML.out;have:=H2.out;omega) (fun i h1 h2=>HT.out i h1 h2 (by have:=HNL.out;omega)));clear HT;go_wp2_with fail;go_ret;exact⟨ret_b HQ.out.symm,HX.out⟩
 ·have h2b:((n:Int)==(m:Int))=false:=by simp;omega
  have h2c:((n:Int) !=(m:Int))=true:=by simp;omega
  have HN:=hide (eqL_len (a:=xs) (b:=ys) (by have:=HNL.out;have:=HML.out;omega));clear h2;go_enter func133,ntmps133;go_wp2_with fail;go_ret;exact⟨ret_b HN.out.symm,Ext.refl w⟩
theorem eqx_all: ∀(k:Nat) (xs ys:List Ex),wtL xs<k->EqX xs ys
 |0,xs,ys,h=>absurd h (Nat.not_lt_zero _)
 |k+1,xs,ys,h=>by
  intro P w u v hu hv;obtain⟨A,c,rfl,_⟩:=hu.form;obtain⟨B,d,rfl,_⟩:=hv.form;have HQ:=hide (eqfE_any xs ys P w A B _ _ c d hu hv (fun x hx y=>eqx_all k x.args y.args (by have:=wtL_mem hx;have:=x.wt_eq;omega)));clear hu hv;go_enter func100,ntmps100;go_wp2_with (go_at_call 133;refine HQ.out.mono ?_;rintro e w1 ⟨rfl,hE⟩;have HE:=hide hE;clear hE HQ);go_ret;exact⟨rfl,HE.out⟩
theorem eqx_any (xs ys:List Ex):EqX xs ys:=eqx_all _ xs ys (Nat.lt_succ_self _)
theorem eqsC_any (x y:St) (P:Nat->Prop) (a a1 a2 b b1 b2:Value) (w:World) (hI:EqX x.ex y.ex) (hI1:EqZ x.body y.body) (hI2:EqZ x.els y.els) (ha:RdE w P a x.ex) (hb:RdE w P b y.ex) (ha1:RdS w P a1 x.body) (hb1:RdS w P b1 y.body) (ha2:RdS w P a2 x.els) (hb2:RdS w P b2 y.els):
  Calls prog 99 #[.agg #[.int .i64 x.k, .string (str x.nm),a,a1,a2], .agg #[.int .i64 y.k, .string (str y.nm),b,b1,b2]] w fun e w'=>e= .returned (.bool (eqSt x y))/\Ext w w':=by
 have HC:=hide (fun(W:World) (h:Ext w W)=>hI P W a b (ha.keep (.of_ext h) (fun _ hb _=>hb)) (hb.keep (.of_ext h) (fun _ hb _=>hb)));have HC1:=hide (fun(W:World) (h:Ext w W)=>hI1 P W a1 b1 (ha1.keep (.of_ext h) (fun _ hb _=>hb)) (hb1.keep (.of_ext h) (fun _ hb _=>hb)));have HC2:=hide (fun(W:World) (h:Ext w W)=>hI2 P W a2 b2 (ha2.keep (.of_ext h) (fun _ hb _=>hb)) (hb2.keep (.of_ext h) (fun _ hb _=>hb)));obtain⟨A,c,rfl,_⟩:=ha.form;obtain⟨B,d,rfl,_⟩:=hb.form;obtain⟨A1,c1,rfl,_⟩:=ha1.form;obtain⟨B1,d1,rfl,_⟩:=hb1.form;obtain⟨A2,c2,rfl,_⟩:=ha2.form;obtain⟨B2,d2,rfl,_⟩:=hb2.form;clear ha hb ha1 hb1 ha2 hb2 hI hI1 hI2;obtain⟨k,o,ax,ax1,ax2⟩:=x;obtain⟨k',o',bx,bx1,bx2⟩:=y;simp only[St.k,St.nm,St.ex,St.body,St.els]at*;generalize hrr:eqL ax bx=r at HC;generalize hrr1:eqS ax1 bx1=r1 at HC1;generalize hrr2:eqS ax2 bx2=r2 at HC2;have HR:=hide hrr;have HR1:=hide hrr1;have HR2:=hide hrr2;clear hrr hrr1 hrr2;generalize ax.length=la at*;generalize bx.length=lb at*;generalize ax1.length=la1 at*;generalize bx1.length=lb1 at*;generalize ax2.length=la2 at*;generalize bx2.length=lb2 at*;have HX0:=hide (show Ext w ((w.alloc (.cells #[.int .i64 k, .string (str o), .slice A la c, .slice A1 la1 c1, .slice A2 la2 c2] 76)).alloc (.cells #[.int .i64 k', .string (str o'), .slice B lb d, .slice B1 lb1 d1, .slice B2 lb2 d2] 76))from(Ext.alloc w _).alloc' _);have HU:=hide (show Blk ((w.alloc (.cells #[.int .i64 k, .string (str o), .slice A la c, .slice A1 la1 c1, .slice A2 la2 c2] 76)).alloc (.cells #[.int .i64 k', .string (str o'), .slice B lb d, .slice B1 lb1 d1, .slice B2 lb2 d2] 76)) w.heap.size 76 #[.int .i64 k, .string (str o), .slice A la c, .slice A1 la1 c1, .slice A2 la2 c2]from(Blk.new w _ _).alloc _);have HV:=hide (show Blk ((w.alloc (.cells #[.int .i64 k, .string (str o), .slice A la c, .slice A1 la1 c1, .slice A2 la2 c2] 76)).alloc (.cells #[.int .i64 k', .string (str o'), .slice B lb d, .slice B1 lb1 d1, .slice B2 lb2 d2] 76)) (w.heap.size+1) 76 #[.int .i64 k', .string (str o'), .slice B lb d, .slice B1 lb1 d1, .slice B2 lb2 d2]from by have:=Blk.new (w.alloc (.cells #[.int .i64 k, .string (str o), .slice A la c, .slice A1 la1 c1, .slice A2 la2 c2] 76)) 76 #[.int .i64 k', .string (str o'), .slice B lb d, .slice B1 lb1 d1, .slice B2 lb2 d2];rwa [World.size_alloc]at this);by_cases hk:k=k'
 ·subst hk;by_cases ho:o=o'
  ·subst ho
   cases r with
   |false=>
    clear HC1 HC2;go_enter func99,ntmps99;go_wp2_with (first|(go_at_call 100;refine(HC.out _ ((Ext.alloc _ _).alloc' _)).mono ?_;rintro e w1 ⟨rfl,hE⟩;have f1:=(HU.out.ext hE).cell;have f2:=(HV.out.ext hE).cell;have HX1:=hide (HX0.out.trans hE);have HU1:=hide (HU.out.ext hE);have HV1:=hide (HV.out.ext hE);clear hE HC HU HV HX0));go_ret;exact⟨ret_b (by rw[eqSt,HR.out];simp),HX1.out⟩
   |true=>
    cases r1 with
    |false=>
     clear HC2;go_enter func99,ntmps99;go_wp2_with (first|(go_at_call 100;refine(HC.out _ ((Ext.alloc _ _).alloc' _)).mono ?_;rintro e w1 ⟨rfl,hE⟩;have f1:=(HU.out.ext hE).cell;have f2:=(HV.out.ext hE).cell;have HX1:=hide (HX0.out.trans hE);have HU1:=hide (HU.out.ext hE);have HV1:=hide (HV.out.ext hE);clear hE HC HU HV HX0)|(go_at_call 53;refine(HC1.out _ HX1.out).mono ?_;rintro e w2 ⟨rfl,hE⟩;clear f1 f2;have f1:=(HU1.out.ext hE).cell;have f2:=(HV1.out.ext hE).cell;have HX2:=hide (HX1.out.trans hE);clear hE HC1 HU1 HV1 HX1));go_ret;exact⟨ret_b (by rw[eqSt,HR.out,HR1.out];simp),HX2.out⟩
    |true=>
     go_enter func99,ntmps99;go_wp2_with (first|(go_at_call 100;refine(HC.out _ ((Ext.alloc _ _).alloc' _)).mono ?_;rintro e w1 ⟨rfl,hE⟩;have f1:=(HU.out.ext hE).cell;have f2:=(HV.out.ext hE).cell;have HX1:=hide (HX0.out.trans hE);have HU1:=hide (HU.out.ext hE);have HV1:=hide (HV.out.ext hE);clear hE HC HU HV HX0)|(go_at_call 53;refine(HC1.out _ HX1.out).mono ?_;rintro e w2 ⟨rfl,hE⟩;clear f1 f2;have f1:=(HU1.out.ext hE).cell;have f2:=(HV1.out.ext hE).cell;have HX2:=hide (HX1.out.trans hE);clear hE HC1 HU1 HV1 HX1)|(go_at_call 53;refine(HC2.out _ HX2.out).mono ?_;rintro e w3 ⟨rfl,hE⟩;clear f1 f2;have HX3:=hide (HX2.out.trans hE);clear hE HC2 HX2));go_ret;exact⟨ret_b (by rw[eqSt,HR.out,HR1.out,HR2.out];simp),HX3.out⟩
  ·have fo:(o==o')=false:=by simpa using ho
   clear ho HC HC1 HC2 HU HV;go_enter func99,ntmps99;go_wp2_with fail;go_ret;exact⟨ret_b (by simp[eqSt,fo]),HX0.out⟩
 ·have fk:(k==k')=false:=by simpa using hk
  clear hk HC HC1 HC2 HU HV;go_enter func99,ntmps99;go_wp2_with fail;go_ret;exact⟨ret_b (by simp[eqSt,fk]),HX0.out⟩
theorem eqfS_any (xs ys:List St) (P:Nat->Prop) (w:World) (A B:Option Addr) (n m c d:Nat) (hA:RdS w P (.slice A n c) xs) (hB:RdS w P (.slice B m d) ys) (hIH: ∀x,x∈xs-> ∀y:St,EqX x.ex y.ex/\EqZ x.body y.body/\EqZ x.els y.els):
  Calls prog 98 #[.slice A n c, .slice B m d, .func (.func 99) #[] #[]] w fun e w'=>e= .returned (.bool (eqS xs ys))/\Ext w w':=by
 have hnl:=hA.len;have hml:=hB.len;have hnm:n<=maxLen:=by obtain⟨A',c',hv,h⟩:=hA.form;injection hv with _ hn _;rcases h with h|⟨h1,h2,_⟩;(rw[hn,h];exact Nat.zero_le _);omega
 unfold maxLen at hnm;have HNL:=hide hnl;have HML:=hide hml;have HA:=hide hA;have HB:=hide hB;have HI:=hide hIH;clear hA hB hIH hnl hml;by_cases h2:n=m
 ·have h2b:((n:Int)==(m:Int))=true:=by simp[h2]
  have h2c:((n:Int) !=(m:Int))=false:=by simp[h2]
  have H2:=hide h2;clear h2;go_enter func98,ntmps98;go_wp2_with fail
  go_loopw [17] (fun i wr=> ∃j:Nat,j<=n/\i= .int .i64 (j:Int)/\Hid (Ext w wr)/\Hid (∀i (h:i<xs.length) (h':i<ys.length),i<j->eqSt xs[i] ys[i]=true)) (fun i _=>n-(intOf i).toNat)
  case atStart=>exact⟨0,Nat.zero_le _,rfl,hide (Ext.refl w),hide (fun _ _ _ h=>absurd h (Nat.not_lt_zero _))⟩
  case round=>
   obtain⟨j,hj,rfl,HX,HT⟩:=hrel;clear h2b h2c;by_cases hlt:j<n
   ·have hlt':(j:Int)<n:=by omega
    have hlt2:j<m:=by have:=H2.out;omega
    have hlt2':(j:Int)<m:=by omega
    have hjl:j<xs.length:=by have:=HNL.out;omega
    have hjl2:j<ys.length:=by have:=HML.out;omega
    obtain⟨b1,o1,a1,a2,a3,rfl,hb1,_,p0,p1,p2,p3,p4,hRa,hSa,hLa⟩:=HA.out.at_ j hjl;obtain⟨b2,o2,g1,g2,g3,rfl,hb2,_,q0,q1,q2,q3,q4,hRb,hSb,hLb⟩:=HB.out.at_ j hjl2;have pe0:=(HX.out.cell b1 _ hb1).trans p0;have pe1:=(HX.out.cell b1 _ hb1).trans p1;have pe2:=(HX.out.cell b1 _ hb1).trans p2;have pe3:=(HX.out.cell b1 _ hb1).trans p3;have pe4:=(HX.out.cell b1 _ hb1).trans p4;clear p0 p1 p2 p3 p4;have qe0:=(HX.out.cell b2 _ hb2).trans q0;have qe1:=(HX.out.cell b2 _ hb2).trans q1;have qe2:=(HX.out.cell b2 _ hb2).trans q2;have qe3:=(HX.out.cell b2 _ hb2).trans q3;have qe4:=(HX.out.cell b2 _ hb2).trans q4;clear q0 q1 q2 q3 q4;have hl1:b1<wr.heap.size:=Nat.lt_of_lt_of_le hb1 HX.out.size;have hl2:b2<wr.heap.size:=Nat.lt_of_lt_of_le hb2 HX.out.size;have HBad:=hide (fun h=>eqS_bad (a:=xs) (b:=ys) j hjl hjl2 h)
    have HG:=hide (fun(h:eqSt xs[j] ys[j]=true)=>(show ∀i (h:i<xs.length) (h':i<ys.length),i<j+1->eqSt xs[i] ys[i]=true from fun i h1 h2 h3=>by
     by_cases h4:i=j
     ·subst h4;exact h
     ·exact HT.out i h1 h2 (by omega)))
    have hih:=HI.out xs[j] (List.getElem_mem hjl) ys[j];generalize xs[j]=x at*;generalize ys[j]=y at*;obtain⟨A1,c1,rfl,_⟩:=hRa.form;obtain⟨B1,d1,rfl,_⟩:=hRb.form;obtain⟨A2,c2,rfl,_⟩:=hSa.form;obtain⟨B2,d2,rfl,_⟩:=hSb.form;obtain⟨A3,c3,rfl,_⟩:=hLa.form;obtain⟨B3,d3,rfl,_⟩:=hLb.form;have HY:=hide (fun(W:World) (h:Ext wr W)=>eqsC_any x y P _ _ _ _ _ _ W hih.1 hih.2.1 hih.2.2 (hRa.keep (.of_ext (HX.out.trans h)) (fun _ hb _=>hb)) (hRb.keep (.of_ext (HX.out.trans h)) (fun _ hb _=>hb)) (hSa.keep (.of_ext (HX.out.trans h)) (fun _ hb _=>hb)) (hSb.keep (.of_ext (HX.out.trans h)) (fun _ hb _=>hb)) (hLa.keep (.of_ext (HX.out.trans h)) (fun _ hb _=>hb)) (hLb.keep (.of_ext (HX.out.trans h)) (fun _ hb _=>hb)));clear hRa hRb hSa hSb hLa hLb;generalize hpe:eqSt x y=pe at*;have HPE:=hide hpe;clear hpe hih
    cases pe with
    |false=>
     have HQ:=hide (HBad.out rfl);clear HG HBad;go_wp2_with (go_at_call 99;refine(HY.out _ ((Ext.alloc _ _).alloc' _)).mono ?_;rintro e w1 ⟨rfl,hE⟩;have HE:=hide (((Ext.alloc _ _).alloc' _).trans hE);clear hE HY);go_ret;exact⟨ret_b HQ.out.symm,HX.out.trans HE.out⟩
    |true=>
     have HQ:=hide (HG.out rfl);clear HG HBad;go_wp2_with (go_at_call 99;refine(HY.out _ ((Ext.alloc _ _).alloc' _)).mono ?_;rintro e w1 ⟨rfl,hE⟩;have HE:=hide (((Ext.alloc _ _).alloc' _).trans hE);clear hE HY);go_roundw
     case rel=>exact⟨j+1,by omega,by go_num,hide (HX.out.trans HE.out),HQ⟩
     case measure=>simp[intOf];omega
   ·have hlt': ¬(j:Int)<n:=by omega
    have hjj:j=n:=by omega
    have HQ:=hide (eqS_good (a:=xs) (b:=ys) (by have:=HNL.out;have:=HML.out;have:=H2.out;omega) (fun i h1 h2=>HT.out i h1 h2 (by have:=HNL.out;omega)));clear HT;go_wp2_with fail;go_ret;exact⟨ret_b HQ.out.symm,HX.out⟩
 ·have h2b:((n:Int)==(m:Int))=false:=by simp;omega
  have h2c:((n:Int) !=(m:Int))=true:=by simp;omega
  have HN:=hide (eqS_len (a:=xs) (b:=ys) (by have:=HNL.out;have:=HML.out;omega));clear h2;go_enter func98,ntmps98;go_wp2_with fail;go_ret;exact⟨ret_b HN.out.symm,Ext.refl w⟩
theorem eqz_all: ∀(k:Nat) (xs ys:List St),wtS xs<k->EqZ xs ys
 |0,xs,ys,h=>absurd h (Nat.not_lt_zero _)
 |k+1,xs,ys,h=>by
  intro P w u v hu hv;obtain⟨A,c,rfl,_⟩:=hu.form;obtain⟨B,d,rfl,_⟩:=hv.form;have HQ:=hide (eqfS_any xs ys P w A B _ _ c d hu hv (fun x hx y=>⟨eqx_any _ _,eqz_all k x.body y.body (by have:=wtS_mem hx;have:=x.wt_eq;omega),eqz_all k x.els y.els (by have:=wtS_mem hx;have:=x.wt_eq;omega)⟩));clear hu hv;go_enter func53,ntmps53;go_wp2_with (go_at_call 98;refine HQ.out.mono ?_;rintro e w1 ⟨rfl,hE⟩;have HE:=hide hE;clear hE HQ);go_ret;exact⟨rfl,HE.out⟩
theorem eqz_any (xs ys:List St):EqZ xs ys:=eqz_all _ xs ys (Nat.lt_succ_self _)
end Go.Proofs.YtelplgkppalmfaaGreatDoor
