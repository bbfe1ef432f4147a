/-
  Parts of the proof: PaB.
-/
import Derived.Test.YtddomeddabfinaaGreatDoorTz00
import Derived.BigRegion
import Derived.Test.YtddomeddabfinaaGreatDoorTz24
import Derived.Test.YtddomeddabfinaaGreatDoorTz16
import Derived.Test.YtddomeddabfinaaGreatDoorTz22
set_option maxRecDepth 100000
set_option maxHeartbeats 8000000
set_option linter.unusedVariables false
set_option linter.unusedSimpArgs false
set_option linter.unusedSectionVars false
namespace Go.Proofs.YtddomeddabfinaaGreatDoor
open Go.Proofs.Tryz
open Go.RowKit
structure PW (w:World) (x0 x1 y z:Value) (W:World):Prop where
 e:aq w W
 b0:aL W w.heap.size 34 #[x0,x1]
 b1:aL W (w.heap.size+1) 3 #[y]
 b2:aL W (w.heap.size+1+1) 28 #[z]
theorem BM (w:World) (x0 x1 y z:Value):PW w x0 x1 y z (((w.alloc (.cells #[x0,x1] 34)).alloc (.cells #[y] 3)).alloc (.cells #[z] 28)):=by
 refine⟨((O w _).alloc' _).alloc' _,((an w _ _).alloc _).alloc _,?_,?_⟩
 ·have:=(an (w.alloc (.cells #[x0,x1] 34)) 3 #[y]).alloc (.cells #[z] 28);rwa [World.size_alloc]at this
 ·have:=an ((w.alloc (.cells #[x0,x1] 34)).alloc (.cells #[y] 3)) 28 #[z];rwa [World.size_alloc,World.size_alloc]at this
section
variable {w W W':World} {x0 x1 y z:Value}
theorem PW.ex (h:PW w x0 x1 y z W) (hE:aq W W'):PW w x0 x1 y z W':=⟨h.e.trans hE,h.b0.ext hE,h.b1.ext hE,h.b2.ext hE⟩
theorem PW.lt (h:PW w x0 x1 y z W):w.heap.size+1+1<W.heap.size:=h.b2.lt
theorem PW.grown {g:Nat} (h:PW w x0 x1 y z W) (hg:W.grownBy W' (some g)) (hk:w.heap.size+1+1<g):PW w x0 x1 y z W':=
 ⟨h.e.grown hg (fun k e=>by injection e with e;omega),h.b0.grown hg (fun e=>by injection e with e;omega),h.b1.grown hg (fun e=>by injection e with e;omega),h.b2.grown hg (fun e=>by injection e with e;omega)⟩
theorem PW.drew (h:PW w x0 x1 y z W):PW w x0 x1 y z W.drew:=⟨h.e.drew,h.b0.drew,h.b1.drew,h.b2.drew⟩
theorem PW.put0 (h:PW w x0 x1 y z W) (p0 p1:Value):PW w p0 p1 y z ((W.setCell ⟨w.heap.size,0,none⟩ p0).setCell ⟨w.heap.size,1,none⟩ p1):=by
 refine⟨(h.e.set (ah _) _).set (ah _) _,?_,(h.b1.far (p:=⟨w.heap.size,0,none⟩) (by show _≠w.heap.size;omega) _).far (p:=⟨w.heap.size,1,none⟩) (by show _≠w.heap.size;omega) _,(h.b2.far (p:=⟨w.heap.size,0,none⟩) (by show _≠w.heap.size;omega) _).far (p:=⟨w.heap.size,1,none⟩) (by show _≠w.heap.size;omega) _⟩;have:=(h.b0.set 0 p0).set 1 p1;simpa using this
theorem PW.put1 (h:PW w x0 x1 y z W) (q:Value):PW w x0 x1 q z (W.setCell ⟨w.heap.size+1,0,none⟩ q):=by
 refine⟨h.e.set (by show w.heap.size<=w.heap.size+1;omega) _,h.b0.far (p:=⟨w.heap.size+1,0,none⟩) (by show _≠w.heap.size+1;omega) _,?_,h.b2.far (p:=⟨w.heap.size+1,0,none⟩) (by show _≠w.heap.size+1;omega) _⟩;have:=h.b1.set 0 q;simpa using this
theorem PW.put2 (h:PW w x0 x1 y z W) (q:Value):PW w x0 x1 y q (W.setCell ⟨w.heap.size+1+1,0,none⟩ q):=by
 refine⟨h.e.set (by show w.heap.size<=w.heap.size+1+1;omega) _,h.b0.far (p:=⟨w.heap.size+1+1,0,none⟩) (by show _≠w.heap.size+1+1;omega) _,h.b1.far (p:=⟨w.heap.size+1+1,0,none⟩) (by show _≠w.heap.size+1+1;omega) _,?_⟩;have:=h.b2.set 0 q;simpa using this
end
theorem tO {w W:World} {b i:Nat} (v:Value):cC (fun k=>k≠b) W (W.setCell ⟨b,i,none⟩ v):=⟨by simp[World.setCell],fun k hk _=>Below.heap_setCell W ⟨b,i,none⟩ v k hk⟩
theorem uv.keepP {w w':World} {P:Nat->Prop} {A:Option Addr} {c:Nat} {l:List bN} (h:uv w A c l) (hk:cC P w w') (hP: ∀b off,A=some ⟨b,off,none⟩->l≠ []->P b):uv w' A c l:=by
 refine⟨h.le,h.max,?_⟩;by_cases hl:l=[]
 ·exact .inl hl
 ·rcases h.rd with h0|⟨b,off,ha,hlt,hc⟩
  ·exact .inl h0
  ·have cc:=fun o=>hk.cell o (hP b off ha hl) hlt;exact .inr ⟨b,off,ha,aA hlt hk.size,fun i hi=>let⟨q0,q1,q2,q3⟩:=hc i hi;⟨(cc _).trans q0,(cc _).trans q1,(cc _).trans q2,(cc _).trans q3⟩⟩
theorem sL {w W:World} {x0 x1 y z a b:Value} {base:Nat} {A:Option Addr} {c:Nat} {ts:List bN} (sl:Int) (h:PW w x0 x1 y z W) (hO:gB W base 206 (.slice A ts.length c) ts) (hb:w.heap.size+3<=base):
  PA (((W.setCell ⟨w.heap.size+1,0,none⟩ a).setCell ⟨w.heap.size+1+1,0,none⟩ b).alloc (.cells #[.slice A ts.length c, .int .i64 sl] 155)) W.heap.size ts sl:=by
 have hT:=hO.tks.2;have hB: ∀k,(Value.slice A ts.length c).ownBlock=some k->base<=k:=fun k hk=>(World.ownsRow.lt hO k hk).1;have hk1: ∀b off,A=some ⟨b,off,none⟩->ts≠ []->b≠w.heap.size+1/\b≠w.heap.size+1+1:=fun b off e hne=>by
  subst e;have:=hB b rfl;omega
 have hs:(((W.setCell ⟨w.heap.size+1,0,none⟩ a).setCell ⟨w.heap.size+1+1,0,none⟩ b)).heap.size=W.heap.size:=by simp[World.setCell]
 have hT1:=(hT.keepP (tO (w:=w) (b:=w.heap.size+1) (i:=0) a) (fun b off e hne=>(hk1 b off e hne).1)).keepP (tO (w:=w) (b:=w.heap.size+1+1) (i:=0) b) (fun b off e hne=>(hk1 b off e hne).2);refine⟨A,c,?_,hT1.ext (O _ _),fun b off e hne=> ?_⟩
 ·have:=an ((W.setCell ⟨w.heap.size+1,0,none⟩ a).setCell ⟨w.heap.size+1+1,0,none⟩ b) 155 #[.slice A ts.length c, .int .i64 sl];rwa [hs]at this
 ·rcases hT.rd with h0|⟨b',off',ha,hlt,_⟩
  ·exact absurd h0 hne
  ·rw[e]at ha;injection ha with ha;injection ha with ha;omega
theorem fU {w w':World} (h:du w w.heap.size) (he:aq w w'):du w' w'.heap.size:=⟨(h.fb (aT he (ah _))).1,aA h.2 he.size⟩
theorem mA {w W:World} {b i:Nat} (v:Value) (hb:b<=w.heap.size+1+1):cC (fun b=>w.heap.size+1+1<b) W (W.setCell ⟨b,i,none⟩ v):=
 ⟨by simp[World.setCell],fun k hk _=>Below.heap_setCell W ⟨b,i,none⟩ v k (by show k≠b;omega)⟩
theorem ql {w W:World} (a b:Value):cC (fun b=>w.heap.size+1+1<b) W ((W.setCell ⟨w.heap.size,0,none⟩ a).setCell ⟨w.heap.size,1,none⟩ b):=
 eB (mA a (by omega)) (mA b (by omega))
theorem xP {w W:World} (a b c d:Value):cC (fun b=>w.heap.size+1+1<b) W ((((W.setCell ⟨w.heap.size,0,none⟩ a).setCell ⟨w.heap.size,1,none⟩ b).setCell ⟨w.heap.size+1,0,none⟩ c).setCell ⟨w.heap.size+1+1,0,none⟩ d):=
 eB (eB (eB (mA a (by omega)) (mA b (by omega))) (mA c (by omega))) (mA d (by omega))
def yS (w:World) (r:Pg×Int×Int) (e:Ending) (w':World):Prop:=
 aq w w'/\ ∃A n c B m d,e= .returned (.tuple #[.agg #[.slice A n c, .slice B m d], .int .i64 r.2.1, .int .i64 r.2.2])/\mc w' (fun b=>w.heap.size<=b) (.slice A n c) r.1.vs/\mm w' (fun b=>w.heap.size<=b) (.slice B m d) r.1.fs
theorem mw {w w':World} {at_ en:Int} (hE:aq w w'):yS w (ln,at_,en) (.returned (.tuple #[.agg #[.slice none 0 0, .slice none 0 0], .int .i64 at_, .int .i64 en])) w':=
 ⟨hE,none,0,0,none,0,0,rfl,⟨none,0,rfl, .inl rfl⟩,⟨none,0,rfl, .inl rfl⟩⟩
theorem vx (s:List UInt8) (w:World) (hz:EZ w) (ht:du w w.heap.size):Calls prog 32 #[.string (ai s)] w (yS w (lQ s)):=by
 have hmf: ∀(fn:Fn) (first cap:Array Value) (w:World),(Instr.makeFunc fn first cap).run prog w= .ok (.func fn first cap) w:=fun _ _ _ _=>rfl;obtain⟨⟨ts,at_,en⟩,hR⟩: ∃R,ge s=R:=⟨_,rfl⟩
 have hsz:(ai s).size=s.length:=a7 s;have HW0:=G (BM w (.slice none 0 0) (.slice none 0 0) (.int .i64 0) (.int .i64 0))
 have HTK:=G (show ∀W,EZ W->Calls prog 58 #[.string (ai s)] W (fun e w'=> ∃A c,e= .returned (.tuple #[.slice A ts.length c, .int .i64 at_, .int .i64 en])/\gB w' W.heap.size 206 (.slice A ts.length c) ts/\aq W w')from
  fun W h=>by
   have:=se s W h;rw[hR]at this
   exact this.mono (fun e w' ⟨⟨A,c,h1,h2⟩,h3⟩=>⟨A,c,h1,h2,h3⟩))
 have HZ:=G hz;have HT:=G ht;clear hz ht;by_cases hen:en=0
 ·subst hen;have HP:=G (show lQ s=vC s.length ts by unfold lQ;rw[hR];rfl);have htw:=zc s;rw[hR]at htw;have htw:ts.length<=4000/\df ts<=12000:=htw;have HTW:=G htw;clear hR htw;generalize s.length=sl at*;generalize hxx:c7 (4*ts.length+8) ln ts=X;have HX:=G hxx
  cases X with
  |error qn=>
   obtain⟨q,n⟩:=qn;have HQ:=G (show lQ s=(ln,Do (sl:Int) q,n) by rw[HP.out,vC,hxx]);clear hxx HP;go_enter_defers func32,ntmps32;go_wp2_with (first|(go_at_call 58;refine(HTK.out _ (HZ.out.ext HW0.out.e)).mono ?_;rintro e w1 ⟨A,c,rfl,hO,hE⟩;have HW1:=G (HW0.out.ex hE);have c1:=HW1.out.b1.cell;have z1:=HW1.out.b1.frozen;have c2:=HW1.out.b2.cell;have z2:=HW1.out.b2.frozen;have HPA:=G (sL (a:= .int .i64 at_) (b:= .int .i64 0) (sl:Int) HW1.out hO (by have:=HW0.out.lt;omega));have HW5:=G (((HW1.out.put1 (.int .i64 at_)).put2 (.int .i64 0)).ex (O _ (.cells #[.slice A ts.length c, .int .i64 sl] 155)));have hgl:=HW1.out.lt;clear hE hO HTK HZ HW0 HW1)|(go_at_call 60;refine(nT (4*ts.length+8) (by have:=HTW.out.1;omega) ts (sl:Int) _ _ HPA.out (by omega)).mono ?_;intro e w3 hh;rw[show c7 (4*ts.length+8) ⟨[],[]⟩ ts=_ from HX.out]at hh;obtain⟨hG,he⟩:=hh;have he:e= .panicked [{v:= .iface 151 (.agg #[.int .i64 (Do (sl:Int) q), .int .i64 n]),recovered:=false}]:=he;subst he;have HW3:=G (HW5.out.grown hG hgl);clear hG HPA HW5));refine leaves_cons (f:=59) (args:= #[.pointer (some ⟨w.heap.size,0,none⟩), .pointer (some ⟨w.heap.size+1,0,none⟩), .pointer (some ⟨w.heap.size+1+1,0,none⟩)]) (by simp) (by simp[go_sem]) ?_;refine(rL w w3 w.heap.size (w.heap.size+1) (w.heap.size+1+1) _ _ _ _ _ _ _ HW3.out.e HW3.out.b0 HW3.out.b1 HW3.out.b2 (by omega) (by omega) (by omega) (by omega) (by omega) (by omega)).mono ?_;rintro e u' w4 ⟨rfl,rfl,hE,h0,h1,h2⟩;have d0:=h0.cell;have d1:=h1.cell;have d2:=h2.cell;refine(show Leaves _ _ _ _ [] .returning w4 from ?_);refine⟨.tuple #[.agg #[.slice none 0 0, .slice none 0 0], .int .i64 (Do (sl:Int) q), .int .i64 n],?_,by rw[HQ.out];exact mw hE⟩;simp[results,results32,go_sem,d0,d1,d2]
  |ok pr=>
   obtain⟨p,r⟩:=pr;have hwp:lz p<=6000000:=by
    have:=(sI _ _ _ _ _ hxx).1;have h0:lz ln=0:=rfl;have:=HTW.out.2;omega
   generalize hokk:gZ p=ok
   have HVD:=G (show ∀(P:Nat->Prop) (W:World) (A B:Option Addr) (n c m d:Nat),mc W P (.slice A n c) p.vs->mm W P (.slice B m d) p.fs->du W W.heap.size->Calls prog 35 #[.agg #[.slice A n c, .slice B m d]] W fun e w'=>e= .returned (.bool ok)/\aq W w' from
    fun P W A B n c m d h1 h2 h3=>hokk▸tC p hwp P W A B n c m d h1 h2 h3)
   have HQ:=G (show lQ s=if ok then(p,0,0)else(ln,0,6) by rw[HP.out,vC,hxx];simp only[hokk]);clear hxx HP hokk hwp
   cases ok with
   |true=>
    have HQ:=G (show lQ s=(p,0,0)from HQ.out);go_enter_defers func32,ntmps32;go_wp2_with (first|(go_at_call 58;refine(HTK.out _ (HZ.out.ext HW0.out.e)).mono ?_;rintro e w1 ⟨A,c,rfl,hO,hE⟩;have HW1:=G (HW0.out.ex hE);have c1:=HW1.out.b1.cell;have z1:=HW1.out.b1.frozen;have c2:=HW1.out.b2.cell;have z2:=HW1.out.b2.frozen;have HPA:=G (sL (a:= .int .i64 at_) (b:= .int .i64 0) (sl:Int) HW1.out hO (by have:=HW0.out.lt;omega));have HW5:=G (((HW1.out.put1 (.int .i64 at_)).put2 (.int .i64 0)).ex (O _ (.cells #[.slice A ts.length c, .int .i64 sl] 155)));have hgl:=HW1.out.lt;clear hE hO HTK HZ HW0 HW1)|(go_at_call 60;refine(nT (4*ts.length+8) (by have:=HTW.out.1;omega) ts (sl:Int) _ _ HPA.out (by omega)).mono ?_;intro e w3 hh;rw[show c7 (4*ts.length+8) ⟨[],[]⟩ ts=_ from HX.out]at hh;obtain⟨hG,A2,n2,cc2,B2,m2,dd2,he,hV,hF⟩:=hh;subst he;have HW3:=G (HW5.out.grown hG hgl);have hs5:=HW5.out.lt;have HW4:=G (HW3.out.put0 (.slice A2 n2 cc2) (.slice B2 m2 dd2));have HV4:=G ((hV.keep (Q:=fun b=>w.heap.size+1+1<b) ⟨ah _,fun _ _ _=>rfl⟩ (fun b hb _=>aA hs5 hb)).keep (Q:=fun b=>w.heap.size+1+1<b) (ql (.slice A2 n2 cc2) (.slice B2 m2 dd2)) (fun _ hb _=>hb));have HF4:=G ((hF.keep (Q:=fun b=>w.heap.size+1+1<b) ⟨ah _,fun _ _ _=>rfl⟩ (fun b hb _=>aA hs5 hb)).keep (Q:=fun b=>w.heap.size+1+1<b) (ql (.slice A2 n2 cc2) (.slice B2 m2 dd2)) (fun _ hb _=>hb));have c0:=HW3.out.b0.cell;have z0:=HW3.out.b0.frozen;clear hG HPA HW5 hV hF hs5 HW3)|(go_at_call 35;refine(HVD.out _ _ _ _ _ _ _ _ HV4.out HF4.out (fU HT.out HW4.out.e)).mono ?_;rintro e w5 ⟨rfl,hE⟩;clear c0 z0;have HW6:=G (HW4.out.ex hE);have HV6:=G (HV4.out.keep (.of_ext hE) (Q:=fun b=>w.heap.size+1+1<b) (fun _ hb _=>hb));have HF6:=G (HF4.out.keep (.of_ext hE) (Q:=fun b=>w.heap.size+1+1<b) (fun _ hb _=>hb));have c0:=HW6.out.b0.cell;have z0:=HW6.out.b0.frozen;have c1:=HW6.out.b1.cell;have z1:=HW6.out.b1.frozen;have c2:=HW6.out.b2.cell;have z2:=HW6.out.b2.frozen;clear hE HV4 HF4 HW4 HVD HT));have HW7:=G (((HW6.out.put0 (.slice A2 n2 cc2) (.slice B2 m2 dd2)).put1 (.int .i64 0)).put2 (.int .i64 0));have HV7:=G (HV6.out.keep (Q:=fun b=>w.heap.size<=b) (xP (.slice A2 n2 cc2) (.slice B2 m2 dd2) (.int .i64 0) (.int .i64 0)) (fun b hb _=>by omega));have HF7:=G (HF6.out.keep (Q:=fun b=>w.heap.size<=b) (xP (.slice A2 n2 cc2) (.slice B2 m2 dd2) (.int .i64 0) (.int .i64 0)) (fun b hb _=>by omega));refine leaves_cons (f:=59) (args:= #[.pointer (some ⟨w.heap.size,0,none⟩), .pointer (some ⟨w.heap.size+1,0,none⟩), .pointer (some ⟨w.heap.size+1+1,0,none⟩)]) (by simp) (by simp[go_sem]) ?_;refine(ou _ _ _ _).mono ?_;rintro e u' w8 ⟨rfl,rfl,rfl⟩;have d0:=HW7.out.b0.cell;have d1:=HW7.out.b1.cell;have d2:=HW7.out.b2.cell;refine(show Leaves _ _ _ _ [] .returning _ from ?_);refine⟨.tuple #[.agg #[.slice A2 n2 cc2, .slice B2 m2 dd2], .int .i64 0, .int .i64 0],?_,by rw[HQ.out];exact⟨HW7.out.e,_,_,_,_,_,_,rfl,HV7.out,HF7.out⟩⟩;simp[results,results32,go_sem,d0,d1,d2]
   |false=>
    have HQ:=G (show lQ s=(ln,0,6)from HQ.out);go_enter_defers func32,ntmps32;go_wp2_with (first|(go_at_call 58;refine(HTK.out _ (HZ.out.ext HW0.out.e)).mono ?_;rintro e w1 ⟨A,c,rfl,hO,hE⟩;have HW1:=G (HW0.out.ex hE);have c1:=HW1.out.b1.cell;have z1:=HW1.out.b1.frozen;have c2:=HW1.out.b2.cell;have z2:=HW1.out.b2.frozen;have HPA:=G (sL (a:= .int .i64 at_) (b:= .int .i64 0) (sl:Int) HW1.out hO (by have:=HW0.out.lt;omega));have HW5:=G (((HW1.out.put1 (.int .i64 at_)).put2 (.int .i64 0)).ex (O _ (.cells #[.slice A ts.length c, .int .i64 sl] 155)));have hgl:=HW1.out.lt;clear hE hO HTK HZ HW0 HW1)|(go_at_call 60;refine(nT (4*ts.length+8) (by have:=HTW.out.1;omega) ts (sl:Int) _ _ HPA.out (by omega)).mono ?_;intro e w3 hh;rw[show c7 (4*ts.length+8) ⟨[],[]⟩ ts=_ from HX.out]at hh;obtain⟨hG,A2,n2,cc2,B2,m2,dd2,he,hV,hF⟩:=hh;subst he;have HW3:=G (HW5.out.grown hG hgl);have hs5:=HW5.out.lt;have HW4:=G (HW3.out.put0 (.slice A2 n2 cc2) (.slice B2 m2 dd2));have HV4:=G ((hV.keep (Q:=fun b=>w.heap.size+1+1<b) ⟨ah _,fun _ _ _=>rfl⟩ (fun b hb _=>aA hs5 hb)).keep (Q:=fun b=>w.heap.size+1+1<b) (ql (.slice A2 n2 cc2) (.slice B2 m2 dd2)) (fun _ hb _=>hb));have HF4:=G ((hF.keep (Q:=fun b=>w.heap.size+1+1<b) ⟨ah _,fun _ _ _=>rfl⟩ (fun b hb _=>aA hs5 hb)).keep (Q:=fun b=>w.heap.size+1+1<b) (ql (.slice A2 n2 cc2) (.slice B2 m2 dd2)) (fun _ hb _=>hb));have c0:=HW3.out.b0.cell;have z0:=HW3.out.b0.frozen;clear hG HPA HW5 hV hF hs5 HW3)|(go_at_call 35;refine(HVD.out _ _ _ _ _ _ _ _ HV4.out HF4.out (fU HT.out HW4.out.e)).mono ?_;rintro e w5 ⟨rfl,hE⟩;clear c0 z0;have HW6:=G (HW4.out.ex hE);have HV6:=G (HV4.out.keep (.of_ext hE) (Q:=fun b=>w.heap.size+1+1<b) (fun _ hb _=>hb));have HF6:=G (HF4.out.keep (.of_ext hE) (Q:=fun b=>w.heap.size+1+1<b) (fun _ hb _=>hb));have c0:=HW6.out.b0.cell;have z0:=HW6.out.b0.frozen;have c1:=HW6.out.b1.cell;have z1:=HW6.out.b1.frozen;have c2:=HW6.out.b2.cell;have z2:=HW6.out.b2.frozen;clear hE HV4 HF4 HW4 HVD HT));have HW7:=G (((HW6.out.put0 (.slice none 0 0) (.slice none 0 0)).put1 (.int .i64 0)).put2 (.int .i64 6));refine leaves_cons (f:=59) (args:= #[.pointer (some ⟨w.heap.size,0,none⟩), .pointer (some ⟨w.heap.size+1,0,none⟩), .pointer (some ⟨w.heap.size+1+1,0,none⟩)]) (by simp) (by simp[go_sem]) ?_;refine(ou _ _ _ _).mono ?_;rintro e u' w8 ⟨rfl,rfl,rfl⟩;have d0:=HW7.out.b0.cell;have d1:=HW7.out.b1.cell;have d2:=HW7.out.b2.cell;refine(show Leaves _ _ _ _ [] .returning _ from ?_);refine⟨.tuple #[.agg #[.slice none 0 0, .slice none 0 0], .int .i64 0, .int .i64 6],?_,by rw[HQ.out];exact mw HW7.out.e⟩;simp[results,results32,go_sem,d0,d1,d2]
 ·have hne:(en !=0)=true:=by simp[bne,hen]
  have hee:(en==0)=false:=by simp[hen]
  have HP:=G (show lQ s=(ln,at_,en) by unfold lQ;rw[hR];exact if_neg hen);clear hR hen hsz;go_enter_defers func32,ntmps32;go_wp2_with (go_at_call 58;refine(HTK.out _ (HZ.out.ext HW0.out.e)).mono ?_;rintro e w1 ⟨A,c,rfl,hO,hE⟩;have HW1:=G (HW0.out.ex hE);have c1:=HW1.out.b1.cell;have z1:=HW1.out.b1.frozen;have c2:=HW1.out.b2.cell;have z2:=HW1.out.b2.frozen;clear hE hO HTK HZ HT HW0);have HW2:=G ((HW1.out.put1 (.int .i64 at_)).put2 (.int .i64 en));clear c1 z1 c2 z2 HW1;generalize (w1.setCell ⟨w.heap.size+1,0,none⟩ (.int .i64 at_)).setCell ⟨w.heap.size+1+1,0,none⟩ (.int .i64 en)=w2 at*;have c0:=HW2.out.b0.cell;have c1:=HW2.out.b1.cell;have c2:=HW2.out.b2.cell;have z0:=HW2.out.b0.frozen;have z1:=HW2.out.b1.frozen;have z2:=HW2.out.b2.frozen;go_region;have HW3:=G ((((HW2.out.put0 (.slice none 0 0) (.slice none 0 0)).put1 (.int .i64 at_)).put2 (.int .i64 en)).drew);go_wp2_with fail;have d0:=HW3.out.b0.cell;have d1:=HW3.out.b1.cell;have d2:=HW3.out.b2.cell;refine⟨.tuple #[.agg #[.slice none 0 0, .slice none 0 0], .int .i64 at_, .int .i64 en],?_,by rw[HP.out];exact mw HW3.out.e⟩;simp[results,results32,go_sem,d0,d1,d2]
end Go.Proofs.YtddomeddabfinaaGreatDoor
