/-
  Parts of the proof: PaB PaC EqP EqW.
-/
import Derived.Test.YtelplgkppalmfaaGreatDoorPs00
import Derived.BigRegion
import Derived.Test.YtelplgkppalmfaaGreatDoorPs10
import Derived.Test.YtelplgkppalmfaaGreatDoorPs26
import Derived.Test.YtelplgkppalmfaaGreatDoorPs27
import Derived.Test.YtelplgkppalmfaaGreatDoorPs09
import Derived.Test.YtelplgkppalmfaaGreatDoorPs17
set_option maxRecDepth 100000
set_option maxHeartbeats 8000000
set_option linter.unusedVariables false
set_option linter.unusedSimpArgs false
namespace Go.Proofs.YtelplgkppalmfaaGreatDoor
open Go.Proofs.Tryz
section
open Go.RowKit
structure PW (w:World) (x0 x1 y z:Value) (W:World):Prop where
 e:al w W
 b0:aT W w.heap.size 26 #[x0,x1]
 b1:aT W (w.heap.size+1) 3 #[y]
 b2:aT W (w.heap.size+1+1) 27 #[z]
theorem xD (w:World) (x0 x1 y z:Value):PW w x0 x1 y z (((w.alloc (.cells #[x0,x1] 26)).alloc (.cells #[y] 3)).alloc (.cells #[z] 27)):=by
 refine⟨((O w _).alloc' _).alloc' _,((ai w _ _).alloc _).alloc _,?_,?_⟩
 ·have:=(ai (w.alloc (.cells #[x0,x1] 26)) 3 #[y]).alloc (.cells #[z] 27);rwa [aQ]at this
 ·have:=ai ((w.alloc (.cells #[x0,x1] 26)).alloc (.cells #[y] 3)) 27 #[z];rwa [aQ,aQ]at this
section
variable {w W W':World} {x0 x1 y z:Value}
theorem PW.ex (h:PW w x0 x1 y z W) (hE:al W W'):PW w x0 x1 y z W':=⟨h.e.trans hE,h.b0.ext hE,h.b1.ext hE,h.b2.ext hE⟩
theorem PW.lt (h:PW w x0 x1 y z W):w.heap.size+1+1<W.heap.size:=h.b2.lt
theorem PW.grown {g:Nat} (h:PW w x0 x1 y z W) (hg:W.grownBy W' (some g)) (hk:w.heap.size+1+1<g):PW w x0 x1 y z W':=
 ⟨h.e.grown hg (fun k e=>by injection e with e;omega),h.b0.grown hg (fun e=>by injection e with e;omega),h.b1.grown hg (fun e=>by injection e with e;omega),h.b2.grown hg (fun e=>by injection e with e;omega)⟩
theorem PW.drew (h:PW w x0 x1 y z W):PW w x0 x1 y z W.drew:=⟨h.e.drew,h.b0.drew,h.b1.drew,h.b2.drew⟩
theorem PW.put0 (h:PW w x0 x1 y z W) (p0 p1:Value):PW w p0 p1 y z ((W.setCell ⟨w.heap.size,0,none⟩ p0).setCell ⟨w.heap.size,1,none⟩ p1):=by
 refine⟨(h.e.set (ag _) _).set (ag _) _,?_,(h.b1.far (p:=⟨w.heap.size,0,none⟩) (by show _≠w.heap.size;omega) _).far (p:=⟨w.heap.size,1,none⟩) (by show _≠w.heap.size;omega) _,(h.b2.far (p:=⟨w.heap.size,0,none⟩) (by show _≠w.heap.size;omega) _).far (p:=⟨w.heap.size,1,none⟩) (by show _≠w.heap.size;omega) _⟩;have:=(h.b0.set 0 p0).set 1 p1;simpa using this
theorem PW.put1 (h:PW w x0 x1 y z W) (q:Value):PW w x0 x1 q z (W.setCell ⟨w.heap.size+1,0,none⟩ q):=by
 refine⟨h.e.set (by show w.heap.size<=w.heap.size+1;omega) _,h.b0.far (p:=⟨w.heap.size+1,0,none⟩) (by show _≠w.heap.size+1;omega) _,?_,h.b2.far (p:=⟨w.heap.size+1,0,none⟩) (by show _≠w.heap.size+1;omega) _⟩;have:=h.b1.set 0 q;simpa using this
theorem PW.put2 (h:PW w x0 x1 y z W) (q:Value):PW w x0 x1 y q (W.setCell ⟨w.heap.size+1+1,0,none⟩ q):=by
 refine⟨h.e.set (by show w.heap.size<=w.heap.size+1+1;omega) _,h.b0.far (p:=⟨w.heap.size+1+1,0,none⟩) (by show _≠w.heap.size+1+1;omega) _,h.b1.far (p:=⟨w.heap.size+1+1,0,none⟩) (by show _≠w.heap.size+1+1;omega) _,?_⟩;have:=h.b2.set 0 q;simpa using this
end
theorem rO {w W:World} {b i:Nat} (v:Value):cV (fun k=>k≠b) W (W.setCell ⟨b,i,none⟩ v):=⟨by simp[World.setCell],fun k hk _=>Below.heap_setCell W ⟨b,i,none⟩ v k hk⟩
theorem qD.keepP {w w':World} {P:Nat->Prop} {A:Option Addr} {c:Nat} {l:List bB} (h:qD w A c l) (hk:cV P w w') (hP: ∀b off,A=some ⟨b,off,none⟩->l≠ []->P b):qD w' A c l:=by
 refine⟨h.le,h.max,?_⟩;by_cases hl:l=[]
 ·exact .inl hl
 ·rcases h.rd with h0|⟨b,off,ha,hlt,hc⟩
  ·exact .inl h0
  ·have cc:=fun o=>hk.cell o (hP b off ha hl) hlt;exact .inr ⟨b,off,ha,an hlt hk.size,fun i hi=>let⟨q0,q1,q2,q3⟩:=hc i hi;⟨(cc _).trans q0,(cc _).trans q1,(cc _).trans q2,(cc _).trans q3⟩⟩
theorem rr {w W:World} {x0 x1 y z a b:Value} {base:Nat} {A:Option Addr} {c:Nat} {ts:List bB} (sl:Int) (h:PW w x0 x1 y z W) (hO:fx W base 116 (.slice A ts.length c) ts) (hb:w.heap.size+3<=base):
  PA (((W.setCell ⟨w.heap.size+1,0,none⟩ a).setCell ⟨w.heap.size+1+1,0,none⟩ b).alloc (.cells #[.slice A ts.length c, .int .i64 sl] 85)) W.heap.size ts sl:=by
 have hT:=hO.tks.2;have hB: ∀k,(Value.slice A ts.length c).ownBlock=some k->base<=k:=fun k hk=>(aJ hO k hk).1;have hk1: ∀b off,A=some ⟨b,off,none⟩->ts≠ []->b≠w.heap.size+1/\b≠w.heap.size+1+1:=fun b off e hne=>by
  subst e;have:=hB b rfl;omega
 have hs:(((W.setCell ⟨w.heap.size+1,0,none⟩ a).setCell ⟨w.heap.size+1+1,0,none⟩ b)).heap.size=W.heap.size:=by simp[World.setCell]
 have hT1:=(hT.keepP (rO (w:=w) (b:=w.heap.size+1) (i:=0) a) (fun b off e hne=>(hk1 b off e hne).1)).keepP (rO (w:=w) (b:=w.heap.size+1+1) (i:=0) b) (fun b off e hne=>(hk1 b off e hne).2);refine⟨A,c,?_,hT1.ext (O _ _),fun b off e hne=> ?_⟩
 ·have:=ai ((W.setCell ⟨w.heap.size+1,0,none⟩ a).setCell ⟨w.heap.size+1+1,0,none⟩ b) 85 #[.slice A ts.length c, .int .i64 sl];rwa [hs]at this
 ·rcases hT.rd with h0|⟨b',off',ha,hlt,_⟩
  ·exact absurd h0 hne
  ·rw[e]at ha;injection ha with ha;injection ha with ha;omega
theorem gy {w w':World} (h:dQ w w.heap.size) (he:al w w'):dQ w' w'.heap.size:=⟨(h.fb (a6 he (ag _))).1,an h.2 he.size⟩
theorem lD {w W:World} {b i:Nat} (v:Value) (hb:b<=w.heap.size+1+1):cV (fun b=>w.heap.size+1+1<b) W (W.setCell ⟨b,i,none⟩ v):=
 ⟨by simp[World.setCell],fun k hk _=>Below.heap_setCell W ⟨b,i,none⟩ v k (by show k≠b;omega)⟩
theorem o8 {w W:World} (a b:Value):cV (fun b=>w.heap.size+1+1<b) W ((W.setCell ⟨w.heap.size,0,none⟩ a).setCell ⟨w.heap.size,1,none⟩ b):=
 dP (lD a (by omega)) (lD b (by omega))
theorem uO {w W:World} (a b c d:Value):cV (fun b=>w.heap.size+1+1<b) W ((((W.setCell ⟨w.heap.size,0,none⟩ a).setCell ⟨w.heap.size,1,none⟩ b).setCell ⟨w.heap.size+1,0,none⟩ c).setCell ⟨w.heap.size+1+1,0,none⟩ d):=
 dP (dP (dP (lD a (by omega)) (lD b (by omega))) (lD c (by omega))) (lD d (by omega))
def nf (w:World) (r:Pg×Int×Int) (e:Ending) (w':World):Prop:=
 al w w'/\ ∃A n c B m d,e= .returned (.tuple #[.agg #[.slice A n c, .slice B m d], .int .i64 r.2.1, .int .i64 r.2.2])/\iT w' (fun b=>w.heap.size<=b) (.slice A n c) r.1.vs/\iU w' (fun b=>w.heap.size<=b) (.slice B m d) r.1.fs
theorem g_ {w w':World} {at_ en:Int} (hE:al w w'):nf w (f_,at_,en) (.returned (.tuple #[.agg #[.slice none 0 0, .slice none 0 0], .int .i64 at_, .int .i64 en])) w':=
 ⟨hE,none,0,0,none,0,0,rfl,⟨none,0,rfl, .inl rfl⟩,⟨none,0,rfl, .inl rfl⟩⟩
theorem nZ (s:List UInt8) (w:World) (hz:EZ w) (ht:dQ w w.heap.size):Calls prog 10 #[.string (ae s)] w (nf w (gK s)):=by
 have hmf: ∀(fn:Fn) (first cap:Array Value) (w:World),(Instr.makeFunc fn first cap).run prog w= .ok (.func fn first cap) w:=fun _ _ _ _=>rfl;obtain⟨⟨ts,at_,en⟩,hR⟩: ∃R,fz s=R:=⟨_,rfl⟩
 have hsz:(ae s).size=s.length:=aM s;have HW0:=G (xD w (.slice none 0 0) (.slice none 0 0) (.int .i64 0) (.int .i64 0))
 have HTK:=G (show ∀W,EZ W->Calls prog 28 #[.string (ae s)] W (fun e w'=> ∃A c,e= .returned (.tuple #[.slice A ts.length c, .int .i64 at_, .int .i64 en])/\fx w' W.heap.size 116 (.slice A ts.length c) ts/\al W w')from
  fun W h=>by
   have:=qQ s W h;rw[hR]at this
   exact this.mono (fun e w' ⟨⟨A,c,h1,h2⟩,h3⟩=>⟨A,c,h1,h2,h3⟩))
 have HZ:=G hz;have HT:=G ht;clear hz ht;by_cases hen:en=0
 ·subst hen;have HP:=G (show gK s=mM s.length ts by unfold gK;rw[hR];rfl);have htw:=oF s;rw[hR]at htw;have htw:ts.length<=4000/\c7 ts<=12000:=htw;have HTW:=G htw;clear hR htw;generalize s.length=sl at*;generalize hxx:df (4*ts.length+8) f_ ts=X;have HX:=G hxx
  cases X with
  |error qn=>
   obtain⟨q,n⟩:=qn;have HQ:=G (show gK s=(f_,pq (sl:Int) q,n) by rw[HP.out,mM,hxx]);clear hxx HP;go_enter_defers func10,ntmps10;go_wp2_with (first|(go_at_call 28;refine(HTK.out _ (HZ.out.ext HW0.out.e)).mono ?_;rintro e w1 ⟨A,c,rfl,hO,hE⟩;have HW1:=G (HW0.out.ex hE);have c1:=HW1.out.b1.cell;have z1:=HW1.out.b1.frozen;have c2:=HW1.out.b2.cell;have z2:=HW1.out.b2.frozen;have HPA:=G (rr (a:= .int .i64 at_) (b:= .int .i64 0) (sl:Int) HW1.out hO (by have:=HW0.out.lt;omega));have HW5:=G (((HW1.out.put1 (.int .i64 at_)).put2 (.int .i64 0)).ex (O _ (.cells #[.slice A ts.length c, .int .i64 sl] 85)));have hgl:=HW1.out.lt;clear hE hO HTK HZ HW0 HW1)|(go_at_call 30;refine(mJ (4*ts.length+8) (by have:=HTW.out.1;omega) ts (sl:Int) _ _ HPA.out (by omega)).mono ?_;intro e w3 hh;rw[show df (4*ts.length+8) ⟨[],[]⟩ ts=_ from HX.out]at hh;obtain⟨hG,he⟩:=hh;have he:e= .panicked [{v:= .iface 81 (.agg #[.int .i64 (pq (sl:Int) q), .int .i64 n]),recovered:=false}]:=he;subst he;have HW3:=G (HW5.out.grown hG hgl);clear hG HPA HW5));refine leaves_cons (f:=29) (args:= #[.pointer (some ⟨w.heap.size,0,none⟩), .pointer (some ⟨w.heap.size+1,0,none⟩), .pointer (some ⟨w.heap.size+1+1,0,none⟩)]) (by simp) (by simp[go_sem]) ?_;refine(qy w w3 w.heap.size (w.heap.size+1) (w.heap.size+1+1) _ _ _ _ _ _ _ HW3.out.e HW3.out.b0 HW3.out.b1 HW3.out.b2 (by omega) (by omega) (by omega) (by omega) (by omega) (by omega)).mono ?_;rintro e u' w4 ⟨rfl,rfl,hE,h0,h1,h2⟩;have d0:=h0.cell;have d1:=h1.cell;have d2:=h2.cell;refine(show Leaves _ _ _ _ [] .returning w4 from ?_);refine⟨.tuple #[.agg #[.slice none 0 0, .slice none 0 0], .int .i64 (pq (sl:Int) q), .int .i64 n],?_,by rw[HQ.out];exact g_ hE⟩;simp[results,results10,go_sem,d0,d1,d2]
  |ok pr=>
   obtain⟨p,r⟩:=pr;have hwp:kU p<=6000000:=by
    have:=(mI _ _ _ _ _ hxx).1;have h0:kU f_=0:=rfl;have:=HTW.out.2;omega
   generalize hokk:fP p=ok
   have HVD:=G (show ∀(P:Nat->Prop) (W:World) (A B:Option Addr) (n c m d:Nat),iT W P (.slice A n c) p.vs->iU W P (.slice B m d) p.fs->dQ W W.heap.size->Calls prog 14 #[.agg #[.slice A n c, .slice B m d]] W fun e w'=>e= .returned (.bool ok)/\al W w' from
    fun P W A B n c m d h1 h2 h3=>hokk▸mc p hwp P W A B n c m d h1 h2 h3)
   have HQ:=G (show gK s=if ok then(p,0,0)else(f_,0,6) by rw[HP.out,mM,hxx];simp only[hokk]);clear hxx HP hokk hwp
   cases ok with
   |true=>
    have HQ:=G (show gK s=(p,0,0)from HQ.out);go_enter_defers func10,ntmps10;go_wp2_with (first|(go_at_call 28;refine(HTK.out _ (HZ.out.ext HW0.out.e)).mono ?_;rintro e w1 ⟨A,c,rfl,hO,hE⟩;have HW1:=G (HW0.out.ex hE);have c1:=HW1.out.b1.cell;have z1:=HW1.out.b1.frozen;have c2:=HW1.out.b2.cell;have z2:=HW1.out.b2.frozen;have HPA:=G (rr (a:= .int .i64 at_) (b:= .int .i64 0) (sl:Int) HW1.out hO (by have:=HW0.out.lt;omega));have HW5:=G (((HW1.out.put1 (.int .i64 at_)).put2 (.int .i64 0)).ex (O _ (.cells #[.slice A ts.length c, .int .i64 sl] 85)));have hgl:=HW1.out.lt;clear hE hO HTK HZ HW0 HW1)|(go_at_call 30;refine(mJ (4*ts.length+8) (by have:=HTW.out.1;omega) ts (sl:Int) _ _ HPA.out (by omega)).mono ?_;intro e w3 hh;rw[show df (4*ts.length+8) ⟨[],[]⟩ ts=_ from HX.out]at hh;obtain⟨hG,A2,n2,cc2,B2,m2,dd2,he,hV,hF⟩:=hh;subst he;have HW3:=G (HW5.out.grown hG hgl);have hs5:=HW5.out.lt;have HW4:=G (HW3.out.put0 (.slice A2 n2 cc2) (.slice B2 m2 dd2));have HV4:=G ((hV.keep (Q:=fun b=>w.heap.size+1+1<b) ⟨ag _,fun _ _ _=>rfl⟩ (fun b hb _=>an hs5 hb)).keep (Q:=fun b=>w.heap.size+1+1<b) (o8 (.slice A2 n2 cc2) (.slice B2 m2 dd2)) (fun _ hb _=>hb));have HF4:=G ((hF.keep (Q:=fun b=>w.heap.size+1+1<b) ⟨ag _,fun _ _ _=>rfl⟩ (fun b hb _=>an hs5 hb)).keep (Q:=fun b=>w.heap.size+1+1<b) (o8 (.slice A2 n2 cc2) (.slice B2 m2 dd2)) (fun _ hb _=>hb));have c0:=HW3.out.b0.cell;have z0:=HW3.out.b0.frozen;clear hG HPA HW5 hV hF hs5 HW3)|(go_at_call 14;refine(HVD.out _ _ _ _ _ _ _ _ HV4.out HF4.out (gy HT.out HW4.out.e)).mono ?_;rintro e w5 ⟨rfl,hE⟩;clear c0 z0;have HW6:=G (HW4.out.ex hE);have HV6:=G (HV4.out.keep (.of_ext hE) (Q:=fun b=>w.heap.size+1+1<b) (fun _ hb _=>hb));have HF6:=G (HF4.out.keep (.of_ext hE) (Q:=fun b=>w.heap.size+1+1<b) (fun _ hb _=>hb));have c0:=HW6.out.b0.cell;have z0:=HW6.out.b0.frozen;have c1:=HW6.out.b1.cell;have z1:=HW6.out.b1.frozen;have c2:=HW6.out.b2.cell;have z2:=HW6.out.b2.frozen;clear hE HV4 HF4 HW4 HVD HT));have HW7:=G (((HW6.out.put0 (.slice A2 n2 cc2) (.slice B2 m2 dd2)).put1 (.int .i64 0)).put2 (.int .i64 0));have HV7:=G (HV6.out.keep (Q:=fun b=>w.heap.size<=b) (uO (.slice A2 n2 cc2) (.slice B2 m2 dd2) (.int .i64 0) (.int .i64 0)) (fun b hb _=>by omega));have HF7:=G (HF6.out.keep (Q:=fun b=>w.heap.size<=b) (uO (.slice A2 n2 cc2) (.slice B2 m2 dd2) (.int .i64 0) (.int .i64 0)) (fun b hb _=>by omega));refine leaves_cons (f:=29) (args:= #[.pointer (some ⟨w.heap.size,0,none⟩), .pointer (some ⟨w.heap.size+1,0,none⟩), .pointer (some ⟨w.heap.size+1+1,0,none⟩)]) (by simp) (by simp[go_sem]) ?_;refine(m_ _ _ _ _).mono ?_;rintro e u' w8 ⟨rfl,rfl,rfl⟩;have d0:=HW7.out.b0.cell;have d1:=HW7.out.b1.cell;have d2:=HW7.out.b2.cell;refine(show Leaves _ _ _ _ [] .returning _ from ?_);refine⟨.tuple #[.agg #[.slice A2 n2 cc2, .slice B2 m2 dd2], .int .i64 0, .int .i64 0],?_,by rw[HQ.out];exact⟨HW7.out.e,_,_,_,_,_,_,rfl,HV7.out,HF7.out⟩⟩;simp[results,results10,go_sem,d0,d1,d2]
   |false=>
    have HQ:=G (show gK s=(f_,0,6)from HQ.out);go_enter_defers func10,ntmps10;go_wp2_with (first|(go_at_call 28;refine(HTK.out _ (HZ.out.ext HW0.out.e)).mono ?_;rintro e w1 ⟨A,c,rfl,hO,hE⟩;have HW1:=G (HW0.out.ex hE);have c1:=HW1.out.b1.cell;have z1:=HW1.out.b1.frozen;have c2:=HW1.out.b2.cell;have z2:=HW1.out.b2.frozen;have HPA:=G (rr (a:= .int .i64 at_) (b:= .int .i64 0) (sl:Int) HW1.out hO (by have:=HW0.out.lt;omega));have HW5:=G (((HW1.out.put1 (.int .i64 at_)).put2 (.int .i64 0)).ex (O _ (.cells #[.slice A ts.length c, .int .i64 sl] 85)));have hgl:=HW1.out.lt;clear hE hO HTK HZ HW0 HW1)|(go_at_call 30;refine(mJ (4*ts.length+8) (by have:=HTW.out.1;omega) ts (sl:Int) _ _ HPA.out (by omega)).mono ?_;intro e w3 hh;rw[show df (4*ts.length+8) ⟨[],[]⟩ ts=_ from HX.out]at hh;obtain⟨hG,A2,n2,cc2,B2,m2,dd2,he,hV,hF⟩:=hh;subst he;have HW3:=G (HW5.out.grown hG hgl);have hs5:=HW5.out.lt;have HW4:=G (HW3.out.put0 (.slice A2 n2 cc2) (.slice B2 m2 dd2));have HV4:=G ((hV.keep (Q:=fun b=>w.heap.size+1+1<b) ⟨ag _,fun _ _ _=>rfl⟩ (fun b hb _=>an hs5 hb)).keep (Q:=fun b=>w.heap.size+1+1<b) (o8 (.slice A2 n2 cc2) (.slice B2 m2 dd2)) (fun _ hb _=>hb));have HF4:=G ((hF.keep (Q:=fun b=>w.heap.size+1+1<b) ⟨ag _,fun _ _ _=>rfl⟩ (fun b hb _=>an hs5 hb)).keep (Q:=fun b=>w.heap.size+1+1<b) (o8 (.slice A2 n2 cc2) (.slice B2 m2 dd2)) (fun _ hb _=>hb));have c0:=HW3.out.b0.cell;have z0:=HW3.out.b0.frozen;clear hG HPA HW5 hV hF hs5 HW3)|(go_at_call 14;refine(HVD.out _ _ _ _ _ _ _ _ HV4.out HF4.out (gy HT.out HW4.out.e)).mono ?_;rintro e w5 ⟨rfl,hE⟩;clear c0 z0;have HW6:=G (HW4.out.ex hE);have HV6:=G (HV4.out.keep (.of_ext hE) (Q:=fun b=>w.heap.size+1+1<b) (fun _ hb _=>hb));have HF6:=G (HF4.out.keep (.of_ext hE) (Q:=fun b=>w.heap.size+1+1<b) (fun _ hb _=>hb));have c0:=HW6.out.b0.cell;have z0:=HW6.out.b0.frozen;have c1:=HW6.out.b1.cell;have z1:=HW6.out.b1.frozen;have c2:=HW6.out.b2.cell;have z2:=HW6.out.b2.frozen;clear hE HV4 HF4 HW4 HVD HT));have HW7:=G (((HW6.out.put0 (.slice none 0 0) (.slice none 0 0)).put1 (.int .i64 0)).put2 (.int .i64 6));refine leaves_cons (f:=29) (args:= #[.pointer (some ⟨w.heap.size,0,none⟩), .pointer (some ⟨w.heap.size+1,0,none⟩), .pointer (some ⟨w.heap.size+1+1,0,none⟩)]) (by simp) (by simp[go_sem]) ?_;refine(m_ _ _ _ _).mono ?_;rintro e u' w8 ⟨rfl,rfl,rfl⟩;have d0:=HW7.out.b0.cell;have d1:=HW7.out.b1.cell;have d2:=HW7.out.b2.cell;refine(show Leaves _ _ _ _ [] .returning _ from ?_);refine⟨.tuple #[.agg #[.slice none 0 0, .slice none 0 0], .int .i64 0, .int .i64 6],?_,by rw[HQ.out];exact g_ HW7.out.e⟩;simp[results,results10,go_sem,d0,d1,d2]
 ·have hne:(en !=0)=true:=by simp[bne,hen]
  have hee:(en==0)=false:=by simp[hen]
  have HP:=G (show gK s=(f_,at_,en) by unfold gK;rw[hR];exact if_neg hen);clear hR hen hsz;go_enter_defers func10,ntmps10;go_wp2_with (go_at_call 28;refine(HTK.out _ (HZ.out.ext HW0.out.e)).mono ?_;rintro e w1 ⟨A,c,rfl,hO,hE⟩;have HW1:=G (HW0.out.ex hE);have c1:=HW1.out.b1.cell;have z1:=HW1.out.b1.frozen;have c2:=HW1.out.b2.cell;have z2:=HW1.out.b2.frozen;clear hE hO HTK HZ HT HW0);have HW2:=G ((HW1.out.put1 (.int .i64 at_)).put2 (.int .i64 en));clear c1 z1 c2 z2 HW1;generalize (w1.setCell ⟨w.heap.size+1,0,none⟩ (.int .i64 at_)).setCell ⟨w.heap.size+1+1,0,none⟩ (.int .i64 en)=w2 at*;have c0:=HW2.out.b0.cell;have c1:=HW2.out.b1.cell;have c2:=HW2.out.b2.cell;have z0:=HW2.out.b0.frozen;have z1:=HW2.out.b1.frozen;have z2:=HW2.out.b2.frozen;go_region;have HW3:=G ((((HW2.out.put0 (.slice none 0 0) (.slice none 0 0)).put1 (.int .i64 at_)).put2 (.int .i64 en)).drew);go_wp2_with fail;have d0:=HW3.out.b0.cell;have d1:=HW3.out.b1.cell;have d2:=HW3.out.b2.cell;refine⟨.tuple #[.agg #[.slice none 0 0, .slice none 0 0], .int .i64 at_, .int .i64 en],?_,by rw[HP.out];exact g_ HW3.out.e⟩;simp[results,results10,go_sem,d0,d1,d2]
end
section
open Go.RowKit
def qj (p:Pg):List UInt8×Int:=if fP p then(gJ p,0)else([],1)
theorem sX (p:Pg) (hw:kU p<=6000000) (P:Nat->Prop) (w:World) (A B:Option Addr) (n c m d:Nat) (hV:iT w P (.slice A n c) p.vs) (hF:iU w P (.slice B m d) p.fs) (hT:dQ w w.heap.size):
  Calls prog 16 #[.agg #[.slice A n c, .slice B m d]] w fun e w'=>e= .returned (.tuple #[.string (ae (qj p).1), .int .i64 (qj p).2])/\al w w':=by
 have hx:=O w (.cells #[.slice A n c, .slice B m d] 26);have HX:=G hx;have HB:=G (ai w 26 #[.slice A n c, .slice B m d]);have HVD:=G (mc p hw P _ A B n c m d (hV.keep (.of_ext hx) (Q:=P) (fun _ hb _=>hb)) (hF.keep (.of_ext hx) (Q:=P) (fun _ hb _=>hb)) (gy hT hx))
 cases hok:fP p with
 |false=>
  have HP:=G (show qj p=([],1) by unfold qj;rw[hok];rfl);rw[hok]at HVD;clear hV hF hx hok;go_enter func16,ntmps16;go_wp2_with (go_at_call 14;refine HVD.out.mono ?_;rintro e w1 ⟨rfl,hE⟩;have HE:=G (HX.out.trans hE);clear hE HVD HB);go_ret2;exact⟨by rw[HP.out];rfl,HE.out⟩
 |true=>
  have HP:=G (show qj p=(gJ p,0) by unfold qj;rw[hok];rfl)
  have HS:=G (fun(W:World) (h:al w W)=>mz p (fun f hf=>by
    have h1:=hok;unfold fP at h1;simp only[au,bW]at h1;exact kW (h1.1.1.1.2 f hf)) (fun v hv=>by
    have h1:=hok;unfold fP at h1;simp only[au,bW]at h1;have:=h1.1.1.1.1 v hv;unfold lp at this;simp only[au,decide_eq_true_eq]at this
    omega) P W A B n c m d (hV.keep (.of_ext h) (Q:=P) (fun _ hb _=>hb)) (hF.keep (.of_ext h) (Q:=P) (fun _ hb _=>hb)) (gy hT h) (by have:=uD hok;omega))
  rw[hok]at HVD;generalize gJ p=S at*;clear hV hF hx hok;go_enter func16,ntmps16;go_wp2_with (first|(go_at_call 14;refine HVD.out.mono ?_;rintro e w1 ⟨rfl,hE⟩;have HE:=G (HX.out.trans hE);have f1:=(HB.out.ext hE).cell;clear hE HVD HB)|(go_at_call 42;refine(HS.out _ HE.out).mono ?_;rintro e w2 ⟨rfl,hE⟩;have HE2:=G (HE.out.trans hE);clear hE HS));go_ret2;exact⟨by rw[HP.out];rfl,HE2.out⟩
def wW:List UInt8:=[102,117,110,99,32,109,97,105,110,40,41,123,119,104,105,108,101,32,49,123,119,114,105,116,101,40,49,44,34,120,34,44,49,41,59,125,125]
def yj:List St:=[.mk 5 [] [.mk 1 [] [] [] 1 []] [.mk 7 [] [.mk 5 [] [119,114,105,116,101] [] 0 [.mk 1 [] [] [] 1 [], .mk 2 [] [] [120] 0 [], .mk 1 [] [] [] 1 []]] [] []] []]
def iq:Pg:=⟨[],[⟨[109,97,105,110],[],yj⟩]⟩
def vK:List bB:=[⟨2,[102,117,110,99],0,0⟩,⟨1,[109,97,105,110],0,5⟩,⟨5,[40],0,9⟩,⟨5,[41],0,10⟩,⟨5,[123],0,11⟩,⟨2,[119,104,105,108,101],0,12⟩,⟨3,[],1,18⟩,⟨5,[123],0,19⟩,⟨1,[119,114,105,116,101],0,20⟩,⟨5,[40],0,25⟩,⟨3,[],1,26⟩,⟨5,[44],0,27⟩,⟨4,[120],0,28⟩,⟨5,[44],0,31⟩,⟨3,[],1,32⟩,⟨5,[41],0,33⟩,⟨5,[59],0,34⟩,⟨5,[125],0,35⟩,⟨5,[125],0,36⟩]
theorem tP:fz wW=(vK,0,0):=by decide+kernel
theorem tQ:df 84 f_ vK= .ok (iq,[]):=by kernel_rfl
theorem xZ:fw 1=[49]:=by rw[fw];rfl
def yi:List UInt8:=[102,117,110,99,32,109,97,105,110,40,41,32,123,10,9,119,104,105,108,101,32,49,32,123,10,9,9,119,114,105,116,101,40,49,44,32,34,120,34,44,32,49,41,59,10,9,125,10,125,10]
theorem rG:gJ iq=yi:=by
 have h1:a7 (.mk 1 [] [] [] 1 [])=[49]:=by
  show fw 1=[49];exact xZ
 have h2:a7 (.mk 5 [] [119,114,105,116,101] [] 0 [.mk 1 [] [] [] 1 [], .mk 2 [] [] [120] 0 [], .mk 1 [] [] [] 1 []])=[119,114,105,116,101,40,49,44,32,34,120,34,44,32,49,41]:=by
  rw[a7,gz];simp only[cA,dX,h1];rfl
 unfold gJ iq yj;simp only[List.flatMap_nil,cd,ir,bh,bg,c8,h1,h2];rfl
theorem qL:fP iq=true:=by
 unfold fP;rw[rG];decide+kernel
theorem vJ:gK wW=(iq,0,0):=by
 unfold gK;rw[tP];simp only[if_true];unfold mM;rw[show df (4*vK.length+8) f_ vK= .ok (iq,[])from tQ];simp only[qL,if_true]
theorem vI:qj iq=(yi,0):=by unfold qj;rw[qL,rG];rfl
theorem wK:kU iq<=6000000:=by decide+kernel
end
section
mutual
def lr:Ex->Ex->Bool
 | .mk k o n t v a, .mk k' o' n' t' v' a'=>k==k'&&o==o'&&n==n'&&t==t'&&v==v'&&pm a a'
def pm:List Ex->List Ex->Bool
 | [],[]=>true
 | [],_::_=>false
 | _::_,[]=>false
 |x::a,y::b=>lr x y&&pm a b
end
mutual
def gH:St->St->Bool
 | .mk k n e b l, .mk k' n' e' b' l'=>k==k'&&n==n'&&pm e e'&&nr b b'&&nr l l'
def nr:List St->List St->Bool
 | [],[]=>true
 | [],_::_=>false
 | _::_,[]=>false
 |x::a,y::b=>gH x y&&nr a b
end
theorem pk: ∀{a b:List Ex},a.length≠b.length->pm a b=false
 | [],[],h=>absurd rfl h
 | [],_::_,_=>rfl
 | _::_,[],_=>rfl
 |x::a,y::b,h=>by rw[pm,pk (by simpa using h),cH]
theorem pi: ∀{a b:List St},a.length≠b.length->nr a b=false
 | [],[],h=>absurd rfl h
 | [],_::_,_=>rfl
 | _::_,[],_=>rfl
 |x::a,y::b,h=>by rw[nr,pi (by simpa using h),cH]
theorem pl: ∀{a b:List Ex} (i:Nat) (h:i<a.length) (h':i<b.length),lr a[i] b[i]=false->pm a b=false
 |x::a,y::b,0,_,_,he=>by rw[pm,show lr x y=false from he,eq]
 |x::a,y::b,i+1,h,h',he=>by rw[pm,pl i (by simpa using h) (by simpa using h') (by simpa using he),cH]
theorem pj: ∀{a b:List St} (i:Nat) (h:i<a.length) (h':i<b.length),gH a[i] b[i]=false->nr a b=false
 |x::a,y::b,0,_,_,he=>by rw[nr,show gH x y=false from he,eq]
 |x::a,y::b,i+1,h,h',he=>by rw[nr,pj i (by simpa using h) (by simpa using h') (by simpa using he),cH]
theorem m5: ∀{a b:List Ex},a.length=b.length->(∀i (h:i<a.length) (h':i<b.length),lr a[i] b[i]=true)->pm a b=true
 | [],[],_,_=>rfl
 |x::a,y::b,hl,h=>by
  rw[pm,m5 (by simpa using hl) (fun i h1 h2=>by have:=h (i+1) (by simpa using h1) (by simpa using h2);simpa using this),show lr x y=true from h 0 (by simp) (by simp)];rfl
theorem mY: ∀{a b:List St},a.length=b.length->(∀i (h:i<a.length) (h':i<b.length),gH a[i] b[i]=true)->nr a b=true
 | [],[],_,_=>rfl
 |x::a,y::b,hl,h=>by
  rw[nr,mY (by simpa using hl) (fun i h1 h2=>by have:=h (i+1) (by simpa using h1) (by simpa using h2);simpa using this),show gH x y=true from h 0 (by simp) (by simp)];rfl
mutual
theorem vh: ∀x,lr x x=true
 | .mk k o n t v a=>by simp[lr,mZ a]
theorem mZ: ∀l,pm l l=true
 | []=>rfl
 |x::r=>by simp[pm,vh x,mZ r]
end
mutual
theorem tz: ∀x,gH x x=true
 | .mk k n e b l=>by simp[gH,mZ e,lg b,lg l]
theorem lg: ∀l,nr l l=true
 | []=>rfl
 |x::r=>by simp[nr,tz x,lg r]
end
def pG (x y:Vr):Bool:=x.nm==y.nm&&x.sz==y.sz
def nu (x y:Fc):Bool:=x.nm==y.nm&&x.ps==y.ps&&nr x.body y.body
def ma:List Vr->List Vr->Bool
 | [],[]=>true
 |x::a,y::b=>pG x y&&ma a b
 | _,_=>false
def mb:List Fc->List Fc->Bool
 | [],[]=>true
 |x::a,y::b=>nu x y&&mb a b
 | _,_=>false
theorem mW: ∀{a b:List Vr},a.length≠b.length->ma a b=false
 | [],[],h=>absurd rfl h
 | [],_::_,_=>rfl
 | _::_,[],_=>rfl
 |x::a,y::b,h=>by rw[ma,mW (by simpa using h),cH]
theorem m6: ∀{a b:List Fc},a.length≠b.length->mb a b=false
 | [],[],h=>absurd rfl h
 | [],_::_,_=>rfl
 | _::_,[],_=>rfl
 |x::a,y::b,h=>by rw[mb,m6 (by simpa using h),cH]
theorem mX: ∀{a b:List Vr} (i:Nat) (h:i<a.length) (h':i<b.length),pG a[i] b[i]=false->ma a b=false
 |x::a,y::b,0,_,_,he=>by rw[ma,show pG x y=false from he,eq]
 |x::a,y::b,i+1,h,h',he=>by rw[ma,mX i (by simpa using h) (by simpa using h') (by simpa using he),cH]
theorem m7: ∀{a b:List Fc} (i:Nat) (h:i<a.length) (h':i<b.length),nu a[i] b[i]=false->mb a b=false
 |x::a,y::b,0,_,_,he=>by rw[mb,show nu x y=false from he,eq]
 |x::a,y::b,i+1,h,h',he=>by rw[mb,m7 i (by simpa using h) (by simpa using h') (by simpa using he),cH]
theorem j_: ∀{a b:List Vr},a.length=b.length->(∀i (h:i<a.length) (h':i<b.length),pG a[i] b[i]=true)->ma a b=true
 | [],[],_,_=>rfl
 |x::a,y::b,hl,h=>by
  rw[ma,j_ (by simpa using hl) (fun i h1 h2=>by have:=h (i+1) (by simpa using h1) (by simpa using h2);simpa using this),show pG x y=true from h 0 (by simp) (by simp)];rfl
theorem j': ∀{a b:List Fc},a.length=b.length->(∀i (h:i<a.length) (h':i<b.length),nu a[i] b[i]=true)->mb a b=true
 | [],[],_,_=>rfl
 |x::a,y::b,hl,h=>by
  rw[mb,j' (by simpa using hl) (fun i h1 h2=>by have:=h (i+1) (by simpa using h1) (by simpa using h2);simpa using this),show nu x y=true from h 0 (by simp) (by simp)];rfl
def jW (p q:Pg):Bool:=ma p.vs q.vs&&mb p.fs q.fs
theorem ol (p:Pg):jW p p=true:=by
 have h1:ma p.vs p.vs=true:=j_ rfl fun i h h'=>by simp[pG]
 have h2:mb p.fs p.fs=true:=j' rfl fun i h h'=>by simp[nu,lg]
 rw[jW,h1,h2];rfl
end
section
open Go.RowKit
theorem dI {a b:Bool} (h:a=b):Ending.returned (.bool a)= .returned (.bool b):=by rw[h]
def yf (xs ys:List Ex):Prop:= ∀(P:Nat->Prop) (w:World) (u v:Value),bZ w P u xs->bZ w P v ys->Calls prog 100 #[u,v] w fun e w'=>e= .returned (.bool (pm xs ys))/\al w w'
def ye (xs ys:List St):Prop:= ∀(P:Nat->Prop) (w:World) (u v:Value),cP w P u xs->cP w P v ys->Calls prog 53 #[u,v] w fun e w'=>e= .returned (.bool (nr xs ys))/\al w w'
theorem vf (x y:Ex) (P:Nat->Prop) (a b:Value) (w:World) (hIH:yf x.args y.args) (ha:bZ w P a x.args) (hb:bZ w P b y.args):
  Calls prog 134 #[.agg #[.int .i64 x.k, .string (ae x.op), .string (ae x.nm), .string (ae x.tx), .int .i64 x.v,a], .agg #[.int .i64 y.k, .string (ae y.op), .string (ae y.nm), .string (ae y.tx), .int .i64 y.v,b]] w fun e w'=>e= .returned (.bool (lr x y))/\al w w':=by
 have HC:=G (fun(W:World) (h:al w W)=>hIH P W a b (ha.keep (.of_ext h) (fun _ hb _=>hb)) (hb.keep (.of_ext h) (fun _ hb _=>hb)));obtain⟨A,c,rfl,_⟩:=ha.form;obtain⟨B,d,rfl,_⟩:=hb.form;clear ha hb hIH;obtain⟨k,o,n,t,v,ax⟩:=x;obtain⟨k',o',n',t',v',bx⟩:=y;simp only[Ex.k,Ex.op,Ex.nm,Ex.tx,Ex.v,Ex.args]at*;generalize hrr:pm ax bx=r at HC;have HR:=G hrr;clear hrr;generalize ax.length=la at*;generalize bx.length=lb at*;by_cases hk:k=k'
 ·subst hk;by_cases ho:o=o'
  ·subst ho;by_cases hn:n=n'
   ·subst hn;by_cases ht:t=t'
    ·subst ht;by_cases hv:v=v'
     ·subst hv;go_enter func134,ntmps134;go_wp2_with (go_at_call 100;refine(HC.out _ ((O _ _).alloc' _)).mono ?_;rintro e w1 ⟨rfl,hE⟩;have HZ:=G (((O _ _).alloc' _).trans hE);clear hE HC);go_ret;exact⟨dI (by rw[lr,HR.out];simp),HZ.out⟩
     ·have fv:(v==v')=false:=by simpa using hv
      clear hv HC;go_enter func134,ntmps134;go_wp2_with fail;go_ret;exact⟨dI (by simp[lr,fv]),(O w _).alloc' _⟩
    ·have ft:(t==t')=false:=by simpa using ht
     clear ht HC;go_enter func134,ntmps134;go_wp2_with fail;go_ret;exact⟨dI (by simp[lr,ft]),(O w _).alloc' _⟩
   ·have fn:(n==n')=false:=by simpa using hn
    clear hn HC;go_enter func134,ntmps134;go_wp2_with fail;go_ret;exact⟨dI (by simp[lr,fn]),(O w _).alloc' _⟩
  ·have fo:(o==o')=false:=by simpa using ho
   clear ho HC;go_enter func134,ntmps134;go_wp2_with fail;go_ret;exact⟨dI (by simp[lr,fo]),(O w _).alloc' _⟩
 ·have fk:(k==k')=false:=by simpa using hk
  clear hk HC;go_enter func134,ntmps134;go_wp2_with fail;go_ret;exact⟨dI (by simp[lr,fk]),(O w _).alloc' _⟩
theorem va (xs ys:List Ex) (P:Nat->Prop) (w:World) (A B:Option Addr) (n m c d:Nat) (hA:bZ w P (.slice A n c) xs) (hB:bZ w P (.slice B m d) ys) (hIH: ∀x,x∈xs-> ∀y:Ex,yf x.args y.args):
  Calls prog 133 #[.slice A n c, .slice B m d, .func (.func 134) #[] #[]] w fun e w'=>e= .returned (.bool (pm xs ys))/\al w w':=by
 have hnl:=hA.len;have hml:=hB.len;have hnm:n<=maxLen:=by obtain⟨A',c',hv,h⟩:=hA.form;injection hv with _ hn _;rcases h with h|⟨h1,h2,_⟩;(rw[hn,h];exact aB _);omega
 unfold maxLen at hnm;have HNL:=G hnl;have HML:=G hml;have HA:=G hA;have HB:=G hB;have HI:=G hIH;clear hA hB hIH hnl hml;by_cases h2:n=m
 ·have h2b:((n:Int)==(m:Int))=true:=by simp[h2]
  have h2c:((n:Int) !=(m:Int))=false:=by simp[h2]
  have H2:=G h2;clear h2;go_enter func133,ntmps133;go_wp2_with fail
  go_loopw [17] (fun i wr=> ∃j:Nat,j<=n/\i= .int .i64 (j:Int)/\Hid (al w wr)/\Hid (∀i (h:i<xs.length) (h':i<ys.length),i<j->lr xs[i] ys[i]=true)) (fun i _=>n-(intOf i).toNat)
  case atStart=>exact⟨0,aB _,rfl,G (aG w),G (fun _ _ _ h=>absurd h (bK _))⟩
  case round=>
   obtain⟨j,hj,rfl,HX,HT⟩:=hrel;clear h2b h2c;by_cases hlt:j<n
   ·have hlt':(j:Int)<n:=by omega
    have hlt2:j<m:=by have:=H2.out;omega
    have hlt2':(j:Int)<m:=by omega
    have hjl:j<xs.length:=by have:=HNL.out;omega
    have hjl2:j<ys.length:=by have:=HML.out;omega
    obtain⟨b1,o1,a1,rfl,hb1,_,p0,p1,p2,p3,p4,p5,hRa⟩:=HA.out.at_ j hjl;obtain⟨b2,o2,a2,rfl,hb2,_,q0,q1,q2,q3,q4,q5,hRb⟩:=HB.out.at_ j hjl2;have pe0:=(HX.out.cell b1 _ hb1).trans p0;have pe1:=(HX.out.cell b1 _ hb1).trans p1;have pe2:=(HX.out.cell b1 _ hb1).trans p2;have pe3:=(HX.out.cell b1 _ hb1).trans p3;have pe4:=(HX.out.cell b1 _ hb1).trans p4;have pe5:=(HX.out.cell b1 _ hb1).trans p5;clear p0 p1 p2 p3 p4 p5;have qe0:=(HX.out.cell b2 _ hb2).trans q0;have qe1:=(HX.out.cell b2 _ hb2).trans q1;have qe2:=(HX.out.cell b2 _ hb2).trans q2;have qe3:=(HX.out.cell b2 _ hb2).trans q3;have qe4:=(HX.out.cell b2 _ hb2).trans q4;have qe5:=(HX.out.cell b2 _ hb2).trans q5;clear q0 q1 q2 q3 q4 q5;have hl1:b1<wr.heap.size:=an hb1 HX.out.size;have hl2:b2<wr.heap.size:=an hb2 HX.out.size;have HBad:=G (fun h=>pl (a:=xs) (b:=ys) j hjl hjl2 h)
    have HG:=G (fun(h:lr xs[j] ys[j]=true)=>(show ∀i (h:i<xs.length) (h':i<ys.length),i<j+1->lr xs[i] ys[i]=true from fun i h1 h2 h3=>by
     by_cases h4:i=j
     ·subst h4;exact h
     ·exact HT.out i h1 h2 (by omega)))
    have hih:=HI.out xs[j] (aE hjl) ys[j];generalize xs[j]=x at*;generalize ys[j]=y at*;obtain⟨A1,c1,rfl,_⟩:=hRa.form;obtain⟨B1,d1,rfl,_⟩:=hRb.form;have HY:=G (fun(W:World) (h:al wr W)=>vf x y P _ _ W hih (hRa.keep (.of_ext (HX.out.trans h)) (fun _ hb _=>hb)) (hRb.keep (.of_ext (HX.out.trans h)) (fun _ hb _=>hb)));clear hRa hRb;generalize hpe:lr x y=pe at*;have HPE:=G hpe;clear hpe hih
    cases pe with
    |false=>
     have HQ:=G (HBad.out rfl);clear HG HBad;go_wp2_with (go_at_call 134;refine(HY.out _ ((O _ _).alloc' _)).mono ?_;rintro e w1 ⟨rfl,hE⟩;have HE:=G (((O _ _).alloc' _).trans hE);clear hE HY);go_ret;exact⟨dI HQ.out.symm,HX.out.trans HE.out⟩
    |true=>
     have HQ:=G (HG.out rfl);clear HG HBad;go_wp2_with (go_at_call 134;refine(HY.out _ ((O _ _).alloc' _)).mono ?_;rintro e w1 ⟨rfl,hE⟩;have HE:=G (((O _ _).alloc' _).trans hE);clear hE HY);go_roundw
     case rel=>exact⟨j+1,by omega,by go_num,G (HX.out.trans HE.out),HQ⟩
     case measure=>simp[intOf];omega
   ·have hlt': ¬(j:Int)<n:=by omega
    have hjj:j=n:=by omega
    have HQ:=G (m5 (a:=xs) (b:=ys) (by have:=HNL.out;have:=HML.out;have:=H2.out;omega) (fun i h1 h2=>HT.out i h1 h2 (by have:=HNL.out;omega)));clear HT;go_wp2_with fail;go_ret;exact⟨dI HQ.out.symm,HX.out⟩
 ·have h2b:((n:Int)==(m:Int))=false:=by simp;omega
  have h2c:((n:Int) !=(m:Int))=true:=by simp;omega
  have HN:=G (pk (a:=xs) (b:=ys) (by have:=HNL.out;have:=HML.out;omega));clear h2;go_enter func133,ntmps133;go_wp2_with fail;go_ret;exact⟨dI HN.out.symm,aG w⟩
theorem r9: ∀(k:Nat) (xs ys:List Ex),gv xs<k->yf xs ys
 |0,xs,ys,h=>absurd h (bK _)
 |k+1,xs,ys,h=>by
  intro P w u v hu hv;obtain⟨A,c,rfl,_⟩:=hu.form;obtain⟨B,d,rfl,_⟩:=hv.form;have HQ:=G (va xs ys P w A B _ _ c d hu hv (fun x hx y=>r9 k x.args y.args (by have:=ei hx;have:=x.wt_eq;omega)));clear hu hv;go_enter func100,ntmps100;go_wp2_with (go_at_call 133;refine HQ.out.mono ?_;rintro e w1 ⟨rfl,hE⟩;have HE:=G hE;clear hE HQ);go_ret;exact⟨rfl,HE.out⟩
theorem wo (xs ys:List Ex):yf xs ys:=r9 _ xs ys (dK _)
theorem uY (x y:St) (P:Nat->Prop) (a a1 a2 b b1 b2:Value) (w:World) (hI:yf x.ex y.ex) (hI1:ye x.body y.body) (hI2:ye x.els y.els) (ha:bZ w P a x.ex) (hb:bZ w P b y.ex) (ha1:cP w P a1 x.body) (hb1:cP w P b1 y.body) (ha2:cP w P a2 x.els) (hb2:cP w P b2 y.els):
  Calls prog 99 #[.agg #[.int .i64 x.k, .string (ae x.nm),a,a1,a2], .agg #[.int .i64 y.k, .string (ae y.nm),b,b1,b2]] w fun e w'=>e= .returned (.bool (gH x y))/\al w w':=by
 have HC:=G (fun(W:World) (h:al w W)=>hI P W a b (ha.keep (.of_ext h) (fun _ hb _=>hb)) (hb.keep (.of_ext h) (fun _ hb _=>hb)));have HC1:=G (fun(W:World) (h:al w W)=>hI1 P W a1 b1 (ha1.keep (.of_ext h) (fun _ hb _=>hb)) (hb1.keep (.of_ext h) (fun _ hb _=>hb)));have HC2:=G (fun(W:World) (h:al w W)=>hI2 P W a2 b2 (ha2.keep (.of_ext h) (fun _ hb _=>hb)) (hb2.keep (.of_ext h) (fun _ hb _=>hb)));obtain⟨A,c,rfl,_⟩:=ha.form;obtain⟨B,d,rfl,_⟩:=hb.form;obtain⟨A1,c1,rfl,_⟩:=ha1.form;obtain⟨B1,d1,rfl,_⟩:=hb1.form;obtain⟨A2,c2,rfl,_⟩:=ha2.form;obtain⟨B2,d2,rfl,_⟩:=hb2.form;clear ha hb ha1 hb1 ha2 hb2 hI hI1 hI2;obtain⟨k,o,ax,ax1,ax2⟩:=x;obtain⟨k',o',bx,bx1,bx2⟩:=y;simp only[St.k,St.nm,St.ex,St.body,St.els]at*;generalize hrr:pm ax bx=r at HC;generalize hrr1:nr ax1 bx1=r1 at HC1;generalize hrr2:nr ax2 bx2=r2 at HC2;have HR:=G hrr;have HR1:=G hrr1;have HR2:=G hrr2;clear hrr hrr1 hrr2;generalize ax.length=la at*;generalize bx.length=lb at*;generalize ax1.length=la1 at*;generalize bx1.length=lb1 at*;generalize ax2.length=la2 at*;generalize bx2.length=lb2 at*;have HX0:=G (show al w ((w.alloc (.cells #[.int .i64 k, .string (ae o), .slice A la c, .slice A1 la1 c1, .slice A2 la2 c2] 76)).alloc (.cells #[.int .i64 k', .string (ae o'), .slice B lb d, .slice B1 lb1 d1, .slice B2 lb2 d2] 76))from(O w _).alloc' _);have HU:=G (show aT ((w.alloc (.cells #[.int .i64 k, .string (ae o), .slice A la c, .slice A1 la1 c1, .slice A2 la2 c2] 76)).alloc (.cells #[.int .i64 k', .string (ae o'), .slice B lb d, .slice B1 lb1 d1, .slice B2 lb2 d2] 76)) w.heap.size 76 #[.int .i64 k, .string (ae o), .slice A la c, .slice A1 la1 c1, .slice A2 la2 c2]from(ai w _ _).alloc _);have HV:=G (show aT ((w.alloc (.cells #[.int .i64 k, .string (ae o), .slice A la c, .slice A1 la1 c1, .slice A2 la2 c2] 76)).alloc (.cells #[.int .i64 k', .string (ae o'), .slice B lb d, .slice B1 lb1 d1, .slice B2 lb2 d2] 76)) (w.heap.size+1) 76 #[.int .i64 k', .string (ae o'), .slice B lb d, .slice B1 lb1 d1, .slice B2 lb2 d2]from by have:=ai (w.alloc (.cells #[.int .i64 k, .string (ae o), .slice A la c, .slice A1 la1 c1, .slice A2 la2 c2] 76)) 76 #[.int .i64 k', .string (ae o'), .slice B lb d, .slice B1 lb1 d1, .slice B2 lb2 d2];rwa [aQ]at this);by_cases hk:k=k'
 ·subst hk;by_cases ho:o=o'
  ·subst ho
   cases r with
   |false=>
    clear HC1 HC2;go_enter func99,ntmps99;go_wp2_with (first|(go_at_call 100;refine(HC.out _ ((O _ _).alloc' _)).mono ?_;rintro e w1 ⟨rfl,hE⟩;have f1:=(HU.out.ext hE).cell;have f2:=(HV.out.ext hE).cell;have HX1:=G (HX0.out.trans hE);have HU1:=G (HU.out.ext hE);have HV1:=G (HV.out.ext hE);clear hE HC HU HV HX0));go_ret;exact⟨dI (by rw[gH,HR.out];simp),HX1.out⟩
   |true=>
    cases r1 with
    |false=>
     clear HC2;go_enter func99,ntmps99;go_wp2_with (first|(go_at_call 100;refine(HC.out _ ((O _ _).alloc' _)).mono ?_;rintro e w1 ⟨rfl,hE⟩;have f1:=(HU.out.ext hE).cell;have f2:=(HV.out.ext hE).cell;have HX1:=G (HX0.out.trans hE);have HU1:=G (HU.out.ext hE);have HV1:=G (HV.out.ext hE);clear hE HC HU HV HX0)|(go_at_call 53;refine(HC1.out _ HX1.out).mono ?_;rintro e w2 ⟨rfl,hE⟩;clear f1 f2;have f1:=(HU1.out.ext hE).cell;have f2:=(HV1.out.ext hE).cell;have HX2:=G (HX1.out.trans hE);clear hE HC1 HU1 HV1 HX1));go_ret;exact⟨dI (by rw[gH,HR.out,HR1.out];simp),HX2.out⟩
    |true=>
     go_enter func99,ntmps99;go_wp2_with (first|(go_at_call 100;refine(HC.out _ ((O _ _).alloc' _)).mono ?_;rintro e w1 ⟨rfl,hE⟩;have f1:=(HU.out.ext hE).cell;have f2:=(HV.out.ext hE).cell;have HX1:=G (HX0.out.trans hE);have HU1:=G (HU.out.ext hE);have HV1:=G (HV.out.ext hE);clear hE HC HU HV HX0)|(go_at_call 53;refine(HC1.out _ HX1.out).mono ?_;rintro e w2 ⟨rfl,hE⟩;clear f1 f2;have f1:=(HU1.out.ext hE).cell;have f2:=(HV1.out.ext hE).cell;have HX2:=G (HX1.out.trans hE);clear hE HC1 HU1 HV1 HX1)|(go_at_call 53;refine(HC2.out _ HX2.out).mono ?_;rintro e w3 ⟨rfl,hE⟩;clear f1 f2;have HX3:=G (HX2.out.trans hE);clear hE HC2 HX2));go_ret;exact⟨dI (by rw[gH,HR.out,HR1.out,HR2.out];simp),HX3.out⟩
  ·have fo:(o==o')=false:=by simpa using ho
   clear ho HC HC1 HC2 HU HV;go_enter func99,ntmps99;go_wp2_with fail;go_ret;exact⟨dI (by simp[gH,fo]),HX0.out⟩
 ·have fk:(k==k')=false:=by simpa using hk
  clear hk HC HC1 HC2 HU HV;go_enter func99,ntmps99;go_wp2_with fail;go_ret;exact⟨dI (by simp[gH,fk]),HX0.out⟩
theorem uZ (xs ys:List St) (P:Nat->Prop) (w:World) (A B:Option Addr) (n m c d:Nat) (hA:cP w P (.slice A n c) xs) (hB:cP w P (.slice B m d) ys) (hIH: ∀x,x∈xs-> ∀y:St,yf x.ex y.ex/\ye x.body y.body/\ye x.els y.els):
  Calls prog 98 #[.slice A n c, .slice B m d, .func (.func 99) #[] #[]] w fun e w'=>e= .returned (.bool (nr xs ys))/\al w w':=by
 have hnl:=hA.len;have hml:=hB.len;have hnm:n<=maxLen:=by obtain⟨A',c',hv,h⟩:=hA.form;injection hv with _ hn _;rcases h with h|⟨h1,h2,_⟩;(rw[hn,h];exact aB _);omega
 unfold maxLen at hnm;have HNL:=G hnl;have HML:=G hml;have HA:=G hA;have HB:=G hB;have HI:=G hIH;clear hA hB hIH hnl hml;by_cases h2:n=m
 ·have h2b:((n:Int)==(m:Int))=true:=by simp[h2]
  have h2c:((n:Int) !=(m:Int))=false:=by simp[h2]
  have H2:=G h2;clear h2;go_enter func98,ntmps98;go_wp2_with fail
  go_loopw [17] (fun i wr=> ∃j:Nat,j<=n/\i= .int .i64 (j:Int)/\Hid (al w wr)/\Hid (∀i (h:i<xs.length) (h':i<ys.length),i<j->gH xs[i] ys[i]=true)) (fun i _=>n-(intOf i).toNat)
  case atStart=>exact⟨0,aB _,rfl,G (aG w),G (fun _ _ _ h=>absurd h (bK _))⟩
  case round=>
   obtain⟨j,hj,rfl,HX,HT⟩:=hrel;clear h2b h2c;by_cases hlt:j<n
   ·have hlt':(j:Int)<n:=by omega
    have hlt2:j<m:=by have:=H2.out;omega
    have hlt2':(j:Int)<m:=by omega
    have hjl:j<xs.length:=by have:=HNL.out;omega
    have hjl2:j<ys.length:=by have:=HML.out;omega
    obtain⟨b1,o1,a1,a2,a3,rfl,hb1,_,p0,p1,p2,p3,p4,hRa,hSa,hLa⟩:=HA.out.at_ j hjl;obtain⟨b2,o2,g1,g2,g3,rfl,hb2,_,q0,q1,q2,q3,q4,hRb,hSb,hLb⟩:=HB.out.at_ j hjl2;have pe0:=(HX.out.cell b1 _ hb1).trans p0;have pe1:=(HX.out.cell b1 _ hb1).trans p1;have pe2:=(HX.out.cell b1 _ hb1).trans p2;have pe3:=(HX.out.cell b1 _ hb1).trans p3;have pe4:=(HX.out.cell b1 _ hb1).trans p4;clear p0 p1 p2 p3 p4;have qe0:=(HX.out.cell b2 _ hb2).trans q0;have qe1:=(HX.out.cell b2 _ hb2).trans q1;have qe2:=(HX.out.cell b2 _ hb2).trans q2;have qe3:=(HX.out.cell b2 _ hb2).trans q3;have qe4:=(HX.out.cell b2 _ hb2).trans q4;clear q0 q1 q2 q3 q4;have hl1:b1<wr.heap.size:=an hb1 HX.out.size;have hl2:b2<wr.heap.size:=an hb2 HX.out.size;have HBad:=G (fun h=>pj (a:=xs) (b:=ys) j hjl hjl2 h)
    have HG:=G (fun(h:gH xs[j] ys[j]=true)=>(show ∀i (h:i<xs.length) (h':i<ys.length),i<j+1->gH xs[i] ys[i]=true from fun i h1 h2 h3=>by
     by_cases h4:i=j
     ·subst h4;exact h
     ·exact HT.out i h1 h2 (by omega)))
    have hih:=HI.out xs[j] (aE hjl) ys[j];generalize xs[j]=x at*;generalize ys[j]=y at*;obtain⟨A1,c1,rfl,_⟩:=hRa.form;obtain⟨B1,d1,rfl,_⟩:=hRb.form;obtain⟨A2,c2,rfl,_⟩:=hSa.form;obtain⟨B2,d2,rfl,_⟩:=hSb.form;obtain⟨A3,c3,rfl,_⟩:=hLa.form;obtain⟨B3,d3,rfl,_⟩:=hLb.form;have HY:=G (fun(W:World) (h:al wr W)=>uY x y P _ _ _ _ _ _ W hih.1 hih.2.1 hih.2.2 (hRa.keep (.of_ext (HX.out.trans h)) (fun _ hb _=>hb)) (hRb.keep (.of_ext (HX.out.trans h)) (fun _ hb _=>hb)) (hSa.keep (.of_ext (HX.out.trans h)) (fun _ hb _=>hb)) (hSb.keep (.of_ext (HX.out.trans h)) (fun _ hb _=>hb)) (hLa.keep (.of_ext (HX.out.trans h)) (fun _ hb _=>hb)) (hLb.keep (.of_ext (HX.out.trans h)) (fun _ hb _=>hb)));clear hRa hRb hSa hSb hLa hLb;generalize hpe:gH x y=pe at*;have HPE:=G hpe;clear hpe hih
    cases pe with
    |false=>
     have HQ:=G (HBad.out rfl);clear HG HBad;go_wp2_with (go_at_call 99;refine(HY.out _ ((O _ _).alloc' _)).mono ?_;rintro e w1 ⟨rfl,hE⟩;have HE:=G (((O _ _).alloc' _).trans hE);clear hE HY);go_ret;exact⟨dI HQ.out.symm,HX.out.trans HE.out⟩
    |true=>
     have HQ:=G (HG.out rfl);clear HG HBad;go_wp2_with (go_at_call 99;refine(HY.out _ ((O _ _).alloc' _)).mono ?_;rintro e w1 ⟨rfl,hE⟩;have HE:=G (((O _ _).alloc' _).trans hE);clear hE HY);go_roundw
     case rel=>exact⟨j+1,by omega,by go_num,G (HX.out.trans HE.out),HQ⟩
     case measure=>simp[intOf];omega
   ·have hlt': ¬(j:Int)<n:=by omega
    have hjj:j=n:=by omega
    have HQ:=G (mY (a:=xs) (b:=ys) (by have:=HNL.out;have:=HML.out;have:=H2.out;omega) (fun i h1 h2=>HT.out i h1 h2 (by have:=HNL.out;omega)));clear HT;go_wp2_with fail;go_ret;exact⟨dI HQ.out.symm,HX.out⟩
 ·have h2b:((n:Int)==(m:Int))=false:=by simp;omega
  have h2c:((n:Int) !=(m:Int))=true:=by simp;omega
  have HN:=G (pi (a:=xs) (b:=ys) (by have:=HNL.out;have:=HML.out;omega));clear h2;go_enter func98,ntmps98;go_wp2_with fail;go_ret;exact⟨dI HN.out.symm,aG w⟩
theorem ph: ∀(k:Nat) (xs ys:List St),fQ xs<k->ye xs ys
 |0,xs,ys,h=>absurd h (bK _)
 |k+1,xs,ys,h=>by
  intro P w u v hu hv;obtain⟨A,c,rfl,_⟩:=hu.form;obtain⟨B,d,rfl,_⟩:=hv.form;have HQ:=G (uZ xs ys P w A B _ _ c d hu hv (fun x hx y=>⟨wo _ _,ph k x.body y.body (by have:=dC hx;have:=x.wt_eq;omega),ph k x.els y.els (by have:=dC hx;have:=x.wt_eq;omega)⟩));clear hu hv;go_enter func53,ntmps53;go_wp2_with (go_at_call 98;refine HQ.out.mono ?_;rintro e w1 ⟨rfl,hE⟩;have HE:=G hE;clear hE HQ);go_ret;exact⟨rfl,HE.out⟩
theorem wn (xs ys:List St):ye xs ys:=ph _ xs ys (dK _)
end
end Go.Proofs.YtelplgkppalmfaaGreatDoor
