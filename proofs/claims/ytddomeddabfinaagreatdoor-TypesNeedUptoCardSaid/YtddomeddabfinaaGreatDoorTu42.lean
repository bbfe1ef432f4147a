/-
  Parts of the proof: SrF PsA PsB PsC PsD PsE PsF.
-/
import Derived.Test.YtddomeddabfinaaGreatDoorTu00
import Derived.Test.YtddomeddabfinaaGreatDoorTu41
import Derived.Test.YtddomeddabfinaaGreatDoorTu27
import Derived.Test.YtddomeddabfinaaGreatDoorTu23
import Derived.LoopN
import Derived.Deep.CutBlock
import Derived.Test.YtddomeddabfinaaGreatDoorTu06
import Derived.Test.YtddomeddabfinaaGreatDoorTu39
import Derived.Test.YtddomeddabfinaaGreatDoorTu19
import Derived.BigRegion
import Derived.Test.YtddomeddabfinaaGreatDoorTu22
set_option maxRecDepth 100000
set_option maxHeartbeats 8000000
set_option linter.unusedVariables false
set_option linter.unusedSimpArgs false
set_option linter.unusedSectionVars false
namespace Go.Proofs.YtddomeddabfinaaGreatDoor
open Go.Proofs.Tryz
section
open Go.RowKit
structure tL (n0:Nat) (f a:KF) (W:World):Prop where
 g:aO W (n0+3) 127 (ri n0 (n0+1) (n0+2) 100 0)
 m:aO W (n0+4) 122 #[.pointer (some ⟨n0+3,0,none⟩)]
 f:bU W n0 f
 a:bU W (n0+2) a
section
variable {n0:Nat} {f a:KF} {w W W':World}
theorem tL.ext (h:tL n0 f a W) (hE:au W W'):tL n0 f a W':=⟨h.g.ext hE,h.m.ext hE,h.f.ext hE,h.a.ext hE⟩
theorem tL.addA (h:tL n0 f a W) {a':KF} (hm:bU W' (n0+2) a') (hg:W.grownBy W' (some (n0+2))):tL n0 f a' W':=
 have ne: ∀k,k≠n0+2->some k≠some (n0+2):=fun k hk e=>hk (by injection e)
 ⟨h.g.grown hg (ne _ (by omega)),h.m.grown hg (ne _ (by omega)),h.f.grown hg (ne _ (by omega)),hm⟩
theorem tL.addF (h:tL n0 f a W) {f':KF} (hm:bU W' n0 f') (hg:W.grownBy W' (some n0)):tL n0 f' a W':=
 have ne: ∀k,k≠n0->some k≠some n0:=fun k hk e=>hk (by injection e)
 ⟨h.g.grown hg (ne _ (by omega)),h.m.grown hg (ne _ (by omega)),hm,h.a.grown hg (ne _ (by omega))⟩
theorem yV (h:((((w.alloc (.map #[] 0)).alloc (.map #[] 0)).alloc (.map #[] 0)).alloc (.cells (ri w.heap.size (w.heap.size+1) (w.heap.size+1+1) 100 0) 127)).alloc (.cells #[.pointer (some ⟨w.heap.size+1+1+1,0,none⟩)] 122)=W):
  au w W/\tL w.heap.size (fun _=>none) (fun _=>none) W:=by
 have m1:=iJ w;have m3:=iJ ((w.alloc (.map #[] 0)).alloc (.map #[] 0));have e2:=(O (w.alloc (.map #[] 0)) (.map #[] 0)).alloc' (.map #[] 0);obtain⟨e3,b4,b5,_⟩:=Cl h;simp only[World.size_alloc]at m3 b4 b5;exact⟨(((O w _).trans e2).trans e3),b4,b5,(m1.ext e2).ext e3,m3.ext e3⟩
end
def zN:Bool->Oc
 |true=>⟨1,0,44,0,0,[],0⟩
 |false=>⟨2,0,0,0,0,[],0⟩
abbrev CD (n0:Nat):MX:=⟨n0+3,n0,n0+1,n0+2,n0,n0+4,fun _=>0,fun _=>undef,undef,fun _=>0,n0+4⟩
def JA (n:Nat) (j:Int) (a:KF):Prop:=j=0\/j=1/\n=1/\ ∃A c,(a [97]).getD (.slice none 0 0)= .slice A 3 c
theorem uw (r:Bool) (p:Pg) (hw:jS p<=6000000) (hck:(gO p).2=0) (k:Int) (nm:List UInt8) (ex:List Ex) (hfs:p.fs=[⟨bL,[],[.mk k nm ex [] []]⟩]) (hvs:p.vs=[]\/p.vs=[⟨[97],3⟩]) (hk:(k==1)=false) (hws:dq [.mk k nm ex [] []]<=6000000) (hfl:kt ⟨bL,[],[.mk k nm ex [] []]⟩=32) (l':Int)
  (w:World) (A B:Option Addr) (n c d:Nat) (hV:fH w (fun _=>True) (.slice A n c) p.vs) (hF:fO w (fun _=>True) (.slice B 1 d) p.fs) (hT:dn w w.heap.size) (hB:BT w)
  (hC: ∀(g bf bi ba fb lb:Nat) (a:KF) (W:World) (A1 A2 A3:Option Addr) (n1 c1 n2 c2 n3 c3:Nat),(p.vs=[]\/ ∃A c,(a [97]).getD (.slice none 0 0)= .slice A 3 c)->w.heap.size<=g->bU W ba a->ba≠g->g≠fb->aO W g 127 (ri bf bi ba 100 32)->aO W fb 182 #[.map (some lb), .bool false, .int .i32 0]->b8 W (fun b=>b<w.heap.size) (.slice A1 n1 c1) ex->
   Calls prog 130 #[.pointer (some ⟨g,0,none⟩), .pointer (some ⟨fb,0,none⟩), .agg #[.int .i64 k, .string (ag nm), .slice A1 n1 c1, .slice A2 n2 c2, .slice A3 n3 c3]] W (zW g fb lb bf bi ba l' 32 300 W r)):
  Calls prog 17 #[.agg #[.slice A n c, .slice B 1 d], .slice none 0 0, .int .i64 100] w fun e w'=>au w w'/\ ∃A c,e= .returned (.tuple #[za (zN r) A c, .int .i64 0]):=by
 have hmm:= @run_makeMap prog;have hmf: ∀(fn:Fn) (first cap:Array Value) (w:World),(Instr.makeFunc fn first cap).run prog w= .ok (.func fn first cap) w:=fun _ _ _ _=>rfl;have hnV:n=p.vs.length:=by obtain⟨A',c',e,_⟩:=hV;injection e
 have hV0:=hV;have hF0:=hF
 have HCK:=G (fun W (h:au w W)=>show Calls prog 13 #[.agg #[.slice A n c, .slice B 1 d]] W fun e w'=>(∃o,e= .returned (.tuple #[.string o, .int .i64 0]))/\au W w' from by
  refine(nV p hw (fun _=>True) W A B n c 1 d (hV.keep (.of_ext h) (fun b hb _=>hb)) (hF.keep (.of_ext h) (fun b hb _=>hb)) (fh hT h) (hB.ext h)).mono fun e w' hh=> ?_;obtain⟨h1,h2⟩:=hh;rw[hck]at h1
  exact⟨⟨_,h1⟩,h2⟩)
 have hF:=hF.keep (Q:=fun b=>b<w.heap.size) ⟨an _,fun _ _ _=>rfl⟩ (fun b h1 h2=>h2);rw[hfs]at hF;obtain⟨b,o,pv,bv,rfl,hbs,_,h0,h1,h2,hRp,hRb⟩:=lV hF 0 (by simp);obtain⟨Ap,cp,rfl,_⟩:=hRp;obtain⟨Ab,cb,rfl,_⟩:=hRb.form;simp only[aE,aW,bg,ah,ac,a8]at h0 h1 h2 hRb;have HRB:=G hRb;have HFc:=G (aq h0 (aq h1 h2))
 have HVc:=G (show n=0\/n=1/\ ∃b o,A=some ⟨b,o,none⟩/\b<w.heap.size/\w.cell? ⟨b,o,none⟩=some (.string ⟨#[97]⟩)/\w.cell? ⟨b,o+1,none⟩=some (.int .i64 3)from by
  rcases hvs with e|e
  ·left;rw[hnV,e];rfl
  ·right;rw[e]at hV hnV;obtain⟨b,o,ha,_,hb,q0,q1⟩:=wY hV 0 (by simp)
   exact⟨hnV,b,o,ha,hb,q0,q1⟩)
 have HC:=G (fun g bf bi ba fb lb a W A1 A2 A3 n1 c1 n2 c2 n3 c3 (h:n=0\/ ∃A c,(a [97]).getD (.slice none 0 0)= .slice A 3 c)=>hC g bf bi ba fb lb a W A1 A2 A3 n1 c1 n2 c2 n3 c3 (h.imp (fun e=>List.length_eq_zero_iff.1 (by omega)) id));have HK:=G (aq hk (aq hws hfl));clear hC hV0 hF0 hV hF hT hB hw hck hfs hvs hk hws hfl hnV h0 h1 h2 hRb;go_enter_defers func17,ntmps17
 go_upto_region 1 with fail
 generalize hW:World.alloc (World.alloc (World.alloc w _) _) _=W0;obtain⟨hX,b0,b1,b2,_⟩:=Ck hW;have HW0:=G (RW.mk hX b0 b1 b2);clear hW hX b0 b1 b2;have c0:=HW0.out.b0.cell
 go_upto_region 4 with(go_at_call 13;refine(HCK.out _ HW0.out.e).mono ?_;rintro e w1 ⟨⟨o1,rfl⟩,hE⟩;have HW1:=G (HW0.out.ex hE);clear c0 hE HCK HW0)
 go_upto_region 5 with fail
 generalize hW:World.alloc (World.alloc (World.alloc (World.alloc (World.alloc w1 _) _) _) _) _=W5;obtain⟨hE,hP⟩:=yV hW;have HN0:=G HW1.out.lt;have HW5:=G (HW1.out.ex hE);have HP0:=G hP;clear hW hE hP HW1;generalize w1.heap.size=n0 at*;have e2:n0+1+1=n0+2:=rfl;have e3:n0+1+1+1=n0+3:=rfl;have e4:n0+1+1+1+1=n0+4:=rfl;simp only[e2,e3,e4]at*;have c0:=HW5.out.b0.cell;go_wp2_with fail;clear c0
 go_loopw [34] (fun vi wr=> ∃(a:KF) (j:Int),vi= .int .i64 j/\Hid (RW w (.slice A n c) (.slice (some ⟨b,o,none⟩) 1 d) zO (.int .i64 0) wr)/\Hid (tL n0 (fun _=>none) a wr)/\Hid (JA n j a)) (fun vi _=>1-(intOf vi).toNat)
 case atStart=>exact⟨_,0,rfl,HW5,HP0, .inl rfl⟩
 case round=>
  obtain⟨a,j,rfl,HWj,HPj,hj⟩:=hrel;clear HW5 HP0;have hj:(j=0/\n=1/\ ∃b o,A=some ⟨b,o,none⟩/\b<w.heap.size/\w.cell? ⟨b,o,none⟩=some (.string ⟨#[97]⟩)/\w.cell? ⟨b,o+1,none⟩=some (.int .i64 3))\/(j=(n:Int)/\Hid (n=0\/ ∃A c,(a [97]).getD (.slice none 0 0)= .slice A 3 c)):=by
   rcases hj.out with rfl|⟨rfl,rfl,HA⟩
   ·rcases HVc.out with rfl|h
    ·exact .inr ⟨rfl, .inl rfl⟩
    ·exact .inl ⟨rfl,h⟩
   ·exact .inr ⟨rfl, .inr HA⟩
  rcases hj with⟨rfl,hn1,b',o',rfl,hbs',h0,h1⟩|⟨rfl,HA⟩
  ·have hl0:0<n:=by omega
   have hli:(0:Int)<(n:Int):=by omega
   replace hn1:=G hn1;have e0:=(HWj.out.e.cell b' _ hbs').trans h0;have e1:=(HWj.out.e.cell b' _ hbs').trans h1;clear h0 h1
   go_upto_region 8 with fail
   generalize hW:World.alloc wr _=W1;obtain⟨hE,v0,_⟩:=wk hW;replace HWj:=G (HWj.out.ex hE);replace HPj:=G (HPj.out.ext hE);clear hW hE e0 e1;have f0:=v0.out.cell;go_wp2_with fail;clear f0;refine am 9 8 [(8,fun x=> ∃g,x= .slice (some ⟨g,0,none⟩) 3 3,fun _ _=>True)] mixed (by kernel_rfl) ⟨fun _ _ _ _ _=>trivial,trivial⟩ ?_
   iterate 8 (refine sx ?_ (fun w1 hU=> ?_) ?_;rotate_left;(focus have fm:=(HPj.out.m.ext hU.un).cell;have fg:=(HPj.out.g.ext hU.un).cell;have fv:=(v0.out.ext hU.un).cell;clear hU;go_simp<;>with_reducible rfl);simp only[aU,aT,aS,aR,aQ])
   refine b6 _ _ (by rfl) rfl ⟨_,0,rfl⟩ (by simp) (fun w6 hU hp K hK=> ?_) ?_
   ·clear hp hU;refine tV bt _ _ rfl 3 (by omega) .i64 .i64 rfl rfl fun w9 hr hE hs=> ?_;exact hK _ _ hE ⟨_,rfl⟩ trivial
   rintro _ ⟨g,rfl⟩;simp only[aU,aT,aS,aR,aQ];intro w7 hw7 hp;have HE7:=G hw7.un;clear hp hw7;simp only[ab,ap];go_wp2_with (at_mapUpdate;refine dz CF rfl _ _ _ rfl (s:=[97]) (HPj.out.a.ext HE7.out) rfl (by decide) rfl _ rfl ?_;intro w8 hm8 hg8;have HP8:=G ((HPj.out.ext HE7.out).addA hm8 hg8);have HW8:=G ((HWj.out.ex HE7.out).mv (.of_grown (S:=fun b=>b=n0+2) hg8 fun b e=>by injection e with e;exact e.symm) fun b hb e=>by have:=HN0.out;omega);clear hm8 hg8);go_roundw
   case rel=>exact⟨_,1,by go_num,HW8,HP8, .inr ⟨rfl,hn1,_,_,rfl⟩⟩
   case measure=>simp[intOf]
  ·have hlt: ¬(n:Int)<n:=by omega
   have c0:=HWj.out.b0.cell;go_wp2_with fail;clear c0 hlt HVc
   go_loopw [54] (fun vi wr=>Hid (RW w (.slice A n c) (.slice (some ⟨b,o,none⟩) 1 d) zO (.int .i64 0) wr)/\(vi= .int .i64 0/\Hid (tL n0 (fun _=>none) a wr)\/vi= .int .i64 1/\Hid (tL n0 (KF.upd (fun _=>none) bL (.agg #[.string (ag bL), .slice Ap 0 cp, .slice Ab 1 cb])) a wr))) (fun vi _=>1-(intOf vi).toNat)
   case atStart=>exact⟨HWj, .inl ⟨rfl,HPj⟩⟩
   case round=>
    obtain⟨HWi,hj⟩:=hrel;clear HWj HPj;generalize wr=w2 at*;rcases hj with⟨rfl,HPi⟩|⟨rfl,HPi⟩
    ·obtain⟨h0,h1,h2⟩:=HFc.out;have e0:=(HWi.out.e.cell b _ hbs).trans h0;have e1:=(HWi.out.e.cell b _ hbs).trans h1;have e2:=(HWi.out.e.cell b _ hbs).trans h2;clear h0 h1 h2
     go_upto_region 14 with fail
     generalize hW:World.alloc w2 _=W1;obtain⟨hE,v0,_⟩:=wk hW;replace HWi:=G (HWi.out.ex hE);replace HPi:=G (HPi.out.ext hE);clear hW hE e0 e1 e2;refine am 7 1 [] mixed (by kernel_rfl) trivial ?_
     iterate 7 (refine sx ?_ (fun w1 hU=> ?_) ?_;rotate_left;(focus have fm:=(HPi.out.m.ext hU.un).cell;have fg:=(HPi.out.g.ext hU.un).cell;have fv:=(v0.out.ext hU.un).cell;clear hU;go_simp<;>with_reducible rfl);simp only[aU,aT,aS,aR,aQ])
     intro w7 hw7 _;have HE7:=G hw7.un;clear hw7;simp only[ab,ap];go_wp2_with (at_mapUpdate;refine dz CE rfl _ _ _ rfl (s:=bL) (HPi.out.f.ext HE7.out) rfl (by decide) rfl _ rfl ?_;intro w8 hm8 hg8;have HP8:=G ((HPi.out.ext HE7.out).addF hm8 hg8);have HW8:=G ((HWi.out.ex HE7.out).mv (.of_grown (S:=fun b=>b=n0) hg8 fun b e=>by injection e with e;exact e.symm) fun b hb e=>by have:=HN0.out;omega);clear hm8 hg8);go_roundw
     case rel=>exact⟨HW8, .inr ⟨by go_num,HP8⟩⟩
     case measure=>simp[intOf]
    ·go_wp2_with fail;refine am 6 1 [] mixed (by kernel_rfl) trivial ?_;repeat (refine sx ?_ (fun w1 hU=> ?_) ?_;rotate_left;(focus have fm:=(HPi.out.m.ext hU.un).cell;have fg:=(HPi.out.g.ext hU.un).cell;have f2:(Instr.lookup 123 (.map (some n0)) (.string ⟨#[109,97,105,110]⟩) false).run prog w1= .ok (.agg #[.string (ag bL), .slice Ap 0 cp, .slice Ab 1 cb]) w1:=((HPi.out.f.ext hU.un).look CE (s:=bL) (by decide)).1;clear hU;go_simp<;>with_reducible rfl);simp only[aU,aT,aS,aR,aQ])
     intro w7 hw7 _;simp only[ab,ap];have hE:=hw7.un;replace HWi:=G (HWi.out.ex hE);replace HPi:=G (HPi.out.ext hE);have HN:=HN0.out
     have HRn:=G (yv r (n0+3) n0 (n0+1) (n0+2) 100 l' 300 bL Ap Ab cp cb (fun b=>b<w.heap.size) k nm ex w7 (HRB.out.xt HWi.out.e) HK.out.1 HK.out.2.1 HK.out.2.2 (fun b hb=>by omega) HPi.out.g
      fun fb lb W A1 A2 A3 n1 c1 n2 c2 n3 c3 hM hn hg hf hR=>HC.out (n0+3) n0 (n0+1) (n0+2) fb lb a W A1 A2 A3 n1 c1 n2 c2 n3 c3 HA.out (by omega) (hM.map HPi.out.a (by omega)) (by omega) hn hg hf hR)
     have HL:=G (fun(tmps:Array Value) (W':World) (hW:RW w (.slice A n c) (.slice (some ⟨b,o,none⟩) 1 d) zO (.int .i64 0) W') (hm:aO W' (n0+4) 122 #[.pointer (some ⟨n0+3,0,none⟩)]) (hH:wu (CD n0) (zN r) W') (h6:tmps.getD 6 undef= .pointer (some ⟨w.heap.size+1,0,none⟩)) (h7:tmps.getD 7 undef= .pointer (some ⟨w.heap.size+1+1,0,none⟩))=>
      qK (Q:=fun e w'=>au w w'/\ ∃A c,e= .returned (.tuple #[za (zN r) A c, .int .i64 0])) (X:=CD n0) (o:=zN r) h6 h7 rfl hW hm hH (by show _<n0+3;omega) (by show n0+3≠n0+4;omega) (by omega) (by show n0+3<n0+4;omega) (fun A c W' hE hs=>⟨hE,A,c,rfl⟩))
     clear hw7 hE HC HK HRB HFc;have HZ:=G (fun W (hM:Mv (fun k=>k=n0+3) w7 W)=>aq (HWi.out.mv hM fun k hk e=>by omega) (hM.blk HPi.out.m (by omega)))
     cases r
     ·go_wp2_with (go_at_call 48;refine HRn.out.mono ?_;intro e w8 h;cases h;rename_i h;have HM:=G h;clear h HRn);exact HL.out _ _ (HZ.out _ HM.out.1).1 (HZ.out _ HM.out.1).2 ⟨_,_,_,_,_,_,none,0,HM.out.2,Sl.none_ _,fun b i e=>by cases e⟩ rfl rfl
     ·go_upto_region 18 with(go_at_call 48;refine HRn.out.mono ?_;intro e w8 h;cases h;rename_i h;have HM:=G h;clear h HRn)
      have fm:=(HZ.out _ HM.out.1).2.cell;have hu8:IntKind.u8.wrap 300=44:=by decide
      have hu64:IntKind.i64.wrap 44=44:=by decide
      have HSy:=G (yu (n0+3) n0 (n0+1) (n0+2) l' 0 44 w8 HM.out.2);go_wp2_with (go_at_call 49;refine HSy.out.mono ?_;rintro e w9 ⟨rfl,hM,hb⟩;have HM9:=G (HM.out.1.trans hM);have HB:=G hb;clear hM hb HSy);exact HL.out _ _ (HZ.out _ HM9.out).1 (HZ.out _ HM9.out).2 ⟨_,_,_,_,_,_,none,0,HB.out,Sl.none_ _,fun b i e=>by cases e⟩ rfl rfl
end
section
open Go.RowKit
theorem CT {w w':World} {g k:Nat} {t:TypeId} {cs:Array Value} (h:Hid (aO w k t cs)) (hg:w.grownBy w' (some g)) (hn:k≠g):Hid (aO w' k t cs):=h.out.grown hg (fun e=>hn (aw e))
def tO (l:List db) (x:Ex) (q:List db):Prop:= ∀(en:Int) (w:World) (g:Nat),PA w g l en->Calls prog 183 #[.pointer (some ⟨g,0,none⟩), .int .i64 1] w (Bb g en w (.ok (x,q)))
theorem oA (tx tt:List UInt8) (v fr tv tf:Int) (r:List db) (hl:gL tt=0):tO (⟨3,tx,v,fr⟩::⟨5,tt,tv,tf⟩::r) (.mk 1 [] [] [] v []) (⟨5,tt,tv,tf⟩::r):=by
 intro en w g h;have HO:=G (show ∀W,PA W g (⟨3,tx,v,fr⟩::⟨5,tt,tv,tf⟩::r) en->Calls prog 205 #[.pointer (some ⟨g,0,none⟩)] W (Bb g en W (.ok (.mk 1 [] [] [] v [],⟨5,tt,tv,tf⟩::r)))from fun W hP=>uL 0 _ en W g hP rfl);have HL:=G (fun W=>ld tt W);rw[hl]at HL;have HP:=G h;have hgl:=h.lt;clear h hl;go_enter func183,ntmps183
 go_upto_region 1 with fail
 generalize hW:World.alloc w _=W1;obtain⟨hE,rb,s1⟩:=wk hW;replace HP:=G (HP.out.ext hE);have HX:=G (hE.grownBy (some g));have hrg:w.heap.size≠g:=by omega
 clear hW hE
 go_upto_region 2 with(go_at_call 205;refine(HO.out _ HP.out).mono ?_;rintro e w2 ⟨hG,A,n,c,rfl,hR,hP⟩;clear HO HP;replace HX:=G (br HX.out hG);replace rb:=CT rb hG hrg;have HP:=G hP;have hz2:=hG.size;clear hG hP)
 generalize hW:World.alloc w2 _=W2;obtain⟨hE,xb,s2⟩:=wk hW;replace HP:=G (HP.out.ext hE);replace HX:=G (br HX.out (hE.grownBy (some g)));replace rb:=kb rb hE;have HR:=G (hR.keep (.of_ext hE) (Q:=fun b=>w.heap.size+1<=b) fun b hb _=>by have:=s1.out;omega);clear hW hE hR s2
 go_loopw [] (fun wr=>wr=W2) (fun _=>0)
 case atStart=>rfl
 case round=>
  subst hrel;have HN:=G (jB g _ en _ HP.out);simp only[fx]at HN;go_wp2_with (first|(go_at_call 146;refine HN.out.mono ?_;rintro e w3 ⟨rfl,hE⟩;clear HN;replace hE:=hE.trans (O w3 (.cells #[.int .i64 5, .string (ag tt), .int .i64 tv, .int .i64 tf] 206));replace HP:=G (HP.out.ext hE);replace HX:=G (br HX.out (hE.grownBy (some g)));replace rb:=kb rb hE;replace xb:=kb xb hE;replace HR:=G (HR.out.keep (.of_ext hE) (Q:=fun b=>w.heap.size+1<=b) fun b hb _=>hb);have cx:=xb.out.cell;have cr:=rb.out.cell;have fr':=rb.out.frozen;clear hE)|(go_at_call 153;refine(HL.out _).mono ?_;rintro e w3 ⟨rfl,rfl⟩;clear HL));obtain⟨hset,hfin⟩:=vR (r:= .ok (.mk 1 [] [] [] v [],⟨5,tt,tv,tf⟩::r)) (.mk 1 [] [] [] v []) _ _ _ _ _ A n c rfl rfl rfl rfl rfl rfl rfl rb.out HX.out HP.out hgl HR.out;simp only[World.setCells,a8,Nat.reduceAdd]at hset hfin;exact bodyPost_ret (v:= .agg #[.int .i64 1, .string (ag []), .string (ag []), .string (ag []), .int .i64 v, .slice A n c]) (by simp only[results,results183];simp[go_sem,hset];exact⟨rfl,rfl,rfl,rfl,rfl⟩) rfl hfin
end
section
open Go.RowKit
section
variable {w W W':World} {g pb sb:Nat} {en:Int} {pc sc:Array Value} {ty:TypeId} {X:World->Prop} {l l':List db}
theorem SK.exprL (K:SK w g en pb pc sb sc ty X l W) {x:Ex} {q:List db} (h:tO l x q):Calls prog 183 #[.pointer (some ⟨g,0,none⟩), .int .i64 1] W fun e W'=>
  ∃A n c,e= .returned (.agg #[.int .i64 x.k, .string (ag x.op), .string (ag x.nm), .string (ag x.tx), .int .i64 x.v, .slice A n c])/\
   Hid (SK w g en pb pc sb sc ty (fun V=>X V/\b8 V (fun b=>sb<b) (.slice (some ⟨W'.heap.size,0,none⟩) 1 1) [x]) q (W'.alloc (.cells #[.int .i64 x.k, .string (ag x.op), .string (ag x.nm), .string (ag x.tx), .int .i64 x.v, .slice A n c] 70))):=by
 have hK:=K;refine(h en W g K.pa).mono fun e W' hh=> ?_;obtain⟨hG,A,n,c,rfl,hR,hPA⟩:=hh;have hE:=O W' (.cells #[.int .i64 x.k, .string (ag x.op), .string (ag x.nm), .string (ag x.tx), .int .i64 x.v, .slice A n c] 70);have hz:=K.sv.lt;have hz2:=hG.size;refine⟨A,n,c,rfl,G (((K.step hPA hG).ext hE).with (b8.one (ax W' _ _) (by omega) (hR.keep (.of_ext hE) (fun b hb _=>by omega))) fun k hk V V' hV h=>h.keep (.of_grown hV fun b hb e=>by have:=K.nn;injection e with e;omega) (fun b hb _=>hb))⟩
end
def xV (l:List db) (s:St) (q:List db):Prop:= ∀(en:Int) (w:World) (g:Nat),PA w g l en->Calls prog 148 #[.pointer (some ⟨g,0,none⟩)] w (xQ g en w (.ok (s,q)))
def zI (l:List db) (s:St) (q:List db):Prop:= ∀(en:Int) (w:World) (g:Nat),PA w g l en->Calls prog 184 #[.pointer (some ⟨g,0,none⟩)] w (xQ g en w (.ok (s,q)))
section
variable {w W W':World} {g pb sb:Nat} {en:Int} {pc sc:Array Value} {ty:TypeId} {X:World->Prop} {l l':List db}
theorem SK.exOwnL (K:SK w g en pb pc sb sc ty X l W) {x:Ex} {q:List db} (h:tO l x q):Calls prog 183 #[.pointer (some ⟨g,0,none⟩), .int .i64 1] W fun e W'=>
  ∃A n c,e= .returned (.agg #[.int .i64 x.k, .string (ag x.op), .string (ag x.nm), .string (ag x.tx), .int .i64 x.v, .slice A n c])/\Hid (SK w g en pb pc sb sc ty (fun V=>gT V (sb+1) 70 (.slice (some ⟨W'.heap.size,0,none⟩) 1 1) [(x, .slice A n c)]) q (W'.alloc (.cells #[.int .i64 x.k, .string (ag x.op), .string (ag x.nm), .string (ag x.tx), .int .i64 x.v, .slice A n c] 70))):=by
 refine(h en W g K.pa).mono fun e W' hh=> ?_;obtain⟨hG,A,n,c,rfl,hR,hPA⟩:=hh;have hz:=K.sv.lt;have hz2:=hG.size;have hn:=K.nn;have hO:=gT.lit (x:=x) (base:=sb+1) (w:=W') (by omega) (hR.mono (fun b hb _=>by omega));exact⟨A,n,c,rfl,G (((K.step hPA hG).ext (O W' _)).app ⟨rfl,rfl,rfl,an _,fun _ _ _=>rfl⟩ (row:=none) (fun k e=>by cases e) hO fun k hk V V' hV h=>h.grown hV (fun k e=>by injection e with e;omega))⟩
theorem SK.simpL (K:SK w g en pb pc sb sc ty X l W) {s:St} {q:List db} (h:zI l s q):Calls prog 184 #[.pointer (some ⟨g,0,none⟩)] W fun e W'=>
  ∃A n c B m d C i j,e= .returned (.agg #[.int .i64 s.k, .string (ag s.nm), .slice A n c, .slice B m d, .slice C i j])/\Hid (SK w g en pb pc sb sc ty (fun V=>X V/\SV.ok V (fun b=>sb<b) ⟨s, .slice A n c, .slice B m d, .slice C i j⟩) q W'):=by
 refine(h en W g K.pa).mono fun e W' hh=> ?_;obtain⟨hG,A,n,c,B,m,d,C,i,j,rfl,hV,hPA⟩:=hh;have hz:=K.sv.lt;exact⟨A,n,c,B,m,d,C,i,j,rfl,G ((K.step hPA hG).with (hV.keep ⟨an _,fun _ _ _=>rfl⟩ (fun b hb _=>by omega)) fun k hk V V' hV h=>h.keep (.of_grown hV fun b hb e=>by have:=K.nn;injection e with e;omega) (fun b hb _=>hb))⟩
end
theorem yT {l:List db} {x:Ex} {r:List db} (h1:gy Cz l=false) (h2:gy ux l=false) (h3:gy sV l=false) (h4:gy rO l=true) (hs:gy AY l.tail=false) (hx:tO l.tail x r) (ht:gy AY r=true):xV l (.mk 6 [] [x] [] []) r.tail:=by
 intro en w g h;have hgl:=h.lt;have K:=G (nz h);have hrg:w.heap.size≠g:=by omega
 have hgr:g≠w.heap.size:=by omega
 have hsg:w.heap.size+1≠g:=by omega
 have hgs:g≠w.heap.size+1:=by omega
 obtain⟨hrc,hrf,hsc,hsf⟩:=K.out.cells;clear h;go_enter func148,ntmps148;have hN:=h1;go_wp2_with (go_at_call 98;refine(K.out.no hN).mono ?_;rintro e wx ⟨rfl,K⟩;clear hN;clear hrc hrf hsc hsf;obtain⟨hrc,hrf,hsc,hsf⟩:=K.out.cells);have hN:=h2;go_wp2_with (go_at_call 98;refine(K.out.no hN).mono ?_;rintro e wx ⟨rfl,K⟩;clear hN;clear hrc hrf hsc hsf;obtain⟨hrc,hrf,hsc,hsf⟩:=K.out.cells);have hN:=h3;go_wp2_with (go_at_call 98;refine(K.out.no hN).mono ?_;rintro e wx ⟨rfl,K⟩;clear hN;clear hrc hrf hsc hsf;obtain⟨hrc,hrf,hsc,hsf⟩:=K.out.cells);go_wp2_with (go_at_call 98;refine(K.out.yes h4).mono ?_;rintro e wx ⟨rfl,K⟩;clear hrc hrf hsc hsf;obtain⟨hrc,hrf,hsc,hsf⟩:=K.out.cells;have k:=K.out.put5 (by omega) (.int .i64 6) (.string ⟨#[]⟩) (.slice none 0 0) (.slice none 0 0) (.slice none 0 0);simp only[World.setCells,a8,Nat.reduceAdd,bE,cR,de]at k;have K:=G k;clear k);go_wp2_with (go_at_call 145;refine(K.out.is hs).mono ?_;rintro e wx ⟨rfl,K⟩;clear hrc hrf hsc hsf;obtain⟨hrc,hrf,hsc,hsf⟩:=K.out.cells);go_wp2_with (go_at_call 183;refine(K.out.exprL hx).mono ?_;rintro e w3 ⟨A,n,c,rfl,K⟩;clear hrc hrf hsc hsf;obtain⟨hrc,hrf,hsc,hsf⟩:=K.out.cells;have k:=K.out.set (by omega) 2 (.slice (some ⟨w3.heap.size,0,none⟩) 1 1);simp only[World.setCells,a8,Nat.reduceAdd,bE,cR,de]at k;have K:=G k;clear k);go_wp2_with (go_at_call 100;refine(K.out.want ht).mono ?_;rintro e wx ⟨rfl,K⟩;clear hrc hrf hsc hsf;obtain⟨hrc,hrf,hsc,hsf⟩:=K.out.cells);obtain⟨hset,hfin⟩:=K.out.fin (r:= .ok (.mk 6 [] [x] [] [],r.tail)) (.mk 6 [] [x] [] []) 6 ⟨#[]⟩ (some ⟨w3.heap.size,0,none⟩) 1 1 none 0 0 none 0 0 (by rfl) rfl rfl (fun h=>⟨h.2.mono (fun b hb _=>by omega), .nil _ _, .nil _ _⟩);simp only[World.setCells,a8,Nat.reduceAdd]at hset hfin;exact bodyPost_ret (v:= .agg #[.int .i64 6, .string ⟨#[]⟩, .slice (some ⟨w3.heap.size,0,none⟩) 1 1, .slice none 0 0, .slice none 0 0]) (by simp[results,results148,go_sem,hset]) rfl hfin
theorem yU {l:List db} {x y:Ex} {r q:List db} (hk:(fx l).k=1) (hlp:gy Ak l.tail=false) (hls:gy Bw l.tail=true) (hx:tO l.tail.tail x r) (hrs:gy Bv r=true) (heq:gy CO r.tail=true) (hy:tO r.tail.tail y q):zI l (.mk 3 (fx l).t [x,y] [] []) q:=by
 intro en w g h;have hgl:=h.lt;have K:=G (SK.one h #[.int .i64 0, .string ⟨#[]⟩, .slice none 0 0, .slice none 0 0, .slice none 0 0] 72);have hrg:w.heap.size≠g:=by omega
 have hgr:g≠w.heap.size:=by omega
 obtain⟨hrc,hrf,hsc,hsf⟩:=K.out.cells;clear h;go_enter func184,ntmps184;have hlt:=wN (l:=l) (by rw[hk];decide);go_wp2_with (go_at_call 101;refine(K.out.name hk).mono ?_;rintro e w1 ⟨rfl,K⟩;have hz1:=K.out.rb.lt;have K:=G (K.out.open (Y:=fun V=>gT V (w1.heap.size+1) 70 (.slice none 0 0) []) #[.int .i64 2, .string (ag (fx l).t), .slice none 0 0, .slice none 0 0, .slice none 0 0] (fun _=>n9 _ _ _) fun _ _ _ _ _ _=>n9 _ _ _);have hsg:w1.heap.size≠g:=(by omega);have hgs:g≠w1.heap.size:=(by omega);have hps:w.heap.size≠w1.heap.size:=(by omega);have hsp:w1.heap.size≠w.heap.size:=(by omega);clear hrc hrf hsc hsf;obtain⟨hrc,hrf,hsc,hsf⟩:=K.out.cells);go_wp2_with (go_at_call 145;refine(K.out.is hlp).mono ?_;rintro e wx ⟨rfl,K⟩;clear hrc hrf hsc hsf;obtain⟨hrc,hrf,hsc,hsf⟩:=K.out.cells);go_wp2_with (go_at_call 98;refine(K.out.yes hls).mono ?_;rintro e wx ⟨rfl,K⟩;clear hrc hrf hsc hsf;obtain⟨hrc,hrf,hsc,hsf⟩:=K.out.cells);go_wp2_with (go_at_call 183;refine(K.out.exOwnL hx).mono ?_;rintro e w5 ⟨A,n,c,rfl,K⟩;clear hrc hrf hsc hsf;obtain⟨hrc,hrf,hsc,hsf⟩:=K.out.cells;have k:=(K.out.set (by omega) 0 (.int .i64 3)).set (by omega) 2 (.slice (some ⟨w5.heap.size,0,none⟩) 1 1);simp only[World.setCells,a8,Nat.reduceAdd,bE,cR,de]at k;have K:=G k;clear k);go_wp2_with (go_at_call 100;refine(K.out.want hrs).mono ?_;rintro e wx ⟨rfl,K⟩;clear hrc hrf hsc hsf;obtain⟨hrc,hrf,hsc,hsf⟩:=K.out.cells);go_wp2_with (go_at_call 100;refine(K.out.want heq).mono ?_;rintro e w4 ⟨rfl,K⟩;clear hrc hrf hsc hsf;obtain⟨hrc,hrf,hsc,hsf⟩:=K.out.cells);have hgd:g<w4.heap.size:=K.out.pa.lt;have hsd:w1.heap.size<w4.heap.size:=K.out.sv.lt
 refine eo 5 8 [(3,fun v=> ∃A n c,v= .agg #[.int .i64 y.k, .string (ag y.op), .string (ag y.nm), .string (ag y.tx), .int .i64 y.v, .slice A n c],fun v wx=> ∀A n c,v= .agg #[.int .i64 y.k, .string (ag y.op), .string (ag y.nm), .string (ag y.tx), .int .i64 y.v, .slice A n c]->b8 wx (fun b=>w4.heap.size<=b) (.slice A n c) y.args/\PA wx g q en),
   (4,fun v=> ∃gb,v= .slice (some ⟨gb,0,none⟩) 1 1,fun v wx=> ∀gb,v= .slice (some ⟨gb,0,none⟩) 1 1->w4.heap.size<=gb/\ ∃A n c,aO wx gb 70 #[.int .i64 y.k, .string (ag y.op), .string (ag y.nm), .string (ag y.tx), .int .i64 y.v, .slice A n c]/\b8 wx (fun b=>w4.heap.size<=b) (.slice A n c) y.args)] 3 (some g) mixed (by kernel_rfl) ⟨fun _ _ _ h hx A n c e=>⟨(h A n c e).1.keep (.of_ext hx) (fun _ hb _=>hb),(h A n c e).2.ext hx⟩,fun _ _ _ h hx gb e=>let⟨q0,A,n,c,q1,q2⟩:=h gb e;⟨q0,A,n,c,q1.ext hx,q2.keep (.of_ext hx) (fun _ hb _=>hb)⟩,trivial⟩
  ⟨.inl rfl, .inr fun _ _ _ h hx gb e=>let⟨q0,A,n,c,q1,q2⟩:=h gb e;⟨q0,A,n,c,q1.grown hx (fun e=>by injection e with e;omega),q2.keep (.of_grown hx fun b hb e=>by injection e with e;omega) (fun _ hb _=>hb)⟩,trivial⟩ ?_
 repeat (refine sx ?_ (fun w1 hU=> ?_) ?_;rotate_left;(focus have f1:=(K.out.sv.grown (aV hU) (fun e=>hsg (aw e))).cell;clear hU;go_simp<;>with_reducible rfl);simp only[aU,aT,aS,aR,aQ])
 refine eQ _ _ (by rfl) rfl ⟨_,none,0,0,rfl⟩ rfl (fun w6 hT hp J hJ=> ?_) ?_
 ·clear hp;have hc:=hy en w6 g (K.out.pa.ext hT.un);have HT6:=G hT.un;clear hT;go_simp;refine hc.mono ?_;intro e w7 hh;obtain⟨hG,A,n,c,rfl,hR,hPA⟩:=hh;exact hJ _ _ hG ⟨_,_,_,rfl⟩ (fun A' n' c' e=>by injection e with e;simp only[Array.mk.injEq,List.cons.injEq,Value.slice.injEq,and_true,true_and]at e;obtain⟨rfl,rfl,rfl⟩:=e;exact⟨hR.mono (fun b hb _=>a_ (kS HT6.out) hb),hPA⟩)
 rintro _ ⟨A2,n2,c2,rfl⟩;simp only[aU,aT,aS,aR,aQ];refine b6 _ _ (by rfl) rfl ⟨_,0,rfl⟩ (by simp) (fun w6 hU hp J hJ=> ?_) ?_
 ·have h3:=(hp _ (.head _) (by kernel_rfl)) A2 n2 c2 rfl;have hz6:=(aV hU).size;clear hp hU;go_simp;exact hJ _ _ (O w6 _) ⟨_,rfl⟩ (fun gb e=>by injection e with e;injection e with e;injection e with e;subst e;exact⟨hz6,A2,n2,c2,ax w6 _ _,h3.1.keep (.of_ext (O w6 _)) (fun _ hb _=>hb)⟩)
 rintro _ ⟨gb,rfl⟩;simp only[aU,aT,aS,aR,aQ];intro w8 hw8 hp;obtain⟨hgb,A3,n3,c3,hB3,hR3⟩:=hp _ (.head _) gb rfl;have h3:=(hp _ (.tail _ (.head _)) A2 n2 c2 rfl).2;clear hp;simp only[ab,ap];have hw8:=aV hw8;have hz8:=hw8.size;have hrow:=World.ownsRow.lt K.out.xx.1;have K:=G (K.out.step h3 hw8);have HA8:=G (hR3.mono (Q:=fun b=>w1.heap.size+1<=b/\some b≠Value.ownBlock (.slice (some ⟨w5.heap.size,0,none⟩) 1 1)) (fun b hb _=>⟨by omega,fun e=>by have:=(hrow b e.symm).2;omega⟩));clear hw8 h3 hR3 hrc hrf hsc hsf;refine ec CA rfl _ _ rfl (w1.heap.size+1) _ 1 (iF [(x, .slice A n c)]) rfl K.out.xx.1 gb (tQ y (.slice A3 n3 c3)) rfl hB3 rfl (si _ _ _ _) (by omega) (by decide) (by omega) ?_;intro A' cap' w9 hq1 hq2 hq3;have K:=G (K.out.app (Y:=fun V=>gT V (w1.heap.size+1) 70 (.slice (some ⟨A',0,none⟩) 2 cap') [(x, .slice A n c),(y, .slice A3 n3 c3)]) hq2 (fun k e=>(hrow k e).1) (K.out.xx.snoc HA8.out hq1 hq2 hq3) fun k hk V V' hV h=>h.grown hV (fun k e=>by injection e with e;omega));obtain⟨hrc,hrf,hsc,hsf⟩:=K.out.cells;clear hq1 hq2 hq3 hB3 hrow;go_wp2_with fail;have K:=G (K.out.set (by omega) 2 (.slice (some ⟨A',0,none⟩) 2 cap'));obtain⟨hset,hfin⟩:=K.out.fin (r:= .ok (.mk 3 (fx l).t [x,y] [] [],q)) (.mk 3 (fx l).t [x,y] [] []) 3 (ag (fx l).t) (some ⟨A',0,none⟩) 2 cap' none 0 0 none 0 0 (by rfl) rfl rfl (fun h=>⟨by have:=h.rd.mono (Q:=fun b=>w.heap.size<b) (fun b hb _=>by omega);simpa[St.ex]using this, .nil _ _, .nil _ _⟩);simp only[World.setCells,a8,Nat.reduceAdd]at hset hfin;exact bodyPost_ret (v:= .agg #[.int .i64 3, .string (ag (fx l).t), .slice (some ⟨A',0,none⟩) 2 cap', .slice none 0 0, .slice none 0 0]) (by simp[results,results184,go_sem,hset]) rfl hfin
theorem yS {l:List db} {s:St} {r:List db} (h1:gy Cz l=false) (h2:gy ux l=false) (h3:gy sV l=false) (h4:gy rO l=false) (hc:zI l s r) (hs:gy AY r=true):xV l s r.tail:=by
 intro en w g h;have hgl:=h.lt;have K:=G (nz h);have hrg:w.heap.size≠g:=by omega
 have hgr:g≠w.heap.size:=by omega
 have hsg:w.heap.size+1≠g:=by omega
 have hgs:g≠w.heap.size+1:=by omega
 obtain⟨hrc,hrf,hsc,hsf⟩:=K.out.cells;clear h;go_enter func148,ntmps148;have hN:=h1;go_wp2_with (go_at_call 98;refine(K.out.no hN).mono ?_;rintro e wx ⟨rfl,K⟩;clear hN;clear hrc hrf hsc hsf;obtain⟨hrc,hrf,hsc,hsf⟩:=K.out.cells);have hN:=h2;go_wp2_with (go_at_call 98;refine(K.out.no hN).mono ?_;rintro e wx ⟨rfl,K⟩;clear hN;clear hrc hrf hsc hsf;obtain⟨hrc,hrf,hsc,hsf⟩:=K.out.cells);have hN:=h3;go_wp2_with (go_at_call 98;refine(K.out.no hN).mono ?_;rintro e wx ⟨rfl,K⟩;clear hN;clear hrc hrf hsc hsf;obtain⟨hrc,hrf,hsc,hsf⟩:=K.out.cells);have hN:=h4;go_wp2_with (go_at_call 98;refine(K.out.no hN).mono ?_;rintro e wx ⟨rfl,K⟩;clear hN;clear hrc hrf hsc hsf;obtain⟨hrc,hrf,hsc,hsf⟩:=K.out.cells);go_wp2_with (go_at_call 184;refine(K.out.simpL hc).mono ?_;rintro e wx ⟨A1,n1,c1,A2,n2,c2,A3,n3,c3,rfl,K⟩;clear hrc hrf hsc hsf;obtain⟨hrc,hrf,hsc,hsf⟩:=K.out.cells;have k:=K.out.put5 (by omega) (.int .i64 s.k) (.string (ag s.nm)) (.slice A1 n1 c1) (.slice A2 n2 c2) (.slice A3 n3 c3);simp only[World.setCells,a8,Nat.reduceAdd,bE,cR,de]at k;have K:=G k;clear k);go_wp2_with (go_at_call 100;refine(K.out.want hs).mono ?_;rintro e wx ⟨rfl,K⟩;clear hrc hrf hsc hsf;obtain⟨hrc,hrf,hsc,hsf⟩:=K.out.cells);obtain⟨hset,hfin⟩:=K.out.fin (r:= .ok (s,r.tail)) (s) s.k (ag s.nm) A1 n1 c1 A2 n2 c2 A3 n3 c3 (by rfl) rfl rfl (fun h=>h.2.keep ⟨an _,fun _ _ _=>rfl⟩ (fun b hb _=>by omega));simp only[World.setCells,a8,Nat.reduceAdd]at hset hfin;exact bodyPost_ret (v:= .agg #[.int .i64 s.k, .string (ag s.nm), .slice A1 n1 c1, .slice A2 n2 c2, .slice A3 n3 c3]) (by simp[results,results148,go_sem,hset]) rfl hfin
end
section
open Go.RowKit
def AV (l:List db) (b:List St) (q:List db):Prop:= ∀(en:Int) (w:World) (g:Nat),PA w g l en->Calls prog 104 #[.pointer (some ⟨g,0,none⟩)] w (Cr g en w (.ok (b,q)))
theorem pH {l:List db} {s:St} {q:List db} (hlb:gy Cw l=true) (hrb0:gy zK l.tail=false) (hs:xV l.tail s q) (hrb1:gy zK q=true) (hq:q.length<l.tail.length) (hlen:l.length<=100):AV l [s] q.tail:=by
 intro en w g h;have HP0:=G h;have hgl:=h.lt;clear h;go_enter func104,ntmps104;go_wp2_with (go_at_call 100;refine(lP g _ en Cw _ HP0.out hlb).mono ?_;rintro e w1 ⟨rfl,h1,h2⟩;have HP1:=G h1;have HG1:=G h2;clear h1 h2);clear HP0
 go_loopw [3] (fun vo wr=> ∃(acc:List SV) (r:List db) (C:Option Addr) (n cap:Nat),vo= .slice C n cap/\acc.length=n/\n<=1/\Hid (acc=[]/\r=l.tail\/acc.map (·.s)=[s]/\r=q)/\Hid (PA wr g r en)/\
  Hid (fV wr w.heap.size 72 (.slice C n cap) acc)/\Hid (w.grownBy wr (some g))) (fun vo wr=>tokN g wr)
 case atStart=>exact⟨[],l.tail,none,0,0,rfl,rfl,by omega,G (.inl ⟨rfl,rfl⟩),HP1,G (fV.nil_ _ _ _),HG1⟩
 case round=>
  clear HP1 HG1;obtain⟨acc,r,C,n,cap,rfl,hn,hn1,HSt,HPr,HOr,HGr⟩:=hrel;rcases HSt.out with⟨ha,hr⟩|⟨ha,hr⟩
  rotate_left
  ·have hrb:gy zK r=true:=by rw[hr];exact hrb1
   have HA:=G ha;clear ha HSt;go_wp2_with (go_at_call 98;refine(h_ g r en zK _ HPr.out).mono ?_;rw[hrb];simp only[if_true];rintro e w2 ⟨rfl,h1,h2⟩;have HP2:=G h1;have HG2:=G (br HGr.out h2);have HO2:=G (HOr.out.grown h2 (fun k e=>by injection e with e;omega));clear h1 h2);go_ret;rw[<-hr,<-HA.out];exact⟨HG2.out,_,_,_,rfl,HO2.out.rd,HP2.out⟩
  ·have hrb:gy zK r=false:=by rw[hr];exact hrb0
   have HQ:=G (show q.length<r.length by rw[hr];exact hq);have HS:=G (show xV r s q by rw[hr];exact hs);clear hq hr HSt;have hn0:n=0:=by rw[<-hn,ha];rfl
   have HA:=G ha;have HN0:=G hn0;clear ha hn0
   go_wp2_with (first
    |(go_at_call 98;refine(h_ g r en zK _ HPr.out).mono ?_;rw[hrb];simp only[bR,if_false];rintro e w2 ⟨rfl,h1,h2⟩;have HP2:=G h1;have HG2:=G (br HGr.out h2);have HO2:=G (HOr.out.grown h2 (fun k e=>by injection e with e;omega));clear h1 h2 HOr)
    |(go_at_call 148;refine(HS.out en _ g HP2.out).mono ?_;intro e w3 hh;obtain⟨hG,A1,n1,c1,A2,n2,c2,A3,n3,c3,rfl,hV,hPA⟩:=hh;have hE:=O w3 (.cells #[.int .i64 s.k, .string (ag s.nm), .slice A1 n1 c1, .slice A2 n2 c2, .slice A3 n3 c3] 72);have hz2:=HG2.out.size;have hzz:=hG.size;have HG3:=G (br (br HG2.out hG) (hE.grownBy (some g)));have HO3:=G ((HO2.out.grown hG (fun k e=>by injection e with e;omega)).ext hE);have hrow:=World.ownsRow.lt HO2.out.1;have HV3:=G (hV.keep (.of_ext hE) (Q:=fun b=>w.heap.size<=b/\some b≠Value.ownBlock (.slice C n cap)) (fun b hb _=>⟨by omega,fun e=>by have:=(hrow b e.symm).2;omega⟩));have HP3:=G (hPA.ext hE);have HN3:=G (ax w3 72 #[.int .i64 s.k, .string (ag s.nm), .slice A1 n1 c1, .slice A2 n2 c2, .slice A3 n3 c3]);have hrw:=fun k hk=>(hrow k hk).1;clear hG hV hPA hE hrow HO2)
    |(at_builtin;refine ec Cv rfl _ _ rfl w.heap.size _ n (dO acc) rfl (by have:=HO3.out.1;rw[hn]at this;exact this) w3.heap.size (qD ⟨s, .slice A1 n1 c1, .slice A2 n2 c2, .slice A3 n3 c3⟩) rfl HN3.out rfl (rM _ _ _ _ _ _ _ _ _ _) (by omega) (by decide) HG3.out.size ?_;intro A' cap' w4 hq1 hq2 hq3;have HO4:=G (HO3.out.snoc HV3.out (by rw[hn];exact hq1) hq2 hq3);have HG4:=G (show w.grownBy w4 (some g)from⟨hq2.os.trans HG3.out.os,hq2.tape.trans HG3.out.tape,hq2.output.trans HG3.out.output,a_ HG3.out.size hq2.size,fun i hi hne=>(hq2.block i (aF hi HG3.out.size) (fun e=>by have:=hrw i e.symm;omega)).trans (HG3.out.block i hi hne)⟩);have HP4:=G (HP3.out.grown hq2 (fun k e=>by have:=hrw k e;omega));clear hq1 hq2 hq3))
   go_roundw
   case rel=>exact⟨[⟨s, .slice A1 n1 c1, .slice A2 n2 c2, .slice A3 n3 c3⟩],q,some ⟨A',0,none⟩,n+1,cap',rfl,by rw[HN0.out];rfl,by rw[HN0.out];omega,G (.inr ⟨rfl,rfl⟩),HP4,G (by have:=HO4.out;rw[HA.out]at this;rw[HN0.out];exact this),HG4⟩
   case measure=>rw[HPr.out.tokN,HP4.out.tokN];exact HQ.out
end
section
open Go.RowKit
def AU (l:List db) (x:Vr) (q:List db):Prop:= ∀(en:Int) (w:World) (g:Nat),PA w g l en->Calls prog 99 #[.pointer (some ⟨g,0,none⟩)] w (zG g en w (.ok (x,q)))
theorem yR {l r:List db} {tx:List UInt8} {v fr:Int} (hk:(fx l).k=1) (hb:gy Bw l.tail=true) (hlr:l.tail.tail=⟨3,tx,v,fr⟩::r) (hv1: ¬v<1) (hv2: ¬2000<v) (hr:gy Bv r=true) (hs:gy AY r.tail=true):AU l ⟨(fx l).t,v⟩ r.tail.tail:=by
 intro en w g h;have hgl:=h.lt;have K:=G (SK.one h #[.string ⟨#[]⟩, .int .i64 0] 85);have hrg:w.heap.size≠g:=by omega
 have hgr:g≠w.heap.size:=by omega
 obtain⟨hrc,hrf,hsc,hsf⟩:=K.out.cells;clear h;go_enter func99,ntmps99;go_wp2_with (go_at_call 101;refine(K.out.name hk).mono ?_;rintro e w1 ⟨rfl,K⟩;have hz1:=K.out.rb.lt;have K:=G (K.out.open (Y:=fun _=>True) #[.string (ag (fx l).t), .int .i64 0] (fun _=>trivial) fun _ _ _ _ _ _=>trivial);have hsg:w1.heap.size≠g:=(by omega);have hgs:g≠w1.heap.size:=(by omega);have hps:w.heap.size≠w1.heap.size:=(by omega);have hsp:w1.heap.size≠w.heap.size:=(by omega);clear hrc hrf hsc hsf;obtain⟨hrc,hrf,hsc,hsf⟩:=K.out.cells);go_wp2_with (go_at_call 98;refine(K.out.yes hb).mono ?_;rintro e wx ⟨rfl,K⟩;clear hrc hrf hsc hsf;obtain⟨hrc,hrf,hsc,hsf⟩:=K.out.cells);have hdt:fx l.tail.tail=⟨3,tx,v,fr⟩:=by rw[hlr];rfl
 go_wp2_with (go_at_call 146;refine(K.out.next hdt).mono ?_;rintro e wx ⟨rfl,K⟩;clear hrc hrf hsc hsf;obtain⟨hrc,hrf,hsc,hsf⟩:=K.out.cells;have hpp:=K.out.pa;rw[hlr]at hpp;obtain⟨A,c,hb0,hb1,ht,hn⟩:=hpp.set2 (ps:=w1.heap.size) (i:=1) (v:= .int .i64 v) (by omega);obtain⟨b,off,rfl,hlt,_⟩:=ht.at_ 0 (by simp);have hbc:=hb0.cell;have hbf:=hb0.frozen;rw[hlr]at K;clear hpp hb0);all_goals
  first|have hq:=PA.next_a hb1 ht (hn b off rfl (by simp)) hlt (by assumption)|have hq:=PA.next_b hb1 ht (hn b off rfl (by simp)) hlt (by assumption)
  have k:=(K.out.set (by omega) 1 (.int .i64 v)).step hq.1 hq.2;simp only[bE,cR,de]at k;have K:=G k;clear hb1 ht hn hlt hbc hbf hrc hrf hsc hsf hq k;generalize World.setCell _ _ _=w4 at*;obtain⟨hrc,hrf,hsc,hsf⟩:=K.out.cells;go_wp2_with (go_at_call 100;refine(K.out.want hr).mono ?_;rintro e wx ⟨rfl,K⟩;clear hrc hrf hsc hsf;obtain⟨hrc,hrf,hsc,hsf⟩:=K.out.cells);go_wp2_with (go_at_call 100;refine(K.out.want hs).mono ?_;rintro e wx ⟨rfl,K⟩;clear hrc hrf hsc hsf;obtain⟨hrc,hrf,hsc,hsf⟩:=K.out.cells);obtain⟨hset,hfin⟩:=K.out.finV (r:= .ok (⟨(fx l).t,v⟩,r.tail.tail)) (⟨(fx l).t,v⟩) (ag (fx l).t) v rfl rfl rfl;simp only[World.setCells,a8]at hset hfin;exact bodyPost_ret (v:= .agg #[.string (ag (fx l).t), .int .i64 v]) (by simp[results,results99,go_sem,hset]) rfl hfin
theorem xg (base g pf pb:Nat) (nm:List UInt8) (l:List db) (en:Int) (w:World)
  (hP:PA w g l en) (hb:aO w pb 153 #[.pointer (some ⟨g,0,none⟩)]) (hx:aO w pf 59 #[.string (ag nm), .slice none 0 0, .slice none 0 0])
  (hbase:base<=w.heap.size) (hg:g<pf) (hgp:g<pb) (hpp:pb≠pf) (hpf:pf<base) (hpb:pb<base) (hrp:gy zJ l=true):
  Calls prog 102 #[.pointer (some ⟨g,0,none⟩), .func (Fn.func 103) #[] #[.pointer (some ⟨pf,0,none⟩), .pointer (some ⟨pb,0,none⟩)]] w (Cq base g pf nm en w (.ok ([],l.tail))):=by
 have HP:=G hP;have HB:=G hb;have HX:=G hx;have HG:=G (h_ g l en zJ w hP);clear hP hb hx;rw[hrp]at HG;simp only[if_true]at HG;go_enter func102,ntmps102;go_wp2_with (go_at_call 98;refine HG.out.mono ?_;rintro e w1 ⟨rfl,h1,h2⟩;have H1:=G h1;have H2:=G h2;clear h1 h2 HG)
 go_end0
 exact⟨Fr.of_grown H2.out hbase (fun k e=>by injection e with e;omega),rfl,H1.out,_,_,_,HX.out.grown H2.out (fun e=>by injection e with e;omega), .nil_ _ _⟩
inductive wA (p:Pg):List Vr->List Fc->List db->Prop
 |done:wA p p.vs p.fs []
 |var {vs:List Vr} {fs:List Fc} {r q:List db} {x:Vr} (h1:gy sV r=true) (h2:AU r.tail x q) (h3:q.length<r.length) (h:wA p (vs++[x]) fs q):wA p vs fs r
 |fn {vs:List Vr} {fs:List Fc} {r q:List db} {b:List St} (h1:gy sV r=false) (h2:gy x9 r=true) (h3:(fx r.tail).k=1) (h4:gy Ak r.tail.tail=true) (h5:gy zJ r.tail.tail.tail=true) (h6:AV r.tail.tail.tail.tail b q) (h7:q.length<r.length) (h:wA p vs (fs++[⟨(fx r.tail).t,[],b⟩]) q):wA p vs fs r
theorem xf (p:Pg) (l:List db) (hPS0:wA p [] [] l) (hlen:l.length<=100) (en:Int) (w:World) (g:Nat) (h:PA w g l en):Calls prog 60 #[.pointer (some ⟨g,0,none⟩)] w (AR g en w (.ok (p,[]))):=by
 obtain⟨hX0,hb0,hB0,hS0⟩:=s7 w (.pointer (some ⟨g,0,none⟩));have HX0:=G hX0;have Hb0:=G hb0;have HB0:=G hB0;have HS0:=G hS0;have HP0:=G (h.ext hX0);have hgl:=h.lt;have hbg:w.heap.size≠g:=by omega
 have hrg:w.heap.size+1≠g:=by omega
 have hsg:w.heap.size+2≠g:=by omega
 clear h hX0 hb0 hB0 hS0;have hmf: ∀(fn:Fn) (first cap:Array Value) (w:World),(Instr.makeFunc fn first cap).run prog w= .ok (.func fn first cap) w:=fun _ _ _ _=>rfl;go_enter func60,ntmps60;go_wp2_with fail
 go_loopw [] (fun wr=> ∃(vs:List Vr) (fs:List FV) (r:List db) (A:Option Addr) (n c:Nat) (B:Option Addr) (m d:Nat),vs.length=n/\fs.length=m/\n+m+r.length<=l.length/\Hid (wA p vs (fs.map (·.c)) r)/\Hid (PA wr g r en)/\Hid (aO wr w.heap.size 153 #[.pointer (some ⟨g,0,none⟩)])/\Hid (aO wr (w.heap.size+1) 34 #[.slice none 0 0, .slice none 0 0])/\Hid (aO wr (w.heap.size+2) 34 #[.slice A n c, .slice B m d])/\
  Hid (jl wr (w.heap.size+3) (.slice A n c) (.slice B m d) vs fs)/\Hid (w.grownBy wr (some g))) (fun wr=>tokN g wr)
 case atStart=>exact⟨[],[],l,none,0,0,none,0,0,rfl,rfl,by omega,G hPS0,HP0,Hb0,HB0,HS0,G (jl.nil_ _ _),G (HX0.out.grownBy _)⟩
 case round=>
  clear HX0 Hb0 HB0 HS0 HP0;obtain⟨vs,fs,r,A,n,c,B,m,d,hn0,hm,hnm,HPS,HPr,Hbr,HBr,HSr,HOr,HGr⟩:=hrel;have hpc:=Hbr.out.cell;have hsc:=HSr.out.cell;have hsf:=HSr.out.frozen;have hps:=HPS.out;generalize hff:fs.map (·.c)=ff at hps
  cases hps with
  |done=>
   have HFF:=G hff;clear hff HPS;obtain⟨Q,cq,hb,ht,hn⟩:=HPr.out;have hbc:=hb.cell;have hrc:=HBr.out.cell;have hrf:=HBr.out.frozen;clear hb ht hn;go_wp2_with fail;have hrd:=HOr.out.rd;obtain⟨hset,hfin⟩:=zu (r:= .ok (p,[])) (en:=en) p A n c B m d rfl (Nat.le_succ _) HBr.out HGr.out (hrd.1.keep ⟨an _,fun _ _ _=>rfl⟩ (fun b hb _=>by omega)) ((HFF.out▸hrd.2).keep ⟨an _,fun _ _ _=>rfl⟩ (fun b hb _=>by omega));simp only[World.setCells,a8]at hset hfin;exact bodyPost_ret (v:= .agg #[.slice A n c, .slice B m d]) (by simp[results,results60,go_sem,hset]) rfl hfin
  | @var _ _ _ q x hv hva hlx hnx=>
   have HN:=G hnx;have HVA:=G hva;clear HPS hnx;obtain⟨Q,cq,hb,ht,hn⟩:=HPr.out;have hbc:=hb.cell;obtain⟨N,hN⟩: ∃N,r.length=N:=⟨_,rfl⟩
   rw[hN]at hbc;have hN0:0<N:=by omega
   have hN0i:(0:Int)<N:=by omega
   have hrt:r.length=r.tail.length+1:=by simp only[List.length_tail];omega
   clear hb ht hn;have HPNr:=HPr;go_wp2_with (first|(go_at_call 98;refine(h_ g _ en sV _ HPr.out).mono ?_;rw[hv];simp only[if_true];rintro e w1 ⟨rfl,h1,h2⟩;have HP1:=G h1;have HG1:=G (br HGr.out h2);have Hb1:=G (Hbr.out.grown h2 (fun e=>hbg (aw e)));have HB1:=G (HBr.out.grown h2 (fun e=>hrg (aw e)));have HS1:=G (HSr.out.grown h2 (fun e=>hsg (aw e)));have HO1:=G (HOr.out.grown h2 (fun k e=>by injection e with e;omega));clear hpc hsc hsf hbc;have hpc:=Hb1.out.cell;have hsc:=HS1.out.cell;have hsf:=HS1.out.frozen;clear h1 h2 HPr));have hg1:g<w1.heap.size:=HP1.out.lt;have hz1:w.heap.size+2<w1.heap.size:=HS1.out.lt;refine eo 5 4 [(3,fun v=>v= .agg #[.string (ag x.nm), .int .i64 x.sz],fun v wx=>PA wx g q en),(4,fun v=> ∃gb,v= .slice (some ⟨gb,0,none⟩) 1 1,fun v wx=> ∀gb,v= .slice (some ⟨gb,0,none⟩) 1 1->w1.heap.size<=gb/\aO wx gb 85 #[.string (ag x.nm), .int .i64 x.sz])] 3 (some g) mixed (by kernel_rfl)
    ⟨fun _ _ _ h hx=>h.ext hx,fun _ _ _ h hx gb e=>⟨(h gb e).1,(h gb e).2.ext hx⟩,trivial⟩ ⟨.inl rfl, .inr fun _ _ _ h hx gb e=>⟨(h gb e).1,(h gb e).2.grown hx (fun e'=>by have:=(h gb e).1;injection e' with e';omega)⟩,trivial⟩ ?_
   repeat (refine sx ?_ (fun w1 hU=> ?_) ?_;rotate_left;(focus have f1:=(HS1.out.grown (aV hU) (fun e=>hsg (aw e))).cell;have f2:=(Hb1.out.grown (aV hU) (fun e=>hbg (aw e))).cell;clear hU;go_simp<;>with_reducible rfl);simp only[aU,aT,aS,aR,aQ])
   refine eQ _ _ (by rfl) rfl ⟨_,rfl⟩ rfl (fun w6 hT hp K hK=> ?_) ?_
   ·clear hp;have hc:=hva en w6 g (HP1.out.ext hT.un);clear hT;go_simp;refine hc.mono ?_;intro e w7 hh;obtain⟨hG,rfl,hPA⟩:=hh;exact hK _ _ hG rfl hPA
   rintro _ rfl;simp only[aU,aT,aS,aR,aQ];refine b6 _ _ (by rfl) rfl ⟨_,0,rfl⟩ (by simp) (fun w6 hU hp K hK=> ?_) ?_
   ·have hz6:=(aV hU).size;clear hp hU;go_simp;exact hK _ _ (O w6 _) ⟨_,rfl⟩ (fun gb e=>by injection e with e;injection e with e;injection e with e;subst e;exact⟨hz6,ax w6 _ _⟩)
   rintro _ ⟨gb,rfl⟩;simp only[aU,aT,aS,aR,aQ];intro w8 hw8 hp;obtain⟨hgb,hB3⟩:=hp _ (.head _) gb rfl;have HP8:=G (show PA w8 g q en from hp _ (.tail _ (.head _)));clear hp;simp only[ab,ap];have hw8:=aV hw8;have HG8:=G (br HG1.out hw8);have Hb8:=G (Hb1.out.grown hw8 (fun e=>hbg (aw e)));have HB8:=G (HB1.out.grown hw8 (fun e=>hrg (aw e)));have HS8:=G (HS1.out.grown hw8 (fun e=>hsg (aw e)));have HO8:=G (HO1.out.grown hw8 (fun k e=>by injection e with e;omega));have hrow:=World.ownsRow.lt HO8.out.1;have hrw:=fun k hk=>(hrow k hk).1;have hz8:=HG8.out.size;have hz88:=hw8.size;clear hw8 hpc hsc hsf;refine ec Cu rfl _ _ rfl (w.heap.size+3) _ n (fC vs) rfl (by have:=HO8.out.1;rw[hn0]at this;exact this) gb (qq x) rfl hB3 rfl (by intro u hu;simp only[qq,em,dB,or_false]at hu;rcases hu with rfl|rfl<;>rfl) (by omega) (by decide) (by omega) ?_;intro A' cap' w9 hq1 hq2 hq3;have hO9:=HO8.out.snocV hn0 hq1 hq2 hq3;have hS9:=HS8.out.grown hq2 (fun e=>by have:=hrw _ e.symm;omega);have hb9:=Hb8.out.grown hq2 (fun e=>by have:=hrw _ e.symm;omega);have hB9:=HB8.out.grown hq2 (fun e=>by have:=hrw _ e.symm;omega);have hP9:=HP8.out.grown hq2 (fun k e=>by have:=hrw k e;omega);have hG9:w.grownBy w9 (some g):=⟨hq2.os.trans HG8.out.os,hq2.tape.trans HG8.out.tape,hq2.output.trans HG8.out.output,a_ HG8.out.size hq2.size,fun i hi hne=>(hq2.block i (aF hi HG8.out.size) (fun e=>by have:=hrw i e.symm;omega)).trans (HG8.out.block i hi hne)⟩
   have hsc:=hS9.cell;have hsf:=hS9.frozen;have hs:=e_ w9 (w.heap.size+2) 0 (.slice (some ⟨A',0,none⟩) (n+1) cap');have hs9:=hS9.set 0 (.slice (some ⟨A',0,none⟩) (n+1) cap');simp only[bE,cR]at hs9;have HON:=G (hO9.grown hs (fun k e=>by injection e with e;omega));have HPN:=G (hP9.grown hs (fun k e=>by injection e with e;omega));have HbN:=G (hb9.grown hs (fun e=>by injection e with e;omega));have HBN:=G (hB9.grown hs (fun e=>by injection e with e;omega));have HGN:=G (eq hG9 hs (by omega));have HSN:=G hs9;clear hq1 hq2 hq3 hs hs9 hO9 hS9 hb9 hB9 hP9 hG9 hrow hrw hB3;go_wp2_with fail;go_roundw
   case rel=>exact⟨vs++[x],fs,q,some ⟨A',0,none⟩,n+1,cap',B,m,d,by simp[hn0],hm,by omega,G (hff▸HN.out),HPN,HbN,HBN,HSN,HON,HGN⟩
   case measure=>rw[HPNr.out.tokN,HPN.out.tokN];omega
  | @fn _ _ _ q bd hv hfu hk hlp hrp hbl hlb hnx=>
   have HN:=G hnx;clear HPS hnx;obtain⟨Q,cq,hb,ht,hn⟩:=HPr.out;have hbc:=hb.cell;obtain⟨N,hN⟩: ∃N,r.length=N:=⟨_,rfl⟩
   rw[hN]at hbc;have hN0:0<N:=by omega
   have hN0i:(0:Int)<N:=by omega
   have hrt:r.length=r.tail.length+1:=by simp only[List.length_tail];omega
   clear hb ht hn;have HPNr:=HPr;go_wp2_with (first|(go_at_call 98;refine(h_ g _ en sV _ HPr.out).mono ?_;rw[hv];simp only[bR,if_false];rintro e w1 ⟨rfl,h1,h2⟩;have HP1:=G h1;have HG1:=G (br HGr.out h2);have Hb1:=G (Hbr.out.grown h2 (fun e=>hbg (aw e)));have HB1:=G (HBr.out.grown h2 (fun e=>hrg (aw e)));have HS1:=G (HSr.out.grown h2 (fun e=>hsg (aw e)));have HO1:=G (HOr.out.grown h2 (fun k e=>by injection e with e;omega));clear hpc hsc hsf hbc;have hpc:=Hb1.out.cell;have hsc:=HS1.out.cell;have hsf:=HS1.out.frozen;clear h1 h2 HPr)|(go_at_call 100;refine(lP g _ en x9 _ HP1.out hfu).mono ?_;rintro e w2 ⟨rfl,h1,h2⟩;have HP2:=G h1;have HG2:=G (br HG1.out h2);have Hb2:=G (Hb1.out.grown h2 (fun e=>hbg (aw e)));have HB2:=G (HB1.out.grown h2 (fun e=>hrg (aw e)));have HS2:=G (HS1.out.grown h2 (fun e=>hsg (aw e)));have HO2:=G (HO1.out.grown h2 (fun k e=>by injection e with e;omega));clear hpc hsc hsf;have hpc:=Hb2.out.cell;have hsc:=HS2.out.cell;have hsf:=HS2.out.frozen;clear h1 h2 HP1)|(go_at_call 101;refine(sh g _ en _ HP2.out hk).mono ?_;rintro e w3 ⟨rfl,h1,h2⟩;have HG3:=G (br HG2.out h2);have Hb3:=G (Hb2.out.grown h2 (fun e=>hbg (aw e)));have HB3:=G (HB2.out.grown h2 (fun e=>hrg (aw e)));have HS3:=G (HS2.out.grown h2 (fun e=>hsg (aw e)));have HO3:=G (HO2.out.grown h2 (fun k e=>by injection e with e;omega));have hE:=O w3 (.cells #[.string (ag (fx r.tail).t), .slice none 0 0, .slice none 0 0] 59);have HQ4:=G (hE.grownBy (some g));have HF4:=G (ax w3 59 #[.string (ag (fx r.tail).t), .slice none 0 0, .slice none 0 0]);have HP4:=G (h1.ext hE);have HG4:=G (br HG3.out (hE.grownBy (some g)));have hz3:=HS3.out.lt;have hfg:w3.heap.size≠g:=(by omega);have hgf:g≠w3.heap.size:=(by omega);clear hpc hsc hsf;have hpc:=(Hb3.out.ext hE).cell;clear h1 h2 hE HP2)|(go_at_call 100;refine(lP g _ en Ak _ HP4.out hlp).mono ?_;rintro e w5 ⟨rfl,h1,h2⟩;have HP5:=G h1;have HQ5:=G (br HQ4.out h2);have HG5:=G (br HG4.out h2);have HF5:=G (HF4.out.grown h2 (fun e=>hfg (aw e)));have Hb5:=G (Hb3.out.grown HQ5.out (fun e=>hbg (aw e)));clear hpc;have hpc:=Hb5.out.cell;have HL:=G (xg w5.heap.size g w3.heap.size w.heap.size (fx r.tail).t r.tail.tail.tail en w5 HP5.out Hb5.out HF5.out (an _) (by omega) (by omega) (by omega) HF5.out.lt Hb5.out.lt hrp);clear h1 h2 HP4)|(go_at_call 102;refine HL.out.mono ?_;intro e w6 hh;obtain⟨hF,rfl,hPA,C,i,j,hX,hR⟩:=hh;have hz5:=HF5.out.lt;have HQ6:=G (Fr.grown HQ5.out hF (an _) (by omega));have HG6:=G (Fr.grown HG5.out hF (by omega) (by omega));have HF6:=G hX;have HP6:=G hPA;have HN6:=G (hR.mono (Q:=fun b=>w3.heap.size<b) (fun b hb _=>by omega));have Hb6:=G (Hb3.out.grown HQ6.out (fun e=>hbg (aw e)));clear hpc;have hpc:=Hb6.out.cell;clear hF hPA hX hR HP5 HL)|(go_at_call 104;refine(hbl en _ g HP6.out).mono ?_;intro e w7 hh;obtain⟨hG,D,i2,j2,rfl,hR,hPA⟩:=hh;have hz6:=HF6.out.lt;have hz7:=hG.size;have HQ7:=G (br HQ6.out hG);have HG7:=G (br HG6.out hG);have HF7:=G (HF6.out.grown hG (fun e=>hfg (aw e)));have hs:=e_ w7 w3.heap.size 2 (.slice D i2 j2);have HQ8:=G (eq HQ7.out hs (an _));have HG8:=G (eq HG7.out hs (by omega));have hf8:=HF7.out.set 2 (.slice D i2 j2);simp only[bE,cR,de]at hf8;have HF8:=G hf8;have HV8:=G (FV.ok.keep (p:=⟨⟨(fx r.tail).t,[],bd⟩, .slice C i j, .slice D i2 j2⟩) (P:=fun b=>w3.heap.size<b) (w:=w7) ⟨HN6.out.keep (.of_grown hG fun b hb e=>by injection e with e;omega) (fun _ hb _=>hb),hR.mono (fun b hb _=>by omega)⟩ (.of_grown hs fun b hb e=>by injection e with e;omega) (fun _ hb _=>hb));have HP8:=G (hPA.grown hs (fun k e=>by injection e with e;omega));have HO8:=G (HO3.out.grown HQ8.out (fun k e=>by injection e with e;omega));have HS8:=G (HS3.out.grown HQ8.out (fun e=>hsg (aw e)));have hfc7:=HF7.out.cell;have hff7:=HF7.out.frozen;have hsc:=HS8.out.cell;have hsf:=HS8.out.frozen;clear hG hs hf8 hR hPA HP6)|(at_builtin;have hE:=O (w7.setCell ⟨w3.heap.size,2,none⟩ (.slice D i2 j2)) (.cells #[.string (ag (fx r.tail).t), .slice C i j, .slice D i2 j2] 59);have hrow:=World.ownsRow.lt HO8.out.2.1;have hrow1:=World.ownsRow.lt HO8.out.1;have hrw:=fun k hk=>(hrow k hk).1;have hO9:=HO8.out.grown (hE.grownBy none) (fun k e=>by cases e);have hlow: ∀k,Value.ownBlock (.slice B m d)=some k->k<w3.heap.size:=(fun k hk=>(World.ownsRow.lt HO3.out.2.1 k hk).2);have hlow1: ∀k,Value.ownBlock (.slice A n c)=some k->k<w3.heap.size:=(fun k hk=>(World.ownsRow.lt HO3.out.1 k hk).2);have hV9:=HV8.out.keep (.of_ext hE) (Q:=fun b=>w.heap.size+3<=b/\some b≠Value.ownBlock (.slice A n c)/\some b≠Value.ownBlock (.slice B m d)) (fun b hb _=>⟨by omega,fun e=>by have:=hlow1 b e.symm;omega,fun e=>by have:=hlow b e.symm;omega⟩);have hN9:=ax (w7.setCell ⟨w3.heap.size,2,none⟩ (.slice D i2 j2)) 59 #[.string (ag (fx r.tail).t), .slice C i j, .slice D i2 j2];rw[show(w7.setCell ⟨w3.heap.size,2,none⟩ (.slice D i2 j2)).heap.size=w7.heap.size from(by simp[World.setCell])]at hN9;have hG9:=br HG8.out (hE.grownBy (some g));have hz9:=hG9.size;refine ec CG rfl _ _ rfl (w.heap.size+3) _ m (fD fs) rfl (by have:=hO9.2.1;rw[hm]at this;exact this) _ (p7 ⟨⟨(fx r.tail).t,[],bd⟩, .slice C i j, .slice D i2 j2⟩) rfl hN9 rfl (by intro u hu;simp only[p7,em,dB,or_false]at hu;rcases hu with rfl|rfl|rfl<;>rfl) (by omega) (by decide) (by have:=HS8.out.lt;rw[World.size_alloc];omega) ?_;intro A' cap' w9 hq1 hq2 hq3;have HO9:=G (hO9.snocF hV9 hm hq1 hq2 hq3);have hS9:=(HS8.out.ext hE).grown hq2 (fun e=>by have:=hrw _ e.symm;omega);have hb9:=((Hb3.out.grown HQ8.out (fun e=>hbg (aw e))).ext hE).grown hq2 (fun e=>by have:=hrw _ e.symm;omega);have hB9:=((HB3.out.grown HQ8.out (fun e=>hrg (aw e))).ext hE).grown hq2 (fun e=>by have:=hrw _ e.symm;omega);have hP9:=(HP8.out.ext hE).grown hq2 (fun k e=>by have:=hrw k e;omega);have HG9:=G (show w.grownBy w9 (some g)from⟨hq2.os.trans hG9.os,hq2.tape.trans hG9.tape,hq2.output.trans hG9.output,a_ hG9.size hq2.size,fun i hi hne=>(hq2.block i (aF hi hG9.size) (fun e=>by have:=hrw i e.symm;omega)).trans (hG9.block i hi hne)⟩);have HS9:=G hS9;have Hb9:=G hb9;have HB9:=G hB9;have HP9:=G hP9;clear hsc hsf;have hsc:=hS9.cell;have hsf:=hS9.frozen;clear hq1 hq2 hq3 hE hrow hrow1 hrw hO9 hlow hlow1 hV9 hN9 hG9 hS9 hb9 hB9 hP9));have hs:=e_ w9 (w.heap.size+2) 1 (.slice (some ⟨A',0,none⟩) (m+1) cap');have hs9:=HS9.out.set 1 (.slice (some ⟨A',0,none⟩) (m+1) cap');simp only[bE,cR,de]at hs9;have HON:=G (HO9.out.grown hs (fun k e=>by injection e with e;omega));have HPN:=G (HP9.out.grown hs (fun k e=>by injection e with e;omega));have HbN:=G (Hb9.out.grown hs (fun e=>by injection e with e;omega));have HBN:=G (HB9.out.grown hs (fun e=>by injection e with e;omega));have HGN:=G (eq HG9.out hs (by omega));have HSN:=G hs9;go_roundw
   case rel=>exact⟨vs,fs++[⟨⟨(fx r.tail).t,[],bd⟩, .slice C i j, .slice D i2 j2⟩],q,A,n,c,some ⟨A',0,none⟩,m+1,cap',hn0,by simp[hm],by omega,G (by rw[fY,hff];exact HN.out),HPN,HbN,HBN,HSN,HON,HGN⟩
   case measure=>rw[HPNr.out.tokN,HPN.out.tokN];omega
end
section
open Go.RowKit
theorem pG {s:List UInt8} {ts:List db} {at_:Int} {p:Pg} (hR:jq s=(ts,at_,0)) (hS:wA p [] [] ts) (hlen:ts.length<=100) (hokk:fa p=true) (hwp:jS p<=6000000) (w:World) (hz:EZ w) (ht:dn w w.heap.size):Calls prog 32 #[.string (ag s)] w (wm w (p,0,0)):=by
 have hmf: ∀(fn:Fn) (first cap:Array Value) (w:World),(Instr.makeFunc fn first cap).run prog w= .ok (.func fn first cap) w:=fun _ _ _ _=>rfl;have hsz:(ag s).size=s.length:=aL s;have HW0:=G (yQ w (.slice none 0 0) (.slice none 0 0) (.int .i64 0) (.int .i64 0))
 have HTK:=G (show ∀W,EZ W->Calls prog 58 #[.string (ag s)] W (fun e w'=> ∃A c,e= .returned (.tuple #[.slice A ts.length c, .int .i64 at_, .int .i64 0])/\fU w' W.heap.size 206 (.slice A ts.length c) ts/\au W w')from
  fun W h=>by
   have:=qv s W h;rw[hR]at this
   exact this.mono (fun e w' ⟨⟨A,c,h1,h2⟩,h3⟩=>⟨A,c,h1,h2,h3⟩))
 have HZ:=G hz;have HT:=G ht;have HPS:=G (fun(en:Int) (w:World) (g:Nat) (h:PA w g ts en)=>xf p ts hS hlen en w g h)
 have HVD:=G (show ∀(P:Nat->Prop) (W:World) (A B:Option Addr) (n c m d:Nat),fH W P (.slice A n c) p.vs->fO W P (.slice B m d) p.fs->dn W W.heap.size->Calls prog 35 #[.agg #[.slice A n c, .slice B m d]] W fun e w'=>e= .returned (.bool true)/\au W w' from
  fun P W A B n c m d h1 h2 h3=>hokk▸rB p hwp P W A B n c m d h1 h2 h3)
 clear hz ht hR hS hokk hwp;generalize s.length=sl at*;go_enter_defers func32,ntmps32;go_wp2_with (first|(go_at_call 58;refine(HTK.out _ (HZ.out.ext HW0.out.e)).mono ?_;rintro e w1 ⟨A,c,rfl,hO,hE⟩;have HW1:=G (HW0.out.ex hE);have c1:=HW1.out.b1.cell;have z1:=HW1.out.b1.frozen;have c2:=HW1.out.b2.cell;have z2:=HW1.out.b2.frozen;have HPA:=G (yZ (a:= .int .i64 at_) (b:= .int .i64 0) (sl:Int) HW1.out hO (by have:=HW0.out.lt;omega));have HW5:=G (((HW1.out.put1 (.int .i64 at_)).put2 (.int .i64 0)).ex (O _ (.cells #[.slice A ts.length c, .int .i64 sl] 155)));have hgl:=HW1.out.lt;clear hE hO HTK HZ HW0 HW1)|(go_at_call 60;refine(HPS.out (sl:Int) _ _ HPA.out).mono ?_;intro e w3 hh;obtain⟨hG,A2,n2,cc2,B2,m2,dd2,he,hV,hF⟩:=hh;subst he;have HW3:=G (HW5.out.grown hG hgl);have hs5:=HW5.out.lt;have HW4:=G (HW3.out.put0 (.slice A2 n2 cc2) (.slice B2 m2 dd2));have HV4:=G ((hV.keep (Q:=fun b=>w.heap.size+1+1<b) ⟨an _,fun _ _ _=>rfl⟩ (fun b hb _=>aF hs5 hb)).keep (Q:=fun b=>w.heap.size+1+1<b) (vC (.slice A2 n2 cc2) (.slice B2 m2 dd2)) (fun _ hb _=>hb));have HF4:=G ((hF.keep (Q:=fun b=>w.heap.size+1+1<b) ⟨an _,fun _ _ _=>rfl⟩ (fun b hb _=>aF hs5 hb)).keep (Q:=fun b=>w.heap.size+1+1<b) (vC (.slice A2 n2 cc2) (.slice B2 m2 dd2)) (fun _ hb _=>hb));have c0:=HW3.out.b0.cell;have z0:=HW3.out.b0.frozen;clear hG HPA HW5 hV hF hs5 HW3)|(go_at_call 35;refine(HVD.out _ _ _ _ _ _ _ _ HV4.out HF4.out (fh HT.out HW4.out.e)).mono ?_;rintro e w5 ⟨rfl,hE⟩;clear c0 z0;have HW6:=G (HW4.out.ex hE);have HV6:=G (HV4.out.keep (.of_ext hE) (Q:=fun b=>w.heap.size+1+1<b) (fun _ hb _=>hb));have HF6:=G (HF4.out.keep (.of_ext hE) (Q:=fun b=>w.heap.size+1+1<b) (fun _ hb _=>hb));have c0:=HW6.out.b0.cell;have z0:=HW6.out.b0.frozen;have c1:=HW6.out.b1.cell;have z1:=HW6.out.b1.frozen;have c2:=HW6.out.b2.cell;have z2:=HW6.out.b2.frozen;clear hE HV4 HF4 HW4 HVD HT));have HW7:=G (((HW6.out.put0 (.slice A2 n2 cc2) (.slice B2 m2 dd2)).put1 (.int .i64 0)).put2 (.int .i64 0));have HV7:=G (HV6.out.keep (Q:=fun b=>w.heap.size<=b) (vD (.slice A2 n2 cc2) (.slice B2 m2 dd2) (.int .i64 0) (.int .i64 0)) (fun b hb _=>by omega));have HF7:=G (HF6.out.keep (Q:=fun b=>w.heap.size<=b) (vD (.slice A2 n2 cc2) (.slice B2 m2 dd2) (.int .i64 0) (.int .i64 0)) (fun b hb _=>by omega));refine leaves_cons (f:=59) (args:= #[.pointer (some ⟨w.heap.size,0,none⟩), .pointer (some ⟨w.heap.size+1,0,none⟩), .pointer (some ⟨w.heap.size+1+1,0,none⟩)]) (by simp) (by simp[go_sem]) ?_;refine(rt _ _ _ _).mono ?_;rintro e u' w8 ⟨rfl,rfl,rfl⟩;have d0:=HW7.out.b0.cell;have d1:=HW7.out.b1.cell;have d2:=HW7.out.b2.cell;refine(show Leaves _ _ _ _ [] .returning _ from ?_);refine⟨.tuple #[.agg #[.slice A2 n2 cc2, .slice B2 m2 dd2], .int .i64 0, .int .i64 0],?_,⟨HW7.out.e,_,_,_,_,_,_,rfl,HV7.out,HF7.out⟩⟩;simp[results,results32,go_sem,d0,d1,d2]
end
section
open Go.RowKit
theorem CS:wA j' [] [] Ad:=
 .fn rfl rfl rfl rfl rfl (pH rfl rfl (yT rfl rfl rfl rfl rfl (oA _ _ _ _ _ _ _ rfl) rfl) rfl (by decide) (by decide)) (by decide) .done
theorem CQ:wA js [] [] Aa:=
 .var rfl (yR rfl rfl rfl (by decide) (by decide) rfl rfl) (by decide) (.fn rfl rfl rfl rfl rfl (pH rfl rfl (yS rfl rfl rfl rfl (yU rfl rfl rfl (oA _ _ _ _ _ _ _ rfl) rfl rfl (oA _ _ _ _ _ _ _ rfl)) rfl) rfl (by decide) (by decide)) (by decide) .done)
def zH (p:Pg) (w:World) (e:Ending) (w':World):Prop:=au w w'/\ ∃A n c B m d,e= .returned (.tuple #[.agg #[.slice A n c, .slice B m d], .int .i64 0, .int .i64 0])/\fH w' (fun _=>True) (.slice A n c) p.vs/\fO w' (fun _=>True) (.slice B m d) p.fs
theorem AA {s:List UInt8} {p:Pg} {w:World} (h:Calls prog 32 #[.string (ag s)] w (wm w (p,0,0))):Calls prog 32 #[.string (ag s)] w (zH p w):=by
 refine h.mono fun e w' hh=> ?_;obtain⟨hE,A,n,c,B,m,d,he,hV,hF⟩:=hh;exact⟨hE,A,n,c,B,m,d,he,hV.keep (.of_ext (.refl _)) (fun _ _ _=>trivial),hF.keep (.of_ext (.refl _)) (fun _ _ _=>trivial)⟩
theorem yX (w:World) (hz:EZ w) (ht:dn w w.heap.size):Calls prog 32 #[.string (ag Ae)] w (zH j' w):=AA (pG uj CS (by decide) uk xY w hz ht)
theorem yW (w:World) (hz:EZ w) (ht:dn w w.heap.size):Calls prog 32 #[.string (ag Ac)] w (zH js w):=AA (pG uh CQ (by decide) ui xX w hz ht)
end
end Go.Proofs.YtddomeddabfinaaGreatDoor
