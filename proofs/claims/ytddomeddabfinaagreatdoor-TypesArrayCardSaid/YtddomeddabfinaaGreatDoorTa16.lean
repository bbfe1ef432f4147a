/-
  Parts of the proof: VaE VaF.
-/
import Derived.Test.YtddomeddabfinaaGreatDoorTa00
import Derived.Test.YtddomeddabfinaaGreatDoorTa02
import Derived.Test.YtddomeddabfinaaGreatDoorTa15
set_option maxRecDepth 100000
set_option maxHeartbeats 8000000
set_option linter.unusedVariables false
set_option linter.unusedSimpArgs false
set_option linter.unusedSectionVars false
namespace Go.Proofs.YtddomeddabfinaaGreatDoor
open Go.Proofs.Tryz
section
open Go.RowKit
def qd (w:World) (A:Option Addr) (n c:Nat) (r:Bool):Prop:= ∀w',au w w'->Calls prog 113 #[.slice A n c, .func (Fn.func 154) #[] #[]] w' fun e w''=>e= .returned (.bool (!r))/\au w' w''
theorem aQ.new2 (w:World) (o:Obj) (t:TypeId) (cs:Array Value):aQ ((w.alloc o).alloc (.cells cs t)) (w.heap.size+1) t cs:=by
 have:=am (w.alloc o) t cs;rwa [World.size_alloc]at this
def UW (p:Nat) (t:TypeId) (c0 c1:Array Value) (a b:World):Prop:=a.grownBy b (some p)/\(aQ a p t c0->aQ b p t c0\/aQ b p t c1)/\(aQ a p t c1->aQ b p t c1)
theorem UW.refl (p:Nat) (t:TypeId) (c0 c1:Array Value) (a:World):UW p t c0 c1 a a:=⟨World.grownBy.refl a _, .inl,id⟩
theorem UW.trans (p:Nat) (t:TypeId) (c0 c1:Array Value) (a b c:World) (h:UW p t c0 c1 a b) (k:UW p t c0 c1 b c):UW p t c0 c1 a c:=⟨ak h.1 k.1,fun x=>(h.2.1 x).elim k.2.1 (fun y=> .inr (k.2.2 y)),fun x=>k.2.2 (h.2.2 x)⟩
theorem UW.of_ext {p:Nat} {t:TypeId} {c0 c1:Array Value} {a b:World} (h:au a b):UW p t c0 c1 a b:=⟨h.grownBy _,fun x=> .inl (x.ext h),fun x=>x.ext h⟩
theorem UW.store {p:Nat} {t:TypeId} {c0 c1:Array Value} {a b:World} (h:UW p t c0 c1 a b) (hb:aQ a p t c0) (f:Nat) (v z:Value) (h0:c0.setIfInBounds f v=c1) (h1:c1.setIfInBounds f v=c1) (hz:c0[f]? =some z) (hz1:c1[f]? =some v):
  (∃u,b.cell? ⟨p,f,none⟩=some u)/\b.frozen? ⟨p,f,none⟩=false/\UW p t c0 c1 a (b.setCell ⟨p,f,none⟩ v)/\aQ (b.setCell ⟨p,f,none⟩ v) p t c1:=by
 have hc1:aQ (b.setCell ⟨p,f,none⟩ v) p t c1:=by
  rcases h.2.1 hb with k|k
  ·have:=k.set f v;rwa [h0]at this
  ·have:=k.set f v;rwa [h1]at this
 refine⟨?_,?_,⟨ak h.1 (et _ _ _ _),fun _=> .inr hc1,fun _=>hc1⟩,hc1⟩
 ·rcases h.2.1 hb with k|k
  ·exact⟨z,(k.cell f).trans hz⟩
  ·exact⟨v,(k.cell f).trans hz1⟩
 ·rcases h.2.1 hb with k|k<;>exact k.frozen f
def p7 (k:Nat):Code->Code
 | .seq (.region i o d) b=>if i=k then .seq (.region i o d) b else p7 k b
 | .seq _ b=>p7 k b
 |c=>c
theorem iM (px pw:Nat) (k v wv ar:Int) (op nm tx wop wnm wtx:List UInt8) (A:Option Addr) (n c:Nat) (b r:Bool) (w W:World) (hE:au w W) (hB:aQ W px 70 #[.int .i64 k, .string (ah op), .string (ah nm), .string (ah tx), .int .i64 v, .slice A n c]) (hW:aQ W pw 70 #[.int .i64 k, .string (ah wop), .string (ah wnm), .string (ah wtx), .int .i64 wv, .slice none 0 0])
  (hC:qd w A n c r) (R:Bool) (hR:(b&&(op==wop&&nm==wnm&&tx==wtx&&v==wv)&&decide ((n:Int)=ar)&&r)=R) (u0 u2 u6 u7 u8 u9 u10 u11 u12 u13 u14 u15 u16 u17 u18 u19 u20 u21 u22 u23 u24 u25 u26 u27 u28 u29 u30 u31 u32 u33 u34 u35 u36 u37 u38 u39 u40 u41 u42 u43 u44 u45 u46 u47 u48 u49 u50 u51 u52 u53 u54 u55 u56 u57 u58 u59 u60 u61 u62 u63 u64 u65 u66 u67 u68 u69 u70 u71 u72 u73 u74 u75 u76 u77 u78 u79 u80 u81 u82 u83 u84 u85 u86 u87 u88 u89 u90 u91 u92 u93 u94 u95 u96 u97 u98 u99 u100 u101 u102 u103 u104 u105 u106 u107 u108 u109 u110 u111 u112 u113 u114 u115 u116 u117 u118 u119 u120 u121 u122 u123 u124 u125 u126 u127 u128 u129 u130:Value):
  Code.wp prog (p7 18 (Tryz.f115.body.getD .skip)) (bodyPost prog Tryz.f115 fun e w'=>e= .returned (.bool R)/\au w w') {tmps:= #[u0, .pointer (some ⟨px,0,none⟩),u2, .pointer (some ⟨pw,0,none⟩), .bool b, .int .i64 ar,u6,u7,u8,u9,u10,u11,u12,u13,u14,u15,u16,u17,u18,u19,u20,u21,u22,u23,u24,u25,u26,u27,u28,u29,u30,u31,u32,u33,u34,u35,u36,u37,u38,u39,u40,u41,u42,u43,u44,u45,u46,u47,u48,u49,u50,u51,u52,u53,u54,u55,u56,u57,u58,u59,u60,u61,u62,u63,u64,u65,u66,u67,u68,u69,u70,u71,u72,u73,u74,u75,u76,u77,u78,u79,u80,u81,u82,u83,u84,u85,u86,u87,u88,u89,u90,u91,u92,u93,u94,u95,u96,u97,u98,u99,u100,u101,u102,u103,u104,u105,u106,u107,u108,u109,u110,u111,u112,u113,u114,u115,u116,u117,u118,u119,u120,u121,u122,u123,u124,u125,u126,u127,u128,u129,u130],defers:=[]} W:=by
 have HX:=G hE;have HC:=G hC;have HR:=G hR;have hbc:=hB.cell;have hwc:=hW.cell;clear hE hC hB hW hR
 conv=>arg 2;whnf
 cases h1:(op==wop)with
 |false=>
  cases b<;>(have e0:R=false:=(by rw[<-HR.out,h1];simp);go_wp2_with fail;go_ret;exact⟨by rw[e0];rfl,HX.out⟩)
 |true=>
  cases h2:(nm==wnm)with
  |false=>
   cases b<;>(have e0:R=false:=(by rw[<-HR.out,h1,h2];simp);go_wp2_with fail;go_ret;exact⟨by rw[e0];rfl,HX.out⟩)
  |true=>
   cases h3:(tx==wtx)with
   |false=>
    cases b<;>(have e0:R=false:=(by rw[<-HR.out,h1,h2,h3];simp);go_wp2_with fail;go_ret;exact⟨by rw[e0];rfl,HX.out⟩)
   |true=>
    cases h4:(v==wv)with
    |false=>
     cases b<;>(have e0:R=false:=(by rw[<-HR.out,h1,h2,h3,h4];simp);go_wp2_with fail;go_ret;exact⟨by rw[e0];rfl,HX.out⟩)
    |true=>
     cases b with
     |false=>(have e0:R=false:=(by rw[<-HR.out,h1,h2,h3,h4];simp);go_wp2_with fail;go_ret;exact⟨by rw[e0];rfl,HX.out⟩)
     |true=>
      by_cases h5:(n:Int)=ar
      ·subst h5;have e0:R=r:=by rw[<-HR.out];simp[h1,h2,h3,h4]
       go_wp2_with (refine(HC.out _ HX.out).mono ?_;rintro e w4 ⟨rfl,hE⟩;have HY:=G (HX.out.trans hE);clear hE);go_ret;exact⟨by rw[e0];rfl,HY.out⟩
      ·have h6:((n:Int)==ar)=false:=beq_eq_false_iff_ne.2 h5;have e0:R=false:=by rw[<-HR.out,decide_eq_false h5];simp
       go_wp2_with fail;go_ret;exact⟨by rw[e0];rfl,HX.out⟩
theorem C4 (op nm tx:List UInt8) (v:Int) (w:World) (A:Option Addr) (n c:Nat) (hn:n<=1073741824) (r:Bool) (hC:qd w A n c r) (hl:nm.length<=1073741824):
  Calls prog 115 #[.agg #[.int .i64 3, .string (ah op), .string (ah nm), .string (ah tx), .int .i64 v, .slice A n c]] w fun e w'=>e= .returned (.bool (dx nm&&(op==[]&&nm==nm&&tx==[]&&v==0)&&decide ((n:Int)=0)&&r))/\au w w':=by
 have hn':(n:Int)<=1073741824:=by omega
 have hne:w.heap.size≠w.heap.size+1:=by omega
 have HB:=G ((am w 70 #[.int .i64 3, .string (ah op), .string (ah nm), .string (ah tx), .int .i64 v, .slice A n c]).ext (I _ (.cells #[.int .i64 3, .string ⟨#[]⟩, .string ⟨#[]⟩, .string ⟨#[]⟩, .int .i64 0, .slice none 0 0] 70)));have HW:=G (aQ.new2 w (.cells #[.int .i64 3, .string (ah op), .string (ah nm), .string (ah tx), .int .i64 v, .slice A n c] 70) 70 #[.int .i64 3, .string ⟨#[]⟩, .string ⟨#[]⟩, .string ⟨#[]⟩, .int .i64 0, .slice none 0 0]);have HE0:=G ((I w (.cells #[.int .i64 3, .string (ah op), .string (ah nm), .string (ah tx), .int .i64 v, .slice A n c] 70)).trans (I _ (.cells #[.int .i64 3, .string ⟨#[]⟩, .string ⟨#[]⟩, .string ⟨#[]⟩, .int .i64 0, .slice none 0 0] 70)));have HC:=G hC;clear hC;have HI:=G (cP nm hl);generalize dx nm=b at*;generalize hR:(_&& _&& _&& _:Bool)=R;have HR:=G hR;clear hR;go_enter func115,ntmps115;go_wp2_with fail;refine ci (UW (w.heap.size+1) 70 #[.int .i64 3, .string ⟨#[]⟩, .string ⟨#[]⟩, .string ⟨#[]⟩, .int .i64 0, .slice none 0 0] #[.int .i64 3, .string ⟨#[]⟩, .string (ah nm), .string ⟨#[]⟩, .int .i64 0, .slice none 0 0]) (UW.refl _ _ _ _) (UW.trans _ _ _ _) 6 3 [(4,fun v=>v= .bool b,fun _ _=>True)] [] mixed (by kernel_rfl) (by kernel_rfl) (by kernel_rfl) (by rfl) ⟨fun _ _ _ _ _=>trivial,trivial⟩ ?_;repeat (first|(refine bP (by rfl) ?_;simp only[aY,aX,aW,aV,aU])|(refine sx ?_ (fun w1 hU=> ?_) ?_;rotate_left;(focus have f1:=(HB.out.grown (aE hU.1) (fun e=>hne (O e))).cell;clear hU;go_simp<;>with_reducible rfl);simp only[aY,aX,aW,aV,aU]))
 refine so (fun w6 hU hp K hK=> ?_) ?_
 ·clear hp hU;go_simp;refine(HI.out w6).mono ?_;rintro e w7 ⟨rfl,rfl⟩;exact hK _ _ (UW.refl _ _ _ _ _) rfl trivial
 rintro _ rfl;simp only[aY,aX,aW,aV,aU];repeat (first|(refine bP (by rfl) ?_;simp only[aY,aX,aW,aV,aU])|(refine sx ?_ (fun w1 hU=> ?_) ?_;rotate_left;(focus have f1:=(HB.out.grown (aE hU.1) (fun e=>hne (O e))).cell;clear hU;go_simp<;>with_reducible rfl);simp only[aY,aX,aW,aV,aU]))
 intro w2 hw2 hp;clear hp;simp only[aa,an];obtain⟨⟨z,hz⟩,hzf,hU,hW3⟩:=hw2.store HW.out 2 (.string (ah nm)) (.string ⟨#[]⟩) rfl rfl rfl rfl;have HU:=G hU;have HW3:=G hW3;have HB3:=G (HB.out.grown (aE hU.1) (fun e=>hne (O e)));have HX:=G (HE0.out.grown (aE hU.1) (fun k e=>by injection e with e;omega));clear hw2 hU hW3 HB HW;refine aI (by rfl) (by simp) (fun K hK=> ?_);go_simp;refine hK _ _ HU.out ?_;clear hK hz hzf;refine aI (by rfl) (by simp) (fun K hK=> ?_);go_simp;refine hK _ _ HU.out ?_;clear hK;refine cr ?_;rename_i Q1 K1 hK1 J0;refine hK1 _ _ (iM _ _ 3 v 0 _ op nm tx [] nm [] A n c _ r w _ HX.out HB3.out HW3.out HC.out R HR.out _ _ _ _ _ _ _ _ _ _ _ _ _ _ _ _ _ _ _ _ _ _ _ _ _ _ _ _ _ _ _ _ _ _ _ _ _ _ _ _ _ _ _ _ _ _ _ _ _ _ _ _ _ _ _ _ _ _ _ _ _ _ _ _ _ _ _ _ _ _ _ _ _ _ _ _ _ _ _ _ _ _ _ _ _ _ _ _ _ _ _ _ _ _ _ _ _ _ _ _ _ _ _ _ _ _ _ _ _ _ _ _ _ _ _ _ _ _ _ _ _ _ _ _ _ _ _)
theorem C1 (op nm tx:List UInt8) (v:Int) (w:World) (A:Option Addr) (n c:Nat) (hn:n<=1073741824) (r:Bool) (hC:qd w A n c r) (hl:nm.length<=1073741824):
  Calls prog 115 #[.agg #[.int .i64 4, .string (ah op), .string (ah nm), .string (ah tx), .int .i64 v, .slice A n c]] w fun e w'=>e= .returned (.bool (dx nm&&(op==[]&&nm==nm&&tx==[]&&v==0)&&decide ((n:Int)=1)&&r))/\au w w':=by
 have hn':(n:Int)<=1073741824:=by omega
 have hne:w.heap.size≠w.heap.size+1:=by omega
 have HB:=G ((am w 70 #[.int .i64 4, .string (ah op), .string (ah nm), .string (ah tx), .int .i64 v, .slice A n c]).ext (I _ (.cells #[.int .i64 4, .string ⟨#[]⟩, .string ⟨#[]⟩, .string ⟨#[]⟩, .int .i64 0, .slice none 0 0] 70)));have HW:=G (aQ.new2 w (.cells #[.int .i64 4, .string (ah op), .string (ah nm), .string (ah tx), .int .i64 v, .slice A n c] 70) 70 #[.int .i64 4, .string ⟨#[]⟩, .string ⟨#[]⟩, .string ⟨#[]⟩, .int .i64 0, .slice none 0 0]);have HE0:=G ((I w (.cells #[.int .i64 4, .string (ah op), .string (ah nm), .string (ah tx), .int .i64 v, .slice A n c] 70)).trans (I _ (.cells #[.int .i64 4, .string ⟨#[]⟩, .string ⟨#[]⟩, .string ⟨#[]⟩, .int .i64 0, .slice none 0 0] 70)));have HC:=G hC;clear hC;have HI:=G (cP nm hl);generalize dx nm=b at*;generalize hR:(_&& _&& _&& _:Bool)=R;have HR:=G hR;clear hR;go_enter func115,ntmps115;go_wp2_with fail;refine ci (UW (w.heap.size+1) 70 #[.int .i64 4, .string ⟨#[]⟩, .string ⟨#[]⟩, .string ⟨#[]⟩, .int .i64 0, .slice none 0 0] #[.int .i64 4, .string ⟨#[]⟩, .string (ah nm), .string ⟨#[]⟩, .int .i64 0, .slice none 0 0]) (UW.refl _ _ _ _) (UW.trans _ _ _ _) 6 3 [(4,fun v=>v= .bool b,fun _ _=>True)] [] mixed (by kernel_rfl) (by kernel_rfl) (by kernel_rfl) (by rfl) ⟨fun _ _ _ _ _=>trivial,trivial⟩ ?_;repeat (first|(refine bP (by rfl) ?_;simp only[aY,aX,aW,aV,aU])|(refine sx ?_ (fun w1 hU=> ?_) ?_;rotate_left;(focus have f1:=(HB.out.grown (aE hU.1) (fun e=>hne (O e))).cell;clear hU;go_simp<;>with_reducible rfl);simp only[aY,aX,aW,aV,aU]))
 refine so (fun w6 hU hp K hK=> ?_) ?_
 ·clear hp hU;go_simp;refine(HI.out w6).mono ?_;rintro e w7 ⟨rfl,rfl⟩;exact hK _ _ (UW.refl _ _ _ _ _) rfl trivial
 rintro _ rfl;simp only[aY,aX,aW,aV,aU];repeat (first|(refine bP (by rfl) ?_;simp only[aY,aX,aW,aV,aU])|(refine sx ?_ (fun w1 hU=> ?_) ?_;rotate_left;(focus have f1:=(HB.out.grown (aE hU.1) (fun e=>hne (O e))).cell;clear hU;go_simp<;>with_reducible rfl);simp only[aY,aX,aW,aV,aU]))
 intro w2 hw2 hp;clear hp;simp only[aa,an];obtain⟨⟨z,hz⟩,hzf,hU,hW3⟩:=hw2.store HW.out 2 (.string (ah nm)) (.string ⟨#[]⟩) rfl rfl rfl rfl;have HU:=G hU;have HW3:=G hW3;have HB3:=G (HB.out.grown (aE hU.1) (fun e=>hne (O e)));have HX:=G (HE0.out.grown (aE hU.1) (fun k e=>by injection e with e;omega));clear hw2 hU hW3 HB HW;refine aI (by rfl) (by simp) (fun K hK=> ?_);go_simp;refine hK _ _ HU.out ?_;clear hK hz hzf;refine aI (by rfl) (by simp) (fun K hK=> ?_);go_simp;refine hK _ _ HU.out ?_;clear hK;refine aI (by rfl) (by simp) (fun K hK=> ?_);go_simp;refine hK _ _ HU.out ?_;clear hK;refine cr ?_;rename_i Q1 K1 hK1 J0 J1;refine hK1 _ _ (iM _ _ 4 v 0 _ op nm tx [] nm [] A n c _ r w _ HX.out HB3.out HW3.out HC.out R HR.out _ _ _ _ _ _ _ _ _ _ _ _ _ _ _ _ _ _ _ _ _ _ _ _ _ _ _ _ _ _ _ _ _ _ _ _ _ _ _ _ _ _ _ _ _ _ _ _ _ _ _ _ _ _ _ _ _ _ _ _ _ _ _ _ _ _ _ _ _ _ _ _ _ _ _ _ _ _ _ _ _ _ _ _ _ _ _ _ _ _ _ _ _ _ _ _ _ _ _ _ _ _ _ _ _ _ _ _ _ _ _ _ _ _ _ _ _ _ _ _ _ _ _ _ _ _ _)
theorem C5 (op nm tx:List UInt8) (v:Int) (w:World) (A:Option Addr) (n c:Nat) (hn:n<=1073741824) (r:Bool) (hC:qd w A n c r) (hl:tx.length<=1073741824):
  Calls prog 115 #[.agg #[.int .i64 2, .string (ah op), .string (ah nm), .string (ah tx), .int .i64 v, .slice A n c]] w fun e w'=>e= .returned (.bool (pR tx&&(op==[]&&nm==[]&&tx==tx&&v==0)&&decide ((n:Int)=0)&&r))/\au w w':=by
 have hn':(n:Int)<=1073741824:=by omega
 have hne:w.heap.size≠w.heap.size+1:=by omega
 have HB:=G ((am w 70 #[.int .i64 2, .string (ah op), .string (ah nm), .string (ah tx), .int .i64 v, .slice A n c]).ext (I _ (.cells #[.int .i64 2, .string ⟨#[]⟩, .string ⟨#[]⟩, .string ⟨#[]⟩, .int .i64 0, .slice none 0 0] 70)));have HW:=G (aQ.new2 w (.cells #[.int .i64 2, .string (ah op), .string (ah nm), .string (ah tx), .int .i64 v, .slice A n c] 70) 70 #[.int .i64 2, .string ⟨#[]⟩, .string ⟨#[]⟩, .string ⟨#[]⟩, .int .i64 0, .slice none 0 0]);have HE0:=G ((I w (.cells #[.int .i64 2, .string (ah op), .string (ah nm), .string (ah tx), .int .i64 v, .slice A n c] 70)).trans (I _ (.cells #[.int .i64 2, .string ⟨#[]⟩, .string ⟨#[]⟩, .string ⟨#[]⟩, .int .i64 0, .slice none 0 0] 70)));have HC:=G hC;clear hC;have HI:=G (uy tx hl);generalize pR tx=b at*;generalize hR:(_&& _&& _&& _:Bool)=R;have HR:=G hR;clear hR;go_enter func115,ntmps115;go_wp2_with fail;refine ci (UW (w.heap.size+1) 70 #[.int .i64 2, .string ⟨#[]⟩, .string ⟨#[]⟩, .string ⟨#[]⟩, .int .i64 0, .slice none 0 0] #[.int .i64 2, .string ⟨#[]⟩, .string ⟨#[]⟩, .string (ah tx), .int .i64 0, .slice none 0 0]) (UW.refl _ _ _ _) (UW.trans _ _ _ _) 6 3 [(4,fun v=>v= .bool b,fun _ _=>True)] [] mixed (by kernel_rfl) (by kernel_rfl) (by kernel_rfl) (by rfl) ⟨fun _ _ _ _ _=>trivial,trivial⟩ ?_;repeat (first|(refine bP (by rfl) ?_;simp only[aY,aX,aW,aV,aU])|(refine sx ?_ (fun w1 hU=> ?_) ?_;rotate_left;(focus have f1:=(HB.out.grown (aE hU.1) (fun e=>hne (O e))).cell;clear hU;go_simp<;>with_reducible rfl);simp only[aY,aX,aW,aV,aU]))
 refine so (fun w6 hU hp K hK=> ?_) ?_
 ·clear hp hU;go_simp;refine(HI.out w6).mono ?_;rintro e w7 ⟨rfl,hE⟩;exact hK _ _ (UW.of_ext hE) rfl trivial
 rintro _ rfl;simp only[aY,aX,aW,aV,aU];repeat (first|(refine bP (by rfl) ?_;simp only[aY,aX,aW,aV,aU])|(refine sx ?_ (fun w1 hU=> ?_) ?_;rotate_left;(focus have f1:=(HB.out.grown (aE hU.1) (fun e=>hne (O e))).cell;clear hU;go_simp<;>with_reducible rfl);simp only[aY,aX,aW,aV,aU]))
 intro w2 hw2 hp;clear hp;simp only[aa,an];obtain⟨⟨z,hz⟩,hzf,hU,hW3⟩:=hw2.store HW.out 3 (.string (ah tx)) (.string ⟨#[]⟩) rfl rfl rfl rfl;have HU:=G hU;have HW3:=G hW3;have HB3:=G (HB.out.grown (aE hU.1) (fun e=>hne (O e)));have HX:=G (HE0.out.grown (aE hU.1) (fun k e=>by injection e with e;omega));clear hw2 hU hW3 HB HW;refine aI (by rfl) (by simp) (fun K hK=> ?_);go_simp;refine hK _ _ HU.out ?_;clear hK hz hzf;refine aI (by rfl) (by simp) (fun K hK=> ?_);go_simp;refine hK _ _ HU.out ?_;clear hK;refine cr ?_;rename_i Q1 K1 hK1 J0;refine hK1 _ _ (iM _ _ 2 v 0 _ op nm tx [] [] tx A n c _ r w _ HX.out HB3.out HW3.out HC.out R HR.out _ _ _ _ _ _ _ _ _ _ _ _ _ _ _ _ _ _ _ _ _ _ _ _ _ _ _ _ _ _ _ _ _ _ _ _ _ _ _ _ _ _ _ _ _ _ _ _ _ _ _ _ _ _ _ _ _ _ _ _ _ _ _ _ _ _ _ _ _ _ _ _ _ _ _ _ _ _ _ _ _ _ _ _ _ _ _ _ _ _ _ _ _ _ _ _ _ _ _ _ _ _ _ _ _ _ _ _ _ _ _ _ _ _ _ _ _ _ _ _ _ _ _ _ _ _ _)
theorem CY (op nm tx:List UInt8) (v:Int) (w:World) (A:Option Addr) (n c:Nat) (hn:n<=1073741824) (r:Bool) (hC:qd w A n c r):
  Calls prog 115 #[.agg #[.int .i64 7, .string (ah op), .string (ah nm), .string (ah tx), .int .i64 v, .slice A n c]] w fun e w'=>e= .returned (.bool (decide (0<ky op)&&(op==op&&nm==[]&&tx==[]&&v==0)&&decide ((n:Int)=2)&&r))/\au w w':=by
 have hn':(n:Int)<=1073741824:=by omega
 have hne:w.heap.size≠w.heap.size+1:=by omega
 have HB:=G ((am w 70 #[.int .i64 7, .string (ah op), .string (ah nm), .string (ah tx), .int .i64 v, .slice A n c]).ext (I _ (.cells #[.int .i64 7, .string ⟨#[]⟩, .string ⟨#[]⟩, .string ⟨#[]⟩, .int .i64 0, .slice none 0 0] 70)));have HW:=G (aQ.new2 w (.cells #[.int .i64 7, .string (ah op), .string (ah nm), .string (ah tx), .int .i64 v, .slice A n c] 70) 70 #[.int .i64 7, .string ⟨#[]⟩, .string ⟨#[]⟩, .string ⟨#[]⟩, .int .i64 0, .slice none 0 0]);have HE0:=G ((I w (.cells #[.int .i64 7, .string (ah op), .string (ah nm), .string (ah tx), .int .i64 v, .slice A n c] 70)).trans (I _ (.cells #[.int .i64 7, .string ⟨#[]⟩, .string ⟨#[]⟩, .string ⟨#[]⟩, .int .i64 0, .slice none 0 0] 70)));have HC:=G hC;clear hC;have HI:=G (kr op);generalize ky op=L at*;generalize hR:(_&& _&& _&& _:Bool)=R;have HR:=G hR;clear hR;go_enter func115,ntmps115;go_wp2_with fail;refine ci (UW (w.heap.size+1) 70 #[.int .i64 7, .string ⟨#[]⟩, .string ⟨#[]⟩, .string ⟨#[]⟩, .int .i64 0, .slice none 0 0] #[.int .i64 7, .string (ah op), .string ⟨#[]⟩, .string ⟨#[]⟩, .int .i64 0, .slice none 0 0]) (UW.refl _ _ _ _) (UW.trans _ _ _ _) 7 3 [(4,fun x=>x= .int .i64 L,fun _ _=>True)] [5] mixed (by kernel_rfl) (by kernel_rfl) (by kernel_rfl) (by rfl) ⟨fun _ _ _ _ _=>trivial,trivial⟩ ?_;repeat (first|(refine bP (by rfl) ?_;simp only[aY,aX,aW,aV,aU])|(refine sx ?_ (fun w1 hU=> ?_) ?_;rotate_left;(focus have f1:=(HB.out.grown (aE hU.1) (fun e=>hne (O e))).cell;clear hU;go_simp<;>with_reducible rfl);simp only[aY,aX,aW,aV,aU]))
 refine so (fun w6 hU hp K hK=> ?_) ?_
 ·clear hp hU;go_simp;refine(HI.out w6).mono ?_;rintro e w7 ⟨rfl,rfl⟩;exact hK _ _ (UW.refl _ _ _ _ _) rfl trivial
 rintro _ rfl;simp only[aY,aX,aW,aV,aU];repeat (first|(refine bP (by rfl) ?_;simp only[aY,aX,aW,aV,aU])|(refine sx ?_ (fun w1 hU=> ?_) ?_;rotate_left;(focus have f1:=(HB.out.grown (aE hU.1) (fun e=>hne (O e))).cell;clear hU;go_simp<;>with_reducible rfl);simp only[aY,aX,aW,aV,aU]))
 intro w2 hw2 hp;clear hp;simp only[aa,an];obtain⟨⟨z,hz⟩,hzf,hU,hW3⟩:=hw2.store HW.out 1 (.string (ah op)) (.string ⟨#[]⟩) rfl rfl rfl rfl;have HU:=G hU;have HW3:=G hW3;have HB3:=G (HB.out.grown (aE hU.1) (fun e=>hne (O e)));have HX:=G (HE0.out.grown (aE hU.1) (fun k e=>by injection e with e;omega));clear hw2 hU hW3 HB HW;refine aI (by rfl) (by simp) (fun K hK=> ?_);go_simp;refine hK _ _ HU.out ?_;clear hK hz hzf;refine aI (by rfl) (by simp) (fun K hK=> ?_);go_simp;refine hK _ _ HU.out ?_;clear hK;refine aI (by rfl) (by simp) (fun K hK=> ?_);go_simp;refine hK _ _ HU.out ?_;clear hK;refine cr ?_;rename_i Q1 K1 hK1 J0 J1;refine hK1 _ _ (iM _ _ 7 v 0 _ op nm tx op [] [] A n c _ r w _ HX.out HB3.out HW3.out HC.out R HR.out _ _ _ _ _ _ _ _ _ _ _ _ _ _ _ _ _ _ _ _ _ _ _ _ _ _ _ _ _ _ _ _ _ _ _ _ _ _ _ _ _ _ _ _ _ _ _ _ _ _ _ _ _ _ _ _ _ _ _ _ _ _ _ _ _ _ _ _ _ _ _ _ _ _ _ _ _ _ _ _ _ _ _ _ _ _ _ _ _ _ _ _ _ _ _ _ _ _ _ _ _ _ _ _ _ _ _ _ _ _ _ _ _ _ _ _ _ _ _ _ _ _ _ _ _ _ _)
theorem C6 (op nm tx:List UInt8) (v:Int) (w:World) (A:Option Addr) (n c:Nat) (hn:n<=1073741824) (r:Bool) (hC:qd w A n c r):
  Calls prog 115 #[.agg #[.int .i64 1, .string (ah op), .string (ah nm), .string (ah tx), .int .i64 v, .slice A n c]] w fun e w'=>e= .returned (.bool ((decide (0<=v)&&decide (v<=2147483647))&&(op==[]&&nm==[]&&tx==[]&&v==v)&&decide ((n:Int)=0)&&r))/\au w w':=by
 have hn':(n:Int)<=1073741824:=by omega
 have hne:w.heap.size≠w.heap.size+1:=by omega
 have HB:=G ((am w 70 #[.int .i64 1, .string (ah op), .string (ah nm), .string (ah tx), .int .i64 v, .slice A n c]).ext (I _ (.cells #[.int .i64 1, .string ⟨#[]⟩, .string ⟨#[]⟩, .string ⟨#[]⟩, .int .i64 0, .slice none 0 0] 70)));have HW:=G (aQ.new2 w (.cells #[.int .i64 1, .string (ah op), .string (ah nm), .string (ah tx), .int .i64 v, .slice A n c] 70) 70 #[.int .i64 1, .string ⟨#[]⟩, .string ⟨#[]⟩, .string ⟨#[]⟩, .int .i64 0, .slice none 0 0]);have HE0:=G ((I w (.cells #[.int .i64 1, .string (ah op), .string (ah nm), .string (ah tx), .int .i64 v, .slice A n c] 70)).trans (I _ (.cells #[.int .i64 1, .string ⟨#[]⟩, .string ⟨#[]⟩, .string ⟨#[]⟩, .int .i64 0, .slice none 0 0] 70)));have HC:=G hC;clear hC;by_cases h0:0<=v
 ·have hd:decide (0<=v)=true:=decide_eq_true h0;rw[hd,Bool.true_and];generalize hR:(_&& _&& _&& _:Bool)=R;have HR:=G hR;clear hR;go_enter func115,ntmps115;go_wp2_with fail;refine ci (UW (w.heap.size+1) 70 #[.int .i64 1, .string ⟨#[]⟩, .string ⟨#[]⟩, .string ⟨#[]⟩, .int .i64 0, .slice none 0 0] #[.int .i64 1, .string ⟨#[]⟩, .string ⟨#[]⟩, .string ⟨#[]⟩, .int .i64 v, .slice none 0 0]) (UW.refl _ _ _ _) (UW.trans _ _ _ _) 11 3 [] [6,7,8,9] mixed (by kernel_rfl) (by kernel_rfl) (by kernel_rfl) (by rfl) trivial ?_;repeat (first|(refine bP (by rfl) ?_;simp only[aY,aX,aW,aV,aU])|(refine sx ?_ (fun w1 hU=> ?_) ?_;rotate_left;(focus have f1:=(HB.out.grown (aE hU.1) (fun e=>hne (O e))).cell;clear hU;go_simp<;>with_reducible rfl);simp only[aY,aX,aW,aV,aU]))
  intro w2 hw2 hp;clear hp;simp only[aa,an];obtain⟨⟨z,hz⟩,hzf,hU,hW3⟩:=hw2.store HW.out 4 (.int .i64 v) (.int .i64 0) rfl rfl rfl rfl;have HU:=G hU;have HW3:=G hW3;have HB3:=G (HB.out.grown (aE hU.1) (fun e=>hne (O e)));have HX:=G (HE0.out.grown (aE hU.1) (fun k e=>by injection e with e;omega));clear hw2 hU hW3 HB HW;refine aI (by rfl) (by simp) (fun K hK=> ?_);go_simp;refine hK _ _ HU.out ?_;clear hK hz hzf;refine aI (by rfl) (by simp) (fun K hK=> ?_);go_simp;refine hK _ _ HU.out ?_;clear hK;refine cr ?_;rename_i Q1 K1 hK1 J0;refine hK1 _ _ (iM _ _ 1 v v _ op nm tx [] [] [] A n c _ r w _ HX.out HB3.out HW3.out HC.out R HR.out _ _ _ _ _ _ _ _ _ _ _ _ _ _ _ _ _ _ _ _ _ _ _ _ _ _ _ _ _ _ _ _ _ _ _ _ _ _ _ _ _ _ _ _ _ _ _ _ _ _ _ _ _ _ _ _ _ _ _ _ _ _ _ _ _ _ _ _ _ _ _ _ _ _ _ _ _ _ _ _ _ _ _ _ _ _ _ _ _ _ _ _ _ _ _ _ _ _ _ _ _ _ _ _ _ _ _ _ _ _ _ _ _ _ _ _ _ _ _ _ _ _ _ _ _ _ _)
 ·have hd:decide (0<=v)=false:=decide_eq_false h0;rw[hd,Bool.false_and];generalize hR:(_&& _&& _&& _:Bool)=R;have HR:=G hR;clear hR;go_enter func115,ntmps115;go_wp2_with fail;refine ci (UW (w.heap.size+1) 70 #[.int .i64 1, .string ⟨#[]⟩, .string ⟨#[]⟩, .string ⟨#[]⟩, .int .i64 0, .slice none 0 0] #[.int .i64 1, .string ⟨#[]⟩, .string ⟨#[]⟩, .string ⟨#[]⟩, .int .i64 v, .slice none 0 0]) (UW.refl _ _ _ _) (UW.trans _ _ _ _) 11 3 [] [6,7,8,9] mixed (by kernel_rfl) (by kernel_rfl) (by kernel_rfl) (by rfl) trivial ?_;repeat (first|(refine bP (by rfl) ?_;simp only[aY,aX,aW,aV,aU])|(refine sx ?_ (fun w1 hU=> ?_) ?_;rotate_left;(focus have f1:=(HB.out.grown (aE hU.1) (fun e=>hne (O e))).cell;clear hU;go_simp<;>with_reducible rfl);simp only[aY,aX,aW,aV,aU]))
  intro w2 hw2 hp;clear hp;simp only[aa,an];obtain⟨⟨z,hz⟩,hzf,hU,hW3⟩:=hw2.store HW.out 4 (.int .i64 v) (.int .i64 0) rfl rfl rfl rfl;have HU:=G hU;have HW3:=G hW3;have HB3:=G (HB.out.grown (aE hU.1) (fun e=>hne (O e)));have HX:=G (HE0.out.grown (aE hU.1) (fun k e=>by injection e with e;omega));clear hw2 hU hW3 HB HW;refine aI (by rfl) (by simp) (fun K hK=> ?_);go_simp;refine hK _ _ HU.out ?_;clear hK hz hzf;refine aI (by rfl) (by simp) (fun K hK=> ?_);go_simp;refine hK _ _ HU.out ?_;clear hK;refine cr ?_;rename_i Q1 K1 hK1 J0;refine hK1 _ _ (iM _ _ 1 v v _ op nm tx [] [] [] A n c _ r w _ HX.out HB3.out HW3.out HC.out R HR.out _ _ _ _ _ _ _ _ _ _ _ _ _ _ _ _ _ _ _ _ _ _ _ _ _ _ _ _ _ _ _ _ _ _ _ _ _ _ _ _ _ _ _ _ _ _ _ _ _ _ _ _ _ _ _ _ _ _ _ _ _ _ _ _ _ _ _ _ _ _ _ _ _ _ _ _ _ _ _ _ _ _ _ _ _ _ _ _ _ _ _ _ _ _ _ _ _ _ _ _ _ _ _ _ _ _ _ _ _ _ _ _ _ _ _ _ _ _ _ _ _ _ _ _ _ _ _)
theorem CZ (op nm tx:List UInt8) (v:Int) (w:World) (A:Option Addr) (n c:Nat) (hn:n<=1073741824) (r:Bool) (hC:qd w A n c r):
  Calls prog 115 #[.agg #[.int .i64 6, .string (ah op), .string (ah nm), .string (ah tx), .int .i64 v, .slice A n c]] w fun e w'=>e= .returned (.bool ((op==[45]||op==[33])&&(op==op&&nm==[]&&tx==[]&&v==0)&&decide ((n:Int)=1)&&r))/\au w w':=by
 have hn':(n:Int)<=1073741824:=by omega
 have hne:w.heap.size≠w.heap.size+1:=by omega
 have HB:=G ((am w 70 #[.int .i64 6, .string (ah op), .string (ah nm), .string (ah tx), .int .i64 v, .slice A n c]).ext (I _ (.cells #[.int .i64 6, .string ⟨#[]⟩, .string ⟨#[]⟩, .string ⟨#[]⟩, .int .i64 0, .slice none 0 0] 70)));have HW:=G (aQ.new2 w (.cells #[.int .i64 6, .string (ah op), .string (ah nm), .string (ah tx), .int .i64 v, .slice A n c] 70) 70 #[.int .i64 6, .string ⟨#[]⟩, .string ⟨#[]⟩, .string ⟨#[]⟩, .int .i64 0, .slice none 0 0]);have HE0:=G ((I w (.cells #[.int .i64 6, .string (ah op), .string (ah nm), .string (ah tx), .int .i64 v, .slice A n c] 70)).trans (I _ (.cells #[.int .i64 6, .string ⟨#[]⟩, .string ⟨#[]⟩, .string ⟨#[]⟩, .int .i64 0, .slice none 0 0] 70)));have HC:=G hC;clear hC
 cases h0:(op==[45])with
 |true=>
  rw[Bool.true_or];generalize hR:(_&& _&& _&& _:Bool)=R;have HR:=G hR;clear hR;go_enter func115,ntmps115;go_wp2_with fail;refine ci (UW (w.heap.size+1) 70 #[.int .i64 6, .string ⟨#[]⟩, .string ⟨#[]⟩, .string ⟨#[]⟩, .int .i64 0, .slice none 0 0] #[.int .i64 6, .string (ah op), .string ⟨#[]⟩, .string ⟨#[]⟩, .int .i64 0, .slice none 0 0]) (UW.refl _ _ _ _) (UW.trans _ _ _ _) 11 3 [] [6,7,8,9] mixed (by kernel_rfl) (by kernel_rfl) (by kernel_rfl) (by rfl) trivial ?_;repeat (first|(refine bP (by rfl) ?_;simp only[aY,aX,aW,aV,aU])|(refine sx ?_ (fun w1 hU=> ?_) ?_;rotate_left;(focus have f1:=(HB.out.grown (aE hU.1) (fun e=>hne (O e))).cell;clear hU;go_simp<;>with_reducible rfl);simp only[aY,aX,aW,aV,aU]))
  intro w2 hw2 hp;clear hp;simp only[aa,an];obtain⟨⟨z,hz⟩,hzf,hU,hW3⟩:=hw2.store HW.out 1 (.string (ah op)) (.string ⟨#[]⟩) rfl rfl rfl rfl;have HU:=G hU;have HW3:=G hW3;have HB3:=G (HB.out.grown (aE hU.1) (fun e=>hne (O e)));have HX:=G (HE0.out.grown (aE hU.1) (fun k e=>by injection e with e;omega));clear hw2 hU hW3 HB HW;refine aI (by rfl) (by simp) (fun K hK=> ?_);go_simp;refine hK _ _ HU.out ?_;clear hK hz hzf;refine aI (by rfl) (by simp) (fun K hK=> ?_);go_simp;refine hK _ _ HU.out ?_;clear hK;refine aI (by rfl) (by simp) (fun K hK=> ?_);go_simp;refine hK _ _ HU.out ?_;clear hK;refine cr ?_;rename_i Q1 K1 hK1 J0 J1;refine hK1 _ _ (iM _ _ 6 v 0 _ op nm tx op [] [] A n c _ r w _ HX.out HB3.out HW3.out HC.out R HR.out _ _ _ _ _ _ _ _ _ _ _ _ _ _ _ _ _ _ _ _ _ _ _ _ _ _ _ _ _ _ _ _ _ _ _ _ _ _ _ _ _ _ _ _ _ _ _ _ _ _ _ _ _ _ _ _ _ _ _ _ _ _ _ _ _ _ _ _ _ _ _ _ _ _ _ _ _ _ _ _ _ _ _ _ _ _ _ _ _ _ _ _ _ _ _ _ _ _ _ _ _ _ _ _ _ _ _ _ _ _ _ _ _ _ _ _ _ _ _ _ _ _ _ _ _ _ _)
 |false=>
  rw[iH];generalize hR:(_&& _&& _&& _:Bool)=R;have HR:=G hR;clear hR;go_enter func115,ntmps115;go_wp2_with fail;refine ci (UW (w.heap.size+1) 70 #[.int .i64 6, .string ⟨#[]⟩, .string ⟨#[]⟩, .string ⟨#[]⟩, .int .i64 0, .slice none 0 0] #[.int .i64 6, .string (ah op), .string ⟨#[]⟩, .string ⟨#[]⟩, .int .i64 0, .slice none 0 0]) (UW.refl _ _ _ _) (UW.trans _ _ _ _) 11 3 [] [6,7,8,9] mixed (by kernel_rfl) (by kernel_rfl) (by kernel_rfl) (by rfl) trivial ?_;repeat (first|(refine bP (by rfl) ?_;simp only[aY,aX,aW,aV,aU])|(refine sx ?_ (fun w1 hU=> ?_) ?_;rotate_left;(focus have f1:=(HB.out.grown (aE hU.1) (fun e=>hne (O e))).cell;clear hU;go_simp<;>with_reducible rfl);simp only[aY,aX,aW,aV,aU]))
  intro w2 hw2 hp;clear hp;simp only[aa,an];obtain⟨⟨z,hz⟩,hzf,hU,hW3⟩:=hw2.store HW.out 1 (.string (ah op)) (.string ⟨#[]⟩) rfl rfl rfl rfl;have HU:=G hU;have HW3:=G hW3;have HB3:=G (HB.out.grown (aE hU.1) (fun e=>hne (O e)));have HX:=G (HE0.out.grown (aE hU.1) (fun k e=>by injection e with e;omega));clear hw2 hU hW3 HB HW;refine aI (by rfl) (by simp) (fun K hK=> ?_);go_simp;refine hK _ _ HU.out ?_;clear hK hz hzf;refine aI (by rfl) (by simp) (fun K hK=> ?_);go_simp;refine hK _ _ HU.out ?_;clear hK;refine aI (by rfl) (by simp) (fun K hK=> ?_);go_simp;refine hK _ _ HU.out ?_;clear hK;refine cr ?_;rename_i Q1 K1 hK1 J0 J1;refine hK1 _ _ (iM _ _ 6 v 0 _ op nm tx op [] [] A n c _ r w _ HX.out HB3.out HW3.out HC.out R HR.out _ _ _ _ _ _ _ _ _ _ _ _ _ _ _ _ _ _ _ _ _ _ _ _ _ _ _ _ _ _ _ _ _ _ _ _ _ _ _ _ _ _ _ _ _ _ _ _ _ _ _ _ _ _ _ _ _ _ _ _ _ _ _ _ _ _ _ _ _ _ _ _ _ _ _ _ _ _ _ _ _ _ _ _ _ _ _ _ _ _ _ _ _ _ _ _ _ _ _ _ _ _ _ _ _ _ _ _ _ _ _ _ _ _ _ _ _ _ _ _ _ _ _ _ _ _ _)
theorem C0 (op nm tx:List UInt8) (v:Int) (w:World) (A:Option Addr) (n c:Nat) (hn:n<=1073741824) (r:Bool) (hC:qd w A n c r) (hl:nm.length<=1073741824):
  Calls prog 115 #[.agg #[.int .i64 5, .string (ah op), .string (ah nm), .string (ah tx), .int .i64 v, .slice A n c]] w fun e w'=>e= .returned (.bool ((dx nm&&decide ((n:Int)<=4))&&(op==[]&&nm==nm&&tx==[]&&v==0)&&decide ((n:Int)=n)&&r))/\au w w':=by
 have hn':(n:Int)<=1073741824:=by omega
 have hne:w.heap.size≠w.heap.size+1:=by omega
 have HB:=G ((am w 70 #[.int .i64 5, .string (ah op), .string (ah nm), .string (ah tx), .int .i64 v, .slice A n c]).ext (I _ (.cells #[.int .i64 5, .string ⟨#[]⟩, .string ⟨#[]⟩, .string ⟨#[]⟩, .int .i64 0, .slice none 0 0] 70)));have HW:=G (aQ.new2 w (.cells #[.int .i64 5, .string (ah op), .string (ah nm), .string (ah tx), .int .i64 v, .slice A n c] 70) 70 #[.int .i64 5, .string ⟨#[]⟩, .string ⟨#[]⟩, .string ⟨#[]⟩, .int .i64 0, .slice none 0 0]);have HE0:=G ((I w (.cells #[.int .i64 5, .string (ah op), .string (ah nm), .string (ah tx), .int .i64 v, .slice A n c] 70)).trans (I _ (.cells #[.int .i64 5, .string ⟨#[]⟩, .string ⟨#[]⟩, .string ⟨#[]⟩, .int .i64 0, .slice none 0 0] 70)));have HC:=G hC;clear hC;have HI:=G (cP nm hl);generalize dx nm=b at*
 cases b with
 |true=>
  rw[Bool.true_and];generalize hR:(_&& _&& _&& _:Bool)=R;have HR:=G hR;clear hR;go_enter func115,ntmps115;go_wp2_with fail;refine ci (UW (w.heap.size+1) 70 #[.int .i64 5, .string ⟨#[]⟩, .string ⟨#[]⟩, .string ⟨#[]⟩, .int .i64 0, .slice none 0 0] #[.int .i64 5, .string ⟨#[]⟩, .string (ah nm), .string ⟨#[]⟩, .int .i64 0, .slice none 0 0]) (UW.refl _ _ _ _) (UW.trans _ _ _ _) 15 3 [(4,fun v=>v= .bool true,fun _ _=>True)] [6,7,8,9,10,11,12,13] mixed (by kernel_rfl) (by kernel_rfl) (by kernel_rfl) (by rfl) ⟨fun _ _ _ _ _=>trivial,trivial⟩ ?_;repeat (first|(refine bP (by rfl) ?_;simp only[aY,aX,aW,aV,aU])|(refine sx ?_ (fun w1 hU=> ?_) ?_;rotate_left;(focus have f1:=(HB.out.grown (aE hU.1) (fun e=>hne (O e))).cell;clear hU;go_simp<;>with_reducible rfl);simp only[aY,aX,aW,aV,aU]))
  refine so (fun w6 hU hp K hK=> ?_) ?_
  ·clear hp hU;go_simp;refine(HI.out w6).mono ?_;rintro e w7 ⟨rfl,rfl⟩;exact hK _ _ (UW.refl _ _ _ _ _) rfl trivial
  rintro _ rfl;simp only[aY,aX,aW,aV,aU];repeat (first|(refine bP (by rfl) ?_;simp only[aY,aX,aW,aV,aU])|(refine sx ?_ (fun w1 hU=> ?_) ?_;rotate_left;(focus have f1:=(HB.out.grown (aE hU.1) (fun e=>hne (O e))).cell;clear hU;go_simp<;>with_reducible rfl);simp only[aY,aX,aW,aV,aU]))
  intro w2 hw2 hp;clear hp;simp only[aa,an];obtain⟨⟨z,hz⟩,hzf,hU,hW3⟩:=hw2.store HW.out 2 (.string (ah nm)) (.string ⟨#[]⟩) rfl rfl rfl rfl;have HU:=G hU;have HW3:=G hW3;have HB3:=G (HB.out.grown (aE hU.1) (fun e=>hne (O e)));have HX:=G (HE0.out.grown (aE hU.1) (fun k e=>by injection e with e;omega));clear hw2 hU hW3 HB HW;refine aI (by rfl) (by simp) (fun K hK=> ?_);go_simp;refine hK _ _ HU.out ?_;clear hK hz hzf;refine aI (by rfl) (by simp) (fun K hK=> ?_);go_simp;refine hK _ _ HU.out ?_;clear hK;refine aI (by rfl) (by simp) (fun K hK=> ?_);go_simp;refine hK _ _ HU.out ?_;clear hK;refine cr ?_;rename_i Q1 K1 hK1 J0 J1;refine hK1 _ _ (iM _ _ 5 v 0 _ op nm tx [] nm [] A n c _ r w _ HX.out HB3.out HW3.out HC.out R (Eq.trans (by simp) HR.out) _ _ _ _ _ _ _ _ _ _ _ _ _ _ _ _ _ _ _ _ _ _ _ _ _ _ _ _ _ _ _ _ _ _ _ _ _ _ _ _ _ _ _ _ _ _ _ _ _ _ _ _ _ _ _ _ _ _ _ _ _ _ _ _ _ _ _ _ _ _ _ _ _ _ _ _ _ _ _ _ _ _ _ _ _ _ _ _ _ _ _ _ _ _ _ _ _ _ _ _ _ _ _ _ _ _ _ _ _ _ _ _ _ _ _ _ _ _ _ _ _ _ _ _ _ _ _)
 |false=>
  rw[Bool.false_and];generalize hR:(_&& _&& _&& _:Bool)=R;have HR:=G hR;clear hR;go_enter func115,ntmps115;go_wp2_with fail;refine ci (UW (w.heap.size+1) 70 #[.int .i64 5, .string ⟨#[]⟩, .string ⟨#[]⟩, .string ⟨#[]⟩, .int .i64 0, .slice none 0 0] #[.int .i64 5, .string ⟨#[]⟩, .string (ah nm), .string ⟨#[]⟩, .int .i64 0, .slice none 0 0]) (UW.refl _ _ _ _) (UW.trans _ _ _ _) 15 3 [(4,fun v=>v= .bool false,fun _ _=>True)] [6,7,8,9,10,11,12,13] mixed (by kernel_rfl) (by kernel_rfl) (by kernel_rfl) (by rfl) ⟨fun _ _ _ _ _=>trivial,trivial⟩ ?_;repeat (first|(refine bP (by rfl) ?_;simp only[aY,aX,aW,aV,aU])|(refine sx ?_ (fun w1 hU=> ?_) ?_;rotate_left;(focus have f1:=(HB.out.grown (aE hU.1) (fun e=>hne (O e))).cell;clear hU;go_simp<;>with_reducible rfl);simp only[aY,aX,aW,aV,aU]))
  refine so (fun w6 hU hp K hK=> ?_) ?_
  ·clear hp hU;go_simp;refine(HI.out w6).mono ?_;rintro e w7 ⟨rfl,rfl⟩;exact hK _ _ (UW.refl _ _ _ _ _) rfl trivial
  rintro _ rfl;simp only[aY,aX,aW,aV,aU];repeat (first|(refine bP (by rfl) ?_;simp only[aY,aX,aW,aV,aU])|(refine sx ?_ (fun w1 hU=> ?_) ?_;rotate_left;(focus have f1:=(HB.out.grown (aE hU.1) (fun e=>hne (O e))).cell;clear hU;go_simp<;>with_reducible rfl);simp only[aY,aX,aW,aV,aU]))
  intro w2 hw2 hp;clear hp;simp only[aa,an];obtain⟨⟨z,hz⟩,hzf,hU,hW3⟩:=hw2.store HW.out 2 (.string (ah nm)) (.string ⟨#[]⟩) rfl rfl rfl rfl;have HU:=G hU;have HW3:=G hW3;have HB3:=G (HB.out.grown (aE hU.1) (fun e=>hne (O e)));have HX:=G (HE0.out.grown (aE hU.1) (fun k e=>by injection e with e;omega));clear hw2 hU hW3 HB HW;refine aI (by rfl) (by simp) (fun K hK=> ?_);go_simp;refine hK _ _ HU.out ?_;clear hK hz hzf;refine aI (by rfl) (by simp) (fun K hK=> ?_);go_simp;refine hK _ _ HU.out ?_;clear hK;refine aI (by rfl) (by simp) (fun K hK=> ?_);go_simp;refine hK _ _ HU.out ?_;clear hK;refine cr ?_;rename_i Q1 K1 hK1 J0 J1;refine hK1 _ _ (iM _ _ 5 v 0 _ op nm tx [] nm [] A n c _ r w _ HX.out HB3.out HW3.out HC.out R (Eq.trans (by simp) HR.out) _ _ _ _ _ _ _ _ _ _ _ _ _ _ _ _ _ _ _ _ _ _ _ _ _ _ _ _ _ _ _ _ _ _ _ _ _ _ _ _ _ _ _ _ _ _ _ _ _ _ _ _ _ _ _ _ _ _ _ _ _ _ _ _ _ _ _ _ _ _ _ _ _ _ _ _ _ _ _ _ _ _ _ _ _ _ _ _ _ _ _ _ _ _ _ _ _ _ _ _ _ _ _ _ _ _ _ _ _ _ _ _ _ _ _ _ _ _ _ _ _ _ _ _ _ _ _)
theorem C7 (k:Int) (hk: ∀i:Int,1<=i->i<=7->k≠i) (op nm tx:List UInt8) (v:Int) (w:World) (A:Option Addr) (n c:Nat) (hn:n<=1073741824):
  Calls prog 115 #[.agg #[.int .i64 k, .string (ah op), .string (ah nm), .string (ah tx), .int .i64 v, .slice A n c]] w fun e w'=>e= .returned (.bool false)/\au w w':=by
 have e1:(k==1)=false:=beq_eq_false_iff_ne.2 (hk 1 (by decide) (by decide));have e2:(k==2)=false:=beq_eq_false_iff_ne.2 (hk 2 (by decide) (by decide));have e3:(k==3)=false:=beq_eq_false_iff_ne.2 (hk 3 (by decide) (by decide));have e4:(k==4)=false:=beq_eq_false_iff_ne.2 (hk 4 (by decide) (by decide));have e5:(k==5)=false:=beq_eq_false_iff_ne.2 (hk 5 (by decide) (by decide));have e6:(k==6)=false:=beq_eq_false_iff_ne.2 (hk 6 (by decide) (by decide));have e7:(k==7)=false:=beq_eq_false_iff_ne.2 (hk 7 (by decide) (by decide));have HE0:=G ((I w (.cells #[.int .i64 k, .string (ah op), .string (ah nm), .string (ah tx), .int .i64 v, .slice A n c] 70)).trans (I _ (.cells #[.int .i64 k, .string ⟨#[]⟩, .string ⟨#[]⟩, .string ⟨#[]⟩, .int .i64 0, .slice none 0 0] 70)));clear hk
 cases h1:(op==[])with
 |false=>
  go_enter func115,ntmps115;go_wp2_with fail;go_ret;exact⟨rfl,HE0.out⟩
 |true=>
 cases h2:(nm==[])with
 |false=>
  go_enter func115,ntmps115;go_wp2_with fail;go_ret;exact⟨rfl,HE0.out⟩
 |true=>
 cases h3:(tx==[])with
 |false=>
  go_enter func115,ntmps115;go_wp2_with fail;go_ret;exact⟨rfl,HE0.out⟩
 |true=>
 cases h4:(v==0)with
 |false=>
  go_enter func115,ntmps115;go_wp2_with fail;go_ret;exact⟨rfl,HE0.out⟩
 |true=>
  go_enter func115,ntmps115;go_wp2_with fail;go_ret;exact⟨rfl,HE0.out⟩
theorem pT: ∀l:List Ex,l.any (fun y=> !y.ok)= !m8 l
 | []=>rfl
 |x::r=>by simp only[iG,m8,pT r,Bool.not_and]
theorem oB (y:Ex) (w':World) (B:Option Addr) (d:Nat) (h: ∀w,au w' w->Calls prog 115 #[.agg #[.int .i64 y.k, .string (ah y.op), .string (ah y.nm), .string (ah y.tx), .int .i64 y.v, .slice B y.args.length d]] w fun e w''=>e= .returned (.bool y.ok)/\au w w'') (F:FuncId) (hF:F=154\/F=114):
  Calls prog F #[.agg #[.int .i64 y.k, .string (ah y.op), .string (ah y.nm), .string (ah y.tx), .int .i64 y.v, .slice B y.args.length d]] w' fun e w''=>e= .returned (.bool (!y.ok))/\au w' w'':=by
 have HH:=G h;have HE:=G (I w' (.cells #[.int .i64 y.k, .string (ah y.op), .string (ah y.nm), .string (ah y.tx), .int .i64 y.v, .slice B y.args.length d] 70));clear h;generalize y.args.length=n at*;rcases hF with rfl|rfl
 ·go_enter func154,ntmps154;go_wp2_with (refine(HH.out _ HE.out).mono ?_;rintro e w3 ⟨rfl,hE⟩;have HY:=G (HE.out.trans hE);clear hE);go_ret;exact⟨rfl,HY.out⟩
 ·go_enter func114,ntmps114;go_wp2_with (refine(HH.out _ HE.out).mono ?_;rintro e w3 ⟨rfl,hE⟩;have HY:=G (HE.out.trans hE);clear hE);go_ret;exact⟨rfl,HY.out⟩
theorem nC: ∀(m:Nat) (x:Ex),x.wt<=m->x.wt<=1073741824-> ∀(P:Nat->Prop) (w:World) (A:Option Addr) (n c:Nat),cu w P (.slice A n c) x.args->
  Calls prog 115 #[.agg #[.int .i64 x.k, .string (ah x.op), .string (ah x.nm), .string (ah x.tx), .int .i64 x.v, .slice A n c]] w fun e w'=>e= .returned (.bool x.ok)/\au w w'
 |0,x,hm,_,_,_,_,_,_,_=>absurd hm (by have:=x.wt_eq;omega)
 |m+1,x,hm,hx,P,w,A,n,c,hR=>by
  have hw:=x.wt_eq;have hnl:=dw x.args;have hlen:=hR.len;have hC:qd w A n c (m8 x.args):=fun w' hE=>by
   refine(xQ (fun y=> !y.ok) x.args P w' A n c (hR.keep (.of_ext hE) (fun _ hb _=>hb)) (by omega) (fun y hy w2 B d hR2=> ?_)).mono ?_
   ·have hyw:=dE hy;exact oB y w2 B d (fun w3 hE3=>nC m y (by omega) (by omega) P w3 B _ d (hR2.keep (.of_ext hE3) (fun _ hb _=>hb))) _ (.inl rfl)
   ·rintro e w2 ⟨rfl,h2⟩;exact⟨by rw[pT],h2⟩
  have hn:n<=1073741824:=by omega
  obtain⟨k,op,nm,tx,v,xs⟩:=x;simp only[Ex.k,Ex.op,Ex.nm,Ex.tx,Ex.v,Ex.args]at*;have fin: ∀R,R=Ex.ok (.mk k op nm tx v xs)->Calls prog 115 #[.agg #[.int .i64 k, .string (ah op), .string (ah nm), .string (ah tx), .int .i64 v, .slice A n c]] w (fun e w'=>e= .returned (.bool R)/\au w w')->Calls prog 115 #[.agg #[.int .i64 k, .string (ah op), .string (ah nm), .string (ah tx), .int .i64 v, .slice A n c]] w fun e w'=>e= .returned (.bool (Ex.ok (.mk k op nm tx v xs)))/\au w w':=fun R hR h=>by rw[<-hR];exact h
  have ni: ∀j:Nat,decide ((n:Int)=(j:Int))=(n==j):=fun j=>by rw[jB];simp;omega
  have n0:=ni 0;have n1:=ni 1;have n2:=ni 2;have e0:((0:Nat):Int)=0:=rfl;have e1:((1:Nat):Int)=1:=rfl;have e2:((2:Nat):Int)=2:=rfl;rw[e0]at n0;rw[e1]at n1;rw[e2]at n2;by_cases h1:k=1
  ·subst h1;refine fin _ ?_ (C6 op nm tx v w A n c hn _ hC);rw[n0,Ex.ok,if_pos rfl,<-hlen];simp
  by_cases h2:k=2
  ·subst h2;refine fin _ ?_ (C5 op nm tx v w A n c hn _ hC (by omega));rw[n0,Ex.ok,if_neg h1,if_pos rfl,<-hlen];simp
  by_cases h3:k=3
  ·subst h3;refine fin _ ?_ (C4 op nm tx v w A n c hn _ hC (by omega));rw[n0,Ex.ok,if_neg h1,if_neg h2,if_pos rfl,<-hlen];simp
  by_cases h4:k=4
  ·subst h4;refine fin _ ?_ (C1 op nm tx v w A n c hn _ hC (by omega));rw[n1,Ex.ok,if_neg h1,if_neg h2,if_neg h3,if_pos rfl,<-hlen];simp
  by_cases h5:k=5
  ·subst h5;refine fin _ ?_ (C0 op nm tx v w A n c hn _ hC (by omega));have e4:decide ((n:Int)<=4)=decide (n<=4):=by rw[jB];simp;omega
   rw[e4,Ex.ok,if_neg h1,if_neg h2,if_neg h3,if_neg h4,if_pos rfl,<-hlen];simp
  by_cases h6:k=6
  ·subst h6;refine fin _ ?_ (CZ op nm tx v w A n c hn _ hC);rw[n1,Ex.ok,if_neg h1,if_neg h2,if_neg h3,if_neg h4,if_neg h5,if_pos rfl,<-hlen];simp
  by_cases h7:k=7
  ·subst h7;refine fin _ ?_ (CY op nm tx v w A n c hn _ hC);rw[n2,Ex.ok,if_neg h1,if_neg h2,if_neg h3,if_neg h4,if_neg h5,if_neg h6,if_pos rfl,<-hlen];simp
  ·refine fin _ ?_ (C7 k (fun i hi hj=>by omega) op nm tx v w A n c hn);rw[Ex.ok,if_neg h1,if_neg h2,if_neg h3,if_neg h4,if_neg h5,if_neg h6,if_neg h7];rfl
end
section
open Go.RowKit
theorem l_ {P:Program} (t u ty e:TypeId) (i:TypeInfo) (z:Value) (ht:P.underlying t=some (.slice e)) (hu:P.underlying u=some (.int .i64)) (hi:P.info? e=some i) (hz:i.zero=some z) (w:World) (n:Nat) (h0:0<n) (hs:0<i.size)
  (h63:(n:Int)<=1073741824) (h48:n*i.bytes<=281474976710656):
  (Builtin.append_ #[t,u] ty #[.slice none 0 0, .int .i64 n]).run P w=
   .ok (.slice (some ⟨w.heap.size,0,none⟩) n (grownCap w n 0 e)) (w.drew.alloc (.cells (Builtin.zeroCells z.cells n++Builtin.zeroCells z.cells (grownCap w n 0 e-n)) e)):=by
 have hn:n≠0:=by omega
 have h1:IntKind.i64.wrap (n:Int)=n:=by simp[IntKind.wrap,IntKind.signed,IntKind.bits];omega
 have h2: ¬(n:Int)<0:=by omega
 have h63': ¬(9223372036854775807<(n:Int)):=by omega
 have h48': ¬(281474976710656<Builtin.nextslicecap n 0*i.bytes):=by rw[nextslicecap_zero h0];omega
 have h48i: ¬(281474976710656<(n:Int)*(i.bytes:Int)):=by
  have:(n:Int)*(i.bytes:Int)=((n*i.bytes:Nat):Int):=by simp
  omega
 simp[Builtin.append_,run_underlying ht,run_underlying hu,sizeOf,typeInfo,zeroValue,hi,hz,h1,h2,hn,h63',h48',h48i,Question.forced,run_firstCells_none,newRow,grownCap,asInt,asIntOf];intro h;exact absurd h (bA (Nat.mul_pos h0 hs))
theorem jG (z:Array Value) (n:Nat):(Builtin.zeroCells z n).size=n*z.size:=by simp[Builtin.zeroCells]
theorem pu {P:Program} {w:World} {ops:Array Oper} {rest:List Oper} {o:Oper} {a:Act} {Q:Exit->Act->World->Prop} {t u e:TypeId} {size bytes:Nat} {z:Value} (hT:mU P t e size bytes z) (hu:P.underlying u=some (.int .i64)) (hgd:o.guard=none) (s x:Operand)
  (ho:o.op= .call {callee:= .builtin .append,args:= #[s,x],argTypes:= #[t,u]}) (base n:Nat) (hv:a.eval s= .slice none 0 0) (hx:a.eval x= .int .i64 n) (h0:0<n) (hn:n<=1073741824) (hy:bytes<=1000) (hbase:base<=w.heap.size)
  (h: ∀g cap w',w'.ownsRow base e size (.slice (some ⟨g,0,none⟩) 0 cap) 0 []->n<=cap->au w w'->wpList P ops Q rest (a.put o.dst (.slice (some ⟨g,0,none⟩) n cap)) w'):
  wpList P ops Q (o::rest) a w:=by
 obtain⟨i,hi,hz,hz1,hz2⟩:=info_parts hT.info;have hb:n*i.bytes<=n*1000:=fu _ (by rw[hz2];exact hy);have hr:=l_ (P:=P) t u o.type e i z hT.under hu hi hz w n h0 (by rw[hz1];exact hT.pos) (by omega) (by omega);have hge:=grownCap_ge w n 0 e;have hcm:grownCap w n 0 e<=maxLen:=grownCap_le_maxLen w n 0 e (by simp only[maxLen];omega);refine wpList_plain hgd fun K hK=> ?_;unfold Oper.wp execOp;simp only[ho,resolve,invoke,builtin,Sem.run_bind,Sem.run_pure,Result.andThen_ok,dK,bW,dZ,hv,hx,hr];refine hK _ _ (h w.heap.size (grownCap w n 0 e) _ ?_ hge ((aO w).drew.alloc' _));refine World.ownsRow_made w.drew _ _ hbase hcm ?_;rw[Array.size_append,jG,jG,hT.cells,<-Nat.add_mul,Nat.add_sub_cancel' hge]
theorem wl:mU prog 57 72 5 96 (.agg #[.int .i64 0, .string ⟨#[]⟩, .slice none 0 0, .slice none 0 0, .slice none 0 0]):=⟨underlying57,by kernel_rfl,by rfl,by decide⟩
theorem xy (n:Nat) (hn:n<=1073741824) (w:World):Calls prog 150 #[.slice none 0 0, .int .i64 (n:Int)] w fun e w'=>(∃A c,e= .returned (.slice A 0 c)/\w'.ownsRow w.heap.size 72 5 (.slice A 0 c) 0 [])/\au w w':=by
 have hn': ¬(n:Int)<0:=by omega
 have hw:wrap64 (n:Int)=n:=by simp only[wrap64];omega
 have hw2:IntKind.i64.wrap (n:Int)=n:=by simp[IntKind.wrap,IntKind.signed,IntKind.bits];omega
 rcases Nat.eq_zero_or_pos n with rfl|h0
 ·go_enter func150,ntmps150;go_wp2_with fail;go_ret;exact⟨⟨none,0,rfl,World.ownsRow_nil w _ _ 5⟩,aO w⟩
 ·have h0':(0:Int)<n:=by omega
  go_enter func150,ntmps150;go_wp2_with (at_builtin;refine pu wl underlying3 rfl _ _ rfl w.heap.size n rfl rfl h0 hn (by decide) (ag _) ?_;intro g cap w1 hO hcap hE;have HO:=G hO;have HE:=G hE;clear hO hE);go_ret;exact⟨⟨_,_,rfl,HO.out⟩,HE.out⟩
theorem cK.svs {w:World} {P:Nat->Prop} {A:Option Addr} {n c:Nat} {l:List St} (h:cK w P (.slice A n c) l):
  ∃q:List SV,q.map (·.s)=l/\q.length=n/\(∀p,p∈q->p.ok w P)/\n<=maxLen/\(n=0\/n<=c/\ ∃b o,A=some ⟨b,o,none⟩/\b<w.heap.size/\ ∀j y,(d8 q)[j]? =some y->w.cell? ⟨b,o+j,none⟩=some y):=by
 cases h with
 |nil=>exact⟨[],rfl,rfl,fun p hp=>(by cases hp),by simp[maxLen], .inl rfl⟩
 |row b o n c xs es bs ls hP hb hn hnc hm hc he hs hl=>
  refine⟨List.ofFn (n:=l.length) (fun i=>⟨l[i],es i,bs i,ls i⟩),?_,by simpa using hn,?_,by omega, .inr ⟨hnc,b,o,rfl,hb,fun j y hj=> ?_⟩⟩
  ·apply List.ext_getElem
   ·simp
   ·intro i h1 h2;simp
  ·intro p hp;rw[List.mem_ofFn]at hp;obtain⟨i,rfl⟩:=hp;exact⟨he i i.2,hs i i.2,hl i i.2⟩
  ·have hlt:j<l.length*5:=by
    have:=(List.getElem?_eq_some_iff.1 hj).1;rw[jp]at this;simpa using this
   have hi:j/5<l.length:=by omega
   have hk:j%5<5:=Nat.mod_lt _ (by omega);have hj2:j=j/5*5+j%5:=by omega
   rw[hj2,kj _ (j/5) (by simpa using hi) (j%5) hk]at hj;obtain⟨c0,c1,c2,c3,c4⟩:=hc (j/5) hi;rw[hj2,<-eb];simp only[List.getElem_ofFn]at hj;generalize j%5=r at*;have:r=0\/r=1\/r=2\/r=3\/r=4:=by omega
   rcases this with rfl|rfl|rfl|rfl|rfl<;>(simp only[vF,fN,fO,Option.some.injEq]at hj;subst hj;assumption)
theorem cK.of_row {w:World} {base:Nat} {e:TypeId} {v:Value} {n:Nat} {q:List SV} {Q:Nat->Prop} (h:w.ownsRow base e 5 v n (d8 q)) (hn:q.length=n) (hQ: ∀b,base<=b->Q b) (hq: ∀p,p∈q->p.ok w Q):cK w Q v (q.map (·.s)):=by
 rcases h.2 with⟨rfl,h0⟩|⟨g,cap,cur,rfl,hb,hg,hnc,hcm,hcs,ht⟩
 ·have:q=[]:=aH (by omega);subst this;exact .nil _ _
 ·have hlt:g<w.heap.size:=(Array.getElem?_eq_some_iff.1 hg).1;have cell: ∀j y,(d8 q)[j]? =some y->w.cell? ⟨g,j,none⟩=some y:=fun j y hy=>by
   rw[cell_of_row w g j cur e (0,0) hg];rw[<-ht,cB]at hy;split at hy
   ·simpa using hy
   ·cases hy
  refine .row g 0 n cap _ (fun i=>if h:i<q.length then q[i].e else .slice none 0 0) (fun i=>if h:i<q.length then q[i].b else .slice none 0 0) (fun i=>if h:i<q.length then q[i].l else .slice none 0 0) (hQ _ hb) hlt (by simpa using hn) hnc hcm (fun i hi=> ?_) (fun i hi=> ?_) (fun i hi=> ?_) (fun i hi=> ?_)
  ·have hi':i<q.length:=by simpa using hi
   have r:=fun k hk=>kj q i hi' k hk;have e0:(q.map (·.s))[i]=q[i].s:=by simp
   rw[e0,dif_pos hi',dif_pos hi',dif_pos hi',aA];exact⟨cell _ _ (r 0 (by omega)),cell _ _ (r 1 (by omega)),cell _ _ (r 2 (by omega)),cell _ _ (r 3 (by omega)),cell _ _ (r 4 (by omega))⟩
  all_goals
   have hi':i<q.length:=by simpa using hi
   have e0:(q.map (·.s))[i]=q[i].s:=by simp
   rw[e0,dif_pos hi']
  ·exact(hq _ (ap hi')).1
  ·exact(hq _ (ap hi')).2.1
  ·exact(hq _ (ap hi')).2.2
theorem um {q:List SV} (u:Value) (hu:u∈d8 q) (hq: ∀p,p∈q-> ∃a b c d e f g h i,p.e= .slice a b c/\p.b= .slice d e f/\p.l= .slice g h i):u.oneCell'=true:=by
 obtain⟨p,hp,hu⟩:=List.mem_flatMap.1 hu;obtain⟨a,b,c,d,e,f,g,h,i,h1,h2,h3⟩:=hq p hp;simp only[vF,h1,h2,h3,fB,ej,or_false]at hu;rcases hu with rfl|rfl|rfl|rfl|rfl<;>rfl
theorem SV.ok.forms {w:World} {P:Nat->Prop} {p:SV} (h:p.ok w P): ∃a b c d e f g h i,p.e= .slice a b c/\p.b= .slice d e f/\p.l= .slice g h i:=by
 obtain⟨a,b,h1,_⟩:=h.1.form;obtain⟨c,d,h2,_⟩:=h.2.1.form;obtain⟨e,f,h3,_⟩:=h.2.2.form;exact⟨_,_,_,_,_,_,_,_,_,h1,h2,h3⟩
theorem mA {P:Program} {w:World} {ops:Array Oper} {rest:List Oper} {o:Oper} {a:Act} {Q:Exit->Act->World->Prop} {t e:TypeId} {bytes:Nat} {z:Value} (hT:mU P t e 5 bytes z) (hgd:o.guard=none) (s x:Operand)
  (ho:o.op= .call {callee:= .builtin .append,args:= #[s,x],argTypes:= #[t,t]}) (base:Nat) (A:Option Addr) (n c:Nat) (xs:List Value) (hv:a.eval s= .slice A n c) (hown:w.ownsRow base e 5 (.slice A n c) n xs)
  (B:Option Addr) (m d:Nat) (q:List SV) (R:Nat->Prop) (hx:a.eval x= .slice B m d) (hq:q.length=m) (hok: ∀p,p∈q->p.ok w R)
  (hcs:m=0\/m<=d/\ ∃b o,B=some ⟨b,o,none⟩/\b<w.heap.size/\ ∀j y,(d8 q)[j]? =some y->w.cell? ⟨b,o+j,none⟩=some y) (hb:n+m<=1073741824) (hy:bytes<=1000) (hbase:base<=w.heap.size) (hn1:n<=c)
  (h: ∀C k w',w'.ownsRow base e 5 (.slice C (n+m) k) (n+m) (xs++d8 q)->(∀w0,w0.heap.size<=base->au w0 w->au w0 w')->wpList P ops Q rest (a.put o.dst (.slice C (n+m) k)) w'):
  wpList P ops Q (o::rest) a w:=by
 obtain⟨i,hi,hz,hz1,hz2⟩:=info_parts hT.info;have hbl:=World.ownsRow.lt hown;have fin: ∀v' w',(Builtin.append_ #[t,t] o.type #[.slice A n c, .slice B m d]).run P w= .ok v' w'->w'.ownsRow base e 5 v' (n+m) (xs++d8 q)->w.grownBy w' (Value.ownBlock (.slice A n c))->wpList P ops Q (o::rest) a w:=by
  intro v' w' hr ho' hg;obtain⟨C,k,rfl⟩: ∃C k,v'= .slice C (n+m) k:=by
   rcases ho'.2 with⟨rfl,h0⟩|⟨g,cap,cur,rfl,_⟩
   ·exact⟨none,0,by rw[h0]⟩
   ·exact⟨_,_,rfl⟩
  refine wpList_plain hgd fun K hK=> ?_;unfold Oper.wp execOp;simp only[ho,resolve,invoke,builtin,Sem.run_bind,Sem.run_pure,Result.andThen_ok,dK,bW,dZ,hv,hx,hr];exact hK _ _ (h C k w' ho' fun w0 hw0 hE=>hE.grown hg (fun k hk=>aT hw0 (hbl k hk).1))
 have h1: ∀u∈d8 q,u.oneCell'=true:=fun u hu=>um u hu fun p hp=>(hok p hp).forms;rcases hcs with rfl|⟨hmd,b,o',rfl,hlt,hcell⟩
 ·have:q=[]:=aH hq;subst this;rcases B with _|ad
  ·refine fin (.slice A n c) w ?_ (by simpa[d8]using hown) (World.grownBy.refl w _)
   cases A<;>simp[Builtin.append_,run_underlying hT.under,sizeOf,typeInfo,hi,Builtin.lenOf,Builtin.firstCells,hn1,storeCells]
  ·obtain⟨v',w',hr,h2,h3,_,h5⟩:=run_append_own_at (P:=P) w base t o.type e i z 5 bytes hT.under hi hz hz1 hz2 hT.cells hT.pos _ n xs hown ad 0 d [] (by simp) (by simp) (by simp) (by simp only[maxLen];omega) (by have:(n+0)*bytes<=(n+0)*1000:=(fu _ hy);omega) hbase;exact fin v' w' hr (by simpa[d8]using h2) h3
 ·obtain⟨v',w',hr,h2,h3,_,h5⟩:=run_append_own_at (P:=P) w base t o.type e i z 5 bytes hT.under hi hz hz1 hz2 hT.cells hT.pos _ n xs hown ⟨b,o',none⟩ m d (d8 q) (by rw[jp,hq]) (fun j y hj=>by rw[Addr.add_lit];exact hcell j y hj) h1 (by simp only[maxLen];omega) (by
    have:(n+m)*bytes<=(n+m)*1000:=fu _ hy
    omega) hbase
  exact fin v' w' hr h2 h3
theorem AZ {w:World} {a b:Nat} {e:TypeId} {k n:Nat} {v:Value} {xs:List Value} (h:w.ownsRow b e k v n xs) (hb:a<=b):w.ownsRow a e k v n xs:=
 ⟨h.1,h.2.imp id fun⟨g,cap,cur,q1,q2,q3⟩=>⟨g,cap,cur,q1,aT hb q2,q3⟩⟩
def i8 {α:Type} (a b c:α):Nat->α|0=>a|1=>b| _=>c
theorem nU (P:Nat->Prop) (w:World) (g:Nat) (A B:Option Addr) (n m c d:Nat) (l1 l2:List St) (hB:aQ w g 57 #[.slice A n c, .slice B m d]) (h1:cK w P (.slice A n c) l1) (h2:cK w P (.slice B m d) l2) (hb:n+m<=1073741824):
  Calls prog 112 #[.slice (some ⟨g,0,none⟩) 2 2] w fun e w'=>(∃C k,e= .returned (.slice C (n+m) k)/\cK w' (fun b=>P b\/w.heap.size<=b) (.slice C (n+m) k) (l1++l2))/\au w w':=by
 obtain⟨q1,rfl,hq1,ho1,hm1,hc1⟩:=h1.svs;obtain⟨q2,rfl,hq2,ho2,hm2,hc2⟩:=h2.svs;have HB:=G hB;have HO1:=G ho1;have HO2:=G ho2;have HC1:=G hc1;have HC2:=G hc2;have hbc:=hB.cell;have HE0:=G (aO w);have hn0: ¬((n:Int)<0):=by omega
 have hnm0: ¬((n:Int)+m<0):=by omega
 have hw1:wrap64 ((n:Int))=n:=by simp only[wrap64];omega
 have hw2:wrap64 ((n:Int)+m)=(n+m:Nat):=by simp only[wrap64];omega
 have hw3:IntKind.i64.wrap (n:Int)=n:=by simp[IntKind.wrap,IntKind.signed,IntKind.bits];omega
 have hw4:IntKind.i64.wrap ((n:Int)+m)=(n+m:Nat):=by simp[IntKind.wrap,IntKind.signed,IntKind.bits];omega
 have hnm1: ¬(((n+m:Nat):Int)<0):=by omega
 clear h1 h2 ho1 ho2 hc1 hc2 hB;go_enter func112,ntmps112;go_wp2_with fail
 go_loopw [3,11] (fun vs vi wr=> ∃(j:Nat),vi= .int .i64 (j:Int)/\j<=2/\vs= .int .i64 ((i8 0 n (n+m) j:Nat):Int)/\Hid (au w wr)) (fun _ vi _=>2-(intOf vi).toNat)
 case atStart=>exact⟨0,rfl,by omega,rfl,HE0⟩
 case round=>
  obtain⟨j,rfl,hj,rfl,HX⟩:=hrel;have hbx:=(HB.out.ext HX.out).cell;clear hbc;obtain rfl|rfl|rfl:j=0\/j=1\/j=2:=by omega
  ·simp only[i8];go_wp2_with fail;go_roundw
   case rel=>exact⟨1,rfl,by omega,by simp,HX⟩
   case measure=>simp[intOf]
  ·simp only[i8];go_wp2_with fail;go_roundw
   case rel=>exact⟨2,rfl,by omega,by simp,HX⟩
   case measure=>simp[intOf]
  ·simp only[i8];go_wp2_with (go_at_call 150;refine(xy (n+m) hb _).mono ?_;rintro e w1 ⟨⟨A1,c1,rfl,hO⟩,hE⟩;have HE1:=G (HX.out.trans hE);have HOw:=G (AZ hO (df HX.out));have hbc1:=(HB.out.ext HE1.out).cell;clear hbx;clear hO hE)
   go_loopw [6,27] (fun vs vi wr=> ∃(j:Nat) (C:Option Addr) (k cap:Nat),vi= .int .i64 (j:Int)/\j<=2/\vs= .slice C k cap/\k=i8 0 n (n+m) j/\Hid (wr.ownsRow w.heap.size 72 5 (.slice C k cap) k (i8 [] (d8 q1) (d8 q1++d8 q2) j))/\Hid (au w wr)) (fun _ vi _=>2-(intOf vi).toNat)
   case atStart=>exact⟨0,_,_,_,rfl,by omega,rfl,rfl,HOw,HE1⟩
   case round=>
    obtain⟨j,C,k,cap,rfl,hj,rfl,hk,HOr,HEr⟩:=hrel;have hbc2:=(HB.out.ext HEr.out).cell;clear hbc1 HOw HE1;have hkc:k<=cap:=by
     rcases HOr.out.2 with⟨hv,h0⟩|⟨g',c',cur,hv,_,_,hle,_⟩
     ·injection hv with a1 a2 a3;omega
     ·injection hv with a1 a2 a3;omega
    obtain rfl|rfl|rfl:j=0\/j=1\/j=2:=by omega
    ·simp only[i8]at hk HOr;obtain rfl:k=0:=hk;go_wp2_with (at_builtin;refine mA wl rfl _ _ rfl w.heap.size C 0 cap [] rfl HOr.out A n c q1 P rfl hq1 (fun p hp=>(HO1.out p hp).keep (.of_ext HEr.out) (fun _ hb _=>hb)) (HC1.out.imp id fun⟨a1,b,o,a2,a3,a4⟩=>⟨a1,b,o,a2,az a3 HEr.out.size,fun j y hj=>(HEr.out.cell b _ a3).trans (a4 j y hj)⟩) (by omega) (by decide) HEr.out.size hkc ?_;intro C2 k2 w2 hO2 hE2;have HO2w:=G hO2;have HE2:=G (hE2 w (ag _) HEr.out);clear hO2 hE2);go_roundw
     case rel=>exact⟨1,C2,0+n,k2,rfl,by omega,by simp,by simp[i8],by simpa[i8]using HO2w,HE2⟩
     case measure=>simp[intOf]
    ·simp only[i8]at hk HOr;obtain rfl:k=n:=hk;go_wp2_with (at_builtin;refine mA wl rfl _ _ rfl w.heap.size C k cap (d8 q1) rfl HOr.out B m d q2 P rfl hq2 (fun p hp=>(HO2.out p hp).keep (.of_ext HEr.out) (fun _ hb _=>hb)) (HC2.out.imp id fun⟨a1,b,o,a2,a3,a4⟩=>⟨a1,b,o,a2,az a3 HEr.out.size,fun j y hj=>(HEr.out.cell b _ a3).trans (a4 j y hj)⟩) (by omega) (by decide) HEr.out.size hkc ?_;intro C2 k2 w2 hO2 hE2;have HO2w:=G hO2;have HE2:=G (hE2 w (ag _) HEr.out);clear hO2 hE2);go_roundw
     case rel=>exact⟨2,C2,k+m,k2,rfl,by omega,rfl,by simp[i8],by simpa[i8]using HO2w,HE2⟩
     case measure=>simp[intOf]
    ·simp only[i8]at hk HOr;subst hk;go_wp2_with fail;go_ret;refine⟨⟨C,cap,rfl,?_⟩,HEr.out⟩
     have:=cK.of_row (q:=q1++q2) (Q:=fun b=>P b\/w.heap.size<=b) (by rw[oI];exact HOr.out) (by simp[hq1,hq2]) (fun b hb=> .inr hb) (fun p hp=>by
      rcases List.mem_append.1 hp with hp|hp
      ·exact(HO1.out p hp).keep (.of_ext HEr.out) (fun _ hb _=> .inl hb)
      ·exact(HO2.out p hp).keep (.of_ext HEr.out) (fun _ hb _=> .inl hb))
     simpa using this
end
end Go.Proofs.YtddomeddabfinaaGreatDoor
