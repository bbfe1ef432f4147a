/-
  Parts of the proof: VaLexZc VaLexZd.
-/
import Derived.Test.YtoedmpgicdekmaaGreatDoorCq00
import Derived.Test.YtoedmpgicdekmaaGreatDoorCq04
import Derived.Test.YtoedmpgicdekmaaGreatDoorCq05
import Derived.Test.YtoedmpgicdekmaaGreatDoorCq07
set_option maxRecDepth 100000
set_option maxHeartbeats 8000000
set_option linter.unusedVariables false
set_option linter.unusedSimpArgs false
set_option linter.unusedSectionVars false
namespace Go.Proofs.YtoedmpgicdekmaaGreatDoor
open Go.Proofs.Tryz
section
open Go.RowKit
def c_ (c:UInt8):Nat->List UInt8×UInt8
 |0=>([],c)
 |j+1=>if c=([10,9,0,92,39,34]:List UInt8).getD j 0 then([92],([110,116,48,92,39,34]:List UInt8).getD j 0)else c_ c j
theorem BQ (c:UInt8):(c_ c 6).1++[(c_ c 6).2]=sG c:=by
 have: ∀n:Fin 256,(c_ (UInt8.ofNat n.val) 6).1++[(c_ (UInt8.ofNat n.val) 6).2]=sG (UInt8.ofNat n.val):=by decide+kernel
 have h:=this ⟨c.toNat,c.toNat_lt⟩;rwa [iB]at h
theorem wq {l:List UInt8} {j:Nat} (h:j<l.length):fJ (l.take (j+1))=fJ (l.take j)++sG l[j]:=by
 rw[aM h,wu];simp[fJ]
theorem dl {T e:TypeId} {B b:Nat} {bs:List Value} {w w':World} (h:Lib.IsBuilder T e B b bs w) (he:au w w'):Lib.IsBuilder T e B b bs w':=by
 have key: ∀p,Lib.BuilderAt T e B b p bs w->Lib.BuilderAt T e B b p bs w':=by
  rintro p ⟨hB,v,hb,hown,hne⟩;have hlt:b<w.heap.size:=(Array.getElem?_eq_some_iff.1 hb).1;exact⟨hB,v,(he.obj hlt).trans hb,World.ownsRow.kept hown (he.grownBy none) (by cases v.ownBlock<;>simp),hne⟩
 exact h.imp (key _) (key _)
theorem uy (l:List UInt8) (c:UInt8) (n:Int) (hn:(c.toNat:Int)=n):Lib.byteCells l++[.int .u8 n]=Lib.byteCells (l++[c]):=by
 subst hn;simp[Lib.byteCells]
theorem js (B b:Nat) (l:List UInt8) (c:UInt8) (n:Int) (hn:(c.toNat:Int)=n) (w:World) (h:Lib.IsBuilder 215 5 B b (Lib.byteCells l) w) (hl:l.length<=1000000) (hB:B<=w.heap.size):
  Calls prog 265 #[.pointer (some ⟨b,0,none⟩), .int .u8 n] w fun e w'=>e= .returned .nilIface/\Lib.IsBuilder 215 5 B b (Lib.byteCells (l++[c])) w'/\Below B w w':=by
 refine(Tryz.Builder_WriteByte B b (Lib.byteCells l) n w h (by rw[Lib.byteCells_length];omega) hB).mono ?_;rintro e w' ⟨rfl,h1,h2⟩;rw[uy l c n hn]at h1;exact⟨rfl, .inr h1,h2⟩
def tm (c:UInt8) (b:List UInt8) (w0:World) (j:Nat) (vc:Value) (wr:World):Prop:=
 vc= .int .u8 ((c_ c j).2.toNat:Int)/\Lib.IsBuilder 215 5 w0.heap.size w0.heap.size (Lib.byteCells (b++(c_ c j).1)) wr/\au w0 wr
theorem wn (l:List UInt8) (hl:l.length<=100000) (w:World):Calls prog 255 #[.string (an l)] w fun e w'=>e= .returned (.string (an (ll l)))/\au w w':=by
 have hsz:(an l).size=l.length:=aU l;have HX0:=G (aa w (.cells #[.pointer none, .slice none 0 0] 215));have HB0:=G (show Lib.IsBuilder 215 5 w.heap.size w.heap.size (Lib.byteCells []) (w.alloc (.cells #[.pointer none, .slice none 0 0] 215))from Lib.fresh_isBuilder _ _ w);go_enter func255,ntmps255;go_wp2_with (go_at_call 265;refine(js w.heap.size w.heap.size [] 34 34 rfl _ HB0.out (aC _) HX0.out.size).mono ?_;rintro e w1 ⟨rfl,hB1,hE1⟩;have HB1:=G hB1;have HE1:=G (show au w _ from RowKit.Below.trans HX0.out hE1);clear hB1 hE1)
 go_loopw [10] (fun vi wr=> ∃j:Nat,vi= .int .i64 (j:Int)/\j<=l.length/\Hid (Lib.IsBuilder 215 5 w.heap.size w.heap.size (Lib.byteCells (34::fJ (l.take j))) wr)/\Hid (au w wr)) (fun vi _=>l.length-(intOf vi).toNat)
 case atStart=>exact⟨0,rfl,aC _,G (by simpa[fJ]using HB1.out),HE1⟩
 case round=>
  obtain⟨j,rfl,hj,HB,HX⟩:=hrel;have hzr:=HX.out.size;by_cases hlt:j<l.length
  ·have hjs:j<(an l).size:=by rw[aU];exact hlt
   have hg:=lC l j hjs;have hlt':(j:Int)<l.length:=by omega
   have HS:=G (wq hlt);have HB2:=G (show((34::fJ (l.take j)):List UInt8).length<=200001 from by have:=gX (l.take j);rw[aW]at this;simp only[ae];omega);generalize l[j]'hlt=c at*;generalize hbq:34::fJ (l.take j)=b at*;have HS2:=G (show 34::fJ (l.take (j+1))=b++sG c by rw[HS.out,<-hbq];rfl);clear hbq HS;have HQ:=G (show tm c b w 0 (.int .u8 (c.toNat:Int)) wr from⟨rfl,by simpa[c_]using HB.out,HX.out⟩);clear HB HX;go_wp2_with fail
   go_loopw [5,6] (fun vc vk wi=>(vk= .int .i64 0/\tm c b w 0 vc wi)\/(vk= .int .i64 2/\tm c b w 1 vc wi)\/(vk= .int .i64 4/\tm c b w 2 vc wi)\/(vk= .int .i64 6/\tm c b w 3 vc wi)\/(vk= .int .i64 8/\tm c b w 4 vc wi)\/(vk= .int .i64 10/\tm c b w 5 vc wi)\/(vk= .int .i64 12/\tm c b w 6 vc wi)) (fun _ vk _=>13-(intOf vk).toNat)
   case atStart=>exact .inl ⟨rfl,HQ.out⟩
   case round=>
    rcases hrel with⟨rfl,HR⟩|⟨rfl,HR⟩|⟨rfl,HR⟩|⟨rfl,HR⟩|⟨rfl,HR⟩|⟨rfl,HR⟩|⟨rfl,HR⟩
    ·obtain⟨rfl,hB,hE⟩:=HR;have k1: ∀h,(⟨#[10,110,9,116,0,48,92,92,39,39,34,34]⟩:ByteArray)[0]'h=10:=fun _=>rfl;have k2: ∀h,(⟨#[10,110,9,116,0,48,92,92,39,39,34,34]⟩:ByteArray)[1]'h=110:=fun _=>rfl;have HB:=G hB;have HX:=G hE;clear hB hE;by_cases hd:c=10
     ·have hde:((c.toNat:Int)==10)=true:=by rw[hd];rfl
      have hde2:((10:Int)==(c.toNat:Int))=true:=by rw[hd];rfl
      have e0:c_ c 0=([],c):=by rw[hd];rfl
      have e1:c_ c 1=([92],110):=by rw[hd];rfl
      clear hd;rw[e0]at HB⊢;simp only[dH]at HB;have E1:=G e1;clear e0 e1;go_wp2_with fail;refine ay 6 1 [] mixed (by kernel_rfl) trivial ?_;repeat (refine sx ?_ (fun w1 hU=> ?_) ?_;rotate_left;(focus clear hU;go_simp<;>with_reducible rfl);simp only[bH,bG,bF,bE,bD])
      intro w7 hw7 _;simp only[ac,aO];have HX7:=G (HX.out.trans hw7.un);have HB7:=G (dl HB.out hw7.un);have hz7:=HX7.out.size;clear hw7 HX HB;go_wp2_with (go_at_call 265;refine(js w.heap.size w.heap.size b 92 92 rfl w7 HB7.out (by have:=HB2.out;omega) hz7).mono ?_;rintro e w8 ⟨rfl,hB8,hE8⟩;have HB8:=G hB8;have HE8:=G (show au w _ from RowKit.Below.trans HX7.out hE8);clear hB8 hE8 HB7);go_roundw
      case rel=>exact .inr (.inl ⟨rfl,⟨by rw[E1.out];rfl,by rw[E1.out];exact HB8.out,HE8.out⟩⟩)
      case measure=>simp[intOf]
     ·have hde:((c.toNat:Int)==10)=false:=(dP c 10 (by omega)).trans (beq_eq_false_iff_ne.2 hd);have hde2:((10:Int)==(c.toNat:Int))=false:=by rw[beq_eq_false_iff_ne]at hde⊢;exact fun e=>hde e.symm
      have E1:=G (show c_ c 1=c_ c 0 from if_neg hd);generalize c_ c 0=q at*;obtain⟨pr,q⟩:=q;clear hd;go_wp2_with fail;refine ay 6 1 [] mixed (by kernel_rfl) trivial ?_;repeat (refine sx ?_ (fun w1 hU=> ?_) ?_;rotate_left;(focus clear hU;go_simp<;>with_reducible rfl);simp only[bH,bG,bF,bE,bD])
      intro w7 hw7 _;simp only[ac,aO];have HX7:=G (HX.out.trans hw7.un);have HB7:=G (dl HB.out hw7.un);clear hw7 HX HB;go_wp2_with fail;go_roundw
      case rel=>exact .inr (.inl ⟨rfl,⟨by rw[E1.out],by rw[E1.out];exact HB7.out,HX7.out⟩⟩)
      case measure=>simp[intOf]
    ·obtain⟨rfl,hB,hE⟩:=HR;have k1: ∀h,(⟨#[10,110,9,116,0,48,92,92,39,39,34,34]⟩:ByteArray)[2]'h=9:=fun _=>rfl;have k2: ∀h,(⟨#[10,110,9,116,0,48,92,92,39,39,34,34]⟩:ByteArray)[3]'h=116:=fun _=>rfl;have HB:=G hB;have HX:=G hE;clear hB hE;by_cases hd:c=9
     ·have hde:((c.toNat:Int)==9)=true:=by rw[hd];rfl
      have hde2:((9:Int)==(c.toNat:Int))=true:=by rw[hd];rfl
      have e0:c_ c 1=([],c):=by rw[hd];rfl
      have e1:c_ c 2=([92],116):=by rw[hd];rfl
      clear hd;rw[e0]at HB⊢;simp only[dH]at HB;have E1:=G e1;clear e0 e1;go_wp2_with fail;refine ay 6 1 [] mixed (by kernel_rfl) trivial ?_;repeat (refine sx ?_ (fun w1 hU=> ?_) ?_;rotate_left;(focus clear hU;go_simp<;>with_reducible rfl);simp only[bH,bG,bF,bE,bD])
      intro w7 hw7 _;simp only[ac,aO];have HX7:=G (HX.out.trans hw7.un);have HB7:=G (dl HB.out hw7.un);have hz7:=HX7.out.size;clear hw7 HX HB;go_wp2_with (go_at_call 265;refine(js w.heap.size w.heap.size b 92 92 rfl w7 HB7.out (by have:=HB2.out;omega) hz7).mono ?_;rintro e w8 ⟨rfl,hB8,hE8⟩;have HB8:=G hB8;have HE8:=G (show au w _ from RowKit.Below.trans HX7.out hE8);clear hB8 hE8 HB7);go_roundw
      case rel=>exact .inr (.inr (.inl ⟨rfl,⟨by rw[E1.out];rfl,by rw[E1.out];exact HB8.out,HE8.out⟩⟩))
      case measure=>simp[intOf]
     ·have hde:((c.toNat:Int)==9)=false:=(dP c 9 (by omega)).trans (beq_eq_false_iff_ne.2 hd);have hde2:((9:Int)==(c.toNat:Int))=false:=by rw[beq_eq_false_iff_ne]at hde⊢;exact fun e=>hde e.symm
      have E1:=G (show c_ c 2=c_ c 1 from if_neg hd);generalize c_ c 1=q at*;obtain⟨pr,q⟩:=q;clear hd;go_wp2_with fail;refine ay 6 1 [] mixed (by kernel_rfl) trivial ?_;repeat (refine sx ?_ (fun w1 hU=> ?_) ?_;rotate_left;(focus clear hU;go_simp<;>with_reducible rfl);simp only[bH,bG,bF,bE,bD])
      intro w7 hw7 _;simp only[ac,aO];have HX7:=G (HX.out.trans hw7.un);have HB7:=G (dl HB.out hw7.un);clear hw7 HX HB;go_wp2_with fail;go_roundw
      case rel=>exact .inr (.inr (.inl ⟨rfl,⟨by rw[E1.out],by rw[E1.out];exact HB7.out,HX7.out⟩⟩))
      case measure=>simp[intOf]
    ·obtain⟨rfl,hB,hE⟩:=HR;have k1: ∀h,(⟨#[10,110,9,116,0,48,92,92,39,39,34,34]⟩:ByteArray)[4]'h=0:=fun _=>rfl;have k2: ∀h,(⟨#[10,110,9,116,0,48,92,92,39,39,34,34]⟩:ByteArray)[5]'h=48:=fun _=>rfl;have HB:=G hB;have HX:=G hE;clear hB hE;by_cases hd:c=0
     ·have hde:((c.toNat:Int)==0)=true:=by rw[hd];rfl
      have hde2:((0:Int)==(c.toNat:Int))=true:=by rw[hd];rfl
      have e0:c_ c 2=([],c):=by rw[hd];rfl
      have e1:c_ c 3=([92],48):=by rw[hd];rfl
      clear hd;rw[e0]at HB⊢;simp only[dH]at HB;have E1:=G e1;clear e0 e1;go_wp2_with fail;refine ay 6 1 [] mixed (by kernel_rfl) trivial ?_;repeat (refine sx ?_ (fun w1 hU=> ?_) ?_;rotate_left;(focus clear hU;go_simp<;>with_reducible rfl);simp only[bH,bG,bF,bE,bD])
      intro w7 hw7 _;simp only[ac,aO];have HX7:=G (HX.out.trans hw7.un);have HB7:=G (dl HB.out hw7.un);have hz7:=HX7.out.size;clear hw7 HX HB;go_wp2_with (go_at_call 265;refine(js w.heap.size w.heap.size b 92 92 rfl w7 HB7.out (by have:=HB2.out;omega) hz7).mono ?_;rintro e w8 ⟨rfl,hB8,hE8⟩;have HB8:=G hB8;have HE8:=G (show au w _ from RowKit.Below.trans HX7.out hE8);clear hB8 hE8 HB7);go_roundw
      case rel=>exact .inr (.inr (.inr (.inl ⟨rfl,⟨by rw[E1.out];rfl,by rw[E1.out];exact HB8.out,HE8.out⟩⟩)))
      case measure=>simp[intOf]
     ·have hde:((c.toNat:Int)==0)=false:=(dP c 0 (by omega)).trans (beq_eq_false_iff_ne.2 hd);have hde2:((0:Int)==(c.toNat:Int))=false:=by rw[beq_eq_false_iff_ne]at hde⊢;exact fun e=>hde e.symm
      have E1:=G (show c_ c 3=c_ c 2 from if_neg hd);generalize c_ c 2=q at*;obtain⟨pr,q⟩:=q;clear hd;go_wp2_with fail;refine ay 6 1 [] mixed (by kernel_rfl) trivial ?_;repeat (refine sx ?_ (fun w1 hU=> ?_) ?_;rotate_left;(focus clear hU;go_simp<;>with_reducible rfl);simp only[bH,bG,bF,bE,bD])
      intro w7 hw7 _;simp only[ac,aO];have HX7:=G (HX.out.trans hw7.un);have HB7:=G (dl HB.out hw7.un);clear hw7 HX HB;go_wp2_with fail;go_roundw
      case rel=>exact .inr (.inr (.inr (.inl ⟨rfl,⟨by rw[E1.out],by rw[E1.out];exact HB7.out,HX7.out⟩⟩)))
      case measure=>simp[intOf]
    ·obtain⟨rfl,hB,hE⟩:=HR;have k1: ∀h,(⟨#[10,110,9,116,0,48,92,92,39,39,34,34]⟩:ByteArray)[6]'h=92:=fun _=>rfl;have k2: ∀h,(⟨#[10,110,9,116,0,48,92,92,39,39,34,34]⟩:ByteArray)[7]'h=92:=fun _=>rfl;have HB:=G hB;have HX:=G hE;clear hB hE;by_cases hd:c=92
     ·have hde:((c.toNat:Int)==92)=true:=by rw[hd];rfl
      have hde2:((92:Int)==(c.toNat:Int))=true:=by rw[hd];rfl
      have e0:c_ c 3=([],c):=by rw[hd];rfl
      have e1:c_ c 4=([92],92):=by rw[hd];rfl
      clear hd;rw[e0]at HB⊢;simp only[dH]at HB;have E1:=G e1;clear e0 e1;go_wp2_with fail;refine ay 6 1 [] mixed (by kernel_rfl) trivial ?_;repeat (refine sx ?_ (fun w1 hU=> ?_) ?_;rotate_left;(focus clear hU;go_simp<;>with_reducible rfl);simp only[bH,bG,bF,bE,bD])
      intro w7 hw7 _;simp only[ac,aO];have HX7:=G (HX.out.trans hw7.un);have HB7:=G (dl HB.out hw7.un);have hz7:=HX7.out.size;clear hw7 HX HB;go_wp2_with (go_at_call 265;refine(js w.heap.size w.heap.size b 92 92 rfl w7 HB7.out (by have:=HB2.out;omega) hz7).mono ?_;rintro e w8 ⟨rfl,hB8,hE8⟩;have HB8:=G hB8;have HE8:=G (show au w _ from RowKit.Below.trans HX7.out hE8);clear hB8 hE8 HB7);go_roundw
      case rel=>exact .inr (.inr (.inr (.inr (.inl ⟨rfl,⟨by rw[E1.out];rfl,by rw[E1.out];exact HB8.out,HE8.out⟩⟩))))
      case measure=>simp[intOf]
     ·have hde:((c.toNat:Int)==92)=false:=(dP c 92 (by omega)).trans (beq_eq_false_iff_ne.2 hd);have hde2:((92:Int)==(c.toNat:Int))=false:=by rw[beq_eq_false_iff_ne]at hde⊢;exact fun e=>hde e.symm
      have E1:=G (show c_ c 4=c_ c 3 from if_neg hd);generalize c_ c 3=q at*;obtain⟨pr,q⟩:=q;clear hd;go_wp2_with fail;refine ay 6 1 [] mixed (by kernel_rfl) trivial ?_;repeat (refine sx ?_ (fun w1 hU=> ?_) ?_;rotate_left;(focus clear hU;go_simp<;>with_reducible rfl);simp only[bH,bG,bF,bE,bD])
      intro w7 hw7 _;simp only[ac,aO];have HX7:=G (HX.out.trans hw7.un);have HB7:=G (dl HB.out hw7.un);clear hw7 HX HB;go_wp2_with fail;go_roundw
      case rel=>exact .inr (.inr (.inr (.inr (.inl ⟨rfl,⟨by rw[E1.out],by rw[E1.out];exact HB7.out,HX7.out⟩⟩))))
      case measure=>simp[intOf]
    ·obtain⟨rfl,hB,hE⟩:=HR;have k1: ∀h,(⟨#[10,110,9,116,0,48,92,92,39,39,34,34]⟩:ByteArray)[8]'h=39:=fun _=>rfl;have k2: ∀h,(⟨#[10,110,9,116,0,48,92,92,39,39,34,34]⟩:ByteArray)[9]'h=39:=fun _=>rfl;have HB:=G hB;have HX:=G hE;clear hB hE;by_cases hd:c=39
     ·have hde:((c.toNat:Int)==39)=true:=by rw[hd];rfl
      have hde2:((39:Int)==(c.toNat:Int))=true:=by rw[hd];rfl
      have e0:c_ c 4=([],c):=by rw[hd];rfl
      have e1:c_ c 5=([92],39):=by rw[hd];rfl
      clear hd;rw[e0]at HB⊢;simp only[dH]at HB;have E1:=G e1;clear e0 e1;go_wp2_with fail;refine ay 6 1 [] mixed (by kernel_rfl) trivial ?_;repeat (refine sx ?_ (fun w1 hU=> ?_) ?_;rotate_left;(focus clear hU;go_simp<;>with_reducible rfl);simp only[bH,bG,bF,bE,bD])
      intro w7 hw7 _;simp only[ac,aO];have HX7:=G (HX.out.trans hw7.un);have HB7:=G (dl HB.out hw7.un);have hz7:=HX7.out.size;clear hw7 HX HB;go_wp2_with (go_at_call 265;refine(js w.heap.size w.heap.size b 92 92 rfl w7 HB7.out (by have:=HB2.out;omega) hz7).mono ?_;rintro e w8 ⟨rfl,hB8,hE8⟩;have HB8:=G hB8;have HE8:=G (show au w _ from RowKit.Below.trans HX7.out hE8);clear hB8 hE8 HB7);go_roundw
      case rel=>exact .inr (.inr (.inr (.inr (.inr (.inl ⟨rfl,⟨by rw[E1.out];rfl,by rw[E1.out];exact HB8.out,HE8.out⟩⟩)))))
      case measure=>simp[intOf]
     ·have hde:((c.toNat:Int)==39)=false:=(dP c 39 (by omega)).trans (beq_eq_false_iff_ne.2 hd);have hde2:((39:Int)==(c.toNat:Int))=false:=by rw[beq_eq_false_iff_ne]at hde⊢;exact fun e=>hde e.symm
      have E1:=G (show c_ c 5=c_ c 4 from if_neg hd);generalize c_ c 4=q at*;obtain⟨pr,q⟩:=q;clear hd;go_wp2_with fail;refine ay 6 1 [] mixed (by kernel_rfl) trivial ?_;repeat (refine sx ?_ (fun w1 hU=> ?_) ?_;rotate_left;(focus clear hU;go_simp<;>with_reducible rfl);simp only[bH,bG,bF,bE,bD])
      intro w7 hw7 _;simp only[ac,aO];have HX7:=G (HX.out.trans hw7.un);have HB7:=G (dl HB.out hw7.un);clear hw7 HX HB;go_wp2_with fail;go_roundw
      case rel=>exact .inr (.inr (.inr (.inr (.inr (.inl ⟨rfl,⟨by rw[E1.out],by rw[E1.out];exact HB7.out,HX7.out⟩⟩)))))
      case measure=>simp[intOf]
    ·obtain⟨rfl,hB,hE⟩:=HR;have k1: ∀h,(⟨#[10,110,9,116,0,48,92,92,39,39,34,34]⟩:ByteArray)[10]'h=34:=fun _=>rfl;have k2: ∀h,(⟨#[10,110,9,116,0,48,92,92,39,39,34,34]⟩:ByteArray)[11]'h=34:=fun _=>rfl;have HB:=G hB;have HX:=G hE;clear hB hE;by_cases hd:c=34
     ·have hde:((c.toNat:Int)==34)=true:=by rw[hd];rfl
      have hde2:((34:Int)==(c.toNat:Int))=true:=by rw[hd];rfl
      have e0:c_ c 5=([],c):=by rw[hd];rfl
      have e1:c_ c 6=([92],34):=by rw[hd];rfl
      clear hd;rw[e0]at HB⊢;simp only[dH]at HB;have E1:=G e1;clear e0 e1;go_wp2_with fail;refine ay 6 1 [] mixed (by kernel_rfl) trivial ?_;repeat (refine sx ?_ (fun w1 hU=> ?_) ?_;rotate_left;(focus clear hU;go_simp<;>with_reducible rfl);simp only[bH,bG,bF,bE,bD])
      intro w7 hw7 _;simp only[ac,aO];have HX7:=G (HX.out.trans hw7.un);have HB7:=G (dl HB.out hw7.un);have hz7:=HX7.out.size;clear hw7 HX HB;go_wp2_with (go_at_call 265;refine(js w.heap.size w.heap.size b 92 92 rfl w7 HB7.out (by have:=HB2.out;omega) hz7).mono ?_;rintro e w8 ⟨rfl,hB8,hE8⟩;have HB8:=G hB8;have HE8:=G (show au w _ from RowKit.Below.trans HX7.out hE8);clear hB8 hE8 HB7);go_roundw
      case rel=>exact .inr (.inr (.inr (.inr (.inr (.inr (⟨rfl,⟨by rw[E1.out];rfl,by rw[E1.out];exact HB8.out,HE8.out⟩⟩))))))
      case measure=>simp[intOf]
     ·have hde:((c.toNat:Int)==34)=false:=(dP c 34 (by omega)).trans (beq_eq_false_iff_ne.2 hd);have hde2:((34:Int)==(c.toNat:Int))=false:=by rw[beq_eq_false_iff_ne]at hde⊢;exact fun e=>hde e.symm
      have E1:=G (show c_ c 6=c_ c 5 from if_neg hd);generalize c_ c 5=q at*;obtain⟨pr,q⟩:=q;clear hd;go_wp2_with fail;refine ay 6 1 [] mixed (by kernel_rfl) trivial ?_;repeat (refine sx ?_ (fun w1 hU=> ?_) ?_;rotate_left;(focus clear hU;go_simp<;>with_reducible rfl);simp only[bH,bG,bF,bE,bD])
      intro w7 hw7 _;simp only[ac,aO];have HX7:=G (HX.out.trans hw7.un);have HB7:=G (dl HB.out hw7.un);clear hw7 HX HB;go_wp2_with fail;go_roundw
      case rel=>exact .inr (.inr (.inr (.inr (.inr (.inr (⟨rfl,⟨by rw[E1.out],by rw[E1.out];exact HB7.out,HX7.out⟩⟩))))))
      case measure=>simp[intOf]
    ·obtain⟨rfl,hB,hE⟩:=HR;have HB:=G hB;have HX:=G hE;have hz6:=hE.size;have HQ6:=G (BQ c);clear hB hE;have hpr:(c_ c 6).1.length<=1:=by
      have h1:=congrArg List.length HQ6.out;have h2:=(mZ c).2;rw[ab]at h1;simp only[ae,ag]at h1;omega
     generalize c_ c 6=q at*;obtain⟨pr,q⟩:=q;go_wp2_with (go_at_call 265;refine(js w.heap.size w.heap.size (b++pr) q (q.toNat:Int) rfl _ HB.out (by have:=HB2.out;rw[ab];simp only at hpr;omega) hz6).mono ?_;rintro e w8 ⟨rfl,hB8,hE8⟩;have HB8:=G hB8;have HE8:=G (show au w _ from RowKit.Below.trans HX.out hE8);clear hB8 hE8 HB);go_roundw
     case rel=>exact⟨j+1,by go_num,by omega,G (by rw[HS2.out,<-HQ6.out,<-aJ];exact HB8.out),HE8⟩
     case measure=>simp[intOf];omega
  ·have hlt': ¬(j:Int)<l.length:=by omega
   have HJ:=G (show l.take j=l from bh (by omega));have HB2:=G (show((34::fJ l):List UInt8).length<=200001 from by have:=gX l;simp only[ae];omega);have HB3:=G (show Lib.IsBuilder 215 5 w.heap.size w.heap.size (Lib.byteCells (34::fJ l)) wr from by have:=HB.out;rwa [HJ.out]at this);clear HB HJ
   go_wp2_with (first
    |(go_at_call 265;refine(js w.heap.size w.heap.size (34::fJ l) 34 34 rfl _ HB3.out (by have:=HB2.out;omega) hzr).mono ?_;rintro e w8 ⟨rfl,hB8,hE8⟩;have HB8:=G hB8;have HE8:=G (show au w _ from RowKit.Below.trans HX.out hE8);clear hB8 hE8)
    |(go_at_call 122;refine(Tryz.Builder_String_any w.heap.size w.heap.size _ _ HB8.out HE8.out.size).mono ?_;rintro e w9 ⟨rfl,hE9⟩;have HE9:=G (show au w _ from RowKit.Below.trans HE8.out hE9);clear hE9))
   go_ret;exact⟨rfl,HE9.out⟩
end
section
open Go.RowKit
end
end Go.Proofs.YtoedmpgicdekmaaGreatDoor
