/-
  Parts of the proof: VaLexZc VaLexZd.
-/
import Derived.Test.YtddomeddabfinaaGreatDoorTu00
import Derived.Test.YtddomeddabfinaaGreatDoorTu04
import Derived.Test.YtddomeddabfinaaGreatDoorTu05
import Derived.Test.YtddomeddabfinaaGreatDoorTu07
import Derived.Test.YtddomeddabfinaaGreatDoorTu08
set_option maxRecDepth 100000
set_option maxHeartbeats 8000000
set_option linter.unusedVariables false
set_option linter.unusedSimpArgs false
set_option linter.unusedSectionVars false
namespace Go.Proofs.YtddomeddabfinaaGreatDoor
open Go.Proofs.Tryz
section
open Go.RowKit
def bY (c:UInt8):Nat->List UInt8×UInt8
 |0=>([],c)
 |j+1=>if c=([10,9,0,92,39,34]:List UInt8).getD j 0 then([92],([110,116,48,92,39,34]:List UInt8).getD j 0)else bY c j
theorem sj (c:UInt8):(bY c 6).1++[(bY c 6).2]=m9 c:=by
 have: ∀n:Fin 256,(bY (UInt8.ofNat n.val) 6).1++[(bY (UInt8.ofNat n.val) 6).2]=m9 (UInt8.ofNat n.val):=by decide+kernel
 have h:=this ⟨c.toNat,c.toNat_lt⟩;rwa [fe]at h
theorem nI {l:List UInt8} {j:Nat} (h:j<l.length):dU (l.take (j+1))=dU (l.take j)++m9 l[j]:=by
 rw[aD h,s5];simp[dU]
theorem cZ {T e:TypeId} {B b:Nat} {bs:List Value} {w w':World} (h:Lib.IsBuilder T e B b bs w) (he:au w w'):Lib.IsBuilder T e B b bs w':=by
 have key: ∀p,Lib.BuilderAt T e B b p bs w->Lib.BuilderAt T e B b p bs w':=by
  rintro p ⟨hB,v,hb,hown,hne⟩;have hlt:b<w.heap.size:=(Array.getElem?_eq_some_iff.1 hb).1;exact⟨hB,v,(he.obj hlt).trans hb,World.ownsRow.kept hown (he.grownBy none) (by cases v.ownBlock<;>simp),hne⟩
 exact h.imp (key _) (key _)
theorem rq (l:List UInt8) (c:UInt8) (n:Int) (hn:(c.toNat:Int)=n):Lib.byteCells l++[.int .u8 n]=Lib.byteCells (l++[c]):=by
 subst hn;simp[Lib.byteCells]
theorem iQ (B b:Nat) (l:List UInt8) (c:UInt8) (n:Int) (hn:(c.toNat:Int)=n) (w:World) (h:Lib.IsBuilder 193 5 B b (Lib.byteCells l) w) (hl:l.length<=1000000) (hB:B<=w.heap.size):
  Calls prog 227 #[.pointer (some ⟨b,0,none⟩), .int .u8 n] w fun e w'=>e= .returned .nilIface/\Lib.IsBuilder 193 5 B b (Lib.byteCells (l++[c])) w'/\Below B w w':=by
 refine(Tryz.Builder_WriteByte B b (Lib.byteCells l) n w h (by rw[Lib.byteCells_length];omega) hB).mono ?_;rintro e w' ⟨rfl,h1,h2⟩;rw[rq l c n hn]at h1;exact⟨rfl, .inr h1,h2⟩
def qm (c:UInt8) (b:List UInt8) (w0:World) (j:Nat) (vc:Value) (wr:World):Prop:=
 vc= .int .u8 ((bY c j).2.toNat:Int)/\Lib.IsBuilder 193 5 w0.heap.size w0.heap.size (Lib.byteCells (b++(bY c j).1)) wr/\au w0 wr
theorem sZ (l:List UInt8) (hl:l.length<=100000) (w:World):Calls prog 215 #[.string (ag l)] w fun e w'=>e= .returned (.string (ag (gJ l)))/\au w w':=by
 have hsz:(ag l).size=l.length:=aL l;have HX0:=G (O w (.cells #[.pointer none, .slice none 0 0] 193));have HB0:=G (show Lib.IsBuilder 193 5 w.heap.size w.heap.size (Lib.byteCells []) (w.alloc (.cells #[.pointer none, .slice none 0 0] 193))from Lib.fresh_isBuilder _ _ w);go_enter func215,ntmps215;go_wp2_with (go_at_call 227;refine(iQ w.heap.size w.heap.size [] 34 34 rfl _ HB0.out (az _) HX0.out.size).mono ?_;rintro e w1 ⟨rfl,hB1,hE1⟩;have HB1:=G hB1;have HE1:=G (show au w _ from RowKit.Below.trans HX0.out hE1);clear hB1 hE1)
 go_loopw [10] (fun vi wr=> ∃j:Nat,vi= .int .i64 (j:Int)/\j<=l.length/\Hid (Lib.IsBuilder 193 5 w.heap.size w.heap.size (Lib.byteCells (34::dU (l.take j))) wr)/\Hid (au w wr)) (fun vi _=>l.length-(intOf vi).toNat)
 case atStart=>exact⟨0,rfl,az _,G (by simpa[dU]using HB1.out),HE1⟩
 case round=>
  obtain⟨j,rfl,hj,HB,HX⟩:=hrel;have hzr:=HX.out.size;by_cases hlt:j<l.length
  ·have hjs:j<(ag l).size:=by rw[aL];exact hlt
   have hg:=g8 l j hjs;have hlt':(j:Int)<l.length:=by omega
   have HS:=G (nI hlt);have HB2:=G (show((34::dU (l.take j)):List UInt8).length<=200001 from by have:=eK (l.take j);rw[dg]at this;simp only[ac];omega);generalize l[j]'hlt=c at*;generalize hbq:34::dU (l.take j)=b at*;have HS2:=G (show 34::dU (l.take (j+1))=b++m9 c by rw[HS.out,<-hbq];rfl);clear hbq HS;have HQ:=G (show qm c b w 0 (.int .u8 (c.toNat:Int)) wr from⟨rfl,by simpa[bY]using HB.out,HX.out⟩);clear HB HX;go_wp2_with fail
   go_loopw [5,6] (fun vc vk wi=>(vk= .int .i64 0/\qm c b w 0 vc wi)\/(vk= .int .i64 2/\qm c b w 1 vc wi)\/(vk= .int .i64 4/\qm c b w 2 vc wi)\/(vk= .int .i64 6/\qm c b w 3 vc wi)\/(vk= .int .i64 8/\qm c b w 4 vc wi)\/(vk= .int .i64 10/\qm c b w 5 vc wi)\/(vk= .int .i64 12/\qm c b w 6 vc wi)) (fun _ vk _=>13-(intOf vk).toNat)
   case atStart=>exact .inl ⟨rfl,HQ.out⟩
   case round=>
    rcases hrel with⟨rfl,HR⟩|⟨rfl,HR⟩|⟨rfl,HR⟩|⟨rfl,HR⟩|⟨rfl,HR⟩|⟨rfl,HR⟩|⟨rfl,HR⟩
    ·obtain⟨rfl,hB,hE⟩:=HR;have k1: ∀h,(⟨#[10,110,9,116,0,48,92,92,39,39,34,34]⟩:ByteArray)[0]'h=10:=fun _=>rfl;have k2: ∀h,(⟨#[10,110,9,116,0,48,92,92,39,39,34,34]⟩:ByteArray)[1]'h=110:=fun _=>rfl;have HB:=G hB;have HX:=G hE;clear hB hE;by_cases hd:c=10
     ·have hde:((c.toNat:Int)==10)=true:=by rw[hd];rfl
      have hde2:((10:Int)==(c.toNat:Int))=true:=by rw[hd];rfl
      have e0:bY c 0=([],c):=by rw[hd];rfl
      have e1:bY c 1=([92],110):=by rw[hd];rfl
      clear hd;rw[e0]at HB⊢;simp only[cO]at HB;have E1:=G e1;clear e0 e1;go_wp2_with fail;refine am 6 1 [] mixed (by kernel_rfl) trivial ?_;repeat (refine sx ?_ (fun w1 hU=> ?_) ?_;rotate_left;(focus clear hU;go_simp<;>with_reducible rfl);simp only[aU,aT,aS,aR,aQ])
      intro w7 hw7 _;simp only[ab,aG];have HX7:=G (HX.out.trans hw7.un);have HB7:=G (cZ HB.out hw7.un);have hz7:=HX7.out.size;clear hw7 HX HB;go_wp2_with (go_at_call 227;refine(iQ w.heap.size w.heap.size b 92 92 rfl w7 HB7.out (by have:=HB2.out;omega) hz7).mono ?_;rintro e w8 ⟨rfl,hB8,hE8⟩;have HB8:=G hB8;have HE8:=G (show au w _ from RowKit.Below.trans HX7.out hE8);clear hB8 hE8 HB7);go_roundw
      case rel=>exact .inr (.inl ⟨rfl,⟨by rw[E1.out];rfl,by rw[E1.out];exact HB8.out,HE8.out⟩⟩)
      case measure=>simp[intOf]
     ·have hde:((c.toNat:Int)==10)=false:=(cT c 10 (by omega)).trans (beq_eq_false_iff_ne.2 hd);have hde2:((10:Int)==(c.toNat:Int))=false:=by rw[beq_eq_false_iff_ne]at hde⊢;exact fun e=>hde e.symm
      have E1:=G (show bY c 1=bY c 0 from if_neg hd);generalize bY c 0=q at*;obtain⟨pr,q⟩:=q;clear hd;go_wp2_with fail;refine am 6 1 [] mixed (by kernel_rfl) trivial ?_;repeat (refine sx ?_ (fun w1 hU=> ?_) ?_;rotate_left;(focus clear hU;go_simp<;>with_reducible rfl);simp only[aU,aT,aS,aR,aQ])
      intro w7 hw7 _;simp only[ab,aG];have HX7:=G (HX.out.trans hw7.un);have HB7:=G (cZ HB.out hw7.un);clear hw7 HX HB;go_wp2_with fail;go_roundw
      case rel=>exact .inr (.inl ⟨rfl,⟨by rw[E1.out],by rw[E1.out];exact HB7.out,HX7.out⟩⟩)
      case measure=>simp[intOf]
    ·obtain⟨rfl,hB,hE⟩:=HR;have k1: ∀h,(⟨#[10,110,9,116,0,48,92,92,39,39,34,34]⟩:ByteArray)[2]'h=9:=fun _=>rfl;have k2: ∀h,(⟨#[10,110,9,116,0,48,92,92,39,39,34,34]⟩:ByteArray)[3]'h=116:=fun _=>rfl;have HB:=G hB;have HX:=G hE;clear hB hE;by_cases hd:c=9
     ·have hde:((c.toNat:Int)==9)=true:=by rw[hd];rfl
      have hde2:((9:Int)==(c.toNat:Int))=true:=by rw[hd];rfl
      have e0:bY c 1=([],c):=by rw[hd];rfl
      have e1:bY c 2=([92],116):=by rw[hd];rfl
      clear hd;rw[e0]at HB⊢;simp only[cO]at HB;have E1:=G e1;clear e0 e1;go_wp2_with fail;refine am 6 1 [] mixed (by kernel_rfl) trivial ?_;repeat (refine sx ?_ (fun w1 hU=> ?_) ?_;rotate_left;(focus clear hU;go_simp<;>with_reducible rfl);simp only[aU,aT,aS,aR,aQ])
      intro w7 hw7 _;simp only[ab,aG];have HX7:=G (HX.out.trans hw7.un);have HB7:=G (cZ HB.out hw7.un);have hz7:=HX7.out.size;clear hw7 HX HB;go_wp2_with (go_at_call 227;refine(iQ w.heap.size w.heap.size b 92 92 rfl w7 HB7.out (by have:=HB2.out;omega) hz7).mono ?_;rintro e w8 ⟨rfl,hB8,hE8⟩;have HB8:=G hB8;have HE8:=G (show au w _ from RowKit.Below.trans HX7.out hE8);clear hB8 hE8 HB7);go_roundw
      case rel=>exact .inr (.inr (.inl ⟨rfl,⟨by rw[E1.out];rfl,by rw[E1.out];exact HB8.out,HE8.out⟩⟩))
      case measure=>simp[intOf]
     ·have hde:((c.toNat:Int)==9)=false:=(cT c 9 (by omega)).trans (beq_eq_false_iff_ne.2 hd);have hde2:((9:Int)==(c.toNat:Int))=false:=by rw[beq_eq_false_iff_ne]at hde⊢;exact fun e=>hde e.symm
      have E1:=G (show bY c 2=bY c 1 from if_neg hd);generalize bY c 1=q at*;obtain⟨pr,q⟩:=q;clear hd;go_wp2_with fail;refine am 6 1 [] mixed (by kernel_rfl) trivial ?_;repeat (refine sx ?_ (fun w1 hU=> ?_) ?_;rotate_left;(focus clear hU;go_simp<;>with_reducible rfl);simp only[aU,aT,aS,aR,aQ])
      intro w7 hw7 _;simp only[ab,aG];have HX7:=G (HX.out.trans hw7.un);have HB7:=G (cZ HB.out hw7.un);clear hw7 HX HB;go_wp2_with fail;go_roundw
      case rel=>exact .inr (.inr (.inl ⟨rfl,⟨by rw[E1.out],by rw[E1.out];exact HB7.out,HX7.out⟩⟩))
      case measure=>simp[intOf]
    ·obtain⟨rfl,hB,hE⟩:=HR;have k1: ∀h,(⟨#[10,110,9,116,0,48,92,92,39,39,34,34]⟩:ByteArray)[4]'h=0:=fun _=>rfl;have k2: ∀h,(⟨#[10,110,9,116,0,48,92,92,39,39,34,34]⟩:ByteArray)[5]'h=48:=fun _=>rfl;have HB:=G hB;have HX:=G hE;clear hB hE;by_cases hd:c=0
     ·have hde:((c.toNat:Int)==0)=true:=by rw[hd];rfl
      have hde2:((0:Int)==(c.toNat:Int))=true:=by rw[hd];rfl
      have e0:bY c 2=([],c):=by rw[hd];rfl
      have e1:bY c 3=([92],48):=by rw[hd];rfl
      clear hd;rw[e0]at HB⊢;simp only[cO]at HB;have E1:=G e1;clear e0 e1;go_wp2_with fail;refine am 6 1 [] mixed (by kernel_rfl) trivial ?_;repeat (refine sx ?_ (fun w1 hU=> ?_) ?_;rotate_left;(focus clear hU;go_simp<;>with_reducible rfl);simp only[aU,aT,aS,aR,aQ])
      intro w7 hw7 _;simp only[ab,aG];have HX7:=G (HX.out.trans hw7.un);have HB7:=G (cZ HB.out hw7.un);have hz7:=HX7.out.size;clear hw7 HX HB;go_wp2_with (go_at_call 227;refine(iQ w.heap.size w.heap.size b 92 92 rfl w7 HB7.out (by have:=HB2.out;omega) hz7).mono ?_;rintro e w8 ⟨rfl,hB8,hE8⟩;have HB8:=G hB8;have HE8:=G (show au w _ from RowKit.Below.trans HX7.out hE8);clear hB8 hE8 HB7);go_roundw
      case rel=>exact .inr (.inr (.inr (.inl ⟨rfl,⟨by rw[E1.out];rfl,by rw[E1.out];exact HB8.out,HE8.out⟩⟩)))
      case measure=>simp[intOf]
     ·have hde:((c.toNat:Int)==0)=false:=(cT c 0 (by omega)).trans (beq_eq_false_iff_ne.2 hd);have hde2:((0:Int)==(c.toNat:Int))=false:=by rw[beq_eq_false_iff_ne]at hde⊢;exact fun e=>hde e.symm
      have E1:=G (show bY c 3=bY c 2 from if_neg hd);generalize bY c 2=q at*;obtain⟨pr,q⟩:=q;clear hd;go_wp2_with fail;refine am 6 1 [] mixed (by kernel_rfl) trivial ?_;repeat (refine sx ?_ (fun w1 hU=> ?_) ?_;rotate_left;(focus clear hU;go_simp<;>with_reducible rfl);simp only[aU,aT,aS,aR,aQ])
      intro w7 hw7 _;simp only[ab,aG];have HX7:=G (HX.out.trans hw7.un);have HB7:=G (cZ HB.out hw7.un);clear hw7 HX HB;go_wp2_with fail;go_roundw
      case rel=>exact .inr (.inr (.inr (.inl ⟨rfl,⟨by rw[E1.out],by rw[E1.out];exact HB7.out,HX7.out⟩⟩)))
      case measure=>simp[intOf]
    ·obtain⟨rfl,hB,hE⟩:=HR;have k1: ∀h,(⟨#[10,110,9,116,0,48,92,92,39,39,34,34]⟩:ByteArray)[6]'h=92:=fun _=>rfl;have k2: ∀h,(⟨#[10,110,9,116,0,48,92,92,39,39,34,34]⟩:ByteArray)[7]'h=92:=fun _=>rfl;have HB:=G hB;have HX:=G hE;clear hB hE;by_cases hd:c=92
     ·have hde:((c.toNat:Int)==92)=true:=by rw[hd];rfl
      have hde2:((92:Int)==(c.toNat:Int))=true:=by rw[hd];rfl
      have e0:bY c 3=([],c):=by rw[hd];rfl
      have e1:bY c 4=([92],92):=by rw[hd];rfl
      clear hd;rw[e0]at HB⊢;simp only[cO]at HB;have E1:=G e1;clear e0 e1;go_wp2_with fail;refine am 6 1 [] mixed (by kernel_rfl) trivial ?_;repeat (refine sx ?_ (fun w1 hU=> ?_) ?_;rotate_left;(focus clear hU;go_simp<;>with_reducible rfl);simp only[aU,aT,aS,aR,aQ])
      intro w7 hw7 _;simp only[ab,aG];have HX7:=G (HX.out.trans hw7.un);have HB7:=G (cZ HB.out hw7.un);have hz7:=HX7.out.size;clear hw7 HX HB;go_wp2_with (go_at_call 227;refine(iQ w.heap.size w.heap.size b 92 92 rfl w7 HB7.out (by have:=HB2.out;omega) hz7).mono ?_;rintro e w8 ⟨rfl,hB8,hE8⟩;have HB8:=G hB8;have HE8:=G (show au w _ from RowKit.Below.trans HX7.out hE8);clear hB8 hE8 HB7);go_roundw
      case rel=>exact .inr (.inr (.inr (.inr (.inl ⟨rfl,⟨by rw[E1.out];rfl,by rw[E1.out];exact HB8.out,HE8.out⟩⟩))))
      case measure=>simp[intOf]
     ·have hde:((c.toNat:Int)==92)=false:=(cT c 92 (by omega)).trans (beq_eq_false_iff_ne.2 hd);have hde2:((92:Int)==(c.toNat:Int))=false:=by rw[beq_eq_false_iff_ne]at hde⊢;exact fun e=>hde e.symm
      have E1:=G (show bY c 4=bY c 3 from if_neg hd);generalize bY c 3=q at*;obtain⟨pr,q⟩:=q;clear hd;go_wp2_with fail;refine am 6 1 [] mixed (by kernel_rfl) trivial ?_;repeat (refine sx ?_ (fun w1 hU=> ?_) ?_;rotate_left;(focus clear hU;go_simp<;>with_reducible rfl);simp only[aU,aT,aS,aR,aQ])
      intro w7 hw7 _;simp only[ab,aG];have HX7:=G (HX.out.trans hw7.un);have HB7:=G (cZ HB.out hw7.un);clear hw7 HX HB;go_wp2_with fail;go_roundw
      case rel=>exact .inr (.inr (.inr (.inr (.inl ⟨rfl,⟨by rw[E1.out],by rw[E1.out];exact HB7.out,HX7.out⟩⟩))))
      case measure=>simp[intOf]
    ·obtain⟨rfl,hB,hE⟩:=HR;have k1: ∀h,(⟨#[10,110,9,116,0,48,92,92,39,39,34,34]⟩:ByteArray)[8]'h=39:=fun _=>rfl;have k2: ∀h,(⟨#[10,110,9,116,0,48,92,92,39,39,34,34]⟩:ByteArray)[9]'h=39:=fun _=>rfl;have HB:=G hB;have HX:=G hE;clear hB hE;by_cases hd:c=39
     ·have hde:((c.toNat:Int)==39)=true:=by rw[hd];rfl
      have hde2:((39:Int)==(c.toNat:Int))=true:=by rw[hd];rfl
      have e0:bY c 4=([],c):=by rw[hd];rfl
      have e1:bY c 5=([92],39):=by rw[hd];rfl
      clear hd;rw[e0]at HB⊢;simp only[cO]at HB;have E1:=G e1;clear e0 e1;go_wp2_with fail;refine am 6 1 [] mixed (by kernel_rfl) trivial ?_;repeat (refine sx ?_ (fun w1 hU=> ?_) ?_;rotate_left;(focus clear hU;go_simp<;>with_reducible rfl);simp only[aU,aT,aS,aR,aQ])
      intro w7 hw7 _;simp only[ab,aG];have HX7:=G (HX.out.trans hw7.un);have HB7:=G (cZ HB.out hw7.un);have hz7:=HX7.out.size;clear hw7 HX HB;go_wp2_with (go_at_call 227;refine(iQ w.heap.size w.heap.size b 92 92 rfl w7 HB7.out (by have:=HB2.out;omega) hz7).mono ?_;rintro e w8 ⟨rfl,hB8,hE8⟩;have HB8:=G hB8;have HE8:=G (show au w _ from RowKit.Below.trans HX7.out hE8);clear hB8 hE8 HB7);go_roundw
      case rel=>exact .inr (.inr (.inr (.inr (.inr (.inl ⟨rfl,⟨by rw[E1.out];rfl,by rw[E1.out];exact HB8.out,HE8.out⟩⟩)))))
      case measure=>simp[intOf]
     ·have hde:((c.toNat:Int)==39)=false:=(cT c 39 (by omega)).trans (beq_eq_false_iff_ne.2 hd);have hde2:((39:Int)==(c.toNat:Int))=false:=by rw[beq_eq_false_iff_ne]at hde⊢;exact fun e=>hde e.symm
      have E1:=G (show bY c 5=bY c 4 from if_neg hd);generalize bY c 4=q at*;obtain⟨pr,q⟩:=q;clear hd;go_wp2_with fail;refine am 6 1 [] mixed (by kernel_rfl) trivial ?_;repeat (refine sx ?_ (fun w1 hU=> ?_) ?_;rotate_left;(focus clear hU;go_simp<;>with_reducible rfl);simp only[aU,aT,aS,aR,aQ])
      intro w7 hw7 _;simp only[ab,aG];have HX7:=G (HX.out.trans hw7.un);have HB7:=G (cZ HB.out hw7.un);clear hw7 HX HB;go_wp2_with fail;go_roundw
      case rel=>exact .inr (.inr (.inr (.inr (.inr (.inl ⟨rfl,⟨by rw[E1.out],by rw[E1.out];exact HB7.out,HX7.out⟩⟩)))))
      case measure=>simp[intOf]
    ·obtain⟨rfl,hB,hE⟩:=HR;have k1: ∀h,(⟨#[10,110,9,116,0,48,92,92,39,39,34,34]⟩:ByteArray)[10]'h=34:=fun _=>rfl;have k2: ∀h,(⟨#[10,110,9,116,0,48,92,92,39,39,34,34]⟩:ByteArray)[11]'h=34:=fun _=>rfl;have HB:=G hB;have HX:=G hE;clear hB hE;by_cases hd:c=34
     ·have hde:((c.toNat:Int)==34)=true:=by rw[hd];rfl
      have hde2:((34:Int)==(c.toNat:Int))=true:=by rw[hd];rfl
      have e0:bY c 5=([],c):=by rw[hd];rfl
      have e1:bY c 6=([92],34):=by rw[hd];rfl
      clear hd;rw[e0]at HB⊢;simp only[cO]at HB;have E1:=G e1;clear e0 e1;go_wp2_with fail;refine am 6 1 [] mixed (by kernel_rfl) trivial ?_;repeat (refine sx ?_ (fun w1 hU=> ?_) ?_;rotate_left;(focus clear hU;go_simp<;>with_reducible rfl);simp only[aU,aT,aS,aR,aQ])
      intro w7 hw7 _;simp only[ab,aG];have HX7:=G (HX.out.trans hw7.un);have HB7:=G (cZ HB.out hw7.un);have hz7:=HX7.out.size;clear hw7 HX HB;go_wp2_with (go_at_call 227;refine(iQ w.heap.size w.heap.size b 92 92 rfl w7 HB7.out (by have:=HB2.out;omega) hz7).mono ?_;rintro e w8 ⟨rfl,hB8,hE8⟩;have HB8:=G hB8;have HE8:=G (show au w _ from RowKit.Below.trans HX7.out hE8);clear hB8 hE8 HB7);go_roundw
      case rel=>exact .inr (.inr (.inr (.inr (.inr (.inr (⟨rfl,⟨by rw[E1.out];rfl,by rw[E1.out];exact HB8.out,HE8.out⟩⟩))))))
      case measure=>simp[intOf]
     ·have hde:((c.toNat:Int)==34)=false:=(cT c 34 (by omega)).trans (beq_eq_false_iff_ne.2 hd);have hde2:((34:Int)==(c.toNat:Int))=false:=by rw[beq_eq_false_iff_ne]at hde⊢;exact fun e=>hde e.symm
      have E1:=G (show bY c 6=bY c 5 from if_neg hd);generalize bY c 5=q at*;obtain⟨pr,q⟩:=q;clear hd;go_wp2_with fail;refine am 6 1 [] mixed (by kernel_rfl) trivial ?_;repeat (refine sx ?_ (fun w1 hU=> ?_) ?_;rotate_left;(focus clear hU;go_simp<;>with_reducible rfl);simp only[aU,aT,aS,aR,aQ])
      intro w7 hw7 _;simp only[ab,aG];have HX7:=G (HX.out.trans hw7.un);have HB7:=G (cZ HB.out hw7.un);clear hw7 HX HB;go_wp2_with fail;go_roundw
      case rel=>exact .inr (.inr (.inr (.inr (.inr (.inr (⟨rfl,⟨by rw[E1.out],by rw[E1.out];exact HB7.out,HX7.out⟩⟩))))))
      case measure=>simp[intOf]
    ·obtain⟨rfl,hB,hE⟩:=HR;have HB:=G hB;have HX:=G hE;have hz6:=hE.size;have HQ6:=G (sj c);clear hB hE;have hpr:(bY c 6).1.length<=1:=by
      have h1:=congrArg List.length HQ6.out;have h2:=(jF c).2;rw[aa]at h1;simp only[ac,ah]at h1;omega
     generalize bY c 6=q at*;obtain⟨pr,q⟩:=q;go_wp2_with (go_at_call 227;refine(iQ w.heap.size w.heap.size (b++pr) q (q.toNat:Int) rfl _ HB.out (by have:=HB2.out;rw[aa];simp only at hpr;omega) hz6).mono ?_;rintro e w8 ⟨rfl,hB8,hE8⟩;have HB8:=G hB8;have HE8:=G (show au w _ from RowKit.Below.trans HX.out hE8);clear hB8 hE8 HB);go_roundw
     case rel=>exact⟨j+1,by go_num,by omega,G (by rw[HS2.out,<-HQ6.out,<-aA];exact HB8.out),HE8⟩
     case measure=>simp[intOf];omega
  ·have hlt': ¬(j:Int)<l.length:=by omega
   have HJ:=G (show l.take j=l from aJ (by omega));have HB2:=G (show((34::dU l):List UInt8).length<=200001 from by have:=eK l;simp only[ac];omega);have HB3:=G (show Lib.IsBuilder 193 5 w.heap.size w.heap.size (Lib.byteCells (34::dU l)) wr from by have:=HB.out;rwa [HJ.out]at this);clear HB HJ
   go_wp2_with (first
    |(go_at_call 227;refine(iQ w.heap.size w.heap.size (34::dU l) 34 34 rfl _ HB3.out (by have:=HB2.out;omega) hzr).mono ?_;rintro e w8 ⟨rfl,hB8,hE8⟩;have HB8:=G hB8;have HE8:=G (show au w _ from RowKit.Below.trans HX.out hE8);clear hB8 hE8)
    |(go_at_call 95;refine(Tryz.Builder_String_any w.heap.size w.heap.size _ _ HB8.out HE8.out.size).mono ?_;rintro e w9 ⟨rfl,hE9⟩;have HE9:=G (show au w _ from RowKit.Below.trans HE8.out hE9);clear hE9))
   go_ret;exact⟨rfl,HE9.out⟩
end
section
open Go.RowKit
def iL (c:UInt8) (j:Nat):List UInt8:=(bY c j).1++[(bY c j).2]
def qk (c:UInt8) (w0:World) (j:Nat) (vc:Value) (wr:World):Prop:=vc= .string (ag (iL c j))/\au w0 wr
theorem qL (l:List UInt8) (hl:l.length<=100000) (w:World):Calls prog 207 #[.string (ag l)] w fun e w'=>e= .returned (.string (ag (gJ l)))/\au w w':=by
 have hsz:(ag l).size=l.length:=aL l;have hs92:(⟨#[92]⟩:ByteArray).size=1:=rfl;have hs34:(⟨#[34]⟩:ByteArray).size=1:=rfl;have hsm:(⟨#[110,116,48,92,39,34]⟩:ByteArray).size=6:=rfl;have hsv:(⟨#[10,9,0,92,39,34]⟩:ByteArray).size=6:=rfl;go_enter func207,ntmps207;go_wp2_with fail
 go_loopw [3,6] (fun vo vi wr=> ∃j:Nat,vo= .string (ag (34::dU (l.take j)))/\vi= .int .i64 (j:Int)/\j<=l.length/\Hid (au w wr)) (fun _ vi _=>l.length-(intOf vi).toNat)
 case atStart=>exact⟨0,rfl,rfl,az _,G (aH _)⟩
 case round=>
  obtain⟨j,rfl,rfl,hj,HX⟩:=hrel;by_cases hlt:j<l.length
  ·have hjs:j<(ag l).size:=by rw[aL];exact hlt
   have hg:=g8 l j hjs;have hlt':(j:Int)<l.length:=by omega
   have HS:=G (nI hlt);have hex:(ag l).extract j (j+1)=ag [l[j]]:=by
    rw[cA]
    congr 1
    rw[aD hlt,List.drop_append,dg,Nat.min_eq_left (by omega),Nat.sub_self,aB (by rw[dg];omega)];rfl
   have hb2:((34::dU (l.take j)):List UInt8).length<=200001:=by have:=eK (l.take j);rw[dg]at this;simp only[ac];omega
   generalize l[j]'hlt=c at*;generalize hbq:34::dU (l.take j)=b at*;have hsb:(ag b).size=b.length:=aL b;have HS2:=G (show 34::dU (l.take (j+1))=b++m9 c by rw[HS.out,<-hbq];rfl);clear hbq HS;have HQ:=G (show qk c w 0 (.string (ag [c])) wr from⟨rfl,HX.out⟩);clear HX;go_wp2_with fail
   go_loopw [7,8] (fun vc vk wi=>(vk= .int .i64 0/\qk c w 0 vc wi)\/(vk= .int .i64 1/\qk c w 1 vc wi)\/(vk= .int .i64 2/\qk c w 2 vc wi)\/(vk= .int .i64 3/\qk c w 3 vc wi)\/(vk= .int .i64 4/\qk c w 4 vc wi)\/(vk= .int .i64 5/\qk c w 5 vc wi)\/(vk= .int .i64 6/\qk c w 6 vc wi)) (fun _ vk _=>7-(intOf vk).toNat)
   case atStart=>exact .inl ⟨rfl,HQ.out⟩
   case round=>
    rcases hrel with⟨rfl,HR⟩|⟨rfl,HR⟩|⟨rfl,HR⟩|⟨rfl,HR⟩|⟨rfl,HR⟩|⟨rfl,HR⟩|⟨rfl,HR⟩
    ·obtain⟨rfl,hE⟩:=HR;have k2: ∀h,(⟨#[10,9,0,92,39,34]⟩:ByteArray)[0]'h=10:=fun _=>rfl;have HX:=G hE;clear hE;by_cases hd:c=10
     ·have hde:((c.toNat:Int)==10)=true:=by rw[hd];rfl
      have hde2:((10:Int)==(c.toNat:Int))=true:=by rw[hd];rfl
      have E1:=G (show iL c 1=[92,110] by rw[hd];rfl);have hx1:(⟨#[110,116,48,92,39,34]⟩:ByteArray).extract 0 1=ag [110]:=cA [110,116,48,92,39,34] 0 1;have hx2:(⟨#[92]⟩:ByteArray)++ag [110]=ag [92,110]:=cd [92] [110];have hx3:(ag [110]).size=1:=rfl;generalize iL c 0=q at*;clear hd;go_wp2_with fail;refine am 7 1 [] mixed (by kernel_rfl) trivial ?_;repeat (refine sx ?_ (fun w1 hU=> ?_) ?_;rotate_left;(focus clear hU;go_simp<;>with_reducible rfl);simp only[aU,aT,aS,aR,aQ])
      intro w7 hw7 _;simp only[ab,aG];have HX7:=G (HX.out.trans hw7.un);clear hw7 HX;go_wp2_with fail;go_roundw
      case rel=>exact .inr (.inl ⟨rfl,⟨by rw[E1.out],HX7.out⟩⟩)
      case measure=>simp[intOf]
     ·have hde:((c.toNat:Int)==10)=false:=(cT c 10 (by omega)).trans (beq_eq_false_iff_ne.2 hd);have hde2:((10:Int)==(c.toNat:Int))=false:=by rw[beq_eq_false_iff_ne]at hde⊢;exact fun e=>hde e.symm
      have E1:=G (show iL c 1=iL c 0 by unfold iL;rw[show bY c 1=bY c 0 from if_neg hd]);generalize iL c 0=q at*;clear hd;go_wp2_with fail;refine am 7 1 [] mixed (by kernel_rfl) trivial ?_;repeat (refine sx ?_ (fun w1 hU=> ?_) ?_;rotate_left;(focus clear hU;go_simp<;>with_reducible rfl);simp only[aU,aT,aS,aR,aQ])
      intro w7 hw7 _;simp only[ab,aG];have HX7:=G (HX.out.trans hw7.un);clear hw7 HX;go_wp2_with fail;go_roundw
      case rel=>exact .inr (.inl ⟨rfl,⟨by rw[E1.out],HX7.out⟩⟩)
      case measure=>simp[intOf]
    ·obtain⟨rfl,hE⟩:=HR;have k2: ∀h,(⟨#[10,9,0,92,39,34]⟩:ByteArray)[1]'h=9:=fun _=>rfl;have HX:=G hE;clear hE;by_cases hd:c=9
     ·have hde:((c.toNat:Int)==9)=true:=by rw[hd];rfl
      have hde2:((9:Int)==(c.toNat:Int))=true:=by rw[hd];rfl
      have E1:=G (show iL c 2=[92,116] by rw[hd];rfl);have hx1:(⟨#[110,116,48,92,39,34]⟩:ByteArray).extract 1 2=ag [116]:=cA [110,116,48,92,39,34] 1 2;have hx2:(⟨#[92]⟩:ByteArray)++ag [116]=ag [92,116]:=cd [92] [116];have hx3:(ag [116]).size=1:=rfl;generalize iL c 1=q at*;clear hd;go_wp2_with fail;refine am 7 1 [] mixed (by kernel_rfl) trivial ?_;repeat (refine sx ?_ (fun w1 hU=> ?_) ?_;rotate_left;(focus clear hU;go_simp<;>with_reducible rfl);simp only[aU,aT,aS,aR,aQ])
      intro w7 hw7 _;simp only[ab,aG];have HX7:=G (HX.out.trans hw7.un);clear hw7 HX;go_wp2_with fail;go_roundw
      case rel=>exact .inr (.inr (.inl ⟨rfl,⟨by rw[E1.out],HX7.out⟩⟩))
      case measure=>simp[intOf]
     ·have hde:((c.toNat:Int)==9)=false:=(cT c 9 (by omega)).trans (beq_eq_false_iff_ne.2 hd);have hde2:((9:Int)==(c.toNat:Int))=false:=by rw[beq_eq_false_iff_ne]at hde⊢;exact fun e=>hde e.symm
      have E1:=G (show iL c 2=iL c 1 by unfold iL;rw[show bY c 2=bY c 1 from if_neg hd]);generalize iL c 1=q at*;clear hd;go_wp2_with fail;refine am 7 1 [] mixed (by kernel_rfl) trivial ?_;repeat (refine sx ?_ (fun w1 hU=> ?_) ?_;rotate_left;(focus clear hU;go_simp<;>with_reducible rfl);simp only[aU,aT,aS,aR,aQ])
      intro w7 hw7 _;simp only[ab,aG];have HX7:=G (HX.out.trans hw7.un);clear hw7 HX;go_wp2_with fail;go_roundw
      case rel=>exact .inr (.inr (.inl ⟨rfl,⟨by rw[E1.out],HX7.out⟩⟩))
      case measure=>simp[intOf]
    ·obtain⟨rfl,hE⟩:=HR;have k2: ∀h,(⟨#[10,9,0,92,39,34]⟩:ByteArray)[2]'h=0:=fun _=>rfl;have HX:=G hE;clear hE;by_cases hd:c=0
     ·have hde:((c.toNat:Int)==0)=true:=by rw[hd];rfl
      have hde2:((0:Int)==(c.toNat:Int))=true:=by rw[hd];rfl
      have E1:=G (show iL c 3=[92,48] by rw[hd];rfl);have hx1:(⟨#[110,116,48,92,39,34]⟩:ByteArray).extract 2 3=ag [48]:=cA [110,116,48,92,39,34] 2 3;have hx2:(⟨#[92]⟩:ByteArray)++ag [48]=ag [92,48]:=cd [92] [48];have hx3:(ag [48]).size=1:=rfl;generalize iL c 2=q at*;clear hd;go_wp2_with fail;refine am 7 1 [] mixed (by kernel_rfl) trivial ?_;repeat (refine sx ?_ (fun w1 hU=> ?_) ?_;rotate_left;(focus clear hU;go_simp<;>with_reducible rfl);simp only[aU,aT,aS,aR,aQ])
      intro w7 hw7 _;simp only[ab,aG];have HX7:=G (HX.out.trans hw7.un);clear hw7 HX;go_wp2_with fail;go_roundw
      case rel=>exact .inr (.inr (.inr (.inl ⟨rfl,⟨by rw[E1.out],HX7.out⟩⟩)))
      case measure=>simp[intOf]
     ·have hde:((c.toNat:Int)==0)=false:=(cT c 0 (by omega)).trans (beq_eq_false_iff_ne.2 hd);have hde2:((0:Int)==(c.toNat:Int))=false:=by rw[beq_eq_false_iff_ne]at hde⊢;exact fun e=>hde e.symm
      have E1:=G (show iL c 3=iL c 2 by unfold iL;rw[show bY c 3=bY c 2 from if_neg hd]);generalize iL c 2=q at*;clear hd;go_wp2_with fail;refine am 7 1 [] mixed (by kernel_rfl) trivial ?_;repeat (refine sx ?_ (fun w1 hU=> ?_) ?_;rotate_left;(focus clear hU;go_simp<;>with_reducible rfl);simp only[aU,aT,aS,aR,aQ])
      intro w7 hw7 _;simp only[ab,aG];have HX7:=G (HX.out.trans hw7.un);clear hw7 HX;go_wp2_with fail;go_roundw
      case rel=>exact .inr (.inr (.inr (.inl ⟨rfl,⟨by rw[E1.out],HX7.out⟩⟩)))
      case measure=>simp[intOf]
    ·obtain⟨rfl,hE⟩:=HR;have k2: ∀h,(⟨#[10,9,0,92,39,34]⟩:ByteArray)[3]'h=92:=fun _=>rfl;have HX:=G hE;clear hE;by_cases hd:c=92
     ·have hde:((c.toNat:Int)==92)=true:=by rw[hd];rfl
      have hde2:((92:Int)==(c.toNat:Int))=true:=by rw[hd];rfl
      have E1:=G (show iL c 4=[92,92] by rw[hd];rfl);have hx1:(⟨#[110,116,48,92,39,34]⟩:ByteArray).extract 3 4=ag [92]:=cA [110,116,48,92,39,34] 3 4;have hx2:(⟨#[92]⟩:ByteArray)++ag [92]=ag [92,92]:=cd [92] [92];have hx3:(ag [92]).size=1:=rfl;generalize iL c 3=q at*;clear hd;go_wp2_with fail;refine am 7 1 [] mixed (by kernel_rfl) trivial ?_;repeat (refine sx ?_ (fun w1 hU=> ?_) ?_;rotate_left;(focus clear hU;go_simp<;>with_reducible rfl);simp only[aU,aT,aS,aR,aQ])
      intro w7 hw7 _;simp only[ab,aG];have HX7:=G (HX.out.trans hw7.un);clear hw7 HX;go_wp2_with fail;go_roundw
      case rel=>exact .inr (.inr (.inr (.inr (.inl ⟨rfl,⟨by rw[E1.out],HX7.out⟩⟩))))
      case measure=>simp[intOf]
     ·have hde:((c.toNat:Int)==92)=false:=(cT c 92 (by omega)).trans (beq_eq_false_iff_ne.2 hd);have hde2:((92:Int)==(c.toNat:Int))=false:=by rw[beq_eq_false_iff_ne]at hde⊢;exact fun e=>hde e.symm
      have E1:=G (show iL c 4=iL c 3 by unfold iL;rw[show bY c 4=bY c 3 from if_neg hd]);generalize iL c 3=q at*;clear hd;go_wp2_with fail;refine am 7 1 [] mixed (by kernel_rfl) trivial ?_;repeat (refine sx ?_ (fun w1 hU=> ?_) ?_;rotate_left;(focus clear hU;go_simp<;>with_reducible rfl);simp only[aU,aT,aS,aR,aQ])
      intro w7 hw7 _;simp only[ab,aG];have HX7:=G (HX.out.trans hw7.un);clear hw7 HX;go_wp2_with fail;go_roundw
      case rel=>exact .inr (.inr (.inr (.inr (.inl ⟨rfl,⟨by rw[E1.out],HX7.out⟩⟩))))
      case measure=>simp[intOf]
    ·obtain⟨rfl,hE⟩:=HR;have k2: ∀h,(⟨#[10,9,0,92,39,34]⟩:ByteArray)[4]'h=39:=fun _=>rfl;have HX:=G hE;clear hE;by_cases hd:c=39
     ·have hde:((c.toNat:Int)==39)=true:=by rw[hd];rfl
      have hde2:((39:Int)==(c.toNat:Int))=true:=by rw[hd];rfl
      have E1:=G (show iL c 5=[92,39] by rw[hd];rfl);have hx1:(⟨#[110,116,48,92,39,34]⟩:ByteArray).extract 4 5=ag [39]:=cA [110,116,48,92,39,34] 4 5;have hx2:(⟨#[92]⟩:ByteArray)++ag [39]=ag [92,39]:=cd [92] [39];have hx3:(ag [39]).size=1:=rfl;generalize iL c 4=q at*;clear hd;go_wp2_with fail;refine am 7 1 [] mixed (by kernel_rfl) trivial ?_;repeat (refine sx ?_ (fun w1 hU=> ?_) ?_;rotate_left;(focus clear hU;go_simp<;>with_reducible rfl);simp only[aU,aT,aS,aR,aQ])
      intro w7 hw7 _;simp only[ab,aG];have HX7:=G (HX.out.trans hw7.un);clear hw7 HX;go_wp2_with fail;go_roundw
      case rel=>exact .inr (.inr (.inr (.inr (.inr (.inl ⟨rfl,⟨by rw[E1.out],HX7.out⟩⟩)))))
      case measure=>simp[intOf]
     ·have hde:((c.toNat:Int)==39)=false:=(cT c 39 (by omega)).trans (beq_eq_false_iff_ne.2 hd);have hde2:((39:Int)==(c.toNat:Int))=false:=by rw[beq_eq_false_iff_ne]at hde⊢;exact fun e=>hde e.symm
      have E1:=G (show iL c 5=iL c 4 by unfold iL;rw[show bY c 5=bY c 4 from if_neg hd]);generalize iL c 4=q at*;clear hd;go_wp2_with fail;refine am 7 1 [] mixed (by kernel_rfl) trivial ?_;repeat (refine sx ?_ (fun w1 hU=> ?_) ?_;rotate_left;(focus clear hU;go_simp<;>with_reducible rfl);simp only[aU,aT,aS,aR,aQ])
      intro w7 hw7 _;simp only[ab,aG];have HX7:=G (HX.out.trans hw7.un);clear hw7 HX;go_wp2_with fail;go_roundw
      case rel=>exact .inr (.inr (.inr (.inr (.inr (.inl ⟨rfl,⟨by rw[E1.out],HX7.out⟩⟩)))))
      case measure=>simp[intOf]
    ·obtain⟨rfl,hE⟩:=HR;have k2: ∀h,(⟨#[10,9,0,92,39,34]⟩:ByteArray)[5]'h=34:=fun _=>rfl;have HX:=G hE;clear hE;by_cases hd:c=34
     ·have hde:((c.toNat:Int)==34)=true:=by rw[hd];rfl
      have hde2:((34:Int)==(c.toNat:Int))=true:=by rw[hd];rfl
      have E1:=G (show iL c 6=[92,34] by rw[hd];rfl);have hx1:(⟨#[110,116,48,92,39,34]⟩:ByteArray).extract 5 6=ag [34]:=cA [110,116,48,92,39,34] 5 6;have hx2:(⟨#[92]⟩:ByteArray)++ag [34]=ag [92,34]:=cd [92] [34];have hx3:(ag [34]).size=1:=rfl;generalize iL c 5=q at*;clear hd;go_wp2_with fail;refine am 7 1 [] mixed (by kernel_rfl) trivial ?_;repeat (refine sx ?_ (fun w1 hU=> ?_) ?_;rotate_left;(focus clear hU;go_simp<;>with_reducible rfl);simp only[aU,aT,aS,aR,aQ])
      intro w7 hw7 _;simp only[ab,aG];have HX7:=G (HX.out.trans hw7.un);clear hw7 HX;go_wp2_with fail;go_roundw
      case rel=>exact .inr (.inr (.inr (.inr (.inr (.inr (⟨rfl,⟨by rw[E1.out],HX7.out⟩⟩))))))
      case measure=>simp[intOf]
     ·have hde:((c.toNat:Int)==34)=false:=(cT c 34 (by omega)).trans (beq_eq_false_iff_ne.2 hd);have hde2:((34:Int)==(c.toNat:Int))=false:=by rw[beq_eq_false_iff_ne]at hde⊢;exact fun e=>hde e.symm
      have E1:=G (show iL c 6=iL c 5 by unfold iL;rw[show bY c 6=bY c 5 from if_neg hd]);generalize iL c 5=q at*;clear hd;go_wp2_with fail;refine am 7 1 [] mixed (by kernel_rfl) trivial ?_;repeat (refine sx ?_ (fun w1 hU=> ?_) ?_;rotate_left;(focus clear hU;go_simp<;>with_reducible rfl);simp only[aU,aT,aS,aR,aQ])
      intro w7 hw7 _;simp only[ab,aG];have HX7:=G (HX.out.trans hw7.un);clear hw7 HX;go_wp2_with fail;go_roundw
      case rel=>exact .inr (.inr (.inr (.inr (.inr (.inr (⟨rfl,⟨by rw[E1.out],HX7.out⟩⟩))))))
      case measure=>simp[intOf]
    ·obtain⟨rfl,hE⟩:=HR;have HX:=G hE;have HQ6:=G (show iL c 6=m9 c from sj c);clear hE;have hq2:(iL c 6).length<=2:=by rw[HQ6.out];exact(jF c).2
     generalize iL c 6=q at*;have hx4:(ag q).size=q.length:=aL q;have hx5:ag b++ag q=ag (b++q):=cd b q;go_wp2_with fail;go_roundw
     case rel=>exact⟨j+1,by rw[HS2.out,<-HQ6.out],by go_num,by omega,HX⟩
     case measure=>simp[intOf];omega
  ·have hlt': ¬(j:Int)<l.length:=by omega
   have HJ:=G (show l.take j=l from aJ (by omega));have hb2:((34::dU l):List UInt8).length<=200001:=by have:=eK l;simp only[ac];omega
   have hv:Value.string (ag (34::dU (l.take j)))= .string (ag (34::dU l)):=by rw[HJ.out]
   have HV:=G hv;clear hv;generalize hbq:34::dU (l.take j)=b at*;have HBQ:=G (show gJ l=b++[34] by rw[<-hbq,HJ.out];rfl);have hb3:b.length<=200001:=by rw[<-hbq,HJ.out];exact hb2
   have hsb:(ag b).size=b.length:=aL b;have hx5:ag b++(⟨#[34]⟩:ByteArray)=ag (b++[34]):=cd b [34];clear hbq HJ HV hb2;go_wp2_with fail;go_ret;exact⟨by rw[HBQ.out];rfl,HX.out⟩
end
end Go.Proofs.YtddomeddabfinaaGreatDoor
