/-
  Parts of the proof: VaLexZc VaLexZd.
-/
import Derived.Test.YtelplgkppalmfaaGreatDoorPs00
import Derived.Test.YtelplgkppalmfaaGreatDoorPs08
import Derived.Test.YtelplgkppalmfaaGreatDoorPs09
import Derived.Test.YtelplgkppalmfaaGreatDoorPs15
import Derived.Test.YtelplgkppalmfaaGreatDoorPs16
set_option maxRecDepth 100000
set_option maxHeartbeats 8000000
set_option linter.unusedVariables false
set_option linter.unusedSimpArgs false
namespace Go.Proofs.YtelplgkppalmfaaGreatDoor
open Go.Proofs.Tryz
section
open Go.RowKit
def ck (c:UInt8):Nat->List UInt8×UInt8
 |0=>([],c)
 |j+1=>if c=([10,9,0,92,39,34]:List UInt8).getD j 0 then([92],([110,116,48,92,39,34]:List UInt8).getD j 0)else ck c j
theorem r8 (c:UInt8):(ck c 6).1++[(ck c 6).2]=nD c:=by
 have: ∀n:Fin 256,(ck (UInt8.ofNat n.val) 6).1++[(ck (UInt8.ofNat n.val) 6).2]=nD (UInt8.ofNat n.val):=by decide+kernel
 have h:=this ⟨c.toNat,c.toNat_lt⟩;rwa [fR]at h
theorem nY {l:List UInt8} {j:Nat} (h:j<l.length):d8 (l.take (j+1))=d8 (l.take j)++nD l[j]:=by
 rw[aF h,sV];simp[d8]
theorem dg {T e:TypeId} {B b:Nat} {bs:List Value} {w w':World} (h:Lib.IsBuilder T e B b bs w) (he:al w w'):Lib.IsBuilder T e B b bs w':=by
 have key: ∀p,Lib.BuilderAt T e B b p bs w->Lib.BuilderAt T e B b p bs w':=by
  rintro p ⟨hB,v,hb,hown,hne⟩;have hlt:b<w.heap.size:=(Array.getElem?_eq_some_iff.1 hb).1;exact⟨hB,v,(he.obj hlt).trans hb,bH hown (he.grownBy none) (by cases v.ownBlock<;>simp),hne⟩
 exact h.imp (key _) (key _)
theorem rB (l:List UInt8) (c:UInt8) (n:Int) (hn:(c.toNat:Int)=n):Lib.byteCells l++[.int .u8 n]=Lib.byteCells (l++[c]):=by
 subst hn;simp[Lib.byteCells]
theorem jm (B b:Nat) (l:List UInt8) (c:UInt8) (n:Int) (hn:(c.toNat:Int)=n) (w:World) (h:Lib.IsBuilder 139 5 B b (Lib.byteCells l) w) (hl:l.length<=1000000) (hB:B<=w.heap.size):
  Calls prog 187 #[.pointer (some ⟨b,0,none⟩), .int .u8 n] w fun e w'=>e= .returned .nilIface/\Lib.IsBuilder 139 5 B b (Lib.byteCells (l++[c])) w'/\Below B w w':=by
 refine(Tryz.Builder_WriteByte B b (Lib.byteCells l) n w h (by rw[Lib.byteCells_length];omega) hB).mono ?_;rintro e w' ⟨rfl,h1,h2⟩;rw[rB l c n hn]at h1;exact⟨rfl, .inr h1,h2⟩
def qF (c:UInt8) (b:List UInt8) (w0:World) (j:Nat) (vc:Value) (wr:World):Prop:=
 vc= .int .u8 ((ck c j).2.toNat:Int)/\Lib.IsBuilder 139 5 w0.heap.size w0.heap.size (Lib.byteCells (b++(ck c j).1)) wr/\al w0 wr
theorem sU (l:List UInt8) (hl:l.length<=100000) (w:World):Calls prog 179 #[.string (ae l)] w fun e w'=>e= .returned (.string (ae (ie l)))/\al w w':=by
 have hsz:(ae l).size=l.length:=aM l;have HX0:=G (O w (.cells #[.pointer none, .slice none 0 0] 139));have HB0:=G (show Lib.IsBuilder 139 5 w.heap.size w.heap.size (Lib.byteCells []) (w.alloc (.cells #[.pointer none, .slice none 0 0] 139))from Lib.fresh_isBuilder _ _ w);go_enter func179,ntmps179;go_wp2_with (go_at_call 187;refine(jm w.heap.size w.heap.size [] 34 34 rfl _ HB0.out (aB _) HX0.out.size).mono ?_;rintro e w1 ⟨rfl,hB1,hE1⟩;have HB1:=G hB1;have HE1:=G (show al w _ from cf HX0.out hE1);clear hB1 hE1)
 go_loopw [10] (fun vi wr=> ∃j:Nat,vi= .int .i64 (j:Int)/\j<=l.length/\Hid (Lib.IsBuilder 139 5 w.heap.size w.heap.size (Lib.byteCells (34::d8 (l.take j))) wr)/\Hid (al w wr)) (fun vi _=>l.length-(intOf vi).toNat)
 case atStart=>exact⟨0,rfl,aB _,G (by simpa[d8]using HB1.out),HE1⟩
 case round=>
  obtain⟨j,rfl,hj,HB,HX⟩:=hrel;have hzr:=HX.out.size;by_cases hlt:j<l.length
  ·have hjs:j<(ae l).size:=by rw[aM];exact hlt
   have hg:=fC l j hjs;have hlt':(j:Int)<l.length:=by omega
   have HS:=G (nY hlt);have HB2:=G (show((34::d8 (l.take j)):List UInt8).length<=200001 from by have:=fj (l.take j);rw[cO]at this;simp only[ac];omega);generalize l[j]'hlt=c at*;generalize hbq:34::d8 (l.take j)=b at*;have HS2:=G (show 34::d8 (l.take (j+1))=b++nD c by rw[HS.out,<-hbq];rfl);clear hbq HS;have HQ:=G (show qF c b w 0 (.int .u8 (c.toNat:Int)) wr from⟨rfl,by simpa[ck]using HB.out,HX.out⟩);clear HB HX;go_wp2_with fail
   go_loopw [5,6] (fun vc vk wi=>(vk= .int .i64 0/\qF c b w 0 vc wi)\/(vk= .int .i64 2/\qF c b w 1 vc wi)\/(vk= .int .i64 4/\qF c b w 2 vc wi)\/(vk= .int .i64 6/\qF c b w 3 vc wi)\/(vk= .int .i64 8/\qF c b w 4 vc wi)\/(vk= .int .i64 10/\qF c b w 5 vc wi)\/(vk= .int .i64 12/\qF c b w 6 vc wi)) (fun _ vk _=>13-(intOf vk).toNat)
   case atStart=>exact .inl ⟨rfl,HQ.out⟩
   case round=>
    rcases hrel with⟨rfl,HR⟩|⟨rfl,HR⟩|⟨rfl,HR⟩|⟨rfl,HR⟩|⟨rfl,HR⟩|⟨rfl,HR⟩|⟨rfl,HR⟩
    ·obtain⟨rfl,hB,hE⟩:=HR;have k1: ∀h,(⟨#[10,110,9,116,0,48,92,92,39,39,34,34]⟩:ByteArray)[0]'h=10:=fun _=>rfl;have k2: ∀h,(⟨#[10,110,9,116,0,48,92,92,39,39,34,34]⟩:ByteArray)[1]'h=110:=fun _=>rfl;have HB:=G hB;have HX:=G hE;clear hB hE;by_cases hd:c=10
     ·have hde:((c.toNat:Int)==10)=true:=by rw[hd];rfl
      have hde2:((10:Int)==(c.toNat:Int))=true:=by rw[hd];rfl
      have e0:ck c 0=([],c):=by rw[hd];rfl
      have e1:ck c 1=([92],110):=by rw[hd];rfl
      clear hd;rw[e0]at HB⊢;simp only[du]at HB;have E1:=G e1;clear e0 e1;go_wp2_with fail;refine am 6 1 [] mixed (by kernel_rfl) trivial ?_;repeat (refine sx ?_ (fun w1 hU=> ?_) ?_;rotate_left;(focus clear hU;go_simp<;>with_reducible rfl);simp only[bf,be,bc,a_,a8])
      intro w7 hw7 _;simp only[ab,aC];have HX7:=G (HX.out.trans hw7.un);have HB7:=G (dg HB.out hw7.un);have hz7:=HX7.out.size;clear hw7 HX HB;go_wp2_with (go_at_call 187;refine(jm w.heap.size w.heap.size b 92 92 rfl w7 HB7.out (by have:=HB2.out;omega) hz7).mono ?_;rintro e w8 ⟨rfl,hB8,hE8⟩;have HB8:=G hB8;have HE8:=G (show al w _ from cf HX7.out hE8);clear hB8 hE8 HB7);go_roundw
      case rel=>exact .inr (.inl ⟨rfl,⟨by rw[E1.out];rfl,by rw[E1.out];exact HB8.out,HE8.out⟩⟩)
      case measure=>simp[intOf]
     ·have hde:((c.toNat:Int)==10)=false:=(bQ c 10 (by omega)).trans (beq_eq_false_iff_ne.2 hd);have hde2:((10:Int)==(c.toNat:Int))=false:=by rw[beq_eq_false_iff_ne]at hde⊢;exact fun e=>hde e.symm
      have E1:=G (show ck c 1=ck c 0 from if_neg hd);generalize ck c 0=q at*;obtain⟨pr,q⟩:=q;clear hd;go_wp2_with fail;refine am 6 1 [] mixed (by kernel_rfl) trivial ?_;repeat (refine sx ?_ (fun w1 hU=> ?_) ?_;rotate_left;(focus clear hU;go_simp<;>with_reducible rfl);simp only[bf,be,bc,a_,a8])
      intro w7 hw7 _;simp only[ab,aC];have HX7:=G (HX.out.trans hw7.un);have HB7:=G (dg HB.out hw7.un);clear hw7 HX HB;go_wp2_with fail;go_roundw
      case rel=>exact .inr (.inl ⟨rfl,⟨by rw[E1.out],by rw[E1.out];exact HB7.out,HX7.out⟩⟩)
      case measure=>simp[intOf]
    ·obtain⟨rfl,hB,hE⟩:=HR;have k1: ∀h,(⟨#[10,110,9,116,0,48,92,92,39,39,34,34]⟩:ByteArray)[2]'h=9:=fun _=>rfl;have k2: ∀h,(⟨#[10,110,9,116,0,48,92,92,39,39,34,34]⟩:ByteArray)[3]'h=116:=fun _=>rfl;have HB:=G hB;have HX:=G hE;clear hB hE;by_cases hd:c=9
     ·have hde:((c.toNat:Int)==9)=true:=by rw[hd];rfl
      have hde2:((9:Int)==(c.toNat:Int))=true:=by rw[hd];rfl
      have e0:ck c 1=([],c):=by rw[hd];rfl
      have e1:ck c 2=([92],116):=by rw[hd];rfl
      clear hd;rw[e0]at HB⊢;simp only[du]at HB;have E1:=G e1;clear e0 e1;go_wp2_with fail;refine am 6 1 [] mixed (by kernel_rfl) trivial ?_;repeat (refine sx ?_ (fun w1 hU=> ?_) ?_;rotate_left;(focus clear hU;go_simp<;>with_reducible rfl);simp only[bf,be,bc,a_,a8])
      intro w7 hw7 _;simp only[ab,aC];have HX7:=G (HX.out.trans hw7.un);have HB7:=G (dg HB.out hw7.un);have hz7:=HX7.out.size;clear hw7 HX HB;go_wp2_with (go_at_call 187;refine(jm w.heap.size w.heap.size b 92 92 rfl w7 HB7.out (by have:=HB2.out;omega) hz7).mono ?_;rintro e w8 ⟨rfl,hB8,hE8⟩;have HB8:=G hB8;have HE8:=G (show al w _ from cf HX7.out hE8);clear hB8 hE8 HB7);go_roundw
      case rel=>exact .inr (.inr (.inl ⟨rfl,⟨by rw[E1.out];rfl,by rw[E1.out];exact HB8.out,HE8.out⟩⟩))
      case measure=>simp[intOf]
     ·have hde:((c.toNat:Int)==9)=false:=(bQ c 9 (by omega)).trans (beq_eq_false_iff_ne.2 hd);have hde2:((9:Int)==(c.toNat:Int))=false:=by rw[beq_eq_false_iff_ne]at hde⊢;exact fun e=>hde e.symm
      have E1:=G (show ck c 2=ck c 1 from if_neg hd);generalize ck c 1=q at*;obtain⟨pr,q⟩:=q;clear hd;go_wp2_with fail;refine am 6 1 [] mixed (by kernel_rfl) trivial ?_;repeat (refine sx ?_ (fun w1 hU=> ?_) ?_;rotate_left;(focus clear hU;go_simp<;>with_reducible rfl);simp only[bf,be,bc,a_,a8])
      intro w7 hw7 _;simp only[ab,aC];have HX7:=G (HX.out.trans hw7.un);have HB7:=G (dg HB.out hw7.un);clear hw7 HX HB;go_wp2_with fail;go_roundw
      case rel=>exact .inr (.inr (.inl ⟨rfl,⟨by rw[E1.out],by rw[E1.out];exact HB7.out,HX7.out⟩⟩))
      case measure=>simp[intOf]
    ·obtain⟨rfl,hB,hE⟩:=HR;have k1: ∀h,(⟨#[10,110,9,116,0,48,92,92,39,39,34,34]⟩:ByteArray)[4]'h=0:=fun _=>rfl;have k2: ∀h,(⟨#[10,110,9,116,0,48,92,92,39,39,34,34]⟩:ByteArray)[5]'h=48:=fun _=>rfl;have HB:=G hB;have HX:=G hE;clear hB hE;by_cases hd:c=0
     ·have hde:((c.toNat:Int)==0)=true:=by rw[hd];rfl
      have hde2:((0:Int)==(c.toNat:Int))=true:=by rw[hd];rfl
      have e0:ck c 2=([],c):=by rw[hd];rfl
      have e1:ck c 3=([92],48):=by rw[hd];rfl
      clear hd;rw[e0]at HB⊢;simp only[du]at HB;have E1:=G e1;clear e0 e1;go_wp2_with fail;refine am 6 1 [] mixed (by kernel_rfl) trivial ?_;repeat (refine sx ?_ (fun w1 hU=> ?_) ?_;rotate_left;(focus clear hU;go_simp<;>with_reducible rfl);simp only[bf,be,bc,a_,a8])
      intro w7 hw7 _;simp only[ab,aC];have HX7:=G (HX.out.trans hw7.un);have HB7:=G (dg HB.out hw7.un);have hz7:=HX7.out.size;clear hw7 HX HB;go_wp2_with (go_at_call 187;refine(jm w.heap.size w.heap.size b 92 92 rfl w7 HB7.out (by have:=HB2.out;omega) hz7).mono ?_;rintro e w8 ⟨rfl,hB8,hE8⟩;have HB8:=G hB8;have HE8:=G (show al w _ from cf HX7.out hE8);clear hB8 hE8 HB7);go_roundw
      case rel=>exact .inr (.inr (.inr (.inl ⟨rfl,⟨by rw[E1.out];rfl,by rw[E1.out];exact HB8.out,HE8.out⟩⟩)))
      case measure=>simp[intOf]
     ·have hde:((c.toNat:Int)==0)=false:=(bQ c 0 (by omega)).trans (beq_eq_false_iff_ne.2 hd);have hde2:((0:Int)==(c.toNat:Int))=false:=by rw[beq_eq_false_iff_ne]at hde⊢;exact fun e=>hde e.symm
      have E1:=G (show ck c 3=ck c 2 from if_neg hd);generalize ck c 2=q at*;obtain⟨pr,q⟩:=q;clear hd;go_wp2_with fail;refine am 6 1 [] mixed (by kernel_rfl) trivial ?_;repeat (refine sx ?_ (fun w1 hU=> ?_) ?_;rotate_left;(focus clear hU;go_simp<;>with_reducible rfl);simp only[bf,be,bc,a_,a8])
      intro w7 hw7 _;simp only[ab,aC];have HX7:=G (HX.out.trans hw7.un);have HB7:=G (dg HB.out hw7.un);clear hw7 HX HB;go_wp2_with fail;go_roundw
      case rel=>exact .inr (.inr (.inr (.inl ⟨rfl,⟨by rw[E1.out],by rw[E1.out];exact HB7.out,HX7.out⟩⟩)))
      case measure=>simp[intOf]
    ·obtain⟨rfl,hB,hE⟩:=HR;have k1: ∀h,(⟨#[10,110,9,116,0,48,92,92,39,39,34,34]⟩:ByteArray)[6]'h=92:=fun _=>rfl;have k2: ∀h,(⟨#[10,110,9,116,0,48,92,92,39,39,34,34]⟩:ByteArray)[7]'h=92:=fun _=>rfl;have HB:=G hB;have HX:=G hE;clear hB hE;by_cases hd:c=92
     ·have hde:((c.toNat:Int)==92)=true:=by rw[hd];rfl
      have hde2:((92:Int)==(c.toNat:Int))=true:=by rw[hd];rfl
      have e0:ck c 3=([],c):=by rw[hd];rfl
      have e1:ck c 4=([92],92):=by rw[hd];rfl
      clear hd;rw[e0]at HB⊢;simp only[du]at HB;have E1:=G e1;clear e0 e1;go_wp2_with fail;refine am 6 1 [] mixed (by kernel_rfl) trivial ?_;repeat (refine sx ?_ (fun w1 hU=> ?_) ?_;rotate_left;(focus clear hU;go_simp<;>with_reducible rfl);simp only[bf,be,bc,a_,a8])
      intro w7 hw7 _;simp only[ab,aC];have HX7:=G (HX.out.trans hw7.un);have HB7:=G (dg HB.out hw7.un);have hz7:=HX7.out.size;clear hw7 HX HB;go_wp2_with (go_at_call 187;refine(jm w.heap.size w.heap.size b 92 92 rfl w7 HB7.out (by have:=HB2.out;omega) hz7).mono ?_;rintro e w8 ⟨rfl,hB8,hE8⟩;have HB8:=G hB8;have HE8:=G (show al w _ from cf HX7.out hE8);clear hB8 hE8 HB7);go_roundw
      case rel=>exact .inr (.inr (.inr (.inr (.inl ⟨rfl,⟨by rw[E1.out];rfl,by rw[E1.out];exact HB8.out,HE8.out⟩⟩))))
      case measure=>simp[intOf]
     ·have hde:((c.toNat:Int)==92)=false:=(bQ c 92 (by omega)).trans (beq_eq_false_iff_ne.2 hd);have hde2:((92:Int)==(c.toNat:Int))=false:=by rw[beq_eq_false_iff_ne]at hde⊢;exact fun e=>hde e.symm
      have E1:=G (show ck c 4=ck c 3 from if_neg hd);generalize ck c 3=q at*;obtain⟨pr,q⟩:=q;clear hd;go_wp2_with fail;refine am 6 1 [] mixed (by kernel_rfl) trivial ?_;repeat (refine sx ?_ (fun w1 hU=> ?_) ?_;rotate_left;(focus clear hU;go_simp<;>with_reducible rfl);simp only[bf,be,bc,a_,a8])
      intro w7 hw7 _;simp only[ab,aC];have HX7:=G (HX.out.trans hw7.un);have HB7:=G (dg HB.out hw7.un);clear hw7 HX HB;go_wp2_with fail;go_roundw
      case rel=>exact .inr (.inr (.inr (.inr (.inl ⟨rfl,⟨by rw[E1.out],by rw[E1.out];exact HB7.out,HX7.out⟩⟩))))
      case measure=>simp[intOf]
    ·obtain⟨rfl,hB,hE⟩:=HR;have k1: ∀h,(⟨#[10,110,9,116,0,48,92,92,39,39,34,34]⟩:ByteArray)[8]'h=39:=fun _=>rfl;have k2: ∀h,(⟨#[10,110,9,116,0,48,92,92,39,39,34,34]⟩:ByteArray)[9]'h=39:=fun _=>rfl;have HB:=G hB;have HX:=G hE;clear hB hE;by_cases hd:c=39
     ·have hde:((c.toNat:Int)==39)=true:=by rw[hd];rfl
      have hde2:((39:Int)==(c.toNat:Int))=true:=by rw[hd];rfl
      have e0:ck c 4=([],c):=by rw[hd];rfl
      have e1:ck c 5=([92],39):=by rw[hd];rfl
      clear hd;rw[e0]at HB⊢;simp only[du]at HB;have E1:=G e1;clear e0 e1;go_wp2_with fail;refine am 6 1 [] mixed (by kernel_rfl) trivial ?_;repeat (refine sx ?_ (fun w1 hU=> ?_) ?_;rotate_left;(focus clear hU;go_simp<;>with_reducible rfl);simp only[bf,be,bc,a_,a8])
      intro w7 hw7 _;simp only[ab,aC];have HX7:=G (HX.out.trans hw7.un);have HB7:=G (dg HB.out hw7.un);have hz7:=HX7.out.size;clear hw7 HX HB;go_wp2_with (go_at_call 187;refine(jm w.heap.size w.heap.size b 92 92 rfl w7 HB7.out (by have:=HB2.out;omega) hz7).mono ?_;rintro e w8 ⟨rfl,hB8,hE8⟩;have HB8:=G hB8;have HE8:=G (show al w _ from cf HX7.out hE8);clear hB8 hE8 HB7);go_roundw
      case rel=>exact .inr (.inr (.inr (.inr (.inr (.inl ⟨rfl,⟨by rw[E1.out];rfl,by rw[E1.out];exact HB8.out,HE8.out⟩⟩)))))
      case measure=>simp[intOf]
     ·have hde:((c.toNat:Int)==39)=false:=(bQ c 39 (by omega)).trans (beq_eq_false_iff_ne.2 hd);have hde2:((39:Int)==(c.toNat:Int))=false:=by rw[beq_eq_false_iff_ne]at hde⊢;exact fun e=>hde e.symm
      have E1:=G (show ck c 5=ck c 4 from if_neg hd);generalize ck c 4=q at*;obtain⟨pr,q⟩:=q;clear hd;go_wp2_with fail;refine am 6 1 [] mixed (by kernel_rfl) trivial ?_;repeat (refine sx ?_ (fun w1 hU=> ?_) ?_;rotate_left;(focus clear hU;go_simp<;>with_reducible rfl);simp only[bf,be,bc,a_,a8])
      intro w7 hw7 _;simp only[ab,aC];have HX7:=G (HX.out.trans hw7.un);have HB7:=G (dg HB.out hw7.un);clear hw7 HX HB;go_wp2_with fail;go_roundw
      case rel=>exact .inr (.inr (.inr (.inr (.inr (.inl ⟨rfl,⟨by rw[E1.out],by rw[E1.out];exact HB7.out,HX7.out⟩⟩)))))
      case measure=>simp[intOf]
    ·obtain⟨rfl,hB,hE⟩:=HR;have k1: ∀h,(⟨#[10,110,9,116,0,48,92,92,39,39,34,34]⟩:ByteArray)[10]'h=34:=fun _=>rfl;have k2: ∀h,(⟨#[10,110,9,116,0,48,92,92,39,39,34,34]⟩:ByteArray)[11]'h=34:=fun _=>rfl;have HB:=G hB;have HX:=G hE;clear hB hE;by_cases hd:c=34
     ·have hde:((c.toNat:Int)==34)=true:=by rw[hd];rfl
      have hde2:((34:Int)==(c.toNat:Int))=true:=by rw[hd];rfl
      have e0:ck c 5=([],c):=by rw[hd];rfl
      have e1:ck c 6=([92],34):=by rw[hd];rfl
      clear hd;rw[e0]at HB⊢;simp only[du]at HB;have E1:=G e1;clear e0 e1;go_wp2_with fail;refine am 6 1 [] mixed (by kernel_rfl) trivial ?_;repeat (refine sx ?_ (fun w1 hU=> ?_) ?_;rotate_left;(focus clear hU;go_simp<;>with_reducible rfl);simp only[bf,be,bc,a_,a8])
      intro w7 hw7 _;simp only[ab,aC];have HX7:=G (HX.out.trans hw7.un);have HB7:=G (dg HB.out hw7.un);have hz7:=HX7.out.size;clear hw7 HX HB;go_wp2_with (go_at_call 187;refine(jm w.heap.size w.heap.size b 92 92 rfl w7 HB7.out (by have:=HB2.out;omega) hz7).mono ?_;rintro e w8 ⟨rfl,hB8,hE8⟩;have HB8:=G hB8;have HE8:=G (show al w _ from cf HX7.out hE8);clear hB8 hE8 HB7);go_roundw
      case rel=>exact .inr (.inr (.inr (.inr (.inr (.inr (⟨rfl,⟨by rw[E1.out];rfl,by rw[E1.out];exact HB8.out,HE8.out⟩⟩))))))
      case measure=>simp[intOf]
     ·have hde:((c.toNat:Int)==34)=false:=(bQ c 34 (by omega)).trans (beq_eq_false_iff_ne.2 hd);have hde2:((34:Int)==(c.toNat:Int))=false:=by rw[beq_eq_false_iff_ne]at hde⊢;exact fun e=>hde e.symm
      have E1:=G (show ck c 6=ck c 5 from if_neg hd);generalize ck c 5=q at*;obtain⟨pr,q⟩:=q;clear hd;go_wp2_with fail;refine am 6 1 [] mixed (by kernel_rfl) trivial ?_;repeat (refine sx ?_ (fun w1 hU=> ?_) ?_;rotate_left;(focus clear hU;go_simp<;>with_reducible rfl);simp only[bf,be,bc,a_,a8])
      intro w7 hw7 _;simp only[ab,aC];have HX7:=G (HX.out.trans hw7.un);have HB7:=G (dg HB.out hw7.un);clear hw7 HX HB;go_wp2_with fail;go_roundw
      case rel=>exact .inr (.inr (.inr (.inr (.inr (.inr (⟨rfl,⟨by rw[E1.out],by rw[E1.out];exact HB7.out,HX7.out⟩⟩))))))
      case measure=>simp[intOf]
    ·obtain⟨rfl,hB,hE⟩:=HR;have HB:=G hB;have HX:=G hE;have hz6:=hE.size;have HQ6:=G (r8 c);clear hB hE;have hpr:(ck c 6).1.length<=1:=by
      have h1:=congrArg List.length HQ6.out;have h2:=(jV c).2;rw[aa]at h1;simp only[ac,af]at h1;omega
     generalize ck c 6=q at*;obtain⟨pr,q⟩:=q;go_wp2_with (go_at_call 187;refine(jm w.heap.size w.heap.size (b++pr) q (q.toNat:Int) rfl _ HB.out (by have:=HB2.out;rw[aa];simp only at hpr;omega) hz6).mono ?_;rintro e w8 ⟨rfl,hB8,hE8⟩;have HB8:=G hB8;have HE8:=G (show al w _ from cf HX.out hE8);clear hB8 hE8 HB);go_roundw
     case rel=>exact⟨j+1,by go_num,by omega,G (by rw[HS2.out,<-HQ6.out,<-az];exact HB8.out),HE8⟩
     case measure=>simp[intOf];omega
  ·have hlt': ¬(j:Int)<l.length:=by omega
   have HJ:=G (show l.take j=l from aK (by omega));have HB2:=G (show((34::d8 l):List UInt8).length<=200001 from by have:=fj l;simp only[ac];omega);have HB3:=G (show Lib.IsBuilder 139 5 w.heap.size w.heap.size (Lib.byteCells (34::d8 l)) wr from by have:=HB.out;rwa [HJ.out]at this);clear HB HJ
   go_wp2_with (first
    |(go_at_call 187;refine(jm w.heap.size w.heap.size (34::d8 l) 34 34 rfl _ HB3.out (by have:=HB2.out;omega) hzr).mono ?_;rintro e w8 ⟨rfl,hB8,hE8⟩;have HB8:=G hB8;have HE8:=G (show al w _ from cf HX.out hE8);clear hB8 hE8)
    |(go_at_call 89;refine(Tryz.Builder_String_any w.heap.size w.heap.size _ _ HB8.out HE8.out.size).mono ?_;rintro e w9 ⟨rfl,hE9⟩;have HE9:=G (show al w _ from cf HE8.out hE9);clear hE9))
   go_ret;exact⟨rfl,HE9.out⟩
end
section
open Go.RowKit
def jk (c:UInt8) (j:Nat):List UInt8:=(ck c j).1++[(ck c j).2]
def qE (c:UInt8) (w0:World) (j:Nat) (vc:Value) (wr:World):Prop:=vc= .string (ae (jk c j))/\al w0 wr
theorem q7 (l:List UInt8) (hl:l.length<=100000) (w:World):Calls prog 57 #[.string (ae l)] w fun e w'=>e= .returned (.string (ae (ie l)))/\al w w':=by
 have hsz:(ae l).size=l.length:=aM l;have hs92:(⟨#[92]⟩:ByteArray).size=1:=rfl;have hs34:(⟨#[34]⟩:ByteArray).size=1:=rfl;have hsm:(⟨#[110,116,48,92,39,34]⟩:ByteArray).size=6:=rfl;have hsv:(⟨#[10,9,0,92,39,34]⟩:ByteArray).size=6:=rfl;go_enter func57,ntmps57;go_wp2_with fail
 go_loopw [3,6] (fun vo vi wr=> ∃j:Nat,vo= .string (ae (34::d8 (l.take j)))/\vi= .int .i64 (j:Int)/\j<=l.length/\Hid (al w wr)) (fun _ vi _=>l.length-(intOf vi).toNat)
 case atStart=>exact⟨0,rfl,rfl,aB _,G (aG _)⟩
 case round=>
  obtain⟨j,rfl,rfl,hj,HX⟩:=hrel;by_cases hlt:j<l.length
  ·have hjs:j<(ae l).size:=by rw[aM];exact hlt
   have hg:=fC l j hjs;have hlt':(j:Int)<l.length:=by omega
   have HS:=G (nY hlt);have hex:(ae l).extract j (j+1)=ae [l[j]]:=by
    rw[bR]
    congr 1
    rw[aF hlt,List.drop_append,cO,Nat.min_eq_left (by omega),Nat.sub_self,bq (by rw[cO];omega)];rfl
   have hb2:((34::d8 (l.take j)):List UInt8).length<=200001:=by have:=fj (l.take j);rw[cO]at this;simp only[ac];omega
   generalize l[j]'hlt=c at*;generalize hbq:34::d8 (l.take j)=b at*;have hsb:(ae b).size=b.length:=aM b;have HS2:=G (show 34::d8 (l.take (j+1))=b++nD c by rw[HS.out,<-hbq];rfl);clear hbq HS;have HQ:=G (show qE c w 0 (.string (ae [c])) wr from⟨rfl,HX.out⟩);clear HX;go_wp2_with fail
   go_loopw [7,8] (fun vc vk wi=>(vk= .int .i64 0/\qE c w 0 vc wi)\/(vk= .int .i64 1/\qE c w 1 vc wi)\/(vk= .int .i64 2/\qE c w 2 vc wi)\/(vk= .int .i64 3/\qE c w 3 vc wi)\/(vk= .int .i64 4/\qE c w 4 vc wi)\/(vk= .int .i64 5/\qE c w 5 vc wi)\/(vk= .int .i64 6/\qE c w 6 vc wi)) (fun _ vk _=>7-(intOf vk).toNat)
   case atStart=>exact .inl ⟨rfl,HQ.out⟩
   case round=>
    rcases hrel with⟨rfl,HR⟩|⟨rfl,HR⟩|⟨rfl,HR⟩|⟨rfl,HR⟩|⟨rfl,HR⟩|⟨rfl,HR⟩|⟨rfl,HR⟩
    ·obtain⟨rfl,hE⟩:=HR;have k2: ∀h,(⟨#[10,9,0,92,39,34]⟩:ByteArray)[0]'h=10:=fun _=>rfl;have HX:=G hE;clear hE;by_cases hd:c=10
     ·have hde:((c.toNat:Int)==10)=true:=by rw[hd];rfl
      have hde2:((10:Int)==(c.toNat:Int))=true:=by rw[hd];rfl
      have E1:=G (show jk c 1=[92,110] by rw[hd];rfl);have hx1:(⟨#[110,116,48,92,39,34]⟩:ByteArray).extract 0 1=ae [110]:=bR [110,116,48,92,39,34] 0 1;have hx2:(⟨#[92]⟩:ByteArray)++ae [110]=ae [92,110]:=cu [92] [110];have hx3:(ae [110]).size=1:=rfl;generalize jk c 0=q at*;clear hd;go_wp2_with fail;refine am 7 1 [] mixed (by kernel_rfl) trivial ?_;repeat (refine sx ?_ (fun w1 hU=> ?_) ?_;rotate_left;(focus clear hU;go_simp<;>with_reducible rfl);simp only[bf,be,bc,a_,a8])
      intro w7 hw7 _;simp only[ab,aC];have HX7:=G (HX.out.trans hw7.un);clear hw7 HX;go_wp2_with fail;go_roundw
      case rel=>exact .inr (.inl ⟨rfl,⟨by rw[E1.out],HX7.out⟩⟩)
      case measure=>simp[intOf]
     ·have hde:((c.toNat:Int)==10)=false:=(bQ c 10 (by omega)).trans (beq_eq_false_iff_ne.2 hd);have hde2:((10:Int)==(c.toNat:Int))=false:=by rw[beq_eq_false_iff_ne]at hde⊢;exact fun e=>hde e.symm
      have E1:=G (show jk c 1=jk c 0 by unfold jk;rw[show ck c 1=ck c 0 from if_neg hd]);generalize jk c 0=q at*;clear hd;go_wp2_with fail;refine am 7 1 [] mixed (by kernel_rfl) trivial ?_;repeat (refine sx ?_ (fun w1 hU=> ?_) ?_;rotate_left;(focus clear hU;go_simp<;>with_reducible rfl);simp only[bf,be,bc,a_,a8])
      intro w7 hw7 _;simp only[ab,aC];have HX7:=G (HX.out.trans hw7.un);clear hw7 HX;go_wp2_with fail;go_roundw
      case rel=>exact .inr (.inl ⟨rfl,⟨by rw[E1.out],HX7.out⟩⟩)
      case measure=>simp[intOf]
    ·obtain⟨rfl,hE⟩:=HR;have k2: ∀h,(⟨#[10,9,0,92,39,34]⟩:ByteArray)[1]'h=9:=fun _=>rfl;have HX:=G hE;clear hE;by_cases hd:c=9
     ·have hde:((c.toNat:Int)==9)=true:=by rw[hd];rfl
      have hde2:((9:Int)==(c.toNat:Int))=true:=by rw[hd];rfl
      have E1:=G (show jk c 2=[92,116] by rw[hd];rfl);have hx1:(⟨#[110,116,48,92,39,34]⟩:ByteArray).extract 1 2=ae [116]:=bR [110,116,48,92,39,34] 1 2;have hx2:(⟨#[92]⟩:ByteArray)++ae [116]=ae [92,116]:=cu [92] [116];have hx3:(ae [116]).size=1:=rfl;generalize jk c 1=q at*;clear hd;go_wp2_with fail;refine am 7 1 [] mixed (by kernel_rfl) trivial ?_;repeat (refine sx ?_ (fun w1 hU=> ?_) ?_;rotate_left;(focus clear hU;go_simp<;>with_reducible rfl);simp only[bf,be,bc,a_,a8])
      intro w7 hw7 _;simp only[ab,aC];have HX7:=G (HX.out.trans hw7.un);clear hw7 HX;go_wp2_with fail;go_roundw
      case rel=>exact .inr (.inr (.inl ⟨rfl,⟨by rw[E1.out],HX7.out⟩⟩))
      case measure=>simp[intOf]
     ·have hde:((c.toNat:Int)==9)=false:=(bQ c 9 (by omega)).trans (beq_eq_false_iff_ne.2 hd);have hde2:((9:Int)==(c.toNat:Int))=false:=by rw[beq_eq_false_iff_ne]at hde⊢;exact fun e=>hde e.symm
      have E1:=G (show jk c 2=jk c 1 by unfold jk;rw[show ck c 2=ck c 1 from if_neg hd]);generalize jk c 1=q at*;clear hd;go_wp2_with fail;refine am 7 1 [] mixed (by kernel_rfl) trivial ?_;repeat (refine sx ?_ (fun w1 hU=> ?_) ?_;rotate_left;(focus clear hU;go_simp<;>with_reducible rfl);simp only[bf,be,bc,a_,a8])
      intro w7 hw7 _;simp only[ab,aC];have HX7:=G (HX.out.trans hw7.un);clear hw7 HX;go_wp2_with fail;go_roundw
      case rel=>exact .inr (.inr (.inl ⟨rfl,⟨by rw[E1.out],HX7.out⟩⟩))
      case measure=>simp[intOf]
    ·obtain⟨rfl,hE⟩:=HR;have k2: ∀h,(⟨#[10,9,0,92,39,34]⟩:ByteArray)[2]'h=0:=fun _=>rfl;have HX:=G hE;clear hE;by_cases hd:c=0
     ·have hde:((c.toNat:Int)==0)=true:=by rw[hd];rfl
      have hde2:((0:Int)==(c.toNat:Int))=true:=by rw[hd];rfl
      have E1:=G (show jk c 3=[92,48] by rw[hd];rfl);have hx1:(⟨#[110,116,48,92,39,34]⟩:ByteArray).extract 2 3=ae [48]:=bR [110,116,48,92,39,34] 2 3;have hx2:(⟨#[92]⟩:ByteArray)++ae [48]=ae [92,48]:=cu [92] [48];have hx3:(ae [48]).size=1:=rfl;generalize jk c 2=q at*;clear hd;go_wp2_with fail;refine am 7 1 [] mixed (by kernel_rfl) trivial ?_;repeat (refine sx ?_ (fun w1 hU=> ?_) ?_;rotate_left;(focus clear hU;go_simp<;>with_reducible rfl);simp only[bf,be,bc,a_,a8])
      intro w7 hw7 _;simp only[ab,aC];have HX7:=G (HX.out.trans hw7.un);clear hw7 HX;go_wp2_with fail;go_roundw
      case rel=>exact .inr (.inr (.inr (.inl ⟨rfl,⟨by rw[E1.out],HX7.out⟩⟩)))
      case measure=>simp[intOf]
     ·have hde:((c.toNat:Int)==0)=false:=(bQ c 0 (by omega)).trans (beq_eq_false_iff_ne.2 hd);have hde2:((0:Int)==(c.toNat:Int))=false:=by rw[beq_eq_false_iff_ne]at hde⊢;exact fun e=>hde e.symm
      have E1:=G (show jk c 3=jk c 2 by unfold jk;rw[show ck c 3=ck c 2 from if_neg hd]);generalize jk c 2=q at*;clear hd;go_wp2_with fail;refine am 7 1 [] mixed (by kernel_rfl) trivial ?_;repeat (refine sx ?_ (fun w1 hU=> ?_) ?_;rotate_left;(focus clear hU;go_simp<;>with_reducible rfl);simp only[bf,be,bc,a_,a8])
      intro w7 hw7 _;simp only[ab,aC];have HX7:=G (HX.out.trans hw7.un);clear hw7 HX;go_wp2_with fail;go_roundw
      case rel=>exact .inr (.inr (.inr (.inl ⟨rfl,⟨by rw[E1.out],HX7.out⟩⟩)))
      case measure=>simp[intOf]
    ·obtain⟨rfl,hE⟩:=HR;have k2: ∀h,(⟨#[10,9,0,92,39,34]⟩:ByteArray)[3]'h=92:=fun _=>rfl;have HX:=G hE;clear hE;by_cases hd:c=92
     ·have hde:((c.toNat:Int)==92)=true:=by rw[hd];rfl
      have hde2:((92:Int)==(c.toNat:Int))=true:=by rw[hd];rfl
      have E1:=G (show jk c 4=[92,92] by rw[hd];rfl);have hx1:(⟨#[110,116,48,92,39,34]⟩:ByteArray).extract 3 4=ae [92]:=bR [110,116,48,92,39,34] 3 4;have hx2:(⟨#[92]⟩:ByteArray)++ae [92]=ae [92,92]:=cu [92] [92];have hx3:(ae [92]).size=1:=rfl;generalize jk c 3=q at*;clear hd;go_wp2_with fail;refine am 7 1 [] mixed (by kernel_rfl) trivial ?_;repeat (refine sx ?_ (fun w1 hU=> ?_) ?_;rotate_left;(focus clear hU;go_simp<;>with_reducible rfl);simp only[bf,be,bc,a_,a8])
      intro w7 hw7 _;simp only[ab,aC];have HX7:=G (HX.out.trans hw7.un);clear hw7 HX;go_wp2_with fail;go_roundw
      case rel=>exact .inr (.inr (.inr (.inr (.inl ⟨rfl,⟨by rw[E1.out],HX7.out⟩⟩))))
      case measure=>simp[intOf]
     ·have hde:((c.toNat:Int)==92)=false:=(bQ c 92 (by omega)).trans (beq_eq_false_iff_ne.2 hd);have hde2:((92:Int)==(c.toNat:Int))=false:=by rw[beq_eq_false_iff_ne]at hde⊢;exact fun e=>hde e.symm
      have E1:=G (show jk c 4=jk c 3 by unfold jk;rw[show ck c 4=ck c 3 from if_neg hd]);generalize jk c 3=q at*;clear hd;go_wp2_with fail;refine am 7 1 [] mixed (by kernel_rfl) trivial ?_;repeat (refine sx ?_ (fun w1 hU=> ?_) ?_;rotate_left;(focus clear hU;go_simp<;>with_reducible rfl);simp only[bf,be,bc,a_,a8])
      intro w7 hw7 _;simp only[ab,aC];have HX7:=G (HX.out.trans hw7.un);clear hw7 HX;go_wp2_with fail;go_roundw
      case rel=>exact .inr (.inr (.inr (.inr (.inl ⟨rfl,⟨by rw[E1.out],HX7.out⟩⟩))))
      case measure=>simp[intOf]
    ·obtain⟨rfl,hE⟩:=HR;have k2: ∀h,(⟨#[10,9,0,92,39,34]⟩:ByteArray)[4]'h=39:=fun _=>rfl;have HX:=G hE;clear hE;by_cases hd:c=39
     ·have hde:((c.toNat:Int)==39)=true:=by rw[hd];rfl
      have hde2:((39:Int)==(c.toNat:Int))=true:=by rw[hd];rfl
      have E1:=G (show jk c 5=[92,39] by rw[hd];rfl);have hx1:(⟨#[110,116,48,92,39,34]⟩:ByteArray).extract 4 5=ae [39]:=bR [110,116,48,92,39,34] 4 5;have hx2:(⟨#[92]⟩:ByteArray)++ae [39]=ae [92,39]:=cu [92] [39];have hx3:(ae [39]).size=1:=rfl;generalize jk c 4=q at*;clear hd;go_wp2_with fail;refine am 7 1 [] mixed (by kernel_rfl) trivial ?_;repeat (refine sx ?_ (fun w1 hU=> ?_) ?_;rotate_left;(focus clear hU;go_simp<;>with_reducible rfl);simp only[bf,be,bc,a_,a8])
      intro w7 hw7 _;simp only[ab,aC];have HX7:=G (HX.out.trans hw7.un);clear hw7 HX;go_wp2_with fail;go_roundw
      case rel=>exact .inr (.inr (.inr (.inr (.inr (.inl ⟨rfl,⟨by rw[E1.out],HX7.out⟩⟩)))))
      case measure=>simp[intOf]
     ·have hde:((c.toNat:Int)==39)=false:=(bQ c 39 (by omega)).trans (beq_eq_false_iff_ne.2 hd);have hde2:((39:Int)==(c.toNat:Int))=false:=by rw[beq_eq_false_iff_ne]at hde⊢;exact fun e=>hde e.symm
      have E1:=G (show jk c 5=jk c 4 by unfold jk;rw[show ck c 5=ck c 4 from if_neg hd]);generalize jk c 4=q at*;clear hd;go_wp2_with fail;refine am 7 1 [] mixed (by kernel_rfl) trivial ?_;repeat (refine sx ?_ (fun w1 hU=> ?_) ?_;rotate_left;(focus clear hU;go_simp<;>with_reducible rfl);simp only[bf,be,bc,a_,a8])
      intro w7 hw7 _;simp only[ab,aC];have HX7:=G (HX.out.trans hw7.un);clear hw7 HX;go_wp2_with fail;go_roundw
      case rel=>exact .inr (.inr (.inr (.inr (.inr (.inl ⟨rfl,⟨by rw[E1.out],HX7.out⟩⟩)))))
      case measure=>simp[intOf]
    ·obtain⟨rfl,hE⟩:=HR;have k2: ∀h,(⟨#[10,9,0,92,39,34]⟩:ByteArray)[5]'h=34:=fun _=>rfl;have HX:=G hE;clear hE;by_cases hd:c=34
     ·have hde:((c.toNat:Int)==34)=true:=by rw[hd];rfl
      have hde2:((34:Int)==(c.toNat:Int))=true:=by rw[hd];rfl
      have E1:=G (show jk c 6=[92,34] by rw[hd];rfl);have hx1:(⟨#[110,116,48,92,39,34]⟩:ByteArray).extract 5 6=ae [34]:=bR [110,116,48,92,39,34] 5 6;have hx2:(⟨#[92]⟩:ByteArray)++ae [34]=ae [92,34]:=cu [92] [34];have hx3:(ae [34]).size=1:=rfl;generalize jk c 5=q at*;clear hd;go_wp2_with fail;refine am 7 1 [] mixed (by kernel_rfl) trivial ?_;repeat (refine sx ?_ (fun w1 hU=> ?_) ?_;rotate_left;(focus clear hU;go_simp<;>with_reducible rfl);simp only[bf,be,bc,a_,a8])
      intro w7 hw7 _;simp only[ab,aC];have HX7:=G (HX.out.trans hw7.un);clear hw7 HX;go_wp2_with fail;go_roundw
      case rel=>exact .inr (.inr (.inr (.inr (.inr (.inr (⟨rfl,⟨by rw[E1.out],HX7.out⟩⟩))))))
      case measure=>simp[intOf]
     ·have hde:((c.toNat:Int)==34)=false:=(bQ c 34 (by omega)).trans (beq_eq_false_iff_ne.2 hd);have hde2:((34:Int)==(c.toNat:Int))=false:=by rw[beq_eq_false_iff_ne]at hde⊢;exact fun e=>hde e.symm
      have E1:=G (show jk c 6=jk c 5 by unfold jk;rw[show ck c 6=ck c 5 from if_neg hd]);generalize jk c 5=q at*;clear hd;go_wp2_with fail;refine am 7 1 [] mixed (by kernel_rfl) trivial ?_;repeat (refine sx ?_ (fun w1 hU=> ?_) ?_;rotate_left;(focus clear hU;go_simp<;>with_reducible rfl);simp only[bf,be,bc,a_,a8])
      intro w7 hw7 _;simp only[ab,aC];have HX7:=G (HX.out.trans hw7.un);clear hw7 HX;go_wp2_with fail;go_roundw
      case rel=>exact .inr (.inr (.inr (.inr (.inr (.inr (⟨rfl,⟨by rw[E1.out],HX7.out⟩⟩))))))
      case measure=>simp[intOf]
    ·obtain⟨rfl,hE⟩:=HR;have HX:=G hE;have HQ6:=G (show jk c 6=nD c from r8 c);clear hE;have hq2:(jk c 6).length<=2:=by rw[HQ6.out];exact(jV c).2
     generalize jk c 6=q at*;have hx4:(ae q).size=q.length:=aM q;have hx5:ae b++ae q=ae (b++q):=cu b q;go_wp2_with fail;go_roundw
     case rel=>exact⟨j+1,by rw[HS2.out,<-HQ6.out],by go_num,by omega,HX⟩
     case measure=>simp[intOf];omega
  ·have hlt': ¬(j:Int)<l.length:=by omega
   have HJ:=G (show l.take j=l from aK (by omega));have hb2:((34::d8 l):List UInt8).length<=200001:=by have:=fj l;simp only[ac];omega
   have hv:Value.string (ae (34::d8 (l.take j)))= .string (ae (34::d8 l)):=by rw[HJ.out]
   have HV:=G hv;clear hv;generalize hbq:34::d8 (l.take j)=b at*;have HBQ:=G (show ie l=b++[34] by rw[<-hbq,HJ.out];rfl);have hb3:b.length<=200001:=by rw[<-hbq,HJ.out];exact hb2
   have hsb:(ae b).size=b.length:=aM b;have hx5:ae b++(⟨#[34]⟩:ByteArray)=ae (b++[34]):=cu b [34];clear hbq HJ HV hb2;go_wp2_with fail;go_ret;exact⟨by rw[HBQ.out];rfl,HX.out⟩
end
end Go.Proofs.YtelplgkppalmfaaGreatDoor
