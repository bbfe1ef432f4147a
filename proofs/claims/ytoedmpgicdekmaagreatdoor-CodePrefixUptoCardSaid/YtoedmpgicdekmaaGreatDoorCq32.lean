/-
  Parts of the proof: SumA SumB.
-/
import Derived.Test.YtoedmpgicdekmaaGreatDoorCq00
import Derived.Outline
import Derived.Test.YtoedmpgicdekmaaGreatDoorCq22
import Derived.Test.YtoedmpgicdekmaaGreatDoorProg
import Derived.LoopN
set_option maxRecDepth 100000
set_option maxHeartbeats 8000000
set_option linter.unusedVariables false
set_option linter.unusedSimpArgs false
set_option linter.unusedSectionVars false
namespace Go.Proofs.YtoedmpgicdekmaaGreatDoor
open Go.Proofs.Tryz
section
open Go.RowKit
theorem G5:ks prog 36 5:=⟨underlying36,by kernel_rfl⟩
theorem tI {l:List UInt8} {k:Nat} (h:k<l.length):l.take (k+1)=l.take k++[l[k]]:=by rw[aM h]
theorem ye (h:UInt64) {l:List UInt8} {k:Nat} (hk:k<l.length):yj (pm h (l.take k)) l[k]=pm h (l.take (k+1)):=by rw[tI hk,rN];rfl
theorem sD (h:UInt64) (A:Option Addr) (cap:Nat) (l:List UInt8) (w:World) (hs:Sl w A cap l):
  Calls prog 161 #[.int .u64 (h.toNat:Int), .slice A l.length cap] w fun e w'=>e= .returned (.int .u64 ((pm h l).toNat:Int))/\w=w':=by
 have hm:=hs.max;have hle:=hs.le;unfold maxLen at hm;have hm2:l.length<=9223372036854775807:=by omega
 have HC:Hid (∀i,(hi:i<l.length)-> ∃b off,A=some ⟨b,off,none⟩/\w.cell? ⟨b,off+i,none⟩=some (.int .u8 (l[i].toNat:Int))):=G (fun i hi=>by
  rcases hs.rd with rfl|⟨b,off,rfl,_,hc⟩
  ·simp at hi
  ·exact⟨b,off,rfl,hc i hi⟩)
 clear hs hm hle;go_enter func161,ntmps161;go_wp2_with fail
 go_loop [0,10] (fun s i=> ∃k:Nat,k<=l.length/\i= .int .i64 k/\s= .int .u64 ((pm h (l.take k)).toNat:Int)) (fun _ i=>l.length-(intOf i).toNat)
 case atStart=>exact⟨0,by omega,rfl,rfl⟩
 case round=>
  obtain⟨k,hk,rfl,rfl⟩:=hrel;by_cases hlt:k<l.length
  ·obtain⟨b,off,rfl,hck⟩:=HC.out k hlt;have HS:=G (ye h hlt);generalize pm h (l.take k)=g at*;generalize l[k]=y at*;have hy0:0<=(g.toNat:Int):=by omega
   go_wp2_with fail
   go_round
   case rel=>exact⟨k+1,by omega,by go_num,by rw[yh,HS.out]⟩
   case measure=>simp[intOf];omega
  ·have hkk:k=l.length:=by omega
   have HK:=G (show l.take k=l by rw[hkk,bQ]);go_wp2_with fail;go_ret;exact⟨rfl,rfl⟩
theorem wO (base:Nat) (v:Value) (l:List UInt8) (n:Int) (w:World) (hown:fZ w base 5 v l) (hb:base<=w.heap.size) (hl:l.length<=100000):
  Calls prog 162 #[v, .int .i64 n] w fun e w'=> ∃A cap,e= .returned (.slice A (l.length+8) cap)/\fZ w' base 5 (.slice A (l.length+8) cap) (l++fl (IntKind.u64.wrap n))/\Below base w w':=by
 obtain⟨A,cap,rfl⟩:=hown.form;have HO:=G hown;clear hown;go_enter func162,ntmps162;go_wp2_with fail
 go_loopw [0,6] (fun v i wr=> ∃(k:Nat) (L:List UInt8) (A:Option Addr) (cap:Nat),k<=8/\i= .int .i64 k/\v= .slice A L.length cap/\Below base w wr/\Hid (L=l++(fl (IntKind.u64.wrap n)).take k)/\Hid (fZ wr base 5 (.slice A L.length cap) L)) (fun _ i _=>8-(intOf i).toNat)
 case atStart=>exact⟨0,l,A,cap,by omega,rfl,rfl,Below.refl _ _,G (by simp),HO⟩
 case round=>
  obtain⟨k,L,A,cap,hk,rfl,rfl,hbl,HL,HW⟩:=hrel;have HB:=G hbl;have hbs:=hbl.size;clear hbl;by_cases hlt:k<8
  ·have HLL:=G (show L.length=l.length+k by rw[HL.out];simp[dA];omega);have hx:=nc (IntKind.u64.wrap n) k;have HT:=G (m_ (IntKind.u64.wrap n) hlt);generalize oL (IntKind.u64.wrap n) k=b at*;go_wp2_with (at_builtin;refine dZ G5 rfl _ _ rfl base _ L rfl (HW.out.ext (aa wr _)) _ _ [b] rfl (nV wr 5 b) (by have:=HLL.out;simp;omega) (by simp;omega) ?_;intro A' cap' w' q1 q2 _;have HW':=G q1;have HB':=G (Below.grown (HB.out.alloc (ax hb hbs) _) q2 (by simp;omega) (HW.out.below));clear q1 q2);go_roundw
   case rel=>exact⟨k+1,L++[b],A',cap',by omega,by go_num,by simp,HB'.out,G (by rw[HL.out,HT.out,aJ]),G (by have:=HW'.out;simpa using this)⟩
   case measure=>simp[intOf];omega
  ·have hkk:k=8:=by omega
   have HE:=G (show L=l++fl (IntKind.u64.wrap n) by rw[HL.out,hkk,oE]);have HLL:=G (show L.length=l.length+8 by rw[HE.out];simp[dA]);go_wp2_with fail;go_ret;rw[HLL.out]at*;refine⟨A,cap,rfl,?_,HB.out⟩;have:=HW.out;rw[HE.out]at this;simpa[dA]using this
end
section
open Go.RowKit
def tM:UInt64:=125762890854254
theorem pM:(125762890854254:Int)=(tM.toNat:Int):=by decide
def u64 (n:Int):Int:=IntKind.u64.wrap n
def EI (l:List UInt8):UInt64:=pm (pm tM l) (fl (IntKind.u64.wrap l.length))
theorem Dq (A:Option Addr) (cap:Nat) (l:List UInt8) (w:World) (hs:Sl w A cap l) (hm:l.length<=9223372036854775807):
  Calls prog 104 #[.slice A l.length cap] w fun e w'=>e= .returned (.int .u64 ((EI l).toNat:Int))/\au w w':=by
 have HS:=G hs;clear hs;have hst:=pM;go_enter func104,ntmps104;go_wp2_with fail;have hf:=sD tM _ _ _ _ HS.out;rw[<-pM]at hf;refine hf.mono ?_;clear hf;rintro e w' ⟨rfl,rfl⟩;go_wp2_with fail;refine(wO w.heap.size _ [] _ w (fZ.nil_ _ _ _) (ah _) (by simp)).mono ?_;rintro e w1 ⟨A1,c1,rfl,q1,q2⟩;simp only[List.nil_append,ag,be]at q1⊢;have HQ1:=G q1.sl.2;have HQ2:=G q2;clear q1 q2;go_wp2_with fail;refine(sD _ A1 c1 (fl (IntKind.u64.wrap l.length)) _ HQ1.out).mono ?_;rintro e w' ⟨rfl,rfl⟩;go_wp2_with fail;go_ret;exact⟨rfl,HQ2.out⟩
end
end Go.Proofs.YtoedmpgicdekmaaGreatDoor
