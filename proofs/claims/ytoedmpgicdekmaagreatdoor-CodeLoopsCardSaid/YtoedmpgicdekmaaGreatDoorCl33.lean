/- Parts of the proof. -/
import Derived.Test.YtoedmpgicdekmaaGreatDoorCl00
import Derived.Outline
import Derived.Test.YtoedmpgicdekmaaGreatDoorCl29
import Derived.Test.YtoedmpgicdekmaaGreatDoorProg
import Derived.LoopN
set_option maxRecDepth 100000
set_option maxHeartbeats 8000000
set_option linter.unusedVariables false
set_option linter.unusedSimpArgs false
set_option linter.unusedSectionVars false
namespace Go.Proofs.YtoedmpgicdekmaaGreatDoor
open Go.Proofs.Tryz
section
open Go.RowKit
theorem JZ:lU prog 36 5:=⟨underlying36,by kernel_rfl⟩
theorem vN {l:List UInt8} {k:Nat} (a:k<l.length):l.take (k+1)=l.take k++[l[k]]:=by rw[aT a]
theorem Ah (a:UInt64) {l:List UInt8} {k:Nat} (d:k<l.length):Am (qZ a (l.take k)) l[k]=qZ a (l.take (k+1)):=by rw[vN d,tY];rfl
theorem uG (a:UInt64) (w:Option Addr) (z:Nat) (l:List UInt8) (d:World) (o:Sl d w z l):
  Calls prog 161 #[.int .u64 (a.toNat:Int), .slice w l.length z] d λe w'=>e= .returned (.int .u64 ((qZ a l).toNat:Int))/\d=w':=by
 have y:=o.max;have A:=o.le;unfold maxLen at y;have M:l.length<=9223372036854775807:=Qa
 have I:Hid (∀i,(u:i<l.length)-> ∃b off,w=some ⟨b,off,none⟩/\d.cell? ⟨b,off+i,none⟩=some (.int .u8 (l[i].toNat:Int))):=G (λi u=>by
  rcases o.rd with rfl|⟨b,off,rfl,_,hc⟩
  ·simp at u
  ·exact⟨b,off,rfl,hc i u⟩)
 clear o y A;go_enter func161,ntmps161;go_wp2_with fail
 go_loop [0,10] (λs i=> ∃k:Nat,k<=l.length/\i= .int .i64 k/\s= .int .u64 ((qZ a (l.take k)).toNat:Int)) (λ_ i=>l.length-(intOf i).toNat)
 case atStart=>exact⟨0,by omega,rfl,rfl⟩
 case round=>
  obtain⟨k,R,rfl,rfl⟩:=hrel;by_cases hlt:k<l.length
  ·obtain⟨b,off,rfl,V⟩:=I.out k hlt;have H:=G (Ah a hlt);generalize qZ a (l.take k)=g at*;generalize l[k]=J at*;have K:0<=(g.toNat:Int):=Qa
   go_wp2_with fail
   go_round
   case rel=>exact⟨k+1,by omega,by go_num,by rw[Ak,H.out]⟩
   case measure=>simp[intOf];omega
  ·have F:k=l.length:=Qa
   have X:=G (show l.take k=l by rw[F,bY]);go_wp2_with fail;go_ret;exact⟨rfl,rfl⟩
theorem yY (base:Nat) (v:Value) (l:List UInt8) (n:Int) (o:World) (u:gT o base 5 v l) (R:base<=o.heap.size) (ae:l.length<=100000):
  Calls prog 162 #[v, .int .i64 n] o λe w'=> ∃d a,e= .returned (.slice d (l.length+8) a)/\gT w' base 5 (.slice d (l.length+8) a) (l++f8 (IntKind.u64.wrap n))/\Below base o w':=by
 obtain⟨d,a,rfl⟩:=u.form;have Z:=G u;clear u;go_enter func162,ntmps162;go_wp2_with fail
 go_loopw [0,6] (λv i wr=> ∃(k:Nat) (L:List UInt8) (d:Option Addr) (a:Nat),k<=8/\i= .int .i64 k/\v= .slice d L.length a/\Below base o wr/\Hid (L=l++(f8 (IntKind.u64.wrap n)).take k)/\Hid (gT wr base 5 (.slice d L.length a) L)) (λ_ i _=>8-(intOf i).toNat)
 case atStart=>exact⟨0,l,d,a,by omega,rfl,rfl,Below.refl _ _,G Qe,Z⟩
 case round=>
  obtain⟨k,L,d,a,af,rfl,rfl,w,A,y⟩:=hrel;have J:=G w;have M:=w.size;clear w;by_cases hlt:k<8
  ·have z:=G (show L.length=l.length+k by rw[A.out];simp[dV];omega);have ad:=pp (IntKind.u64.wrap n) k;have X:=G (pj (IntKind.u64.wrap n) hlt);generalize qF (IntKind.u64.wrap n) k=b at*;go_wp2_with (at_builtin;refine eF JZ rfl _ _ rfl base _ L rfl (y.out.ext (aa wr _)) _ _ [b] rfl (p9 wr 5 b) (by have:=z.out;simp;omega) Qg ?_;intro ac cap' w' H F _;have V:=G H;have ab:=G (Below.grown (J.out.alloc (ax R M) _) F Qg (y.out.below));clear H F);go_roundw
   case rel=>exact⟨k+1,L++[b],ac,cap',by omega,by go_num,by simp,ab.out,G (by rw[A.out,X.out,aL]),G (by have:=V.out;simpa using this)⟩
   case measure=>simp[intOf];omega
  ·have K:k=8:=Qa
   have I:=G (show L=l++f8 (IntKind.u64.wrap n) by rw[A.out,K,qx]);have z:=G (show L.length=l.length+8 by rw[I.out];simp[dV]);go_wp2_with fail;go_ret;rw[z.out]at*;refine⟨d,a,rfl,?_,J.out⟩;have:=y.out;rw[I.out]at this;simpa[dV]using this
def vR:UInt64:=125762890854254
theorem ry:(125762890854254:Int)=(vR.toNat:Int):=Qd
def u64 (n:Int):Int:=IntKind.u64.wrap n
def Hy (l:List UInt8):UInt64:=qZ (qZ vR l) (f8 (IntKind.u64.wrap l.length))
theorem FU (z:Option Addr) (y:Nat) (l:List UInt8) (a:World) (w:Sl a z y l) (M:l.length<=9223372036854775807):
  Calls prog 104 #[.slice z l.length y] a λe w'=>e= .returned (.int .u64 ((Hy l).toNat:Int))/\au a w':=by
 have A:=G w;clear w;have K:=ry;go_enter func104,ntmps104;go_wp2_with fail;have o:=uG vR _ _ _ _ A.out;rw[<-ry]at o;refine o.mono ?_;clear o;rintro e w' ⟨rfl,rfl⟩;go_wp2_with fail;refine(yY a.heap.size _ [] _ a (gT.nil_ _ _ _) (ah _) Qe).mono ?_;rintro e J ⟨I,c1,rfl,d,u⟩;simp only[List.nil_append,ai,aE]at d⊢;have H:=G d.sl.2;have F:=G u;clear d u;go_wp2_with fail;refine(uG _ I c1 (f8 (IntKind.u64.wrap l.length)) _ H.out).mono ?_;rintro e w' ⟨rfl,rfl⟩;go_wp2_with fail;go_ret;exact⟨rfl,F.out⟩
end
end Go.Proofs.YtoedmpgicdekmaaGreatDoor
