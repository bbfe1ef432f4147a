/- Parts of the proof. -/
import Derived.Test.YtoedmpgicdekmaaGreatDoorCo32
set_option maxRecDepth 100000
set_option maxHeartbeats 8000000
set_option linter.all false
namespace Go.Proofs.YtoedmpgicdekmaaGreatDoor
open Go.Proofs.Tryz
section
open Go.RowKit
theorem Kl:mo prog 36 5:=⟨underlying36,by kernel_rfl⟩
theorem wE {l:List UInt8} {k:Nat} (a:k<l.length):l.take (k+1)=l.take k++[l[k]]:=by rw[aT a]
theorem AY (a:UInt64) {l:List UInt8} {k:Nat} (d:k<l.length):Bc (rG a (l.take k)) l[k]=rG a (l.take (k+1)):=by rw[wE d,uA];rfl
theorem vy (a:UInt64) (u:Option Addr) (y:Nat) (l:List UInt8) (d:World) (o:Sl d u y l):
  Calls prog 161 #[.int .u64 (a.toNat:Int),.slice u l.length y] d λe w'=>e=.returned (.int .u64 ((rG a l).toNat:Int))/\d=w':=by
 have w:=o.max;have z:=o.le;unfold maxLen at w;have aa:l.length<=9223372036854775807:=J
 have R:Hid (∀i,(hi:i<l.length)-> ∃b off,u=some ⟨b,off,none⟩/\d.cell? ⟨b,off+i,none⟩=some (.int .u8 (l[i].toNat:Int))):=G (λi hi=>by
  rcases o.rd with rfl|⟨b,off,rfl,_,hc⟩
  ·simp at hi
  ·exact⟨b,off,rfl,hc i hi⟩)
 clear o w z;go_enter func161,ntmps161;go_wp2_with fail
 go_loop [0,10] (λs i=> ∃k:Nat,k<=l.length/\i=.int .i64 k/\s=.int .u64 ((rG a (l.take k)).toNat:Int)) (λ_ i=>l.length-(intOf i).toNat)
 case atStart=>exact⟨0,by omega,rfl,rfl⟩
 case round=>
  obtain⟨k,I,rfl,rfl⟩:=hrel;by_cases hlt:k<l.length
  ·obtain⟨b,off,rfl,H⟩:=R.out k hlt;have F:=G (AY a hlt);generalize rG a (l.take k)=g at*;generalize l[k]=V at*;have X:0<=(g.toNat:Int):=J
   go_wp2_with fail
   go_round
   case rel=>exact⟨k+1,by omega,by go_num,by rw[Ba,F.out]⟩
   case measure=>simp[intOf];omega
  ·have A:k=l.length:=J
   have ad:=G (show l.take k=l by rw[A,b6]);go_wp2_with fail;go_ret;exact⟨rfl,rfl⟩
theorem zM (base:Nat) (v:Value) (l:List UInt8) (n:Int) (o:World) (u:im o base 5 v l) (ad:base<=o.heap.size) (Z:l.length<=100000):
  Calls prog 162 #[v,.int .i64 n] o λe w'=> ∃d a,e=.returned (.slice d (l.length+8) a)/\im w' base 5 (.slice d (l.length+8) a) (l++gA (IntKind.u64.wrap n))/\Below base o w':=by
 obtain⟨d,a,rfl⟩:=u.form;have ag:=G u;clear u;go_enter func162,ntmps162;go_wp2_with fail
 go_loopw [0,6] (λv i wr=> ∃(k:Nat) (L:List UInt8) (d:Option Addr) (a:Nat),k<=8/\i=.int .i64 k/\v=.slice d L.length a/\Below base o wr/\Hid (L=l++(gA (IntKind.u64.wrap n)).take k)/\Hid (im wr base 5 (.slice d L.length a) L)) (λ_ i _=>8-(intOf i).toNat)
 case atStart=>exact⟨0,l,d,a,by omega,rfl,rfl,Below.refl _ _,G Qe,ag⟩
 case round=>
  obtain⟨k,L,d,a,al,rfl,rfl,w,A,y⟩:=hrel;have X:=G w;have H:=w.size;clear w;by_cases hlt:k<8
  ·have z:=G (show L.length=l.length+k by rw[A.out];simp[ea];omega);have aj:=pW (IntKind.u64.wrap n) k;have af:=G (pS (IntKind.u64.wrap n) hlt);generalize rm (IntKind.u64.wrap n) k=b at*;go_wp2_with (at_builtin;refine eO Kl rfl _ _ rfl base _ L rfl (y.out.ext (aa wr _)) _ _ [b] rfl (qz wr 5 b) (by have:=z.out;simp;omega) Qg ?_;intro ai cap' w' R F _;have ae:=G R;have ah:=G (Below.grown (X.out.alloc (ay ad H) _) F Qg (y.out.below));clear R F);go_roundw
   case rel=>exact⟨k+1,L++[b],ai,cap',by omega,by go_num,by simp,ah.out,G (by rw[A.out,af.out,aL]),G (by have:=ae.out;simpa using this)⟩
   case measure=>simp[intOf];omega
  ·have I:k=8:=J
   have V:=G (show L=l++gA (IntKind.u64.wrap n) by rw[A.out,I,qY]);have z:=G (show L.length=l.length+8 by rw[V.out];simp[ea]);go_wp2_with fail;go_ret;rw[z.out]at*;refine⟨d,a,rfl,?_,X.out⟩;have:=y.out;rw[V.out]at this;simpa[ea]using this
def wJ:UInt64:=125762890854254
theorem rV:(125762890854254:Int)=(wJ.toNat:Int):=Qd
def u64 (n:Int):Int:=IntKind.u64.wrap n
def Ih (l:List UInt8):UInt64:=rG (rG wJ l) (gA (IntKind.u64.wrap l.length))
theorem GB (z:Option Addr) (y:Nat) (l:List UInt8) (a:World) (w:Sl a z y l) (I:l.length<=9223372036854775807):
  Calls prog 104 #[.slice z l.length y] a λe w'=>e=.returned (.int .u64 ((Ih l).toNat:Int))/\au a w':=by
 have A:=G w;clear w;have aa:=rV;go_enter func104,ntmps104;go_wp2_with fail;have o:=vy wJ _ _ _ _ A.out;rw[<-rV]at o;refine o.mono ?_;clear o;rintro e w' ⟨rfl,rfl⟩;go_wp2_with fail;refine(zM a.heap.size _ [] _ a (im.nil_ _ _ _) (ah _) Qe).mono ?_;rintro e X ⟨V,c1,rfl,d,u⟩;simp only[List.nil_append,ai,aE]at d⊢;have R:=G d.sl.2;have F:=G u;clear d u;go_wp2_with fail;refine(vy _ V c1 (gA (IntKind.u64.wrap l.length)) _ R.out).mono ?_;rintro e w' ⟨rfl,rfl⟩;go_wp2_with fail;go_ret;exact⟨rfl,F.out⟩
end
end Go.Proofs.YtoedmpgicdekmaaGreatDoor
