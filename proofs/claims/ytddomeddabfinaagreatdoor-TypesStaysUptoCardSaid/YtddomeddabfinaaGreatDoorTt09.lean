/- Parts of the proof. -/
import Derived.Test.YtddomeddabfinaaGreatDoorTt00
import Derived.Test.YtddomeddabfinaaGreatDoorTt04
import Derived.Test.YtddomeddabfinaaGreatDoorTt05
import Derived.Test.YtddomeddabfinaaGreatDoorTt08
set_option maxRecDepth 100000
set_option maxHeartbeats 8000000
set_option linter.unusedVariables false
set_option linter.unusedSimpArgs false
set_option linter.unusedSectionVars false
namespace Go.Proofs.YtddomeddabfinaaGreatDoor
open Go.Proofs.Tryz
section
def vB (c:UInt8):Bool:=decide (32<=c.toNat/\c.toNat<=126)||c==10||c==9||c==0
def oT (c:UInt8):List UInt8:=if c=10 then[92,110]else if c=9 then[92,116]else if c=0 then[92,48]else if c=92 then[92,92]else if c=39 then[92,39]else if c=34 then[92,34]else[c]
def fq:List UInt8->List UInt8
 | []=>[]
 |c::l=>oT c++fq l
theorem yk (l m:List UInt8):fq (l++m)=fq l++fq m:=by
 induction l with
 |nil=>rfl
 |cons c l ih=>simp[fq,ih]
theorem l8 (c:UInt8):1<=(oT c).length/\(oT c).length<=2:=by
 unfold oT;(repeat' split)<;>simp
theorem jg: ∀l:List UInt8,l.length<=(fq l).length/\(fq l).length<=2*l.length
 | []=>by simp[fq]
 |c::l=>by have:=jg l;have:=l8 c;simp only[fq,ac,ah];omega
def f_ (l:List UInt8):List UInt8:=34::(fq l++[34])
def fZ (n:Nat):List UInt8:=if n<10 then[UInt8.ofNat (48+n)]else fZ (n/10)++[UInt8.ofNat (48+n%10)]
termination_by n
decreasing_by omega
theorem mc: ∀(k n:Nat),n<10^(k+1)->(fZ n).length<=k+1
 |0,n,h=>by rw[fZ,if_pos (by simpa using h)];simp
 |k+1,n,h=>by
  rw[fZ];split
  ·simp
  ·have:=mc k (n/10) (by rw[Nat.pow_succ]at h;omega);simp only[ac,ah,ai];omega
end
section
open Go.RowKit
def dY (l:List UInt8):Bool:=l.head?.any io&&decide (l.length<=14)&& !sY l&&l.all fd
theorem mP (p:UInt8->Bool) {l:List UInt8} {a:Nat} (h:a<l.length):(l.take (a+1)).all p=((l.take a).all p&&p l[a]):=by
 rw[aX h,iW,dV,List.all_nil,iy]
theorem xz (p:UInt8->Bool) {l:List UInt8} {a:Nat} (j:a<l.length) (h:p l[a]=false):l.all p=false:=by
 rw[List.all_eq_false];exact⟨l[a],ay j,by simp[h]⟩
theorem dJ (l:List UInt8) (an:l.length<=1073741824) (A:World):Calls prog 66 #[.string (J l)] A λe w'=>e=.returned (.bool (dY l))/\A=w':=by
 have ak:(J l).size=l.length:=bm l;have af:=O (nt);have ah:=O (oJ l);have ag:=O (m5);have w:=O (show dY l=(l.head?.any io&&decide (l.length<=14)&& !sY l&&l.all fd)from rfl);go_enter func66,ntmps66;go_wp2_with fail
 go_loop [6] (λG=> ∃a:Nat,G=.int .i64 a/\a<=l.length/\Hid ((l.take a).all fd=true)) (λG=>l.length-(intOf G).toNat)
 case atStart=>exact⟨0,rfl,aI _,O Qd⟩
 case round=>
  obtain⟨a,rfl,ao,R⟩:=hrel;by_cases hlt:a<l.length
  ·have I:a<(J l).size:=by rw[bm];exact hlt
   have aq:=nh l a I;have X:(a:Int)<l.length:=Qa
   have ae:=O (mP fd hlt);have aj:=O (λad=>xz fd hlt ad);have z:=O (af.out l[a] A);generalize l[a]'hlt=c at*
   cases hp:fd c with
   |true=>
    have ai:=O (show(l.take (a+1)).all fd=true by rw[ae.out,R.out,hp];rfl);rw[hp]at z;clear hp;go_wp2_with (refine z.out.mono ?_;rintro e w' ⟨rfl,rfl⟩)
    go_round
    case rel=>exact⟨a+1,by go_num,by omega,ai⟩
    case measure=>simp[intOf];omega
   |false=>
    have j:=O (show dY l=false by rw[w.out,aj.out hp,Bool.and_false]);rw[hp]at z;clear hp;go_wp2_with (refine z.out.mono ?_;rintro e w' ⟨rfl,rfl⟩);go_ret;exact⟨fG j.out.symm,rfl⟩
  ·have ab:a=l.length:=Qa
   have M:=O (show l.all fd=true by have:=R.out;rwa [ab,bU]at this);have X: ¬(a:Int)<l.length:=Qa
   clear R
   cases l with
   |nil=>
    have j:=O (show dY []=false by rfl);clear w M;go_wp2_with fail;go_ret;exact⟨fG j.out.symm,rfl⟩
   |cons c r=>
    have ar:0<(J (c::r)).size:=by rw[bm];simp
    have ap:(J (c::r))[0]=c:=rfl;have al:(c::r).length=r.length+1:=rfl;have K:=O (show dY (c::r)=(io c&&decide (r.length+1<=14)&& !sY (c::r)) by rw[w.out,M.out,iy];rfl);have o:=O (ag.out c);clear w M;generalize sY (c::r)=V at*
    cases hlc:io c with
    |false=>
     have j:=O (show dY (c::r)=false by rw[K.out,hlc];rfl);rw[hlc]at o;clear hlc;go_wp2_with (go_at_call 108;refine(o.out _).mono ?_;rintro e w' ⟨rfl,rfl⟩);go_ret;exact⟨fG j.out.symm,rfl⟩
    |true=>
     rw[hlc]at o;by_cases h14:r.length+1<=14
     ·have ac:(r.length:Int)+1<=14:=Qa
      have j:=O (show dY (c::r)= !V by rw[K.out,hlc];simp[h14]);clear hlc
      cases V;all_goals
       go_wp2_with (first
        |(go_at_call 108;refine(o.out _).mono ?_;rintro e w' ⟨rfl,rfl⟩)
        |(go_at_call 109;refine(ah.out _).mono ?_;rintro e w' ⟨rfl,rfl⟩))
       go_ret;exact⟨fG j.out.symm,rfl⟩
     ·have ac: ¬(r.length:Int)+1<=14:=Qa
      have j:=O (show dY (c::r)=false by rw[K.out,hlc];simp[h14]);clear hlc;go_wp2_with (go_at_call 108;refine(o.out _).mono ?_;rintro e w' ⟨rfl,rfl⟩);go_ret;exact⟨fG j.out.symm,rfl⟩
end
end Go.Proofs.YtddomeddabfinaaGreatDoor
