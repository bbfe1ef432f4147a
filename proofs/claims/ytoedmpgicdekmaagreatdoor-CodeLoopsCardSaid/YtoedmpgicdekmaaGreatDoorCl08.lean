/- Parts of the proof. -/
import Derived.Test.YtoedmpgicdekmaaGreatDoorCl00
import Derived.Shelf.Strings.Builder1
import Derived.Shelf.Strings.BuilderK
import Derived.Test.YtoedmpgicdekmaaGreatDoorProg
import Derived.Test.YtoedmpgicdekmaaGreatDoorCl04
import Derived.Test.YtoedmpgicdekmaaGreatDoorCl05
set_option maxRecDepth 100000
set_option maxHeartbeats 8000000
set_option linter.unusedVariables false
set_option linter.unusedSimpArgs false
set_option linter.unusedSectionVars false
namespace Go.Proofs
open Go.Proofs.Tryz
open Go.Shelf
def Tryz.lays167_ren:Go.Shelf.Ren:=⟨fun|167=>265|240=>170|276=>211|n=>n,fun|0=>0|4=>4|5=>5|9=>9|20=>20|37=>36|70=>213|72=>215|75=>219|164=>288|80=>192|n=>n,fun|n=>n⟩
theorem Tryz.lays167:Go.Proofs.Lays.n167 prog Tryz.lays167_ren:={
 mixed:=by kernel_rfl
 f167:=func265.trans (congrArg some (by kernel_rfl))
 f240:=func170.trans (congrArg some (by kernel_rfl))
 f276:=func211.trans (congrArg some (by kernel_rfl))
 t0:=underlying0
 a0:=Tryz.isAgg0
 z0:=Tryz.sizeOf0
 v0:=Tryz.zeroValue0
 t4:=underlying4
 a4:=Tryz.isAgg4
 z4:=Tryz.sizeOf4
 v4:=Tryz.zeroValue4
 t5:=underlying5
 a5:=Tryz.isAgg5
 z5:=Tryz.sizeOf5
 v5:=Tryz.zeroValue5
 t9:=underlying9
 a9:=Tryz.isAgg9
 z9:=Tryz.sizeOf9
 v9:=Tryz.zeroValue9
 t20:=underlying20
 a20:=Tryz.isAgg20
 z20:=Tryz.sizeOf20
 v20:=Tryz.zeroValue20
 t37:=underlying36
 a37:=Tryz.isAgg36
 z37:=Tryz.sizeOf36
 v37:=Tryz.zeroValue36
 t70:=underlying213
 a70:=Tryz.isAgg213
 z70:=Tryz.sizeOf213
 v70:=Tryz.zeroValue213
 t72:=underlying215
 a72:=Tryz.isAgg215
 z72:=Tryz.sizeOf215
 v72:=Tryz.zeroValue215
 t75:=underlying219
 a75:=Tryz.isAgg219
 z75:=Tryz.sizeOf219
 v75:=Tryz.zeroValue219
 t164:=underlying288
 a164:=Tryz.isAgg288
 z164:=Tryz.sizeOf288
 v164:=Tryz.zeroValue288}
theorem Tryz.Builder_Extra_167:Builder.Extra prog Tryz.lays167_ren:={
 sizeBuilder:=by kernel_rfl
 liesBuilder:=by kernel_rfl
 t5:=underlying5
 a5:=Tryz.isAgg5
 z5:=Tryz.sizeOf5
 v5:=Tryz.zeroValue5
 infoByte:=by kernel_rfl
 cellsByte:=by kernel_rfl
 sizeByte:=by kernel_rfl
 neB5:=by decide}
def Tryz.lays169_ren:Go.Shelf.Ren:=⟨fun|169=>122|n=>n,fun|0=>0|3=>3|9=>9|37=>36|70=>213|72=>215|127=>268|5=>5|n=>n,fun|n=>n⟩
theorem Tryz.lays169:Go.Proofs.Lays.n169 prog Tryz.lays169_ren:={
 mixed:=by kernel_rfl
 f169:=func122.trans (congrArg some (by kernel_rfl))
 t0:=underlying0
 a0:=Tryz.isAgg0
 z0:=Tryz.sizeOf0
 v0:=Tryz.zeroValue0
 t3:=underlying3
 a3:=Tryz.isAgg3
 z3:=Tryz.sizeOf3
 v3:=Tryz.zeroValue3
 t9:=underlying9
 a9:=Tryz.isAgg9
 z9:=Tryz.sizeOf9
 v9:=Tryz.zeroValue9
 t37:=underlying36
 a37:=Tryz.isAgg36
 z37:=Tryz.sizeOf36
 v37:=Tryz.zeroValue36
 t70:=underlying213
 a70:=Tryz.isAgg213
 z70:=Tryz.sizeOf213
 v70:=Tryz.zeroValue213
 t72:=underlying215
 a72:=Tryz.isAgg215
 z72:=Tryz.sizeOf215
 v72:=Tryz.zeroValue215
 t127:=underlying268
 a127:=Tryz.isAgg268
 z127:=Tryz.sizeOf268
 v127:=Tryz.zeroValue268}
theorem Tryz.Builder_Extra_169:Builder.Extra prog Tryz.lays169_ren:={
 sizeBuilder:=by kernel_rfl
 liesBuilder:=by kernel_rfl
 t5:=underlying5
 a5:=Tryz.isAgg5
 z5:=Tryz.sizeOf5
 v5:=Tryz.zeroValue5
 infoByte:=by kernel_rfl
 cellsByte:=by kernel_rfl
 sizeByte:=by kernel_rfl
 neB5:=by decide}
open Go.RowKit in
theorem Tryz.Builder_WriteByte (B b:Nat) (bs:List Value) (c:Int) (a:World) (o:Lib.IsBuilder 215 5 B b bs a) (d:bs.length+1<=140737488355328) (h:B<=a.heap.size):
  Calls prog 265 #[.pointer (some ⟨b,0,none⟩), .int .u8 c] a λe w'=>e= .returned .nilIface/\(Lib.BuilderAt 215 5 B b (.pointer (some ⟨b,0,none⟩)) (bs++[.int .u8 c]) w'/\Below B a w'):=Any.Builder_WriteByte Tryz.lays167 Tryz.Builder_Extra_167 B b bs c a o d h
open Go.RowKit in
theorem Tryz.Builder_String_any (B b:Nat) (l:List UInt8) (a:World) (h:Lib.IsBuilder 215 5 B b (Lib.byteCells l) a) (d:B<=a.heap.size):
  Calls prog 122 #[.pointer (some ⟨b,0,none⟩)] a λe w'=>e= .returned (.string ⟨l.toArray⟩)/\Below B a w':=Any.Builder_String_any Tryz.lays169 Tryz.Builder_Extra_169 B b l a h d
end Go.Proofs
namespace Go.Proofs.YtoedmpgicdekmaaGreatDoor
open Go.Proofs.Tryz
section
def CA (c:UInt8):Bool:=decide (32<=c.toNat/\c.toNat<=126)||c==10||c==9||c==0
def uJ (c:UInt8):List UInt8:=if c=10 then[92,110]else if c=9 then[92,116]else if c=0 then[92,48]else if c=92 then[92,92]else if c=39 then[92,39]else if c=34 then[92,34]else[c]
def gB:List UInt8->List UInt8
 | []=>[]
 |c::l=>uJ c++gB l
theorem yA (l m:List UInt8):gB (l++m)=gB l++gB m:=by
 induction l with
 |nil=>rfl
 |cons c l ih=>simp[gB,ih]
theorem pg (c:UInt8):1<=(uJ c).length/\(uJ c).length<=2:=by
 unfold uJ;(repeat' split)<;>simp
theorem jd: ∀l:List UInt8,l.length<=(gB l).length/\(gB l).length<=2*l.length
 | []=>by simp[gB]
 |c::l=>by have:=jd l;have:=pg c;simp only[gB,ac,ag];omega
def mK (l:List UInt8):List UInt8:=34::(gB l++[34])
def lR (n:Nat):List UInt8:=if n<10 then[UInt8.ofNat (48+n)]else lR (n/10)++[UInt8.ofNat (48+n%10)]
termination_by n
decreasing_by omega
theorem pk: ∀(k n:Nat),n<10^(k+1)->(lR n).length<=k+1
 |0,n,h=>by rw[lR,if_pos (by simpa using h)];simp
 |k+1,n,h=>by
  rw[lR];split
  ·simp
  ·have:=pk k (n/10) (by rw[Nat.pow_succ]at h;omega);simp only[ac,ag,ai];omega
end
section
open Go.RowKit
def eB (l:List UInt8):Bool:=l.head?.any mo&&decide (l.length<=14)&& !yO l&&l.all fV
theorem mD (p:UInt8->Bool) {l:List UInt8} {j:Nat} (a:j<l.length):(l.take (j+1)).all p=((l.take j).all p&&p l[j]):=by
 rw[aT a,iU,List.all_cons,List.all_nil,iv]
theorem xR (p:UInt8->Bool) {l:List UInt8} {j:Nat} (d:j<l.length) (a:p l[j]=false):l.all p=false:=by
 rw[List.all_eq_false];exact⟨l[j],ay d,by simp[a]⟩
theorem dJ (l:List UInt8) (af:l.length<=1073741824) (w:World):Calls prog 57 #[.string (ak l)] w λe w'=>e= .returned (.bool (eB l))/\w=w':=by
 have ad:(ak l).size=l.length:=a7 l;have X:=G (nA);have aa:=G (o_ l);have Z:=G (mP);have o:=G (show eB l=(l.head?.any mo&&decide (l.length<=14)&& !yO l&&l.all fV)from rfl);go_enter func57,ntmps57;go_wp2_with fail
 go_loop [6] (λy=> ∃j:Nat,y= .int .i64 j/\j<=l.length/\Hid ((l.take j).all fV=true)) (λy=>l.length-(intOf y).toNat)
 case atStart=>exact⟨0,rfl,aD _,G (by simp)⟩
 case round=>
  obtain⟨j,rfl,ag,F⟩:=hrel;by_cases hlt:j<l.length
  ·have J:j<(ak l).size:=by rw[a7];exact hlt
   have ai:=nc l j J;have I:(j:Int)<l.length:=by omega
   have V:=G (mD fV hlt);have ac:=G (λR=>xR fV hlt R);have u:=G (X.out l[j] w);generalize l[j]'hlt=c at*
   cases hp:fV c with
   |true=>
    have ab:=G (show(l.take (j+1)).all fV=true by rw[V.out,F.out,hp];rfl);rw[hp]at u;clear hp;go_wp2_with (refine u.out.mono ?_;rintro e w' ⟨rfl,rfl⟩)
    go_round
    case rel=>exact⟨j+1,by go_num,by omega,ab⟩
    case measure=>simp[intOf];omega
   |false=>
    have a:=G (show eB l=false by rw[o.out,ac.out hp,lw]);rw[hp]at u;clear hp;go_wp2_with (refine u.out.mono ?_;rintro e w' ⟨rfl,rfl⟩);go_ret;exact⟨fq a.out.symm,rfl⟩
  ·have K:j=l.length:=by omega
   have A:=G (show l.all fV=true by have:=F.out;rwa [K,bY]at this);have I: ¬(j:Int)<l.length:=by omega
   clear F
   cases l with
   |nil=>
    have a:=G (show eB []=false by rfl);clear o A;go_wp2_with fail;go_ret;exact⟨fq a.out.symm,rfl⟩
   |cons c r=>
    have aj:0<(ak (c::r)).size:=by rw[a7];simp
    have ah:(ak (c::r))[0]=c:=rfl;have ae:(c::r).length=r.length+1:=rfl;have z:=G (show eB (c::r)=(mo c&&decide (r.length+1<=14)&& !yO (c::r)) by rw[o.out,A.out,iv];rfl);have d:=G (Z.out c);clear o A;generalize yO (c::r)=H at*
    cases hlc:mo c with
    |false=>
     have a:=G (show eB (c::r)=false by rw[z.out,hlc];rfl);rw[hlc]at d;clear hlc;go_wp2_with (go_at_call 108;refine(d.out _).mono ?_;rintro e w' ⟨rfl,rfl⟩);go_ret;exact⟨fq a.out.symm,rfl⟩
    |true=>
     rw[hlc]at d;by_cases h14:r.length+1<=14
     ·have M:(r.length:Int)+1<=14:=by omega
      have a:=G (show eB (c::r)= !H by rw[z.out,hlc];simp[h14]);clear hlc
      cases H;all_goals
       go_wp2_with (first
        |(go_at_call 108;refine(d.out _).mono ?_;rintro e w' ⟨rfl,rfl⟩)
        |(go_at_call 109;refine(aa.out _).mono ?_;rintro e w' ⟨rfl,rfl⟩))
       go_ret;exact⟨fq a.out.symm,rfl⟩
     ·have M: ¬(r.length:Int)+1<=14:=by omega
      have a:=G (show eB (c::r)=false by rw[z.out,hlc];simp[h14]);clear hlc;go_wp2_with (go_at_call 108;refine(d.out _).mono ?_;rintro e w' ⟨rfl,rfl⟩);go_ret;exact⟨fq a.out.symm,rfl⟩
end
end Go.Proofs.YtoedmpgicdekmaaGreatDoor
