/-
  Parts of the proof: ShelfBld VaLexZ VaLexZb.
-/
import Derived.Test.YtoedmpgicdekmaaGreatDoorCq00
import Derived.Shelf.Strings.Builder1
import Derived.Shelf.Strings.BuilderK
import Derived.Test.YtoedmpgicdekmaaGreatDoorProg
import Derived.Test.YtoedmpgicdekmaaGreatDoorCq04
import Derived.Test.YtoedmpgicdekmaaGreatDoorCq05
set_option maxRecDepth 100000
set_option maxHeartbeats 8000000
set_option linter.unusedVariables false
set_option linter.unusedSimpArgs false
set_option linter.unusedSectionVars false
namespace Go.Proofs
open Go.Proofs.Tryz
open Go.Shelf
def Tryz.lays167_ren:Go.Shelf.Ren:=⟨fun|167=>265|240=>170|276=>211|n=>n,fun|0=>0|4=>4|5=>5|9=>9|20=>20|37=>36|70=>213|72=>215|75=>219|164=>288|80=>192|n=>n,fun|n=>n⟩
theorem Tryz.lays167:Go.Proofs.Lays.n167 prog Tryz.lays167_ren:={
 mixed:=by kernel_rfl
 f167:=func265.trans (congrArg some (by kernel_rfl))
 f240:=func170.trans (congrArg some (by kernel_rfl))
 f276:=func211.trans (congrArg some (by kernel_rfl))
 t0:=underlying0
 a0:=Tryz.isAgg0
 z0:=Tryz.sizeOf0
 v0:=Tryz.zeroValue0
 t4:=underlying4
 a4:=Tryz.isAgg4
 z4:=Tryz.sizeOf4
 v4:=Tryz.zeroValue4
 t5:=underlying5
 a5:=Tryz.isAgg5
 z5:=Tryz.sizeOf5
 v5:=Tryz.zeroValue5
 t9:=underlying9
 a9:=Tryz.isAgg9
 z9:=Tryz.sizeOf9
 v9:=Tryz.zeroValue9
 t20:=underlying20
 a20:=Tryz.isAgg20
 z20:=Tryz.sizeOf20
 v20:=Tryz.zeroValue20
 t37:=underlying36
 a37:=Tryz.isAgg36
 z37:=Tryz.sizeOf36
 v37:=Tryz.zeroValue36
 t70:=underlying213
 a70:=Tryz.isAgg213
 z70:=Tryz.sizeOf213
 v70:=Tryz.zeroValue213
 t72:=underlying215
 a72:=Tryz.isAgg215
 z72:=Tryz.sizeOf215
 v72:=Tryz.zeroValue215
 t75:=underlying219
 a75:=Tryz.isAgg219
 z75:=Tryz.sizeOf219
 v75:=Tryz.zeroValue219
 t164:=underlying288
 a164:=Tryz.isAgg288
 z164:=Tryz.sizeOf288
 v164:=Tryz.zeroValue288}
theorem Tryz.Builder_Extra_167:Builder.Extra prog Tryz.lays167_ren:={
 sizeBuilder:=by kernel_rfl
 liesBuilder:=by kernel_rfl
 t5:=underlying5
 a5:=Tryz.isAgg5
 z5:=Tryz.sizeOf5
 v5:=Tryz.zeroValue5
 infoByte:=by kernel_rfl
 cellsByte:=by kernel_rfl
 sizeByte:=by kernel_rfl
 neB5:=by decide}
def Tryz.lays169_ren:Go.Shelf.Ren:=⟨fun|169=>122|n=>n,fun|0=>0|3=>3|9=>9|37=>36|70=>213|72=>215|127=>268|5=>5|n=>n,fun|n=>n⟩
theorem Tryz.lays169:Go.Proofs.Lays.n169 prog Tryz.lays169_ren:={
 mixed:=by kernel_rfl
 f169:=func122.trans (congrArg some (by kernel_rfl))
 t0:=underlying0
 a0:=Tryz.isAgg0
 z0:=Tryz.sizeOf0
 v0:=Tryz.zeroValue0
 t3:=underlying3
 a3:=Tryz.isAgg3
 z3:=Tryz.sizeOf3
 v3:=Tryz.zeroValue3
 t9:=underlying9
 a9:=Tryz.isAgg9
 z9:=Tryz.sizeOf9
 v9:=Tryz.zeroValue9
 t37:=underlying36
 a37:=Tryz.isAgg36
 z37:=Tryz.sizeOf36
 v37:=Tryz.zeroValue36
 t70:=underlying213
 a70:=Tryz.isAgg213
 z70:=Tryz.sizeOf213
 v70:=Tryz.zeroValue213
 t72:=underlying215
 a72:=Tryz.isAgg215
 z72:=Tryz.sizeOf215
 v72:=Tryz.zeroValue215
 t127:=underlying268
 a127:=Tryz.isAgg268
 z127:=Tryz.sizeOf268
 v127:=Tryz.zeroValue268}
theorem Tryz.Builder_Extra_169:Builder.Extra prog Tryz.lays169_ren:={
 sizeBuilder:=by kernel_rfl
 liesBuilder:=by kernel_rfl
 t5:=underlying5
 a5:=Tryz.isAgg5
 z5:=Tryz.sizeOf5
 v5:=Tryz.zeroValue5
 infoByte:=by kernel_rfl
 cellsByte:=by kernel_rfl
 sizeByte:=by kernel_rfl
 neB5:=by decide}
open Go.RowKit in
theorem Tryz.Builder_WriteByte (B b:Nat) (bs:List Value) (c:Int) (w:World) (h:Lib.IsBuilder 215 5 B b bs w) (hlen:bs.length+1<=140737488355328) (hBw:B<=w.heap.size):
  Calls prog 265 #[.pointer (some ⟨b,0,none⟩), .int .u8 c] w fun e w'=>e= .returned .nilIface/\(Lib.BuilderAt 215 5 B b (.pointer (some ⟨b,0,none⟩)) (bs++[.int .u8 c]) w'/\Below B w w'):=Any.Builder_WriteByte Tryz.lays167 Tryz.Builder_Extra_167 B b bs c w h hlen hBw
open Go.RowKit in
theorem Tryz.Builder_String_any (B b:Nat) (l:List UInt8) (w:World) (h:Lib.IsBuilder 215 5 B b (Lib.byteCells l) w) (hBw:B<=w.heap.size):
  Calls prog 122 #[.pointer (some ⟨b,0,none⟩)] w fun e w'=>e= .returned (.string ⟨l.toArray⟩)/\Below B w w':=Any.Builder_String_any Tryz.lays169 Tryz.Builder_Extra_169 B b l w h hBw
end Go.Proofs
namespace Go.Proofs.YtoedmpgicdekmaaGreatDoor
open Go.Proofs.Tryz
section
def Av (c:UInt8):Bool:=decide (32<=c.toNat/\c.toNat<=126)||c==10||c==9||c==0
def sG (c:UInt8):List UInt8:=if c=10 then[92,110]else if c=9 then[92,116]else if c=0 then[92,48]else if c=92 then[92,92]else if c=39 then[92,39]else if c=34 then[92,34]else[c]
def fJ:List UInt8->List UInt8
 | []=>[]
 |c::l=>sG c++fJ l
theorem wu (l m:List UInt8):fJ (l++m)=fJ l++fJ m:=by
 induction l with
 |nil=>rfl
 |cons c l ih=>simp[fJ,ih]
theorem mZ (c:UInt8):1<=(sG c).length/\(sG c).length<=2:=by
 unfold sG;(repeat' split)<;>simp
theorem gX: ∀l:List UInt8,l.length<=(fJ l).length/\(fJ l).length<=2*l.length
 | []=>by simp[fJ]
 |c::l=>by have:=gX l;have:=mZ c;simp only[fJ,ab,ae];omega
def ll (l:List UInt8):List UInt8:=34::(fJ l++[34])
def ko (n:Nat):List UInt8:=if n<10 then[UInt8.ofNat (48+n)]else ko (n/10)++[UInt8.ofNat (48+n%10)]
termination_by n
decreasing_by omega
theorem m': ∀(k n:Nat),n<10^(k+1)->(ko n).length<=k+1
 |0,n,h=>by rw[ko,if_pos (by simpa using h)];simp
 |k+1,n,h=>by
  rw[ko];split
  ·simp
  ·have:=m' k (n/10) (by rw[Nat.pow_succ]at h;omega);simp only[ab,ae,ag];omega
end
section
open Go.RowKit
def dV (l:List UInt8):Bool:=l.head?.any kO&&decide (l.length<=14)&& !wI l&&l.all eZ
theorem k9 (p:UInt8->Bool) {l:List UInt8} {j:Nat} (h:j<l.length):(l.take (j+1)).all p=((l.take j).all p&&p l[j]):=by
 rw[aM h,gP,List.all_cons,List.all_nil,gA]
theorem vD (p:UInt8->Bool) {l:List UInt8} {j:Nat} (h:j<l.length) (hp:p l[j]=false):l.all p=false:=by
 rw[List.all_eq_false];exact⟨l[j],ap h,by simp[hp]⟩
theorem df (l:List UInt8) (hl:l.length<=1073741824) (w:World):Calls prog 57 #[.string (an l)] w fun e w'=>e= .returned (.bool (dV l))/\w=w':=by
 have hsz:(an l).size=l.length:=aU l;have HP:=G (lN);have HK:=G (mX l);have HL:=G (lm);have HN:=G (show dV l=(l.head?.any kO&&decide (l.length<=14)&& !wI l&&l.all eZ)from rfl);go_enter func57,ntmps57;go_wp2_with fail
 go_loop [6] (fun vi=> ∃j:Nat,vi= .int .i64 j/\j<=l.length/\Hid ((l.take j).all eZ=true)) (fun vi=>l.length-(intOf vi).toNat)
 case atStart=>exact⟨0,rfl,aC _,G (by simp)⟩
 case round=>
  obtain⟨j,rfl,hj,HA⟩:=hrel;by_cases hlt:j<l.length
  ·have hjs:j<(an l).size:=by rw[aU];exact hlt
   have hg:=lC l j hjs;have hlt':(j:Int)<l.length:=by omega
   have HS:=G (k9 eZ hlt);have HB:=G (fun h=>vD eZ hlt h);have HCC:=G (HP.out l[j] w);generalize l[j]'hlt=c at*
   cases hp:eZ c with
   |true=>
    have HJ:=G (show(l.take (j+1)).all eZ=true by rw[HS.out,HA.out,hp];rfl);rw[hp]at HCC;clear hp;go_wp2_with (refine HCC.out.mono ?_;rintro e w' ⟨rfl,rfl⟩)
    go_round
    case rel=>exact⟨j+1,by go_num,by omega,HJ⟩
    case measure=>simp[intOf];omega
   |false=>
    have HR:=G (show dV l=false by rw[HN.out,HB.out hp,j3]);rw[hp]at HCC;clear hp;go_wp2_with (refine HCC.out.mono ?_;rintro e w' ⟨rfl,rfl⟩);go_ret;exact⟨eC HR.out.symm,rfl⟩
  ·have hjl:j=l.length:=by omega
   have HAA:=G (show l.all eZ=true by have:=HA.out;rwa [hjl,bQ]at this);have hlt': ¬(j:Int)<l.length:=by omega
   clear HA
   cases l with
   |nil=>
    have HR:=G (show dV []=false by rfl);clear HN HAA;go_wp2_with fail;go_ret;exact⟨eC HR.out.symm,rfl⟩
   |cons c r=>
    have h0:0<(an (c::r)).size:=by rw[aU];simp
    have hg0:(an (c::r))[0]=c:=rfl;have hlen:(c::r).length=r.length+1:=rfl;have HN2:=G (show dV (c::r)=(kO c&&decide (r.length+1<=14)&& !wI (c::r)) by rw[HN.out,HAA.out,gA];rfl);have HLC:=G (HL.out c);clear HN HAA;generalize wI (c::r)=kw at*
    cases hlc:kO c with
    |false=>
     have HR:=G (show dV (c::r)=false by rw[HN2.out,hlc];rfl);rw[hlc]at HLC;clear hlc;go_wp2_with (go_at_call 108;refine(HLC.out _).mono ?_;rintro e w' ⟨rfl,rfl⟩);go_ret;exact⟨eC HR.out.symm,rfl⟩
    |true=>
     rw[hlc]at HLC;by_cases h14:r.length+1<=14
     ·have h14':(r.length:Int)+1<=14:=by omega
      have HR:=G (show dV (c::r)= !kw by rw[HN2.out,hlc];simp[h14]);clear hlc
      cases kw;all_goals
       go_wp2_with (first
        |(go_at_call 108;refine(HLC.out _).mono ?_;rintro e w' ⟨rfl,rfl⟩)
        |(go_at_call 109;refine(HK.out _).mono ?_;rintro e w' ⟨rfl,rfl⟩))
       go_ret;exact⟨eC HR.out.symm,rfl⟩
     ·have h14': ¬(r.length:Int)+1<=14:=by omega
      have HR:=G (show dV (c::r)=false by rw[HN2.out,hlc];simp[h14]);clear hlc;go_wp2_with (go_at_call 108;refine(HLC.out _).mono ?_;rintro e w' ⟨rfl,rfl⟩);go_ret;exact⟨eC HR.out.symm,rfl⟩
end
end Go.Proofs.YtoedmpgicdekmaaGreatDoor
