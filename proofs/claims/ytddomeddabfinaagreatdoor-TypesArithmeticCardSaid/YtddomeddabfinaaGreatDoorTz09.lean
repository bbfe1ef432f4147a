/-
  Parts of the proof: VaLexZ VaLexZb.
-/
import Derived.Test.YtddomeddabfinaaGreatDoorTz00
import Derived.Test.YtddomeddabfinaaGreatDoorTz04
import Derived.Test.YtddomeddabfinaaGreatDoorTz05
import Derived.Test.YtddomeddabfinaaGreatDoorTz08
set_option maxRecDepth 100000
set_option maxHeartbeats 8000000
set_option linter.unusedVariables false
set_option linter.unusedSimpArgs false
set_option linter.unusedSectionVars false
namespace Go.Proofs.YtddomeddabfinaaGreatDoor
open Go.Proofs.Tryz
section
def yX (c:UInt8):Bool:=decide (32<=c.toNat/\c.toNat<=126)||c==10||c==9||c==0
def rB (c:UInt8):List UInt8:=if c=10 then[92,110]else if c=9 then[92,116]else if c=0 then[92,48]else if c=92 then[92,92]else if c=39 then[92,39]else if c=34 then[92,34]else[c]
def fD:List UInt8->List UInt8
 | []=>[]
 |c::l=>rB c++fD l
theorem vh (l m:List UInt8):fD (l++m)=fD l++fD m:=by
 induction l with
 |nil=>rfl
 |cons c l ih=>simp[fD,ih]
theorem mW (c:UInt8):1<=(rB c).length/\(rB c).length<=2:=by
 unfold rB;(repeat' split)<;>simp
theorem gP: ∀l:List UInt8,l.length<=(fD l).length/\(fD l).length<=2*l.length
 | []=>by simp[fD]
 |c::l=>by have:=gP l;have:=mW c;simp only[fD,aa,ae];omega
def li (l:List UInt8):List UInt8:=34::(fD l++[34])
def ig (n:Nat):List UInt8:=if n<10 then[UInt8.ofNat (48+n)]else ig (n/10)++[UInt8.ofNat (48+n%10)]
termination_by n
decreasing_by omega
theorem mX: ∀(k n:Nat),n<10^(k+1)->(ig n).length<=k+1
 |0,n,h=>by rw[ig,if_pos (by simpa using h)];simp
 |k+1,n,h=>by
  rw[ig];split
  ·simp
  ·have:=mX k (n/10) (by rw[Nat.pow_succ]at h;omega);simp only[aa,ae,ag];omega
end
section
open Go.RowKit
def dP (l:List UInt8):Bool:=l.head?.any kN&&decide (l.length<=14)&& !vF l&&l.all eT
theorem kZ (p:UInt8->Bool) {l:List UInt8} {j:Nat} (h:j<l.length):(l.take (j+1)).all p=((l.take j).all p&&p l[j]):=by
 rw[bp h,jE,List.all_cons,List.all_nil,gq]
theorem ut (p:UInt8->Bool) {l:List UInt8} {j:Nat} (h:j<l.length) (hp:p l[j]=false):l.all p=false:=by
 rw[List.all_eq_false];exact⟨l[j],au h,by simp[hp]⟩
theorem cY (l:List UInt8) (hl:l.length<=1073741824) (w:World):Calls prog 66 #[.string (ai l)] w fun e w'=>e= .returned (.bool (dP l))/\w=w':=by
 have hsz:(ai l).size=l.length:=a7 l;have HP:=G (lP);have HK:=G (mU l);have HL:=G (lq);have HN:=G (show dP l=(l.head?.any kN&&decide (l.length<=14)&& !vF l&&l.all eT)from rfl);go_enter func66,ntmps66;go_wp2_with fail
 go_loop [6] (fun vi=> ∃j:Nat,vi= .int .i64 j/\j<=l.length/\Hid ((l.take j).all eT=true)) (fun vi=>l.length-(intOf vi).toNat)
 case atStart=>exact⟨0,rfl,aG _,G (by simp)⟩
 case round=>
  obtain⟨j,rfl,hj,HA⟩:=hrel;by_cases hlt:j<l.length
  ·have hjs:j<(ai l).size:=by rw[a7];exact hlt
   have hg:=lH l j hjs;have hlt':(j:Int)<l.length:=by omega
   have HS:=G (kZ eT hlt);have HB:=G (fun h=>ut eT hlt h);have HCC:=G (HP.out l[j] w);generalize l[j]'hlt=c at*
   cases hp:eT c with
   |true=>
    have HJ:=G (show(l.take (j+1)).all eT=true by rw[HS.out,HA.out,hp];rfl);rw[hp]at HCC;clear hp;go_wp2_with (refine HCC.out.mono ?_;rintro e w' ⟨rfl,rfl⟩)
    go_round
    case rel=>exact⟨j+1,by go_num,by omega,HJ⟩
    case measure=>simp[intOf];omega
   |false=>
    have HR:=G (show dP l=false by rw[HN.out,HB.out hp,Bool.and_false]);rw[hp]at HCC;clear hp;go_wp2_with (refine HCC.out.mono ?_;rintro e w' ⟨rfl,rfl⟩);go_ret;exact⟨eA HR.out.symm,rfl⟩
  ·have hjl:j=l.length:=by omega
   have HAA:=G (show l.all eT=true by have:=HA.out;rwa [hjl,bD]at this);have hlt': ¬(j:Int)<l.length:=by omega
   clear HA
   cases l with
   |nil=>
    have HR:=G (show dP []=false by rfl);clear HN HAA;go_wp2_with fail;go_ret;exact⟨eA HR.out.symm,rfl⟩
   |cons c r=>
    have h0:0<(ai (c::r)).size:=by rw[a7];simp
    have hg0:(ai (c::r))[0]=c:=rfl;have hlen:(c::r).length=r.length+1:=rfl;have HN2:=G (show dP (c::r)=(kN c&&decide (r.length+1<=14)&& !vF (c::r)) by rw[HN.out,HAA.out,gq];rfl);have HLC:=G (HL.out c);clear HN HAA;generalize vF (c::r)=kw at*
    cases hlc:kN c with
    |false=>
     have HR:=G (show dP (c::r)=false by rw[HN2.out,hlc];rfl);rw[hlc]at HLC;clear hlc;go_wp2_with (go_at_call 108;refine(HLC.out _).mono ?_;rintro e w' ⟨rfl,rfl⟩);go_ret;exact⟨eA HR.out.symm,rfl⟩
    |true=>
     rw[hlc]at HLC;by_cases h14:r.length+1<=14
     ·have h14':(r.length:Int)+1<=14:=by omega
      have HR:=G (show dP (c::r)= !kw by rw[HN2.out,hlc];simp[h14]);clear hlc
      cases kw;all_goals
       go_wp2_with (first
        |(go_at_call 108;refine(HLC.out _).mono ?_;rintro e w' ⟨rfl,rfl⟩)
        |(go_at_call 109;refine(HK.out _).mono ?_;rintro e w' ⟨rfl,rfl⟩))
       go_ret;exact⟨eA HR.out.symm,rfl⟩
     ·have h14': ¬(r.length:Int)+1<=14:=by omega
      have HR:=G (show dP (c::r)=false by rw[HN2.out,hlc];simp[h14]);clear hlc;go_wp2_with (go_at_call 108;refine(HLC.out _).mono ?_;rintro e w' ⟨rfl,rfl⟩);go_ret;exact⟨eA HR.out.symm,rfl⟩
end
end Go.Proofs.YtddomeddabfinaaGreatDoor
