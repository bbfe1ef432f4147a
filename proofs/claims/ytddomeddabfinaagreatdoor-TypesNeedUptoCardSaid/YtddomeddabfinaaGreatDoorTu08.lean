/-
  Parts of the proof: VaLexZ VaLexZb.
-/
import Derived.Test.YtddomeddabfinaaGreatDoorTu00
import Derived.Test.YtddomeddabfinaaGreatDoorTu04
import Derived.Test.YtddomeddabfinaaGreatDoorTu05
import Derived.Test.YtddomeddabfinaaGreatDoorTu07
set_option maxRecDepth 100000
set_option maxHeartbeats 8000000
set_option linter.unusedVariables false
set_option linter.unusedSimpArgs false
set_option linter.unusedSectionVars false
namespace Go.Proofs.YtddomeddabfinaaGreatDoor
open Go.Proofs.Tryz
section
def qZ (c:UInt8):Bool:=decide (32<=c.toNat/\c.toNat<=126)||c==10||c==9||c==0
def m9 (c:UInt8):List UInt8:=if c=10 then[92,110]else if c=9 then[92,116]else if c=0 then[92,48]else if c=92 then[92,92]else if c=39 then[92,39]else if c=34 then[92,34]else[c]
def dU:List UInt8->List UInt8
 | []=>[]
 |c::l=>m9 c++dU l
theorem s5 (l m:List UInt8):dU (l++m)=dU l++dU m:=by
 induction l with
 |nil=>rfl
 |cons c l ih=>simp[dU,ih]
theorem jF (c:UInt8):1<=(m9 c).length/\(m9 c).length<=2:=by
 unfold m9;(repeat' split)<;>simp
theorem eK: ∀l:List UInt8,l.length<=(dU l).length/\(dU l).length<=2*l.length
 | []=>by simp[dU]
 |c::l=>by have:=eK l;have:=jF c;simp only[dU,aa,ac];omega
def gJ (l:List UInt8):List UInt8:=34::(dU l++[34])
def eD (n:Nat):List UInt8:=if n<10 then[UInt8.ofNat (48+n)]else eD (n/10)++[UInt8.ofNat (48+n%10)]
termination_by n
decreasing_by omega
theorem jI: ∀(k n:Nat),n<10^(k+1)->(eD n).length<=k+1
 |0,n,h=>by rw[eD,if_pos (by simpa using h)];simp
 |k+1,n,h=>by
  rw[eD];split
  ·simp
  ·have:=jI k (n/10) (by rw[Nat.pow_succ]at h;omega);simp only[aa,ac,ah];omega
end
section
open Go.RowKit
def bV (l:List UInt8):Bool:=l.head?.any fw&&decide (l.length<=14)&& !o4 l&&l.all dL
theorem fN (p:UInt8->Bool) {l:List UInt8} {j:Nat} (h:j<l.length):(l.take (j+1)).all p=((l.take j).all p&&p l[j]):=by
 rw[aD h,dQ,eP,ky,cg]
theorem oT (p:UInt8->Bool) {l:List UInt8} {j:Nat} (h:j<l.length) (hp:p l[j]=false):l.all p=false:=by
 rw[gZ];exact⟨l[j],ai h,by simp[hp]⟩
theorem cW (l:List UInt8) (hl:l.length<=1073741824) (w:World):Calls prog 66 #[.string (ag l)] w fun e w'=>e= .returned (.bool (bV l))/\w=w':=by
 have hsz:(ag l).size=l.length:=aL l;have HP:=G (kF);have HK:=G (lF l);have HL:=G (kq);have HN:=G (show bV l=(l.head?.any fw&&decide (l.length<=14)&& !o4 l&&l.all dL)from rfl);go_enter func66,ntmps66;go_wp2_with fail
 go_loop [6] (fun vi=> ∃j:Nat,vi= .int .i64 j/\j<=l.length/\Hid ((l.take j).all dL=true)) (fun vi=>l.length-(intOf vi).toNat)
 case atStart=>exact⟨0,rfl,az _,G (by simp)⟩
 case round=>
  obtain⟨j,rfl,hj,HA⟩:=hrel;by_cases hlt:j<l.length
  ·have hjs:j<(ag l).size:=by rw[aL];exact hlt
   have hg:=g8 l j hjs;have hlt':(j:Int)<l.length:=by omega
   have HS:=G (fN dL hlt);have HB:=G (fun h=>oT dL hlt h);have HCC:=G (HP.out l[j] w);generalize l[j]'hlt=c at*
   cases hp:dL c with
   |true=>
    have HJ:=G (show(l.take (j+1)).all dL=true by rw[HS.out,HA.out,hp];rfl);rw[hp]at HCC;clear hp;go_wp2_with (refine HCC.out.mono ?_;rintro e w' ⟨rfl,rfl⟩)
    go_round
    case rel=>exact⟨j+1,by go_num,by omega,HJ⟩
    case measure=>simp[intOf];omega
   |false=>
    have HR:=G (show bV l=false by rw[HN.out,HB.out hp,jo]);rw[hp]at HCC;clear hp;go_wp2_with (refine HCC.out.mono ?_;rintro e w' ⟨rfl,rfl⟩);go_ret;exact⟨bN HR.out.symm,rfl⟩
  ·have hjl:j=l.length:=by omega
   have HAA:=G (show l.all dL=true by have:=HA.out;rwa [hjl,bw]at this);have hlt': ¬(j:Int)<l.length:=by omega
   clear HA
   cases l with
   |nil=>
    have HR:=G (show bV []=false by rfl);clear HN HAA;go_wp2_with fail;go_ret;exact⟨bN HR.out.symm,rfl⟩
   |cons c r=>
    have h0:0<(ag (c::r)).size:=by rw[aL];simp
    have hg0:(ag (c::r))[0]=c:=rfl;have hlen:(c::r).length=r.length+1:=rfl;have HN2:=G (show bV (c::r)=(fw c&&decide (r.length+1<=14)&& !o4 (c::r)) by rw[HN.out,HAA.out,cg];rfl);have HLC:=G (HL.out c);clear HN HAA;generalize o4 (c::r)=kw at*
    cases hlc:fw c with
    |false=>
     have HR:=G (show bV (c::r)=false by rw[HN2.out,hlc];rfl);rw[hlc]at HLC;clear hlc;go_wp2_with (go_at_call 108;refine(HLC.out _).mono ?_;rintro e w' ⟨rfl,rfl⟩);go_ret;exact⟨bN HR.out.symm,rfl⟩
    |true=>
     rw[hlc]at HLC;by_cases h14:r.length+1<=14
     ·have h14':(r.length:Int)+1<=14:=by omega
      have HR:=G (show bV (c::r)= !kw by rw[HN2.out,hlc];simp[h14]);clear hlc
      cases kw;all_goals
       go_wp2_with (first
        |(go_at_call 108;refine(HLC.out _).mono ?_;rintro e w' ⟨rfl,rfl⟩)
        |(go_at_call 109;refine(HK.out _).mono ?_;rintro e w' ⟨rfl,rfl⟩))
       go_ret;exact⟨bN HR.out.symm,rfl⟩
     ·have h14': ¬(r.length:Int)+1<=14:=by omega
      have HR:=G (show bV (c::r)=false by rw[HN2.out,hlc];simp[h14]);clear hlc;go_wp2_with (go_at_call 108;refine(HLC.out _).mono ?_;rintro e w' ⟨rfl,rfl⟩);go_ret;exact⟨bN HR.out.symm,rfl⟩
theorem dT (l:List UInt8) (hl:l.length<=1073741824) (w:World):Calls prog 77 #[.string (ag l)] w fun e w'=>e= .returned (.bool (bV l))/\au w w':=by
 have hsz:(ag l).size=l.length:=aL l;have HP:=G (tw);have HK:=G (oz l);have HL:=G (lC);have HN:=G (show bV l=(l.head?.any fw&&decide (l.length<=14)&& !o4 l&&l.all dL)from rfl)
 cases l with
 |nil=>
  go_enter func77,ntmps77;go_wp2_with fail;go_ret;exact⟨rfl,aH _⟩
 |cons c r=>
  have h0:0<(ag (c::r)).size:=by rw[aL];simp
  have hg0:(ag (c::r))[0]=c:=rfl;have hlen:(c::r).length=r.length+1:=rfl;have HLC:=G (HL.out c);have HN2:=G (show bV (c::r)=(fw c&&decide (r.length+1<=14)&& !o4 (c::r)&&(c::r).all dL) by rw[HN.out];rfl);clear HN
  cases hlc:fw c with
  |false=>
   have HR:=G (show bV (c::r)=false by rw[HN2.out,hlc];rfl);rw[hlc]at HLC;clear hlc;go_enter func77,ntmps77;go_wp2_with (go_at_call 122;refine(HLC.out _).mono ?_;rintro e w' ⟨rfl,rfl⟩);go_ret;exact⟨bN HR.out.symm,aH _⟩
  |true=>
   rw[hlc]at HLC;generalize o4 (c::r)=kw at*
   cases kw with
   |true=>
    have HR:=G (show bV (c::r)=false by rw[HN2.out];simp);clear hlc;go_enter func77,ntmps77
    go_wp2_with (first
     |(go_at_call 122;refine(HLC.out _).mono ?_;rintro e w' ⟨rfl,rfl⟩)
     |(go_at_call 123;refine(HK.out _).mono ?_;rintro e w1 ⟨rfl,hE⟩;have HE:=G hE;clear hE))
    go_ret;exact⟨bN HR.out.symm,HE.out⟩
   |false=>
    by_cases h14:14<r.length+1
    ·have h14':(14:Int)<r.length+1:=by omega
     have HR:=G (show bV (c::r)=false by rw[HN2.out,decide_eq_false (by omega)];simp);clear hlc;go_enter func77,ntmps77
     go_wp2_with (first
      |(go_at_call 122;refine(HLC.out _).mono ?_;rintro e w' ⟨rfl,rfl⟩)
      |(go_at_call 123;refine(HK.out _).mono ?_;rintro e w1 ⟨rfl,hE⟩;have HE:=G hE;clear hE))
     go_ret;exact⟨bN HR.out.symm,HE.out⟩
    ·have h14': ¬(14:Int)<r.length+1:=by omega
     have HR:=G (show bV (c::r)=(c::r).all dL by rw[HN2.out,hlc,decide_eq_true (by omega)];simp);clear hlc HN2;have hrl:(r.length:Int)+1=(c::r).length:=by simp
     have HRL:=G hrl;clear hrl;go_enter func77,ntmps77
     go_wp2_with (first
      |(go_at_call 122;refine(HLC.out _).mono ?_;rintro e w' ⟨rfl,rfl⟩)
      |(go_at_call 123;refine(HK.out _).mono ?_;rintro e w1 ⟨rfl,hE⟩;have HE:=G hE;clear hE))
     clear HLC HK;generalize hcr:c::r=l at*;have HCR:=G hcr;clear hcr HRL hg0 h0 h14 h14' hlen
     go_loop [3] (fun vi=> ∃j:Nat,vi= .int .i64 j/\j<=l.length/\Hid ((l.take j).all dL=true)) (fun vi=>l.length-(intOf vi).toNat)
     case atStart=>exact⟨0,rfl,az _,G (by simp)⟩
     case round=>
      obtain⟨j,rfl,hj,HA⟩:=hrel;by_cases hlt:j<l.length
      ·have hjs:j<(ag l).size:=by rw[aL];exact hlt
       have hg:=g8 l j hjs;have hlt':(j:Int)<l.length:=by omega
       have HS:=G (fN dL hlt);have HB:=G (fun h=>oT dL hlt h);have HCC:=G (HP.out l[j] w1);generalize l[j]'hlt=d at*
       cases hp:dL d with
       |true=>
        have HJ:=G (show(l.take (j+1)).all dL=true by rw[HS.out,HA.out,hp];rfl);rw[hp]at HCC;clear hp;go_wp2_with (refine HCC.out.mono ?_;rintro e w' ⟨rfl,rfl⟩)
        go_round
        case rel=>exact⟨j+1,by go_num,by omega,HJ⟩
        case measure=>simp[intOf];omega
       |false=>
        have HR2:=G (show bV l=false by rw[HR.out,HB.out hp]);rw[hp]at HCC;clear hp;go_wp2_with (refine HCC.out.mono ?_;rintro e w' ⟨rfl,rfl⟩);go_ret;exact⟨bN (by rw[HCR.out];exact HR2.out.symm),HE.out⟩
      ·have HAA:=G (show bV l=true by have:=HA.out;rw[show j=l.length by omega,bw]at this;rw[HR.out,this]);have hlt': ¬(j:Int)<l.length:=by omega
       go_wp2_with fail;go_ret;exact⟨bN (by rw[HCR.out];exact HAA.out.symm),HE.out⟩
end
end Go.Proofs.YtddomeddabfinaaGreatDoor
