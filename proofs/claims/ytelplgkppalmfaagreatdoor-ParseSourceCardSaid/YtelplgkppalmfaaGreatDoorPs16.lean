/-
  Parts of the proof: VaLexZ VaLexZb.
-/
import Derived.Test.YtelplgkppalmfaaGreatDoorPs00
import Derived.Test.YtelplgkppalmfaaGreatDoorPs08
import Derived.Test.YtelplgkppalmfaaGreatDoorPs09
import Derived.Test.YtelplgkppalmfaaGreatDoorPs15
set_option maxRecDepth 100000
set_option maxHeartbeats 8000000
set_option linter.unusedVariables false
set_option linter.unusedSimpArgs false
namespace Go.Proofs.YtelplgkppalmfaaGreatDoor
open Go.Proofs.Tryz
section
def rs (c:UInt8):Bool:=decide (32<=c.toNat/\c.toNat<=126)||c==10||c==9||c==0
def nD (c:UInt8):List UInt8:=if c=10 then[92,110]else if c=9 then[92,116]else if c=0 then[92,48]else if c=92 then[92,92]else if c=39 then[92,39]else if c=34 then[92,34]else[c]
def d8:List UInt8->List UInt8
 | []=>[]
 |c::l=>nD c++d8 l
theorem sV (l m:List UInt8):d8 (l++m)=d8 l++d8 m:=by
 induction l with
 |nil=>rfl
 |cons c l ih=>simp[d8,ih]
theorem jV (c:UInt8):1<=(nD c).length/\(nD c).length<=2:=by
 unfold nD;(repeat' split)<;>simp
theorem fj: ∀l:List UInt8,l.length<=(d8 l).length/\(d8 l).length<=2*l.length
 | []=>by simp[d8]
 |c::l=>by have:=fj l;have:=jV c;simp only[d8,aa,ac];omega
def ie (l:List UInt8):List UInt8:=34::(d8 l++[34])
def fw (n:Nat):List UInt8:=if n<10 then[UInt8.ofNat (48+n)]else fw (n/10)++[UInt8.ofNat (48+n%10)]
termination_by n
decreasing_by omega
theorem jY: ∀(k n:Nat),n<10^(k+1)->(fw n).length<=k+1
 |0,n,h=>by rw[fw,if_pos (by simpa using h)];simp
 |k+1,n,h=>by
  rw[fw];split
  ·simp
  ·have:=jY k (n/10) (by rw[Nat.pow_succ]at h;omega);simp only[aa,ac,af];omega
end
section
open Go.RowKit
def cn (l:List UInt8):Bool:=l.head?.any fd&&decide (l.length<=14)&& !nB l&&l.all c_
theorem gp (p:UInt8->Bool) {l:List UInt8} {j:Nat} (h:j<l.length):(l.take (j+1)).all p=((l.take j).all p&&p l[j]):=by
 rw[aF h,dV,fy,kM,cL]
theorem pu (p:UInt8->Bool) {l:List UInt8} {j:Nat} (h:j<l.length) (hp:p l[j]=false):l.all p=false:=by
 rw[iw];exact⟨l[j],aE h,by simp[hp]⟩
theorem c6 (l:List UInt8) (hl:l.length<=1073741824) (w:World):Calls prog 37 #[.string (ae l)] w fun e w'=>e= .returned (.bool (cn l))/\w=w':=by
 have hsz:(ae l).size=l.length:=aM l;have HP:=G (kV);have HK:=G (lZ l);have HL:=G (kD);have HN:=G (show cn l=(l.head?.any fd&&decide (l.length<=14)&& !nB l&&l.all c_)from rfl);go_enter func37,ntmps37;go_wp2_with fail
 go_loop [6] (fun vi=> ∃j:Nat,vi= .int .i64 j/\j<=l.length/\Hid ((l.take j).all c_=true)) (fun vi=>l.length-(intOf vi).toNat)
 case atStart=>exact⟨0,rfl,aB _,G (by simp)⟩
 case round=>
  obtain⟨j,rfl,hj,HA⟩:=hrel;by_cases hlt:j<l.length
  ·have hjs:j<(ae l).size:=by rw[aM];exact hlt
   have hg:=fC l j hjs;have hlt':(j:Int)<l.length:=by omega
   have HS:=G (gp c_ hlt);have HB:=G (fun h=>pu c_ hlt h);have HCC:=G (HP.out l[j] w);generalize l[j]'hlt=c at*
   cases hp:c_ c with
   |true=>
    have HJ:=G (show(l.take (j+1)).all c_=true by rw[HS.out,HA.out,hp];rfl);rw[hp]at HCC;clear hp;go_wp2_with (refine HCC.out.mono ?_;rintro e w' ⟨rfl,rfl⟩)
    go_round
    case rel=>exact⟨j+1,by go_num,by omega,HJ⟩
    case measure=>simp[intOf];omega
   |false=>
    have HR:=G (show cn l=false by rw[HN.out,HB.out hp,cH]);rw[hp]at HCC;clear hp;go_wp2_with (refine HCC.out.mono ?_;rintro e w' ⟨rfl,rfl⟩);go_ret;exact⟨b5 HR.out.symm,rfl⟩
  ·have hjl:j=l.length:=by omega
   have HAA:=G (show l.all c_=true by have:=HA.out;rwa [hjl,bE]at this);have hlt': ¬(j:Int)<l.length:=by omega
   clear HA
   cases l with
   |nil=>
    have HR:=G (show cn []=false by rfl);clear HN HAA;go_wp2_with fail;go_ret;exact⟨b5 HR.out.symm,rfl⟩
   |cons c r=>
    have h0:0<(ae (c::r)).size:=by rw[aM];simp
    have hg0:(ae (c::r))[0]=c:=rfl;have hlen:(c::r).length=r.length+1:=rfl;have HN2:=G (show cn (c::r)=(fd c&&decide (r.length+1<=14)&& !nB (c::r)) by rw[HN.out,HAA.out,cL];rfl);have HLC:=G (HL.out c);clear HN HAA;generalize nB (c::r)=kw at*
    cases hlc:fd c with
    |false=>
     have HR:=G (show cn (c::r)=false by rw[HN2.out,hlc];rfl);rw[hlc]at HLC;clear hlc;go_wp2_with (go_at_call 75;refine(HLC.out _).mono ?_;rintro e w' ⟨rfl,rfl⟩);go_ret;exact⟨b5 HR.out.symm,rfl⟩
    |true=>
     rw[hlc]at HLC;by_cases h14:r.length+1<=14
     ·have h14':(r.length:Int)+1<=14:=by omega
      have HR:=G (show cn (c::r)= !kw by rw[HN2.out,hlc];simp[h14]);clear hlc
      cases kw;all_goals
       go_wp2_with (first
        |(go_at_call 75;refine(HLC.out _).mono ?_;rintro e w' ⟨rfl,rfl⟩)
        |(go_at_call 76;refine(HK.out _).mono ?_;rintro e w' ⟨rfl,rfl⟩))
       go_ret;exact⟨b5 HR.out.symm,rfl⟩
     ·have h14': ¬(r.length:Int)+1<=14:=by omega
      have HR:=G (show cn (c::r)=false by rw[HN2.out,hlc];simp[h14]);clear hlc;go_wp2_with (go_at_call 75;refine(HLC.out _).mono ?_;rintro e w' ⟨rfl,rfl⟩);go_ret;exact⟨b5 HR.out.symm,rfl⟩
theorem d7 (l:List UInt8) (hl:l.length<=1073741824) (w:World):Calls prog 46 #[.string (ae l)] w fun e w'=>e= .returned (.bool (cn l))/\al w w':=by
 have hsz:(ae l).size=l.length:=aM l;have HP:=G (jf);have HK:=G (js l);have HL:=G (e_);have HN:=G (show cn l=(l.head?.any fd&&decide (l.length<=14)&& !nB l&&l.all c_)from rfl)
 cases l with
 |nil=>
  go_enter func46,ntmps46;go_wp2_with fail;go_ret;exact⟨rfl,aG _⟩
 |cons c r=>
  have h0:0<(ae (c::r)).size:=by rw[aM];simp
  have hg0:(ae (c::r))[0]=c:=rfl;have hlen:(c::r).length=r.length+1:=rfl;have HLC:=G (HL.out c);have HN2:=G (show cn (c::r)=(fd c&&decide (r.length+1<=14)&& !nB (c::r)&&(c::r).all c_) by rw[HN.out];rfl);clear HN
  cases hlc:fd c with
  |false=>
   have HR:=G (show cn (c::r)=false by rw[HN2.out,hlc];rfl);rw[hlc]at HLC;clear hlc;go_enter func46,ntmps46;go_wp2_with (go_at_call 93;refine(HLC.out _).mono ?_;rintro e w' ⟨rfl,rfl⟩);go_ret;exact⟨b5 HR.out.symm,aG _⟩
  |true=>
   rw[hlc]at HLC;generalize nB (c::r)=kw at*
   cases kw with
   |true=>
    have HR:=G (show cn (c::r)=false by rw[HN2.out];simp);clear hlc;go_enter func46,ntmps46
    go_wp2_with (first
     |(go_at_call 93;refine(HLC.out _).mono ?_;rintro e w' ⟨rfl,rfl⟩)
     |(go_at_call 94;refine(HK.out _).mono ?_;rintro e w1 ⟨rfl,hE⟩;have HE:=G hE;clear hE))
    go_ret;exact⟨b5 HR.out.symm,HE.out⟩
   |false=>
    by_cases h14:14<r.length+1
    ·have h14':(14:Int)<r.length+1:=by omega
     have HR:=G (show cn (c::r)=false by rw[HN2.out,decide_eq_false (by omega)];simp);clear hlc;go_enter func46,ntmps46
     go_wp2_with (first
      |(go_at_call 93;refine(HLC.out _).mono ?_;rintro e w' ⟨rfl,rfl⟩)
      |(go_at_call 94;refine(HK.out _).mono ?_;rintro e w1 ⟨rfl,hE⟩;have HE:=G hE;clear hE))
     go_ret;exact⟨b5 HR.out.symm,HE.out⟩
    ·have h14': ¬(14:Int)<r.length+1:=by omega
     have HR:=G (show cn (c::r)=(c::r).all c_ by rw[HN2.out,hlc,decide_eq_true (by omega)];simp);clear hlc HN2;have hrl:(r.length:Int)+1=(c::r).length:=by simp
     have HRL:=G hrl;clear hrl;go_enter func46,ntmps46
     go_wp2_with (first
      |(go_at_call 93;refine(HLC.out _).mono ?_;rintro e w' ⟨rfl,rfl⟩)
      |(go_at_call 94;refine(HK.out _).mono ?_;rintro e w1 ⟨rfl,hE⟩;have HE:=G hE;clear hE))
     clear HLC HK;generalize hcr:c::r=l at*;have HCR:=G hcr;clear hcr HRL hg0 h0 h14 h14' hlen
     go_loop [3] (fun vi=> ∃j:Nat,vi= .int .i64 j/\j<=l.length/\Hid ((l.take j).all c_=true)) (fun vi=>l.length-(intOf vi).toNat)
     case atStart=>exact⟨0,rfl,aB _,G (by simp)⟩
     case round=>
      obtain⟨j,rfl,hj,HA⟩:=hrel;by_cases hlt:j<l.length
      ·have hjs:j<(ae l).size:=by rw[aM];exact hlt
       have hg:=fC l j hjs;have hlt':(j:Int)<l.length:=by omega
       have HS:=G (gp c_ hlt);have HB:=G (fun h=>pu c_ hlt h);have HCC:=G (HP.out l[j] w1);generalize l[j]'hlt=d at*
       cases hp:c_ d with
       |true=>
        have HJ:=G (show(l.take (j+1)).all c_=true by rw[HS.out,HA.out,hp];rfl);rw[hp]at HCC;clear hp;go_wp2_with (refine HCC.out.mono ?_;rintro e w' ⟨rfl,rfl⟩)
        go_round
        case rel=>exact⟨j+1,by go_num,by omega,HJ⟩
        case measure=>simp[intOf];omega
       |false=>
        have HR2:=G (show cn l=false by rw[HR.out,HB.out hp]);rw[hp]at HCC;clear hp;go_wp2_with (refine HCC.out.mono ?_;rintro e w' ⟨rfl,rfl⟩);go_ret;exact⟨b5 (by rw[HCR.out];exact HR2.out.symm),HE.out⟩
      ·have HAA:=G (show cn l=true by have:=HA.out;rw[show j=l.length by omega,bE]at this;rw[HR.out,this]);have hlt': ¬(j:Int)<l.length:=by omega
       go_wp2_with fail;go_ret;exact⟨b5 (by rw[HCR.out];exact HAA.out.symm),HE.out⟩
end
end Go.Proofs.YtelplgkppalmfaaGreatDoor
