/-
  Parts of the proof: VaLexZ VaLexZb.
-/
import Derived.Test.YtddomeddabfinaaGreatDoorTl06
import Derived.Test.YtddomeddabfinaaGreatDoorTl07
import Derived.Test.YtddomeddabfinaaGreatDoorTl13
set_option maxRecDepth 100000
set_option maxHeartbeats 8000000
set_option linter.unusedVariables false
set_option linter.unusedSimpArgs false
set_option linter.unusedSectionVars false
namespace Go.Proofs.YtddomeddabfinaaGreatDoor
open Go.Proofs.Tryz
def okC (c:UInt8):Bool:=decide (32<=c.toNat/\c.toNat<=126)||c==10||c==9||c==0
def escQ (c:UInt8):List UInt8:=if c=10 then[92,110]else if c=9 then[92,116]else if c=0 then[92,48]else if c=92 then[92,92]else if c=39 then[92,39]else if c=34 then[92,34]else[c]
def qescL:List UInt8->List UInt8
 | []=>[]
 |c::l=>escQ c++qescL l
theorem qescL_app (l m:List UInt8):qescL (l++m)=qescL l++qescL m:=by
 induction l with
 |nil=>rfl
 |cons c l ih=>simp[qescL,ih]
theorem escQ_length (c:UInt8):1<=(escQ c).length/\(escQ c).length<=2:=by
 unfold escQ;(repeat' split)<;>simp
theorem qescL_length: ∀l:List UInt8,l.length<=(qescL l).length/\(qescL l).length<=2*l.length
 | []=>by simp[qescL]
 |c::l=>by have:=qescL_length l;have:=escQ_length c;simp only[qescL,List.length_append,List.length_cons];omega
def quoteL (l:List UInt8):List UInt8:=34::(qescL l++[34])
def decL (n:Nat):List UInt8:=if n<10 then[UInt8.ofNat (48+n)]else decL (n/10)++[UInt8.ofNat (48+n%10)]
termination_by n
decreasing_by omega
theorem decL_length: ∀(k n:Nat),n<10^(k+1)->(decL n).length<=k+1
 |0,n,h=>by rw[decL,if_pos (by simpa using h)];simp
 |k+1,n,h=>by
  rw[decL];split
  ·simp
  ·have:=decL_length k (n/10) (by rw[Nat.pow_succ]at h;omega);simp only[List.length_append,List.length_cons,List.length_nil];omega
end Go.Proofs.YtddomeddabfinaaGreatDoor
namespace Go.Proofs.YtddomeddabfinaaGreatDoor
open Go.Proofs.Tryz
open Go.RowKit
def isNm (l:List UInt8):Bool:=l.head?.any letB&&decide (l.length<=14)&& !kwB l&&l.all prtB
theorem all_take_succ (p:UInt8->Bool) {l:List UInt8} {j:Nat} (h:j<l.length):(l.take (j+1)).all p=((l.take j).all p&&p l[j]):=by
 rw[List.take_succ_eq_append_getElem h,List.all_append,List.all_cons,List.all_nil,Bool.and_true]
theorem all_bad (p:UInt8->Bool) {l:List UInt8} {j:Nat} (h:j<l.length) (hp:p l[j]=false):l.all p=false:=by
 rw[List.all_eq_false];exact⟨l[j],List.getElem_mem h,by simp[hp]⟩
theorem isname_any (l:List UInt8) (hl:l.length<=1073741824) (w:World):Calls prog 66 #[.string (str l)] w fun e w'=>e= .returned (.bool (isNm l))/\w=w':=by
 have hsz:(str l).size=l.length:=str_size l;have HP:=hide (part_any);have HK:=hide (keyword_any l);have HL:=hide (letter_any);have HN:=hide (show isNm l=(l.head?.any letB&&decide (l.length<=14)&& !kwB l&&l.all prtB)from rfl);go_enter func66,ntmps66;go_wp2_with fail
 go_loop [6] (fun vi=> ∃j:Nat,vi= .int .i64 j/\j<=l.length/\Hid ((l.take j).all prtB=true)) (fun vi=>l.length-(intOf vi).toNat)
 case atStart=>exact⟨0,rfl,Nat.zero_le _,hide (by simp)⟩
 case round=>
  obtain⟨j,rfl,hj,HA⟩:=hrel;by_cases hlt:j<l.length
  ·have hjs:j<(str l).size:=by rw[str_size];exact hlt
   have hg:=str_get l j hjs;have hlt':(j:Int)<l.length:=by omega
   have HS:=hide (all_take_succ prtB hlt);have HB:=hide (fun h=>all_bad prtB hlt h);have HCC:=hide (HP.out l[j] w);generalize l[j]'hlt=c at*
   cases hp:prtB c with
   |true=>
    have HJ:=hide (show(l.take (j+1)).all prtB=true by rw[HS.out,HA.out,hp];rfl);rw[hp]at HCC;clear hp;go_wp2_with (refine HCC.out.mono ?_;rintro e w' ⟨rfl,rfl⟩)
    go_round
    case rel=>exact⟨j+1,by go_num,by omega,HJ⟩
    case measure=>simp[intOf];omega
   |false=>
    have HR:=hide (show isNm l=false by rw[HN.out,HB.out hp,Bool.and_false]);rw[hp]at HCC;clear hp;go_wp2_with (refine HCC.out.mono ?_;rintro e w' ⟨rfl,rfl⟩);go_ret;exact⟨ret_bool HR.out.symm,rfl⟩
  ·have hjl:j=l.length:=by omega
   have HAA:=hide (show l.all prtB=true by have:=HA.out;rwa [hjl,List.take_length]at this);have hlt': ¬(j:Int)<l.length:=by omega
   clear HA
   cases l with
   |nil=>
    have HR:=hide (show isNm []=false by rfl);clear HN HAA;go_wp2_with fail;go_ret;exact⟨ret_bool HR.out.symm,rfl⟩
   |cons c r=>
    have h0:0<(str (c::r)).size:=by rw[str_size];simp
    have hg0:(str (c::r))[0]=c:=rfl;have hlen:(c::r).length=r.length+1:=rfl;have HN2:=hide (show isNm (c::r)=(letB c&&decide (r.length+1<=14)&& !kwB (c::r)) by rw[HN.out,HAA.out,Bool.and_true];rfl);have HLC:=hide (HL.out c);clear HN HAA;generalize kwB (c::r)=kw at*
    cases hlc:letB c with
    |false=>
     have HR:=hide (show isNm (c::r)=false by rw[HN2.out,hlc];rfl);rw[hlc]at HLC;clear hlc;go_wp2_with (go_at_call 108;refine(HLC.out _).mono ?_;rintro e w' ⟨rfl,rfl⟩);go_ret;exact⟨ret_bool HR.out.symm,rfl⟩
    |true=>
     rw[hlc]at HLC;by_cases h14:r.length+1<=14
     ·have h14':(r.length:Int)+1<=14:=by omega
      have HR:=hide (show isNm (c::r)= !kw by rw[HN2.out,hlc];simp[h14]);clear hlc
      cases kw;all_goals
       go_wp2_with (first
        |(go_at_call 108;refine(HLC.out _).mono ?_;rintro e w' ⟨rfl,rfl⟩)
        |(go_at_call 109;refine(HK.out _).mono ?_;rintro e w' ⟨rfl,rfl⟩))
       go_ret;exact⟨ret_bool HR.out.symm,rfl⟩
     ·have h14': ¬(r.length:Int)+1<=14:=by omega
      have HR:=hide (show isNm (c::r)=false by rw[HN2.out,hlc];simp[h14]);clear hlc;go_wp2_with (go_at_call 108;refine(HLC.out _).mono ?_;rintro e w' ⟨rfl,rfl⟩);go_ret;exact⟨ret_bool HR.out.symm,rfl⟩
end Go.Proofs.YtddomeddabfinaaGreatDoor
