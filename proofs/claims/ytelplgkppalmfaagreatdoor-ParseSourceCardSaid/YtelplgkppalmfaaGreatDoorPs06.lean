/-
  Parts of the proof: LexD LexE LexF LexG.
-/
import Derived.Test.YtelplgkppalmfaaGreatDoorPs00
import Derived.Test.YtelplgkppalmfaaGreatDoorPs04
import Derived.Test.YtelplgkppalmfaaGreatDoorPs05
set_option maxRecDepth 100000
set_option maxHeartbeats 8000000
set_option linter.unusedVariables false
set_option linter.unusedSimpArgs false
namespace Go.Proofs.YtelplgkppalmfaaGreatDoor
open Go.Proofs.Tryz
section
open Go.RowKit
theorem h_ (l:List UInt8):(ae l).data.toList=l:=by simp[ae]
theorem mm (c:UInt8): ∀l:List UInt8,(Lib.indexByte l c= -1/\l.contains c=false)\/(0<=Lib.indexByte l c/\l.contains c=true)
 | []=> .inl ⟨rfl,rfl⟩
 |b::l=>by
  simp only[Lib.indexByte];by_cases h:b=c
  ·subst h;refine .inr ⟨by simp,by simp⟩
  ·have hb:(b==c)=false:=beq_eq_false_iff_ne.2 h;have hb2:(c==b)=false:=beq_eq_false_iff_ne.2 fun e=>h e.symm;rw[hb];rcases mm c l with⟨h1,h2⟩|⟨h1,h2⟩
   ·refine .inl ⟨by simp[h1],?_⟩;rw[eG,hb2,h2];rfl
   ·refine .inr ⟨?_,?_⟩
    ·have:(Lib.indexByte l c== -1)=false:=by rw[beq_eq_false_iff_ne];omega
     simp only[aI,if_false,this];omega
    ·rw[eG,hb2,h2];rfl
theorem qr: ∀l:List UInt8,Lib.indexByte l 10=if dJ l<l.length then(dJ l:Int)else-1
 | []=>rfl
 |b::l=>by
  by_cases h:b=10
  ·subst h;rfl
  ·have hb:(b==10)=false:=beq_eq_false_iff_ne.2 h;have hb2:(b !=10)=true:=by simp[h]
   have ih:=qr l;have e:dJ (b::l)=dJ l+1:=by simp[dJ,bS,h]
   rw[e];simp only[Lib.indexByte];rw[hb,ih,if_neg (by simp)];by_cases hl:dJ l<l.length
   ·rw[if_pos hl,if_neg (by simp),if_pos (by rw[ac];omega)];rfl
   ·rw[if_neg hl,if_pos (show((-1:Int)== -1)=true from rfl),if_neg (by rw[ac];omega)]
theorem tL (c:UInt8):tN c=([32,9,10,13]:List UInt8).contains c:=by
 have: ∀n:Fin 256,tN (UInt8.ofNat n.val)=([32,9,10,13]:List UInt8).contains (UInt8.ofNat n.val):=by decide+kernel
 have h:=this ⟨c.toNat,c.toNat_lt⟩;rwa [fR]at h
theorem lF (l:List UInt8) (c:UInt8) (w:World):Calls prog 107 #[.string (ae l), .int .u8 (c.toNat:Int)] w fun e w'=>e= .returned (.int .i64 (Lib.indexByte l c))/\w=w':=by
 refine(Tryz.strings_IndexByte (ae l) (c.toNat:Int) w).mono ?_;rintro e w' ⟨rfl,rfl⟩;rw[h_];have:(c.toNat:Int).toNat.toUInt8=c:=by
  rw[Int.toNat_natCast];exact fR
 rw[this];exact⟨rfl,rfl⟩
theorem mK (l p:List UInt8) (w:World):Calls prog 108 #[.string (ae l), .string (ae p)] w fun e w'=>e= .returned (.bool (p.isPrefixOf l))/\w=w':=by
 refine(Tryz.strings_HasPrefix (ae l) (ae p) w).mono ?_;rintro e w' ⟨rfl,rfl⟩;rw[h_,h_];exact⟨rfl,rfl⟩
theorem kR (l:List UInt8):(([47,47]:List UInt8).isPrefixOf l=true/\ ∃r,l=47::47::r)\/(([47,47]:List UInt8).isPrefixOf l=false/\ ∀c r,l=c::r-> ¬(c=47/\r.head? =some 47)):=by
 match l with
 | []=>exact .inr ⟨rfl,fun c r h=>by cases h⟩
 | [c]=>exact .inr ⟨by simp[List.isPrefixOf],fun c' r h=>by injection h with h1 h2;subst h2;simp⟩
 |c::d::r=>
  by_cases h:c=47/\d=47
  ·obtain⟨rfl,rfl⟩:=h;exact .inl ⟨by simp[List.isPrefixOf],r,rfl⟩
  ·refine .inr ⟨?_,fun c' r' h'=>by injection h' with h1 h2;subst h1 h2;simpa using h⟩;simp only[List.isPrefixOf,cL];rw[Bool.and_eq_false_iff];by_cases hc:c=47
   ·right;exact beq_eq_false_iff_ne.2 fun e=>h ⟨hc,e.symm⟩
   ·left;exact beq_eq_false_iff_ne.2 fun e=>hc e.symm
theorem nR {l:List UInt8} {j:Nat} (h:j<l.length) (hw:tN l[j]=true):bY false (l.drop j)=bY false (l.drop (j+1))+1:=by
 rw[aX h];simp only[bY];rw[if_pos hw]
theorem nQ {l:List UInt8} {j:Nat} (h:j<l.length) (hw:tN l[j]=false) (hs: ∀c r,l.drop j=c::r-> ¬(c=47/\r.head? =some 47)):bY false (l.drop j)=0:=by
 have hs:=hs l[j] (l.drop (j+1)) (aX h);rw[aX h];simp only[bY];rw[hw,if_neg (by simp),if_neg hs]
theorem tD (l:List UInt8) (hl:l.length<=100000) (w:World):Calls prog 59 #[.string (ae l)] w fun e w'=>e= .returned (.int .i64 (bY false l))/\w=w':=by
 have hsz:=aM l;go_enter func59,ntmps59;go_wp2_with fail
 go_loop [3] (fun vi=> ∃j:Nat,vi= .int .i64 j/\j<=l.length/\Hid (bY false l=j+bY false (l.drop j))) (fun vi=>l.length-(intOf vi).toNat)
 case atStart=>exact⟨0,rfl,aB _,G (by simp)⟩
 case round=>
  obtain⟨j,rfl,hj,HT⟩:=hrel;by_cases hlt:j<l.length
  ·have hjs:j<(ae l).size:=by rw[aM];exact hlt
   have hg:=fC l j hjs;have hlt':(j:Int)<l.length:=by omega
   have hex:=bR l j l.length;rw[bE]at hex;have HST:=G (fun h=>nR (l:=l) hlt h);have HSP:=G (fun h hs=>nQ (l:=l) hlt h hs);generalize l[j]'hlt=c at*;have HIX:=G (show Calls prog 107 #[.string ⟨#[32,9,10,13]⟩, .int .u8 (c.toNat:Int)] w fun e w'=>e= .returned (.int .i64 (Lib.indexByte [32,9,10,13] c))/\w=w' from lF [32,9,10,13] c w)
   cases hw:tN c with
   |true=>
    have hi:0<=Lib.indexByte [32,9,10,13] c:=by
     rcases mm c [32,9,10,13]with⟨h1,h2⟩|⟨h1,h2⟩
     ·rw[<-tL,hw]at h2;cases h2
     ·exact h1
    have HN:=G (show bY false l=((j+1:Nat))+bY false (l.drop (j+1)) by rw[HT.out,HST.out hw];omega);generalize Lib.indexByte [32,9,10,13] c=ix at*;clear hw hex;go_wp2_with (go_at_call 107;refine HIX.out.mono ?_;rintro e w' ⟨rfl,rfl⟩)
    go_round
    case rel=>exact⟨j+1,by go_num,by omega,HN⟩
    case measure=>simp[intOf];omega
   |false=>
    have hi: ¬0<=Lib.indexByte [32,9,10,13] c:=by
     rcases mm c [32,9,10,13]with⟨h1,h2⟩|⟨h1,h2⟩
     ·omega
     ·rw[<-tL,hw]at h2;cases h2
    generalize Lib.indexByte [32,9,10,13] c=ix at*;have HPX:=G (show Calls prog 108 #[.string (ae (l.drop j)), .string ⟨#[47,47]⟩] w fun e w'=>e= .returned (.bool (([47,47]:List UInt8).isPrefixOf (l.drop j)))/\w=w' from mK (l.drop j) [47,47] w);rcases kR (l.drop j)with⟨hp,hq⟩|⟨hp,hq⟩
    ·have hsc:=kr hq;have hix:=qr (l.drop j);have HIL:=G (show Calls prog 107 #[.string (ae (l.drop j)), .int .u8 10] w fun e w'=>e= .returned (.int .i64 (Lib.indexByte (l.drop j) 10))/\w=w' from lF (l.drop j) 10 w);rw[hp]at HPX;have hll:dJ (l.drop j)<=(l.drop j).length:=eY _ _;have hlen:(l.drop j).length=l.length-j:=aZ;by_cases hn:dJ (l.drop j)<(l.drop j).length
     ·rw[if_pos hn]at hix;rw[hix]at HIL;have HN:=G (show bY false l=((j+dJ (l.drop j):Nat))+bY false (l.drop (j+dJ (l.drop j))) by rw[HT.out,hsc,dr];omega);have hpos:1<=dJ (l.drop j):=by
       obtain⟨r,hr⟩:=hq;rw[hr];simp[dJ,bS]
      have hle:j+dJ (l.drop j)<=l.length:=by omega
      generalize dJ (l.drop j)=n at*;clear hw hp hq hsc hix hn hll hlen
      go_wp2_with (first
       |(go_at_call 107;with_reducible (refine HIX.out.mono ?_);rintro e w' ⟨rfl,rfl⟩)
       |(go_at_call 108;refine HPX.out.mono ?_;rintro e w' ⟨rfl,rfl⟩)
       |(go_at_call 107;refine HIL.out.mono ?_;rintro e w' ⟨rfl,rfl⟩))
      go_round
      case rel=>exact⟨j+n,by go_num,hle,HN⟩
      case measure=>simp[intOf];omega
     ·rw[if_neg hn]at hix;rw[hix]at HIL;have h3:j+dJ (l.drop j)=l.length:=by omega
      have HN:=G (show bY false l=l.length by
       have hd:l.drop (j+dJ (l.drop j))=[]:=bq (by omega);rw[HT.out,hsc,dr,hd];show j+(dJ (l.drop j)+0)=l.length
       omega)
      clear h3;clear hw hp hq hsc hix hn hll hlen
      go_wp2_with (first
       |(go_at_call 107;with_reducible (refine HIX.out.mono ?_);rintro e w' ⟨rfl,rfl⟩)
       |(go_at_call 108;refine HPX.out.mono ?_;rintro e w' ⟨rfl,rfl⟩)
       |(go_at_call 107;refine HIL.out.mono ?_;rintro e w' ⟨rfl,rfl⟩))
      go_ret;exact⟨gU (by rw[HN.out]),rfl⟩
    ·rw[hp]at HPX;have HN:=G (show bY false l=j by rw[HT.out,HSP.out hw hq];omega);clear hw hp hq
     go_wp2_with (first
      |(go_at_call 107;with_reducible (refine HIX.out.mono ?_);rintro e w' ⟨rfl,rfl⟩)
      |(go_at_call 108;refine HPX.out.mono ?_;rintro e w' ⟨rfl,rfl⟩))
     go_ret;exact⟨gU (by rw[HN.out]),rfl⟩
  ·have HN:=G (show bY false l=j by rw[HT.out,bq (by omega)];rfl);have hlt': ¬(j:Int)<l.length:=by omega
   go_wp2_with fail;go_ret;exact⟨gU (by rw[HN.out]),rfl⟩
theorem tM (c:UInt8):(tN c=true/\(c=32\/c=9\/c=10\/c=13))\/(tN c=false/\((c.toNat:Int)==32)=false/\((c.toNat:Int)==9)=false/\((c.toNat:Int)==10)=false/\((c.toNat:Int)==13)=false):=by
 have h1:((c.toNat:Int)==32)=(c==32):=bQ c 32 (by omega);have h2:((c.toNat:Int)==9)=(c==9):=bQ c 9 (by omega);have h3:((c.toNat:Int)==10)=(c==10):=bQ c 10 (by omega);have h4:((c.toNat:Int)==13)=(c==13):=bQ c 13 (by omega);rw[h1,h2,h3,h4];unfold tN
 cases h5:(c==32)
 ·cases h6:(c==9)
  ·cases h7:(c==10)
   ·cases h8:(c==13)
    ·exact .inr ⟨rfl,rfl,rfl,rfl,rfl⟩
    ·exact .inl ⟨rfl, .inr (.inr (.inr (beq_iff_eq.1 h8)))⟩
   ·exact .inl ⟨rfl, .inr (.inr (.inl (beq_iff_eq.1 h7)))⟩
  ·exact .inl ⟨rfl, .inr (.inl (beq_iff_eq.1 h6))⟩
 ·exact .inl ⟨rfl, .inl (beq_iff_eq.1 h5)⟩
theorem pV (l:List UInt8) (hl:l.length<=100000) (p:Nat) (hp:p<=l.length) (w:World):Calls prog 54 #[.string (ae l), .int .i64 (p:Int)] w fun e w'=>e= .returned (.int .i64 ((p+bY false (l.drop p):Nat):Int))/\w=w':=by
 have hsz:=aM l;go_enter func54,ntmps54;go_wp2_with fail
 go_loop [1] (fun vi=> ∃j:Nat,vi= .int .i64 j/\j<=l.length/\Hid (p+bY false (l.drop p)=j+bY false (l.drop j))) (fun vi=>l.length-(intOf vi).toNat)
 case atStart=>exact⟨p,rfl,hp,G rfl⟩
 case round=>
  obtain⟨j,rfl,hj,HT⟩:=hrel;by_cases hlt:j<l.length
  ·have hjs:j<(ae l).size:=by rw[aM];exact hlt
   have hg:=fC l j hjs;have hlt':(j:Int)<l.length:=by omega
   have HST:=G (fun h=>nR (l:=l) hlt h);have HSP:=G (fun h hs=>nQ (l:=l) hlt h hs);have HGL:=G (aX hlt);generalize l[j]'hlt=c at*;rcases tM c with⟨hw,rfl|rfl|rfl|rfl⟩|⟨hw,h1,h2,h3,h4⟩
   ·have HN:=G (show p+bY false (l.drop p)=((j+1:Nat))+bY false (l.drop (j+1)) by rw[HT.out,HST.out hw];omega);clear hw;go_wp2_with fail
    go_round
    case rel=>exact⟨j+1,by go_num,by omega,HN⟩
    case measure=>simp[intOf];omega
   ·have HN:=G (show p+bY false (l.drop p)=((j+1:Nat))+bY false (l.drop (j+1)) by rw[HT.out,HST.out hw];omega);clear hw;go_wp2_with fail
    go_round
    case rel=>exact⟨j+1,by go_num,by omega,HN⟩
    case measure=>simp[intOf];omega
   ·have HN:=G (show p+bY false (l.drop p)=((j+1:Nat))+bY false (l.drop (j+1)) by rw[HT.out,HST.out hw];omega);clear hw;go_wp2_with fail
    go_round
    case rel=>exact⟨j+1,by go_num,by omega,HN⟩
    case measure=>simp[intOf];omega
   ·have HN:=G (show p+bY false (l.drop p)=((j+1:Nat))+bY false (l.drop (j+1)) by rw[HT.out,HST.out hw];omega);clear hw;go_wp2_with fail
    go_round
    case rel=>exact⟨j+1,by go_num,by omega,HN⟩
    case measure=>simp[intOf];omega
   ·rcases kR (l.drop j)with⟨_,hq⟩|⟨_,hq⟩
    ·have hsc:=kr hq;have hll:dJ (l.drop j)<=(l.drop j).length:=eY _ _;have hlen:(l.drop j).length=l.length-j:=aZ;obtain⟨r,hr⟩:=hq;have hgl:=HGL.out;rw[hr]at hgl;injection hgl with e1 e2;subst e1;have hj1:j+1<l.length:=by rw[hr]at hlen;simp at hlen;omega
     have hjs1:j+1<(ae l).size:=by rw[aM];exact hj1
     have hg1:=fC l (j+1) hjs1;have he:l[j+1]'hj1=47:=by
      have:=congrArg (fun x=>x[0]?) e2;simp only[ep,List.getElem?_drop,bp]at this;rw[dn hj1]at this;exact(M this).symm
     rw[he]at hg1;have hj1':(j:Int)+1<l.length:=by omega
     have hpos:1<=dJ (l.drop j):=by rw[hr];simp[dJ,bS]
     have HN:=G (show p+bY false (l.drop p)=((j+dJ (l.drop j):Nat))+bY false (l.drop (j+dJ (l.drop j))) by rw[HT.out,hsc,dr];omega);have HLN:=G (fun i (hi:i<=dJ (l.drop j))=>gh (fun c=>c !=10) (l.drop j) i hi);have hle:j+dJ (l.drop j)<=l.length:=by omega
     obtain⟨n,hn⟩: ∃n,dJ (l.drop j)=n:=⟨_,rfl⟩
     rw[hn]at HN hle hpos hll;have HNN:=G hn;clear hw hsc hr e2 he hll hlen hn HGL HST HSP;go_wp2_with fail
     go_loop [1] (fun vi=> ∃i:Nat,vi= .int .i64 ((j+i:Nat):Int)/\i<=n) (fun vi=>l.length+1-(intOf vi).toNat)
     case atStart=>exact⟨0,by go_num,aB _⟩
     case round=>
      obtain⟨i,rfl,hi⟩:=hrel;have hst:=HLN.out i (by rw[HNN.out];exact hi);have hnn:=HNN.out;unfold dJ at hnn;rw[hnn,dr]at hst;by_cases hil:j+i<l.length
      ·have his:j+i<(ae l).size:=by rw[aM];exact hil
       have hgi:=fC l (j+i) his;have hss:=ia (fun c=>c !=10) hil;generalize l[j+i]'hil=d at*;have hil':((j+i:Nat):Int)<l.length:=by omega
       by_cases hd:d=10
       ·subst hd;have e1:((10:UInt8) !=10)=false:=by decide
        rw[e1,if_neg (by simp)]at hss;have hin:i=n:=by omega
        subst hin;clear hst hnn hss;go_wp2_with fail
        go_round
        case rel=>exact⟨j+i,by go_num,hle,HN⟩
        case measure=>simp[intOf];omega
       ·have e1:(d !=10)=true:=by simp[hd]
        rw[e1,if_pos rfl]at hss;have hin:i+1<=n:=by omega
        have hd':((d.toNat:Int) !=10)=true:=by
         have h9:((d.toNat:Int)==10)=false:=(bQ d 10 (by omega)).trans (beq_eq_false_iff_ne.2 hd);rw[bne,h9];rfl
        clear hst hnn hss hd;go_wp2_with fail
        go_round
        case rel=>exact⟨i+1,by go_num,hin⟩
        case measure=>simp[intOf];omega
      ·have hz:l.drop (j+i)=[]:=bq (by omega);rw[hz]at hst;have hin:i=n:=by simp only[bS]at hst;omega
       subst hin;have hil': ¬((j+i:Nat):Int)<l.length:=by omega
       clear hst hnn hz;go_wp2_with fail
       go_round
       case rel=>exact⟨j+i,by go_num,hle,HN⟩
       case measure=>simp[intOf];omega
    ·have HN:=G (show p+bY false (l.drop p)=j by rw[HT.out,HSP.out hw hq];omega);have hcs:=HGL.out;by_cases h47:c=47
     ·subst h47;have hq2:=hq _ _ hcs;by_cases hj1:j+1<l.length
      ·have hjs1:j+1<(ae l).size:=by rw[aM];exact hj1
       have hg1:=fC l (j+1) hjs1;have hne:l[j+1]'hj1≠47:=fun e=>hq2 ⟨rfl,by rw[jy,dn hj1,e]⟩;generalize l[j+1]'hj1=d at*;have hd':((d.toNat:Int)==47)=false:=(bQ d 47 (by omega)).trans (beq_eq_false_iff_ne.2 hne);have hj1':(j:Int)+1<l.length:=by omega
       clear hw hq hq2 hcs hne;go_wp2_with fail;go_ret;exact⟨gU (by have:=HN.out;omega),rfl⟩
      ·have hj1': ¬(j:Int)+1<l.length:=by omega
       clear hw hq hq2 hcs;go_wp2_with fail;go_ret;exact⟨gU (by have:=HN.out;omega),rfl⟩
     ·have hc':((c.toNat:Int)==47)=false:=(bQ c 47 (by omega)).trans (beq_eq_false_iff_ne.2 h47);clear hw hq hcs h47;go_wp2_with fail;go_ret;exact⟨gU (by have:=HN.out;omega),rfl⟩
  ·have HN:=G (show p+bY false (l.drop p)=j by rw[HT.out,bq (by omega)];rfl);have hlt': ¬(j:Int)<l.length:=by omega
   go_wp2_with fail;go_ret;exact⟨gU (by have:=HN.out;omega),rfl⟩
end
section
open Go.RowKit
def aY:qC->Value
 | .ok x=> .tuple #[.agg #[.int .i64 x.1.1, .string (ae x.1.2.1), .int .i64 x.1.2.2, .int .i64 0], .int .i64 (x.2:Int), .int .i64 0]
 | .error e=> .tuple #[.agg #[.int .i64 0, .string ⟨#[]⟩, .int .i64 0, .int .i64 0], .int .i64 0, .int .i64 e]
theorem aT.put4 {w:World} {g:Nat} {t:TypeId} {x0 x1 x2 x3:Value} (h:aT w g t #[x0,x1,x2,x3]) (a b c d:Value):aT ((((w.setCell ⟨g,0,none⟩ a).setCell ⟨g,1,none⟩ b).setCell ⟨g,2,none⟩ c).setCell ⟨g,3,none⟩ d) g t #[a,b,c,d]:=by
 have:=(((h.set 0 a).set 1 b).set 2 c).set 3 d;simpa using this
theorem al.put4 {w0 w:World} {g:Nat} (h:al w0 w) (hg:w0.heap.size<=g) (a b c d:Value):al w0 ((((w.setCell ⟨g,0,none⟩ a).setCell ⟨g,1,none⟩ b).setCell ⟨g,2,none⟩ c).setCell ⟨g,3,none⟩ d):=(((h.set hg a).set hg b).set hg c).set hg d
theorem tO (l:List UInt8) (hl:l.length<=100000) (w:World):Calls prog 109 #[.string (ae l)] w fun e w'=>e= .returned (aY (fK l))/\al w w':=by
 have hsz:=aM l;have hle:=eY c_ l;have hex:=bR l 0 (bS c_ l);simp only[ap]at hex;have HSP:=G (fun w=>pU c_ 74 kV (.inl rfl) l hl w);have HT:=G (show fK l=if nB (l.take (bS c_ l))then .ok ((2,l.take (bS c_ l),0),bS c_ l)else if 14<bS c_ l then .error 6 else .ok ((1,l.take (bS c_ l),0),bS c_ l)from rfl);have HK:=G (fun w=>lZ (l.take (bS c_ l)) w);generalize hn:bS c_ l=n at*;generalize hx:l.take n=x at*;clear hn hx
 cases hk:nB x with
 |true=>
  have HR:=G (show fK l= .ok ((2,x,0),n) by rw[HT.out,hk,if_pos rfl]);rw[hk]at HK;clear hk HT;go_enter func109,ntmps109
  go_wp2_with (first
   |(go_at_call 137;refine(HSP.out _).mono ?_;rintro e w' ⟨rfl,rfl⟩)
   |(go_at_call 76;refine(HK.out _).mono ?_;rintro e w' ⟨rfl,rfl⟩))
  exact bodyPost_ret (v:=aY (.ok ((2,x,0),n))) (by simp[results,results109,go_sem,aY]) rfl ⟨by rw[HR.out],(O w _).alloc' _⟩
 |false=>
  rw[hk]at HK;by_cases h14:14<n
  ·have HR:=G (show fK l= .error 6 by rw[HT.out,hk,if_neg (by simp),if_pos h14]);have h14':(14:Int)<n:=by omega
   clear hk HT;go_enter func109,ntmps109
   go_wp2_with (first
    |(go_at_call 137;refine(HSP.out _).mono ?_;rintro e w' ⟨rfl,rfl⟩)
    |(go_at_call 76;refine(HK.out _).mono ?_;rintro e w' ⟨rfl,rfl⟩))
   exact bodyPost_ret (v:=aY (.error 6)) (by simp[results,results109,go_sem,aY]) rfl ⟨by rw[HR.out],(O w _).alloc' _⟩
  ·have HR:=G (show fK l= .ok ((1,x,0),n) by rw[HT.out,hk,if_neg (by simp),if_neg h14]);have h14': ¬(14:Int)<n:=by omega
   clear hk HT;go_enter func109,ntmps109
   go_wp2_with (first
    |(go_at_call 137;refine(HSP.out _).mono ?_;rintro e w' ⟨rfl,rfl⟩)
    |(go_at_call 76;refine(HK.out _).mono ?_;rintro e w' ⟨rfl,rfl⟩))
   exact bodyPost_ret (v:=aY (.ok ((1,x,0),n))) (by simp[results,results109,go_sem,aY]) rfl ⟨by rw[HR.out],(O w _).alloc' _⟩
theorem gk (l:List UInt8) (j:Nat) (h:j<l.length):(l.drop j).head? =some l[j]:=by rw[jy,dn h]
theorem ii (l:List UInt8) (j:Nat) (h:l.length<=j):(l.drop j).head? =none:=by rw[jy,List.getElem?_eq_none h]
theorem oq (c:UInt8) (m:List UInt8):ff (c::m)=if(bI m).2=0\/m.head? =some 39\/(m.drop (bI m).2).head? ≠some 39 then .error 3 else .ok ((3,[],((bI m).1.toNat:Int)),(bI m).2+2):=rfl
theorem vx (c:UInt8) (m:List UInt8) (hl:m.length<=100000) (w:World):Calls prog 112 #[.string (ae (c::m))] w fun e w'=>e= .returned (aY (ff (c::m)))/\al w w':=by
 have hsz:(ae (c::m)).size=m.length+1:=by rw[aM];rfl
 have hex:(ae (c::m)).extract 1 (m.length+1)=ae m:=by
  have:=bR (c::m) 1 (m.length+1);rw[aK (by simp)]at this;exact this
 have HEL:=G (fun w=>qv m w hl);obtain⟨hle1,hle2⟩:=ij m;have HT:=G (oq c m);generalize hv:(bI m).1=v at*;generalize hn:(bI m).2=n at*;have HN:=G hn;have hvb:=v.toNat_lt;have hvb':(v.toNat:Int)<256:=by omega
 clear hv hn;by_cases hn0:n=0
 ·have HR:=G (show ff (c::m)= .error 3 by rw[HT.out,if_pos (.inl hn0)]);subst hn0;clear HT;go_enter func112,ntmps112;go_wp2_with (go_at_call 139;refine(HEL.out _).mono ?_;rintro e w1 ⟨rfl,hE⟩;have HB:=G ((ai w 116 #[.int .i64 0, .string ⟨#[]⟩, .int .i64 0, .int .i64 0]).ext hE);have HE:=G ((O w _).trans hE);clear hE;have hbc:=HB.out.cell;have hbf:=HB.out.frozen);have hset:=(HB.out.put4 (.int .i64 0) (.string ⟨#[]⟩) (.int .i64 0) (.int .i64 0)).cell;exact bodyPost_ret (v:=aY (.error 3)) (by simp[results,results112,go_sem,aY,hset]) rfl ⟨by rw[HR.out],HE.out.put4 (ag _) _ _ _ _⟩
 ·have hm0:0<m.length:=by omega
  have hs1:1<(ae (c::m)).size:=by rw[hsz];omega
  have hg1:(ae (c::m))[1]=m[0]:=rfl;have hnb:((n:Int)==0)=false:=by simp[hn0]
  by_cases hq:m[0]=39
  ·have HR:=G (show ff (c::m)= .error 3 by rw[HT.out,if_pos (.inr (.inl (by rw[jl,dn hm0,hq])))]);rw[hq]at hg1;clear HT hn0 hq;go_enter func112,ntmps112;go_wp2_with (go_at_call 139;refine(HEL.out _).mono ?_;rintro e w1 ⟨rfl,hE⟩;have HB:=G ((ai w 116 #[.int .i64 0, .string ⟨#[]⟩, .int .i64 0, .int .i64 0]).ext hE);have HE:=G ((O w _).trans hE);clear hE;have hbc:=HB.out.cell;have hbf:=HB.out.frozen);have hset:=(HB.out.put4 (.int .i64 0) (.string ⟨#[]⟩) (.int .i64 0) (.int .i64 0)).cell;exact bodyPost_ret (v:=aY (.error 3)) (by simp[results,results112,go_sem,aY,hset]) rfl ⟨by rw[HR.out],HE.out.put4 (ag _) _ _ _ _⟩
  ·have hq1:m.head? ≠some 39:=by rw[jl,dn hm0];intro e;exact hq (M e)
   have hqb:((m[0].toNat:Int)==39)=false:=(bQ m[0] 39 (by omega)).trans (beq_eq_false_iff_ne.2 hq);generalize m[0]=d at*;by_cases hln:m.length<n+1
   ·have HR:=G (show ff (c::m)= .error 3 by rw[HT.out,if_pos (.inr (.inr (by rw[ii _ _ (by omega)];simp)))]);have hln':(m.length:Int)+1<n+2:=by omega
    clear HT hn0 hq hq1;go_enter func112,ntmps112;go_wp2_with (go_at_call 139;refine(HEL.out _).mono ?_;rintro e w1 ⟨rfl,hE⟩;have HB:=G ((ai w 116 #[.int .i64 0, .string ⟨#[]⟩, .int .i64 0, .int .i64 0]).ext hE);have HE:=G ((O w _).trans hE);clear hE;have hbc:=HB.out.cell;have hbf:=HB.out.frozen);have hset:=(HB.out.put4 (.int .i64 0) (.string ⟨#[]⟩) (.int .i64 0) (.int .i64 0)).cell;exact bodyPost_ret (v:=aY (.error 3)) (by simp[results,results112,go_sem,aY,hset]) rfl ⟨by rw[HR.out],HE.out.put4 (ag _) _ _ _ _⟩
   ·have hnm:n<m.length:=by omega
    have hsn:n+1<(ae (c::m)).size:=by rw[hsz];omega
    have hgn:(ae (c::m))[n+1]=m[n]:=rfl;have hln': ¬(m.length:Int)+1<n+2:=by omega
    by_cases he:m[n]=39
    ·have HR:=G (show ff (c::m)= .ok ((3,[],(v.toNat:Int)),n+2) by
      rw[HT.out,if_neg];rintro(h|h|h)
      ·exact hn0 h
      ·exact hq1 h
      ·exact h (by rw[gk _ _ hnm,he]))
     rw[he]at hgn;clear HT hn0 hq hq1 he;go_enter func112,ntmps112;go_wp2_with (go_at_call 139;refine(HEL.out _).mono ?_;rintro e w1 ⟨rfl,hE⟩;have HB:=G ((ai w 116 #[.int .i64 0, .string ⟨#[]⟩, .int .i64 0, .int .i64 0]).ext hE);have HE:=G ((O w _).trans hE);clear hE;have hbc:=HB.out.cell;have hbf:=HB.out.frozen);have hset:=(HB.out.put4 (.int .i64 3) (.string ⟨#[]⟩) (.int .i64 (v.toNat:Int)) (.int .i64 0)).cell;exact bodyPost_ret (v:=aY (.ok ((3,[],(v.toNat:Int)),n+2))) (by simp[results,results112,go_sem,aY,hset];rfl) rfl ⟨by rw[HR.out],HE.out.put4 (ag _) _ _ _ _⟩
    ·have HR:=G (show ff (c::m)= .error 3 by
      rw[HT.out,if_pos (.inr (.inr (by rw[gk _ _ hnm];intro e;exact he (M e))))])
     have hgb:((m[n].toNat:Int)==39)=false:=(bQ m[n] 39 (by omega)).trans (beq_eq_false_iff_ne.2 he);have hgb2:((m[n].toNat:Int) !=39)=true:=by rw[bne,hgb];rfl
     generalize m[n]=u at*;clear HT hn0 hq hq1 he;go_enter func112,ntmps112;go_wp2_with (go_at_call 139;refine(HEL.out _).mono ?_;rintro e w1 ⟨rfl,hE⟩;have HB:=G ((ai w 116 #[.int .i64 0, .string ⟨#[]⟩, .int .i64 0, .int .i64 0]).ext hE);have HE:=G ((O w _).trans hE);clear hE;have hbc:=HB.out.cell;have hbf:=HB.out.frozen);have hset:=(HB.out.put4 (.int .i64 0) (.string ⟨#[]⟩) (.int .i64 0) (.int .i64 0)).cell;exact bodyPost_ret (v:=aY (.error 3)) (by simp[results,results112,go_sem,aY,hset]) rfl ⟨by rw[HR.out],HE.out.put4 (ag _) _ _ _ _⟩
end
section
open Go.RowKit
theorem bt:vF prog 56 5:=⟨underlying56,by kernel_rfl⟩
theorem Sl.one (w:World) (v:UInt8):Sl (w.alloc (.cells #[.int .u8 (v.toNat:Int)] 5)) (some ⟨w.heap.size,0,none⟩) 1 [v]:=
 ⟨by simp,by simp[maxLen],(fun h=>by cases h), .inr ⟨w.heap.size,0,rfl,by simp,fun i hi=>by
  have hi0:i=0:=by simp at hi;omega
  subst hi0;rw[(ai w 5 #[.int .u8 (v.toNat:Int)]).cell]
  rfl⟩⟩
theorem kZ {m:List UInt8} {j:Nat} (h:j<m.length) (hc:m[j]=34):f6 (m.drop j)=some ([],1):=by
 rw[aX h,hc];exact uI _
theorem k8 {m:List UInt8} {j:Nat} (h:j<m.length) (hc:m[j]≠34) (h0:(bI (m.drop j)).2=0):f6 (m.drop j)=none:=by
 rw[aX h]at h0⊢;exact uJ hc h0
theorem kt {m:List UInt8} {j:Nat} (h:j<m.length) (hc:m[j]≠34) (h0:(bI (m.drop j)).2≠0):f6 (m.drop j)=(f6 (m.drop (j+(bI (m.drop j)).2))).map fun x=>((bI (m.drop j)).1::x.1,(bI (m.drop j)).2+x.2):=by
 have e:m.drop (j+(bI (m.drop j)).2)=(m.drop j).drop (bI (m.drop j)).2:=by rw[dr]
 rw[e];generalize hd:m.drop j=d at*;rw[aX h]at hd;subst hd;exact th hc h0
theorem nL (c:UInt8) (m:List UInt8):gx (c::m)=match f6 m with
 |none=> .error 3
 |some (t,n)=>if 128<t.length then .error 6 else .ok ((4,t,0),n+1):=rfl
theorem tW (c:UInt8) (m:List UInt8) (hl:m.length<=100000) (w:World):Calls prog 113 #[.string (ae (c::m))] w fun e w'=>e= .returned (aY (gx (c::m)))/\al w w':=by
 have hsz:(ae (c::m)).size=m.length+1:=by rw[aM];rfl
 have HT:=G (nL c m);go_enter func113,ntmps113;go_wp2_with fail
 go_loopw [5,6] (fun vb vi wr=> ∃(B:Option Addr) (cap:Nat) (b:List UInt8) (j:Nat),vb= .slice B b.length cap/\ny wr (w.heap.size+1) 5 (.slice B b.length cap) b/\vi= .int .i64 ((j+1:Nat):Int)/\j<=m.length/\b.length<=j/\
   Hid (f6 m=(f6 (m.drop j)).map fun x=>(b++x.1,j+x.2))/\aT wr w.heap.size 116 #[.int .i64 0, .string ⟨#[]⟩, .int .i64 0, .int .i64 0]/\al w wr) (fun _ vi _=>m.length+1-(intOf vi).toNat)
 case atStart=>
  refine⟨none,0,[],0,rfl,ny.nil_ _ _ _,rfl,aB _,aB _,G ?_,ai w _ _,O w _⟩
  cases h:f6 m<;>simp[h]
 case round=>
  obtain⟨B,cap,b,j,rfl,hown,rfl,hj,hbj,HL,hblk,hx⟩:=hrel;have HO:=G hown;have HB:=G hblk;have HX:=G hx;have hbc:=hblk.cell;have hbf:=hblk.frozen;have hzb:=hblk.lt;clear hown hblk hx;have hjc:((j+1:Nat):Int)=(j:Int)+1:=by omega
  rw[hjc];by_cases hlt:j<m.length
  ·have hjs:j+1<(ae (c::m)).size:=by rw[hsz];omega
   have hg:(ae (c::m))[j+1]=m[j]:=rfl;have hlt':(j:Int)+1<m.length+1:=by omega
   by_cases h34:m[j]=34
   ·have hR:f6 m=some (b,j+1):=by rw[HL.out,kZ hlt h34];simp
    rw[h34]at hg;by_cases h128:128<b.length
    ·have HR:=G (show gx (c::m)= .error 6 by rw[HT.out,hR];simp only;rw[if_pos h128]);have h128':(128:Int)<b.length:=by omega
     clear h34 hR HT HL;go_wp2_with fail;have hset:=(HB.out.put4 (.int .i64 0) (.string ⟨#[]⟩) (.int .i64 0) (.int .i64 0)).cell;exact bodyPost_ret (v:=aY (.error 6)) (by simp[results,results113,go_sem,aY,hset]) rfl ⟨by rw[HR.out],HX.out.put4 (ag _) _ _ _ _⟩
    ·have HR:=G (show gx (c::m)= .ok ((4,b,0),j+1+1) by rw[HT.out,hR];simp only;rw[if_neg h128]);have h128': ¬(128:Int)<b.length:=by omega
     have hcv:=HO.out.sl.2.convert (P:=prog) (src:=56) (dst:=9) underlying56 underlying5 underlying9;clear h34 hR HT HL;go_wp2_with fail;have hset:=(HB.out.put4 (.int .i64 4) (.string (ae b)) (.int .i64 0) (.int .i64 0)).cell;exact bodyPost_ret (v:=aY (.ok ((4,b,0),j+1+1))) (by simp[results,results113,go_sem,aY,hset]) rfl ⟨by rw[HR.out],HX.out.put4 (ag _) _ _ _ _⟩
   ·have hgb:((m[j].toNat:Int)==34)=false:=(bQ m[j] 34 (by omega)).trans (beq_eq_false_iff_ne.2 h34);have hgb2:((m[j].toNat:Int) !=34)=true:=by rw[bne,hgb];rfl
    have hex:(ae (c::m)).extract (j+1) (m.length+1)=ae (m.drop j):=by
     have:=bR (c::m) (j+1) (m.length+1);rw[aK (by simp)]at this;exact this
    have HEL:=G (fun w=>qv (m.drop j) w (by rw[aZ];omega));obtain⟨hle1,hle2⟩:=ij (m.drop j);rw[aZ]at hle1;have HBD:=G (fun h=>k8 (m:=m) hlt h34 h);have HST:=G (fun h=>kt (m:=m) hlt h34 h);generalize hv:(bI (m.drop j)).1=v at*;generalize hn:(bI (m.drop j)).2=n at*;generalize m[j]=d at*;have HN:=G hn;have hvb:=v.toNat_lt;have hvb':(v.toNat:Int)<256:=by omega
    clear hv hn h34;generalize hdr:m.drop j=mj at*;have HDR:=G hdr;clear hdr;by_cases hn0:n=0
    ·have HR:=G (show gx (c::m)= .error 3 by rw[HT.out,HL.out,HBD.out hn0];rfl);subst hn0;clear HT HL HBD HST;go_wp2_with (go_at_call 139;refine(HEL.out _).mono ?_;rintro e w1 ⟨rfl,hE⟩;have HB:=G (HB.out.ext hE);have HE:=G (HX.out.trans hE);clear hE hbc hbf;have hbc:=HB.out.cell;have hbf:=HB.out.frozen);have hset:=(HB.out.put4 (.int .i64 0) (.string ⟨#[]⟩) (.int .i64 0) (.int .i64 0)).cell;exact bodyPost_ret (v:=aY (.error 3)) (by simp[results,results113,go_sem,aY,hset]) rfl ⟨by rw[HR.out],HE.out.put4 (ag _) _ _ _ _⟩
    ·have hnb:((n:Int)==0)=false:=by simp[hn0]
     have hn1:1<=n:=by omega
     have HL2:=G (show f6 m=(f6 (m.drop (j+n))).map fun x=>((b++[v])++x.1,(j+n)+x.2) by
      rw[HL.out,HST.out hn0,Option.map_map]
      congr 1
      funext x
      simp[dG])
     clear HT HL HBD HST hn0
     go_wp2_with (first
      |(go_at_call 139;refine(HEL.out _).mono ?_;rintro e w1 ⟨rfl,hE⟩;have HO1:=G (HO.out.ext (hE.alloc' (.cells #[.int .u8 (v.toNat:Int)] 5)));have HB1:=G (HB.out.ext (hE.alloc' (.cells #[.int .u8 (v.toNat:Int)] 5)));have HE1:=G (HX.out.trans (hE.alloc' (.cells #[.int .u8 (v.toNat:Int)] 5)));have hz1:=hE.size;clear hE hbc hbf)
      |(at_builtin;refine mq bt rfl _ _ rfl (w.heap.size+1) (.slice B b.length cap) b rfl HO1.out (some ⟨w1.heap.size,0,none⟩) 1 [v] rfl (Sl.one w1 v) (by simp;omega) (by simp;omega) ?_;intro A3 c3 w3 ho3 hg3 _;have HO3:=G ho3;have HG3:=G hg3;clear ho3 hg3))
     go_roundw
     case rel=>
      have hrow:=fun k hk=>(aJ HO1.out k hk).1;have hx3:=HE1.out.grown HG3.out (fun k hk=>by have:=hrow k hk;omega);have hb3:=HB1.out.grown HG3.out (fun e=>by have:=hrow _ e.symm;omega);refine⟨A3,c3,b++[v],j+n,by rw[aa];rfl,?_,by go_num,by omega,by rw[aa];simp;omega,HL2,hb3,hx3⟩;rw[aa];exact HO3.out
     case measure=>simp[intOf];omega
  ·have hmj:m.drop j=[]:=bq (by omega);have HR:=G (show gx (c::m)= .error 3 by rw[HT.out,HL.out,hmj];rfl);have hlt': ¬(j:Int)+1<m.length+1:=by omega
   clear HT HL hmj;go_wp2_with fail;have hset:=(HB.out.put4 (.int .i64 0) (.string ⟨#[]⟩) (.int .i64 0) (.int .i64 0)).cell;exact bodyPost_ret (v:=aY (.error 3)) (by simp[results,results113,go_sem,aY,hset]) rfl ⟨by rw[HR.out],HX.out.put4 (ag _) _ _ _ _⟩
theorem ql (c:UInt8):0<=Lib.indexByte lC c↔lC.contains c=true:=by
 rcases mm c lC with⟨h1,h2⟩|⟨h1,h2⟩
 ·rw[h1,h2];simp
 ·rw[h2];simp[h1]
theorem pJ (a b:UInt8) (l:List UInt8):([a,b]:List UInt8).isPrefixOf l=(l.take 2==[a,b]):=by
 match l with
 | []=>rfl
 | [c]=>simp[List.isPrefixOf]
 |c::d::r=>
  simp only[List.isPrefixOf,cL,List.take_succ_cons,List.take_zero];rw[show(a==c)=(c==a)from BEq.comm,show(b==d)=(d==b)from BEq.comm];simp
def f9 (i:Nat) (l:List UInt8):Bool:=(two.getD i []).isPrefixOf l
theorem tR (l:List UInt8):two.contains (l.take 2)=(f9 0 l||f9 1 l||f9 2 l||f9 3 l||f9 4 l||f9 5 l):=by
 unfold f9 two;simp only[List.getD_cons_zero,List.getD_cons_succ,pJ,eG,List.contains_nil,Bool.or_false,Bool.or_assoc]
theorem uv {i:Nat} {l:List UInt8} (hi:i<6) (h:f9 i l=true):l.take 2=two.getD i []:=by
 unfold f9 two at h;unfold two;have hc:i=0\/i=1\/i=2\/i=3\/i=4\/i=5:=by omega
 rcases hc with rfl|rfl|rfl|rfl|rfl|rfl<;>(simp only[List.getD_cons_zero,List.getD_cons_succ,pJ]at h⊢;exact beq_iff_eq.1 h)
end
section
open Go.RowKit
theorem je {l:List UInt8} {i:Nat} {t:List UInt8} (hi:i<6) (ht:two.getD i []=t) (h:f9 i l=true) (hc:two.contains (l.take 2)=true):fA l= .ok ((5,t,0),2):=by
 unfold fA;rw[if_pos hc,uv hi h,ht]
theorem uH (c:UInt8) (m:List UInt8) (hl:m.length<=100000) (w:World):Calls prog 114 #[.string (ae (c::m))] w fun e w'=>e= .returned (aY (fA (c::m)))/\al w w':=by
 have hsz:(ae (c::m)).size=m.length+1:=by rw[aM];rfl
 have h0:0<(ae (c::m)).size:=by rw[hsz];omega
 have hg:(ae (c::m))[0]=c:=rfl;have hex:(ae (c::m)).extract 0 1=ae [c]:=by rw[bR];rfl
 have HW:=G (tR (c::m));have HPF:=G (fun w (p:List UInt8)=>mK (c::m) p w);have HIX:=G (fun w=>lF lC c w);go_enter func114,ntmps114;go_wp2_with fail
 go_loop [8] (fun vi=>(vi= .int .i64 0/\Hid (two.contains ((c::m).take 2)=(f9 0 (c::m)||f9 1 (c::m)||f9 2 (c::m)||f9 3 (c::m)||f9 4 (c::m)||f9 5 (c::m))))\/(vi= .int .i64 1/\Hid (two.contains ((c::m).take 2)=(f9 1 (c::m)||f9 2 (c::m)||f9 3 (c::m)||f9 4 (c::m)||f9 5 (c::m))))\/(vi= .int .i64 2/\Hid (two.contains ((c::m).take 2)=(f9 2 (c::m)||f9 3 (c::m)||f9 4 (c::m)||f9 5 (c::m))))\/(vi= .int .i64 3/\Hid (two.contains ((c::m).take 2)=(f9 3 (c::m)||f9 4 (c::m)||f9 5 (c::m))))\/(vi= .int .i64 4/\Hid (two.contains ((c::m).take 2)=(f9 4 (c::m)||f9 5 (c::m))))\/(vi= .int .i64 5/\Hid (two.contains ((c::m).take 2)=(f9 5 (c::m))))\/(vi= .int .i64 6/\Hid (two.contains ((c::m).take 2)=(false)))) (fun vi=>7-(intOf vi).toNat)
 case atStart=>exact .inl ⟨rfl,HW⟩
 case round=>
  rcases hrel with⟨rfl,HT⟩|⟨rfl,HT⟩|⟨rfl,HT⟩|⟨rfl,HT⟩|⟨rfl,HT⟩|⟨rfl,HT⟩|⟨rfl,HT⟩
  ·have hidx: ∀w:World,(Instr.index 178 (.agg #[.string ⟨#[61,61]⟩, .string ⟨#[33,61]⟩, .string ⟨#[60,61]⟩, .string ⟨#[62,61]⟩, .string ⟨#[38,38]⟩, .string ⟨#[124,124]⟩]) (.int .i64 0)).run prog w= .ok (.string ⟨#[61,61]⟩) w:=fun w=>by(show _=_;kernel_rfl)
   have HP:=G (fun w=>(show Calls prog 108 #[.string (ae (c::m)), .string ⟨#[61,61]⟩] w fun e w'=>e= .returned (.bool (f9 0 (c::m)))/\w=w' from HPF.out w [61,61]))
   cases hp:f9 0 (c::m)with
   |true=>
    have HR:=G (je (i:=0) (t:=[61,61]) (by omega) rfl hp (by rw[HT.out,hp];simp));rw[hp]at HP;clear hp HT;go_wp2_with (go_at_call 108;refine(HP.out _).mono ?_;rintro e w' ⟨rfl,rfl⟩);exact bodyPost_ret (v:=aY (.ok ((5,[61,61],0),2))) (by simp[results,results114,go_sem,aY];rfl) rfl ⟨by rw[HR.out],O w _⟩
   |false=>
    have HN:=G (show two.contains ((c::m).take 2)=(f9 1 (c::m)||f9 2 (c::m)||f9 3 (c::m)||f9 4 (c::m)||f9 5 (c::m)) by rw[HT.out,hp];simp);rw[hp]at HP;clear hp HT;go_wp2_with (go_at_call 108;refine(HP.out _).mono ?_;rintro e w' ⟨rfl,rfl⟩)
    go_round
    case rel=>exact .inr (.inl ⟨rfl,HN⟩)
    case measure=>simp[intOf]
  ·have hidx: ∀w:World,(Instr.index 178 (.agg #[.string ⟨#[61,61]⟩, .string ⟨#[33,61]⟩, .string ⟨#[60,61]⟩, .string ⟨#[62,61]⟩, .string ⟨#[38,38]⟩, .string ⟨#[124,124]⟩]) (.int .i64 1)).run prog w= .ok (.string ⟨#[33,61]⟩) w:=fun w=>by(show _=_;kernel_rfl)
   have HP:=G (fun w=>(show Calls prog 108 #[.string (ae (c::m)), .string ⟨#[33,61]⟩] w fun e w'=>e= .returned (.bool (f9 1 (c::m)))/\w=w' from HPF.out w [33,61]))
   cases hp:f9 1 (c::m)with
   |true=>
    have HR:=G (je (i:=1) (t:=[33,61]) (by omega) rfl hp (by rw[HT.out,hp];simp));rw[hp]at HP;clear hp HT;go_wp2_with (go_at_call 108;refine(HP.out _).mono ?_;rintro e w' ⟨rfl,rfl⟩);exact bodyPost_ret (v:=aY (.ok ((5,[33,61],0),2))) (by simp[results,results114,go_sem,aY];rfl) rfl ⟨by rw[HR.out],O w _⟩
   |false=>
    have HN:=G (show two.contains ((c::m).take 2)=(f9 2 (c::m)||f9 3 (c::m)||f9 4 (c::m)||f9 5 (c::m)) by rw[HT.out,hp];simp);rw[hp]at HP;clear hp HT;go_wp2_with (go_at_call 108;refine(HP.out _).mono ?_;rintro e w' ⟨rfl,rfl⟩)
    go_round
    case rel=>exact .inr (.inr (.inl ⟨rfl,HN⟩))
    case measure=>simp[intOf]
  ·have hidx: ∀w:World,(Instr.index 178 (.agg #[.string ⟨#[61,61]⟩, .string ⟨#[33,61]⟩, .string ⟨#[60,61]⟩, .string ⟨#[62,61]⟩, .string ⟨#[38,38]⟩, .string ⟨#[124,124]⟩]) (.int .i64 2)).run prog w= .ok (.string ⟨#[60,61]⟩) w:=fun w=>by(show _=_;kernel_rfl)
   have HP:=G (fun w=>(show Calls prog 108 #[.string (ae (c::m)), .string ⟨#[60,61]⟩] w fun e w'=>e= .returned (.bool (f9 2 (c::m)))/\w=w' from HPF.out w [60,61]))
   cases hp:f9 2 (c::m)with
   |true=>
    have HR:=G (je (i:=2) (t:=[60,61]) (by omega) rfl hp (by rw[HT.out,hp];simp));rw[hp]at HP;clear hp HT;go_wp2_with (go_at_call 108;refine(HP.out _).mono ?_;rintro e w' ⟨rfl,rfl⟩);exact bodyPost_ret (v:=aY (.ok ((5,[60,61],0),2))) (by simp[results,results114,go_sem,aY];rfl) rfl ⟨by rw[HR.out],O w _⟩
   |false=>
    have HN:=G (show two.contains ((c::m).take 2)=(f9 3 (c::m)||f9 4 (c::m)||f9 5 (c::m)) by rw[HT.out,hp];simp);rw[hp]at HP;clear hp HT;go_wp2_with (go_at_call 108;refine(HP.out _).mono ?_;rintro e w' ⟨rfl,rfl⟩)
    go_round
    case rel=>exact .inr (.inr (.inr (.inl ⟨rfl,HN⟩)))
    case measure=>simp[intOf]
  ·have hidx: ∀w:World,(Instr.index 178 (.agg #[.string ⟨#[61,61]⟩, .string ⟨#[33,61]⟩, .string ⟨#[60,61]⟩, .string ⟨#[62,61]⟩, .string ⟨#[38,38]⟩, .string ⟨#[124,124]⟩]) (.int .i64 3)).run prog w= .ok (.string ⟨#[62,61]⟩) w:=fun w=>by(show _=_;kernel_rfl)
   have HP:=G (fun w=>(show Calls prog 108 #[.string (ae (c::m)), .string ⟨#[62,61]⟩] w fun e w'=>e= .returned (.bool (f9 3 (c::m)))/\w=w' from HPF.out w [62,61]))
   cases hp:f9 3 (c::m)with
   |true=>
    have HR:=G (je (i:=3) (t:=[62,61]) (by omega) rfl hp (by rw[HT.out,hp];simp));rw[hp]at HP;clear hp HT;go_wp2_with (go_at_call 108;refine(HP.out _).mono ?_;rintro e w' ⟨rfl,rfl⟩);exact bodyPost_ret (v:=aY (.ok ((5,[62,61],0),2))) (by simp[results,results114,go_sem,aY];rfl) rfl ⟨by rw[HR.out],O w _⟩
   |false=>
    have HN:=G (show two.contains ((c::m).take 2)=(f9 4 (c::m)||f9 5 (c::m)) by rw[HT.out,hp];simp);rw[hp]at HP;clear hp HT;go_wp2_with (go_at_call 108;refine(HP.out _).mono ?_;rintro e w' ⟨rfl,rfl⟩)
    go_round
    case rel=>exact .inr (.inr (.inr (.inr (.inl ⟨rfl,HN⟩))))
    case measure=>simp[intOf]
  ·have hidx: ∀w:World,(Instr.index 178 (.agg #[.string ⟨#[61,61]⟩, .string ⟨#[33,61]⟩, .string ⟨#[60,61]⟩, .string ⟨#[62,61]⟩, .string ⟨#[38,38]⟩, .string ⟨#[124,124]⟩]) (.int .i64 4)).run prog w= .ok (.string ⟨#[38,38]⟩) w:=fun w=>by(show _=_;kernel_rfl)
   have HP:=G (fun w=>(show Calls prog 108 #[.string (ae (c::m)), .string ⟨#[38,38]⟩] w fun e w'=>e= .returned (.bool (f9 4 (c::m)))/\w=w' from HPF.out w [38,38]))
   cases hp:f9 4 (c::m)with
   |true=>
    have HR:=G (je (i:=4) (t:=[38,38]) (by omega) rfl hp (by rw[HT.out,hp];simp));rw[hp]at HP;clear hp HT;go_wp2_with (go_at_call 108;refine(HP.out _).mono ?_;rintro e w' ⟨rfl,rfl⟩);exact bodyPost_ret (v:=aY (.ok ((5,[38,38],0),2))) (by simp[results,results114,go_sem,aY];rfl) rfl ⟨by rw[HR.out],O w _⟩
   |false=>
    have HN:=G (show two.contains ((c::m).take 2)=(f9 5 (c::m)) by rw[HT.out,hp];simp);rw[hp]at HP;clear hp HT;go_wp2_with (go_at_call 108;refine(HP.out _).mono ?_;rintro e w' ⟨rfl,rfl⟩)
    go_round
    case rel=>exact .inr (.inr (.inr (.inr (.inr (.inl ⟨rfl,HN⟩)))))
    case measure=>simp[intOf]
  ·have hidx: ∀w:World,(Instr.index 178 (.agg #[.string ⟨#[61,61]⟩, .string ⟨#[33,61]⟩, .string ⟨#[60,61]⟩, .string ⟨#[62,61]⟩, .string ⟨#[38,38]⟩, .string ⟨#[124,124]⟩]) (.int .i64 5)).run prog w= .ok (.string ⟨#[124,124]⟩) w:=fun w=>by(show _=_;kernel_rfl)
   have HP:=G (fun w=>(show Calls prog 108 #[.string (ae (c::m)), .string ⟨#[124,124]⟩] w fun e w'=>e= .returned (.bool (f9 5 (c::m)))/\w=w' from HPF.out w [124,124]))
   cases hp:f9 5 (c::m)with
   |true=>
    have HR:=G (je (i:=5) (t:=[124,124]) (by omega) rfl hp (by rw[HT.out,hp]));rw[hp]at HP;clear hp HT;go_wp2_with (go_at_call 108;refine(HP.out _).mono ?_;rintro e w' ⟨rfl,rfl⟩);exact bodyPost_ret (v:=aY (.ok ((5,[124,124],0),2))) (by simp[results,results114,go_sem,aY];rfl) rfl ⟨by rw[HR.out],O w _⟩
   |false=>
    have HN:=G (show two.contains ((c::m).take 2)=(false) by rw[HT.out,hp]);rw[hp]at HP;clear hp HT;go_wp2_with (go_at_call 108;refine(HP.out _).mono ?_;rintro e w' ⟨rfl,rfl⟩)
    go_round
    case rel=>exact .inr (.inr (.inr (.inr (.inr (.inr (⟨rfl,HN⟩))))))
    case measure=>simp[intOf]
  ·have HI:=G (fun w=>(show Calls prog 107 #[.string ⟨#[40,41,123,125,91,93,44,59,61,43,45,42,47,37,60,62,33]⟩, .int .u8 (c.toNat:Int)] w fun e w'=>e= .returned (.int .i64 (Lib.indexByte lC c))/\w=w' from HIX.out w));by_cases h1:0<=Lib.indexByte lC c
   ·have HR:=G (show fA (c::m)= .ok ((5,[c],0),1) by
     unfold fA;rw[HT.out,if_neg (by simp),if_pos]
     ·rfl
     ·show(some c).any (fun c=>lC.contains c)=true
      simpa using(ql c).1 h1)
    generalize Lib.indexByte lC c=ix at*;clear HT;go_wp2_with (go_at_call 107;refine(HI.out _).mono ?_;rintro e w' ⟨rfl,rfl⟩);exact bodyPost_ret (v:=aY (.ok ((5,[c],0),1))) (by simp[results,results114,go_sem,aY]) rfl ⟨by rw[HR.out],O w _⟩
   ·have HR:=G (show fA (c::m)= .error 3 by
     unfold fA;rw[HT.out,if_neg (by simp),if_neg];show ¬(some c).any (fun c=>lC.contains c)=true;intro h
     exact h1 ((ql c).2 (by simpa using h)))
    generalize Lib.indexByte lC c=ix at*;clear HT;go_wp2_with (go_at_call 107;refine(HI.out _).mono ?_;rintro e w' ⟨rfl,rfl⟩);exact bodyPost_ret (v:=aY (.error 3)) (by simp[results,results114,go_sem,aY]) rfl ⟨by rw[HR.out],O w _⟩
def EZ (w:World):Prop:=(∃ev,w.cell? ⟨2,0,none⟩=some ev/\(ev= .nilIface\/ ∃te pe,ev= .iface te pe))/\(∃ev,w.cell? ⟨3,0,none⟩=some ev/\(ev= .nilIface\/ ∃te pe,ev= .iface te pe))
theorem EZ.ext {w w':World} (h:EZ w) (he:al w w'):EZ w':=by
 obtain⟨⟨a,a1,a2⟩,b,b1,b2⟩:=h;exact⟨⟨a,(he.cell _ _ (iV _ _ a1)).trans a1,a2⟩,b,(he.cell _ _ (iV _ _ b1)).trans b1,b2⟩
theorem nP (p:UInt8->Bool): ∀l:List UInt8,∀c∈l.take (bS p l),p c=true
 | [],c,h=>by simp at h
 |x::l,c,h=>by
  simp only[bS]at h;split at h
  ·rename_i hx;rw[List.take_succ_cons]at h;rcases List.mem_cons.1 h with rfl|h
   ·exact hx
   ·exact nP p l c h
  ·simp at h
def qx (acc:Nat) (l:List UInt8):Nat:=l.foldl (fun v c=>v*10+(c.toNat-48)) acc
theorem sa: ∀(l:List UInt8) (acc:Nat),acc<=qx acc l
 | [],acc=>ag _
 |c::l,acc=>by
  have:=sa l (acc*10+(c.toNat-48));show acc<=qx (acc*10+(c.toNat-48)) l;omega
theorem lV: ∀(l:List UInt8) (acc:Nat),(∀c∈l,cX c=true)->Lib.parseUint10 acc l= .ok (qx acc l)\/(Lib.parseUint10 acc l= .range/\18446744073709551616<=qx acc l)
 | [],acc,_=> .inl rfl
 |c::l,acc,h=>by
  have hc:48<=c.toNat/\c.toNat<=57:=by have:=h c (fG ..);unfold cX at this;simpa using this
  have hg:=sa l (acc*10+(c.toNat-48));have he:qx acc (c::l)=qx (acc*10+(c.toNat-48)) l:=rfl;simp only[Lib.parseUint10];rw[if_pos hc,he];split
  ·exact .inr ⟨rfl,by omega⟩
  ·split
   ·exact .inr ⟨rfl,by omega⟩
   ·exact lV l _ fun d hd=>h d (gu _ hd)
theorem qz {l:List UInt8} (hne:l≠ []) (h: ∀c∈l,cX c=true):(Lib.atoiAll l= .ok (gY l:Int))\/(Lib.atoiAll l= .range/\Lib.atoiSat l=9223372036854775807/\9223372036854775808<=gY l):=by
 match l with
 | []=>exact absurd rfl hne
 |c::r=>
  have hc:48<=c.toNat/\c.toNat<=57:=by have:=h c (fG ..);unfold cX at this;simpa using this
  have h45: ¬c.toNat=45:=by omega
  have h43: ¬(c.toNat=43\/c.toNat=45):=by omega
  have hd:gY (c::r)=qx 0 (c::r):=rfl;have hsat:Lib.atoiSat (c::r)=9223372036854775807:=by
   unfold Lib.atoiSat;rw[if_neg (by simp;omega)]
  have hm:Lib.parseMag (c::r)=Lib.parseUint10 0 (c::r):=by unfold Lib.parseMag;rw[if_neg (by simp)]
  rcases lV (c::r) 0 h with h1|⟨h1,h2⟩
  ·by_cases hb:9223372036854775808<=qx 0 (c::r)
   ·refine .inr ⟨?_,hsat,by rw[hd];exact hb⟩;simp only[Lib.atoiAll];rw[if_neg h43,hm,h1];simp only;rw[if_pos ⟨h45,hb⟩]
   ·refine .inl ?_;simp only[Lib.atoiAll];rw[if_neg h43,hm,h1];simp only;rw[if_neg (by omega),if_neg (by omega),if_neg h45,hd]
  ·refine .inr ⟨?_,hsat,by rw[hd];omega⟩;simp only[Lib.atoiAll];rw[if_neg h43,hm,h1]
theorem vA (l:List UInt8) (hne:l≠ []) (hl:l.length<=100000) (h: ∀c∈l,cX c=true) (w:World) (hz:EZ w):
  ∃v:Int,(v=gY l\/(v=9223372036854775807/\9223372036854775808<=gY l))/\Calls prog 138 #[.string (ae l)] w fun e w'=>(∃er,e= .returned (.tuple #[.int .i64 v,er]))/\al w w':=by
 rcases qz hne h with h1|⟨h1,h2,h3⟩
 ·refine⟨gY l, .inl rfl,?_⟩;refine(Tryz.strconv_Atoi_ok (ae l) (by rw[aM];omega) (gY l) (by rw[h_];exact h1) w).mono ?_;rintro e w' ⟨rfl,h⟩;refine⟨⟨_,rfl⟩,?_⟩;rcases h with rfl|⟨t,rfl⟩
  ·exact aG _
  ·exact Lib.bytesWorld_below _ _ _
 ·refine⟨9223372036854775807, .inr ⟨rfl,h3⟩,?_⟩;obtain⟨ev,q1,q2⟩:=hz.2;refine(Tryz.strconv_Atoi_range (ae l) (by rw[aM];omega) (by rw[h_];exact h1) ev w q1 q2).mono ?_;rintro e w' ⟨N,rfl,_,_,hb⟩;rw[h_,h2];exact⟨⟨_,rfl⟩,hb⟩
end
end Go.Proofs.YtelplgkppalmfaaGreatDoor
