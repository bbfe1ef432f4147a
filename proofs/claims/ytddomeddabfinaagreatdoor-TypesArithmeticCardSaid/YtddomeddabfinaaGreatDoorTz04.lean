/-
  Parts of the proof: LexD LexE LexF LexG LexH LexI LexJ LexK LexL LexM LexN LexO.
-/
import Derived.Test.YtddomeddabfinaaGreatDoorTz00
import Derived.Test.YtddomeddabfinaaGreatDoorTz02
import Derived.Test.YtddomeddabfinaaGreatDoorTz03
set_option maxRecDepth 100000
set_option maxHeartbeats 8000000
set_option linter.unusedVariables false
set_option linter.unusedSimpArgs false
set_option linter.unusedSectionVars false
namespace Go.Proofs.YtddomeddabfinaaGreatDoor
open Go.Proofs.Tryz
section
open Go.RowKit
theorem gX (l:List UInt8):(ai l).data.toList=l:=by simp[ai]
theorem ny (c:UInt8): ∀l:List UInt8,(Lib.indexByte l c= -1/\l.contains c=false)\/(0<=Lib.indexByte l c/\l.contains c=true)
 | []=> .inl ⟨rfl,rfl⟩
 |b::l=>by
  simp only[Lib.indexByte];by_cases h:b=c
  ·subst h;refine .inr ⟨by simp,by simp⟩
  ·have hb:(b==c)=false:=beq_eq_false_iff_ne.2 h;have hb2:(c==b)=false:=beq_eq_false_iff_ne.2 fun e=>h e.symm;rw[hb];rcases ny c l with⟨h1,h2⟩|⟨h1,h2⟩
   ·refine .inl ⟨by simp[h1],?_⟩;rw[fK,hb2,h2];rfl
   ·refine .inr ⟨?_,?_⟩
    ·have:(Lib.indexByte l c== -1)=false:=by rw[beq_eq_false_iff_ne];omega
     simp only[aN,if_false,this];omega
    ·rw[fK,hb2,h2];rfl
theorem rr: ∀l:List UInt8,Lib.indexByte l 10=if e_ l<l.length then(e_ l:Int)else-1
 | []=>rfl
 |b::l=>by
  by_cases h:b=10
  ·subst h;rfl
  ·have hb:(b==10)=false:=beq_eq_false_iff_ne.2 h;have hb2:(b !=10)=true:=by simp[h]
   have ih:=rr l;have e:e_ (b::l)=e_ l+1:=by simp[e_,bZ,h]
   rw[e];simp only[Lib.indexByte];rw[hb,ih,if_neg (by simp)];by_cases hl:e_ l<l.length
   ·rw[if_pos hl,if_neg (by simp),if_pos (by rw[ae];omega)];rfl
   ·rw[if_neg hl,if_pos (show((-1:Int)== -1)=true from rfl),if_neg (by rw[ae];omega)]
theorem wn (c:UInt8):A7 c=([32,9,10,13]:List UInt8).contains c:=by
 have: ∀n:Fin 256,A7 (UInt8.ofNat n.val)=([32,9,10,13]:List UInt8).contains (UInt8.ofNat n.val):=by decide+kernel
 have h:=this ⟨c.toNat,c.toNat_lt⟩;rwa [io]at h
theorem mC (l:List UInt8) (c:UInt8) (w:World):Calls prog 137 #[.string (ai l), .int .u8 (c.toNat:Int)] w fun e w'=>e= .returned (.int .i64 (Lib.indexByte l c))/\w=w':=by
 refine(Tryz.strings_IndexByte (ai l) (c.toNat:Int) w).mono ?_;rintro e w' ⟨rfl,rfl⟩;rw[gX];have:(c.toNat:Int).toNat.toUInt8=c:=by
  rw[cV];exact io
 rw[this];exact⟨rfl,rfl⟩
theorem nU (l p:List UInt8) (w:World):Calls prog 138 #[.string (ai l), .string (ai p)] w fun e w'=>e= .returned (.bool (p.isPrefixOf l))/\w=w':=by
 refine(Tryz.strings_HasPrefix (ai l) (ai p) w).mono ?_;rintro e w' ⟨rfl,rfl⟩;rw[gX,gX];exact⟨rfl,rfl⟩
theorem p7 (l:List UInt8):(([47,47]:List UInt8).isPrefixOf l=true/\ ∃r,l=47::47::r)\/(([47,47]:List UInt8).isPrefixOf l=false/\ ∀c r,l=c::r-> ¬(c=47/\r.head? =some 47)):=by
 match l with
 | []=>exact .inr ⟨rfl,fun c r h=>by cases h⟩
 | [c]=>exact .inr ⟨by simp[List.isPrefixOf],fun c' r h=>by injection h with h1 h2;subst h2;simp⟩
 |c::d::r=>
  by_cases h:c=47/\d=47
  ·obtain⟨rfl,rfl⟩:=h;exact .inl ⟨by simp[List.isPrefixOf],r,rfl⟩
  ·refine .inr ⟨?_,fun c' r' h'=>by injection h' with h1 h2;subst h1 h2;simpa using h⟩;simp only[List.isPrefixOf,gq];rw[Bool.and_eq_false_iff];by_cases hc:c=47
   ·right;exact beq_eq_false_iff_ne.2 fun e=>h ⟨hc,e.symm⟩
   ·left;exact beq_eq_false_iff_ne.2 fun e=>hc e.symm
theorem uW {l:List UInt8} {j:Nat} (h:j<l.length) (hw:A7 l[j]=true):cK false (l.drop j)=cK false (l.drop (j+1))+1:=by
 rw[ay h];simp only[cK];rw[if_pos hw]
theorem uV {l:List UInt8} {j:Nat} (h:j<l.length) (hw:A7 l[j]=false) (hs: ∀c r,l.drop j=c::r-> ¬(c=47/\r.head? =some 47)):cK false (l.drop j)=0:=by
 have hs:=hs l[j] (l.drop (j+1)) (ay h);rw[ay h];simp only[cK];rw[hw,if_neg (by simp),if_neg hs]
theorem v6 (l:List UInt8) (hl:l.length<=100000) (w:World):Calls prog 96 #[.string (ai l)] w fun e w'=>e= .returned (.int .i64 (cK false l))/\w=w':=by
 have hsz:=a7 l;go_enter func96,ntmps96;go_wp2_with fail
 go_loop [3] (fun vi=> ∃j:Nat,vi= .int .i64 j/\j<=l.length/\Hid (cK false l=j+cK false (l.drop j))) (fun vi=>l.length-(intOf vi).toNat)
 case atStart=>exact⟨0,rfl,aG _,G (by simp)⟩
 case round=>
  obtain⟨j,rfl,hj,HT⟩:=hrel;by_cases hlt:j<l.length
  ·have hjs:j<(ai l).size:=by rw[a7];exact hlt
   have hg:=lH l j hjs;have hlt':(j:Int)<l.length:=by omega
   have hex:=eE l j l.length;rw[bD]at hex;have HST:=G (fun h=>uW (l:=l) hlt h);have HSP:=G (fun h hs=>uV (l:=l) hlt h hs);generalize l[j]'hlt=c at*;have HIX:=G (show Calls prog 137 #[.string ⟨#[32,9,10,13]⟩, .int .u8 (c.toNat:Int)] w fun e w'=>e= .returned (.int .i64 (Lib.indexByte [32,9,10,13] c))/\w=w' from mC [32,9,10,13] c w)
   cases hw:A7 c with
   |true=>
    have hi:0<=Lib.indexByte [32,9,10,13] c:=by
     rcases ny c [32,9,10,13]with⟨h1,h2⟩|⟨h1,h2⟩
     ·rw[<-wn,hw]at h2;cases h2
     ·exact h1
    have HN:=G (show cK false l=((j+1:Nat))+cK false (l.drop (j+1)) by rw[HT.out,HST.out hw];omega);generalize Lib.indexByte [32,9,10,13] c=ix at*;clear hw hex;go_wp2_with (go_at_call 137;refine HIX.out.mono ?_;rintro e w' ⟨rfl,rfl⟩)
    go_round
    case rel=>exact⟨j+1,by go_num,by omega,HN⟩
    case measure=>simp[intOf];omega
   |false=>
    have hi: ¬0<=Lib.indexByte [32,9,10,13] c:=by
     rcases ny c [32,9,10,13]with⟨h1,h2⟩|⟨h1,h2⟩
     ·omega
     ·rw[<-wn,hw]at h2;cases h2
    generalize Lib.indexByte [32,9,10,13] c=ix at*;have HPX:=G (show Calls prog 138 #[.string (ai (l.drop j)), .string ⟨#[47,47]⟩] w fun e w'=>e= .returned (.bool (([47,47]:List UInt8).isPrefixOf (l.drop j)))/\w=w' from nU (l.drop j) [47,47] w);rcases p7 (l.drop j)with⟨hp,hq⟩|⟨hp,hq⟩
    ·have hsc:=oO hq;have hix:=rr (l.drop j);have HIL:=G (show Calls prog 137 #[.string (ai (l.drop j)), .int .u8 10] w fun e w'=>e= .returned (.int .i64 (Lib.indexByte (l.drop j) 10))/\w=w' from mC (l.drop j) 10 w);rw[hp]at HPX;have hll:e_ (l.drop j)<=(l.drop j).length:=gY _ _;have hlen:(l.drop j).length=l.length-j:=bm;by_cases hn:e_ (l.drop j)<(l.drop j).length
     ·rw[if_pos hn]at hix;rw[hix]at HIL;have HN:=G (show cK false l=((j+e_ (l.drop j):Nat))+cK false (l.drop (j+e_ (l.drop j))) by rw[HT.out,hsc,dh];omega);have hpos:1<=e_ (l.drop j):=by
       obtain⟨r,hr⟩:=hq;rw[hr];simp[e_,bZ]
      have hle:j+e_ (l.drop j)<=l.length:=by omega
      generalize e_ (l.drop j)=n at*;clear hw hp hq hsc hix hn hll hlen
      go_wp2_with (first
       |(go_at_call 137;with_reducible (refine HIX.out.mono ?_);rintro e w' ⟨rfl,rfl⟩)
       |(go_at_call 138;refine HPX.out.mono ?_;rintro e w' ⟨rfl,rfl⟩)
       |(go_at_call 137;refine HIL.out.mono ?_;rintro e w' ⟨rfl,rfl⟩))
      go_round
      case rel=>exact⟨j+n,by go_num,hle,HN⟩
      case measure=>simp[intOf];omega
     ·rw[if_neg hn]at hix;rw[hix]at HIL;have h3:j+e_ (l.drop j)=l.length:=by omega
      have HN:=G (show cK false l=l.length by
       have hd:l.drop (j+e_ (l.drop j))=[]:=aF (by omega);rw[HT.out,hsc,dh,hd];show j+(e_ (l.drop j)+0)=l.length
       omega)
      clear h3;clear hw hp hq hsc hix hn hll hlen
      go_wp2_with (first
       |(go_at_call 137;with_reducible (refine HIX.out.mono ?_);rintro e w' ⟨rfl,rfl⟩)
       |(go_at_call 138;refine HPX.out.mono ?_;rintro e w' ⟨rfl,rfl⟩)
       |(go_at_call 137;refine HIL.out.mono ?_;rintro e w' ⟨rfl,rfl⟩))
      go_ret;exact⟨lN (by rw[HN.out]),rfl⟩
    ·rw[hp]at HPX;have HN:=G (show cK false l=j by rw[HT.out,HSP.out hw hq];omega);clear hw hp hq
     go_wp2_with (first
      |(go_at_call 137;with_reducible (refine HIX.out.mono ?_);rintro e w' ⟨rfl,rfl⟩)
      |(go_at_call 138;refine HPX.out.mono ?_;rintro e w' ⟨rfl,rfl⟩))
     go_ret;exact⟨lN (by rw[HN.out]),rfl⟩
  ·have HN:=G (show cK false l=j by rw[HT.out,aF (by omega)];rfl);have hlt': ¬(j:Int)<l.length:=by omega
   go_wp2_with fail;go_ret;exact⟨lN (by rw[HN.out]),rfl⟩
end
section
open Go.RowKit
def cA:rS->Value
 | .ok x=> .tuple #[.agg #[.int .i64 x.1.1, .string (ai x.1.2.1), .int .i64 x.1.2.2, .int .i64 0], .int .i64 (x.2:Int), .int .i64 0]
 | .error e=> .tuple #[.agg #[.int .i64 0, .string ⟨#[]⟩, .int .i64 0, .int .i64 0], .int .i64 0, .int .i64 e]
theorem aL.put4 {w:World} {g:Nat} {t:TypeId} {x0 x1 x2 x3:Value} (h:aL w g t #[x0,x1,x2,x3]) (a b c d:Value):aL ((((w.setCell ⟨g,0,none⟩ a).setCell ⟨g,1,none⟩ b).setCell ⟨g,2,none⟩ c).setCell ⟨g,3,none⟩ d) g t #[a,b,c,d]:=by
 have:=(((h.set 0 a).set 1 b).set 2 c).set 3 d;simpa using this
theorem aq.put4 {w0 w:World} {g:Nat} (h:aq w0 w) (hg:w0.heap.size<=g) (a b c d:Value):aq w0 ((((w.setCell ⟨g,0,none⟩ a).setCell ⟨g,1,none⟩ b).setCell ⟨g,2,none⟩ c).setCell ⟨g,3,none⟩ d):=(((h.set hg a).set hg b).set hg c).set hg d
theorem wu (l:List UInt8) (hl:l.length<=100000) (w:World):Calls prog 139 #[.string (ai l)] w fun e w'=>e= .returned (cA (jI l))/\aq w w':=by
 have hsz:=a7 l;have hle:=gY eT l;have hex:=eE l 0 (bZ eT l);simp only[ap]at hex;have HSP:=G (fun w=>qM eT 107 lP (.inl rfl) l hl w);have HT:=G (show jI l=if vF (l.take (bZ eT l))then .ok ((2,l.take (bZ eT l),0),bZ eT l)else if 14<bZ eT l then .error 6 else .ok ((1,l.take (bZ eT l),0),bZ eT l)from rfl);have HK:=G (fun w=>mU (l.take (bZ eT l)) w);generalize hn:bZ eT l=n at*;generalize hx:l.take n=x at*;clear hn hx
 cases hk:vF x with
 |true=>
  have HR:=G (show jI l= .ok ((2,x,0),n) by rw[HT.out,hk,if_pos rfl]);rw[hk]at HK;clear hk HT;go_enter func139,ntmps139
  go_wp2_with (first
   |(go_at_call 179;refine(HSP.out _).mono ?_;rintro e w' ⟨rfl,rfl⟩)
   |(go_at_call 109;refine(HK.out _).mono ?_;rintro e w' ⟨rfl,rfl⟩))
  exact bodyPost_ret (v:=cA (.ok ((2,x,0),n))) (by simp[results,results139,go_sem,cA]) rfl ⟨by rw[HR.out],(O w _).alloc' _⟩
 |false=>
  rw[hk]at HK;by_cases h14:14<n
  ·have HR:=G (show jI l= .error 6 by rw[HT.out,hk,if_neg (by simp),if_pos h14]);have h14':(14:Int)<n:=by omega
   clear hk HT;go_enter func139,ntmps139
   go_wp2_with (first
    |(go_at_call 179;refine(HSP.out _).mono ?_;rintro e w' ⟨rfl,rfl⟩)
    |(go_at_call 109;refine(HK.out _).mono ?_;rintro e w' ⟨rfl,rfl⟩))
   exact bodyPost_ret (v:=cA (.error 6)) (by simp[results,results139,go_sem,cA]) rfl ⟨by rw[HR.out],(O w _).alloc' _⟩
  ·have HR:=G (show jI l= .ok ((1,x,0),n) by rw[HT.out,hk,if_neg (by simp),if_neg h14]);have h14': ¬(14:Int)<n:=by omega
   clear hk HT;go_enter func139,ntmps139
   go_wp2_with (first
    |(go_at_call 179;refine(HSP.out _).mono ?_;rintro e w' ⟨rfl,rfl⟩)
    |(go_at_call 109;refine(HK.out _).mono ?_;rintro e w' ⟨rfl,rfl⟩))
   exact bodyPost_ret (v:=cA (.ok ((1,x,0),n))) (by simp[results,results139,go_sem,cA]) rfl ⟨by rw[HR.out],(O w _).alloc' _⟩
theorem mE (l:List UInt8) (j:Nat) (h:j<l.length):(l.drop j).head? =some l[j]:=by rw[List.head?_drop,aI h]
theorem og (l:List UInt8) (j:Nat) (h:l.length<=j):(l.drop j).head? =none:=by rw[List.head?_drop,jR h]
theorem vY (c:UInt8) (m:List UInt8):iJ (c::m)=if(cj m).2=0\/m.head? =some 39\/(m.drop (cj m).2).head? ≠some 39 then .error 3 else .ok ((3,[],((cj m).1.toNat:Int)),(cj m).2+2):=rfl
theorem yA (c:UInt8) (m:List UInt8) (hl:m.length<=100000) (w:World):Calls prog 142 #[.string (ai (c::m))] w fun e w'=>e= .returned (cA (iJ (c::m)))/\aq w w':=by
 have hsz:(ai (c::m)).size=m.length+1:=by rw[a7];rfl
 have hex:(ai (c::m)).extract 1 (m.length+1)=ai m:=by
  have:=eE (c::m) 1 (m.length+1);rw[bU (by simp)]at this;exact this
 have HEL:=G (fun w=>rC m w hl);obtain⟨hle1,hle2⟩:=kn m;have HT:=G (vY c m);generalize hv:(cj m).1=v at*;generalize hn:(cj m).2=n at*;have HN:=G hn;have hvb:=v.toNat_lt;have hvb':(v.toNat:Int)<256:=by omega
 clear hv hn;by_cases hn0:n=0
 ·have HR:=G (show iJ (c::m)= .error 3 by rw[HT.out,if_pos (.inl hn0)]);subst hn0;clear HT;go_enter func142,ntmps142;go_wp2_with (go_at_call 181;refine(HEL.out _).mono ?_;rintro e w1 ⟨rfl,hE⟩;have HB:=G ((an w 206 #[.int .i64 0, .string ⟨#[]⟩, .int .i64 0, .int .i64 0]).ext hE);have HE:=G ((O w _).trans hE);clear hE;have hbc:=HB.out.cell;have hbf:=HB.out.frozen);have hset:=(HB.out.put4 (.int .i64 0) (.string ⟨#[]⟩) (.int .i64 0) (.int .i64 0)).cell;exact bodyPost_ret (v:=cA (.error 3)) (by simp[results,results142,go_sem,cA,hset]) rfl ⟨by rw[HR.out],HE.out.put4 (ah _) _ _ _ _⟩
 ·have hm0:0<m.length:=by omega
  have hs1:1<(ai (c::m)).size:=by rw[hsz];omega
  have hg1:(ai (c::m))[1]=m[0]:=rfl;have hnb:((n:Int)==0)=false:=by simp[hn0]
  by_cases hq:m[0]=39
  ·have HR:=G (show iJ (c::m)= .error 3 by rw[HT.out,if_pos (.inr (.inl (by rw[jj,aI hm0,hq])))]);rw[hq]at hg1;clear HT hn0 hq;go_enter func142,ntmps142;go_wp2_with (go_at_call 181;refine(HEL.out _).mono ?_;rintro e w1 ⟨rfl,hE⟩;have HB:=G ((an w 206 #[.int .i64 0, .string ⟨#[]⟩, .int .i64 0, .int .i64 0]).ext hE);have HE:=G ((O w _).trans hE);clear hE;have hbc:=HB.out.cell;have hbf:=HB.out.frozen);have hset:=(HB.out.put4 (.int .i64 0) (.string ⟨#[]⟩) (.int .i64 0) (.int .i64 0)).cell;exact bodyPost_ret (v:=cA (.error 3)) (by simp[results,results142,go_sem,cA,hset]) rfl ⟨by rw[HR.out],HE.out.put4 (ah _) _ _ _ _⟩
  ·have hq1:m.head? ≠some 39:=by rw[jj,aI hm0];intro e;exact hq (Z e)
   have hqb:((m[0].toNat:Int)==39)=false:=(dH m[0] 39 (by omega)).trans (beq_eq_false_iff_ne.2 hq);generalize m[0]=d at*;by_cases hln:m.length<n+1
   ·have HR:=G (show iJ (c::m)= .error 3 by rw[HT.out,if_pos (.inr (.inr (by rw[og _ _ (by omega)];simp)))]);have hln':(m.length:Int)+1<n+2:=by omega
    clear HT hn0 hq hq1;go_enter func142,ntmps142;go_wp2_with (go_at_call 181;refine(HEL.out _).mono ?_;rintro e w1 ⟨rfl,hE⟩;have HB:=G ((an w 206 #[.int .i64 0, .string ⟨#[]⟩, .int .i64 0, .int .i64 0]).ext hE);have HE:=G ((O w _).trans hE);clear hE;have hbc:=HB.out.cell;have hbf:=HB.out.frozen);have hset:=(HB.out.put4 (.int .i64 0) (.string ⟨#[]⟩) (.int .i64 0) (.int .i64 0)).cell;exact bodyPost_ret (v:=cA (.error 3)) (by simp[results,results142,go_sem,cA,hset]) rfl ⟨by rw[HR.out],HE.out.put4 (ah _) _ _ _ _⟩
   ·have hnm:n<m.length:=by omega
    have hsn:n+1<(ai (c::m)).size:=by rw[hsz];omega
    have hgn:(ai (c::m))[n+1]=m[n]:=rfl;have hln': ¬(m.length:Int)+1<n+2:=by omega
    by_cases he:m[n]=39
    ·have HR:=G (show iJ (c::m)= .ok ((3,[],(v.toNat:Int)),n+2) by
      rw[HT.out,if_neg];rintro(h|h|h)
      ·exact hn0 h
      ·exact hq1 h
      ·exact h (by rw[mE _ _ hnm,he]))
     rw[he]at hgn;clear HT hn0 hq hq1 he;go_enter func142,ntmps142;go_wp2_with (go_at_call 181;refine(HEL.out _).mono ?_;rintro e w1 ⟨rfl,hE⟩;have HB:=G ((an w 206 #[.int .i64 0, .string ⟨#[]⟩, .int .i64 0, .int .i64 0]).ext hE);have HE:=G ((O w _).trans hE);clear hE;have hbc:=HB.out.cell;have hbf:=HB.out.frozen);have hset:=(HB.out.put4 (.int .i64 3) (.string ⟨#[]⟩) (.int .i64 (v.toNat:Int)) (.int .i64 0)).cell;exact bodyPost_ret (v:=cA (.ok ((3,[],(v.toNat:Int)),n+2))) (by simp[results,results142,go_sem,cA,hset];rfl) rfl ⟨by rw[HR.out],HE.out.put4 (ah _) _ _ _ _⟩
    ·have HR:=G (show iJ (c::m)= .error 3 by
      rw[HT.out,if_pos (.inr (.inr (by rw[mE _ _ hnm];intro e;exact he (Z e))))])
     have hgb:((m[n].toNat:Int)==39)=false:=(dH m[n] 39 (by omega)).trans (beq_eq_false_iff_ne.2 he);have hgb2:((m[n].toNat:Int) !=39)=true:=by rw[bne,hgb];rfl
     generalize m[n]=u at*;clear HT hn0 hq hq1 he;go_enter func142,ntmps142;go_wp2_with (go_at_call 181;refine(HEL.out _).mono ?_;rintro e w1 ⟨rfl,hE⟩;have HB:=G ((an w 206 #[.int .i64 0, .string ⟨#[]⟩, .int .i64 0, .int .i64 0]).ext hE);have HE:=G ((O w _).trans hE);clear hE;have hbc:=HB.out.cell;have hbf:=HB.out.frozen);have hset:=(HB.out.put4 (.int .i64 0) (.string ⟨#[]⟩) (.int .i64 0) (.int .i64 0)).cell;exact bodyPost_ret (v:=cA (.error 3)) (by simp[results,results142,go_sem,cA,hset]) rfl ⟨by rw[HR.out],HE.out.put4 (ah _) _ _ _ _⟩
end
section
open Go.RowKit
theorem bt:oK prog 40 5:=⟨underlying40,by kernel_rfl⟩
theorem Sl.one (w:World) (v:UInt8):Sl (w.alloc (.cells #[.int .u8 (v.toNat:Int)] 5)) (some ⟨w.heap.size,0,none⟩) 1 [v]:=
 ⟨by simp,by simp[maxLen],(fun h=>by cases h), .inr ⟨w.heap.size,0,rfl,by simp,fun i hi=>by
  have hi0:i=0:=by simp at hi;omega
  subst hi0;rw[(an w 5 #[.int .u8 (v.toNat:Int)]).cell]
  rfl⟩⟩
theorem qi {m:List UInt8} {j:Nat} (h:j<m.length) (hc:m[j]=34):jw (m.drop j)=some ([],1):=by
 rw[ay h,hc];exact xL _
theorem qj {m:List UInt8} {j:Nat} (h:j<m.length) (hc:m[j]≠34) (h0:(cj (m.drop j)).2=0):jw (m.drop j)=none:=by
 rw[ay h]at h0⊢;exact xM hc h0
theorem oQ {m:List UInt8} {j:Nat} (h:j<m.length) (hc:m[j]≠34) (h0:(cj (m.drop j)).2≠0):jw (m.drop j)=(jw (m.drop (j+(cj (m.drop j)).2))).map fun x=>((cj (m.drop j)).1::x.1,(cj (m.drop j)).2+x.2):=by
 have e:m.drop (j+(cj (m.drop j)).2)=(m.drop j).drop (cj (m.drop j)).2:=by rw[dh]
 rw[e];generalize hd:m.drop j=d at*;rw[ay h]at hd;subst hd;exact vE hc h0
theorem uO (c:UInt8) (m:List UInt8):iY (c::m)=match jw m with
 |none=> .error 3
 |some (t,n)=>if 128<t.length then .error 6 else .ok ((4,t,0),n+1):=rfl
theorem wJ (c:UInt8) (m:List UInt8) (hl:m.length<=100000) (w:World):Calls prog 143 #[.string (ai (c::m))] w fun e w'=>e= .returned (cA (iY (c::m)))/\aq w w':=by
 have hsz:(ai (c::m)).size=m.length+1:=by rw[a7];rfl
 have HT:=G (uO c m);go_enter func143,ntmps143;go_wp2_with fail
 go_loopw [5,6] (fun vb vi wr=> ∃(B:Option Addr) (cap:Nat) (b:List UInt8) (j:Nat),vb= .slice B b.length cap/\oH wr (w.heap.size+1) 5 (.slice B b.length cap) b/\vi= .int .i64 ((j+1:Nat):Int)/\j<=m.length/\b.length<=j/\
   Hid (jw m=(jw (m.drop j)).map fun x=>(b++x.1,j+x.2))/\aL wr w.heap.size 206 #[.int .i64 0, .string ⟨#[]⟩, .int .i64 0, .int .i64 0]/\aq w wr) (fun _ vi _=>m.length+1-(intOf vi).toNat)
 case atStart=>
  refine⟨none,0,[],0,rfl,oH.nil_ _ _ _,rfl,aG _,aG _,G ?_,an w _ _,O w _⟩
  cases h:jw m<;>simp[h]
 case round=>
  obtain⟨B,cap,b,j,rfl,hown,rfl,hj,hbj,HL,hblk,hx⟩:=hrel;have HO:=G hown;have HB:=G hblk;have HX:=G hx;have hbc:=hblk.cell;have hbf:=hblk.frozen;have hzb:=hblk.lt;clear hown hblk hx;have hjc:((j+1:Nat):Int)=(j:Int)+1:=by omega
  rw[hjc];by_cases hlt:j<m.length
  ·have hjs:j+1<(ai (c::m)).size:=by rw[hsz];omega
   have hg:(ai (c::m))[j+1]=m[j]:=rfl;have hlt':(j:Int)+1<m.length+1:=by omega
   by_cases h34:m[j]=34
   ·have hR:jw m=some (b,j+1):=by rw[HL.out,qi hlt h34];simp
    rw[h34]at hg;by_cases h128:128<b.length
    ·have HR:=G (show iY (c::m)= .error 6 by rw[HT.out,hR];simp only;rw[if_pos h128]);have h128':(128:Int)<b.length:=by omega
     clear h34 hR HT HL;go_wp2_with fail;have hset:=(HB.out.put4 (.int .i64 0) (.string ⟨#[]⟩) (.int .i64 0) (.int .i64 0)).cell;exact bodyPost_ret (v:=cA (.error 6)) (by simp[results,results143,go_sem,cA,hset]) rfl ⟨by rw[HR.out],HX.out.put4 (ah _) _ _ _ _⟩
    ·have HR:=G (show iY (c::m)= .ok ((4,b,0),j+1+1) by rw[HT.out,hR];simp only;rw[if_neg h128]);have h128': ¬(128:Int)<b.length:=by omega
     have hcv:=HO.out.sl.2.convert (P:=prog) (src:=40) (dst:=9) underlying40 underlying5 underlying9;clear h34 hR HT HL;go_wp2_with fail;have hset:=(HB.out.put4 (.int .i64 4) (.string (ai b)) (.int .i64 0) (.int .i64 0)).cell;exact bodyPost_ret (v:=cA (.ok ((4,b,0),j+1+1))) (by simp[results,results143,go_sem,cA,hset]) rfl ⟨by rw[HR.out],HX.out.put4 (ah _) _ _ _ _⟩
   ·have hgb:((m[j].toNat:Int)==34)=false:=(dH m[j] 34 (by omega)).trans (beq_eq_false_iff_ne.2 h34);have hgb2:((m[j].toNat:Int) !=34)=true:=by rw[bne,hgb];rfl
    have hex:(ai (c::m)).extract (j+1) (m.length+1)=ai (m.drop j):=by
     have:=eE (c::m) (j+1) (m.length+1);rw[bU (by simp)]at this;exact this
    have HEL:=G (fun w=>rC (m.drop j) w (by rw[bm];omega));obtain⟨hle1,hle2⟩:=kn (m.drop j);rw[bm]at hle1;have HBD:=G (fun h=>qj (m:=m) hlt h34 h);have HST:=G (fun h=>oQ (m:=m) hlt h34 h);generalize hv:(cj (m.drop j)).1=v at*;generalize hn:(cj (m.drop j)).2=n at*;generalize m[j]=d at*;have HN:=G hn;have hvb:=v.toNat_lt;have hvb':(v.toNat:Int)<256:=by omega
    clear hv hn h34;generalize hdr:m.drop j=mj at*;have HDR:=G hdr;clear hdr;by_cases hn0:n=0
    ·have HR:=G (show iY (c::m)= .error 3 by rw[HT.out,HL.out,HBD.out hn0];rfl);subst hn0;clear HT HL HBD HST;go_wp2_with (go_at_call 181;refine(HEL.out _).mono ?_;rintro e w1 ⟨rfl,hE⟩;have HB:=G (HB.out.ext hE);have HE:=G (HX.out.trans hE);clear hE hbc hbf;have hbc:=HB.out.cell;have hbf:=HB.out.frozen);have hset:=(HB.out.put4 (.int .i64 0) (.string ⟨#[]⟩) (.int .i64 0) (.int .i64 0)).cell;exact bodyPost_ret (v:=cA (.error 3)) (by simp[results,results143,go_sem,cA,hset]) rfl ⟨by rw[HR.out],HE.out.put4 (ah _) _ _ _ _⟩
    ·have hnb:((n:Int)==0)=false:=by simp[hn0]
     have hn1:1<=n:=by omega
     have HL2:=G (show jw m=(jw (m.drop (j+n))).map fun x=>((b++[v])++x.1,(j+n)+x.2) by
      rw[HL.out,HST.out hn0,Option.map_map]
      congr 1
      funext x
      simp[eb])
     clear HT HL HBD HST hn0
     go_wp2_with (first
      |(go_at_call 181;refine(HEL.out _).mono ?_;rintro e w1 ⟨rfl,hE⟩;have HO1:=G (HO.out.ext (hE.alloc' (.cells #[.int .u8 (v.toNat:Int)] 5)));have HB1:=G (HB.out.ext (hE.alloc' (.cells #[.int .u8 (v.toNat:Int)] 5)));have HE1:=G (HX.out.trans (hE.alloc' (.cells #[.int .u8 (v.toNat:Int)] 5)));have hz1:=hE.size;clear hE hbc hbf)
      |(at_builtin;refine nD bt rfl _ _ rfl (w.heap.size+1) (.slice B b.length cap) b rfl HO1.out (some ⟨w1.heap.size,0,none⟩) 1 [v] rfl (Sl.one w1 v) (by simp;omega) (by simp;omega) ?_;intro A3 c3 w3 ho3 hg3 _;have HO3:=G ho3;have HG3:=G hg3;clear ho3 hg3))
     go_roundw
     case rel=>
      have hrow:=fun k hk=>(World.ownsRow.lt HO1.out k hk).1;have hx3:=HE1.out.grown HG3.out (fun k hk=>by have:=hrow k hk;omega);have hb3:=HB1.out.grown HG3.out (fun e=>by have:=hrow _ e.symm;omega);refine⟨A3,c3,b++[v],j+n,by rw[aa];rfl,?_,by go_num,by omega,by rw[aa];simp;omega,HL2,hb3,hx3⟩;rw[aa];exact HO3.out
     case measure=>simp[intOf];omega
  ·have hmj:m.drop j=[]:=aF (by omega);have HR:=G (show iY (c::m)= .error 3 by rw[HT.out,HL.out,hmj];rfl);have hlt': ¬(j:Int)+1<m.length+1:=by omega
   clear HT HL hmj;go_wp2_with fail;have hset:=(HB.out.put4 (.int .i64 0) (.string ⟨#[]⟩) (.int .i64 0) (.int .i64 0)).cell;exact bodyPost_ret (v:=cA (.error 3)) (by simp[results,results143,go_sem,cA,hset]) rfl ⟨by rw[HR.out],HX.out.put4 (ah _) _ _ _ _⟩
theorem qV (c:UInt8):0<=Lib.indexByte nX c↔nX.contains c=true:=by
 rcases ny c nX with⟨h1,h2⟩|⟨h1,h2⟩
 ·rw[h1,h2];simp
 ·rw[h2];simp[h1]
theorem qE (a b:UInt8) (l:List UInt8):([a,b]:List UInt8).isPrefixOf l=(l.take 2==[a,b]):=by
 match l with
 | []=>rfl
 | [c]=>simp[List.isPrefixOf]
 |c::d::r=>
  simp only[List.isPrefixOf,gq,List.take_succ_cons,List.take_zero];rw[show(a==c)=(c==a)from BEq.comm,show(b==d)=(d==b)from BEq.comm];simp
def gd (i:Nat) (l:List UInt8):Bool:=(two.getD i []).isPrefixOf l
theorem wz (l:List UInt8):two.contains (l.take 2)=(gd 0 l||gd 1 l||gd 2 l||gd 3 l||gd 4 l||gd 5 l):=by
 unfold gd two;simp only[List.getD_cons_zero,List.getD_cons_succ,qE,fK,List.contains_nil,kU,kV]
theorem xr {i:Nat} {l:List UInt8} (hi:i<6) (h:gd i l=true):l.take 2=two.getD i []:=by
 unfold gd two at h;unfold two;have hc:i=0\/i=1\/i=2\/i=3\/i=4\/i=5:=by omega
 rcases hc with rfl|rfl|rfl|rfl|rfl|rfl<;>(simp only[List.getD_cons_zero,List.getD_cons_succ,qE]at h⊢;exact beq_iff_eq.1 h)
end
section
open Go.RowKit
theorem jb {l:List UInt8} {i:Nat} {t:List UInt8} (hi:i<6) (ht:two.getD i []=t) (h:gd i l=true) (hc:two.contains (l.take 2)=true):iw l= .ok ((5,t,0),2):=by
 unfold iw;rw[if_pos hc,xr hi h,ht]
theorem xI (c:UInt8) (m:List UInt8) (hl:m.length<=100000) (w:World):Calls prog 144 #[.string (ai (c::m))] w fun e w'=>e= .returned (cA (iw (c::m)))/\aq w w':=by
 have hsz:(ai (c::m)).size=m.length+1:=by rw[a7];rfl
 have h0:0<(ai (c::m)).size:=by rw[hsz];omega
 have hg:(ai (c::m))[0]=c:=rfl;have hex:(ai (c::m)).extract 0 1=ai [c]:=by rw[eE];rfl
 have HW:=G (wz (c::m));have HPF:=G (fun w (p:List UInt8)=>nU (c::m) p w);have HIX:=G (fun w=>mC nX c w);go_enter func144,ntmps144;go_wp2_with fail
 go_loop [8] (fun vi=>(vi= .int .i64 0/\Hid (two.contains ((c::m).take 2)=(gd 0 (c::m)||gd 1 (c::m)||gd 2 (c::m)||gd 3 (c::m)||gd 4 (c::m)||gd 5 (c::m))))\/(vi= .int .i64 1/\Hid (two.contains ((c::m).take 2)=(gd 1 (c::m)||gd 2 (c::m)||gd 3 (c::m)||gd 4 (c::m)||gd 5 (c::m))))\/(vi= .int .i64 2/\Hid (two.contains ((c::m).take 2)=(gd 2 (c::m)||gd 3 (c::m)||gd 4 (c::m)||gd 5 (c::m))))\/(vi= .int .i64 3/\Hid (two.contains ((c::m).take 2)=(gd 3 (c::m)||gd 4 (c::m)||gd 5 (c::m))))\/(vi= .int .i64 4/\Hid (two.contains ((c::m).take 2)=(gd 4 (c::m)||gd 5 (c::m))))\/(vi= .int .i64 5/\Hid (two.contains ((c::m).take 2)=(gd 5 (c::m))))\/(vi= .int .i64 6/\Hid (two.contains ((c::m).take 2)=(false)))) (fun vi=>7-(intOf vi).toNat)
 case atStart=>exact .inl ⟨rfl,HW⟩
 case round=>
  rcases hrel with⟨rfl,HT⟩|⟨rfl,HT⟩|⟨rfl,HT⟩|⟨rfl,HT⟩|⟨rfl,HT⟩|⟨rfl,HT⟩|⟨rfl,HT⟩
  ·have hidx: ∀w:World,(Instr.index 264 (.agg #[.string ⟨#[61,61]⟩, .string ⟨#[33,61]⟩, .string ⟨#[60,61]⟩, .string ⟨#[62,61]⟩, .string ⟨#[38,38]⟩, .string ⟨#[124,124]⟩]) (.int .i64 0)).run prog w= .ok (.string ⟨#[61,61]⟩) w:=fun w=>by(show _=_;kernel_rfl)
   have HP:=G (fun w=>(show Calls prog 138 #[.string (ai (c::m)), .string ⟨#[61,61]⟩] w fun e w'=>e= .returned (.bool (gd 0 (c::m)))/\w=w' from HPF.out w [61,61]))
   cases hp:gd 0 (c::m)with
   |true=>
    have HR:=G (jb (i:=0) (t:=[61,61]) (by omega) rfl hp (by rw[HT.out,hp];simp));rw[hp]at HP;clear hp HT;go_wp2_with (go_at_call 138;refine(HP.out _).mono ?_;rintro e w' ⟨rfl,rfl⟩);exact bodyPost_ret (v:=cA (.ok ((5,[61,61],0),2))) (by simp[results,results144,go_sem,cA];rfl) rfl ⟨by rw[HR.out],O w _⟩
   |false=>
    have HN:=G (show two.contains ((c::m).take 2)=(gd 1 (c::m)||gd 2 (c::m)||gd 3 (c::m)||gd 4 (c::m)||gd 5 (c::m)) by rw[HT.out,hp];simp);rw[hp]at HP;clear hp HT;go_wp2_with (go_at_call 138;refine(HP.out _).mono ?_;rintro e w' ⟨rfl,rfl⟩)
    go_round
    case rel=>exact .inr (.inl ⟨rfl,HN⟩)
    case measure=>simp[intOf]
  ·have hidx: ∀w:World,(Instr.index 264 (.agg #[.string ⟨#[61,61]⟩, .string ⟨#[33,61]⟩, .string ⟨#[60,61]⟩, .string ⟨#[62,61]⟩, .string ⟨#[38,38]⟩, .string ⟨#[124,124]⟩]) (.int .i64 1)).run prog w= .ok (.string ⟨#[33,61]⟩) w:=fun w=>by(show _=_;kernel_rfl)
   have HP:=G (fun w=>(show Calls prog 138 #[.string (ai (c::m)), .string ⟨#[33,61]⟩] w fun e w'=>e= .returned (.bool (gd 1 (c::m)))/\w=w' from HPF.out w [33,61]))
   cases hp:gd 1 (c::m)with
   |true=>
    have HR:=G (jb (i:=1) (t:=[33,61]) (by omega) rfl hp (by rw[HT.out,hp];simp));rw[hp]at HP;clear hp HT;go_wp2_with (go_at_call 138;refine(HP.out _).mono ?_;rintro e w' ⟨rfl,rfl⟩);exact bodyPost_ret (v:=cA (.ok ((5,[33,61],0),2))) (by simp[results,results144,go_sem,cA];rfl) rfl ⟨by rw[HR.out],O w _⟩
   |false=>
    have HN:=G (show two.contains ((c::m).take 2)=(gd 2 (c::m)||gd 3 (c::m)||gd 4 (c::m)||gd 5 (c::m)) by rw[HT.out,hp];simp);rw[hp]at HP;clear hp HT;go_wp2_with (go_at_call 138;refine(HP.out _).mono ?_;rintro e w' ⟨rfl,rfl⟩)
    go_round
    case rel=>exact .inr (.inr (.inl ⟨rfl,HN⟩))
    case measure=>simp[intOf]
  ·have hidx: ∀w:World,(Instr.index 264 (.agg #[.string ⟨#[61,61]⟩, .string ⟨#[33,61]⟩, .string ⟨#[60,61]⟩, .string ⟨#[62,61]⟩, .string ⟨#[38,38]⟩, .string ⟨#[124,124]⟩]) (.int .i64 2)).run prog w= .ok (.string ⟨#[60,61]⟩) w:=fun w=>by(show _=_;kernel_rfl)
   have HP:=G (fun w=>(show Calls prog 138 #[.string (ai (c::m)), .string ⟨#[60,61]⟩] w fun e w'=>e= .returned (.bool (gd 2 (c::m)))/\w=w' from HPF.out w [60,61]))
   cases hp:gd 2 (c::m)with
   |true=>
    have HR:=G (jb (i:=2) (t:=[60,61]) (by omega) rfl hp (by rw[HT.out,hp];simp));rw[hp]at HP;clear hp HT;go_wp2_with (go_at_call 138;refine(HP.out _).mono ?_;rintro e w' ⟨rfl,rfl⟩);exact bodyPost_ret (v:=cA (.ok ((5,[60,61],0),2))) (by simp[results,results144,go_sem,cA];rfl) rfl ⟨by rw[HR.out],O w _⟩
   |false=>
    have HN:=G (show two.contains ((c::m).take 2)=(gd 3 (c::m)||gd 4 (c::m)||gd 5 (c::m)) by rw[HT.out,hp];simp);rw[hp]at HP;clear hp HT;go_wp2_with (go_at_call 138;refine(HP.out _).mono ?_;rintro e w' ⟨rfl,rfl⟩)
    go_round
    case rel=>exact .inr (.inr (.inr (.inl ⟨rfl,HN⟩)))
    case measure=>simp[intOf]
  ·have hidx: ∀w:World,(Instr.index 264 (.agg #[.string ⟨#[61,61]⟩, .string ⟨#[33,61]⟩, .string ⟨#[60,61]⟩, .string ⟨#[62,61]⟩, .string ⟨#[38,38]⟩, .string ⟨#[124,124]⟩]) (.int .i64 3)).run prog w= .ok (.string ⟨#[62,61]⟩) w:=fun w=>by(show _=_;kernel_rfl)
   have HP:=G (fun w=>(show Calls prog 138 #[.string (ai (c::m)), .string ⟨#[62,61]⟩] w fun e w'=>e= .returned (.bool (gd 3 (c::m)))/\w=w' from HPF.out w [62,61]))
   cases hp:gd 3 (c::m)with
   |true=>
    have HR:=G (jb (i:=3) (t:=[62,61]) (by omega) rfl hp (by rw[HT.out,hp];simp));rw[hp]at HP;clear hp HT;go_wp2_with (go_at_call 138;refine(HP.out _).mono ?_;rintro e w' ⟨rfl,rfl⟩);exact bodyPost_ret (v:=cA (.ok ((5,[62,61],0),2))) (by simp[results,results144,go_sem,cA];rfl) rfl ⟨by rw[HR.out],O w _⟩
   |false=>
    have HN:=G (show two.contains ((c::m).take 2)=(gd 4 (c::m)||gd 5 (c::m)) by rw[HT.out,hp];simp);rw[hp]at HP;clear hp HT;go_wp2_with (go_at_call 138;refine(HP.out _).mono ?_;rintro e w' ⟨rfl,rfl⟩)
    go_round
    case rel=>exact .inr (.inr (.inr (.inr (.inl ⟨rfl,HN⟩))))
    case measure=>simp[intOf]
  ·have hidx: ∀w:World,(Instr.index 264 (.agg #[.string ⟨#[61,61]⟩, .string ⟨#[33,61]⟩, .string ⟨#[60,61]⟩, .string ⟨#[62,61]⟩, .string ⟨#[38,38]⟩, .string ⟨#[124,124]⟩]) (.int .i64 4)).run prog w= .ok (.string ⟨#[38,38]⟩) w:=fun w=>by(show _=_;kernel_rfl)
   have HP:=G (fun w=>(show Calls prog 138 #[.string (ai (c::m)), .string ⟨#[38,38]⟩] w fun e w'=>e= .returned (.bool (gd 4 (c::m)))/\w=w' from HPF.out w [38,38]))
   cases hp:gd 4 (c::m)with
   |true=>
    have HR:=G (jb (i:=4) (t:=[38,38]) (by omega) rfl hp (by rw[HT.out,hp];simp));rw[hp]at HP;clear hp HT;go_wp2_with (go_at_call 138;refine(HP.out _).mono ?_;rintro e w' ⟨rfl,rfl⟩);exact bodyPost_ret (v:=cA (.ok ((5,[38,38],0),2))) (by simp[results,results144,go_sem,cA];rfl) rfl ⟨by rw[HR.out],O w _⟩
   |false=>
    have HN:=G (show two.contains ((c::m).take 2)=(gd 5 (c::m)) by rw[HT.out,hp];simp);rw[hp]at HP;clear hp HT;go_wp2_with (go_at_call 138;refine(HP.out _).mono ?_;rintro e w' ⟨rfl,rfl⟩)
    go_round
    case rel=>exact .inr (.inr (.inr (.inr (.inr (.inl ⟨rfl,HN⟩)))))
    case measure=>simp[intOf]
  ·have hidx: ∀w:World,(Instr.index 264 (.agg #[.string ⟨#[61,61]⟩, .string ⟨#[33,61]⟩, .string ⟨#[60,61]⟩, .string ⟨#[62,61]⟩, .string ⟨#[38,38]⟩, .string ⟨#[124,124]⟩]) (.int .i64 5)).run prog w= .ok (.string ⟨#[124,124]⟩) w:=fun w=>by(show _=_;kernel_rfl)
   have HP:=G (fun w=>(show Calls prog 138 #[.string (ai (c::m)), .string ⟨#[124,124]⟩] w fun e w'=>e= .returned (.bool (gd 5 (c::m)))/\w=w' from HPF.out w [124,124]))
   cases hp:gd 5 (c::m)with
   |true=>
    have HR:=G (jb (i:=5) (t:=[124,124]) (by omega) rfl hp (by rw[HT.out,hp]));rw[hp]at HP;clear hp HT;go_wp2_with (go_at_call 138;refine(HP.out _).mono ?_;rintro e w' ⟨rfl,rfl⟩);exact bodyPost_ret (v:=cA (.ok ((5,[124,124],0),2))) (by simp[results,results144,go_sem,cA];rfl) rfl ⟨by rw[HR.out],O w _⟩
   |false=>
    have HN:=G (show two.contains ((c::m).take 2)=(false) by rw[HT.out,hp]);rw[hp]at HP;clear hp HT;go_wp2_with (go_at_call 138;refine(HP.out _).mono ?_;rintro e w' ⟨rfl,rfl⟩)
    go_round
    case rel=>exact .inr (.inr (.inr (.inr (.inr (.inr (⟨rfl,HN⟩))))))
    case measure=>simp[intOf]
  ·have HI:=G (fun w=>(show Calls prog 137 #[.string ⟨#[40,41,123,125,91,93,44,59,61,43,45,42,47,37,60,62,33]⟩, .int .u8 (c.toNat:Int)] w fun e w'=>e= .returned (.int .i64 (Lib.indexByte nX c))/\w=w' from HIX.out w));by_cases h1:0<=Lib.indexByte nX c
   ·have HR:=G (show iw (c::m)= .ok ((5,[c],0),1) by
     unfold iw;rw[HT.out,if_neg (by simp),if_pos]
     ·rfl
     ·show(some c).any (fun c=>nX.contains c)=true
      simpa using(qV c).1 h1)
    generalize Lib.indexByte nX c=ix at*;clear HT;go_wp2_with (go_at_call 137;refine(HI.out _).mono ?_;rintro e w' ⟨rfl,rfl⟩);exact bodyPost_ret (v:=cA (.ok ((5,[c],0),1))) (by simp[results,results144,go_sem,cA]) rfl ⟨by rw[HR.out],O w _⟩
   ·have HR:=G (show iw (c::m)= .error 3 by
     unfold iw;rw[HT.out,if_neg (by simp),if_neg];show ¬(some c).any (fun c=>nX.contains c)=true;intro h
     exact h1 ((qV c).2 (by simpa using h)))
    generalize Lib.indexByte nX c=ix at*;clear HT;go_wp2_with (go_at_call 137;refine(HI.out _).mono ?_;rintro e w' ⟨rfl,rfl⟩);exact bodyPost_ret (v:=cA (.error 3)) (by simp[results,results144,go_sem,cA]) rfl ⟨by rw[HR.out],O w _⟩
def EZ (w:World):Prop:=(∃ev,w.cell? ⟨4,0,none⟩=some ev/\(ev= .nilIface\/ ∃te pe,ev= .iface te pe))/\(∃ev,w.cell? ⟨5,0,none⟩=some ev/\(ev= .nilIface\/ ∃te pe,ev= .iface te pe))
theorem EZ.ext {w w':World} (h:EZ w) (he:aq w w'):EZ w':=by
 obtain⟨⟨a,a1,a2⟩,b,b1,b2⟩:=h;exact⟨⟨a,(he.cell _ _ (World.block_lt_of_cell? _ _ a1)).trans a1,a2⟩,b,(he.cell _ _ (World.block_lt_of_cell? _ _ b1)).trans b1,b2⟩
theorem o5 (p:UInt8->Bool): ∀l:List UInt8,∀c∈l.take (bZ p l),p c=true
 | [],c,h=>by simp at h
 |x::l,c,h=>by
  simp only[bZ]at h;split at h
  ·rename_i hx;rw[List.take_succ_cons]at h;rcases List.mem_cons.1 h with rfl|h
   ·exact hx
   ·exact o5 p l c h
  ·simp at h
def rH (acc:Nat) (l:List UInt8):Nat:=l.foldl (fun v c=>v*10+(c.toNat-48)) acc
theorem um: ∀(l:List UInt8) (acc:Nat),acc<=rH acc l
 | [],acc=>ah _
 |c::l,acc=>by
  have:=um l (acc*10+(c.toNat-48));show acc<=rH (acc*10+(c.toNat-48)) l;omega
theorem mR: ∀(l:List UInt8) (acc:Nat),(∀c∈l,eJ c=true)->Lib.parseUint10 acc l= .ok (rH acc l)\/(Lib.parseUint10 acc l= .range/\18446744073709551616<=rH acc l)
 | [],acc,_=> .inl rfl
 |c::l,acc,h=>by
  have hc:48<=c.toNat/\c.toNat<=57:=by have:=h c (fJ ..);unfold eJ at this;simpa using this
  have hg:=um l (acc*10+(c.toNat-48));have he:rH acc (c::l)=rH (acc*10+(c.toNat-48)) l:=rfl;simp only[Lib.parseUint10];rw[if_pos hc,he];split
  ·exact .inr ⟨rfl,by omega⟩
  ·split
   ·exact .inr ⟨rfl,by omega⟩
   ·exact mR l _ fun d hd=>h d (gu _ hd)
theorem rQ {l:List UInt8} (hne:l≠ []) (h: ∀c∈l,eJ c=true):(Lib.atoiAll l= .ok (l6 l:Int))\/(Lib.atoiAll l= .range/\Lib.atoiSat l=9223372036854775807/\9223372036854775808<=l6 l):=by
 match l with
 | []=>exact absurd rfl hne
 |c::r=>
  have hc:48<=c.toNat/\c.toNat<=57:=by have:=h c (fJ ..);unfold eJ at this;simpa using this
  have h45: ¬c.toNat=45:=by omega
  have h43: ¬(c.toNat=43\/c.toNat=45):=by omega
  have hd:l6 (c::r)=rH 0 (c::r):=rfl;have hsat:Lib.atoiSat (c::r)=9223372036854775807:=by
   unfold Lib.atoiSat;rw[if_neg (by simp;omega)]
  have hm:Lib.parseMag (c::r)=Lib.parseUint10 0 (c::r):=by unfold Lib.parseMag;rw[if_neg (by simp)]
  rcases mR (c::r) 0 h with h1|⟨h1,h2⟩
  ·by_cases hb:9223372036854775808<=rH 0 (c::r)
   ·refine .inr ⟨?_,hsat,by rw[hd];exact hb⟩;simp only[Lib.atoiAll];rw[if_neg h43,hm,h1];simp only;rw[if_pos ⟨h45,hb⟩]
   ·refine .inl ?_;simp only[Lib.atoiAll];rw[if_neg h43,hm,h1];simp only;rw[if_neg (by omega),if_neg (by omega),if_neg h45,hd]
  ·refine .inr ⟨?_,hsat,by rw[hd];omega⟩;simp only[Lib.atoiAll];rw[if_neg h43,hm,h1]
theorem yL (l:List UInt8) (hne:l≠ []) (hl:l.length<=100000) (h: ∀c∈l,eJ c=true) (w:World) (hz:EZ w):
  ∃v:Int,(v=l6 l\/(v=9223372036854775807/\9223372036854775808<=l6 l))/\Calls prog 180 #[.string (ai l)] w fun e w'=>(∃er,e= .returned (.tuple #[.int .i64 v,er]))/\aq w w':=by
 rcases rQ hne h with h1|⟨h1,h2,h3⟩
 ·refine⟨l6 l, .inl rfl,?_⟩;refine(Tryz.strconv_Atoi_ok (ai l) (by rw[a7];omega) (l6 l) (by rw[gX];exact h1) w).mono ?_;rintro e w' ⟨rfl,h⟩;refine⟨⟨_,rfl⟩,?_⟩;rcases h with rfl|⟨t,rfl⟩
  ·exact aR _
  ·exact Lib.bytesWorld_below _ _ _
 ·refine⟨9223372036854775807, .inr ⟨rfl,h3⟩,?_⟩;obtain⟨ev,q1,q2⟩:=hz.2;refine(Tryz.strconv_Atoi_range (ai l) (by rw[a7];omega) (by rw[gX];exact h1) ev w q1 q2).mono ?_;rintro e w' ⟨N,rfl,_,_,hb⟩;rw[gX,h2];exact⟨⟨_,rfl⟩,hb⟩
end
section
open Go.RowKit
theorem xC (c:UInt8) (m:List UInt8) {n:Nat} {x:List UInt8} (hn:bZ eJ (c::m)=n) (hx:(c::m).take n=x):g_ (c::m)=if((c::m).drop n).head?.any eT then .error 3 else if 10<n\/(1<n/\c=48)\/2147483647<l6 x then .error 2 else .ok ((3,[],l6 x),n):=by
 subst hn;subst hx;unfold g_;simp
theorem zQ (c:UInt8) (m:List UInt8) {n:Nat} (hle:n<=m.length+1) (hlt: ¬n<m.length+1):((c::m).drop n).head?.any eT=false:=by
 rw[aF (by simp;omega)];rfl
theorem BW (c:UInt8) (m:List UInt8) {n:Nat} (hlt:n<(c::m).length):((c::m).drop n).head?.any eT=eT (c::m)[n]:=by
 rw[mE _ _ hlt];rfl
theorem sN (c:UInt8) (m:List UInt8) (hc:eJ c=true) (hl:(c::m).length<=100000) (w:World) (hz:EZ w):Calls prog 141 #[.string (ai (c::m))] w fun e w'=>e= .returned (cA (g_ (c::m)))/\aq w w':=by
 have hsz:(ai (c::m)).size=m.length+1:=by rw[a7];rfl
 have h0:0<(ai (c::m)).size:=by rw[hsz];omega
 have hg0:(ai (c::m))[0]=c:=rfl;have hl1:m.length<=99999:=by simpa using hl
 have hle:bZ eJ (c::m)<=m.length+1:=gY eJ (c::m);have hn1:1<=bZ eJ (c::m):=by simp[bZ,hc]
 have hall:=o5 eJ (c::m);have hex:=eE (c::m) 0 (bZ eJ (c::m));simp only[ap]at hex;have HSP:=G (fun w=>qM eJ 140 mH (.inr rfl) (c::m) hl w);have HTX:=fun x h=>G (xC c m (n:=bZ eJ (c::m)) (x:=x) rfl h);have HX0:=G (O w (.cells #[.int .i64 0, .string ⟨#[]⟩, .int .i64 0, .int .i64 0] 206));have HB0:=G (an w 206 #[.int .i64 0, .string ⟨#[]⟩, .int .i64 0, .int .i64 0]);have hxne:(c::m).take (bZ eJ (c::m))≠ []:=by intro h;have:=congrArg List.length h;simp at this;omega
 have hxl:((c::m).take (bZ eJ (c::m))).length<=100000:=by have:=List.length_take_le' (bZ eJ (c::m)) (c::m);omega
 obtain⟨v,hv,HA⟩:=yL ((c::m).take (bZ eJ (c::m))) hxne hxl hall _ (hz.ext HX0.out);have HA:=G HA;have HT:=HTX _ rfl;clear HTX;generalize hn:bZ eJ (c::m)=n at*;generalize hx:(c::m).take n=x at*;clear hn hxne hall hxl hx;have hvr:v<=2147483647->v=l6 x:=by omega
 have hvg:2147483647<v->2147483647<l6 x:=by omega
 have hv1:v<=2147483647-> ¬2147483647<l6 x:=by omega
 clear hv;by_cases hlt:n<m.length+1
 ·have hns:n<(ai (c::m)).size:=by rw[hsz];exact hlt
  have hg:(ai (c::m))[n]=(c::m)[n]'hlt:=rfl;have hH:=BW c m (n:=n) hlt;have HPT:=G (lP ((c::m)[n]'hlt));have hlt':(n:Int)<m.length+1:=by omega
  generalize (c::m)[n]'hlt=d at*
  cases hp:eT d with
  |true=>
   rw[hp]at HPT hH;have HR:=G (show g_ (c::m)= .error 3 by rw[HT.out,hH,if_pos rfl]);clear hH hp;clear HT hc hvr hvg hv1;go_enter func141,ntmps141
   go_wp2_with (first
    |(go_at_call 179;refine(HSP.out _).mono ?_;rintro e w' ⟨rfl,rfl⟩)
    |(go_at_call 180;refine HA.out.mono ?_;rintro e w1 ⟨⟨er,rfl⟩,hE⟩;have HB:=G (HB0.out.ext hE);have HX:=G (HX0.out.trans hE);clear hE;have hbc:=HB.out.cell;have hbf:=HB.out.frozen)
    |(go_at_call 107;refine(HPT.out _).mono ?_;rintro e w' ⟨rfl,rfl⟩))
   have hset:=(HB.out.put4 (.int .i64 0) (.string ⟨#[]⟩) (.int .i64 0) (.int .i64 0)).cell;exact bodyPost_ret (v:=cA (.error 3)) (by simp[results,results141,go_sem,cA,hset]) rfl ⟨by rw[HR.out],HX.out.put4 (ah _) _ _ _ _⟩
  |false=>
   rw[hp]at HPT hH;clear hp;by_cases hA:10<n
   ·have hA':(10:Int)<n:=by omega
    have HR:=G (show g_ (c::m)= .error 2 by rw[HT.out,hH,if_neg (by simp),if_pos (.inl hA)]);clear hH;clear HT hc hvr hvg hv1;go_enter func141,ntmps141
    go_wp2_with (first
     |(go_at_call 179;refine(HSP.out _).mono ?_;rintro e w' ⟨rfl,rfl⟩)
     |(go_at_call 180;refine HA.out.mono ?_;rintro e w1 ⟨⟨er,rfl⟩,hE⟩;have HB:=G (HB0.out.ext hE);have HX:=G (HX0.out.trans hE);clear hE;have hbc:=HB.out.cell;have hbf:=HB.out.frozen)
     |(go_at_call 107;refine(HPT.out _).mono ?_;rintro e w' ⟨rfl,rfl⟩))
    have hset:=(HB.out.put4 (.int .i64 0) (.string ⟨#[]⟩) (.int .i64 0) (.int .i64 0)).cell;exact bodyPost_ret (v:=cA (.error 2)) (by simp[results,results141,go_sem,cA,hset]) rfl ⟨by rw[HR.out],HX.out.put4 (ah _) _ _ _ _⟩
   ·have hA': ¬(10:Int)<n:=by omega
    by_cases hB:1<n
    ·have hB':(1:Int)<n:=by omega
     by_cases hC:c=48
     ·have hC':((c.toNat:Int)==48)=true:=by rw[hC];rfl
      have HR:=G (show g_ (c::m)= .error 2 by rw[HT.out,hH,if_neg (by simp),if_pos (.inr (.inl ⟨hB,hC⟩))]);clear hH hC;clear HT hc hvr hvg hv1;go_enter func141,ntmps141
      go_wp2_with (first
       |(go_at_call 179;refine(HSP.out _).mono ?_;rintro e w' ⟨rfl,rfl⟩)
       |(go_at_call 180;refine HA.out.mono ?_;rintro e w1 ⟨⟨er,rfl⟩,hE⟩;have HB:=G (HB0.out.ext hE);have HX:=G (HX0.out.trans hE);clear hE;have hbc:=HB.out.cell;have hbf:=HB.out.frozen)
       |(go_at_call 107;refine(HPT.out _).mono ?_;rintro e w' ⟨rfl,rfl⟩))
      have hset:=(HB.out.put4 (.int .i64 0) (.string ⟨#[]⟩) (.int .i64 0) (.int .i64 0)).cell;exact bodyPost_ret (v:=cA (.error 2)) (by simp[results,results141,go_sem,cA,hset]) rfl ⟨by rw[HR.out],HX.out.put4 (ah _) _ _ _ _⟩
     ·have hC':((c.toNat:Int)==48)=false:=(dH c 48 (by omega)).trans (beq_eq_false_iff_ne.2 hC);by_cases hV:2147483647<v
      ·have HR:=G (show g_ (c::m)= .error 2 by rw[HT.out,hH,if_neg (by simp),if_pos (.inr (.inr (hvg hV)))]);clear hH;clear hC;clear HT hc hvr hvg hv1;go_enter func141,ntmps141
       go_wp2_with (first
        |(go_at_call 179;refine(HSP.out _).mono ?_;rintro e w' ⟨rfl,rfl⟩)
        |(go_at_call 180;refine HA.out.mono ?_;rintro e w1 ⟨⟨er,rfl⟩,hE⟩;have HB:=G (HB0.out.ext hE);have HX:=G (HX0.out.trans hE);clear hE;have hbc:=HB.out.cell;have hbf:=HB.out.frozen)
        |(go_at_call 107;refine(HPT.out _).mono ?_;rintro e w' ⟨rfl,rfl⟩))
       have hset:=(HB.out.put4 (.int .i64 0) (.string ⟨#[]⟩) (.int .i64 0) (.int .i64 0)).cell;exact bodyPost_ret (v:=cA (.error 2)) (by simp[results,results141,go_sem,cA,hset]) rfl ⟨by rw[HR.out],HX.out.put4 (ah _) _ _ _ _⟩
      ·have HR:=G (show g_ (c::m)= .ok ((3,[],v),n) by rw[HT.out,hH,if_neg (by simp),if_neg (by rintro(h|h|h);exact hA h;exact(fun h:1<n/\c=48=>hC h.2) h;exact hv1 (by omega) h),hvr (by omega)]);clear hH;clear hC;clear HT hc hvr hvg hv1;go_enter func141,ntmps141
       go_wp2_with (first
        |(go_at_call 179;refine(HSP.out _).mono ?_;rintro e w' ⟨rfl,rfl⟩)
        |(go_at_call 180;refine HA.out.mono ?_;rintro e w1 ⟨⟨er,rfl⟩,hE⟩;have HB:=G (HB0.out.ext hE);have HX:=G (HX0.out.trans hE);clear hE;have hbc:=HB.out.cell;have hbf:=HB.out.frozen)
        |(go_at_call 107;refine(HPT.out _).mono ?_;rintro e w' ⟨rfl,rfl⟩))
       have hset:=(HB.out.put4 (.int .i64 3) (.string ⟨#[]⟩) (.int .i64 v) (.int .i64 0)).cell;exact bodyPost_ret (v:=cA (.ok ((3,[],v),n))) (by simp[results,results141,go_sem,cA,hset];rfl) rfl ⟨by rw[HR.out],HX.out.put4 (ah _) _ _ _ _⟩
    ·have hB': ¬(1:Int)<n:=by omega
     by_cases hV:2147483647<v
     ·have HR:=G (show g_ (c::m)= .error 2 by rw[HT.out,hH,if_neg (by simp),if_pos (.inr (.inr (hvg hV)))]);clear hH;clear HT hc hvr hvg hv1;go_enter func141,ntmps141
      go_wp2_with (first
       |(go_at_call 179;refine(HSP.out _).mono ?_;rintro e w' ⟨rfl,rfl⟩)
       |(go_at_call 180;refine HA.out.mono ?_;rintro e w1 ⟨⟨er,rfl⟩,hE⟩;have HB:=G (HB0.out.ext hE);have HX:=G (HX0.out.trans hE);clear hE;have hbc:=HB.out.cell;have hbf:=HB.out.frozen)
       |(go_at_call 107;refine(HPT.out _).mono ?_;rintro e w' ⟨rfl,rfl⟩))
      have hset:=(HB.out.put4 (.int .i64 0) (.string ⟨#[]⟩) (.int .i64 0) (.int .i64 0)).cell;exact bodyPost_ret (v:=cA (.error 2)) (by simp[results,results141,go_sem,cA,hset]) rfl ⟨by rw[HR.out],HX.out.put4 (ah _) _ _ _ _⟩
     ·have HR:=G (show g_ (c::m)= .ok ((3,[],v),n) by rw[HT.out,hH,if_neg (by simp),if_neg (by rintro(h|h|h);exact hA h;exact(fun h:1<n/\c=48=>hB h.1) h;exact hv1 (by omega) h),hvr (by omega)]);clear hH;clear HT hc hvr hvg hv1;go_enter func141,ntmps141
      go_wp2_with (first
       |(go_at_call 179;refine(HSP.out _).mono ?_;rintro e w' ⟨rfl,rfl⟩)
       |(go_at_call 180;refine HA.out.mono ?_;rintro e w1 ⟨⟨er,rfl⟩,hE⟩;have HB:=G (HB0.out.ext hE);have HX:=G (HX0.out.trans hE);clear hE;have hbc:=HB.out.cell;have hbf:=HB.out.frozen)
       |(go_at_call 107;refine(HPT.out _).mono ?_;rintro e w' ⟨rfl,rfl⟩))
      have hset:=(HB.out.put4 (.int .i64 3) (.string ⟨#[]⟩) (.int .i64 v) (.int .i64 0)).cell;exact bodyPost_ret (v:=cA (.ok ((3,[],v),n))) (by simp[results,results141,go_sem,cA,hset];rfl) rfl ⟨by rw[HR.out],HX.out.put4 (ah _) _ _ _ _⟩
 ·have hlt': ¬(n:Int)<m.length+1:=by omega
  have hH:=zQ c m hle hlt;have HPT:=G (lP 0);by_cases hA:10<n
  ·have hA':(10:Int)<n:=by omega
   have HR:=G (show g_ (c::m)= .error 2 by rw[HT.out,hH,if_neg (by simp),if_pos (.inl hA)]);clear hH;clear HT hc hvr hvg hv1;go_enter func141,ntmps141
   go_wp2_with (first
    |(go_at_call 179;refine(HSP.out _).mono ?_;rintro e w' ⟨rfl,rfl⟩)
    |(go_at_call 180;refine HA.out.mono ?_;rintro e w1 ⟨⟨er,rfl⟩,hE⟩;have HB:=G (HB0.out.ext hE);have HX:=G (HX0.out.trans hE);clear hE;have hbc:=HB.out.cell;have hbf:=HB.out.frozen)
    |(go_at_call 107;refine(HPT.out _).mono ?_;rintro e w' ⟨rfl,rfl⟩))
   have hset:=(HB.out.put4 (.int .i64 0) (.string ⟨#[]⟩) (.int .i64 0) (.int .i64 0)).cell;exact bodyPost_ret (v:=cA (.error 2)) (by simp[results,results141,go_sem,cA,hset]) rfl ⟨by rw[HR.out],HX.out.put4 (ah _) _ _ _ _⟩
  ·have hA': ¬(10:Int)<n:=by omega
   by_cases hB:1<n
   ·have hB':(1:Int)<n:=by omega
    by_cases hC:c=48
    ·have hC':((c.toNat:Int)==48)=true:=by rw[hC];rfl
     have HR:=G (show g_ (c::m)= .error 2 by rw[HT.out,hH,if_neg (by simp),if_pos (.inr (.inl ⟨hB,hC⟩))]);clear hH hC;clear HT hc hvr hvg hv1;go_enter func141,ntmps141
     go_wp2_with (first
      |(go_at_call 179;refine(HSP.out _).mono ?_;rintro e w' ⟨rfl,rfl⟩)
      |(go_at_call 180;refine HA.out.mono ?_;rintro e w1 ⟨⟨er,rfl⟩,hE⟩;have HB:=G (HB0.out.ext hE);have HX:=G (HX0.out.trans hE);clear hE;have hbc:=HB.out.cell;have hbf:=HB.out.frozen)
      |(go_at_call 107;refine(HPT.out _).mono ?_;rintro e w' ⟨rfl,rfl⟩))
     have hset:=(HB.out.put4 (.int .i64 0) (.string ⟨#[]⟩) (.int .i64 0) (.int .i64 0)).cell;exact bodyPost_ret (v:=cA (.error 2)) (by simp[results,results141,go_sem,cA,hset]) rfl ⟨by rw[HR.out],HX.out.put4 (ah _) _ _ _ _⟩
    ·have hC':((c.toNat:Int)==48)=false:=(dH c 48 (by omega)).trans (beq_eq_false_iff_ne.2 hC);by_cases hV:2147483647<v
     ·have HR:=G (show g_ (c::m)= .error 2 by rw[HT.out,hH,if_neg (by simp),if_pos (.inr (.inr (hvg hV)))]);clear hH;clear hC;clear HT hc hvr hvg hv1;go_enter func141,ntmps141
      go_wp2_with (first
       |(go_at_call 179;refine(HSP.out _).mono ?_;rintro e w' ⟨rfl,rfl⟩)
       |(go_at_call 180;refine HA.out.mono ?_;rintro e w1 ⟨⟨er,rfl⟩,hE⟩;have HB:=G (HB0.out.ext hE);have HX:=G (HX0.out.trans hE);clear hE;have hbc:=HB.out.cell;have hbf:=HB.out.frozen)
       |(go_at_call 107;refine(HPT.out _).mono ?_;rintro e w' ⟨rfl,rfl⟩))
      have hset:=(HB.out.put4 (.int .i64 0) (.string ⟨#[]⟩) (.int .i64 0) (.int .i64 0)).cell;exact bodyPost_ret (v:=cA (.error 2)) (by simp[results,results141,go_sem,cA,hset]) rfl ⟨by rw[HR.out],HX.out.put4 (ah _) _ _ _ _⟩
     ·have HR:=G (show g_ (c::m)= .ok ((3,[],v),n) by rw[HT.out,hH,if_neg (by simp),if_neg (by rintro(h|h|h);exact hA h;exact(fun h:1<n/\c=48=>hC h.2) h;exact hv1 (by omega) h),hvr (by omega)]);clear hH;clear hC;clear HT hc hvr hvg hv1;go_enter func141,ntmps141
      go_wp2_with (first
       |(go_at_call 179;refine(HSP.out _).mono ?_;rintro e w' ⟨rfl,rfl⟩)
       |(go_at_call 180;refine HA.out.mono ?_;rintro e w1 ⟨⟨er,rfl⟩,hE⟩;have HB:=G (HB0.out.ext hE);have HX:=G (HX0.out.trans hE);clear hE;have hbc:=HB.out.cell;have hbf:=HB.out.frozen)
       |(go_at_call 107;refine(HPT.out _).mono ?_;rintro e w' ⟨rfl,rfl⟩))
      have hset:=(HB.out.put4 (.int .i64 3) (.string ⟨#[]⟩) (.int .i64 v) (.int .i64 0)).cell;exact bodyPost_ret (v:=cA (.ok ((3,[],v),n))) (by simp[results,results141,go_sem,cA,hset];rfl) rfl ⟨by rw[HR.out],HX.out.put4 (ah _) _ _ _ _⟩
   ·have hB': ¬(1:Int)<n:=by omega
    by_cases hV:2147483647<v
    ·have HR:=G (show g_ (c::m)= .error 2 by rw[HT.out,hH,if_neg (by simp),if_pos (.inr (.inr (hvg hV)))]);clear hH;clear HT hc hvr hvg hv1;go_enter func141,ntmps141
     go_wp2_with (first
      |(go_at_call 179;refine(HSP.out _).mono ?_;rintro e w' ⟨rfl,rfl⟩)
      |(go_at_call 180;refine HA.out.mono ?_;rintro e w1 ⟨⟨er,rfl⟩,hE⟩;have HB:=G (HB0.out.ext hE);have HX:=G (HX0.out.trans hE);clear hE;have hbc:=HB.out.cell;have hbf:=HB.out.frozen)
      |(go_at_call 107;refine(HPT.out _).mono ?_;rintro e w' ⟨rfl,rfl⟩))
     have hset:=(HB.out.put4 (.int .i64 0) (.string ⟨#[]⟩) (.int .i64 0) (.int .i64 0)).cell;exact bodyPost_ret (v:=cA (.error 2)) (by simp[results,results141,go_sem,cA,hset]) rfl ⟨by rw[HR.out],HX.out.put4 (ah _) _ _ _ _⟩
    ·have HR:=G (show g_ (c::m)= .ok ((3,[],v),n) by rw[HT.out,hH,if_neg (by simp),if_neg (by rintro(h|h|h);exact hA h;exact(fun h:1<n/\c=48=>hB h.1) h;exact hv1 (by omega) h),hvr (by omega)]);clear hH;clear HT hc hvr hvg hv1;go_enter func141,ntmps141
     go_wp2_with (first
      |(go_at_call 179;refine(HSP.out _).mono ?_;rintro e w' ⟨rfl,rfl⟩)
      |(go_at_call 180;refine HA.out.mono ?_;rintro e w1 ⟨⟨er,rfl⟩,hE⟩;have HB:=G (HB0.out.ext hE);have HX:=G (HX0.out.trans hE);clear hE;have hbc:=HB.out.cell;have hbf:=HB.out.frozen)
      |(go_at_call 107;refine(HPT.out _).mono ?_;rintro e w' ⟨rfl,rfl⟩))
     have hset:=(HB.out.put4 (.int .i64 3) (.string ⟨#[]⟩) (.int .i64 v) (.int .i64 0)).cell;exact bodyPost_ret (v:=cA (.ok ((3,[],v),n))) (by simp[results,results141,go_sem,cA,hset];rfl) rfl ⟨by rw[HR.out],HX.out.put4 (ah _) _ _ _ _⟩
theorem gW (r:rS): ∃k s v n e,cA r= .tuple #[.agg #[.int .i64 k, .string s, .int .i64 v, .int .i64 0], .int .i64 n, .int .i64 e]:=by
 cases r with
 |ok x=>exact⟨_,_,_,_,_,rfl⟩
 |error e=>exact⟨_,_,_,_,_,rfl⟩
theorem wG (c:UInt8) (m:List UInt8):j5 (c::m)=if kN c then jI (c::m)else if eJ c then g_ (c::m)else if c=39 then iJ (c::m)else if c=34 then iY (c::m)else iw (c::m):=rfl
theorem uK (c:UInt8) (m:List UInt8) (hl:(c::m).length<=100000) (w:World) (hz:EZ w):Calls prog 97 #[.string (ai (c::m))] w fun e w'=>e= .returned (cA (j5 (c::m)))/\aq w w':=by
 have hsz:(ai (c::m)).size=m.length+1:=by rw[a7];rfl
 have h0:0<(ai (c::m)).size:=by rw[hsz];omega
 have hg0:(ai (c::m))[0]=c:=rfl;have hl1:m.length<=99999:=by simpa using hl
 have HL:=G (lq c);have HD:=G (mH c);have HX0:=G (O w (.cells #[.int .i64 0, .string ⟨#[]⟩, .int .i64 0, .int .i64 0] 206));have HB0:=G (an w 206 #[.int .i64 0, .string ⟨#[]⟩, .int .i64 0, .int .i64 0]);have HT:=G (wG c m)
 cases hL:kN c with
 |true=>
  rw[hL]at HL;have HR:=G (show j5 (c::m)=jI (c::m) by rw[HT.out,hL,if_pos rfl]);obtain⟨k,s,v,n,e,hr⟩:=gW (jI (c::m));have HF:=G (wu (c::m) hl (w.alloc (.cells #[.int .i64 0, .string ⟨#[]⟩, .int .i64 0, .int .i64 0] 206)));rw[hr]at HF;have HV:=G hr;clear hL HT hr hz;go_enter func97,ntmps97
  go_wp2_with (first
   |(go_at_call 108;refine(HL.out _).mono ?_;rintro e' w' ⟨rfl,rfl⟩)
   |(go_at_call 140;refine(HD.out _).mono ?_;rintro e' w' ⟨rfl,rfl⟩)
   |(go_at_call 139;refine HF.out.mono ?_;rintro e' w1 ⟨rfl,hE⟩;have HB:=G (HB0.out.ext hE);have HX:=G (HX0.out.trans hE);clear hE;have hbc:=HB.out.cell;have hbf:=HB.out.frozen))
  have hset:=(HB.out.put4 (.int .i64 k) (.string s) (.int .i64 v) (.int .i64 0)).cell;exact bodyPost_ret (v:= .tuple #[.agg #[.int .i64 k, .string s, .int .i64 v, .int .i64 0], .int .i64 n, .int .i64 e]) (by simp[results,results97,go_sem,hset]) rfl ⟨by rw[HR.out,HV.out],HX.out.put4 (ah _) _ _ _ _⟩
 |false=>
  rw[hL]at HL
  cases hD:eJ c with
  |true=>
   rw[hD]at HD;have HR:=G (show j5 (c::m)=g_ (c::m) by rw[HT.out,hL,if_neg (by simp),hD,if_pos rfl]);obtain⟨k,s,v,n,e,hr⟩:=gW (g_ (c::m));have HF:=G (sN c m hD hl (w.alloc (.cells #[.int .i64 0, .string ⟨#[]⟩, .int .i64 0, .int .i64 0] 206)) (hz.ext HX0.out));rw[hr]at HF;have HV:=G hr;clear hL hD HT hr hz;go_enter func97,ntmps97
   go_wp2_with (first
    |(go_at_call 108;refine(HL.out _).mono ?_;rintro e' w' ⟨rfl,rfl⟩)
    |(go_at_call 140;refine(HD.out _).mono ?_;rintro e' w' ⟨rfl,rfl⟩)
    |(go_at_call 141;refine HF.out.mono ?_;rintro e' w1 ⟨rfl,hE⟩;have HB:=G (HB0.out.ext hE);have HX:=G (HX0.out.trans hE);clear hE;have hbc:=HB.out.cell;have hbf:=HB.out.frozen))
   have hset:=(HB.out.put4 (.int .i64 k) (.string s) (.int .i64 v) (.int .i64 0)).cell;exact bodyPost_ret (v:= .tuple #[.agg #[.int .i64 k, .string s, .int .i64 v, .int .i64 0], .int .i64 n, .int .i64 e]) (by simp[results,results97,go_sem,hset]) rfl ⟨by rw[HR.out,HV.out],HX.out.put4 (ah _) _ _ _ _⟩
  |false=>
   rw[hD]at HD;by_cases h39:c=39
   ·have HR:=G (show j5 (c::m)=iJ (c::m) by rw[HT.out,hL,if_neg (by simp),hD,if_neg (by simp),if_pos h39]);obtain⟨k,s,v,n,e,hr⟩:=gW (iJ (c::m));have HF:=G (yA c m (by omega) (w.alloc (.cells #[.int .i64 0, .string ⟨#[]⟩, .int .i64 0, .int .i64 0] 206)));rw[hr]at HF;have HV:=G hr;have hb39:((c.toNat:Int)==39)=true:=by rw[h39];rfl
    clear hL hD HT hr hz h39;go_enter func97,ntmps97
    go_wp2_with (first
     |(go_at_call 108;refine(HL.out _).mono ?_;rintro e' w' ⟨rfl,rfl⟩)
     |(go_at_call 140;refine(HD.out _).mono ?_;rintro e' w' ⟨rfl,rfl⟩)
     |(go_at_call 142;refine HF.out.mono ?_;rintro e' w1 ⟨rfl,hE⟩;have HB:=G (HB0.out.ext hE);have HX:=G (HX0.out.trans hE);clear hE;have hbc:=HB.out.cell;have hbf:=HB.out.frozen))
    have hset:=(HB.out.put4 (.int .i64 k) (.string s) (.int .i64 v) (.int .i64 0)).cell;exact bodyPost_ret (v:= .tuple #[.agg #[.int .i64 k, .string s, .int .i64 v, .int .i64 0], .int .i64 n, .int .i64 e]) (by simp[results,results97,go_sem,hset]) rfl ⟨by rw[HR.out,HV.out],HX.out.put4 (ah _) _ _ _ _⟩
   ·have hb39:((c.toNat:Int)==39)=false:=(dH c 39 (by omega)).trans (beq_eq_false_iff_ne.2 h39);by_cases h34:c=34
    ·have HR:=G (show j5 (c::m)=iY (c::m) by rw[HT.out,hL,if_neg (by simp),hD,if_neg (by simp),if_neg h39,if_pos h34]);obtain⟨k,s,v,n,e,hr⟩:=gW (iY (c::m));have HF:=G (wJ c m (by omega) (w.alloc (.cells #[.int .i64 0, .string ⟨#[]⟩, .int .i64 0, .int .i64 0] 206)));rw[hr]at HF;have HV:=G hr;have hb34:((c.toNat:Int)==34)=true:=by rw[h34];rfl
     clear hL hD HT hr hz h39 h34;go_enter func97,ntmps97
     go_wp2_with (first
      |(go_at_call 108;refine(HL.out _).mono ?_;rintro e' w' ⟨rfl,rfl⟩)
      |(go_at_call 140;refine(HD.out _).mono ?_;rintro e' w' ⟨rfl,rfl⟩)
      |(go_at_call 143;refine HF.out.mono ?_;rintro e' w1 ⟨rfl,hE⟩;have HB:=G (HB0.out.ext hE);have HX:=G (HX0.out.trans hE);clear hE;have hbc:=HB.out.cell;have hbf:=HB.out.frozen))
     have hset:=(HB.out.put4 (.int .i64 k) (.string s) (.int .i64 v) (.int .i64 0)).cell;exact bodyPost_ret (v:= .tuple #[.agg #[.int .i64 k, .string s, .int .i64 v, .int .i64 0], .int .i64 n, .int .i64 e]) (by simp[results,results97,go_sem,hset]) rfl ⟨by rw[HR.out,HV.out],HX.out.put4 (ah _) _ _ _ _⟩
    ·have HR:=G (show j5 (c::m)=iw (c::m) by rw[HT.out,hL,if_neg (by simp),hD,if_neg (by simp),if_neg h39,if_neg h34]);obtain⟨k,s,v,n,e,hr⟩:=gW (iw (c::m));have HF:=G (xI c m (by omega) (w.alloc (.cells #[.int .i64 0, .string ⟨#[]⟩, .int .i64 0, .int .i64 0] 206)));rw[hr]at HF;have HV:=G hr;have hb34:((c.toNat:Int)==34)=false:=(dH c 34 (by omega)).trans (beq_eq_false_iff_ne.2 h34);clear hL hD HT hr hz h39 h34;go_enter func97,ntmps97
     go_wp2_with (first
      |(go_at_call 108;refine(HL.out _).mono ?_;rintro e' w' ⟨rfl,rfl⟩)
      |(go_at_call 140;refine(HD.out _).mono ?_;rintro e' w' ⟨rfl,rfl⟩)
      |(go_at_call 144;refine HF.out.mono ?_;rintro e' w1 ⟨rfl,hE⟩;have HB:=G (HB0.out.ext hE);have HX:=G (HX0.out.trans hE);clear hE;have hbc:=HB.out.cell;have hbf:=HB.out.frozen))
     have hset:=(HB.out.put4 (.int .i64 k) (.string s) (.int .i64 v) (.int .i64 0)).cell;exact bodyPost_ret (v:= .tuple #[.agg #[.int .i64 k, .string s, .int .i64 v, .int .i64 0], .int .i64 n, .int .i64 e]) (by simp[results,results97,go_sem,hset]) rfl ⟨by rw[HR.out,HV.out],HX.out.put4 (ah _) _ _ _ _⟩
end
section
open Go.RowKit
def fH (t:bN):List Value:=[.int .i64 t.k, .string (ai t.t), .int .i64 t.v, .int .i64 t.f]
def j6 (ts:List bN):List Value:=ts.flatMap fH
theorem uM (a b:List bN):j6 (a++b)=j6 a++j6 b:=by simp[j6]
def gB (w:World) (base:Nat) (e:TypeId) (v:Value) (ts:List bN):Prop:=w.ownsRow base e 4 v ts.length (j6 ts)
theorem gB.nil_ (w:World) (base:Nat) (e:TypeId):gB w base e (.slice none 0 0) []:=World.ownsRow_nil w base e 4
theorem gB.form {w:World} {base:Nat} {e:TypeId} {v:Value} {ts:List bN} (h:gB w base e v ts): ∃A cap,v= .slice A ts.length cap:=by
 rcases h.2 with⟨rfl,h0⟩|⟨g,cap,cur,rfl,_⟩
 ·exact⟨none,0,by rw[h0]⟩
 ·exact⟨_,_,rfl⟩
theorem gB.grown {w w':World} {base:Nat} {e:TypeId} {v:Value} {ts:List bN} {row:Option Nat} (h:gB w base e v ts) (hg:w.grownBy w' row) (hr:v.ownBlock=none\/v.ownBlock≠row):gB w' base e v ts:=World.ownsRow.kept h hg hr
theorem gB.ext {w w':World} {base:Nat} {e:TypeId} {v:Value} {ts:List bN} (h:gB w base e v ts) (he:aq w w'):gB w' base e v ts:=h.grown (he.grownBy none) (by cases v.ownBlock<;>simp)
structure Cr (P:Program) (t e:TypeId):Prop where
 under:P.underlying t=some (.slice e)
 info:(P.info? e).map (fun i=>(i.zero,i.size,i.bytes))=some (some (.agg #[.int .i64 0, .string ⟨#[]⟩, .int .i64 0, .int .i64 0]),4,40)
theorem qR {P:Program} {w:World} {t e:TypeId} (hT:Cr P t e) (ty:TypeId) (base:Nat) (v:Value) (ts:List bN) (hown:gB w base e v ts) (g:Nat) (x:bN)
  (hg:w.heap[g]? =some (.cells #[.int .i64 x.k, .string (ai x.t), .int .i64 x.v, .int .i64 x.f] e (0,0))) (hb:ts.length<=1073741824) (hbase:base<=w.heap.size):
  ∃A' cap' w',(Builtin.append_ #[t,t] ty #[v, .slice (some ⟨g,0,none⟩) 1 1]).run P w= .ok (.slice A' (ts.length+1) cap') w'/\gB w' base e (.slice A' (ts.length+1) cap') (ts++[x])/\w.grownBy w' v.ownBlock/\
   (Value.ownBlock (.slice A' (ts.length+1) cap')=v.ownBlock\/Value.ownBlock (.slice A' (ts.length+1) cap')=some w.heap.size):=by
 obtain⟨i,hi,hz,hz1,hz2⟩:=info_parts hT.info;obtain⟨v',w',hr,h2,h3,_,h5⟩:=run_append_own_at (P:=P) w base t ty e i (.agg #[.int .i64 0, .string ⟨#[]⟩, .int .i64 0, .int .i64 0]) 4 40 hT.under hi hz hz1 hz2 rfl (by decide) v ts.length (j6 ts) hown ⟨g,0,none⟩ 1 1 (fH x) rfl
  (fun j y hj=>by
   rw[Addr.add_lit,aD,cell_of_row w g j _ e (0,0) hg]
   simpa[fH]using hj) (by simp[fH,Value.oneCell']) (by simp only[maxLen];omega) (by omega) hbase
 have hO:gB w' base e v' (ts++[x]):=by
  unfold gB;rw[aa,uM];simpa[j6]using h2
 obtain⟨A',cap',rfl⟩:=hO.form;rw[aa]at hO hr h5;exact⟨A',cap',w',hr,hO,h3,h5⟩
theorem nC {P:Program} {w:World} {ops:Array Oper} {rest:List Oper} {o:Oper} {a:Act} {Q:Exit->Act->World->Prop} {t e:TypeId} (hT:Cr P t e) (hgd:o.guard=none) (s x:Operand)
  (ho:o.op= .call {callee:= .builtin .append,args:= #[s,x],argTypes:= #[t,t]}) (base:Nat) (v:Value) (ts:List bN) (hv:a.eval s=v) (hown:gB w base e v ts)
  (g:Nat) (y:bN) (hx:a.eval x= .slice (some ⟨g,0,none⟩) 1 1) (hg:w.heap[g]? =some (.cells #[.int .i64 y.k, .string (ai y.t), .int .i64 y.v, .int .i64 y.f] e (0,0))) (hb:ts.length<=1073741824) (hbase:base<=w.heap.size)
  (h: ∀A' cap' w',gB w' base e (.slice A' (ts.length+1) cap') (ts++[y])->w.grownBy w' v.ownBlock->
   (Value.ownBlock (.slice A' (ts.length+1) cap')=v.ownBlock\/Value.ownBlock (.slice A' (ts.length+1) cap')=some w.heap.size)->wpList P ops Q rest (a.put o.dst (.slice A' (ts.length+1) cap')) w'):
  wpList P ops Q (o::rest) a w:=by
 obtain⟨A',cap',w',hr,h1,h2,h3⟩:=qR (P:=P) (w:=w) hT o.type base v ts hown g y hg hb hbase;refine wpList_plain hgd fun K hK=> ?_;unfold Oper.wp execOp;simp only[ho,resolve,invoke,builtin,Sem.run_bind,Sem.run_pure,Result.andThen_ok,dM,bY,d5,hv,hx,hr];exact hK _ _ (h A' cap' w' h1 h2 h3)
theorem tt:Cr prog 147 206:=⟨underlying147,by kernel_rfl⟩
theorem rm: ∀(f:Nat) (m:List UInt8) (t:List UInt8) (n:Nat),m_ f m=some (t,n)->1<=n/\n<=m.length
 |0,m,t,n,h=>by cases h
 |f+1,[],t,n,h=>by cases h
 |f+1,c::r,t,n,h=>by
  simp only[m_]at h;split at h
  ·cases h;exact⟨ah _,by simp⟩
  ·split at h
   ·cases h
   ·obtain⟨⟨t',n'⟩,h1,h2⟩:=Option.map_eq_some_iff.1 h
    cases h2;have:=rm f _ t' n' h1;have h3:=kn (c::r);rw[bm]at this;omega
theorem mD {l:List UInt8} {c:UInt8} (h:l.head? =some c):1<=l.length:=by cases l<;>simp at h⊢
theorem nG {c:UInt8} {r:List UInt8} {x:Int×List UInt8×Int} {n:Nat} (h:j5 (c::r)= .ok (x,n)):1<=n/\n<=(c::r).length:=by
 have hp:kN c=true->1<=bZ eT (c::r):=fun h=>by simp[bZ,eT,h]
 have hd:eJ c=true->1<=bZ eJ (c::r):=fun h=>by simp[bZ,h]
 have hp2:=gY eT (c::r);have hd2:=gY eJ (c::r);simp only[j5]at h;split at h
 ·rename_i hL;unfold jI at h;split at h
  ·cases h;exact⟨hp hL,hp2⟩
  ·split at h
   ·cases h
   ·cases h;exact⟨hp hL,hp2⟩
 ·split at h
  ·rename_i hD;unfold g_ at h;split at h
   ·cases h
   ·split at h
    ·cases h
    ·cases h;exact⟨hd hD,hd2⟩
  ·split at h
   ·unfold iJ at h;split at h
    ·cases h
    ·rename_i hc
     cases h;have h3:((c::r).drop ((cj ((c::r).drop 1)).2+1)).head? =some 39:=by
      refine Classical.byContradiction fun hne=>hc (.inr (.inr hne))
     have:=mD h3;rw[bm]at this;omega
   ·split at h
    ·unfold iY at h;split at h
     ·cases h
     ·rename_i t n' hl;split at h
      ·cases h
      ·cases h;have:=rm _ _ _ _ hl;rw[bm]at this;omega
    ·unfold iw at h;split at h
     ·rename_i hc
      cases h;have: ∀t∈two,t.length=2:=by decide
      have h2:((c::r).take 2).length=2:=this _ (List.contains_iff_mem.1 hc);rw[bE]at h2;omega
     ·split at h
      ·cases h;exact⟨ah _,by simp⟩
      ·cases h
theorem wH {c:UInt8} {r:List UInt8} {e:Int} (h:j5 (c::r)= .error e):e=3\/e=2\/e=6:=by
 simp only[j5]at h;unfold jI g_ iJ iY iw at h;repeat' split at h
 all_goals cases h
 all_goals first|exact .inl rfl|exact .inr (.inl rfl)|exact .inr (.inr rfl)
def kX (ts:List bN):Except (Nat×Int) (List bN)->Except (Nat×Int) (List bN)
 | .error e=> .error e
 | .ok us=> .ok (ts++us)
theorem sa (l:List UInt8):m8 l=kX [] (gx (l.length+1) (l.drop 0) 0):=by
 unfold m8;rw[ap]
 cases gx (l.length+1) l 0<;>simp[kX]
theorem wE {l:List UInt8} {f p:Nat} {ts:List bN} (h:m8 l=kX ts (gx (f+1) (l.drop p) p)) (he:l.length<=p+cK false (l.drop p)):m8 l= .ok ts:=by
 rw[h];have:(l.drop p).drop (cK false (l.drop p))=[]:=by
  rw[dh];exact aF he
 simp only[gx,this,kX,dZ]
theorem wD {l:List UInt8} {f p q:Nat} {ts:List bN} {c:UInt8} {r:List UInt8} {e:Int} (h:m8 l=kX ts (gx (f+1) (l.drop p) p)) (hq:q=p+cK false (l.drop p)) (hd:l.drop q=c::r) (ht:j5 (c::r)= .error e):m8 l= .error (q,e):=by
 rw[h];have:(l.drop p).drop (cK false (l.drop p))=c::r:=by
  rw[dh,<-hq,hd]
 simp only[gx,this,ht,kX,hq]
theorem uI {l:List UInt8} {f p q:Nat} {ts:List bN} {c:UInt8} {r:List UInt8} {k:Int} {t:List UInt8} {v:Int} {n:Nat} (h:m8 l=kX ts (gx (f+1) (l.drop p) p)) (hq:q=p+cK false (l.drop p)) (hd:l.drop q=c::r)
  (ht:j5 (c::r)= .ok ((k,t,v),n)):m8 l=kX (ts++[⟨k,t,v,(q:Nat)⟩]) (gx f (l.drop (q+n)) (q+n)):=by
 rw[h];have h1:(l.drop p).drop (cK false (l.drop p))=c::r:=by
  rw[dh,<-hq,hd]
 have h2:l.drop (q+n)=(c::r).drop n:=by rw[<-hd,dh]
 rw[h2];simp only[gx,h1,ht,<-hq]
 cases gx f ((c::r).drop n) (q+n)<;>simp[kX]
end
section
open Go.RowKit
def uu (ty:TypeId) (base:Nat) (r:List bN×Int×Int) (e:Ending) (w':World):Prop:=
 ∃A cap,e= .returned (.tuple #[.slice A r.1.length cap, .int .i64 r.2.1, .int .i64 r.2.2])/\gB w' base ty (.slice A r.1.length cap) r.1
theorem oV (l:List UInt8) (h:4000<l.length):ge l=([],4000,6):=by unfold ge;rw[if_pos h]
theorem wF (l:List UInt8) (ts:List bN) (h: ¬4000<l.length) (ht:m8 l= .ok ts):ge l=(ts,0,0):=by unfold ge;rw[if_neg h,ht]
theorem uJ (l:List UInt8) (p:Nat) (e:Int) (h: ¬4000<l.length) (ht:m8 l= .error (p,e)):ge l=([],(p:Int),e):=by unfold ge;rw[if_neg h,ht]
theorem zd (w:World) (e:TypeId) (x:bN):((w.alloc (.cells #[.int .i64 x.k, .string (ai x.t), .int .i64 x.v, .int .i64 x.f] e)).alloc (.cells #[.int .i64 x.k, .string (ai x.t), .int .i64 x.v, .int .i64 x.f] e)).heap[w.heap.size+1]? =some (.cells #[.int .i64 x.k, .string (ai x.t), .int .i64 x.v, .int .i64 x.f] e (0,0)):=by
 have:=heap_alloc_new (w.alloc (.cells #[.int .i64 x.k, .string (ai x.t), .int .i64 x.v, .int .i64 x.f] e)) (.cells #[.int .i64 x.k, .string (ai x.t), .int .i64 x.v, .int .i64 x.f] e);rwa [World.size_alloc]at this
theorem sd (l:List UInt8) (hl:l.length<=100000) (w:World) (hz:EZ w):Calls prog 58 #[.string (ai l)] w fun e w'=>uu 206 w.heap.size (ge l) e w'/\aq w w':=by
 have hsz:(ai l).size=l.length:=a7 l;have HZ:=G hz;clear hz;have HRb:=G (oV l);have HRo:=G (wF l);have HRe:=G (uJ l);by_cases hbig:4000<l.length
 ·have hbig':(4000:Int)<l.length:=by omega
  go_enter func58,ntmps58;go_wp2_with fail;exact bodyPost_ret (v:= .tuple #[.slice none 0 0, .int .i64 4000, .int .i64 6]) (by simp[results,results58,go_sem]) rfl ⟨by rw[HRb.out hbig];exact⟨none,0,rfl,gB.nil_ _ _ _⟩,aR _⟩
 ·have hbig': ¬(4000:Int)<l.length:=by omega
  go_enter func58,ntmps58;go_wp2_with fail
  go_loopw [2,3] (fun vb vp wr=> ∃(B:Option Addr) (cap:Nat) (ts:List bN) (p f:Nat),vb= .slice B ts.length cap/\gB wr w.heap.size 206 (.slice B ts.length cap) ts/\vp= .int .i64 (p:Int)/\p<=l.length/\ts.length<=p/\l.length+1<=f+p/\
   Hid (m8 l=kX ts (gx f (l.drop p) p))/\aq w wr) (fun _ vp _=>l.length+1-(intOf vp).toNat)
  case atStart=>exact⟨none,0,[],0,l.length+1,rfl,gB.nil_ _ _ _,rfl,aG _,ah _,by omega,G (sa l),aR _⟩
  case round=>
   obtain⟨B,cap,ts,p,f,rfl,hown,rfl,hp,htp,hfp,HJ,hx⟩:=hrel;obtain⟨f,rfl⟩: ∃g,f=g+1:=⟨f-1,by omega⟩
   have HO:=G hown;have HX:=G hx;clear hown hx;have hps:p<=(ai l).size:=by rw[hsz];exact hp
   have hex:(ai l).extract p l.length=ai (l.drop p):=by
    have:=eE l p l.length;rw[bU (ah _)]at this;exact this
   have HBL:=G (fun w=>v6 (l.drop p) (by rw[bm];omega) w);have hsk:p+cK false (l.drop p)<=l.length:=by have:=j_ false (l.drop p);rw[bm]at this;omega
   obtain⟨q,hq⟩: ∃q,q=p+cK false (l.drop p):=⟨_,rfl⟩
   have hqi:(p:Int)+(cK false (l.drop p):Int)=(q:Int):=by omega
   by_cases hend:l.length<=q
   ·have HT:=G (wE HJ.out (by omega));have hqn:q=l.length:=by omega
    have hend':(l.length:Int)<=q:=by omega
    generalize cK false (l.drop p)=s at*;clear hq HJ;go_wp2_with (go_at_call 96;refine(HBL.out _).mono ?_;rintro e w' ⟨rfl,rfl⟩);exact bodyPost_ret (v:= .tuple #[.slice B ts.length cap, .int .i64 0, .int .i64 0]) (by simp[results,results58,go_sem]) rfl ⟨by rw[HRo.out _ hbig HT.out];exact⟨B,cap,rfl,HO.out⟩,HX.out⟩
   ·have hend': ¬(l.length:Int)<=q:=by omega
    have hqs:q<=(ai l).size:=by rw[hsz];omega
    have hexq:(ai l).extract q l.length=ai (l.drop q):=by
     have:=eE l q l.length;rw[bU (ah _)]at this;exact this
    obtain⟨c,r,hcr⟩: ∃c r,l.drop q=c::r:=by
     cases h:l.drop q with
     |nil=>have:=congrArg List.length h;rw[bm]at this;simp at this;omega
     |cons c r=>exact⟨c,r,rfl⟩
    have hlr:(c::r).length=l.length-q:=by rw[<-hcr,bm]
    rw[hcr]at hexq;have HTK:=G (fun w h=>uK c r (by omega) w h)
    cases ht:j5 (c::r)with
    |error e=>
     have HT:=G (wD HJ.out hq hcr ht);have he:e=3\/e=2\/e=6:=wH ht;rw[ht]at HTK;have htv:cA (.error e)= .tuple #[.agg #[.int .i64 0, .string ⟨#[]⟩, .int .i64 0, .int .i64 0], .int .i64 0, .int .i64 e]:=rfl;rw[htv]at HTK;have hne: ¬e=0:=by omega
     have hne2:(e==0)=false:=by simp[hne]
     generalize cK false (l.drop p)=s at*;clear hq HJ ht hcr htv he
     go_wp2_with (first
      |(go_at_call 96;refine(HBL.out _).mono ?_;rintro e w' ⟨rfl,rfl⟩)
      |(go_at_call 97;refine(HTK.out _ (HZ.out.ext HX.out)).mono ?_;rintro e' w1 ⟨rfl,hE⟩;have HE:=G (HX.out.trans hE);clear hE))
     exact bodyPost_ret (v:= .tuple #[.slice none 0 0, .int .i64 q, .int .i64 e]) (by simp[results,results58,go_sem]) rfl ⟨by rw[HRe.out _ _ hbig HT.out];exact⟨none,0,rfl,gB.nil_ _ _ _⟩,HE.out.alloc' _⟩
    |ok y=>
     obtain⟨⟨k,t,v⟩,n⟩:=y;have HT:=G (uI HJ.out hq hcr ht);obtain⟨hn1,hn2⟩:=nG ht;rw[ht]at HTK;have htv:cA (.ok ((k,t,v),n))= .tuple #[.agg #[.int .i64 k, .string (ai t), .int .i64 v, .int .i64 0], .int .i64 (n:Int), .int .i64 0]:=rfl;rw[htv]at HTK;generalize cK false (l.drop p)=s at*;clear hq HJ ht hcr htv
     go_wp2_with (first
      |(go_at_call 96;refine(HBL.out _).mono ?_;rintro e w' ⟨rfl,rfl⟩)
      |(go_at_call 97;refine(HTK.out _ (HZ.out.ext HX.out)).mono ?_;rintro e' w1 ⟨rfl,hE⟩;have HE1:=G (HX.out.trans ((hE.alloc' (.cells #[.int .i64 k, .string (ai t), .int .i64 v, .int .i64 (q:Int)] 206)).alloc' (.cells #[.int .i64 k, .string (ai t), .int .i64 v, .int .i64 (q:Int)] 206)));have HO1:=G (HO.out.ext ((hE.alloc' (.cells #[.int .i64 k, .string (ai t), .int .i64 v, .int .i64 (q:Int)] 206)).alloc' (.cells #[.int .i64 k, .string (ai t), .int .i64 v, .int .i64 (q:Int)] 206)));have HG1:=G (zd w1 206 ⟨k,t,v,(q:Int)⟩);clear hE)
      |(at_builtin;refine nC tt rfl _ _ rfl w.heap.size (.slice B ts.length cap) ts rfl HO1.out (w1.heap.size+1) ⟨k,t,v,(q:Int)⟩ rfl HG1.out (by omega) HE1.out.size ?_;intro A3 c3 w3 ho3 hg3 _;have HO3:=G ho3;have HG3:=G hg3;clear ho3 hg3))
     go_roundw
     case rel=>
      have hrow:=fun k hk=>(World.ownsRow.lt HO1.out k hk).1;have hx3:=HE1.out.grown HG3.out (fun k hk=>by have:=hrow k hk;omega);refine⟨A3,c3,ts++[⟨k,t,v,(q:Int)⟩],q+n,f,by rw[aa];rfl,?_,by go_num,by omega,by rw[aa];simp;omega,by omega,HT,hx3⟩;rw[aa];exact HO3.out
     case measure=>simp[intOf];omega
end
section
open Go.RowKit
theorem dI (a b:List UInt8):ai a++ai b=ai (a++b):=by
 apply kT;simp[ai]
end
section
open Go.RowKit
end
section
open Go.RowKit
end
section
open Go.RowKit
end
section
open Go.RowKit
end
end Go.Proofs.YtddomeddabfinaaGreatDoor
