/-
  Parts of the proof: LexD LexE LexF LexG LexH.
-/
import Derived.Test.YtddomeddabfinaaGreatDoorTa00
import Derived.Test.YtddomeddabfinaaGreatDoorTa03
import Derived.Test.YtddomeddabfinaaGreatDoorTa04
set_option maxRecDepth 100000
set_option maxHeartbeats 8000000
set_option linter.unusedVariables false
set_option linter.unusedSimpArgs false
set_option linter.unusedSectionVars false
namespace Go.Proofs.YtddomeddabfinaaGreatDoor
open Go.Proofs.Tryz
section
open Go.RowKit
theorem gT (l:List UInt8):(ah l).data.toList=l:=by simp[ah]
theorem m_ (c:UInt8): ∀l:List UInt8,(Lib.indexByte l c= -1/\l.contains c=false)\/(0<=Lib.indexByte l c/\l.contains c=true)
 | []=> .inl ⟨rfl,rfl⟩
 |b::l=>by
  simp only[Lib.indexByte];by_cases h:b=c
  ·subst h;refine .inr ⟨by simp,by simp⟩
  ·have hb:(b==c)=false:=beq_eq_false_iff_ne.2 h;have hb2:(c==b)=false:=beq_eq_false_iff_ne.2 fun e=>h e.symm;rw[hb];rcases m_ c l with⟨h1,h2⟩|⟨h1,h2⟩
   ·refine .inl ⟨by simp[h1],?_⟩;rw[fL,hb2,h2];rfl
   ·refine .inr ⟨?_,?_⟩
    ·have:(Lib.indexByte l c== -1)=false:=by rw[beq_eq_false_iff_ne];omega
     simp only[aK,if_false,this];omega
    ·rw[fL,hb2,h2];rfl
theorem qU: ∀l:List UInt8,Lib.indexByte l 10=if eZ l<l.length then(eZ l:Int)else-1
 | []=>rfl
 |b::l=>by
  by_cases h:b=10
  ·subst h;rfl
  ·have hb:(b==10)=false:=beq_eq_false_iff_ne.2 h;have hb2:(b !=10)=true:=by simp[h]
   have ih:=qU l;have e:eZ (b::l)=eZ l+1:=by simp[eZ,bX,h]
   rw[e];simp only[Lib.indexByte];rw[hb,ih,if_neg (by simp)];by_cases hl:eZ l<l.length
   ·rw[if_pos hl,if_neg (by simp),if_pos (by rw[ac];omega)];rfl
   ·rw[if_neg hl,if_pos (show((-1:Int)== -1)=true from rfl),if_neg (by rw[ac];omega)]
theorem vI (c:UInt8):Am c=([32,9,10,13]:List UInt8).contains c:=by
 have: ∀n:Fin 256,Am (UInt8.ofNat n.val)=([32,9,10,13]:List UInt8).contains (UInt8.ofNat n.val):=by decide+kernel
 have h:=this ⟨c.toNat,c.toNat_lt⟩;rwa [ii]at h
theorem mh (l:List UInt8) (c:UInt8) (w:World):Calls prog 137 #[.string (ah l), .int .u8 (c.toNat:Int)] w fun e w'=>e= .returned (.int .i64 (Lib.indexByte l c))/\w=w':=by
 refine(Tryz.strings_IndexByte (ah l) (c.toNat:Int) w).mono ?_;rintro e w' ⟨rfl,rfl⟩;rw[gT];have:(c.toNat:Int).toNat.toUInt8=c:=by
  rw[d4];exact ii
 rw[this];exact⟨rfl,rfl⟩
theorem nE (l p:List UInt8) (w:World):Calls prog 138 #[.string (ah l), .string (ah p)] w fun e w'=>e= .returned (.bool (p.isPrefixOf l))/\w=w':=by
 refine(Tryz.strings_HasPrefix (ah l) (ah p) w).mono ?_;rintro e w' ⟨rfl,rfl⟩;rw[gT,gT];exact⟨rfl,rfl⟩
theorem pH (l:List UInt8):(([47,47]:List UInt8).isPrefixOf l=true/\ ∃r,l=47::47::r)\/(([47,47]:List UInt8).isPrefixOf l=false/\ ∀c r,l=c::r-> ¬(c=47/\r.head? =some 47)):=by
 match l with
 | []=>exact .inr ⟨rfl,fun c r h=>by cases h⟩
 | [c]=>exact .inr ⟨by simp[List.isPrefixOf],fun c' r h=>by injection h with h1 h2;subst h2;simp⟩
 |c::d::r=>
  by_cases h:c=47/\d=47
  ·obtain⟨rfl,rfl⟩:=h;exact .inl ⟨by simp[List.isPrefixOf],r,rfl⟩
  ·refine .inr ⟨?_,fun c' r' h'=>by injection h' with h1 h2;subst h1 h2;simpa using h⟩;simp only[List.isPrefixOf,gm];rw[Bool.and_eq_false_iff];by_cases hc:c=47
   ·right;exact beq_eq_false_iff_ne.2 fun e=>h ⟨hc,e.symm⟩
   ·left;exact beq_eq_false_iff_ne.2 fun e=>hc e.symm
theorem ur {l:List UInt8} {j:Nat} (h:j<l.length) (hw:Am l[j]=true):cD false (l.drop j)=cD false (l.drop (j+1))+1:=by
 rw[aw h];simp only[cD];rw[if_pos hw]
theorem uq {l:List UInt8} {j:Nat} (h:j<l.length) (hw:Am l[j]=false) (hs: ∀c r,l.drop j=c::r-> ¬(c=47/\r.head? =some 47)):cD false (l.drop j)=0:=by
 have hs:=hs l[j] (l.drop (j+1)) (aw h);rw[aw h];simp only[cD];rw[hw,if_neg (by simp),if_neg hs]
theorem vr (l:List UInt8) (hl:l.length<=100000) (w:World):Calls prog 96 #[.string (ah l)] w fun e w'=>e= .returned (.int .i64 (cD false l))/\w=w':=by
 have hsz:=a6 l;go_enter func96,ntmps96;go_wp2_with fail
 go_loop [3] (fun vi=> ∃j:Nat,vi= .int .i64 j/\j<=l.length/\Hid (cD false l=j+cD false (l.drop j))) (fun vi=>l.length-(intOf vi).toNat)
 case atStart=>exact⟨0,rfl,aF _,G (by simp)⟩
 case round=>
  obtain⟨j,rfl,hj,HT⟩:=hrel;by_cases hlt:j<l.length
  ·have hjs:j<(ah l).size:=by rw[a6];exact hlt
   have hg:=lq l j hjs;have hlt':(j:Int)<l.length:=by omega
   have hex:=ew l j l.length;rw[bD]at hex;have HST:=G (fun h=>ur (l:=l) hlt h);have HSP:=G (fun h hs=>uq (l:=l) hlt h hs);generalize l[j]'hlt=c at*;have HIX:=G (show Calls prog 137 #[.string ⟨#[32,9,10,13]⟩, .int .u8 (c.toNat:Int)] w fun e w'=>e= .returned (.int .i64 (Lib.indexByte [32,9,10,13] c))/\w=w' from mh [32,9,10,13] c w)
   cases hw:Am c with
   |true=>
    have hi:0<=Lib.indexByte [32,9,10,13] c:=by
     rcases m_ c [32,9,10,13]with⟨h1,h2⟩|⟨h1,h2⟩
     ·rw[<-vI,hw]at h2;cases h2
     ·exact h1
    have HN:=G (show cD false l=((j+1:Nat))+cD false (l.drop (j+1)) by rw[HT.out,HST.out hw];omega);generalize Lib.indexByte [32,9,10,13] c=ix at*;clear hw hex;go_wp2_with (go_at_call 137;refine HIX.out.mono ?_;rintro e w' ⟨rfl,rfl⟩)
    go_round
    case rel=>exact⟨j+1,by go_num,by omega,HN⟩
    case measure=>simp[intOf];omega
   |false=>
    have hi: ¬0<=Lib.indexByte [32,9,10,13] c:=by
     rcases m_ c [32,9,10,13]with⟨h1,h2⟩|⟨h1,h2⟩
     ·omega
     ·rw[<-vI,hw]at h2;cases h2
    generalize Lib.indexByte [32,9,10,13] c=ix at*;have HPX:=G (show Calls prog 138 #[.string (ah (l.drop j)), .string ⟨#[47,47]⟩] w fun e w'=>e= .returned (.bool (([47,47]:List UInt8).isPrefixOf (l.drop j)))/\w=w' from nE (l.drop j) [47,47] w);rcases pH (l.drop j)with⟨hp,hq⟩|⟨hp,hq⟩
    ·have hsc:=ow hq;have hix:=qU (l.drop j);have HIL:=G (show Calls prog 137 #[.string (ah (l.drop j)), .int .u8 10] w fun e w'=>e= .returned (.int .i64 (Lib.indexByte (l.drop j) 10))/\w=w' from mh (l.drop j) 10 w);rw[hp]at HPX;have hll:eZ (l.drop j)<=(l.drop j).length:=gU _ _;have hlen:(l.drop j).length=l.length-j:=bg;by_cases hn:eZ (l.drop j)<(l.drop j).length
     ·rw[if_pos hn]at hix;rw[hix]at HIL;have HN:=G (show cD false l=((j+eZ (l.drop j):Nat))+cD false (l.drop (j+eZ (l.drop j))) by rw[HT.out,hsc,dO];omega);have hpos:1<=eZ (l.drop j):=by
       obtain⟨r,hr⟩:=hq;rw[hr];simp[eZ,bX]
      have hle:j+eZ (l.drop j)<=l.length:=by omega
      generalize eZ (l.drop j)=n at*;clear hw hp hq hsc hix hn hll hlen
      go_wp2_with (first
       |(go_at_call 137;with_reducible (refine HIX.out.mono ?_);rintro e w' ⟨rfl,rfl⟩)
       |(go_at_call 138;refine HPX.out.mono ?_;rintro e w' ⟨rfl,rfl⟩)
       |(go_at_call 137;refine HIL.out.mono ?_;rintro e w' ⟨rfl,rfl⟩))
      go_round
      case rel=>exact⟨j+n,by go_num,hle,HN⟩
      case measure=>simp[intOf];omega
     ·rw[if_neg hn]at hix;rw[hix]at HIL;have h3:j+eZ (l.drop j)=l.length:=by omega
      have HN:=G (show cD false l=l.length by
       have hd:l.drop (j+eZ (l.drop j))=[]:=aD (by omega);rw[HT.out,hsc,dO,hd];show j+(eZ (l.drop j)+0)=l.length
       omega)
      clear h3;clear hw hp hq hsc hix hn hll hlen
      go_wp2_with (first
       |(go_at_call 137;with_reducible (refine HIX.out.mono ?_);rintro e w' ⟨rfl,rfl⟩)
       |(go_at_call 138;refine HPX.out.mono ?_;rintro e w' ⟨rfl,rfl⟩)
       |(go_at_call 137;refine HIL.out.mono ?_;rintro e w' ⟨rfl,rfl⟩))
      go_ret;exact⟨lA (by rw[HN.out]),rfl⟩
    ·rw[hp]at HPX;have HN:=G (show cD false l=j by rw[HT.out,HSP.out hw hq];omega);clear hw hp hq
     go_wp2_with (first
      |(go_at_call 137;with_reducible (refine HIX.out.mono ?_);rintro e w' ⟨rfl,rfl⟩)
      |(go_at_call 138;refine HPX.out.mono ?_;rintro e w' ⟨rfl,rfl⟩))
     go_ret;exact⟨lA (by rw[HN.out]),rfl⟩
  ·have HN:=G (show cD false l=j by rw[HT.out,aD (by omega)];rfl);have hlt': ¬(j:Int)<l.length:=by omega
   go_wp2_with fail;go_ret;exact⟨lA (by rw[HN.out]),rfl⟩
end
section
open Go.RowKit
def ct:rA->Value
 | .ok x=> .tuple #[.agg #[.int .i64 x.1.1, .string (ah x.1.2.1), .int .i64 x.1.2.2, .int .i64 0], .int .i64 (x.2:Int), .int .i64 0]
 | .error e=> .tuple #[.agg #[.int .i64 0, .string ⟨#[]⟩, .int .i64 0, .int .i64 0], .int .i64 0, .int .i64 e]
theorem aQ.put4 {w:World} {g:Nat} {t:TypeId} {x0 x1 x2 x3:Value} (h:aQ w g t #[x0,x1,x2,x3]) (a b c d:Value):aQ ((((w.setCell ⟨g,0,none⟩ a).setCell ⟨g,1,none⟩ b).setCell ⟨g,2,none⟩ c).setCell ⟨g,3,none⟩ d) g t #[a,b,c,d]:=by
 have:=(((h.set 0 a).set 1 b).set 2 c).set 3 d;simpa using this
theorem au.put4 {w0 w:World} {g:Nat} (h:au w0 w) (hg:w0.heap.size<=g) (a b c d:Value):au w0 ((((w.setCell ⟨g,0,none⟩ a).setCell ⟨g,1,none⟩ b).setCell ⟨g,2,none⟩ c).setCell ⟨g,3,none⟩ d):=(((h.set hg a).set hg b).set hg c).set hg d
theorem vL (l:List UInt8) (hl:l.length<=100000) (w:World):Calls prog 139 #[.string (ah l)] w fun e w'=>e= .returned (ct (jE l))/\au w w':=by
 have hsz:=a6 l;have hle:=gU eT l;have hex:=ew l 0 (bX eT l);simp only[an]at hex;have HSP:=G (fun w=>qx eT 107 lC (.inl rfl) l hl w);have HT:=G (show jE l=if uK (l.take (bX eT l))then .ok ((2,l.take (bX eT l),0),bX eT l)else if 14<bX eT l then .error 6 else .ok ((1,l.take (bX eT l),0),bX eT l)from rfl);have HK:=G (fun w=>mH (l.take (bX eT l)) w);generalize hn:bX eT l=n at*;generalize hx:l.take n=x at*;clear hn hx
 cases hk:uK x with
 |true=>
  have HR:=G (show jE l= .ok ((2,x,0),n) by rw[HT.out,hk,if_pos rfl]);rw[hk]at HK;clear hk HT;go_enter func139,ntmps139
  go_wp2_with (first
   |(go_at_call 179;refine(HSP.out _).mono ?_;rintro e w' ⟨rfl,rfl⟩)
   |(go_at_call 109;refine(HK.out _).mono ?_;rintro e w' ⟨rfl,rfl⟩))
  exact bodyPost_ret (v:=ct (.ok ((2,x,0),n))) (by simp[results,results139,go_sem,ct]) rfl ⟨by rw[HR.out],(I w _).alloc' _⟩
 |false=>
  rw[hk]at HK;by_cases h14:14<n
  ·have HR:=G (show jE l= .error 6 by rw[HT.out,hk,if_neg (by simp),if_pos h14]);have h14':(14:Int)<n:=by omega
   clear hk HT;go_enter func139,ntmps139
   go_wp2_with (first
    |(go_at_call 179;refine(HSP.out _).mono ?_;rintro e w' ⟨rfl,rfl⟩)
    |(go_at_call 109;refine(HK.out _).mono ?_;rintro e w' ⟨rfl,rfl⟩))
   exact bodyPost_ret (v:=ct (.error 6)) (by simp[results,results139,go_sem,ct]) rfl ⟨by rw[HR.out],(I w _).alloc' _⟩
  ·have HR:=G (show jE l= .ok ((1,x,0),n) by rw[HT.out,hk,if_neg (by simp),if_neg h14]);have h14': ¬(14:Int)<n:=by omega
   clear hk HT;go_enter func139,ntmps139
   go_wp2_with (first
    |(go_at_call 179;refine(HSP.out _).mono ?_;rintro e w' ⟨rfl,rfl⟩)
    |(go_at_call 109;refine(HK.out _).mono ?_;rintro e w' ⟨rfl,rfl⟩))
   exact bodyPost_ret (v:=ct (.ok ((1,x,0),n))) (by simp[results,results139,go_sem,ct]) rfl ⟨by rw[HR.out],(I w _).alloc' _⟩
theorem mn (l:List UInt8) (j:Nat) (h:j<l.length):(l.drop j).head? =some l[j]:=by rw[List.head?_drop,aL h]
theorem nQ (l:List UInt8) (j:Nat) (h:l.length<=j):(l.drop j).head? =none:=by rw[List.head?_drop,jL h]
theorem vh (c:UInt8) (m:List UInt8):iz (c::m)=if(ch m).2=0\/m.head? =some 39\/(m.drop (ch m).2).head? ≠some 39 then .error 3 else .ok ((3,[],((ch m).1.toNat:Int)),(ch m).2+2):=rfl
theorem xY (c:UInt8) (m:List UInt8) (hl:m.length<=100000) (w:World):Calls prog 142 #[.string (ah (c::m))] w fun e w'=>e= .returned (ct (iz (c::m)))/\au w w':=by
 have hsz:(ah (c::m)).size=m.length+1:=by rw[a6];rfl
 have hex:(ah (c::m)).extract 1 (m.length+1)=ah m:=by
  have:=ew (c::m) 1 (m.length+1);rw[bC (by simp)]at this;exact this
 have HEL:=G (fun w=>q8 m w hl);obtain⟨hle1,hle2⟩:=kb m;have HT:=G (vh c m);generalize hv:(ch m).1=v at*;generalize hn:(ch m).2=n at*;have HN:=G hn;have hvb:=v.toNat_lt;have hvb':(v.toNat:Int)<256:=by omega
 clear hv hn;by_cases hn0:n=0
 ·have HR:=G (show iz (c::m)= .error 3 by rw[HT.out,if_pos (.inl hn0)]);subst hn0;clear HT;go_enter func142,ntmps142;go_wp2_with (go_at_call 181;refine(HEL.out _).mono ?_;rintro e w1 ⟨rfl,hE⟩;have HB:=G ((am w 206 #[.int .i64 0, .string ⟨#[]⟩, .int .i64 0, .int .i64 0]).ext hE);have HE:=G ((I w _).trans hE);clear hE;have hbc:=HB.out.cell;have hbf:=HB.out.frozen);have hset:=(HB.out.put4 (.int .i64 0) (.string ⟨#[]⟩) (.int .i64 0) (.int .i64 0)).cell;exact bodyPost_ret (v:=ct (.error 3)) (by simp[results,results142,go_sem,ct,hset]) rfl ⟨by rw[HR.out],HE.out.put4 (ag _) _ _ _ _⟩
 ·have hm0:0<m.length:=by omega
  have hs1:1<(ah (c::m)).size:=by rw[hsz];omega
  have hg1:(ah (c::m))[1]=m[0]:=rfl;have hnb:((n:Int)==0)=false:=by simp[hn0]
  by_cases hq:m[0]=39
  ·have HR:=G (show iz (c::m)= .error 3 by rw[HT.out,if_pos (.inr (.inl (by rw[ji,aL hm0,hq])))]);rw[hq]at hg1;clear HT hn0 hq;go_enter func142,ntmps142;go_wp2_with (go_at_call 181;refine(HEL.out _).mono ?_;rintro e w1 ⟨rfl,hE⟩;have HB:=G ((am w 206 #[.int .i64 0, .string ⟨#[]⟩, .int .i64 0, .int .i64 0]).ext hE);have HE:=G ((I w _).trans hE);clear hE;have hbc:=HB.out.cell;have hbf:=HB.out.frozen);have hset:=(HB.out.put4 (.int .i64 0) (.string ⟨#[]⟩) (.int .i64 0) (.int .i64 0)).cell;exact bodyPost_ret (v:=ct (.error 3)) (by simp[results,results142,go_sem,ct,hset]) rfl ⟨by rw[HR.out],HE.out.put4 (ag _) _ _ _ _⟩
  ·have hq1:m.head? ≠some 39:=by rw[ji,aL hm0];intro e;exact hq (O e)
   have hqb:((m[0].toNat:Int)==39)=false:=(dF m[0] 39 (by omega)).trans (beq_eq_false_iff_ne.2 hq);generalize m[0]=d at*;by_cases hln:m.length<n+1
   ·have HR:=G (show iz (c::m)= .error 3 by rw[HT.out,if_pos (.inr (.inr (by rw[nQ _ _ (by omega)];simp)))]);have hln':(m.length:Int)+1<n+2:=by omega
    clear HT hn0 hq hq1;go_enter func142,ntmps142;go_wp2_with (go_at_call 181;refine(HEL.out _).mono ?_;rintro e w1 ⟨rfl,hE⟩;have HB:=G ((am w 206 #[.int .i64 0, .string ⟨#[]⟩, .int .i64 0, .int .i64 0]).ext hE);have HE:=G ((I w _).trans hE);clear hE;have hbc:=HB.out.cell;have hbf:=HB.out.frozen);have hset:=(HB.out.put4 (.int .i64 0) (.string ⟨#[]⟩) (.int .i64 0) (.int .i64 0)).cell;exact bodyPost_ret (v:=ct (.error 3)) (by simp[results,results142,go_sem,ct,hset]) rfl ⟨by rw[HR.out],HE.out.put4 (ag _) _ _ _ _⟩
   ·have hnm:n<m.length:=by omega
    have hsn:n+1<(ah (c::m)).size:=by rw[hsz];omega
    have hgn:(ah (c::m))[n+1]=m[n]:=rfl;have hln': ¬(m.length:Int)+1<n+2:=by omega
    by_cases he:m[n]=39
    ·have HR:=G (show iz (c::m)= .ok ((3,[],(v.toNat:Int)),n+2) by
      rw[HT.out,if_neg];rintro(h|h|h)
      ·exact hn0 h
      ·exact hq1 h
      ·exact h (by rw[mn _ _ hnm,he]))
     rw[he]at hgn;clear HT hn0 hq hq1 he;go_enter func142,ntmps142;go_wp2_with (go_at_call 181;refine(HEL.out _).mono ?_;rintro e w1 ⟨rfl,hE⟩;have HB:=G ((am w 206 #[.int .i64 0, .string ⟨#[]⟩, .int .i64 0, .int .i64 0]).ext hE);have HE:=G ((I w _).trans hE);clear hE;have hbc:=HB.out.cell;have hbf:=HB.out.frozen);have hset:=(HB.out.put4 (.int .i64 3) (.string ⟨#[]⟩) (.int .i64 (v.toNat:Int)) (.int .i64 0)).cell;exact bodyPost_ret (v:=ct (.ok ((3,[],(v.toNat:Int)),n+2))) (by simp[results,results142,go_sem,ct,hset];rfl) rfl ⟨by rw[HR.out],HE.out.put4 (ag _) _ _ _ _⟩
    ·have HR:=G (show iz (c::m)= .error 3 by
      rw[HT.out,if_pos (.inr (.inr (by rw[mn _ _ hnm];intro e;exact he (O e))))])
     have hgb:((m[n].toNat:Int)==39)=false:=(dF m[n] 39 (by omega)).trans (beq_eq_false_iff_ne.2 he);have hgb2:((m[n].toNat:Int) !=39)=true:=by rw[bne,hgb];rfl
     generalize m[n]=u at*;clear HT hn0 hq hq1 he;go_enter func142,ntmps142;go_wp2_with (go_at_call 181;refine(HEL.out _).mono ?_;rintro e w1 ⟨rfl,hE⟩;have HB:=G ((am w 206 #[.int .i64 0, .string ⟨#[]⟩, .int .i64 0, .int .i64 0]).ext hE);have HE:=G ((I w _).trans hE);clear hE;have hbc:=HB.out.cell;have hbf:=HB.out.frozen);have hset:=(HB.out.put4 (.int .i64 0) (.string ⟨#[]⟩) (.int .i64 0) (.int .i64 0)).cell;exact bodyPost_ret (v:=ct (.error 3)) (by simp[results,results142,go_sem,ct,hset]) rfl ⟨by rw[HR.out],HE.out.put4 (ag _) _ _ _ _⟩
end
section
open Go.RowKit
theorem bt:mQ prog 40 5:=⟨underlying40,by kernel_rfl⟩
theorem Sl.one (w:World) (v:UInt8):Sl (w.alloc (.cells #[.int .u8 (v.toNat:Int)] 5)) (some ⟨w.heap.size,0,none⟩) 1 [v]:=
 ⟨by simp,by simp[maxLen],(fun h=>by cases h), .inr ⟨w.heap.size,0,rfl,by simp,fun i hi=>by
  have hi0:i=0:=by simp at hi;omega
  subst hi0;rw[(am w 5 #[.int .u8 (v.toNat:Int)]).cell]
  rfl⟩⟩
theorem pW {m:List UInt8} {j:Nat} (h:j<m.length) (hc:m[j]=34):js (m.drop j)=some ([],1):=by
 rw[aw h,hc];exact xi _
theorem pX {m:List UInt8} {j:Nat} (h:j<m.length) (hc:m[j]≠34) (h0:(ch (m.drop j)).2=0):js (m.drop j)=none:=by
 rw[aw h]at h0⊢;exact xj hc h0
theorem ox {m:List UInt8} {j:Nat} (h:j<m.length) (hc:m[j]≠34) (h0:(ch (m.drop j)).2≠0):js (m.drop j)=(js (m.drop (j+(ch (m.drop j)).2))).map fun x=>((ch (m.drop j)).1::x.1,(ch (m.drop j)).2+x.2):=by
 have e:m.drop (j+(ch (m.drop j)).2)=(m.drop j).drop (ch (m.drop j)).2:=by rw[dO]
 rw[e];generalize hd:m.drop j=d at*;rw[aw h]at hd;subst hd;exact uI hc h0
theorem uj (c:UInt8) (m:List UInt8):iV (c::m)=match js m with
 |none=> .error 3
 |some (t,n)=>if 128<t.length then .error 6 else .ok ((4,t,0),n+1):=rfl
theorem v7 (c:UInt8) (m:List UInt8) (hl:m.length<=100000) (w:World):Calls prog 143 #[.string (ah (c::m))] w fun e w'=>e= .returned (ct (iV (c::m)))/\au w w':=by
 have hsz:(ah (c::m)).size=m.length+1:=by rw[a6];rfl
 have HT:=G (uj c m);go_enter func143,ntmps143;go_wp2_with fail
 go_loopw [5,6] (fun vb vi wr=> ∃(B:Option Addr) (cap:Nat) (b:List UInt8) (j:Nat),vb= .slice B b.length cap/\ol wr (w.heap.size+1) 5 (.slice B b.length cap) b/\vi= .int .i64 ((j+1:Nat):Int)/\j<=m.length/\b.length<=j/\
   Hid (js m=(js (m.drop j)).map fun x=>(b++x.1,j+x.2))/\aQ wr w.heap.size 206 #[.int .i64 0, .string ⟨#[]⟩, .int .i64 0, .int .i64 0]/\au w wr) (fun _ vi _=>m.length+1-(intOf vi).toNat)
 case atStart=>
  refine⟨none,0,[],0,rfl,ol.nil_ _ _ _,rfl,aF _,aF _,G ?_,am w _ _,I w _⟩
  cases h:js m<;>simp[h]
 case round=>
  obtain⟨B,cap,b,j,rfl,hown,rfl,hj,hbj,HL,hblk,hx⟩:=hrel;have HO:=G hown;have HB:=G hblk;have HX:=G hx;have hbc:=hblk.cell;have hbf:=hblk.frozen;have hzb:=hblk.lt;clear hown hblk hx;have hjc:((j+1:Nat):Int)=(j:Int)+1:=by omega
  rw[hjc];by_cases hlt:j<m.length
  ·have hjs:j+1<(ah (c::m)).size:=by rw[hsz];omega
   have hg:(ah (c::m))[j+1]=m[j]:=rfl;have hlt':(j:Int)+1<m.length+1:=by omega
   by_cases h34:m[j]=34
   ·have hR:js m=some (b,j+1):=by rw[HL.out,pW hlt h34];simp
    rw[h34]at hg;by_cases h128:128<b.length
    ·have HR:=G (show iV (c::m)= .error 6 by rw[HT.out,hR];simp only;rw[if_pos h128]);have h128':(128:Int)<b.length:=by omega
     clear h34 hR HT HL;go_wp2_with fail;have hset:=(HB.out.put4 (.int .i64 0) (.string ⟨#[]⟩) (.int .i64 0) (.int .i64 0)).cell;exact bodyPost_ret (v:=ct (.error 6)) (by simp[results,results143,go_sem,ct,hset]) rfl ⟨by rw[HR.out],HX.out.put4 (ag _) _ _ _ _⟩
    ·have HR:=G (show iV (c::m)= .ok ((4,b,0),j+1+1) by rw[HT.out,hR];simp only;rw[if_neg h128]);have h128': ¬(128:Int)<b.length:=by omega
     have hcv:=HO.out.sl.2.convert (P:=prog) (src:=40) (dst:=9) underlying40 underlying5 underlying9;clear h34 hR HT HL;go_wp2_with fail;have hset:=(HB.out.put4 (.int .i64 4) (.string (ah b)) (.int .i64 0) (.int .i64 0)).cell;exact bodyPost_ret (v:=ct (.ok ((4,b,0),j+1+1))) (by simp[results,results143,go_sem,ct,hset]) rfl ⟨by rw[HR.out],HX.out.put4 (ag _) _ _ _ _⟩
   ·have hgb:((m[j].toNat:Int)==34)=false:=(dF m[j] 34 (by omega)).trans (beq_eq_false_iff_ne.2 h34);have hgb2:((m[j].toNat:Int) !=34)=true:=by rw[bne,hgb];rfl
    have hex:(ah (c::m)).extract (j+1) (m.length+1)=ah (m.drop j):=by
     have:=ew (c::m) (j+1) (m.length+1);rw[bC (by simp)]at this;exact this
    have HEL:=G (fun w=>q8 (m.drop j) w (by rw[bg];omega));obtain⟨hle1,hle2⟩:=kb (m.drop j);rw[bg]at hle1;have HBD:=G (fun h=>pX (m:=m) hlt h34 h);have HST:=G (fun h=>ox (m:=m) hlt h34 h);generalize hv:(ch (m.drop j)).1=v at*;generalize hn:(ch (m.drop j)).2=n at*;generalize m[j]=d at*;have HN:=G hn;have hvb:=v.toNat_lt;have hvb':(v.toNat:Int)<256:=by omega
    clear hv hn h34;generalize hdr:m.drop j=mj at*;have HDR:=G hdr;clear hdr;by_cases hn0:n=0
    ·have HR:=G (show iV (c::m)= .error 3 by rw[HT.out,HL.out,HBD.out hn0];rfl);subst hn0;clear HT HL HBD HST;go_wp2_with (go_at_call 181;refine(HEL.out _).mono ?_;rintro e w1 ⟨rfl,hE⟩;have HB:=G (HB.out.ext hE);have HE:=G (HX.out.trans hE);clear hE hbc hbf;have hbc:=HB.out.cell;have hbf:=HB.out.frozen);have hset:=(HB.out.put4 (.int .i64 0) (.string ⟨#[]⟩) (.int .i64 0) (.int .i64 0)).cell;exact bodyPost_ret (v:=ct (.error 3)) (by simp[results,results143,go_sem,ct,hset]) rfl ⟨by rw[HR.out],HE.out.put4 (ag _) _ _ _ _⟩
    ·have hnb:((n:Int)==0)=false:=by simp[hn0]
     have hn1:1<=n:=by omega
     have HL2:=G (show js m=(js (m.drop (j+n))).map fun x=>((b++[v])++x.1,(j+n)+x.2) by
      rw[HL.out,HST.out hn0,Option.map_map]
      congr 1
      funext x
      simp[eb])
     clear HT HL HBD HST hn0
     go_wp2_with (first
      |(go_at_call 181;refine(HEL.out _).mono ?_;rintro e w1 ⟨rfl,hE⟩;have HO1:=G (HO.out.ext (hE.alloc' (.cells #[.int .u8 (v.toNat:Int)] 5)));have HB1:=G (HB.out.ext (hE.alloc' (.cells #[.int .u8 (v.toNat:Int)] 5)));have HE1:=G (HX.out.trans (hE.alloc' (.cells #[.int .u8 (v.toNat:Int)] 5)));have hz1:=hE.size;clear hE hbc hbf)
      |(at_builtin;refine nh bt rfl _ _ rfl (w.heap.size+1) (.slice B b.length cap) b rfl HO1.out (some ⟨w1.heap.size,0,none⟩) 1 [v] rfl (Sl.one w1 v) (by simp;omega) (by simp;omega) ?_;intro A3 c3 w3 ho3 hg3 _;have HO3:=G ho3;have HG3:=G hg3;clear ho3 hg3))
     go_roundw
     case rel=>
      have hrow:=fun k hk=>(World.ownsRow.lt HO1.out k hk).1;have hx3:=HE1.out.grown HG3.out (fun k hk=>by have:=hrow k hk;omega);have hb3:=HB1.out.grown HG3.out (fun e=>by have:=hrow _ e.symm;omega);refine⟨A3,c3,b++[v],j+n,by rw[Z];rfl,?_,by go_num,by omega,by rw[Z];simp;omega,HL2,hb3,hx3⟩;rw[Z];exact HO3.out
     case measure=>simp[intOf];omega
  ·have hmj:m.drop j=[]:=aD (by omega);have HR:=G (show iV (c::m)= .error 3 by rw[HT.out,HL.out,hmj];rfl);have hlt': ¬(j:Int)+1<m.length+1:=by omega
   clear HT HL hmj;go_wp2_with fail;have hset:=(HB.out.put4 (.int .i64 0) (.string ⟨#[]⟩) (.int .i64 0) (.int .i64 0)).cell;exact bodyPost_ret (v:=ct (.error 3)) (by simp[results,results143,go_sem,ct,hset]) rfl ⟨by rw[HR.out],HX.out.put4 (ag _) _ _ _ _⟩
theorem qH (c:UInt8):0<=Lib.indexByte nH c↔nH.contains c=true:=by
 rcases m_ c nH with⟨h1,h2⟩|⟨h1,h2⟩
 ·rw[h1,h2];simp
 ·rw[h2];simp[h1]
theorem qp (a b:UInt8) (l:List UInt8):([a,b]:List UInt8).isPrefixOf l=(l.take 2==[a,b]):=by
 match l with
 | []=>rfl
 | [c]=>simp[List.isPrefixOf]
 |c::d::r=>
  simp only[List.isPrefixOf,gm,List.take_succ_cons,List.take_zero];rw[show(a==c)=(c==a)from BEq.comm,show(b==d)=(d==b)from BEq.comm];simp
def f_ (i:Nat) (l:List UInt8):Bool:=(two.getD i []).isPrefixOf l
theorem vP (l:List UInt8):two.contains (l.take 2)=(f_ 0 l||f_ 1 l||f_ 2 l||f_ 3 l||f_ 4 l||f_ 5 l):=by
 unfold f_ two;simp only[List.getD_cons_zero,List.getD_cons_succ,qp,fL,List.contains_nil,kF,kG]
theorem wS {i:Nat} {l:List UInt8} (hi:i<6) (h:f_ i l=true):l.take 2=two.getD i []:=by
 unfold f_ two at h;unfold two;have hc:i=0\/i=1\/i=2\/i=3\/i=4\/i=5:=by omega
 rcases hc with rfl|rfl|rfl|rfl|rfl|rfl<;>(simp only[List.getD_cons_zero,List.getD_cons_succ,qp]at h⊢;exact beq_iff_eq.1 h)
end
section
open Go.RowKit
theorem ja {l:List UInt8} {i:Nat} {t:List UInt8} (hi:i<6) (ht:two.getD i []=t) (h:f_ i l=true) (hc:two.contains (l.take 2)=true):ip l= .ok ((5,t,0),2):=by
 unfold ip;rw[if_pos hc,wS hi h,ht]
theorem xf (c:UInt8) (m:List UInt8) (hl:m.length<=100000) (w:World):Calls prog 144 #[.string (ah (c::m))] w fun e w'=>e= .returned (ct (ip (c::m)))/\au w w':=by
 have hsz:(ah (c::m)).size=m.length+1:=by rw[a6];rfl
 have h0:0<(ah (c::m)).size:=by rw[hsz];omega
 have hg:(ah (c::m))[0]=c:=rfl;have hex:(ah (c::m)).extract 0 1=ah [c]:=by rw[ew];rfl
 have HW:=G (vP (c::m));have HPF:=G (fun w (p:List UInt8)=>nE (c::m) p w);have HIX:=G (fun w=>mh nH c w);go_enter func144,ntmps144;go_wp2_with fail
 go_loop [8] (fun vi=>(vi= .int .i64 0/\Hid (two.contains ((c::m).take 2)=(f_ 0 (c::m)||f_ 1 (c::m)||f_ 2 (c::m)||f_ 3 (c::m)||f_ 4 (c::m)||f_ 5 (c::m))))\/(vi= .int .i64 1/\Hid (two.contains ((c::m).take 2)=(f_ 1 (c::m)||f_ 2 (c::m)||f_ 3 (c::m)||f_ 4 (c::m)||f_ 5 (c::m))))\/(vi= .int .i64 2/\Hid (two.contains ((c::m).take 2)=(f_ 2 (c::m)||f_ 3 (c::m)||f_ 4 (c::m)||f_ 5 (c::m))))\/(vi= .int .i64 3/\Hid (two.contains ((c::m).take 2)=(f_ 3 (c::m)||f_ 4 (c::m)||f_ 5 (c::m))))\/(vi= .int .i64 4/\Hid (two.contains ((c::m).take 2)=(f_ 4 (c::m)||f_ 5 (c::m))))\/(vi= .int .i64 5/\Hid (two.contains ((c::m).take 2)=(f_ 5 (c::m))))\/(vi= .int .i64 6/\Hid (two.contains ((c::m).take 2)=(false)))) (fun vi=>7-(intOf vi).toNat)
 case atStart=>exact .inl ⟨rfl,HW⟩
 case round=>
  rcases hrel with⟨rfl,HT⟩|⟨rfl,HT⟩|⟨rfl,HT⟩|⟨rfl,HT⟩|⟨rfl,HT⟩|⟨rfl,HT⟩|⟨rfl,HT⟩
  ·have hidx: ∀w:World,(Instr.index 264 (.agg #[.string ⟨#[61,61]⟩, .string ⟨#[33,61]⟩, .string ⟨#[60,61]⟩, .string ⟨#[62,61]⟩, .string ⟨#[38,38]⟩, .string ⟨#[124,124]⟩]) (.int .i64 0)).run prog w= .ok (.string ⟨#[61,61]⟩) w:=fun w=>by(show _=_;kernel_rfl)
   have HP:=G (fun w=>(show Calls prog 138 #[.string (ah (c::m)), .string ⟨#[61,61]⟩] w fun e w'=>e= .returned (.bool (f_ 0 (c::m)))/\w=w' from HPF.out w [61,61]))
   cases hp:f_ 0 (c::m)with
   |true=>
    have HR:=G (ja (i:=0) (t:=[61,61]) (by omega) rfl hp (by rw[HT.out,hp];simp));rw[hp]at HP;clear hp HT;go_wp2_with (go_at_call 138;refine(HP.out _).mono ?_;rintro e w' ⟨rfl,rfl⟩);exact bodyPost_ret (v:=ct (.ok ((5,[61,61],0),2))) (by simp[results,results144,go_sem,ct];rfl) rfl ⟨by rw[HR.out],I w _⟩
   |false=>
    have HN:=G (show two.contains ((c::m).take 2)=(f_ 1 (c::m)||f_ 2 (c::m)||f_ 3 (c::m)||f_ 4 (c::m)||f_ 5 (c::m)) by rw[HT.out,hp];simp);rw[hp]at HP;clear hp HT;go_wp2_with (go_at_call 138;refine(HP.out _).mono ?_;rintro e w' ⟨rfl,rfl⟩)
    go_round
    case rel=>exact .inr (.inl ⟨rfl,HN⟩)
    case measure=>simp[intOf]
  ·have hidx: ∀w:World,(Instr.index 264 (.agg #[.string ⟨#[61,61]⟩, .string ⟨#[33,61]⟩, .string ⟨#[60,61]⟩, .string ⟨#[62,61]⟩, .string ⟨#[38,38]⟩, .string ⟨#[124,124]⟩]) (.int .i64 1)).run prog w= .ok (.string ⟨#[33,61]⟩) w:=fun w=>by(show _=_;kernel_rfl)
   have HP:=G (fun w=>(show Calls prog 138 #[.string (ah (c::m)), .string ⟨#[33,61]⟩] w fun e w'=>e= .returned (.bool (f_ 1 (c::m)))/\w=w' from HPF.out w [33,61]))
   cases hp:f_ 1 (c::m)with
   |true=>
    have HR:=G (ja (i:=1) (t:=[33,61]) (by omega) rfl hp (by rw[HT.out,hp];simp));rw[hp]at HP;clear hp HT;go_wp2_with (go_at_call 138;refine(HP.out _).mono ?_;rintro e w' ⟨rfl,rfl⟩);exact bodyPost_ret (v:=ct (.ok ((5,[33,61],0),2))) (by simp[results,results144,go_sem,ct];rfl) rfl ⟨by rw[HR.out],I w _⟩
   |false=>
    have HN:=G (show two.contains ((c::m).take 2)=(f_ 2 (c::m)||f_ 3 (c::m)||f_ 4 (c::m)||f_ 5 (c::m)) by rw[HT.out,hp];simp);rw[hp]at HP;clear hp HT;go_wp2_with (go_at_call 138;refine(HP.out _).mono ?_;rintro e w' ⟨rfl,rfl⟩)
    go_round
    case rel=>exact .inr (.inr (.inl ⟨rfl,HN⟩))
    case measure=>simp[intOf]
  ·have hidx: ∀w:World,(Instr.index 264 (.agg #[.string ⟨#[61,61]⟩, .string ⟨#[33,61]⟩, .string ⟨#[60,61]⟩, .string ⟨#[62,61]⟩, .string ⟨#[38,38]⟩, .string ⟨#[124,124]⟩]) (.int .i64 2)).run prog w= .ok (.string ⟨#[60,61]⟩) w:=fun w=>by(show _=_;kernel_rfl)
   have HP:=G (fun w=>(show Calls prog 138 #[.string (ah (c::m)), .string ⟨#[60,61]⟩] w fun e w'=>e= .returned (.bool (f_ 2 (c::m)))/\w=w' from HPF.out w [60,61]))
   cases hp:f_ 2 (c::m)with
   |true=>
    have HR:=G (ja (i:=2) (t:=[60,61]) (by omega) rfl hp (by rw[HT.out,hp];simp));rw[hp]at HP;clear hp HT;go_wp2_with (go_at_call 138;refine(HP.out _).mono ?_;rintro e w' ⟨rfl,rfl⟩);exact bodyPost_ret (v:=ct (.ok ((5,[60,61],0),2))) (by simp[results,results144,go_sem,ct];rfl) rfl ⟨by rw[HR.out],I w _⟩
   |false=>
    have HN:=G (show two.contains ((c::m).take 2)=(f_ 3 (c::m)||f_ 4 (c::m)||f_ 5 (c::m)) by rw[HT.out,hp];simp);rw[hp]at HP;clear hp HT;go_wp2_with (go_at_call 138;refine(HP.out _).mono ?_;rintro e w' ⟨rfl,rfl⟩)
    go_round
    case rel=>exact .inr (.inr (.inr (.inl ⟨rfl,HN⟩)))
    case measure=>simp[intOf]
  ·have hidx: ∀w:World,(Instr.index 264 (.agg #[.string ⟨#[61,61]⟩, .string ⟨#[33,61]⟩, .string ⟨#[60,61]⟩, .string ⟨#[62,61]⟩, .string ⟨#[38,38]⟩, .string ⟨#[124,124]⟩]) (.int .i64 3)).run prog w= .ok (.string ⟨#[62,61]⟩) w:=fun w=>by(show _=_;kernel_rfl)
   have HP:=G (fun w=>(show Calls prog 138 #[.string (ah (c::m)), .string ⟨#[62,61]⟩] w fun e w'=>e= .returned (.bool (f_ 3 (c::m)))/\w=w' from HPF.out w [62,61]))
   cases hp:f_ 3 (c::m)with
   |true=>
    have HR:=G (ja (i:=3) (t:=[62,61]) (by omega) rfl hp (by rw[HT.out,hp];simp));rw[hp]at HP;clear hp HT;go_wp2_with (go_at_call 138;refine(HP.out _).mono ?_;rintro e w' ⟨rfl,rfl⟩);exact bodyPost_ret (v:=ct (.ok ((5,[62,61],0),2))) (by simp[results,results144,go_sem,ct];rfl) rfl ⟨by rw[HR.out],I w _⟩
   |false=>
    have HN:=G (show two.contains ((c::m).take 2)=(f_ 4 (c::m)||f_ 5 (c::m)) by rw[HT.out,hp];simp);rw[hp]at HP;clear hp HT;go_wp2_with (go_at_call 138;refine(HP.out _).mono ?_;rintro e w' ⟨rfl,rfl⟩)
    go_round
    case rel=>exact .inr (.inr (.inr (.inr (.inl ⟨rfl,HN⟩))))
    case measure=>simp[intOf]
  ·have hidx: ∀w:World,(Instr.index 264 (.agg #[.string ⟨#[61,61]⟩, .string ⟨#[33,61]⟩, .string ⟨#[60,61]⟩, .string ⟨#[62,61]⟩, .string ⟨#[38,38]⟩, .string ⟨#[124,124]⟩]) (.int .i64 4)).run prog w= .ok (.string ⟨#[38,38]⟩) w:=fun w=>by(show _=_;kernel_rfl)
   have HP:=G (fun w=>(show Calls prog 138 #[.string (ah (c::m)), .string ⟨#[38,38]⟩] w fun e w'=>e= .returned (.bool (f_ 4 (c::m)))/\w=w' from HPF.out w [38,38]))
   cases hp:f_ 4 (c::m)with
   |true=>
    have HR:=G (ja (i:=4) (t:=[38,38]) (by omega) rfl hp (by rw[HT.out,hp];simp));rw[hp]at HP;clear hp HT;go_wp2_with (go_at_call 138;refine(HP.out _).mono ?_;rintro e w' ⟨rfl,rfl⟩);exact bodyPost_ret (v:=ct (.ok ((5,[38,38],0),2))) (by simp[results,results144,go_sem,ct];rfl) rfl ⟨by rw[HR.out],I w _⟩
   |false=>
    have HN:=G (show two.contains ((c::m).take 2)=(f_ 5 (c::m)) by rw[HT.out,hp];simp);rw[hp]at HP;clear hp HT;go_wp2_with (go_at_call 138;refine(HP.out _).mono ?_;rintro e w' ⟨rfl,rfl⟩)
    go_round
    case rel=>exact .inr (.inr (.inr (.inr (.inr (.inl ⟨rfl,HN⟩)))))
    case measure=>simp[intOf]
  ·have hidx: ∀w:World,(Instr.index 264 (.agg #[.string ⟨#[61,61]⟩, .string ⟨#[33,61]⟩, .string ⟨#[60,61]⟩, .string ⟨#[62,61]⟩, .string ⟨#[38,38]⟩, .string ⟨#[124,124]⟩]) (.int .i64 5)).run prog w= .ok (.string ⟨#[124,124]⟩) w:=fun w=>by(show _=_;kernel_rfl)
   have HP:=G (fun w=>(show Calls prog 138 #[.string (ah (c::m)), .string ⟨#[124,124]⟩] w fun e w'=>e= .returned (.bool (f_ 5 (c::m)))/\w=w' from HPF.out w [124,124]))
   cases hp:f_ 5 (c::m)with
   |true=>
    have HR:=G (ja (i:=5) (t:=[124,124]) (by omega) rfl hp (by rw[HT.out,hp]));rw[hp]at HP;clear hp HT;go_wp2_with (go_at_call 138;refine(HP.out _).mono ?_;rintro e w' ⟨rfl,rfl⟩);exact bodyPost_ret (v:=ct (.ok ((5,[124,124],0),2))) (by simp[results,results144,go_sem,ct];rfl) rfl ⟨by rw[HR.out],I w _⟩
   |false=>
    have HN:=G (show two.contains ((c::m).take 2)=(false) by rw[HT.out,hp]);rw[hp]at HP;clear hp HT;go_wp2_with (go_at_call 138;refine(HP.out _).mono ?_;rintro e w' ⟨rfl,rfl⟩)
    go_round
    case rel=>exact .inr (.inr (.inr (.inr (.inr (.inr (⟨rfl,HN⟩))))))
    case measure=>simp[intOf]
  ·have HI:=G (fun w=>(show Calls prog 137 #[.string ⟨#[40,41,123,125,91,93,44,59,61,43,45,42,47,37,60,62,33]⟩, .int .u8 (c.toNat:Int)] w fun e w'=>e= .returned (.int .i64 (Lib.indexByte nH c))/\w=w' from HIX.out w));by_cases h1:0<=Lib.indexByte nH c
   ·have HR:=G (show ip (c::m)= .ok ((5,[c],0),1) by
     unfold ip;rw[HT.out,if_neg (by simp),if_pos]
     ·rfl
     ·show(some c).any (fun c=>nH.contains c)=true
      simpa using(qH c).1 h1)
    generalize Lib.indexByte nH c=ix at*;clear HT;go_wp2_with (go_at_call 137;refine(HI.out _).mono ?_;rintro e w' ⟨rfl,rfl⟩);exact bodyPost_ret (v:=ct (.ok ((5,[c],0),1))) (by simp[results,results144,go_sem,ct]) rfl ⟨by rw[HR.out],I w _⟩
   ·have HR:=G (show ip (c::m)= .error 3 by
     unfold ip;rw[HT.out,if_neg (by simp),if_neg];show ¬(some c).any (fun c=>nH.contains c)=true;intro h
     exact h1 ((qH c).2 (by simpa using h)))
    generalize Lib.indexByte nH c=ix at*;clear HT;go_wp2_with (go_at_call 137;refine(HI.out _).mono ?_;rintro e w' ⟨rfl,rfl⟩);exact bodyPost_ret (v:=ct (.error 3)) (by simp[results,results144,go_sem,ct]) rfl ⟨by rw[HR.out],I w _⟩
def EZ (w:World):Prop:=(∃ev,w.cell? ⟨4,0,none⟩=some ev/\(ev= .nilIface\/ ∃te pe,ev= .iface te pe))/\(∃ev,w.cell? ⟨5,0,none⟩=some ev/\(ev= .nilIface\/ ∃te pe,ev= .iface te pe))
theorem EZ.ext {w w':World} (h:EZ w) (he:au w w'):EZ w':=by
 obtain⟨⟨a,a1,a2⟩,b,b1,b2⟩:=h;exact⟨⟨a,(he.cell _ _ (World.block_lt_of_cell? _ _ a1)).trans a1,a2⟩,b,(he.cell _ _ (World.block_lt_of_cell? _ _ b1)).trans b1,b2⟩
theorem oJ (p:UInt8->Bool): ∀l:List UInt8,∀c∈l.take (bX p l),p c=true
 | [],c,h=>by simp at h
 |x::l,c,h=>by
  simp only[bX]at h;split at h
  ·rename_i hx;rw[List.take_succ_cons]at h;rcases List.mem_cons.1 h with rfl|h
   ·exact hx
   ·exact oJ p l c h
  ·simp at h
def ri (acc:Nat) (l:List UInt8):Nat:=l.foldl (fun v c=>v*10+(c.toNat-48)) acc
theorem tN: ∀(l:List UInt8) (acc:Nat),acc<=ri acc l
 | [],acc=>ag _
 |c::l,acc=>by
  have:=tN l (acc*10+(c.toNat-48));show acc<=ri (acc*10+(c.toNat-48)) l;omega
theorem mE: ∀(l:List UInt8) (acc:Nat),(∀c∈l,eF c=true)->Lib.parseUint10 acc l= .ok (ri acc l)\/(Lib.parseUint10 acc l= .range/\18446744073709551616<=ri acc l)
 | [],acc,_=> .inl rfl
 |c::l,acc,h=>by
  have hc:48<=c.toNat/\c.toNat<=57:=by have:=h c (fK ..);unfold eF at this;simpa using this
  have hg:=tN l (acc*10+(c.toNat-48));have he:ri acc (c::l)=ri (acc*10+(c.toNat-48)) l:=rfl;simp only[Lib.parseUint10];rw[if_pos hc,he];split
  ·exact .inr ⟨rfl,by omega⟩
  ·split
   ·exact .inr ⟨rfl,by omega⟩
   ·exact mE l _ fun d hd=>h d (gp _ hd)
theorem rx {l:List UInt8} (hne:l≠ []) (h: ∀c∈l,eF c=true):(Lib.atoiAll l= .ok (lQ l:Int))\/(Lib.atoiAll l= .range/\Lib.atoiSat l=9223372036854775807/\9223372036854775808<=lQ l):=by
 match l with
 | []=>exact absurd rfl hne
 |c::r=>
  have hc:48<=c.toNat/\c.toNat<=57:=by have:=h c (fK ..);unfold eF at this;simpa using this
  have h45: ¬c.toNat=45:=by omega
  have h43: ¬(c.toNat=43\/c.toNat=45):=by omega
  have hd:lQ (c::r)=ri 0 (c::r):=rfl;have hsat:Lib.atoiSat (c::r)=9223372036854775807:=by
   unfold Lib.atoiSat;rw[if_neg (by simp;omega)]
  have hm:Lib.parseMag (c::r)=Lib.parseUint10 0 (c::r):=by unfold Lib.parseMag;rw[if_neg (by simp)]
  rcases mE (c::r) 0 h with h1|⟨h1,h2⟩
  ·by_cases hb:9223372036854775808<=ri 0 (c::r)
   ·refine .inr ⟨?_,hsat,by rw[hd];exact hb⟩;simp only[Lib.atoiAll];rw[if_neg h43,hm,h1];simp only;rw[if_pos ⟨h45,hb⟩]
   ·refine .inl ?_;simp only[Lib.atoiAll];rw[if_neg h43,hm,h1];simp only;rw[if_neg (by omega),if_neg (by omega),if_neg h45,hd]
  ·refine .inr ⟨?_,hsat,by rw[hd];omega⟩;simp only[Lib.atoiAll];rw[if_neg h43,hm,h1]
theorem yh (l:List UInt8) (hne:l≠ []) (hl:l.length<=100000) (h: ∀c∈l,eF c=true) (w:World) (hz:EZ w):
  ∃v:Int,(v=lQ l\/(v=9223372036854775807/\9223372036854775808<=lQ l))/\Calls prog 180 #[.string (ah l)] w fun e w'=>(∃er,e= .returned (.tuple #[.int .i64 v,er]))/\au w w':=by
 rcases rx hne h with h1|⟨h1,h2,h3⟩
 ·refine⟨lQ l, .inl rfl,?_⟩;refine(Tryz.strconv_Atoi_ok (ah l) (by rw[a6];omega) (lQ l) (by rw[gT];exact h1) w).mono ?_;rintro e w' ⟨rfl,h⟩;refine⟨⟨_,rfl⟩,?_⟩;rcases h with rfl|⟨t,rfl⟩
  ·exact aO _
  ·exact Lib.bytesWorld_below _ _ _
 ·refine⟨9223372036854775807, .inr ⟨rfl,h3⟩,?_⟩;obtain⟨ev,q1,q2⟩:=hz.2;refine(Tryz.strconv_Atoi_range (ah l) (by rw[a6];omega) (by rw[gT];exact h1) ev w q1 q2).mono ?_;rintro e w' ⟨N,rfl,_,_,hb⟩;rw[gT,h2];exact⟨⟨_,rfl⟩,hb⟩
end
section
open Go.RowKit
theorem w_ (c:UInt8) (m:List UInt8) {n:Nat} {x:List UInt8} (hn:bX eF (c::m)=n) (hx:(c::m).take n=x):gV (c::m)=if((c::m).drop n).head?.any eT then .error 3 else if 10<n\/(1<n/\c=48)\/2147483647<lQ x then .error 2 else .ok ((3,[],lQ x),n):=by
 subst hn;subst hx;unfold gV;simp
theorem zj (c:UInt8) (m:List UInt8) {n:Nat} (hle:n<=m.length+1) (hlt: ¬n<m.length+1):((c::m).drop n).head?.any eT=false:=by
 rw[aD (by simp;omega)];rfl
theorem Ba (c:UInt8) (m:List UInt8) {n:Nat} (hlt:n<(c::m).length):((c::m).drop n).head?.any eT=eT (c::m)[n]:=by
 rw[mn _ _ hlt];rfl
theorem sj (c:UInt8) (m:List UInt8) (hc:eF c=true) (hl:(c::m).length<=100000) (w:World) (hz:EZ w):Calls prog 141 #[.string (ah (c::m))] w fun e w'=>e= .returned (ct (gV (c::m)))/\au w w':=by
 have hsz:(ah (c::m)).size=m.length+1:=by rw[a6];rfl
 have h0:0<(ah (c::m)).size:=by rw[hsz];omega
 have hg0:(ah (c::m))[0]=c:=rfl;have hl1:m.length<=99999:=by simpa using hl
 have hle:bX eF (c::m)<=m.length+1:=gU eF (c::m);have hn1:1<=bX eF (c::m):=by simp[bX,hc]
 have hall:=oJ eF (c::m);have hex:=ew (c::m) 0 (bX eF (c::m));simp only[an]at hex;have HSP:=G (fun w=>qx eF 140 mr (.inr rfl) (c::m) hl w);have HTX:=fun x h=>G (w_ c m (n:=bX eF (c::m)) (x:=x) rfl h);have HX0:=G (I w (.cells #[.int .i64 0, .string ⟨#[]⟩, .int .i64 0, .int .i64 0] 206));have HB0:=G (am w 206 #[.int .i64 0, .string ⟨#[]⟩, .int .i64 0, .int .i64 0]);have hxne:(c::m).take (bX eF (c::m))≠ []:=by intro h;have:=congrArg List.length h;simp at this;omega
 have hxl:((c::m).take (bX eF (c::m))).length<=100000:=by have:=List.length_take_le' (bX eF (c::m)) (c::m);omega
 obtain⟨v,hv,HA⟩:=yh ((c::m).take (bX eF (c::m))) hxne hxl hall _ (hz.ext HX0.out);have HA:=G HA;have HT:=HTX _ rfl;clear HTX;generalize hn:bX eF (c::m)=n at*;generalize hx:(c::m).take n=x at*;clear hn hxne hall hxl hx;have hvr:v<=2147483647->v=lQ x:=by omega
 have hvg:2147483647<v->2147483647<lQ x:=by omega
 have hv1:v<=2147483647-> ¬2147483647<lQ x:=by omega
 clear hv;by_cases hlt:n<m.length+1
 ·have hns:n<(ah (c::m)).size:=by rw[hsz];exact hlt
  have hg:(ah (c::m))[n]=(c::m)[n]'hlt:=rfl;have hH:=Ba c m (n:=n) hlt;have HPT:=G (lC ((c::m)[n]'hlt));have hlt':(n:Int)<m.length+1:=by omega
  generalize (c::m)[n]'hlt=d at*
  cases hp:eT d with
  |true=>
   rw[hp]at HPT hH;have HR:=G (show gV (c::m)= .error 3 by rw[HT.out,hH,if_pos rfl]);clear hH hp;clear HT hc hvr hvg hv1;go_enter func141,ntmps141
   go_wp2_with (first
    |(go_at_call 179;refine(HSP.out _).mono ?_;rintro e w' ⟨rfl,rfl⟩)
    |(go_at_call 180;refine HA.out.mono ?_;rintro e w1 ⟨⟨er,rfl⟩,hE⟩;have HB:=G (HB0.out.ext hE);have HX:=G (HX0.out.trans hE);clear hE;have hbc:=HB.out.cell;have hbf:=HB.out.frozen)
    |(go_at_call 107;refine(HPT.out _).mono ?_;rintro e w' ⟨rfl,rfl⟩))
   have hset:=(HB.out.put4 (.int .i64 0) (.string ⟨#[]⟩) (.int .i64 0) (.int .i64 0)).cell;exact bodyPost_ret (v:=ct (.error 3)) (by simp[results,results141,go_sem,ct,hset]) rfl ⟨by rw[HR.out],HX.out.put4 (ag _) _ _ _ _⟩
  |false=>
   rw[hp]at HPT hH;clear hp;by_cases hA:10<n
   ·have hA':(10:Int)<n:=by omega
    have HR:=G (show gV (c::m)= .error 2 by rw[HT.out,hH,if_neg (by simp),if_pos (.inl hA)]);clear hH;clear HT hc hvr hvg hv1;go_enter func141,ntmps141
    go_wp2_with (first
     |(go_at_call 179;refine(HSP.out _).mono ?_;rintro e w' ⟨rfl,rfl⟩)
     |(go_at_call 180;refine HA.out.mono ?_;rintro e w1 ⟨⟨er,rfl⟩,hE⟩;have HB:=G (HB0.out.ext hE);have HX:=G (HX0.out.trans hE);clear hE;have hbc:=HB.out.cell;have hbf:=HB.out.frozen)
     |(go_at_call 107;refine(HPT.out _).mono ?_;rintro e w' ⟨rfl,rfl⟩))
    have hset:=(HB.out.put4 (.int .i64 0) (.string ⟨#[]⟩) (.int .i64 0) (.int .i64 0)).cell;exact bodyPost_ret (v:=ct (.error 2)) (by simp[results,results141,go_sem,ct,hset]) rfl ⟨by rw[HR.out],HX.out.put4 (ag _) _ _ _ _⟩
   ·have hA': ¬(10:Int)<n:=by omega
    by_cases hB:1<n
    ·have hB':(1:Int)<n:=by omega
     by_cases hC:c=48
     ·have hC':((c.toNat:Int)==48)=true:=by rw[hC];rfl
      have HR:=G (show gV (c::m)= .error 2 by rw[HT.out,hH,if_neg (by simp),if_pos (.inr (.inl ⟨hB,hC⟩))]);clear hH hC;clear HT hc hvr hvg hv1;go_enter func141,ntmps141
      go_wp2_with (first
       |(go_at_call 179;refine(HSP.out _).mono ?_;rintro e w' ⟨rfl,rfl⟩)
       |(go_at_call 180;refine HA.out.mono ?_;rintro e w1 ⟨⟨er,rfl⟩,hE⟩;have HB:=G (HB0.out.ext hE);have HX:=G (HX0.out.trans hE);clear hE;have hbc:=HB.out.cell;have hbf:=HB.out.frozen)
       |(go_at_call 107;refine(HPT.out _).mono ?_;rintro e w' ⟨rfl,rfl⟩))
      have hset:=(HB.out.put4 (.int .i64 0) (.string ⟨#[]⟩) (.int .i64 0) (.int .i64 0)).cell;exact bodyPost_ret (v:=ct (.error 2)) (by simp[results,results141,go_sem,ct,hset]) rfl ⟨by rw[HR.out],HX.out.put4 (ag _) _ _ _ _⟩
     ·have hC':((c.toNat:Int)==48)=false:=(dF c 48 (by omega)).trans (beq_eq_false_iff_ne.2 hC);by_cases hV:2147483647<v
      ·have HR:=G (show gV (c::m)= .error 2 by rw[HT.out,hH,if_neg (by simp),if_pos (.inr (.inr (hvg hV)))]);clear hH;clear hC;clear HT hc hvr hvg hv1;go_enter func141,ntmps141
       go_wp2_with (first
        |(go_at_call 179;refine(HSP.out _).mono ?_;rintro e w' ⟨rfl,rfl⟩)
        |(go_at_call 180;refine HA.out.mono ?_;rintro e w1 ⟨⟨er,rfl⟩,hE⟩;have HB:=G (HB0.out.ext hE);have HX:=G (HX0.out.trans hE);clear hE;have hbc:=HB.out.cell;have hbf:=HB.out.frozen)
        |(go_at_call 107;refine(HPT.out _).mono ?_;rintro e w' ⟨rfl,rfl⟩))
       have hset:=(HB.out.put4 (.int .i64 0) (.string ⟨#[]⟩) (.int .i64 0) (.int .i64 0)).cell;exact bodyPost_ret (v:=ct (.error 2)) (by simp[results,results141,go_sem,ct,hset]) rfl ⟨by rw[HR.out],HX.out.put4 (ag _) _ _ _ _⟩
      ·have HR:=G (show gV (c::m)= .ok ((3,[],v),n) by rw[HT.out,hH,if_neg (by simp),if_neg (by rintro(h|h|h);exact hA h;exact(fun h:1<n/\c=48=>hC h.2) h;exact hv1 (by omega) h),hvr (by omega)]);clear hH;clear hC;clear HT hc hvr hvg hv1;go_enter func141,ntmps141
       go_wp2_with (first
        |(go_at_call 179;refine(HSP.out _).mono ?_;rintro e w' ⟨rfl,rfl⟩)
        |(go_at_call 180;refine HA.out.mono ?_;rintro e w1 ⟨⟨er,rfl⟩,hE⟩;have HB:=G (HB0.out.ext hE);have HX:=G (HX0.out.trans hE);clear hE;have hbc:=HB.out.cell;have hbf:=HB.out.frozen)
        |(go_at_call 107;refine(HPT.out _).mono ?_;rintro e w' ⟨rfl,rfl⟩))
       have hset:=(HB.out.put4 (.int .i64 3) (.string ⟨#[]⟩) (.int .i64 v) (.int .i64 0)).cell;exact bodyPost_ret (v:=ct (.ok ((3,[],v),n))) (by simp[results,results141,go_sem,ct,hset];rfl) rfl ⟨by rw[HR.out],HX.out.put4 (ag _) _ _ _ _⟩
    ·have hB': ¬(1:Int)<n:=by omega
     by_cases hV:2147483647<v
     ·have HR:=G (show gV (c::m)= .error 2 by rw[HT.out,hH,if_neg (by simp),if_pos (.inr (.inr (hvg hV)))]);clear hH;clear HT hc hvr hvg hv1;go_enter func141,ntmps141
      go_wp2_with (first
       |(go_at_call 179;refine(HSP.out _).mono ?_;rintro e w' ⟨rfl,rfl⟩)
       |(go_at_call 180;refine HA.out.mono ?_;rintro e w1 ⟨⟨er,rfl⟩,hE⟩;have HB:=G (HB0.out.ext hE);have HX:=G (HX0.out.trans hE);clear hE;have hbc:=HB.out.cell;have hbf:=HB.out.frozen)
       |(go_at_call 107;refine(HPT.out _).mono ?_;rintro e w' ⟨rfl,rfl⟩))
      have hset:=(HB.out.put4 (.int .i64 0) (.string ⟨#[]⟩) (.int .i64 0) (.int .i64 0)).cell;exact bodyPost_ret (v:=ct (.error 2)) (by simp[results,results141,go_sem,ct,hset]) rfl ⟨by rw[HR.out],HX.out.put4 (ag _) _ _ _ _⟩
     ·have HR:=G (show gV (c::m)= .ok ((3,[],v),n) by rw[HT.out,hH,if_neg (by simp),if_neg (by rintro(h|h|h);exact hA h;exact(fun h:1<n/\c=48=>hB h.1) h;exact hv1 (by omega) h),hvr (by omega)]);clear hH;clear HT hc hvr hvg hv1;go_enter func141,ntmps141
      go_wp2_with (first
       |(go_at_call 179;refine(HSP.out _).mono ?_;rintro e w' ⟨rfl,rfl⟩)
       |(go_at_call 180;refine HA.out.mono ?_;rintro e w1 ⟨⟨er,rfl⟩,hE⟩;have HB:=G (HB0.out.ext hE);have HX:=G (HX0.out.trans hE);clear hE;have hbc:=HB.out.cell;have hbf:=HB.out.frozen)
       |(go_at_call 107;refine(HPT.out _).mono ?_;rintro e w' ⟨rfl,rfl⟩))
      have hset:=(HB.out.put4 (.int .i64 3) (.string ⟨#[]⟩) (.int .i64 v) (.int .i64 0)).cell;exact bodyPost_ret (v:=ct (.ok ((3,[],v),n))) (by simp[results,results141,go_sem,ct,hset];rfl) rfl ⟨by rw[HR.out],HX.out.put4 (ag _) _ _ _ _⟩
 ·have hlt': ¬(n:Int)<m.length+1:=by omega
  have hH:=zj c m hle hlt;have HPT:=G (lC 0);by_cases hA:10<n
  ·have hA':(10:Int)<n:=by omega
   have HR:=G (show gV (c::m)= .error 2 by rw[HT.out,hH,if_neg (by simp),if_pos (.inl hA)]);clear hH;clear HT hc hvr hvg hv1;go_enter func141,ntmps141
   go_wp2_with (first
    |(go_at_call 179;refine(HSP.out _).mono ?_;rintro e w' ⟨rfl,rfl⟩)
    |(go_at_call 180;refine HA.out.mono ?_;rintro e w1 ⟨⟨er,rfl⟩,hE⟩;have HB:=G (HB0.out.ext hE);have HX:=G (HX0.out.trans hE);clear hE;have hbc:=HB.out.cell;have hbf:=HB.out.frozen)
    |(go_at_call 107;refine(HPT.out _).mono ?_;rintro e w' ⟨rfl,rfl⟩))
   have hset:=(HB.out.put4 (.int .i64 0) (.string ⟨#[]⟩) (.int .i64 0) (.int .i64 0)).cell;exact bodyPost_ret (v:=ct (.error 2)) (by simp[results,results141,go_sem,ct,hset]) rfl ⟨by rw[HR.out],HX.out.put4 (ag _) _ _ _ _⟩
  ·have hA': ¬(10:Int)<n:=by omega
   by_cases hB:1<n
   ·have hB':(1:Int)<n:=by omega
    by_cases hC:c=48
    ·have hC':((c.toNat:Int)==48)=true:=by rw[hC];rfl
     have HR:=G (show gV (c::m)= .error 2 by rw[HT.out,hH,if_neg (by simp),if_pos (.inr (.inl ⟨hB,hC⟩))]);clear hH hC;clear HT hc hvr hvg hv1;go_enter func141,ntmps141
     go_wp2_with (first
      |(go_at_call 179;refine(HSP.out _).mono ?_;rintro e w' ⟨rfl,rfl⟩)
      |(go_at_call 180;refine HA.out.mono ?_;rintro e w1 ⟨⟨er,rfl⟩,hE⟩;have HB:=G (HB0.out.ext hE);have HX:=G (HX0.out.trans hE);clear hE;have hbc:=HB.out.cell;have hbf:=HB.out.frozen)
      |(go_at_call 107;refine(HPT.out _).mono ?_;rintro e w' ⟨rfl,rfl⟩))
     have hset:=(HB.out.put4 (.int .i64 0) (.string ⟨#[]⟩) (.int .i64 0) (.int .i64 0)).cell;exact bodyPost_ret (v:=ct (.error 2)) (by simp[results,results141,go_sem,ct,hset]) rfl ⟨by rw[HR.out],HX.out.put4 (ag _) _ _ _ _⟩
    ·have hC':((c.toNat:Int)==48)=false:=(dF c 48 (by omega)).trans (beq_eq_false_iff_ne.2 hC);by_cases hV:2147483647<v
     ·have HR:=G (show gV (c::m)= .error 2 by rw[HT.out,hH,if_neg (by simp),if_pos (.inr (.inr (hvg hV)))]);clear hH;clear hC;clear HT hc hvr hvg hv1;go_enter func141,ntmps141
      go_wp2_with (first
       |(go_at_call 179;refine(HSP.out _).mono ?_;rintro e w' ⟨rfl,rfl⟩)
       |(go_at_call 180;refine HA.out.mono ?_;rintro e w1 ⟨⟨er,rfl⟩,hE⟩;have HB:=G (HB0.out.ext hE);have HX:=G (HX0.out.trans hE);clear hE;have hbc:=HB.out.cell;have hbf:=HB.out.frozen)
       |(go_at_call 107;refine(HPT.out _).mono ?_;rintro e w' ⟨rfl,rfl⟩))
      have hset:=(HB.out.put4 (.int .i64 0) (.string ⟨#[]⟩) (.int .i64 0) (.int .i64 0)).cell;exact bodyPost_ret (v:=ct (.error 2)) (by simp[results,results141,go_sem,ct,hset]) rfl ⟨by rw[HR.out],HX.out.put4 (ag _) _ _ _ _⟩
     ·have HR:=G (show gV (c::m)= .ok ((3,[],v),n) by rw[HT.out,hH,if_neg (by simp),if_neg (by rintro(h|h|h);exact hA h;exact(fun h:1<n/\c=48=>hC h.2) h;exact hv1 (by omega) h),hvr (by omega)]);clear hH;clear hC;clear HT hc hvr hvg hv1;go_enter func141,ntmps141
      go_wp2_with (first
       |(go_at_call 179;refine(HSP.out _).mono ?_;rintro e w' ⟨rfl,rfl⟩)
       |(go_at_call 180;refine HA.out.mono ?_;rintro e w1 ⟨⟨er,rfl⟩,hE⟩;have HB:=G (HB0.out.ext hE);have HX:=G (HX0.out.trans hE);clear hE;have hbc:=HB.out.cell;have hbf:=HB.out.frozen)
       |(go_at_call 107;refine(HPT.out _).mono ?_;rintro e w' ⟨rfl,rfl⟩))
      have hset:=(HB.out.put4 (.int .i64 3) (.string ⟨#[]⟩) (.int .i64 v) (.int .i64 0)).cell;exact bodyPost_ret (v:=ct (.ok ((3,[],v),n))) (by simp[results,results141,go_sem,ct,hset];rfl) rfl ⟨by rw[HR.out],HX.out.put4 (ag _) _ _ _ _⟩
   ·have hB': ¬(1:Int)<n:=by omega
    by_cases hV:2147483647<v
    ·have HR:=G (show gV (c::m)= .error 2 by rw[HT.out,hH,if_neg (by simp),if_pos (.inr (.inr (hvg hV)))]);clear hH;clear HT hc hvr hvg hv1;go_enter func141,ntmps141
     go_wp2_with (first
      |(go_at_call 179;refine(HSP.out _).mono ?_;rintro e w' ⟨rfl,rfl⟩)
      |(go_at_call 180;refine HA.out.mono ?_;rintro e w1 ⟨⟨er,rfl⟩,hE⟩;have HB:=G (HB0.out.ext hE);have HX:=G (HX0.out.trans hE);clear hE;have hbc:=HB.out.cell;have hbf:=HB.out.frozen)
      |(go_at_call 107;refine(HPT.out _).mono ?_;rintro e w' ⟨rfl,rfl⟩))
     have hset:=(HB.out.put4 (.int .i64 0) (.string ⟨#[]⟩) (.int .i64 0) (.int .i64 0)).cell;exact bodyPost_ret (v:=ct (.error 2)) (by simp[results,results141,go_sem,ct,hset]) rfl ⟨by rw[HR.out],HX.out.put4 (ag _) _ _ _ _⟩
    ·have HR:=G (show gV (c::m)= .ok ((3,[],v),n) by rw[HT.out,hH,if_neg (by simp),if_neg (by rintro(h|h|h);exact hA h;exact(fun h:1<n/\c=48=>hB h.1) h;exact hv1 (by omega) h),hvr (by omega)]);clear hH;clear HT hc hvr hvg hv1;go_enter func141,ntmps141
     go_wp2_with (first
      |(go_at_call 179;refine(HSP.out _).mono ?_;rintro e w' ⟨rfl,rfl⟩)
      |(go_at_call 180;refine HA.out.mono ?_;rintro e w1 ⟨⟨er,rfl⟩,hE⟩;have HB:=G (HB0.out.ext hE);have HX:=G (HX0.out.trans hE);clear hE;have hbc:=HB.out.cell;have hbf:=HB.out.frozen)
      |(go_at_call 107;refine(HPT.out _).mono ?_;rintro e w' ⟨rfl,rfl⟩))
     have hset:=(HB.out.put4 (.int .i64 3) (.string ⟨#[]⟩) (.int .i64 v) (.int .i64 0)).cell;exact bodyPost_ret (v:=ct (.ok ((3,[],v),n))) (by simp[results,results141,go_sem,ct,hset];rfl) rfl ⟨by rw[HR.out],HX.out.put4 (ag _) _ _ _ _⟩
theorem gS (r:rA): ∃k s v n e,ct r= .tuple #[.agg #[.int .i64 k, .string s, .int .i64 v, .int .i64 0], .int .i64 n, .int .i64 e]:=by
 cases r with
 |ok x=>exact⟨_,_,_,_,_,rfl⟩
 |error e=>exact⟨_,_,_,_,_,rfl⟩
theorem vW (c:UInt8) (m:List UInt8):jX (c::m)=if kA c then jE (c::m)else if eF c then gV (c::m)else if c=39 then iz (c::m)else if c=34 then iV (c::m)else ip (c::m):=rfl
theorem uf (c:UInt8) (m:List UInt8) (hl:(c::m).length<=100000) (w:World) (hz:EZ w):Calls prog 97 #[.string (ah (c::m))] w fun e w'=>e= .returned (ct (jX (c::m)))/\au w w':=by
 have hsz:(ah (c::m)).size=m.length+1:=by rw[a6];rfl
 have h0:0<(ah (c::m)).size:=by rw[hsz];omega
 have hg0:(ah (c::m))[0]=c:=rfl;have hl1:m.length<=99999:=by simpa using hl
 have HL:=G (kW c);have HD:=G (mr c);have HX0:=G (I w (.cells #[.int .i64 0, .string ⟨#[]⟩, .int .i64 0, .int .i64 0] 206));have HB0:=G (am w 206 #[.int .i64 0, .string ⟨#[]⟩, .int .i64 0, .int .i64 0]);have HT:=G (vW c m)
 cases hL:kA c with
 |true=>
  rw[hL]at HL;have HR:=G (show jX (c::m)=jE (c::m) by rw[HT.out,hL,if_pos rfl]);obtain⟨k,s,v,n,e,hr⟩:=gS (jE (c::m));have HF:=G (vL (c::m) hl (w.alloc (.cells #[.int .i64 0, .string ⟨#[]⟩, .int .i64 0, .int .i64 0] 206)));rw[hr]at HF;have HV:=G hr;clear hL HT hr hz;go_enter func97,ntmps97
  go_wp2_with (first
   |(go_at_call 108;refine(HL.out _).mono ?_;rintro e' w' ⟨rfl,rfl⟩)
   |(go_at_call 140;refine(HD.out _).mono ?_;rintro e' w' ⟨rfl,rfl⟩)
   |(go_at_call 139;refine HF.out.mono ?_;rintro e' w1 ⟨rfl,hE⟩;have HB:=G (HB0.out.ext hE);have HX:=G (HX0.out.trans hE);clear hE;have hbc:=HB.out.cell;have hbf:=HB.out.frozen))
  have hset:=(HB.out.put4 (.int .i64 k) (.string s) (.int .i64 v) (.int .i64 0)).cell;exact bodyPost_ret (v:= .tuple #[.agg #[.int .i64 k, .string s, .int .i64 v, .int .i64 0], .int .i64 n, .int .i64 e]) (by simp[results,results97,go_sem,hset]) rfl ⟨by rw[HR.out,HV.out],HX.out.put4 (ag _) _ _ _ _⟩
 |false=>
  rw[hL]at HL
  cases hD:eF c with
  |true=>
   rw[hD]at HD;have HR:=G (show jX (c::m)=gV (c::m) by rw[HT.out,hL,if_neg (by simp),hD,if_pos rfl]);obtain⟨k,s,v,n,e,hr⟩:=gS (gV (c::m));have HF:=G (sj c m hD hl (w.alloc (.cells #[.int .i64 0, .string ⟨#[]⟩, .int .i64 0, .int .i64 0] 206)) (hz.ext HX0.out));rw[hr]at HF;have HV:=G hr;clear hL hD HT hr hz;go_enter func97,ntmps97
   go_wp2_with (first
    |(go_at_call 108;refine(HL.out _).mono ?_;rintro e' w' ⟨rfl,rfl⟩)
    |(go_at_call 140;refine(HD.out _).mono ?_;rintro e' w' ⟨rfl,rfl⟩)
    |(go_at_call 141;refine HF.out.mono ?_;rintro e' w1 ⟨rfl,hE⟩;have HB:=G (HB0.out.ext hE);have HX:=G (HX0.out.trans hE);clear hE;have hbc:=HB.out.cell;have hbf:=HB.out.frozen))
   have hset:=(HB.out.put4 (.int .i64 k) (.string s) (.int .i64 v) (.int .i64 0)).cell;exact bodyPost_ret (v:= .tuple #[.agg #[.int .i64 k, .string s, .int .i64 v, .int .i64 0], .int .i64 n, .int .i64 e]) (by simp[results,results97,go_sem,hset]) rfl ⟨by rw[HR.out,HV.out],HX.out.put4 (ag _) _ _ _ _⟩
  |false=>
   rw[hD]at HD;by_cases h39:c=39
   ·have HR:=G (show jX (c::m)=iz (c::m) by rw[HT.out,hL,if_neg (by simp),hD,if_neg (by simp),if_pos h39]);obtain⟨k,s,v,n,e,hr⟩:=gS (iz (c::m));have HF:=G (xY c m (by omega) (w.alloc (.cells #[.int .i64 0, .string ⟨#[]⟩, .int .i64 0, .int .i64 0] 206)));rw[hr]at HF;have HV:=G hr;have hb39:((c.toNat:Int)==39)=true:=by rw[h39];rfl
    clear hL hD HT hr hz h39;go_enter func97,ntmps97
    go_wp2_with (first
     |(go_at_call 108;refine(HL.out _).mono ?_;rintro e' w' ⟨rfl,rfl⟩)
     |(go_at_call 140;refine(HD.out _).mono ?_;rintro e' w' ⟨rfl,rfl⟩)
     |(go_at_call 142;refine HF.out.mono ?_;rintro e' w1 ⟨rfl,hE⟩;have HB:=G (HB0.out.ext hE);have HX:=G (HX0.out.trans hE);clear hE;have hbc:=HB.out.cell;have hbf:=HB.out.frozen))
    have hset:=(HB.out.put4 (.int .i64 k) (.string s) (.int .i64 v) (.int .i64 0)).cell;exact bodyPost_ret (v:= .tuple #[.agg #[.int .i64 k, .string s, .int .i64 v, .int .i64 0], .int .i64 n, .int .i64 e]) (by simp[results,results97,go_sem,hset]) rfl ⟨by rw[HR.out,HV.out],HX.out.put4 (ag _) _ _ _ _⟩
   ·have hb39:((c.toNat:Int)==39)=false:=(dF c 39 (by omega)).trans (beq_eq_false_iff_ne.2 h39);by_cases h34:c=34
    ·have HR:=G (show jX (c::m)=iV (c::m) by rw[HT.out,hL,if_neg (by simp),hD,if_neg (by simp),if_neg h39,if_pos h34]);obtain⟨k,s,v,n,e,hr⟩:=gS (iV (c::m));have HF:=G (v7 c m (by omega) (w.alloc (.cells #[.int .i64 0, .string ⟨#[]⟩, .int .i64 0, .int .i64 0] 206)));rw[hr]at HF;have HV:=G hr;have hb34:((c.toNat:Int)==34)=true:=by rw[h34];rfl
     clear hL hD HT hr hz h39 h34;go_enter func97,ntmps97
     go_wp2_with (first
      |(go_at_call 108;refine(HL.out _).mono ?_;rintro e' w' ⟨rfl,rfl⟩)
      |(go_at_call 140;refine(HD.out _).mono ?_;rintro e' w' ⟨rfl,rfl⟩)
      |(go_at_call 143;refine HF.out.mono ?_;rintro e' w1 ⟨rfl,hE⟩;have HB:=G (HB0.out.ext hE);have HX:=G (HX0.out.trans hE);clear hE;have hbc:=HB.out.cell;have hbf:=HB.out.frozen))
     have hset:=(HB.out.put4 (.int .i64 k) (.string s) (.int .i64 v) (.int .i64 0)).cell;exact bodyPost_ret (v:= .tuple #[.agg #[.int .i64 k, .string s, .int .i64 v, .int .i64 0], .int .i64 n, .int .i64 e]) (by simp[results,results97,go_sem,hset]) rfl ⟨by rw[HR.out,HV.out],HX.out.put4 (ag _) _ _ _ _⟩
    ·have HR:=G (show jX (c::m)=ip (c::m) by rw[HT.out,hL,if_neg (by simp),hD,if_neg (by simp),if_neg h39,if_neg h34]);obtain⟨k,s,v,n,e,hr⟩:=gS (ip (c::m));have HF:=G (xf c m (by omega) (w.alloc (.cells #[.int .i64 0, .string ⟨#[]⟩, .int .i64 0, .int .i64 0] 206)));rw[hr]at HF;have HV:=G hr;have hb34:((c.toNat:Int)==34)=false:=(dF c 34 (by omega)).trans (beq_eq_false_iff_ne.2 h34);clear hL hD HT hr hz h39 h34;go_enter func97,ntmps97
     go_wp2_with (first
      |(go_at_call 108;refine(HL.out _).mono ?_;rintro e' w' ⟨rfl,rfl⟩)
      |(go_at_call 140;refine(HD.out _).mono ?_;rintro e' w' ⟨rfl,rfl⟩)
      |(go_at_call 144;refine HF.out.mono ?_;rintro e' w1 ⟨rfl,hE⟩;have HB:=G (HB0.out.ext hE);have HX:=G (HX0.out.trans hE);clear hE;have hbc:=HB.out.cell;have hbf:=HB.out.frozen))
     have hset:=(HB.out.put4 (.int .i64 k) (.string s) (.int .i64 v) (.int .i64 0)).cell;exact bodyPost_ret (v:= .tuple #[.agg #[.int .i64 k, .string s, .int .i64 v, .int .i64 0], .int .i64 n, .int .i64 e]) (by simp[results,results97,go_sem,hset]) rfl ⟨by rw[HR.out,HV.out],HX.out.put4 (ag _) _ _ _ _⟩
end
end Go.Proofs.YtddomeddabfinaaGreatDoor
