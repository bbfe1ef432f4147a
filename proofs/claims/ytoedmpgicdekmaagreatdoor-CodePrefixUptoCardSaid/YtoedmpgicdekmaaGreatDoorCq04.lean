/-
  Parts of the proof: LexD LexE LexF LexG LexH LexI LexJ LexK LexL LexM LexN LexO.
-/
import Derived.Test.YtoedmpgicdekmaaGreatDoorCq00
import Derived.Test.YtoedmpgicdekmaaGreatDoorCq02
import Derived.Test.YtoedmpgicdekmaaGreatDoorCq03
set_option maxRecDepth 100000
set_option maxHeartbeats 8000000
set_option linter.unusedVariables false
set_option linter.unusedSimpArgs false
set_option linter.unusedSectionVars false
namespace Go.Proofs.YtoedmpgicdekmaaGreatDoor
open Go.Proofs.Tryz
section
open Go.RowKit
theorem ic (l:List UInt8):(an l).data.toList=l:=by simp[an]
theorem nE (c:UInt8): ∀l:List UInt8,(Lib.indexByte l c= -1/\l.contains c=false)\/(0<=Lib.indexByte l c/\l.contains c=true)
 | []=> .inl ⟨rfl,rfl⟩
 |b::l=>by
  simp only[Lib.indexByte];by_cases h:b=c
  ·subst h;refine .inr ⟨by simp,by simp⟩
  ·have hb:(b==c)=false:=beq_eq_false_iff_ne.2 h;have hb2:(c==b)=false:=beq_eq_false_iff_ne.2 fun e=>h e.symm;rw[hb];rcases nE c l with⟨h1,h2⟩|⟨h1,h2⟩
   ·refine .inl ⟨by simp[h1],?_⟩;rw[fS,hb2,h2];rfl
   ·refine .inr ⟨?_,?_⟩
    ·have:(Lib.indexByte l c== -1)=false:=by rw[beq_eq_false_iff_ne];omega
     simp only[ch,if_false,this];omega
    ·rw[fS,hb2,h2];rfl
theorem sB: ∀l:List UInt8,Lib.indexByte l 10=if fj l<l.length then(fj l:Int)else-1
 | []=>rfl
 |b::l=>by
  by_cases h:b=10
  ·subst h;rfl
  ·have hb:(b==10)=false:=beq_eq_false_iff_ne.2 h;have hb2:(b !=10)=true:=by simp[h]
   have ih:=sB l;have e:fj (b::l)=fj l+1:=by simp[fj,cu,h]
   rw[e];simp only[Lib.indexByte];rw[hb,ih,if_neg (by simp)];by_cases hl:fj l<l.length
   ·rw[if_pos hl,if_neg (by simp),if_pos (by rw[ae];omega)];rfl
   ·rw[if_neg hl,if_pos (show((-1:Int)== -1)=true from rfl),if_neg (by rw[ae];omega)]
theorem xD (c:UInt8):Cl c=([32,9,10,13]:List UInt8).contains c:=by
 have: ∀n:Fin 256,Cl (UInt8.ofNat n.val)=([32,9,10,13]:List UInt8).contains (UInt8.ofNat n.val):=by decide+kernel
 have h:=this ⟨c.toNat,c.toNat_lt⟩;rwa [iB]at h
theorem my (l:List UInt8) (c:UInt8) (w:World):Calls prog 149 #[.string (an l), .int .u8 (c.toNat:Int)] w fun e w'=>e= .returned (.int .i64 (Lib.indexByte l c))/\w=w':=by
 refine(Tryz.strings_IndexByte (an l) (c.toNat:Int) w).mono ?_;rintro e w' ⟨rfl,rfl⟩;rw[ic];have:(c.toNat:Int).toNat.toUInt8=c:=by
  rw[bP];exact iB
 rw[this];exact⟨rfl,rfl⟩
theorem nZ (l p:List UInt8) (w:World):Calls prog 150 #[.string (an l), .string (an p)] w fun e w'=>e= .returned (.bool (p.isPrefixOf l))/\w=w':=by
 refine(Tryz.strings_HasPrefix (an l) (an p) w).mono ?_;rintro e w' ⟨rfl,rfl⟩;rw[ic,ic];exact⟨rfl,rfl⟩
theorem qr (l:List UInt8):(([47,47]:List UInt8).isPrefixOf l=true/\ ∃r,l=47::47::r)\/(([47,47]:List UInt8).isPrefixOf l=false/\ ∀c r,l=c::r-> ¬(c=47/\r.head? =some 47)):=by
 match l with
 | []=>exact .inr ⟨rfl,fun c r h=>by cases h⟩
 | [c]=>exact .inr ⟨by simp[List.isPrefixOf],fun c' r h=>by injection h with h1 h2;subst h2;simp⟩
 |c::d::r=>
  by_cases h:c=47/\d=47
  ·obtain⟨rfl,rfl⟩:=h;exact .inl ⟨by simp[List.isPrefixOf],r,rfl⟩
  ·refine .inr ⟨?_,fun c' r' h'=>by injection h' with h1 h2;subst h1 h2;simpa using h⟩;simp only[List.isPrefixOf,gA];rw[jQ];by_cases hc:c=47
   ·right;exact beq_eq_false_iff_ne.2 fun e=>h ⟨hc,e.symm⟩
   ·left;exact beq_eq_false_iff_ne.2 fun e=>hc e.symm
theorem wb {l:List UInt8} {j:Nat} (h:j<l.length) (hw:Cl l[j]=true):cT false (l.drop j)=cT false (l.drop (j+1))+1:=by
 rw[am h];simp only[cT];rw[if_pos hw]
theorem wa {l:List UInt8} {j:Nat} (h:j<l.length) (hw:Cl l[j]=false) (hs: ∀c r,l.drop j=c::r-> ¬(c=47/\r.head? =some 47)):cT false (l.drop j)=0:=by
 have hs:=hs l[j] (l.drop (j+1)) (am h);rw[am h];simp only[cT];rw[hw,if_neg (by simp),if_neg hs]
theorem xk (l:List UInt8) (hl:l.length<=100000) (w:World):Calls prog 95 #[.string (an l)] w fun e w'=>e= .returned (.int .i64 (cT false l))/\w=w':=by
 have hsz:=aU l;go_enter func95,ntmps95;go_wp2_with fail
 go_loop [3] (fun vi=> ∃j:Nat,vi= .int .i64 j/\j<=l.length/\Hid (cT false l=j+cT false (l.drop j))) (fun vi=>l.length-(intOf vi).toNat)
 case atStart=>exact⟨0,rfl,aC _,G (by simp)⟩
 case round=>
  obtain⟨j,rfl,hj,HT⟩:=hrel;by_cases hlt:j<l.length
  ·have hjs:j<(an l).size:=by rw[aU];exact hlt
   have hg:=lC l j hjs;have hlt':(j:Int)<l.length:=by omega
   have hex:=eH l j l.length;rw[bQ]at hex;have HST:=G (fun h=>wb (l:=l) hlt h);have HSP:=G (fun h hs=>wa (l:=l) hlt h hs);generalize l[j]'hlt=c at*;have HIX:=G (show Calls prog 149 #[.string ⟨#[32,9,10,13]⟩, .int .u8 (c.toNat:Int)] w fun e w'=>e= .returned (.int .i64 (Lib.indexByte [32,9,10,13] c))/\w=w' from my [32,9,10,13] c w)
   cases hw:Cl c with
   |true=>
    have hi:0<=Lib.indexByte [32,9,10,13] c:=by
     rcases nE c [32,9,10,13]with⟨h1,h2⟩|⟨h1,h2⟩
     ·rw[<-xD,hw]at h2;cases h2
     ·exact h1
    have HN:=G (show cT false l=((j+1:Nat))+cT false (l.drop (j+1)) by rw[HT.out,HST.out hw];omega);generalize Lib.indexByte [32,9,10,13] c=ix at*;clear hw hex;go_wp2_with (go_at_call 149;refine HIX.out.mono ?_;rintro e w' ⟨rfl,rfl⟩)
    go_round
    case rel=>exact⟨j+1,by go_num,by omega,HN⟩
    case measure=>simp[intOf];omega
   |false=>
    have hi: ¬0<=Lib.indexByte [32,9,10,13] c:=by
     rcases nE c [32,9,10,13]with⟨h1,h2⟩|⟨h1,h2⟩
     ·omega
     ·rw[<-xD,hw]at h2;cases h2
    generalize Lib.indexByte [32,9,10,13] c=ix at*;have HPX:=G (show Calls prog 150 #[.string (an (l.drop j)), .string ⟨#[47,47]⟩] w fun e w'=>e= .returned (.bool (([47,47]:List UInt8).isPrefixOf (l.drop j)))/\w=w' from nZ (l.drop j) [47,47] w);rcases qr (l.drop j)with⟨hp,hq⟩|⟨hp,hq⟩
    ·have hsc:=po hq;have hix:=sB (l.drop j);have HIL:=G (show Calls prog 149 #[.string (an (l.drop j)), .int .u8 10] w fun e w'=>e= .returned (.int .i64 (Lib.indexByte (l.drop j) 10))/\w=w' from my (l.drop j) 10 w);rw[hp]at HPX;have hll:fj (l.drop j)<=(l.drop j).length:=ig _ _;have hlen:(l.drop j).length=l.length-j:=bK;by_cases hn:fj (l.drop j)<(l.drop j).length
     ·rw[if_pos hn]at hix;rw[hix]at HIL;have HN:=G (show cT false l=((j+fj (l.drop j):Nat))+cT false (l.drop (j+fj (l.drop j))) by rw[HT.out,hsc,dE];omega);have hpos:1<=fj (l.drop j):=by
       obtain⟨r,hr⟩:=hq;rw[hr];simp[fj,cu]
      have hle:j+fj (l.drop j)<=l.length:=by omega
      generalize fj (l.drop j)=n at*;clear hw hp hq hsc hix hn hll hlen
      go_wp2_with (first
       |(go_at_call 149;with_reducible (refine HIX.out.mono ?_);rintro e w' ⟨rfl,rfl⟩)
       |(go_at_call 150;refine HPX.out.mono ?_;rintro e w' ⟨rfl,rfl⟩)
       |(go_at_call 149;refine HIL.out.mono ?_;rintro e w' ⟨rfl,rfl⟩))
      go_round
      case rel=>exact⟨j+n,by go_num,hle,HN⟩
      case measure=>simp[intOf];omega
     ·rw[if_neg hn]at hix;rw[hix]at HIL;have h3:j+fj (l.drop j)=l.length:=by omega
      have HN:=G (show cT false l=l.length by
       have hd:l.drop (j+fj (l.drop j))=[]:=aI (by omega);rw[HT.out,hsc,dE,hd];show j+(fj (l.drop j)+0)=l.length
       omega)
      clear h3;clear hw hp hq hsc hix hn hll hlen
      go_wp2_with (first
       |(go_at_call 149;with_reducible (refine HIX.out.mono ?_);rintro e w' ⟨rfl,rfl⟩)
       |(go_at_call 150;refine HPX.out.mono ?_;rintro e w' ⟨rfl,rfl⟩)
       |(go_at_call 149;refine HIL.out.mono ?_;rintro e w' ⟨rfl,rfl⟩))
      go_ret;exact⟨lI (by rw[HN.out]),rfl⟩
    ·rw[hp]at HPX;have HN:=G (show cT false l=j by rw[HT.out,HSP.out hw hq];omega);clear hw hp hq
     go_wp2_with (first
      |(go_at_call 149;with_reducible (refine HIX.out.mono ?_);rintro e w' ⟨rfl,rfl⟩)
      |(go_at_call 150;refine HPX.out.mono ?_;rintro e w' ⟨rfl,rfl⟩))
     go_ret;exact⟨lI (by rw[HN.out]),rfl⟩
  ·have HN:=G (show cT false l=j by rw[HT.out,aI (by omega)];rfl);have hlt': ¬(j:Int)<l.length:=by omega
   go_wp2_with fail;go_ret;exact⟨lI (by rw[HN.out]),rfl⟩
end
section
open Go.RowKit
def cN:tj->Value
 | .ok x=> .tuple #[.agg #[.int .i64 x.1.1, .string (an x.1.2.1), .int .i64 x.1.2.2, .int .i64 0], .int .i64 (x.2:Int), .int .i64 0]
 | .error e=> .tuple #[.agg #[.int .i64 0, .string ⟨#[]⟩, .int .i64 0, .int .i64 0], .int .i64 0, .int .i64 e]
theorem aP.put4 {w:World} {g:Nat} {t:TypeId} {x0 x1 x2 x3:Value} (h:aP w g t #[x0,x1,x2,x3]) (a b c d:Value):aP ((((w.setCell ⟨g,0,none⟩ a).setCell ⟨g,1,none⟩ b).setCell ⟨g,2,none⟩ c).setCell ⟨g,3,none⟩ d) g t #[a,b,c,d]:=by
 have:=(((h.set 0 a).set 1 b).set 2 c).set 3 d;simpa using this
theorem au.put4 {w0 w:World} {g:Nat} (h:au w0 w) (hg:w0.heap.size<=g) (a b c d:Value):au w0 ((((w.setCell ⟨g,0,none⟩ a).setCell ⟨g,1,none⟩ b).setCell ⟨g,2,none⟩ c).setCell ⟨g,3,none⟩ d):=(((h.set hg a).set hg b).set hg c).set hg d
theorem xF (l:List UInt8) (hl:l.length<=100000) (w:World):Calls prog 151 #[.string (an l)] w fun e w'=>e= .returned (cN (j6 l))/\au w w':=by
 have hsz:=aU l;have hle:=ig eZ l;have hex:=eH l 0 (cu eZ l);simp only[aq]at hex;have HSP:=G (fun w=>rQ eZ 107 lN (.inl rfl) l hl w);have HT:=G (show j6 l=if wI (l.take (cu eZ l))then .ok ((2,l.take (cu eZ l),0),cu eZ l)else if 14<cu eZ l then .error 6 else .ok ((1,l.take (cu eZ l),0),cu eZ l)from rfl);have HK:=G (fun w=>mX (l.take (cu eZ l)) w);generalize hn:cu eZ l=n at*;generalize hx:l.take n=x at*;clear hn hx
 cases hk:wI x with
 |true=>
  have HR:=G (show j6 l= .ok ((2,x,0),n) by rw[HT.out,hk,if_pos rfl]);rw[hk]at HK;clear hk HT;go_enter func151,ntmps151
  go_wp2_with (first
   |(go_at_call 200;refine(HSP.out _).mono ?_;rintro e w' ⟨rfl,rfl⟩)
   |(go_at_call 109;refine(HK.out _).mono ?_;rintro e w' ⟨rfl,rfl⟩))
  exact bodyPost_ret (v:=cN (.ok ((2,x,0),n))) (by simp[results,results151,go_sem,cN]) rfl ⟨by rw[HR.out],(aa w _).alloc' _⟩
 |false=>
  rw[hk]at HK;by_cases h14:14<n
  ·have HR:=G (show j6 l= .error 6 by rw[HT.out,hk,if_neg (by simp),if_pos h14]);have h14':(14:Int)<n:=by omega
   clear hk HT;go_enter func151,ntmps151
   go_wp2_with (first
    |(go_at_call 200;refine(HSP.out _).mono ?_;rintro e w' ⟨rfl,rfl⟩)
    |(go_at_call 109;refine(HK.out _).mono ?_;rintro e w' ⟨rfl,rfl⟩))
   exact bodyPost_ret (v:=cN (.error 6)) (by simp[results,results151,go_sem,cN]) rfl ⟨by rw[HR.out],(aa w _).alloc' _⟩
  ·have HR:=G (show j6 l= .ok ((1,x,0),n) by rw[HT.out,hk,if_neg (by simp),if_neg h14]);have h14': ¬(14:Int)<n:=by omega
   clear hk HT;go_enter func151,ntmps151
   go_wp2_with (first
    |(go_at_call 200;refine(HSP.out _).mono ?_;rintro e w' ⟨rfl,rfl⟩)
    |(go_at_call 109;refine(HK.out _).mono ?_;rintro e w' ⟨rfl,rfl⟩))
   exact bodyPost_ret (v:=cN (.ok ((1,x,0),n))) (by simp[results,results151,go_sem,cN]) rfl ⟨by rw[HR.out],(aa w _).alloc' _⟩
theorem mA (l:List UInt8) (j:Nat) (h:j<l.length):(l.drop j).head? =some l[j]:=by rw[List.head?_drop,aD h]
theorem ox (l:List UInt8) (j:Nat) (h:l.length<=j):(l.drop j).head? =none:=by rw[List.head?_drop,gv h]
theorem xg (c:UInt8) (m:List UInt8):je (c::m)=if(cH m).2=0\/m.head? =some 39\/(m.drop (cH m).2).head? ≠some 39 then .error 3 else .ok ((3,[],((cH m).1.toNat:Int)),(cH m).2+2):=rfl
theorem Aa (c:UInt8) (m:List UInt8) (hl:m.length<=100000) (w:World):Calls prog 154 #[.string (an (c::m))] w fun e w'=>e= .returned (cN (je (c::m)))/\au w w':=by
 have hsz:(an (c::m)).size=m.length+1:=by rw[aU];rfl
 have hex:(an (c::m)).extract 1 (m.length+1)=an m:=by
  have:=eH (c::m) 1 (m.length+1);rw[bh (by simp)]at this;exact this
 have HEL:=G (fun w=>sI m w hl);obtain⟨hle1,hle2⟩:=km m;have HT:=G (xg c m);generalize hv:(cH m).1=v at*;generalize hn:(cH m).2=n at*;have HN:=G hn;have hvb:=v.toNat_lt;have hvb':(v.toNat:Int)<256:=by omega
 clear hv hn;by_cases hn0:n=0
 ·have HR:=G (show je (c::m)= .error 3 by rw[HT.out,if_pos (.inl hn0)]);subst hn0;clear HT;go_enter func154,ntmps154;go_wp2_with (go_at_call 202;refine(HEL.out _).mono ?_;rintro e w1 ⟨rfl,hE⟩;have HB:=G ((aw w 188 #[.int .i64 0, .string ⟨#[]⟩, .int .i64 0, .int .i64 0]).ext hE);have HE:=G ((aa w _).trans hE);clear hE;have hbc:=HB.out.cell;have hbf:=HB.out.frozen);have hset:=(HB.out.put4 (.int .i64 0) (.string ⟨#[]⟩) (.int .i64 0) (.int .i64 0)).cell;exact bodyPost_ret (v:=cN (.error 3)) (by simp[results,results154,go_sem,cN,hset]) rfl ⟨by rw[HR.out],HE.out.put4 (ah _) _ _ _ _⟩
 ·have hm0:0<m.length:=by omega
  have hs1:1<(an (c::m)).size:=by rw[hsz];omega
  have hg1:(an (c::m))[1]=m[0]:=rfl;have hnb:((n:Int)==0)=false:=by simp[hn0]
  by_cases hq:m[0]=39
  ·have HR:=G (show je (c::m)= .error 3 by rw[HT.out,if_pos (.inr (.inl (by rw[jn,aD hm0,hq])))]);rw[hq]at hg1;clear HT hn0 hq;go_enter func154,ntmps154;go_wp2_with (go_at_call 202;refine(HEL.out _).mono ?_;rintro e w1 ⟨rfl,hE⟩;have HB:=G ((aw w 188 #[.int .i64 0, .string ⟨#[]⟩, .int .i64 0, .int .i64 0]).ext hE);have HE:=G ((aa w _).trans hE);clear hE;have hbc:=HB.out.cell;have hbf:=HB.out.frozen);have hset:=(HB.out.put4 (.int .i64 0) (.string ⟨#[]⟩) (.int .i64 0) (.int .i64 0)).cell;exact bodyPost_ret (v:=cN (.error 3)) (by simp[results,results154,go_sem,cN,hset]) rfl ⟨by rw[HR.out],HE.out.put4 (ah _) _ _ _ _⟩
  ·have hq1:m.head? ≠some 39:=by rw[jn,aD hm0];intro e;exact hq (ai e)
   have hqb:((m[0].toNat:Int)==39)=false:=(dP m[0] 39 (by omega)).trans (beq_eq_false_iff_ne.2 hq);generalize m[0]=d at*;by_cases hln:m.length<n+1
   ·have HR:=G (show je (c::m)= .error 3 by rw[HT.out,if_pos (.inr (.inr (by rw[ox _ _ (by omega)];simp)))]);have hln':(m.length:Int)+1<n+2:=by omega
    clear HT hn0 hq hq1;go_enter func154,ntmps154;go_wp2_with (go_at_call 202;refine(HEL.out _).mono ?_;rintro e w1 ⟨rfl,hE⟩;have HB:=G ((aw w 188 #[.int .i64 0, .string ⟨#[]⟩, .int .i64 0, .int .i64 0]).ext hE);have HE:=G ((aa w _).trans hE);clear hE;have hbc:=HB.out.cell;have hbf:=HB.out.frozen);have hset:=(HB.out.put4 (.int .i64 0) (.string ⟨#[]⟩) (.int .i64 0) (.int .i64 0)).cell;exact bodyPost_ret (v:=cN (.error 3)) (by simp[results,results154,go_sem,cN,hset]) rfl ⟨by rw[HR.out],HE.out.put4 (ah _) _ _ _ _⟩
   ·have hnm:n<m.length:=by omega
    have hsn:n+1<(an (c::m)).size:=by rw[hsz];omega
    have hgn:(an (c::m))[n+1]=m[n]:=rfl;have hln': ¬(m.length:Int)+1<n+2:=by omega
    by_cases he:m[n]=39
    ·have HR:=G (show je (c::m)= .ok ((3,[],(v.toNat:Int)),n+2) by
      rw[HT.out,if_neg];rintro(h|h|h)
      ·exact hn0 h
      ·exact hq1 h
      ·exact h (by rw[mA _ _ hnm,he]))
     rw[he]at hgn;clear HT hn0 hq hq1 he;go_enter func154,ntmps154;go_wp2_with (go_at_call 202;refine(HEL.out _).mono ?_;rintro e w1 ⟨rfl,hE⟩;have HB:=G ((aw w 188 #[.int .i64 0, .string ⟨#[]⟩, .int .i64 0, .int .i64 0]).ext hE);have HE:=G ((aa w _).trans hE);clear hE;have hbc:=HB.out.cell;have hbf:=HB.out.frozen);have hset:=(HB.out.put4 (.int .i64 3) (.string ⟨#[]⟩) (.int .i64 (v.toNat:Int)) (.int .i64 0)).cell;exact bodyPost_ret (v:=cN (.ok ((3,[],(v.toNat:Int)),n+2))) (by simp[results,results154,go_sem,cN,hset];rfl) rfl ⟨by rw[HR.out],HE.out.put4 (ah _) _ _ _ _⟩
    ·have HR:=G (show je (c::m)= .error 3 by
      rw[HT.out,if_pos (.inr (.inr (by rw[mA _ _ hnm];intro e;exact he (ai e))))])
     have hgb:((m[n].toNat:Int)==39)=false:=(dP m[n] 39 (by omega)).trans (beq_eq_false_iff_ne.2 he);have hgb2:((m[n].toNat:Int) !=39)=true:=by rw[bne,hgb];rfl
     generalize m[n]=u at*;clear HT hn0 hq hq1 he;go_enter func154,ntmps154;go_wp2_with (go_at_call 202;refine(HEL.out _).mono ?_;rintro e w1 ⟨rfl,hE⟩;have HB:=G ((aw w 188 #[.int .i64 0, .string ⟨#[]⟩, .int .i64 0, .int .i64 0]).ext hE);have HE:=G ((aa w _).trans hE);clear hE;have hbc:=HB.out.cell;have hbf:=HB.out.frozen);have hset:=(HB.out.put4 (.int .i64 0) (.string ⟨#[]⟩) (.int .i64 0) (.int .i64 0)).cell;exact bodyPost_ret (v:=cN (.error 3)) (by simp[results,results154,go_sem,cN,hset]) rfl ⟨by rw[HR.out],HE.out.put4 (ah _) _ _ _ _⟩
end
section
open Go.RowKit
theorem bt:ks prog 36 5:=⟨underlying36,by kernel_rfl⟩
theorem Sl.one (w:World) (v:UInt8):Sl (w.alloc (.cells #[.int .u8 (v.toNat:Int)] 5)) (some ⟨w.heap.size,0,none⟩) 1 [v]:=
 ⟨by simp,by simp[maxLen],(fun h=>by cases h), .inr ⟨w.heap.size,0,rfl,by simp,fun i hi=>by
  have hi0:i=0:=by simp at hi;omega
  subst hi0;rw[(aw w 5 #[.int .u8 (v.toNat:Int)]).cell]
  rfl⟩⟩
theorem qM {m:List UInt8} {j:Nat} (h:j<m.length) (hc:m[j]=34):jx (m.drop j)=some ([],1):=by
 rw[am h,hc];exact zd _
theorem qN {m:List UInt8} {j:Nat} (h:j<m.length) (hc:m[j]≠34) (h0:(cH (m.drop j)).2=0):jx (m.drop j)=none:=by
 rw[am h]at h0⊢;exact zf hc h0
theorem pt {m:List UInt8} {j:Nat} (h:j<m.length) (hc:m[j]≠34) (h0:(cH (m.drop j)).2≠0):jx (m.drop j)=(jx (m.drop (j+(cH (m.drop j)).2))).map fun x=>((cH (m.drop j)).1::x.1,(cH (m.drop j)).2+x.2):=by
 have e:m.drop (j+(cH (m.drop j)).2)=(m.drop j).drop (cH (m.drop j)).2:=by rw[dE]
 rw[e];generalize hd:m.drop j=d at*;rw[am h]at hd;subst hd;exact wH hc h0
theorem vX (c:UInt8) (m:List UInt8):jI (c::m)=match jx m with
 |none=> .error 3
 |some (t,n)=>if 128<t.length then .error 6 else .ok ((4,t,0),n+1):=rfl
theorem xV (c:UInt8) (m:List UInt8) (hl:m.length<=100000) (w:World):Calls prog 155 #[.string (an (c::m))] w fun e w'=>e= .returned (cN (jI (c::m)))/\au w w':=by
 have hsz:(an (c::m)).size=m.length+1:=by rw[aU];rfl
 have HT:=G (vX c m);go_enter func155,ntmps155;go_wp2_with fail
 go_loopw [5,6] (fun vb vi wr=> ∃(B:Option Addr) (cap:Nat) (b:List UInt8) (j:Nat),vb= .slice B b.length cap/\fZ wr (w.heap.size+1) 5 (.slice B b.length cap) b/\vi= .int .i64 ((j+1:Nat):Int)/\j<=m.length/\b.length<=j/\
   Hid (jx m=(jx (m.drop j)).map fun x=>(b++x.1,j+x.2))/\aP wr w.heap.size 188 #[.int .i64 0, .string ⟨#[]⟩, .int .i64 0, .int .i64 0]/\au w wr) (fun _ vi _=>m.length+1-(intOf vi).toNat)
 case atStart=>
  refine⟨none,0,[],0,rfl,fZ.nil_ _ _ _,rfl,aC _,aC _,G ?_,aw w _ _,aa w _⟩
  cases h:jx m<;>simp[h]
 case round=>
  obtain⟨B,cap,b,j,rfl,hown,rfl,hj,hbj,HL,hblk,hx⟩:=hrel;have HO:=G hown;have HB:=G hblk;have HX:=G hx;have hbc:=hblk.cell;have hbf:=hblk.frozen;have hzb:=hblk.lt;clear hown hblk hx;have hjc:((j+1:Nat):Int)=(j:Int)+1:=by omega
  rw[hjc];by_cases hlt:j<m.length
  ·have hjs:j+1<(an (c::m)).size:=by rw[hsz];omega
   have hg:(an (c::m))[j+1]=m[j]:=rfl;have hlt':(j:Int)+1<m.length+1:=by omega
   by_cases h34:m[j]=34
   ·have hR:jx m=some (b,j+1):=by rw[HL.out,qM hlt h34];simp
    rw[h34]at hg;by_cases h128:128<b.length
    ·have HR:=G (show jI (c::m)= .error 6 by rw[HT.out,hR];simp only;rw[if_pos h128]);have h128':(128:Int)<b.length:=by omega
     clear h34 hR HT HL;go_wp2_with fail;have hset:=(HB.out.put4 (.int .i64 0) (.string ⟨#[]⟩) (.int .i64 0) (.int .i64 0)).cell;exact bodyPost_ret (v:=cN (.error 6)) (by simp[results,results155,go_sem,cN,hset]) rfl ⟨by rw[HR.out],HX.out.put4 (ah _) _ _ _ _⟩
    ·have HR:=G (show jI (c::m)= .ok ((4,b,0),j+1+1) by rw[HT.out,hR];simp only;rw[if_neg h128]);have h128': ¬(128:Int)<b.length:=by omega
     have hcv:=HO.out.sl.2.convert (P:=prog) (src:=36) (dst:=9) underlying36 underlying5 underlying9;clear h34 hR HT HL;go_wp2_with fail;have hset:=(HB.out.put4 (.int .i64 4) (.string (an b)) (.int .i64 0) (.int .i64 0)).cell;exact bodyPost_ret (v:=cN (.ok ((4,b,0),j+1+1))) (by simp[results,results155,go_sem,cN,hset]) rfl ⟨by rw[HR.out],HX.out.put4 (ah _) _ _ _ _⟩
   ·have hgb:((m[j].toNat:Int)==34)=false:=(dP m[j] 34 (by omega)).trans (beq_eq_false_iff_ne.2 h34);have hgb2:((m[j].toNat:Int) !=34)=true:=by rw[bne,hgb];rfl
    have hex:(an (c::m)).extract (j+1) (m.length+1)=an (m.drop j):=by
     have:=eH (c::m) (j+1) (m.length+1);rw[bh (by simp)]at this;exact this
    have HEL:=G (fun w=>sI (m.drop j) w (by rw[bK];omega));obtain⟨hle1,hle2⟩:=km (m.drop j);rw[bK]at hle1;have HBD:=G (fun h=>qN (m:=m) hlt h34 h);have HST:=G (fun h=>pt (m:=m) hlt h34 h);generalize hv:(cH (m.drop j)).1=v at*;generalize hn:(cH (m.drop j)).2=n at*;generalize m[j]=d at*;have HN:=G hn;have hvb:=v.toNat_lt;have hvb':(v.toNat:Int)<256:=by omega
    clear hv hn h34;generalize hdr:m.drop j=mj at*;have HDR:=G hdr;clear hdr;by_cases hn0:n=0
    ·have HR:=G (show jI (c::m)= .error 3 by rw[HT.out,HL.out,HBD.out hn0];rfl);subst hn0;clear HT HL HBD HST;go_wp2_with (go_at_call 202;refine(HEL.out _).mono ?_;rintro e w1 ⟨rfl,hE⟩;have HB:=G (HB.out.ext hE);have HE:=G (HX.out.trans hE);clear hE hbc hbf;have hbc:=HB.out.cell;have hbf:=HB.out.frozen);have hset:=(HB.out.put4 (.int .i64 0) (.string ⟨#[]⟩) (.int .i64 0) (.int .i64 0)).cell;exact bodyPost_ret (v:=cN (.error 3)) (by simp[results,results155,go_sem,cN,hset]) rfl ⟨by rw[HR.out],HE.out.put4 (ah _) _ _ _ _⟩
    ·have hnb:((n:Int)==0)=false:=by simp[hn0]
     have hn1:1<=n:=by omega
     have HL2:=G (show jx m=(jx (m.drop (j+n))).map fun x=>((b++[v])++x.1,(j+n)+x.2) by
      rw[HL.out,HST.out hn0,Option.map_map]
      congr 1
      funext x
      simp[Nat.add_assoc])
     clear HT HL HBD HST hn0
     go_wp2_with (first
      |(go_at_call 202;refine(HEL.out _).mono ?_;rintro e w1 ⟨rfl,hE⟩;have HO1:=G (HO.out.ext (hE.alloc' (.cells #[.int .u8 (v.toNat:Int)] 5)));have HB1:=G (HB.out.ext (hE.alloc' (.cells #[.int .u8 (v.toNat:Int)] 5)));have HE1:=G (HX.out.trans (hE.alloc' (.cells #[.int .u8 (v.toNat:Int)] 5)));have hz1:=hE.size;clear hE hbc hbf)
      |(at_builtin;refine dZ bt rfl _ _ rfl (w.heap.size+1) (.slice B b.length cap) b rfl HO1.out (some ⟨w1.heap.size,0,none⟩) 1 [v] rfl (Sl.one w1 v) (by simp;omega) (by simp;omega) ?_;intro A3 c3 w3 ho3 hg3 _;have HO3:=G ho3;have HG3:=G hg3;clear ho3 hg3))
     go_roundw
     case rel=>
      have hrow:=fun k hk=>(World.ownsRow.lt HO1.out k hk).1;have hx3:=HE1.out.grown HG3.out (fun k hk=>by have:=hrow k hk;omega);have hb3:=HB1.out.grown HG3.out (fun e=>by have:=hrow _ e.symm;omega);refine⟨A3,c3,b++[v],j+n,by rw[ab];rfl,?_,by go_num,by omega,by rw[ab];simp;omega,HL2,hb3,hx3⟩;rw[ab];exact HO3.out
     case measure=>simp[intOf];omega
  ·have hmj:m.drop j=[]:=aI (by omega);have HR:=G (show jI (c::m)= .error 3 by rw[HT.out,HL.out,hmj];rfl);have hlt': ¬(j:Int)+1<m.length+1:=by omega
   clear HT HL hmj;go_wp2_with fail;have hset:=(HB.out.put4 (.int .i64 0) (.string ⟨#[]⟩) (.int .i64 0) (.int .i64 0)).cell;exact bodyPost_ret (v:=cN (.error 3)) (by simp[results,results155,go_sem,cN,hset]) rfl ⟨by rw[HR.out],HX.out.put4 (ah _) _ _ _ _⟩
theorem r8 (c:UInt8):0<=Lib.indexByte oa c↔oa.contains c=true:=by
 rcases nE c oa with⟨h1,h2⟩|⟨h1,h2⟩
 ·rw[h1,h2];simp
 ·rw[h2];simp[h1]
theorem rG (a b:UInt8) (l:List UInt8):([a,b]:List UInt8).isPrefixOf l=(l.take 2==[a,b]):=by
 match l with
 | []=>rfl
 | [c]=>simp[List.isPrefixOf]
 |c::d::r=>
  simp only[List.isPrefixOf,gA,List.take_succ_cons,List.take_zero];rw[show(a==c)=(c==a)from BEq.comm,show(b==d)=(d==b)from BEq.comm];simp
def gk (i:Nat) (l:List UInt8):Bool:=(nu.getD i []).isPrefixOf l
theorem xK (l:List UInt8):nu.contains (l.take 2)=(gk 0 l||gk 1 l||gk 2 l||gk 3 l||gk 4 l||gk 5 l):=by
 unfold gk nu;simp only[List.getD_cons_zero,List.getD_cons_succ,rG,fS,List.contains_nil,kT,Bool.or_assoc]
theorem yQ {i:Nat} {l:List UInt8} (hi:i<6) (h:gk i l=true):l.take 2=nu.getD i []:=by
 unfold gk nu at h;unfold nu;have hc:i=0\/i=1\/i=2\/i=3\/i=4\/i=5:=by omega
 rcases hc with rfl|rfl|rfl|rfl|rfl|rfl<;>(simp only[List.getD_cons_zero,List.getD_cons_succ,rG]at h⊢;exact beq_iff_eq.1 h)
end
section
open Go.RowKit
theorem ja {l:List UInt8} {i:Nat} {t:List UInt8} (hi:i<6) (ht:nu.getD i []=t) (h:gk i l=true) (hc:nu.contains (l.take 2)=true):jb l= .ok ((5,t,0),2):=by
 unfold jb;rw[if_pos hc,yQ hi h,ht]
theorem zb (c:UInt8) (m:List UInt8) (hl:m.length<=100000) (w:World):Calls prog 156 #[.string (an (c::m))] w fun e w'=>e= .returned (cN (jb (c::m)))/\au w w':=by
 have hsz:(an (c::m)).size=m.length+1:=by rw[aU];rfl
 have h0:0<(an (c::m)).size:=by rw[hsz];omega
 have hg:(an (c::m))[0]=c:=rfl;have hex:(an (c::m)).extract 0 1=an [c]:=by rw[eH];rfl
 have HW:=G (xK (c::m));have HPF:=G (fun w (p:List UInt8)=>nZ (c::m) p w);have HIX:=G (fun w=>my oa c w);go_enter func156,ntmps156;go_wp2_with fail
 go_loop [8] (fun vi=>(vi= .int .i64 0/\Hid (nu.contains ((c::m).take 2)=(gk 0 (c::m)||gk 1 (c::m)||gk 2 (c::m)||gk 3 (c::m)||gk 4 (c::m)||gk 5 (c::m))))\/(vi= .int .i64 1/\Hid (nu.contains ((c::m).take 2)=(gk 1 (c::m)||gk 2 (c::m)||gk 3 (c::m)||gk 4 (c::m)||gk 5 (c::m))))\/(vi= .int .i64 2/\Hid (nu.contains ((c::m).take 2)=(gk 2 (c::m)||gk 3 (c::m)||gk 4 (c::m)||gk 5 (c::m))))\/(vi= .int .i64 3/\Hid (nu.contains ((c::m).take 2)=(gk 3 (c::m)||gk 4 (c::m)||gk 5 (c::m))))\/(vi= .int .i64 4/\Hid (nu.contains ((c::m).take 2)=(gk 4 (c::m)||gk 5 (c::m))))\/(vi= .int .i64 5/\Hid (nu.contains ((c::m).take 2)=(gk 5 (c::m))))\/(vi= .int .i64 6/\Hid (nu.contains ((c::m).take 2)=(false)))) (fun vi=>7-(intOf vi).toNat)
 case atStart=>exact .inl ⟨rfl,HW⟩
 case round=>
  rcases hrel with⟨rfl,HT⟩|⟨rfl,HT⟩|⟨rfl,HT⟩|⟨rfl,HT⟩|⟨rfl,HT⟩|⟨rfl,HT⟩|⟨rfl,HT⟩
  ·have hidx: ∀w:World,(Instr.index 282 (.agg #[.string ⟨#[61,61]⟩, .string ⟨#[33,61]⟩, .string ⟨#[60,61]⟩, .string ⟨#[62,61]⟩, .string ⟨#[38,38]⟩, .string ⟨#[124,124]⟩]) (.int .i64 0)).run prog w= .ok (.string ⟨#[61,61]⟩) w:=fun w=>by(show _=_;kernel_rfl)
   have HP:=G (fun w=>(show Calls prog 150 #[.string (an (c::m)), .string ⟨#[61,61]⟩] w fun e w'=>e= .returned (.bool (gk 0 (c::m)))/\w=w' from HPF.out w [61,61]))
   cases hp:gk 0 (c::m)with
   |true=>
    have HR:=G (ja (i:=0) (t:=[61,61]) (by omega) rfl hp (by rw[HT.out,hp];simp));rw[hp]at HP;clear hp HT;go_wp2_with (go_at_call 150;refine(HP.out _).mono ?_;rintro e w' ⟨rfl,rfl⟩);exact bodyPost_ret (v:=cN (.ok ((5,[61,61],0),2))) (by simp[results,results156,go_sem,cN];rfl) rfl ⟨by rw[HR.out],aa w _⟩
   |false=>
    have HN:=G (show nu.contains ((c::m).take 2)=(gk 1 (c::m)||gk 2 (c::m)||gk 3 (c::m)||gk 4 (c::m)||gk 5 (c::m)) by rw[HT.out,hp];simp);rw[hp]at HP;clear hp HT;go_wp2_with (go_at_call 150;refine(HP.out _).mono ?_;rintro e w' ⟨rfl,rfl⟩)
    go_round
    case rel=>exact .inr (.inl ⟨rfl,HN⟩)
    case measure=>simp[intOf]
  ·have hidx: ∀w:World,(Instr.index 282 (.agg #[.string ⟨#[61,61]⟩, .string ⟨#[33,61]⟩, .string ⟨#[60,61]⟩, .string ⟨#[62,61]⟩, .string ⟨#[38,38]⟩, .string ⟨#[124,124]⟩]) (.int .i64 1)).run prog w= .ok (.string ⟨#[33,61]⟩) w:=fun w=>by(show _=_;kernel_rfl)
   have HP:=G (fun w=>(show Calls prog 150 #[.string (an (c::m)), .string ⟨#[33,61]⟩] w fun e w'=>e= .returned (.bool (gk 1 (c::m)))/\w=w' from HPF.out w [33,61]))
   cases hp:gk 1 (c::m)with
   |true=>
    have HR:=G (ja (i:=1) (t:=[33,61]) (by omega) rfl hp (by rw[HT.out,hp];simp));rw[hp]at HP;clear hp HT;go_wp2_with (go_at_call 150;refine(HP.out _).mono ?_;rintro e w' ⟨rfl,rfl⟩);exact bodyPost_ret (v:=cN (.ok ((5,[33,61],0),2))) (by simp[results,results156,go_sem,cN];rfl) rfl ⟨by rw[HR.out],aa w _⟩
   |false=>
    have HN:=G (show nu.contains ((c::m).take 2)=(gk 2 (c::m)||gk 3 (c::m)||gk 4 (c::m)||gk 5 (c::m)) by rw[HT.out,hp];simp);rw[hp]at HP;clear hp HT;go_wp2_with (go_at_call 150;refine(HP.out _).mono ?_;rintro e w' ⟨rfl,rfl⟩)
    go_round
    case rel=>exact .inr (.inr (.inl ⟨rfl,HN⟩))
    case measure=>simp[intOf]
  ·have hidx: ∀w:World,(Instr.index 282 (.agg #[.string ⟨#[61,61]⟩, .string ⟨#[33,61]⟩, .string ⟨#[60,61]⟩, .string ⟨#[62,61]⟩, .string ⟨#[38,38]⟩, .string ⟨#[124,124]⟩]) (.int .i64 2)).run prog w= .ok (.string ⟨#[60,61]⟩) w:=fun w=>by(show _=_;kernel_rfl)
   have HP:=G (fun w=>(show Calls prog 150 #[.string (an (c::m)), .string ⟨#[60,61]⟩] w fun e w'=>e= .returned (.bool (gk 2 (c::m)))/\w=w' from HPF.out w [60,61]))
   cases hp:gk 2 (c::m)with
   |true=>
    have HR:=G (ja (i:=2) (t:=[60,61]) (by omega) rfl hp (by rw[HT.out,hp];simp));rw[hp]at HP;clear hp HT;go_wp2_with (go_at_call 150;refine(HP.out _).mono ?_;rintro e w' ⟨rfl,rfl⟩);exact bodyPost_ret (v:=cN (.ok ((5,[60,61],0),2))) (by simp[results,results156,go_sem,cN];rfl) rfl ⟨by rw[HR.out],aa w _⟩
   |false=>
    have HN:=G (show nu.contains ((c::m).take 2)=(gk 3 (c::m)||gk 4 (c::m)||gk 5 (c::m)) by rw[HT.out,hp];simp);rw[hp]at HP;clear hp HT;go_wp2_with (go_at_call 150;refine(HP.out _).mono ?_;rintro e w' ⟨rfl,rfl⟩)
    go_round
    case rel=>exact .inr (.inr (.inr (.inl ⟨rfl,HN⟩)))
    case measure=>simp[intOf]
  ·have hidx: ∀w:World,(Instr.index 282 (.agg #[.string ⟨#[61,61]⟩, .string ⟨#[33,61]⟩, .string ⟨#[60,61]⟩, .string ⟨#[62,61]⟩, .string ⟨#[38,38]⟩, .string ⟨#[124,124]⟩]) (.int .i64 3)).run prog w= .ok (.string ⟨#[62,61]⟩) w:=fun w=>by(show _=_;kernel_rfl)
   have HP:=G (fun w=>(show Calls prog 150 #[.string (an (c::m)), .string ⟨#[62,61]⟩] w fun e w'=>e= .returned (.bool (gk 3 (c::m)))/\w=w' from HPF.out w [62,61]))
   cases hp:gk 3 (c::m)with
   |true=>
    have HR:=G (ja (i:=3) (t:=[62,61]) (by omega) rfl hp (by rw[HT.out,hp];simp));rw[hp]at HP;clear hp HT;go_wp2_with (go_at_call 150;refine(HP.out _).mono ?_;rintro e w' ⟨rfl,rfl⟩);exact bodyPost_ret (v:=cN (.ok ((5,[62,61],0),2))) (by simp[results,results156,go_sem,cN];rfl) rfl ⟨by rw[HR.out],aa w _⟩
   |false=>
    have HN:=G (show nu.contains ((c::m).take 2)=(gk 4 (c::m)||gk 5 (c::m)) by rw[HT.out,hp];simp);rw[hp]at HP;clear hp HT;go_wp2_with (go_at_call 150;refine(HP.out _).mono ?_;rintro e w' ⟨rfl,rfl⟩)
    go_round
    case rel=>exact .inr (.inr (.inr (.inr (.inl ⟨rfl,HN⟩))))
    case measure=>simp[intOf]
  ·have hidx: ∀w:World,(Instr.index 282 (.agg #[.string ⟨#[61,61]⟩, .string ⟨#[33,61]⟩, .string ⟨#[60,61]⟩, .string ⟨#[62,61]⟩, .string ⟨#[38,38]⟩, .string ⟨#[124,124]⟩]) (.int .i64 4)).run prog w= .ok (.string ⟨#[38,38]⟩) w:=fun w=>by(show _=_;kernel_rfl)
   have HP:=G (fun w=>(show Calls prog 150 #[.string (an (c::m)), .string ⟨#[38,38]⟩] w fun e w'=>e= .returned (.bool (gk 4 (c::m)))/\w=w' from HPF.out w [38,38]))
   cases hp:gk 4 (c::m)with
   |true=>
    have HR:=G (ja (i:=4) (t:=[38,38]) (by omega) rfl hp (by rw[HT.out,hp];simp));rw[hp]at HP;clear hp HT;go_wp2_with (go_at_call 150;refine(HP.out _).mono ?_;rintro e w' ⟨rfl,rfl⟩);exact bodyPost_ret (v:=cN (.ok ((5,[38,38],0),2))) (by simp[results,results156,go_sem,cN];rfl) rfl ⟨by rw[HR.out],aa w _⟩
   |false=>
    have HN:=G (show nu.contains ((c::m).take 2)=(gk 5 (c::m)) by rw[HT.out,hp];simp);rw[hp]at HP;clear hp HT;go_wp2_with (go_at_call 150;refine(HP.out _).mono ?_;rintro e w' ⟨rfl,rfl⟩)
    go_round
    case rel=>exact .inr (.inr (.inr (.inr (.inr (.inl ⟨rfl,HN⟩)))))
    case measure=>simp[intOf]
  ·have hidx: ∀w:World,(Instr.index 282 (.agg #[.string ⟨#[61,61]⟩, .string ⟨#[33,61]⟩, .string ⟨#[60,61]⟩, .string ⟨#[62,61]⟩, .string ⟨#[38,38]⟩, .string ⟨#[124,124]⟩]) (.int .i64 5)).run prog w= .ok (.string ⟨#[124,124]⟩) w:=fun w=>by(show _=_;kernel_rfl)
   have HP:=G (fun w=>(show Calls prog 150 #[.string (an (c::m)), .string ⟨#[124,124]⟩] w fun e w'=>e= .returned (.bool (gk 5 (c::m)))/\w=w' from HPF.out w [124,124]))
   cases hp:gk 5 (c::m)with
   |true=>
    have HR:=G (ja (i:=5) (t:=[124,124]) (by omega) rfl hp (by rw[HT.out,hp]));rw[hp]at HP;clear hp HT;go_wp2_with (go_at_call 150;refine(HP.out _).mono ?_;rintro e w' ⟨rfl,rfl⟩);exact bodyPost_ret (v:=cN (.ok ((5,[124,124],0),2))) (by simp[results,results156,go_sem,cN];rfl) rfl ⟨by rw[HR.out],aa w _⟩
   |false=>
    have HN:=G (show nu.contains ((c::m).take 2)=(false) by rw[HT.out,hp]);rw[hp]at HP;clear hp HT;go_wp2_with (go_at_call 150;refine(HP.out _).mono ?_;rintro e w' ⟨rfl,rfl⟩)
    go_round
    case rel=>exact .inr (.inr (.inr (.inr (.inr (.inr (⟨rfl,HN⟩))))))
    case measure=>simp[intOf]
  ·have HI:=G (fun w=>(show Calls prog 149 #[.string ⟨#[40,41,123,125,91,93,44,59,61,43,45,42,47,37,60,62,33]⟩, .int .u8 (c.toNat:Int)] w fun e w'=>e= .returned (.int .i64 (Lib.indexByte oa c))/\w=w' from HIX.out w));by_cases h1:0<=Lib.indexByte oa c
   ·have HR:=G (show jb (c::m)= .ok ((5,[c],0),1) by
     unfold jb;rw[HT.out,if_neg (by simp),if_pos]
     ·rfl
     ·show(some c).any (fun c=>oa.contains c)=true
      simpa using(r8 c).1 h1)
    generalize Lib.indexByte oa c=ix at*;clear HT;go_wp2_with (go_at_call 149;refine(HI.out _).mono ?_;rintro e w' ⟨rfl,rfl⟩);exact bodyPost_ret (v:=cN (.ok ((5,[c],0),1))) (by simp[results,results156,go_sem,cN]) rfl ⟨by rw[HR.out],aa w _⟩
   ·have HR:=G (show jb (c::m)= .error 3 by
     unfold jb;rw[HT.out,if_neg (by simp),if_neg];show ¬(some c).any (fun c=>oa.contains c)=true;intro h
     exact h1 ((r8 c).2 (by simpa using h)))
    generalize Lib.indexByte oa c=ix at*;clear HT;go_wp2_with (go_at_call 149;refine(HI.out _).mono ?_;rintro e w' ⟨rfl,rfl⟩);exact bodyPost_ret (v:=cN (.error 3)) (by simp[results,results156,go_sem,cN]) rfl ⟨by rw[HR.out],aa w _⟩
def EZ (w:World):Prop:=(∃ev,w.cell? ⟨4,0,none⟩=some ev/\(ev= .nilIface\/ ∃te pe,ev= .iface te pe))/\(∃ev,w.cell? ⟨5,0,none⟩=some ev/\(ev= .nilIface\/ ∃te pe,ev= .iface te pe))
theorem EZ.ext {w w':World} (h:EZ w) (he:au w w'):EZ w':=by
 obtain⟨⟨a,a1,a2⟩,b,b1,b2⟩:=h;exact⟨⟨a,(he.cell _ _ (World.block_lt_of_cell? _ _ a1)).trans a1,a2⟩,b,(he.cell _ _ (World.block_lt_of_cell? _ _ b1)).trans b1,b2⟩
theorem pP (p:UInt8->Bool): ∀l:List UInt8,∀c∈l.take (cu p l),p c=true
 | [],c,h=>by simp at h
 |x::l,c,h=>by
  simp only[cu]at h;split at h
  ·rename_i hx;rw[List.take_succ_cons]at h;rcases List.mem_cons.1 h with rfl|h
   ·exact hx
   ·exact pP p l c h
  ·simp at h
def sN (acc:Nat) (l:List UInt8):Nat:=l.foldl (fun v c=>v*10+(c.toNat-48)) acc
theorem vj: ∀(l:List UInt8) (acc:Nat),acc<=sN acc l
 | [],acc=>ah _
 |c::l,acc=>by
  have:=vj l (acc*10+(c.toNat-48));show acc<=sN (acc*10+(c.toNat-48)) l;omega
theorem mU: ∀(l:List UInt8) (acc:Nat),(∀c∈l,eM c=true)->Lib.parseUint10 acc l= .ok (sN acc l)\/(Lib.parseUint10 acc l= .range/\18446744073709551616<=sN acc l)
 | [],acc,_=> .inl rfl
 |c::l,acc,h=>by
  have hc:48<=c.toNat/\c.toNat<=57:=by have:=h c (fQ ..);unfold eM at this;simpa using this
  have hg:=vj l (acc*10+(c.toNat-48));have he:sN acc (c::l)=sN (acc*10+(c.toNat-48)) l:=rfl;simp only[Lib.parseUint10];rw[if_pos hc,he];split
  ·exact .inr ⟨rfl,by omega⟩
  ·split
   ·exact .inr ⟨rfl,by omega⟩
   ·exact mU l _ fun d hd=>h d (gE _ hd)
theorem tg {l:List UInt8} (hne:l≠ []) (h: ∀c∈l,eM c=true):(Lib.atoiAll l= .ok (lY l:Int))\/(Lib.atoiAll l= .range/\Lib.atoiSat l=9223372036854775807/\9223372036854775808<=lY l):=by
 match l with
 | []=>exact absurd rfl hne
 |c::r=>
  have hc:48<=c.toNat/\c.toNat<=57:=by have:=h c (fQ ..);unfold eM at this;simpa using this
  have h45: ¬c.toNat=45:=by omega
  have h43: ¬(c.toNat=43\/c.toNat=45):=by omega
  have hd:lY (c::r)=sN 0 (c::r):=rfl;have hsat:Lib.atoiSat (c::r)=9223372036854775807:=by
   unfold Lib.atoiSat;rw[if_neg (by simp;omega)]
  have hm:Lib.parseMag (c::r)=Lib.parseUint10 0 (c::r):=by unfold Lib.parseMag;rw[if_neg (by simp)]
  rcases mU (c::r) 0 h with h1|⟨h1,h2⟩
  ·by_cases hb:9223372036854775808<=sN 0 (c::r)
   ·refine .inr ⟨?_,hsat,by rw[hd];exact hb⟩;simp only[Lib.atoiAll];rw[if_neg h43,hm,h1];simp only;rw[if_pos ⟨h45,hb⟩]
   ·refine .inl ?_;simp only[Lib.atoiAll];rw[if_neg h43,hm,h1];simp only;rw[if_neg (by omega),if_neg (by omega),if_neg h45,hd]
  ·refine .inr ⟨?_,hsat,by rw[hd];omega⟩;simp only[Lib.atoiAll];rw[if_neg h43,hm,h1]
theorem Am (l:List UInt8) (hne:l≠ []) (hl:l.length<=100000) (h: ∀c∈l,eM c=true) (w:World) (hz:EZ w):
  ∃v:Int,(v=lY l\/(v=9223372036854775807/\9223372036854775808<=lY l))/\Calls prog 201 #[.string (an l)] w fun e w'=>(∃er,e= .returned (.tuple #[.int .i64 v,er]))/\au w w':=by
 rcases tg hne h with h1|⟨h1,h2,h3⟩
 ·refine⟨lY l, .inl rfl,?_⟩;refine(Tryz.strconv_Atoi_ok (an l) (by rw[aU];omega) (lY l) (by rw[ic];exact h1) w).mono ?_;rintro e w' ⟨rfl,h⟩;refine⟨⟨_,rfl⟩,?_⟩;rcases h with rfl|⟨t,rfl⟩
  ·exact aG _
  ·exact Lib.bytesWorld_below _ _ _
 ·refine⟨9223372036854775807, .inr ⟨rfl,h3⟩,?_⟩;obtain⟨ev,q1,q2⟩:=hz.2;refine(Tryz.strconv_Atoi_range (an l) (by rw[aU];omega) (by rw[ic];exact h1) ev w q1 q2).mono ?_;rintro e w' ⟨N,rfl,_,_,hb⟩;rw[ic,h2];exact⟨⟨_,rfl⟩,hb⟩
end
section
open Go.RowKit
theorem yZ (c:UInt8) (m:List UInt8) {n:Nat} {x:List UInt8} (hn:cu eM (c::m)=n) (hx:(c::m).take n=x):iz (c::m)=if((c::m).drop n).head?.any eZ then .error 3 else if 10<n\/(1<n/\c=48)\/2147483647<lY x then .error 2 else .ok ((3,[],lY x),n):=by
 subst hn;subst hx;unfold iz;simp
theorem Bp (c:UInt8) (m:List UInt8) {n:Nat} (hle:n<=m.length+1) (hlt: ¬n<m.length+1):((c::m).drop n).head?.any eZ=false:=by
 rw[aI (by simp;omega)];rfl
theorem Dr (c:UInt8) (m:List UInt8) {n:Nat} (hlt:n<(c::m).length):((c::m).drop n).head?.any eZ=eZ (c::m)[n]:=by
 rw[mA _ _ hlt];rfl
theorem t_ (c:UInt8) (m:List UInt8) (hc:eM c=true) (hl:(c::m).length<=100000) (w:World) (hz:EZ w):Calls prog 153 #[.string (an (c::m))] w fun e w'=>e= .returned (cN (iz (c::m)))/\au w w':=by
 have hsz:(an (c::m)).size=m.length+1:=by rw[aU];rfl
 have h0:0<(an (c::m)).size:=by rw[hsz];omega
 have hg0:(an (c::m))[0]=c:=rfl;have hl1:m.length<=99999:=by simpa using hl
 have hle:cu eM (c::m)<=m.length+1:=ig eM (c::m);have hn1:1<=cu eM (c::m):=by simp[cu,hc]
 have hall:=pP eM (c::m);have hex:=eH (c::m) 0 (cu eM (c::m));simp only[aq]at hex;have HSP:=G (fun w=>rQ eM 152 mD (.inr rfl) (c::m) hl w);have HTX:=fun x h=>G (yZ c m (n:=cu eM (c::m)) (x:=x) rfl h);have HX0:=G (aa w (.cells #[.int .i64 0, .string ⟨#[]⟩, .int .i64 0, .int .i64 0] 188));have HB0:=G (aw w 188 #[.int .i64 0, .string ⟨#[]⟩, .int .i64 0, .int .i64 0]);have hxne:(c::m).take (cu eM (c::m))≠ []:=by intro h;have:=congrArg List.length h;simp at this;omega
 have hxl:((c::m).take (cu eM (c::m))).length<=100000:=by have:=List.length_take_le' (cu eM (c::m)) (c::m);omega
 obtain⟨v,hv,HA⟩:=Am ((c::m).take (cu eM (c::m))) hxne hxl hall _ (hz.ext HX0.out);have HA:=G HA;have HT:=HTX _ rfl;clear HTX;generalize hn:cu eM (c::m)=n at*;generalize hx:(c::m).take n=x at*;clear hn hxne hall hxl hx;have hvr:v<=2147483647->v=lY x:=by omega
 have hvg:2147483647<v->2147483647<lY x:=by omega
 have hv1:v<=2147483647-> ¬2147483647<lY x:=by omega
 clear hv;by_cases hlt:n<m.length+1
 ·have hns:n<(an (c::m)).size:=by rw[hsz];exact hlt
  have hg:(an (c::m))[n]=(c::m)[n]'hlt:=rfl;have hH:=Dr c m (n:=n) hlt;have HPT:=G (lN ((c::m)[n]'hlt));have hlt':(n:Int)<m.length+1:=by omega
  generalize (c::m)[n]'hlt=d at*
  cases hp:eZ d with
  |true=>
   rw[hp]at HPT hH;have HR:=G (show iz (c::m)= .error 3 by rw[HT.out,hH,if_pos rfl]);clear hH hp;clear HT hc hvr hvg hv1;go_enter func153,ntmps153
   go_wp2_with (first
    |(go_at_call 200;refine(HSP.out _).mono ?_;rintro e w' ⟨rfl,rfl⟩)
    |(go_at_call 201;refine HA.out.mono ?_;rintro e w1 ⟨⟨er,rfl⟩,hE⟩;have HB:=G (HB0.out.ext hE);have HX:=G (HX0.out.trans hE);clear hE;have hbc:=HB.out.cell;have hbf:=HB.out.frozen)
    |(go_at_call 107;refine(HPT.out _).mono ?_;rintro e w' ⟨rfl,rfl⟩))
   have hset:=(HB.out.put4 (.int .i64 0) (.string ⟨#[]⟩) (.int .i64 0) (.int .i64 0)).cell;exact bodyPost_ret (v:=cN (.error 3)) (by simp[results,results153,go_sem,cN,hset]) rfl ⟨by rw[HR.out],HX.out.put4 (ah _) _ _ _ _⟩
  |false=>
   rw[hp]at HPT hH;clear hp;by_cases hA:10<n
   ·have hA':(10:Int)<n:=by omega
    have HR:=G (show iz (c::m)= .error 2 by rw[HT.out,hH,if_neg (by simp),if_pos (.inl hA)]);clear hH;clear HT hc hvr hvg hv1;go_enter func153,ntmps153
    go_wp2_with (first
     |(go_at_call 200;refine(HSP.out _).mono ?_;rintro e w' ⟨rfl,rfl⟩)
     |(go_at_call 201;refine HA.out.mono ?_;rintro e w1 ⟨⟨er,rfl⟩,hE⟩;have HB:=G (HB0.out.ext hE);have HX:=G (HX0.out.trans hE);clear hE;have hbc:=HB.out.cell;have hbf:=HB.out.frozen)
     |(go_at_call 107;refine(HPT.out _).mono ?_;rintro e w' ⟨rfl,rfl⟩))
    have hset:=(HB.out.put4 (.int .i64 0) (.string ⟨#[]⟩) (.int .i64 0) (.int .i64 0)).cell;exact bodyPost_ret (v:=cN (.error 2)) (by simp[results,results153,go_sem,cN,hset]) rfl ⟨by rw[HR.out],HX.out.put4 (ah _) _ _ _ _⟩
   ·have hA': ¬(10:Int)<n:=by omega
    by_cases hB:1<n
    ·have hB':(1:Int)<n:=by omega
     by_cases hC:c=48
     ·have hC':((c.toNat:Int)==48)=true:=by rw[hC];rfl
      have HR:=G (show iz (c::m)= .error 2 by rw[HT.out,hH,if_neg (by simp),if_pos (.inr (.inl ⟨hB,hC⟩))]);clear hH hC;clear HT hc hvr hvg hv1;go_enter func153,ntmps153
      go_wp2_with (first
       |(go_at_call 200;refine(HSP.out _).mono ?_;rintro e w' ⟨rfl,rfl⟩)
       |(go_at_call 201;refine HA.out.mono ?_;rintro e w1 ⟨⟨er,rfl⟩,hE⟩;have HB:=G (HB0.out.ext hE);have HX:=G (HX0.out.trans hE);clear hE;have hbc:=HB.out.cell;have hbf:=HB.out.frozen)
       |(go_at_call 107;refine(HPT.out _).mono ?_;rintro e w' ⟨rfl,rfl⟩))
      have hset:=(HB.out.put4 (.int .i64 0) (.string ⟨#[]⟩) (.int .i64 0) (.int .i64 0)).cell;exact bodyPost_ret (v:=cN (.error 2)) (by simp[results,results153,go_sem,cN,hset]) rfl ⟨by rw[HR.out],HX.out.put4 (ah _) _ _ _ _⟩
     ·have hC':((c.toNat:Int)==48)=false:=(dP c 48 (by omega)).trans (beq_eq_false_iff_ne.2 hC);by_cases hV:2147483647<v
      ·have HR:=G (show iz (c::m)= .error 2 by rw[HT.out,hH,if_neg (by simp),if_pos (.inr (.inr (hvg hV)))]);clear hH;clear hC;clear HT hc hvr hvg hv1;go_enter func153,ntmps153
       go_wp2_with (first
        |(go_at_call 200;refine(HSP.out _).mono ?_;rintro e w' ⟨rfl,rfl⟩)
        |(go_at_call 201;refine HA.out.mono ?_;rintro e w1 ⟨⟨er,rfl⟩,hE⟩;have HB:=G (HB0.out.ext hE);have HX:=G (HX0.out.trans hE);clear hE;have hbc:=HB.out.cell;have hbf:=HB.out.frozen)
        |(go_at_call 107;refine(HPT.out _).mono ?_;rintro e w' ⟨rfl,rfl⟩))
       have hset:=(HB.out.put4 (.int .i64 0) (.string ⟨#[]⟩) (.int .i64 0) (.int .i64 0)).cell;exact bodyPost_ret (v:=cN (.error 2)) (by simp[results,results153,go_sem,cN,hset]) rfl ⟨by rw[HR.out],HX.out.put4 (ah _) _ _ _ _⟩
      ·have HR:=G (show iz (c::m)= .ok ((3,[],v),n) by rw[HT.out,hH,if_neg (by simp),if_neg (by rintro(h|h|h);exact hA h;exact(fun h:1<n/\c=48=>hC h.2) h;exact hv1 (by omega) h),hvr (by omega)]);clear hH;clear hC;clear HT hc hvr hvg hv1;go_enter func153,ntmps153
       go_wp2_with (first
        |(go_at_call 200;refine(HSP.out _).mono ?_;rintro e w' ⟨rfl,rfl⟩)
        |(go_at_call 201;refine HA.out.mono ?_;rintro e w1 ⟨⟨er,rfl⟩,hE⟩;have HB:=G (HB0.out.ext hE);have HX:=G (HX0.out.trans hE);clear hE;have hbc:=HB.out.cell;have hbf:=HB.out.frozen)
        |(go_at_call 107;refine(HPT.out _).mono ?_;rintro e w' ⟨rfl,rfl⟩))
       have hset:=(HB.out.put4 (.int .i64 3) (.string ⟨#[]⟩) (.int .i64 v) (.int .i64 0)).cell;exact bodyPost_ret (v:=cN (.ok ((3,[],v),n))) (by simp[results,results153,go_sem,cN,hset];rfl) rfl ⟨by rw[HR.out],HX.out.put4 (ah _) _ _ _ _⟩
    ·have hB': ¬(1:Int)<n:=by omega
     by_cases hV:2147483647<v
     ·have HR:=G (show iz (c::m)= .error 2 by rw[HT.out,hH,if_neg (by simp),if_pos (.inr (.inr (hvg hV)))]);clear hH;clear HT hc hvr hvg hv1;go_enter func153,ntmps153
      go_wp2_with (first
       |(go_at_call 200;refine(HSP.out _).mono ?_;rintro e w' ⟨rfl,rfl⟩)
       |(go_at_call 201;refine HA.out.mono ?_;rintro e w1 ⟨⟨er,rfl⟩,hE⟩;have HB:=G (HB0.out.ext hE);have HX:=G (HX0.out.trans hE);clear hE;have hbc:=HB.out.cell;have hbf:=HB.out.frozen)
       |(go_at_call 107;refine(HPT.out _).mono ?_;rintro e w' ⟨rfl,rfl⟩))
      have hset:=(HB.out.put4 (.int .i64 0) (.string ⟨#[]⟩) (.int .i64 0) (.int .i64 0)).cell;exact bodyPost_ret (v:=cN (.error 2)) (by simp[results,results153,go_sem,cN,hset]) rfl ⟨by rw[HR.out],HX.out.put4 (ah _) _ _ _ _⟩
     ·have HR:=G (show iz (c::m)= .ok ((3,[],v),n) by rw[HT.out,hH,if_neg (by simp),if_neg (by rintro(h|h|h);exact hA h;exact(fun h:1<n/\c=48=>hB h.1) h;exact hv1 (by omega) h),hvr (by omega)]);clear hH;clear HT hc hvr hvg hv1;go_enter func153,ntmps153
      go_wp2_with (first
       |(go_at_call 200;refine(HSP.out _).mono ?_;rintro e w' ⟨rfl,rfl⟩)
       |(go_at_call 201;refine HA.out.mono ?_;rintro e w1 ⟨⟨er,rfl⟩,hE⟩;have HB:=G (HB0.out.ext hE);have HX:=G (HX0.out.trans hE);clear hE;have hbc:=HB.out.cell;have hbf:=HB.out.frozen)
       |(go_at_call 107;refine(HPT.out _).mono ?_;rintro e w' ⟨rfl,rfl⟩))
      have hset:=(HB.out.put4 (.int .i64 3) (.string ⟨#[]⟩) (.int .i64 v) (.int .i64 0)).cell;exact bodyPost_ret (v:=cN (.ok ((3,[],v),n))) (by simp[results,results153,go_sem,cN,hset];rfl) rfl ⟨by rw[HR.out],HX.out.put4 (ah _) _ _ _ _⟩
 ·have hlt': ¬(n:Int)<m.length+1:=by omega
  have hH:=Bp c m hle hlt;have HPT:=G (lN 0);by_cases hA:10<n
  ·have hA':(10:Int)<n:=by omega
   have HR:=G (show iz (c::m)= .error 2 by rw[HT.out,hH,if_neg (by simp),if_pos (.inl hA)]);clear hH;clear HT hc hvr hvg hv1;go_enter func153,ntmps153
   go_wp2_with (first
    |(go_at_call 200;refine(HSP.out _).mono ?_;rintro e w' ⟨rfl,rfl⟩)
    |(go_at_call 201;refine HA.out.mono ?_;rintro e w1 ⟨⟨er,rfl⟩,hE⟩;have HB:=G (HB0.out.ext hE);have HX:=G (HX0.out.trans hE);clear hE;have hbc:=HB.out.cell;have hbf:=HB.out.frozen)
    |(go_at_call 107;refine(HPT.out _).mono ?_;rintro e w' ⟨rfl,rfl⟩))
   have hset:=(HB.out.put4 (.int .i64 0) (.string ⟨#[]⟩) (.int .i64 0) (.int .i64 0)).cell;exact bodyPost_ret (v:=cN (.error 2)) (by simp[results,results153,go_sem,cN,hset]) rfl ⟨by rw[HR.out],HX.out.put4 (ah _) _ _ _ _⟩
  ·have hA': ¬(10:Int)<n:=by omega
   by_cases hB:1<n
   ·have hB':(1:Int)<n:=by omega
    by_cases hC:c=48
    ·have hC':((c.toNat:Int)==48)=true:=by rw[hC];rfl
     have HR:=G (show iz (c::m)= .error 2 by rw[HT.out,hH,if_neg (by simp),if_pos (.inr (.inl ⟨hB,hC⟩))]);clear hH hC;clear HT hc hvr hvg hv1;go_enter func153,ntmps153
     go_wp2_with (first
      |(go_at_call 200;refine(HSP.out _).mono ?_;rintro e w' ⟨rfl,rfl⟩)
      |(go_at_call 201;refine HA.out.mono ?_;rintro e w1 ⟨⟨er,rfl⟩,hE⟩;have HB:=G (HB0.out.ext hE);have HX:=G (HX0.out.trans hE);clear hE;have hbc:=HB.out.cell;have hbf:=HB.out.frozen)
      |(go_at_call 107;refine(HPT.out _).mono ?_;rintro e w' ⟨rfl,rfl⟩))
     have hset:=(HB.out.put4 (.int .i64 0) (.string ⟨#[]⟩) (.int .i64 0) (.int .i64 0)).cell;exact bodyPost_ret (v:=cN (.error 2)) (by simp[results,results153,go_sem,cN,hset]) rfl ⟨by rw[HR.out],HX.out.put4 (ah _) _ _ _ _⟩
    ·have hC':((c.toNat:Int)==48)=false:=(dP c 48 (by omega)).trans (beq_eq_false_iff_ne.2 hC);by_cases hV:2147483647<v
     ·have HR:=G (show iz (c::m)= .error 2 by rw[HT.out,hH,if_neg (by simp),if_pos (.inr (.inr (hvg hV)))]);clear hH;clear hC;clear HT hc hvr hvg hv1;go_enter func153,ntmps153
      go_wp2_with (first
       |(go_at_call 200;refine(HSP.out _).mono ?_;rintro e w' ⟨rfl,rfl⟩)
       |(go_at_call 201;refine HA.out.mono ?_;rintro e w1 ⟨⟨er,rfl⟩,hE⟩;have HB:=G (HB0.out.ext hE);have HX:=G (HX0.out.trans hE);clear hE;have hbc:=HB.out.cell;have hbf:=HB.out.frozen)
       |(go_at_call 107;refine(HPT.out _).mono ?_;rintro e w' ⟨rfl,rfl⟩))
      have hset:=(HB.out.put4 (.int .i64 0) (.string ⟨#[]⟩) (.int .i64 0) (.int .i64 0)).cell;exact bodyPost_ret (v:=cN (.error 2)) (by simp[results,results153,go_sem,cN,hset]) rfl ⟨by rw[HR.out],HX.out.put4 (ah _) _ _ _ _⟩
     ·have HR:=G (show iz (c::m)= .ok ((3,[],v),n) by rw[HT.out,hH,if_neg (by simp),if_neg (by rintro(h|h|h);exact hA h;exact(fun h:1<n/\c=48=>hC h.2) h;exact hv1 (by omega) h),hvr (by omega)]);clear hH;clear hC;clear HT hc hvr hvg hv1;go_enter func153,ntmps153
      go_wp2_with (first
       |(go_at_call 200;refine(HSP.out _).mono ?_;rintro e w' ⟨rfl,rfl⟩)
       |(go_at_call 201;refine HA.out.mono ?_;rintro e w1 ⟨⟨er,rfl⟩,hE⟩;have HB:=G (HB0.out.ext hE);have HX:=G (HX0.out.trans hE);clear hE;have hbc:=HB.out.cell;have hbf:=HB.out.frozen)
       |(go_at_call 107;refine(HPT.out _).mono ?_;rintro e w' ⟨rfl,rfl⟩))
      have hset:=(HB.out.put4 (.int .i64 3) (.string ⟨#[]⟩) (.int .i64 v) (.int .i64 0)).cell;exact bodyPost_ret (v:=cN (.ok ((3,[],v),n))) (by simp[results,results153,go_sem,cN,hset];rfl) rfl ⟨by rw[HR.out],HX.out.put4 (ah _) _ _ _ _⟩
   ·have hB': ¬(1:Int)<n:=by omega
    by_cases hV:2147483647<v
    ·have HR:=G (show iz (c::m)= .error 2 by rw[HT.out,hH,if_neg (by simp),if_pos (.inr (.inr (hvg hV)))]);clear hH;clear HT hc hvr hvg hv1;go_enter func153,ntmps153
     go_wp2_with (first
      |(go_at_call 200;refine(HSP.out _).mono ?_;rintro e w' ⟨rfl,rfl⟩)
      |(go_at_call 201;refine HA.out.mono ?_;rintro e w1 ⟨⟨er,rfl⟩,hE⟩;have HB:=G (HB0.out.ext hE);have HX:=G (HX0.out.trans hE);clear hE;have hbc:=HB.out.cell;have hbf:=HB.out.frozen)
      |(go_at_call 107;refine(HPT.out _).mono ?_;rintro e w' ⟨rfl,rfl⟩))
     have hset:=(HB.out.put4 (.int .i64 0) (.string ⟨#[]⟩) (.int .i64 0) (.int .i64 0)).cell;exact bodyPost_ret (v:=cN (.error 2)) (by simp[results,results153,go_sem,cN,hset]) rfl ⟨by rw[HR.out],HX.out.put4 (ah _) _ _ _ _⟩
    ·have HR:=G (show iz (c::m)= .ok ((3,[],v),n) by rw[HT.out,hH,if_neg (by simp),if_neg (by rintro(h|h|h);exact hA h;exact(fun h:1<n/\c=48=>hB h.1) h;exact hv1 (by omega) h),hvr (by omega)]);clear hH;clear HT hc hvr hvg hv1;go_enter func153,ntmps153
     go_wp2_with (first
      |(go_at_call 200;refine(HSP.out _).mono ?_;rintro e w' ⟨rfl,rfl⟩)
      |(go_at_call 201;refine HA.out.mono ?_;rintro e w1 ⟨⟨er,rfl⟩,hE⟩;have HB:=G (HB0.out.ext hE);have HX:=G (HX0.out.trans hE);clear hE;have hbc:=HB.out.cell;have hbf:=HB.out.frozen)
      |(go_at_call 107;refine(HPT.out _).mono ?_;rintro e w' ⟨rfl,rfl⟩))
     have hset:=(HB.out.put4 (.int .i64 3) (.string ⟨#[]⟩) (.int .i64 v) (.int .i64 0)).cell;exact bodyPost_ret (v:=cN (.ok ((3,[],v),n))) (by simp[results,results153,go_sem,cN,hset];rfl) rfl ⟨by rw[HR.out],HX.out.put4 (ah _) _ _ _ _⟩
theorem ib (r:tj): ∃k s v n e,cN r= .tuple #[.agg #[.int .i64 k, .string s, .int .i64 v, .int .i64 0], .int .i64 n, .int .i64 e]:=by
 cases r with
 |ok x=>exact⟨_,_,_,_,_,rfl⟩
 |error e=>exact⟨_,_,_,_,_,rfl⟩
theorem xQ (c:UInt8) (m:List UInt8):lb (c::m)=if kO c then j6 (c::m)else if eM c then iz (c::m)else if c=39 then je (c::m)else if c=34 then jI (c::m)else jb (c::m):=rfl
theorem vU (c:UInt8) (m:List UInt8) (hl:(c::m).length<=100000) (w:World) (hz:EZ w):Calls prog 96 #[.string (an (c::m))] w fun e w'=>e= .returned (cN (lb (c::m)))/\au w w':=by
 have hsz:(an (c::m)).size=m.length+1:=by rw[aU];rfl
 have h0:0<(an (c::m)).size:=by rw[hsz];omega
 have hg0:(an (c::m))[0]=c:=rfl;have hl1:m.length<=99999:=by simpa using hl
 have HL:=G (lm c);have HD:=G (mD c);have HX0:=G (aa w (.cells #[.int .i64 0, .string ⟨#[]⟩, .int .i64 0, .int .i64 0] 188));have HB0:=G (aw w 188 #[.int .i64 0, .string ⟨#[]⟩, .int .i64 0, .int .i64 0]);have HT:=G (xQ c m)
 cases hL:kO c with
 |true=>
  rw[hL]at HL;have HR:=G (show lb (c::m)=j6 (c::m) by rw[HT.out,hL,if_pos rfl]);obtain⟨k,s,v,n,e,hr⟩:=ib (j6 (c::m));have HF:=G (xF (c::m) hl (w.alloc (.cells #[.int .i64 0, .string ⟨#[]⟩, .int .i64 0, .int .i64 0] 188)));rw[hr]at HF;have HV:=G hr;clear hL HT hr hz;go_enter func96,ntmps96
  go_wp2_with (first
   |(go_at_call 108;refine(HL.out _).mono ?_;rintro e' w' ⟨rfl,rfl⟩)
   |(go_at_call 152;refine(HD.out _).mono ?_;rintro e' w' ⟨rfl,rfl⟩)
   |(go_at_call 151;refine HF.out.mono ?_;rintro e' w1 ⟨rfl,hE⟩;have HB:=G (HB0.out.ext hE);have HX:=G (HX0.out.trans hE);clear hE;have hbc:=HB.out.cell;have hbf:=HB.out.frozen))
  have hset:=(HB.out.put4 (.int .i64 k) (.string s) (.int .i64 v) (.int .i64 0)).cell;exact bodyPost_ret (v:= .tuple #[.agg #[.int .i64 k, .string s, .int .i64 v, .int .i64 0], .int .i64 n, .int .i64 e]) (by simp[results,results96,go_sem,hset]) rfl ⟨by rw[HR.out,HV.out],HX.out.put4 (ah _) _ _ _ _⟩
 |false=>
  rw[hL]at HL
  cases hD:eM c with
  |true=>
   rw[hD]at HD;have HR:=G (show lb (c::m)=iz (c::m) by rw[HT.out,hL,if_neg (by simp),hD,if_pos rfl]);obtain⟨k,s,v,n,e,hr⟩:=ib (iz (c::m));have HF:=G (t_ c m hD hl (w.alloc (.cells #[.int .i64 0, .string ⟨#[]⟩, .int .i64 0, .int .i64 0] 188)) (hz.ext HX0.out));rw[hr]at HF;have HV:=G hr;clear hL hD HT hr hz;go_enter func96,ntmps96
   go_wp2_with (first
    |(go_at_call 108;refine(HL.out _).mono ?_;rintro e' w' ⟨rfl,rfl⟩)
    |(go_at_call 152;refine(HD.out _).mono ?_;rintro e' w' ⟨rfl,rfl⟩)
    |(go_at_call 153;refine HF.out.mono ?_;rintro e' w1 ⟨rfl,hE⟩;have HB:=G (HB0.out.ext hE);have HX:=G (HX0.out.trans hE);clear hE;have hbc:=HB.out.cell;have hbf:=HB.out.frozen))
   have hset:=(HB.out.put4 (.int .i64 k) (.string s) (.int .i64 v) (.int .i64 0)).cell;exact bodyPost_ret (v:= .tuple #[.agg #[.int .i64 k, .string s, .int .i64 v, .int .i64 0], .int .i64 n, .int .i64 e]) (by simp[results,results96,go_sem,hset]) rfl ⟨by rw[HR.out,HV.out],HX.out.put4 (ah _) _ _ _ _⟩
  |false=>
   rw[hD]at HD;by_cases h39:c=39
   ·have HR:=G (show lb (c::m)=je (c::m) by rw[HT.out,hL,if_neg (by simp),hD,if_neg (by simp),if_pos h39]);obtain⟨k,s,v,n,e,hr⟩:=ib (je (c::m));have HF:=G (Aa c m (by omega) (w.alloc (.cells #[.int .i64 0, .string ⟨#[]⟩, .int .i64 0, .int .i64 0] 188)));rw[hr]at HF;have HV:=G hr;have hb39:((c.toNat:Int)==39)=true:=by rw[h39];rfl
    clear hL hD HT hr hz h39;go_enter func96,ntmps96
    go_wp2_with (first
     |(go_at_call 108;refine(HL.out _).mono ?_;rintro e' w' ⟨rfl,rfl⟩)
     |(go_at_call 152;refine(HD.out _).mono ?_;rintro e' w' ⟨rfl,rfl⟩)
     |(go_at_call 154;refine HF.out.mono ?_;rintro e' w1 ⟨rfl,hE⟩;have HB:=G (HB0.out.ext hE);have HX:=G (HX0.out.trans hE);clear hE;have hbc:=HB.out.cell;have hbf:=HB.out.frozen))
    have hset:=(HB.out.put4 (.int .i64 k) (.string s) (.int .i64 v) (.int .i64 0)).cell;exact bodyPost_ret (v:= .tuple #[.agg #[.int .i64 k, .string s, .int .i64 v, .int .i64 0], .int .i64 n, .int .i64 e]) (by simp[results,results96,go_sem,hset]) rfl ⟨by rw[HR.out,HV.out],HX.out.put4 (ah _) _ _ _ _⟩
   ·have hb39:((c.toNat:Int)==39)=false:=(dP c 39 (by omega)).trans (beq_eq_false_iff_ne.2 h39);by_cases h34:c=34
    ·have HR:=G (show lb (c::m)=jI (c::m) by rw[HT.out,hL,if_neg (by simp),hD,if_neg (by simp),if_neg h39,if_pos h34]);obtain⟨k,s,v,n,e,hr⟩:=ib (jI (c::m));have HF:=G (xV c m (by omega) (w.alloc (.cells #[.int .i64 0, .string ⟨#[]⟩, .int .i64 0, .int .i64 0] 188)));rw[hr]at HF;have HV:=G hr;have hb34:((c.toNat:Int)==34)=true:=by rw[h34];rfl
     clear hL hD HT hr hz h39 h34;go_enter func96,ntmps96
     go_wp2_with (first
      |(go_at_call 108;refine(HL.out _).mono ?_;rintro e' w' ⟨rfl,rfl⟩)
      |(go_at_call 152;refine(HD.out _).mono ?_;rintro e' w' ⟨rfl,rfl⟩)
      |(go_at_call 155;refine HF.out.mono ?_;rintro e' w1 ⟨rfl,hE⟩;have HB:=G (HB0.out.ext hE);have HX:=G (HX0.out.trans hE);clear hE;have hbc:=HB.out.cell;have hbf:=HB.out.frozen))
     have hset:=(HB.out.put4 (.int .i64 k) (.string s) (.int .i64 v) (.int .i64 0)).cell;exact bodyPost_ret (v:= .tuple #[.agg #[.int .i64 k, .string s, .int .i64 v, .int .i64 0], .int .i64 n, .int .i64 e]) (by simp[results,results96,go_sem,hset]) rfl ⟨by rw[HR.out,HV.out],HX.out.put4 (ah _) _ _ _ _⟩
    ·have HR:=G (show lb (c::m)=jb (c::m) by rw[HT.out,hL,if_neg (by simp),hD,if_neg (by simp),if_neg h39,if_neg h34]);obtain⟨k,s,v,n,e,hr⟩:=ib (jb (c::m));have HF:=G (zb c m (by omega) (w.alloc (.cells #[.int .i64 0, .string ⟨#[]⟩, .int .i64 0, .int .i64 0] 188)));rw[hr]at HF;have HV:=G hr;have hb34:((c.toNat:Int)==34)=false:=(dP c 34 (by omega)).trans (beq_eq_false_iff_ne.2 h34);clear hL hD HT hr hz h39 h34;go_enter func96,ntmps96
     go_wp2_with (first
      |(go_at_call 108;refine(HL.out _).mono ?_;rintro e' w' ⟨rfl,rfl⟩)
      |(go_at_call 152;refine(HD.out _).mono ?_;rintro e' w' ⟨rfl,rfl⟩)
      |(go_at_call 156;refine HF.out.mono ?_;rintro e' w1 ⟨rfl,hE⟩;have HB:=G (HB0.out.ext hE);have HX:=G (HX0.out.trans hE);clear hE;have hbc:=HB.out.cell;have hbf:=HB.out.frozen))
     have hset:=(HB.out.put4 (.int .i64 k) (.string s) (.int .i64 v) (.int .i64 0)).cell;exact bodyPost_ret (v:= .tuple #[.agg #[.int .i64 k, .string s, .int .i64 v, .int .i64 0], .int .i64 n, .int .i64 e]) (by simp[results,results96,go_sem,hset]) rfl ⟨by rw[HR.out,HV.out],HX.out.put4 (ah _) _ _ _ _⟩
end
section
open Go.RowKit
def fN (t:dW):List Value:=[.int .i64 t.k, .string (an t.t), .int .i64 t.v, .int .i64 t.f]
def j8 (ts:List dW):List Value:=ts.flatMap fN
theorem vV (a b:List dW):j8 (a++b)=j8 a++j8 b:=by simp[j8]
def gK (w:World) (base:Nat) (e:TypeId) (v:Value) (ts:List dW):Prop:=w.ownsRow base e 4 v ts.length (j8 ts)
theorem gK.nil_ (w:World) (base:Nat) (e:TypeId):gK w base e (.slice none 0 0) []:=World.ownsRow_nil w base e 4
theorem gK.form {w:World} {base:Nat} {e:TypeId} {v:Value} {ts:List dW} (h:gK w base e v ts): ∃A cap,v= .slice A ts.length cap:=by
 rcases h.2 with⟨rfl,h0⟩|⟨g,cap,cur,rfl,_⟩
 ·exact⟨none,0,by rw[h0]⟩
 ·exact⟨_,_,rfl⟩
theorem gK.grown {w w':World} {base:Nat} {e:TypeId} {v:Value} {ts:List dW} {row:Option Nat} (h:gK w base e v ts) (hg:w.grownBy w' row) (hr:v.ownBlock=none\/v.ownBlock≠row):gK w' base e v ts:=World.ownsRow.kept h hg hr
theorem gK.ext {w w':World} {base:Nat} {e:TypeId} {v:Value} {ts:List dW} (h:gK w base e v ts) (he:au w w'):gK w' base e v ts:=h.grown (he.grownBy none) (by cases v.ownBlock<;>simp)
structure DZ (P:Program) (t e:TypeId):Prop where
 under:P.underlying t=some (.slice e)
 info:(P.info? e).map (fun i=>(i.zero,i.size,i.bytes))=some (some (.agg #[.int .i64 0, .string ⟨#[]⟩, .int .i64 0, .int .i64 0]),4,40)
theorem rV {P:Program} {w:World} {t e:TypeId} (hT:DZ P t e) (ty:TypeId) (base:Nat) (v:Value) (ts:List dW) (hown:gK w base e v ts) (g:Nat) (x:dW)
  (hg:w.heap[g]? =some (.cells #[.int .i64 x.k, .string (an x.t), .int .i64 x.v, .int .i64 x.f] e (0,0))) (hb:ts.length<=1073741824) (hbase:base<=w.heap.size):
  ∃A' cap' w',(Builtin.append_ #[t,t] ty #[v, .slice (some ⟨g,0,none⟩) 1 1]).run P w= .ok (.slice A' (ts.length+1) cap') w'/\gK w' base e (.slice A' (ts.length+1) cap') (ts++[x])/\w.grownBy w' v.ownBlock/\
   (Value.ownBlock (.slice A' (ts.length+1) cap')=v.ownBlock\/Value.ownBlock (.slice A' (ts.length+1) cap')=some w.heap.size):=by
 obtain⟨i,hi,hz,hz1,hz2⟩:=info_parts hT.info;obtain⟨v',w',hr,h2,h3,_,h5⟩:=run_append_own_at (P:=P) w base t ty e i (.agg #[.int .i64 0, .string ⟨#[]⟩, .int .i64 0, .int .i64 0]) 4 40 hT.under hi hz hz1 hz2 rfl (by decide) v ts.length (j8 ts) hown ⟨g,0,none⟩ 1 1 (fN x) rfl
  (fun j y hj=>by
   rw[Addr.add_lit,be,cell_of_row w g j _ e (0,0) hg]
   simpa[fN]using hj) (by simp[fN,Value.oneCell']) (by simp only[maxLen];omega) (by omega) hbase
 have hO:gK w' base e v' (ts++[x]):=by
  unfold gK;rw[ab,vV];simpa[j8]using h2
 obtain⟨A',cap',rfl⟩:=hO.form;rw[ab]at hO hr h5;exact⟨A',cap',w',hr,hO,h3,h5⟩
theorem nH {P:Program} {w:World} {ops:Array Oper} {rest:List Oper} {o:Oper} {a:Act} {Q:Exit->Act->World->Prop} {t e:TypeId} (hT:DZ P t e) (hgd:o.guard=none) (s x:Operand)
  (ho:o.op= .call {callee:= .builtin .append,args:= #[s,x],argTypes:= #[t,t]}) (base:Nat) (v:Value) (ts:List dW) (hv:a.eval s=v) (hown:gK w base e v ts)
  (g:Nat) (y:dW) (hx:a.eval x= .slice (some ⟨g,0,none⟩) 1 1) (hg:w.heap[g]? =some (.cells #[.int .i64 y.k, .string (an y.t), .int .i64 y.v, .int .i64 y.f] e (0,0))) (hb:ts.length<=1073741824) (hbase:base<=w.heap.size)
  (h: ∀A' cap' w',gK w' base e (.slice A' (ts.length+1) cap') (ts++[y])->w.grownBy w' v.ownBlock->
   (Value.ownBlock (.slice A' (ts.length+1) cap')=v.ownBlock\/Value.ownBlock (.slice A' (ts.length+1) cap')=some w.heap.size)->wpList P ops Q rest (a.put o.dst (.slice A' (ts.length+1) cap')) w'):
  wpList P ops Q (o::rest) a w:=by
 obtain⟨A',cap',w',hr,h1,h2,h3⟩:=rV (P:=P) (w:=w) hT o.type base v ts hown g y hg hb hbase;refine wpList_plain hgd fun K hK=> ?_;unfold Oper.wp execOp;simp only[ho,resolve,invoke,builtin,Sem.run_bind,Sem.run_pure,Result.andThen_ok,cU,bS,db,hv,hx,hr];exact hK _ _ (h A' cap' w' h1 h2 h3)
theorem tt:DZ prog 116 188:=⟨underlying116,by kernel_rfl⟩
theorem sr: ∀(f:Nat) (m:List UInt8) (t:List UInt8) (n:Nat),pu f m=some (t,n)->1<=n/\n<=m.length
 |0,m,t,n,h=>by cases h
 |f+1,[],t,n,h=>by cases h
 |f+1,c::r,t,n,h=>by
  simp only[pu]at h;split at h
  ·cases h;exact⟨ah _,by simp⟩
  ·split at h
   ·cases h
   ·obtain⟨⟨t',n'⟩,h1,h2⟩:=Option.map_eq_some_iff.1 h
    cases h2;have:=sr f _ t' n' h1;have h3:=km (c::r);rw[bK]at this;omega
theorem mz {l:List UInt8} {c:UInt8} (h:l.head? =some c):1<=l.length:=by cases l<;>simp at h⊢
theorem xR {c:UInt8} {r:List UInt8} {x:Int×List UInt8×Int} {n:Nat} (h:lb (c::r)= .ok (x,n)):1<=n/\n<=(c::r).length:=by
 have hp:kO c=true->1<=cu eZ (c::r):=fun h=>by simp[cu,eZ,h]
 have hd:eM c=true->1<=cu eM (c::r):=fun h=>by simp[cu,h]
 have hp2:=ig eZ (c::r);have hd2:=ig eM (c::r);simp only[lb]at h;split at h
 ·rename_i hL;unfold j6 at h;split at h
  ·cases h;exact⟨hp hL,hp2⟩
  ·split at h
   ·cases h
   ·cases h;exact⟨hp hL,hp2⟩
 ·split at h
  ·rename_i hD;unfold iz at h;split at h
   ·cases h
   ·split at h
    ·cases h
    ·cases h;exact⟨hd hD,hd2⟩
  ·split at h
   ·unfold je at h;split at h
    ·cases h
    ·rename_i hc
     cases h;have h3:((c::r).drop ((cH ((c::r).drop 1)).2+1)).head? =some 39:=by
      refine Classical.byContradiction fun hne=>hc (.inr (.inr hne))
     have:=mz h3;rw[bK]at this;omega
   ·split at h
    ·unfold jI at h;split at h
     ·cases h
     ·rename_i t n' hl;split at h
      ·cases h
      ·cases h;have:=sr _ _ _ _ hl;rw[bK]at this;omega
    ·unfold jb at h;split at h
     ·rename_i hc
      cases h;have: ∀t∈nu,t.length=2:=by decide
      have h2:((c::r).take 2).length=2:=this _ (List.contains_iff_mem.1 hc);rw[aW]at h2;omega
     ·split at h
      ·cases h;exact⟨ah _,by simp⟩
      ·cases h
theorem xS {c:UInt8} {r:List UInt8} {e:Int} (h:lb (c::r)= .error e):e=3\/e=2\/e=6:=by
 simp only[lb]at h;unfold j6 iz je jI jb at h;repeat' split at h
 all_goals cases h
 all_goals first|exact .inl rfl|exact .inr (.inl rfl)|exact .inr (.inr rfl)
def kX (ts:List dW):Except (Nat×Int) (List dW)->Except (Nat×Int) (List dW)
 | .error e=> .error e
 | .ok us=> .ok (ts++us)
theorem tB (l:List UInt8):nh l=kX [] (iV (l.length+1) (l.drop 0) 0):=by
 unfold nh;rw[aq]
 cases iV (l.length+1) l 0<;>simp[kX]
theorem xO {l:List UInt8} {f p:Nat} {ts:List dW} (h:nh l=kX ts (iV (f+1) (l.drop p) p)) (he:l.length<=p+cT false (l.drop p)):nh l= .ok ts:=by
 rw[h];have:(l.drop p).drop (cT false (l.drop p))=[]:=by
  rw[dE];exact aI he
 simp only[iV,this,kX,dH]
theorem xN {l:List UInt8} {f p q:Nat} {ts:List dW} {c:UInt8} {r:List UInt8} {e:Int} (h:nh l=kX ts (iV (f+1) (l.drop p) p)) (hq:q=p+cT false (l.drop p)) (hd:l.drop q=c::r) (ht:lb (c::r)= .error e):nh l= .error (q,e):=by
 rw[h];have:(l.drop p).drop (cT false (l.drop p))=c::r:=by
  rw[dE,<-hq,hd]
 simp only[iV,this,ht,kX,hq]
theorem vS {l:List UInt8} {f p q:Nat} {ts:List dW} {c:UInt8} {r:List UInt8} {k:Int} {t:List UInt8} {v:Int} {n:Nat} (h:nh l=kX ts (iV (f+1) (l.drop p) p)) (hq:q=p+cT false (l.drop p)) (hd:l.drop q=c::r)
  (ht:lb (c::r)= .ok ((k,t,v),n)):nh l=kX (ts++[⟨k,t,v,(q:Nat)⟩]) (iV f (l.drop (q+n)) (q+n)):=by
 rw[h];have h1:(l.drop p).drop (cT false (l.drop p))=c::r:=by
  rw[dE,<-hq,hd]
 have h2:l.drop (q+n)=(c::r).drop n:=by rw[<-hd,dE]
 rw[h2];simp only[iV,h1,ht,<-hq]
 cases iV f ((c::r).drop n) (q+n)<;>simp[kX]
end
section
open Go.RowKit
def vE (ty:TypeId) (base:Nat) (r:List dW×Int×Int) (e:Ending) (w':World):Prop:=
 ∃A cap,e= .returned (.tuple #[.slice A r.1.length cap, .int .i64 r.2.1, .int .i64 r.2.2])/\gK w' base ty (.slice A r.1.length cap) r.1
theorem pH (l:List UInt8) (h:4000<l.length):kU l=([],4000,6):=by unfold kU;rw[if_pos h]
theorem xP (l:List UInt8) (ts:List dW) (h: ¬4000<l.length) (ht:nh l= .ok ts):kU l=(ts,0,0):=by unfold kU;rw[if_neg h,ht]
theorem vT (l:List UInt8) (p:Nat) (e:Int) (h: ¬4000<l.length) (ht:nh l= .error (p,e)):kU l=([],(p:Int),e):=by unfold kU;rw[if_neg h,ht]
theorem AI (w:World) (e:TypeId) (x:dW):((w.alloc (.cells #[.int .i64 x.k, .string (an x.t), .int .i64 x.v, .int .i64 x.f] e)).alloc (.cells #[.int .i64 x.k, .string (an x.t), .int .i64 x.v, .int .i64 x.f] e)).heap[w.heap.size+1]? =some (.cells #[.int .i64 x.k, .string (an x.t), .int .i64 x.v, .int .i64 x.f] e (0,0)):=by
 have:=heap_alloc_new (w.alloc (.cells #[.int .i64 x.k, .string (an x.t), .int .i64 x.v, .int .i64 x.f] e)) (.cells #[.int .i64 x.k, .string (an x.t), .int .i64 x.v, .int .i64 x.f] e);rwa [World.size_alloc]at this
theorem tC (l:List UInt8) (hl:l.length<=100000) (w:World) (hz:EZ w):Calls prog 46 #[.string (an l)] w fun e w'=>vE 188 w.heap.size (kU l) e w'/\au w w':=by
 have hsz:(an l).size=l.length:=aU l;have HZ:=G hz;clear hz;have HRb:=G (pH l);have HRo:=G (xP l);have HRe:=G (vT l);by_cases hbig:4000<l.length
 ·have hbig':(4000:Int)<l.length:=by omega
  go_enter func46,ntmps46;go_wp2_with fail;exact bodyPost_ret (v:= .tuple #[.slice none 0 0, .int .i64 4000, .int .i64 6]) (by simp[results,results46,go_sem]) rfl ⟨by rw[HRb.out hbig];exact⟨none,0,rfl,gK.nil_ _ _ _⟩,aG _⟩
 ·have hbig': ¬(4000:Int)<l.length:=by omega
  go_enter func46,ntmps46;go_wp2_with fail
  go_loopw [2,3] (fun vb vp wr=> ∃(B:Option Addr) (cap:Nat) (ts:List dW) (p f:Nat),vb= .slice B ts.length cap/\gK wr w.heap.size 188 (.slice B ts.length cap) ts/\vp= .int .i64 (p:Int)/\p<=l.length/\ts.length<=p/\l.length+1<=f+p/\
   Hid (nh l=kX ts (iV f (l.drop p) p))/\au w wr) (fun _ vp _=>l.length+1-(intOf vp).toNat)
  case atStart=>exact⟨none,0,[],0,l.length+1,rfl,gK.nil_ _ _ _,rfl,aC _,ah _,by omega,G (tB l),aG _⟩
  case round=>
   obtain⟨B,cap,ts,p,f,rfl,hown,rfl,hp,htp,hfp,HJ,hx⟩:=hrel;obtain⟨f,rfl⟩: ∃g,f=g+1:=⟨f-1,by omega⟩
   have HO:=G hown;have HX:=G hx;clear hown hx;have hps:p<=(an l).size:=by rw[hsz];exact hp
   have hex:(an l).extract p l.length=an (l.drop p):=by
    have:=eH l p l.length;rw[bh (ah _)]at this;exact this
   have HBL:=G (fun w=>xk (l.drop p) (by rw[bK];omega) w);have hsk:p+cT false (l.drop p)<=l.length:=by have:=ka false (l.drop p);rw[bK]at this;omega
   obtain⟨q,hq⟩: ∃q,q=p+cT false (l.drop p):=⟨_,rfl⟩
   have hqi:(p:Int)+(cT false (l.drop p):Int)=(q:Int):=by omega
   by_cases hend:l.length<=q
   ·have HT:=G (xO HJ.out (by omega));have hqn:q=l.length:=by omega
    have hend':(l.length:Int)<=q:=by omega
    generalize cT false (l.drop p)=s at*;clear hq HJ;go_wp2_with (go_at_call 95;refine(HBL.out _).mono ?_;rintro e w' ⟨rfl,rfl⟩);exact bodyPost_ret (v:= .tuple #[.slice B ts.length cap, .int .i64 0, .int .i64 0]) (by simp[results,results46,go_sem]) rfl ⟨by rw[HRo.out _ hbig HT.out];exact⟨B,cap,rfl,HO.out⟩,HX.out⟩
   ·have hend': ¬(l.length:Int)<=q:=by omega
    have hqs:q<=(an l).size:=by rw[hsz];omega
    have hexq:(an l).extract q l.length=an (l.drop q):=by
     have:=eH l q l.length;rw[bh (ah _)]at this;exact this
    obtain⟨c,r,hcr⟩: ∃c r,l.drop q=c::r:=by
     cases h:l.drop q with
     |nil=>have:=congrArg List.length h;rw[bK]at this;simp at this;omega
     |cons c r=>exact⟨c,r,rfl⟩
    have hlr:(c::r).length=l.length-q:=by rw[<-hcr,bK]
    rw[hcr]at hexq;have HTK:=G (fun w h=>vU c r (by omega) w h)
    cases ht:lb (c::r)with
    |error e=>
     have HT:=G (xN HJ.out hq hcr ht);have he:e=3\/e=2\/e=6:=xS ht;rw[ht]at HTK;have htv:cN (.error e)= .tuple #[.agg #[.int .i64 0, .string ⟨#[]⟩, .int .i64 0, .int .i64 0], .int .i64 0, .int .i64 e]:=rfl;rw[htv]at HTK;have hne: ¬e=0:=by omega
     have hne2:(e==0)=false:=by simp[hne]
     generalize cT false (l.drop p)=s at*;clear hq HJ ht hcr htv he
     go_wp2_with (first
      |(go_at_call 95;refine(HBL.out _).mono ?_;rintro e w' ⟨rfl,rfl⟩)
      |(go_at_call 96;refine(HTK.out _ (HZ.out.ext HX.out)).mono ?_;rintro e' w1 ⟨rfl,hE⟩;have HE:=G (HX.out.trans hE);clear hE))
     exact bodyPost_ret (v:= .tuple #[.slice none 0 0, .int .i64 q, .int .i64 e]) (by simp[results,results46,go_sem]) rfl ⟨by rw[HRe.out _ _ hbig HT.out];exact⟨none,0,rfl,gK.nil_ _ _ _⟩,HE.out.alloc' _⟩
    |ok y=>
     obtain⟨⟨k,t,v⟩,n⟩:=y;have HT:=G (vS HJ.out hq hcr ht);obtain⟨hn1,hn2⟩:=xR ht;rw[ht]at HTK;have htv:cN (.ok ((k,t,v),n))= .tuple #[.agg #[.int .i64 k, .string (an t), .int .i64 v, .int .i64 0], .int .i64 (n:Int), .int .i64 0]:=rfl;rw[htv]at HTK;generalize cT false (l.drop p)=s at*;clear hq HJ ht hcr htv
     go_wp2_with (first
      |(go_at_call 95;refine(HBL.out _).mono ?_;rintro e w' ⟨rfl,rfl⟩)
      |(go_at_call 96;refine(HTK.out _ (HZ.out.ext HX.out)).mono ?_;rintro e' w1 ⟨rfl,hE⟩;have HE1:=G (HX.out.trans ((hE.alloc' (.cells #[.int .i64 k, .string (an t), .int .i64 v, .int .i64 (q:Int)] 188)).alloc' (.cells #[.int .i64 k, .string (an t), .int .i64 v, .int .i64 (q:Int)] 188)));have HO1:=G (HO.out.ext ((hE.alloc' (.cells #[.int .i64 k, .string (an t), .int .i64 v, .int .i64 (q:Int)] 188)).alloc' (.cells #[.int .i64 k, .string (an t), .int .i64 v, .int .i64 (q:Int)] 188)));have HG1:=G (AI w1 188 ⟨k,t,v,(q:Int)⟩);clear hE)
      |(at_builtin;refine nH tt rfl _ _ rfl w.heap.size (.slice B ts.length cap) ts rfl HO1.out (w1.heap.size+1) ⟨k,t,v,(q:Int)⟩ rfl HG1.out (by omega) HE1.out.size ?_;intro A3 c3 w3 ho3 hg3 _;have HO3:=G ho3;have HG3:=G hg3;clear ho3 hg3))
     go_roundw
     case rel=>
      have hrow:=fun k hk=>(World.ownsRow.lt HO1.out k hk).1;have hx3:=HE1.out.grown HG3.out (fun k hk=>by have:=hrow k hk;omega);refine⟨A3,c3,ts++[⟨k,t,v,(q:Int)⟩],q+n,f,by rw[ab];rfl,?_,by go_num,by omega,by rw[ab];simp;omega,by omega,HT,hx3⟩;rw[ab];exact HO3.out
     case measure=>simp[intOf];omega
end
section
open Go.RowKit
theorem dQ (a b:List UInt8):an a++an b=an (a++b):=by
 apply kS;simp[an]
end
section
open Go.RowKit
end
section
open Go.RowKit
end
section
open Go.RowKit
theorem au.of_eq_alloc {w w':World} {x:Obj} (h:w.alloc x=w'):au w w':=by
 rw[<-h];exact aa _ _
end
section
open Go.RowKit
end
end Go.Proofs.YtoedmpgicdekmaaGreatDoor
