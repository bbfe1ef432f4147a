/-
  Parts of the proof: LexD LexE LexF LexG LexH LexI LexJ LexK LexL LexM LexN LexO.
-/
import Derived.Test.YtddomeddabfinaaGreatDoorTu00
import Derived.Test.YtddomeddabfinaaGreatDoorTu02
import Derived.Test.YtddomeddabfinaaGreatDoorTu03
set_option maxRecDepth 100000
set_option maxHeartbeats 8000000
set_option linter.unusedVariables false
set_option linter.unusedSimpArgs false
set_option linter.unusedSectionVars false
namespace Go.Proofs.YtddomeddabfinaaGreatDoor
open Go.Proofs.Tryz
section
open Go.RowKit
theorem gC (l:List UInt8):(ag l).data.toList=l:=by simp[ag]
theorem lY (c:UInt8): ∀l:List UInt8,(Lib.indexByte l c= -1/\l.contains c=false)\/(0<=Lib.indexByte l c/\l.contains c=true)
 | []=> .inl ⟨rfl,rfl⟩
 |b::l=>by
  simp only[Lib.indexByte];by_cases h:b=c
  ·subst h;refine .inr ⟨by simp,by simp⟩
  ·have hb:(b==c)=false:=beq_eq_false_iff_ne.2 h;have hb2:(c==b)=false:=beq_eq_false_iff_ne.2 fun e=>h e.symm;rw[hb];rcases lY c l with⟨h1,h2⟩|⟨h1,h2⟩
   ·refine .inl ⟨by simp[h1],?_⟩;rw[dH,hb2,h2];rfl
   ·refine .inr ⟨?_,?_⟩
    ·have:(Lib.indexByte l c== -1)=false:=by rw[beq_eq_false_iff_ne];omega
     simp only[bR,if_false,this];omega
    ·rw[dH,hb2,h2];rfl
theorem pW: ∀l:List UInt8,Lib.indexByte l 10=if eE l<l.length then(eE l:Int)else-1
 | []=>rfl
 |b::l=>by
  by_cases h:b=10
  ·subst h;rfl
  ·have hb:(b==10)=false:=beq_eq_false_iff_ne.2 h;have hb2:(b !=10)=true:=by simp[h]
   have ih:=pW l;have e:eE (b::l)=eE l+1:=by simp[eE,bS,h]
   rw[e];simp only[Lib.indexByte];rw[hb,ih,if_neg (by simp)];by_cases hl:eE l<l.length
   ·rw[if_pos hl,if_neg (by simp),if_pos (by rw[ac];omega)];rfl
   ·rw[if_neg hl,if_pos (show((-1:Int)== -1)=true from rfl),if_neg (by rw[ac];omega)]
theorem tU (c:UInt8):xW c=([32,9,10,13]:List UInt8).contains c:=by
 have: ∀n:Fin 256,xW (UInt8.ofNat n.val)=([32,9,10,13]:List UInt8).contains (UInt8.ofNat n.val):=by decide+kernel
 have h:=this ⟨c.toNat,c.toNat_lt⟩;rwa [fe]at h
theorem li (l:List UInt8) (c:UInt8) (w:World):Calls prog 137 #[.string (ag l), .int .u8 (c.toNat:Int)] w fun e w'=>e= .returned (.int .i64 (Lib.indexByte l c))/\w=w':=by
 refine(Tryz.strings_IndexByte (ag l) (c.toNat:Int) w).mono ?_;rintro e w' ⟨rfl,rfl⟩;rw[gC];have:(c.toNat:Int).toNat.toUInt8=c:=by
  rw[Int.toNat_natCast];exact fe
 rw[this];exact⟨rfl,rfl⟩
theorem mt (l p:List UInt8) (w:World):Calls prog 138 #[.string (ag l), .string (ag p)] w fun e w'=>e= .returned (.bool (p.isPrefixOf l))/\w=w':=by
 refine(Tryz.strings_HasPrefix (ag l) (ag p) w).mono ?_;rintro e w' ⟨rfl,rfl⟩;rw[gC,gC];exact⟨rfl,rfl⟩
theorem om (l:List UInt8):(([47,47]:List UInt8).isPrefixOf l=true/\ ∃r,l=47::47::r)\/(([47,47]:List UInt8).isPrefixOf l=false/\ ∀c r,l=c::r-> ¬(c=47/\r.head? =some 47)):=by
 match l with
 | []=>exact .inr ⟨rfl,fun c r h=>by cases h⟩
 | [c]=>exact .inr ⟨by simp[List.isPrefixOf],fun c' r h=>by injection h with h1 h2;subst h2;simp⟩
 |c::d::r=>
  by_cases h:c=47/\d=47
  ·obtain⟨rfl,rfl⟩:=h;exact .inl ⟨by simp[List.isPrefixOf],r,rfl⟩
  ·refine .inr ⟨?_,fun c' r' h'=>by injection h' with h1 h2;subst h1 h2;simpa using h⟩;simp only[List.isPrefixOf,cg];rw[Bool.and_eq_false_iff];by_cases hc:c=47
   ·right;exact beq_eq_false_iff_ne.2 fun e=>h ⟨hc,e.symm⟩
   ·left;exact beq_eq_false_iff_ne.2 fun e=>hc e.symm
theorem sT {l:List UInt8} {j:Nat} (h:j<l.length) (hw:xW l[j]=true):cH false (l.drop j)=cH false (l.drop (j+1))+1:=by
 rw[ay h];simp only[cH];rw[if_pos hw]
theorem sS {l:List UInt8} {j:Nat} (h:j<l.length) (hw:xW l[j]=false) (hs: ∀c r,l.drop j=c::r-> ¬(c=47/\r.head? =some 47)):cH false (l.drop j)=0:=by
 have hs:=hs l[j] (l.drop (j+1)) (ay h);rw[ay h];simp only[cH];rw[hw,if_neg (by simp),if_neg hs]
theorem tJ (l:List UInt8) (hl:l.length<=100000) (w:World):Calls prog 96 #[.string (ag l)] w fun e w'=>e= .returned (.int .i64 (cH false l))/\w=w':=by
 have hsz:=aL l;go_enter func96,ntmps96;go_wp2_with fail
 go_loop [3] (fun vi=> ∃j:Nat,vi= .int .i64 j/\j<=l.length/\Hid (cH false l=j+cH false (l.drop j))) (fun vi=>l.length-(intOf vi).toNat)
 case atStart=>exact⟨0,rfl,az _,G (by simp)⟩
 case round=>
  obtain⟨j,rfl,hj,HT⟩:=hrel;by_cases hlt:j<l.length
  ·have hjs:j<(ag l).size:=by rw[aL];exact hlt
   have hg:=g8 l j hjs;have hlt':(j:Int)<l.length:=by omega
   have hex:=cA l j l.length;rw[bw]at hex;have HST:=G (fun h=>sT (l:=l) hlt h);have HSP:=G (fun h hs=>sS (l:=l) hlt h hs);generalize l[j]'hlt=c at*;have HIX:=G (show Calls prog 137 #[.string ⟨#[32,9,10,13]⟩, .int .u8 (c.toNat:Int)] w fun e w'=>e= .returned (.int .i64 (Lib.indexByte [32,9,10,13] c))/\w=w' from li [32,9,10,13] c w)
   cases hw:xW c with
   |true=>
    have hi:0<=Lib.indexByte [32,9,10,13] c:=by
     rcases lY c [32,9,10,13]with⟨h1,h2⟩|⟨h1,h2⟩
     ·rw[<-tU,hw]at h2;cases h2
     ·exact h1
    have HN:=G (show cH false l=((j+1:Nat))+cH false (l.drop (j+1)) by rw[HT.out,HST.out hw];omega);generalize Lib.indexByte [32,9,10,13] c=ix at*;clear hw hex;go_wp2_with (go_at_call 137;refine HIX.out.mono ?_;rintro e w' ⟨rfl,rfl⟩)
    go_round
    case rel=>exact⟨j+1,by go_num,by omega,HN⟩
    case measure=>simp[intOf];omega
   |false=>
    have hi: ¬0<=Lib.indexByte [32,9,10,13] c:=by
     rcases lY c [32,9,10,13]with⟨h1,h2⟩|⟨h1,h2⟩
     ·omega
     ·rw[<-tU,hw]at h2;cases h2
    generalize Lib.indexByte [32,9,10,13] c=ix at*;have HPX:=G (show Calls prog 138 #[.string (ag (l.drop j)), .string ⟨#[47,47]⟩] w fun e w'=>e= .returned (.bool (([47,47]:List UInt8).isPrefixOf (l.drop j)))/\w=w' from mt (l.drop j) [47,47] w);rcases om (l.drop j)with⟨hp,hq⟩|⟨hp,hq⟩
    ·have hsc:=mZ hq;have hix:=pW (l.drop j);have HIL:=G (show Calls prog 137 #[.string (ag (l.drop j)), .int .u8 10] w fun e w'=>e= .returned (.int .i64 (Lib.indexByte (l.drop j) 10))/\w=w' from li (l.drop j) 10 w);rw[hp]at HPX;have hll:eE (l.drop j)<=(l.drop j).length:=gF _ _;have hlen:(l.drop j).length=l.length-j:=bJ;by_cases hn:eE (l.drop j)<(l.drop j).length
     ·rw[if_pos hn]at hix;rw[hix]at HIL;have HN:=G (show cH false l=((j+eE (l.drop j):Nat))+cH false (l.drop (j+eE (l.drop j))) by rw[HT.out,hsc,dG];omega);have hpos:1<=eE (l.drop j):=by
       obtain⟨r,hr⟩:=hq;rw[hr];simp[eE,bS]
      have hle:j+eE (l.drop j)<=l.length:=by omega
      generalize eE (l.drop j)=n at*;clear hw hp hq hsc hix hn hll hlen
      go_wp2_with (first
       |(go_at_call 137;with_reducible (refine HIX.out.mono ?_);rintro e w' ⟨rfl,rfl⟩)
       |(go_at_call 138;refine HPX.out.mono ?_;rintro e w' ⟨rfl,rfl⟩)
       |(go_at_call 137;refine HIL.out.mono ?_;rintro e w' ⟨rfl,rfl⟩))
      go_round
      case rel=>exact⟨j+n,by go_num,hle,HN⟩
      case measure=>simp[intOf];omega
     ·rw[if_neg hn]at hix;rw[hix]at HIL;have h3:j+eE (l.drop j)=l.length:=by omega
      have HN:=G (show cH false l=l.length by
       have hd:l.drop (j+eE (l.drop j))=[]:=aB (by omega);rw[HT.out,hsc,dG,hd];show j+(eE (l.drop j)+0)=l.length
       omega)
      clear h3;clear hw hp hq hsc hix hn hll hlen
      go_wp2_with (first
       |(go_at_call 137;with_reducible (refine HIX.out.mono ?_);rintro e w' ⟨rfl,rfl⟩)
       |(go_at_call 138;refine HPX.out.mono ?_;rintro e w' ⟨rfl,rfl⟩)
       |(go_at_call 137;refine HIL.out.mono ?_;rintro e w' ⟨rfl,rfl⟩))
      go_ret;exact⟨kD (by rw[HN.out]),rfl⟩
    ·rw[hp]at HPX;have HN:=G (show cH false l=j by rw[HT.out,HSP.out hw hq];omega);clear hw hp hq
     go_wp2_with (first
      |(go_at_call 137;with_reducible (refine HIX.out.mono ?_);rintro e w' ⟨rfl,rfl⟩)
      |(go_at_call 138;refine HPX.out.mono ?_;rintro e w' ⟨rfl,rfl⟩))
     go_ret;exact⟨kD (by rw[HN.out]),rfl⟩
  ·have HN:=G (show cH false l=j by rw[HT.out,aB (by omega)];rfl);have hlt': ¬(j:Int)<l.length:=by omega
   go_wp2_with fail;go_ret;exact⟨kD (by rw[HN.out]),rfl⟩
end
section
open Go.RowKit
def cj:qj->Value
 | .ok x=> .tuple #[.agg #[.int .i64 x.1.1, .string (ag x.1.2.1), .int .i64 x.1.2.2, .int .i64 0], .int .i64 (x.2:Int), .int .i64 0]
 | .error e=> .tuple #[.agg #[.int .i64 0, .string ⟨#[]⟩, .int .i64 0, .int .i64 0], .int .i64 0, .int .i64 e]
theorem aO.put4 {w:World} {g:Nat} {t:TypeId} {x0 x1 x2 x3:Value} (h:aO w g t #[x0,x1,x2,x3]) (a b c d:Value):aO ((((w.setCell ⟨g,0,none⟩ a).setCell ⟨g,1,none⟩ b).setCell ⟨g,2,none⟩ c).setCell ⟨g,3,none⟩ d) g t #[a,b,c,d]:=by
 have:=(((h.set 0 a).set 1 b).set 2 c).set 3 d;simpa using this
theorem au.put4 {w0 w:World} {g:Nat} (h:au w0 w) (hg:w0.heap.size<=g) (a b c d:Value):au w0 ((((w.setCell ⟨g,0,none⟩ a).setCell ⟨g,1,none⟩ b).setCell ⟨g,2,none⟩ c).setCell ⟨g,3,none⟩ d):=(((h.set hg a).set hg b).set hg c).set hg d
theorem tW (l:List UInt8) (hl:l.length<=100000) (w:World):Calls prog 139 #[.string (ag l)] w fun e w'=>e= .returned (cj (jp l))/\au w w':=by
 have hsz:=aL l;have hle:=gF dL l;have hex:=cA l 0 (bS dL l);simp only[ap]at hex;have HSP:=G (fun w=>pn dL 107 kF (.inl rfl) l hl w);have HT:=G (show jp l=if o4 (l.take (bS dL l))then .ok ((2,l.take (bS dL l),0),bS dL l)else if 14<bS dL l then .error 6 else .ok ((1,l.take (bS dL l),0),bS dL l)from rfl);have HK:=G (fun w=>lF (l.take (bS dL l)) w);generalize hn:bS dL l=n at*;generalize hx:l.take n=x at*;clear hn hx
 cases hk:o4 x with
 |true=>
  have HR:=G (show jp l= .ok ((2,x,0),n) by rw[HT.out,hk,if_pos rfl]);rw[hk]at HK;clear hk HT;go_enter func139,ntmps139
  go_wp2_with (first
   |(go_at_call 179;refine(HSP.out _).mono ?_;rintro e w' ⟨rfl,rfl⟩)
   |(go_at_call 109;refine(HK.out _).mono ?_;rintro e w' ⟨rfl,rfl⟩))
  exact bodyPost_ret (v:=cj (.ok ((2,x,0),n))) (by simp[results,results139,go_sem,cj]) rfl ⟨by rw[HR.out],(O w _).alloc' _⟩
 |false=>
  rw[hk]at HK;by_cases h14:14<n
  ·have HR:=G (show jp l= .error 6 by rw[HT.out,hk,if_neg (by simp),if_pos h14]);have h14':(14:Int)<n:=by omega
   clear hk HT;go_enter func139,ntmps139
   go_wp2_with (first
    |(go_at_call 179;refine(HSP.out _).mono ?_;rintro e w' ⟨rfl,rfl⟩)
    |(go_at_call 109;refine(HK.out _).mono ?_;rintro e w' ⟨rfl,rfl⟩))
   exact bodyPost_ret (v:=cj (.error 6)) (by simp[results,results139,go_sem,cj]) rfl ⟨by rw[HR.out],(O w _).alloc' _⟩
  ·have HR:=G (show jp l= .ok ((1,x,0),n) by rw[HT.out,hk,if_neg (by simp),if_neg h14]);have h14': ¬(14:Int)<n:=by omega
   clear hk HT;go_enter func139,ntmps139
   go_wp2_with (first
    |(go_at_call 179;refine(HSP.out _).mono ?_;rintro e w' ⟨rfl,rfl⟩)
    |(go_at_call 109;refine(HK.out _).mono ?_;rintro e w' ⟨rfl,rfl⟩))
   exact bodyPost_ret (v:=cj (.ok ((1,x,0),n))) (by simp[results,results139,go_sem,cj]) rfl ⟨by rw[HR.out],(O w _).alloc' _⟩
theorem lk (l:List UInt8) (j:Nat) (h:j<l.length):(l.drop j).head? =some l[j]:=by rw[List.head?_drop,aN h]
theorem mK (l:List UInt8) (j:Nat) (h:l.length<=j):(l.drop j).head? =none:=by rw[List.head?_drop,List.getElem?_eq_none h]
theorem tI (c:UInt8) (m:List UInt8):iH (c::m)=if(b_ m).2=0\/m.head? =some 39\/(m.drop (b_ m).2).head? ≠some 39 then .error 3 else .ok ((3,[],((b_ m).1.toNat:Int)),(b_ m).2+2):=rfl
theorem wa (c:UInt8) (m:List UInt8) (hl:m.length<=100000) (w:World):Calls prog 142 #[.string (ag (c::m))] w fun e w'=>e= .returned (cj (iH (c::m)))/\au w w':=by
 have hsz:(ag (c::m)).size=m.length+1:=by rw[aL];rfl
 have hex:(ag (c::m)).extract 1 (m.length+1)=ag m:=by
  have:=cA (c::m) 1 (m.length+1);rw[aJ (by simp)]at this;exact this
 have HEL:=G (fun w=>p8 m w hl);obtain⟨hle1,hle2⟩:=jG m;have HT:=G (tI c m);generalize hv:(b_ m).1=v at*;generalize hn:(b_ m).2=n at*;have HN:=G hn;have hvb:=v.toNat_lt;have hvb':(v.toNat:Int)<256:=by omega
 clear hv hn;by_cases hn0:n=0
 ·have HR:=G (show iH (c::m)= .error 3 by rw[HT.out,if_pos (.inl hn0)]);subst hn0;clear HT;go_enter func142,ntmps142;go_wp2_with (go_at_call 181;refine(HEL.out _).mono ?_;rintro e w1 ⟨rfl,hE⟩;have HB:=G ((ax w 206 #[.int .i64 0, .string ⟨#[]⟩, .int .i64 0, .int .i64 0]).ext hE);have HE:=G ((O w _).trans hE);clear hE;have hbc:=HB.out.cell;have hbf:=HB.out.frozen);have hset:=(HB.out.put4 (.int .i64 0) (.string ⟨#[]⟩) (.int .i64 0) (.int .i64 0)).cell;exact bodyPost_ret (v:=cj (.error 3)) (by simp[results,results142,go_sem,cj,hset]) rfl ⟨by rw[HR.out],HE.out.put4 (an _) _ _ _ _⟩
 ·have hm0:0<m.length:=by omega
  have hs1:1<(ag (c::m)).size:=by rw[hsz];omega
  have hg1:(ag (c::m))[1]=m[0]:=rfl;have hnb:((n:Int)==0)=false:=by simp[hn0]
  by_cases hq:m[0]=39
  ·have HR:=G (show iH (c::m)= .error 3 by rw[HT.out,if_pos (.inr (.inl (by rw[iP,aN hm0,hq])))]);rw[hq]at hg1;clear HT hn0 hq;go_enter func142,ntmps142;go_wp2_with (go_at_call 181;refine(HEL.out _).mono ?_;rintro e w1 ⟨rfl,hE⟩;have HB:=G ((ax w 206 #[.int .i64 0, .string ⟨#[]⟩, .int .i64 0, .int .i64 0]).ext hE);have HE:=G ((O w _).trans hE);clear hE;have hbc:=HB.out.cell;have hbf:=HB.out.frozen);have hset:=(HB.out.put4 (.int .i64 0) (.string ⟨#[]⟩) (.int .i64 0) (.int .i64 0)).cell;exact bodyPost_ret (v:=cj (.error 3)) (by simp[results,results142,go_sem,cj,hset]) rfl ⟨by rw[HR.out],HE.out.put4 (an _) _ _ _ _⟩
  ·have hq1:m.head? ≠some 39:=by rw[iP,aN hm0];intro e;exact hq (aw e)
   have hqb:((m[0].toNat:Int)==39)=false:=(cT m[0] 39 (by omega)).trans (beq_eq_false_iff_ne.2 hq);generalize m[0]=d at*;by_cases hln:m.length<n+1
   ·have HR:=G (show iH (c::m)= .error 3 by rw[HT.out,if_pos (.inr (.inr (by rw[mK _ _ (by omega)];simp)))]);have hln':(m.length:Int)+1<n+2:=by omega
    clear HT hn0 hq hq1;go_enter func142,ntmps142;go_wp2_with (go_at_call 181;refine(HEL.out _).mono ?_;rintro e w1 ⟨rfl,hE⟩;have HB:=G ((ax w 206 #[.int .i64 0, .string ⟨#[]⟩, .int .i64 0, .int .i64 0]).ext hE);have HE:=G ((O w _).trans hE);clear hE;have hbc:=HB.out.cell;have hbf:=HB.out.frozen);have hset:=(HB.out.put4 (.int .i64 0) (.string ⟨#[]⟩) (.int .i64 0) (.int .i64 0)).cell;exact bodyPost_ret (v:=cj (.error 3)) (by simp[results,results142,go_sem,cj,hset]) rfl ⟨by rw[HR.out],HE.out.put4 (an _) _ _ _ _⟩
   ·have hnm:n<m.length:=by omega
    have hsn:n+1<(ag (c::m)).size:=by rw[hsz];omega
    have hgn:(ag (c::m))[n+1]=m[n]:=rfl;have hln': ¬(m.length:Int)+1<n+2:=by omega
    by_cases he:m[n]=39
    ·have HR:=G (show iH (c::m)= .ok ((3,[],(v.toNat:Int)),n+2) by
      rw[HT.out,if_neg];rintro(h|h|h)
      ·exact hn0 h
      ·exact hq1 h
      ·exact h (by rw[lk _ _ hnm,he]))
     rw[he]at hgn;clear HT hn0 hq hq1 he;go_enter func142,ntmps142;go_wp2_with (go_at_call 181;refine(HEL.out _).mono ?_;rintro e w1 ⟨rfl,hE⟩;have HB:=G ((ax w 206 #[.int .i64 0, .string ⟨#[]⟩, .int .i64 0, .int .i64 0]).ext hE);have HE:=G ((O w _).trans hE);clear hE;have hbc:=HB.out.cell;have hbf:=HB.out.frozen);have hset:=(HB.out.put4 (.int .i64 3) (.string ⟨#[]⟩) (.int .i64 (v.toNat:Int)) (.int .i64 0)).cell;exact bodyPost_ret (v:=cj (.ok ((3,[],(v.toNat:Int)),n+2))) (by simp[results,results142,go_sem,cj,hset];rfl) rfl ⟨by rw[HR.out],HE.out.put4 (an _) _ _ _ _⟩
    ·have HR:=G (show iH (c::m)= .error 3 by
      rw[HT.out,if_pos (.inr (.inr (by rw[lk _ _ hnm];intro e;exact he (aw e))))])
     have hgb:((m[n].toNat:Int)==39)=false:=(cT m[n] 39 (by omega)).trans (beq_eq_false_iff_ne.2 he);have hgb2:((m[n].toNat:Int) !=39)=true:=by rw[bne,hgb];rfl
     generalize m[n]=u at*;clear HT hn0 hq hq1 he;go_enter func142,ntmps142;go_wp2_with (go_at_call 181;refine(HEL.out _).mono ?_;rintro e w1 ⟨rfl,hE⟩;have HB:=G ((ax w 206 #[.int .i64 0, .string ⟨#[]⟩, .int .i64 0, .int .i64 0]).ext hE);have HE:=G ((O w _).trans hE);clear hE;have hbc:=HB.out.cell;have hbf:=HB.out.frozen);have hset:=(HB.out.put4 (.int .i64 0) (.string ⟨#[]⟩) (.int .i64 0) (.int .i64 0)).cell;exact bodyPost_ret (v:=cj (.error 3)) (by simp[results,results142,go_sem,cj,hset]) rfl ⟨by rw[HR.out],HE.out.put4 (an _) _ _ _ _⟩
end
section
open Go.RowKit
theorem bt:qp prog 40 5:=⟨underlying40,by kernel_rfl⟩
theorem Sl.one (w:World) (v:UInt8):Sl (w.alloc (.cells #[.int .u8 (v.toNat:Int)] 5)) (some ⟨w.heap.size,0,none⟩) 1 [v]:=
 ⟨by simp,by simp[maxLen],(fun h=>by cases h), .inr ⟨w.heap.size,0,rfl,by simp,fun i hi=>by
  have hi0:i=0:=by simp at hi;omega
  subst hi0;rw[(ax w 5 #[.int .u8 (v.toNat:Int)]).cell]
  rfl⟩⟩
theorem oI {m:List UInt8} {j:Nat} (h:j<m.length) (hc:m[j]=34):iV (m.drop j)=some ([],1):=by
 rw[ay h,hc];exact vu _
theorem oJ {m:List UInt8} {j:Nat} (h:j<m.length) (hc:m[j]≠34) (h0:(b_ (m.drop j)).2=0):iV (m.drop j)=none:=by
 rw[ay h]at h0⊢;exact vw hc h0
theorem m7 {m:List UInt8} {j:Nat} (h:j<m.length) (hc:m[j]≠34) (h0:(b_ (m.drop j)).2≠0):iV (m.drop j)=(iV (m.drop (j+(b_ (m.drop j)).2))).map fun x=>((b_ (m.drop j)).1::x.1,(b_ (m.drop j)).2+x.2):=by
 have e:m.drop (j+(b_ (m.drop j)).2)=(m.drop j).drop (b_ (m.drop j)).2:=by rw[dG]
 rw[e];generalize hd:m.drop j=d at*;rw[ay h]at hd;subst hd;exact tn hc h0
theorem sP (c:UInt8) (m:List UInt8):jb (c::m)=match iV m with
 |none=> .error 3
 |some (t,n)=>if 128<t.length then .error 6 else .ok ((4,t,0),n+1):=rfl
theorem uf (c:UInt8) (m:List UInt8) (hl:m.length<=100000) (w:World):Calls prog 143 #[.string (ag (c::m))] w fun e w'=>e= .returned (cj (jb (c::m)))/\au w w':=by
 have hsz:(ag (c::m)).size=m.length+1:=by rw[aL];rfl
 have HT:=G (sP c m);go_enter func143,ntmps143;go_wp2_with fail
 go_loopw [5,6] (fun vb vi wr=> ∃(B:Option Addr) (cap:Nat) (b:List UInt8) (j:Nat),vb= .slice B b.length cap/\mX wr (w.heap.size+1) 5 (.slice B b.length cap) b/\vi= .int .i64 ((j+1:Nat):Int)/\j<=m.length/\b.length<=j/\
   Hid (iV m=(iV (m.drop j)).map fun x=>(b++x.1,j+x.2))/\aO wr w.heap.size 206 #[.int .i64 0, .string ⟨#[]⟩, .int .i64 0, .int .i64 0]/\au w wr) (fun _ vi _=>m.length+1-(intOf vi).toNat)
 case atStart=>
  refine⟨none,0,[],0,rfl,mX.nil_ _ _ _,rfl,az _,az _,G ?_,ax w _ _,O w _⟩
  cases h:iV m<;>simp[h]
 case round=>
  obtain⟨B,cap,b,j,rfl,hown,rfl,hj,hbj,HL,hblk,hx⟩:=hrel;have HO:=G hown;have HB:=G hblk;have HX:=G hx;have hbc:=hblk.cell;have hbf:=hblk.frozen;have hzb:=hblk.lt;clear hown hblk hx;have hjc:((j+1:Nat):Int)=(j:Int)+1:=by omega
  rw[hjc];by_cases hlt:j<m.length
  ·have hjs:j+1<(ag (c::m)).size:=by rw[hsz];omega
   have hg:(ag (c::m))[j+1]=m[j]:=rfl;have hlt':(j:Int)+1<m.length+1:=by omega
   by_cases h34:m[j]=34
   ·have hR:iV m=some (b,j+1):=by rw[HL.out,oI hlt h34];simp
    rw[h34]at hg;by_cases h128:128<b.length
    ·have HR:=G (show jb (c::m)= .error 6 by rw[HT.out,hR];simp only;rw[if_pos h128]);have h128':(128:Int)<b.length:=by omega
     clear h34 hR HT HL;go_wp2_with fail;have hset:=(HB.out.put4 (.int .i64 0) (.string ⟨#[]⟩) (.int .i64 0) (.int .i64 0)).cell;exact bodyPost_ret (v:=cj (.error 6)) (by simp[results,results143,go_sem,cj,hset]) rfl ⟨by rw[HR.out],HX.out.put4 (an _) _ _ _ _⟩
    ·have HR:=G (show jb (c::m)= .ok ((4,b,0),j+1+1) by rw[HT.out,hR];simp only;rw[if_neg h128]);have h128': ¬(128:Int)<b.length:=by omega
     have hcv:=HO.out.sl.2.convert (P:=prog) (src:=40) (dst:=9) underlying40 underlying5 underlying9;clear h34 hR HT HL;go_wp2_with fail;have hset:=(HB.out.put4 (.int .i64 4) (.string (ag b)) (.int .i64 0) (.int .i64 0)).cell;exact bodyPost_ret (v:=cj (.ok ((4,b,0),j+1+1))) (by simp[results,results143,go_sem,cj,hset]) rfl ⟨by rw[HR.out],HX.out.put4 (an _) _ _ _ _⟩
   ·have hgb:((m[j].toNat:Int)==34)=false:=(cT m[j] 34 (by omega)).trans (beq_eq_false_iff_ne.2 h34);have hgb2:((m[j].toNat:Int) !=34)=true:=by rw[bne,hgb];rfl
    have hex:(ag (c::m)).extract (j+1) (m.length+1)=ag (m.drop j):=by
     have:=cA (c::m) (j+1) (m.length+1);rw[aJ (by simp)]at this;exact this
    have HEL:=G (fun w=>p8 (m.drop j) w (by rw[bJ];omega));obtain⟨hle1,hle2⟩:=jG (m.drop j);rw[bJ]at hle1;have HBD:=G (fun h=>oJ (m:=m) hlt h34 h);have HST:=G (fun h=>m7 (m:=m) hlt h34 h);generalize hv:(b_ (m.drop j)).1=v at*;generalize hn:(b_ (m.drop j)).2=n at*;generalize m[j]=d at*;have HN:=G hn;have hvb:=v.toNat_lt;have hvb':(v.toNat:Int)<256:=by omega
    clear hv hn h34;generalize hdr:m.drop j=mj at*;have HDR:=G hdr;clear hdr;by_cases hn0:n=0
    ·have HR:=G (show jb (c::m)= .error 3 by rw[HT.out,HL.out,HBD.out hn0];rfl);subst hn0;clear HT HL HBD HST;go_wp2_with (go_at_call 181;refine(HEL.out _).mono ?_;rintro e w1 ⟨rfl,hE⟩;have HB:=G (HB.out.ext hE);have HE:=G (HX.out.trans hE);clear hE hbc hbf;have hbc:=HB.out.cell;have hbf:=HB.out.frozen);have hset:=(HB.out.put4 (.int .i64 0) (.string ⟨#[]⟩) (.int .i64 0) (.int .i64 0)).cell;exact bodyPost_ret (v:=cj (.error 3)) (by simp[results,results143,go_sem,cj,hset]) rfl ⟨by rw[HR.out],HE.out.put4 (an _) _ _ _ _⟩
    ·have hnb:((n:Int)==0)=false:=by simp[hn0]
     have hn1:1<=n:=by omega
     have HL2:=G (show iV m=(iV (m.drop (j+n))).map fun x=>((b++[v])++x.1,(j+n)+x.2) by
      rw[HL.out,HST.out hn0,Option.map_map]
      congr 1
      funext x
      simp[Nat.add_assoc])
     clear HT HL HBD HST hn0
     go_wp2_with (first
      |(go_at_call 181;refine(HEL.out _).mono ?_;rintro e w1 ⟨rfl,hE⟩;have HO1:=G (HO.out.ext (hE.alloc' (.cells #[.int .u8 (v.toNat:Int)] 5)));have HB1:=G (HB.out.ext (hE.alloc' (.cells #[.int .u8 (v.toNat:Int)] 5)));have HE1:=G (HX.out.trans (hE.alloc' (.cells #[.int .u8 (v.toNat:Int)] 5)));have hz1:=hE.size;clear hE hbc hbf)
      |(at_builtin;refine l9 bt rfl _ _ rfl (w.heap.size+1) (.slice B b.length cap) b rfl HO1.out (some ⟨w1.heap.size,0,none⟩) 1 [v] rfl (Sl.one w1 v) (by simp;omega) (by simp;omega) ?_;intro A3 c3 w3 ho3 hg3 _;have HO3:=G ho3;have HG3:=G hg3;clear ho3 hg3))
     go_roundw
     case rel=>
      have hrow:=fun k hk=>(World.ownsRow.lt HO1.out k hk).1;have hx3:=HE1.out.grown HG3.out (fun k hk=>by have:=hrow k hk;omega);have hb3:=HB1.out.grown HG3.out (fun e=>by have:=hrow _ e.symm;omega);refine⟨A3,c3,b++[v],j+n,by rw[aa];rfl,?_,by go_num,by omega,by rw[aa];simp;omega,HL2,hb3,hx3⟩;rw[aa];exact HO3.out
     case measure=>simp[intOf];omega
  ·have hmj:m.drop j=[]:=aB (by omega);have HR:=G (show jb (c::m)= .error 3 by rw[HT.out,HL.out,hmj];rfl);have hlt': ¬(j:Int)+1<m.length+1:=by omega
   clear HT HL hmj;go_wp2_with fail;have hset:=(HB.out.put4 (.int .i64 0) (.string ⟨#[]⟩) (.int .i64 0) (.int .i64 0)).cell;exact bodyPost_ret (v:=cj (.error 3)) (by simp[results,results143,go_sem,cj,hset]) rfl ⟨by rw[HR.out],HX.out.put4 (an _) _ _ _ _⟩
theorem pK (c:UInt8):0<=Lib.indexByte mx c↔mx.contains c=true:=by
 rcases lY c mx with⟨h1,h2⟩|⟨h1,h2⟩
 ·rw[h1,h2];simp
 ·rw[h2];simp[h1]
theorem pg (a b:UInt8) (l:List UInt8):([a,b]:List UInt8).isPrefixOf l=(l.take 2==[a,b]):=by
 match l with
 | []=>rfl
 | [c]=>simp[List.isPrefixOf]
 |c::d::r=>
  simp only[List.isPrefixOf,cg,List.take_succ_cons,List.take_zero];rw[show(a==c)=(c==a)from BEq.comm,show(b==d)=(d==b)from BEq.comm];simp
def fA (i:Nat) (l:List UInt8):Bool:=(lQ.getD i []).isPrefixOf l
theorem tZ (l:List UInt8):lQ.contains (l.take 2)=(fA 0 l||fA 1 l||fA 2 l||fA 3 l||fA 4 l||fA 5 l):=by
 unfold fA lQ;simp only[List.getD_cons_zero,List.getD_cons_succ,pg,dH,List.contains_nil,ie,jX]
theorem uQ {i:Nat} {l:List UInt8} (hi:i<6) (h:fA i l=true):l.take 2=lQ.getD i []:=by
 unfold fA lQ at h;unfold lQ;have hc:i=0\/i=1\/i=2\/i=3\/i=4\/i=5:=by omega
 rcases hc with rfl|rfl|rfl|rfl|rfl|rfl<;>(simp only[List.getD_cons_zero,List.getD_cons_succ,pg]at h⊢;exact beq_iff_eq.1 h)
end
section
open Go.RowKit
theorem iC {l:List UInt8} {i:Nat} {t:List UInt8} (hi:i<6) (ht:lQ.getD i []=t) (h:fA i l=true) (hc:lQ.contains (l.take 2)=true):iD l= .ok ((5,t,0),2):=by
 unfold iD;rw[if_pos hc,uQ hi h,ht]
theorem vl (c:UInt8) (m:List UInt8) (hl:m.length<=100000) (w:World):Calls prog 144 #[.string (ag (c::m))] w fun e w'=>e= .returned (cj (iD (c::m)))/\au w w':=by
 have hsz:(ag (c::m)).size=m.length+1:=by rw[aL];rfl
 have h0:0<(ag (c::m)).size:=by rw[hsz];omega
 have hg:(ag (c::m))[0]=c:=rfl;have hex:(ag (c::m)).extract 0 1=ag [c]:=by rw[cA];rfl
 have HW:=G (tZ (c::m));have HPF:=G (fun w (p:List UInt8)=>mt (c::m) p w);have HIX:=G (fun w=>li mx c w);go_enter func144,ntmps144;go_wp2_with fail
 go_loop [8] (fun vi=>(vi= .int .i64 0/\Hid (lQ.contains ((c::m).take 2)=(fA 0 (c::m)||fA 1 (c::m)||fA 2 (c::m)||fA 3 (c::m)||fA 4 (c::m)||fA 5 (c::m))))\/(vi= .int .i64 1/\Hid (lQ.contains ((c::m).take 2)=(fA 1 (c::m)||fA 2 (c::m)||fA 3 (c::m)||fA 4 (c::m)||fA 5 (c::m))))\/(vi= .int .i64 2/\Hid (lQ.contains ((c::m).take 2)=(fA 2 (c::m)||fA 3 (c::m)||fA 4 (c::m)||fA 5 (c::m))))\/(vi= .int .i64 3/\Hid (lQ.contains ((c::m).take 2)=(fA 3 (c::m)||fA 4 (c::m)||fA 5 (c::m))))\/(vi= .int .i64 4/\Hid (lQ.contains ((c::m).take 2)=(fA 4 (c::m)||fA 5 (c::m))))\/(vi= .int .i64 5/\Hid (lQ.contains ((c::m).take 2)=(fA 5 (c::m))))\/(vi= .int .i64 6/\Hid (lQ.contains ((c::m).take 2)=(false)))) (fun vi=>7-(intOf vi).toNat)
 case atStart=>exact .inl ⟨rfl,HW⟩
 case round=>
  rcases hrel with⟨rfl,HT⟩|⟨rfl,HT⟩|⟨rfl,HT⟩|⟨rfl,HT⟩|⟨rfl,HT⟩|⟨rfl,HT⟩|⟨rfl,HT⟩
  ·have hidx: ∀w:World,(Instr.index 264 (.agg #[.string ⟨#[61,61]⟩, .string ⟨#[33,61]⟩, .string ⟨#[60,61]⟩, .string ⟨#[62,61]⟩, .string ⟨#[38,38]⟩, .string ⟨#[124,124]⟩]) (.int .i64 0)).run prog w= .ok (.string ⟨#[61,61]⟩) w:=fun w=>by(show _=_;kernel_rfl)
   have HP:=G (fun w=>(show Calls prog 138 #[.string (ag (c::m)), .string ⟨#[61,61]⟩] w fun e w'=>e= .returned (.bool (fA 0 (c::m)))/\w=w' from HPF.out w [61,61]))
   cases hp:fA 0 (c::m)with
   |true=>
    have HR:=G (iC (i:=0) (t:=[61,61]) (by omega) rfl hp (by rw[HT.out,hp];simp));rw[hp]at HP;clear hp HT;go_wp2_with (go_at_call 138;refine(HP.out _).mono ?_;rintro e w' ⟨rfl,rfl⟩);exact bodyPost_ret (v:=cj (.ok ((5,[61,61],0),2))) (by simp[results,results144,go_sem,cj];rfl) rfl ⟨by rw[HR.out],O w _⟩
   |false=>
    have HN:=G (show lQ.contains ((c::m).take 2)=(fA 1 (c::m)||fA 2 (c::m)||fA 3 (c::m)||fA 4 (c::m)||fA 5 (c::m)) by rw[HT.out,hp];simp);rw[hp]at HP;clear hp HT;go_wp2_with (go_at_call 138;refine(HP.out _).mono ?_;rintro e w' ⟨rfl,rfl⟩)
    go_round
    case rel=>exact .inr (.inl ⟨rfl,HN⟩)
    case measure=>simp[intOf]
  ·have hidx: ∀w:World,(Instr.index 264 (.agg #[.string ⟨#[61,61]⟩, .string ⟨#[33,61]⟩, .string ⟨#[60,61]⟩, .string ⟨#[62,61]⟩, .string ⟨#[38,38]⟩, .string ⟨#[124,124]⟩]) (.int .i64 1)).run prog w= .ok (.string ⟨#[33,61]⟩) w:=fun w=>by(show _=_;kernel_rfl)
   have HP:=G (fun w=>(show Calls prog 138 #[.string (ag (c::m)), .string ⟨#[33,61]⟩] w fun e w'=>e= .returned (.bool (fA 1 (c::m)))/\w=w' from HPF.out w [33,61]))
   cases hp:fA 1 (c::m)with
   |true=>
    have HR:=G (iC (i:=1) (t:=[33,61]) (by omega) rfl hp (by rw[HT.out,hp];simp));rw[hp]at HP;clear hp HT;go_wp2_with (go_at_call 138;refine(HP.out _).mono ?_;rintro e w' ⟨rfl,rfl⟩);exact bodyPost_ret (v:=cj (.ok ((5,[33,61],0),2))) (by simp[results,results144,go_sem,cj];rfl) rfl ⟨by rw[HR.out],O w _⟩
   |false=>
    have HN:=G (show lQ.contains ((c::m).take 2)=(fA 2 (c::m)||fA 3 (c::m)||fA 4 (c::m)||fA 5 (c::m)) by rw[HT.out,hp];simp);rw[hp]at HP;clear hp HT;go_wp2_with (go_at_call 138;refine(HP.out _).mono ?_;rintro e w' ⟨rfl,rfl⟩)
    go_round
    case rel=>exact .inr (.inr (.inl ⟨rfl,HN⟩))
    case measure=>simp[intOf]
  ·have hidx: ∀w:World,(Instr.index 264 (.agg #[.string ⟨#[61,61]⟩, .string ⟨#[33,61]⟩, .string ⟨#[60,61]⟩, .string ⟨#[62,61]⟩, .string ⟨#[38,38]⟩, .string ⟨#[124,124]⟩]) (.int .i64 2)).run prog w= .ok (.string ⟨#[60,61]⟩) w:=fun w=>by(show _=_;kernel_rfl)
   have HP:=G (fun w=>(show Calls prog 138 #[.string (ag (c::m)), .string ⟨#[60,61]⟩] w fun e w'=>e= .returned (.bool (fA 2 (c::m)))/\w=w' from HPF.out w [60,61]))
   cases hp:fA 2 (c::m)with
   |true=>
    have HR:=G (iC (i:=2) (t:=[60,61]) (by omega) rfl hp (by rw[HT.out,hp];simp));rw[hp]at HP;clear hp HT;go_wp2_with (go_at_call 138;refine(HP.out _).mono ?_;rintro e w' ⟨rfl,rfl⟩);exact bodyPost_ret (v:=cj (.ok ((5,[60,61],0),2))) (by simp[results,results144,go_sem,cj];rfl) rfl ⟨by rw[HR.out],O w _⟩
   |false=>
    have HN:=G (show lQ.contains ((c::m).take 2)=(fA 3 (c::m)||fA 4 (c::m)||fA 5 (c::m)) by rw[HT.out,hp];simp);rw[hp]at HP;clear hp HT;go_wp2_with (go_at_call 138;refine(HP.out _).mono ?_;rintro e w' ⟨rfl,rfl⟩)
    go_round
    case rel=>exact .inr (.inr (.inr (.inl ⟨rfl,HN⟩)))
    case measure=>simp[intOf]
  ·have hidx: ∀w:World,(Instr.index 264 (.agg #[.string ⟨#[61,61]⟩, .string ⟨#[33,61]⟩, .string ⟨#[60,61]⟩, .string ⟨#[62,61]⟩, .string ⟨#[38,38]⟩, .string ⟨#[124,124]⟩]) (.int .i64 3)).run prog w= .ok (.string ⟨#[62,61]⟩) w:=fun w=>by(show _=_;kernel_rfl)
   have HP:=G (fun w=>(show Calls prog 138 #[.string (ag (c::m)), .string ⟨#[62,61]⟩] w fun e w'=>e= .returned (.bool (fA 3 (c::m)))/\w=w' from HPF.out w [62,61]))
   cases hp:fA 3 (c::m)with
   |true=>
    have HR:=G (iC (i:=3) (t:=[62,61]) (by omega) rfl hp (by rw[HT.out,hp];simp));rw[hp]at HP;clear hp HT;go_wp2_with (go_at_call 138;refine(HP.out _).mono ?_;rintro e w' ⟨rfl,rfl⟩);exact bodyPost_ret (v:=cj (.ok ((5,[62,61],0),2))) (by simp[results,results144,go_sem,cj];rfl) rfl ⟨by rw[HR.out],O w _⟩
   |false=>
    have HN:=G (show lQ.contains ((c::m).take 2)=(fA 4 (c::m)||fA 5 (c::m)) by rw[HT.out,hp];simp);rw[hp]at HP;clear hp HT;go_wp2_with (go_at_call 138;refine(HP.out _).mono ?_;rintro e w' ⟨rfl,rfl⟩)
    go_round
    case rel=>exact .inr (.inr (.inr (.inr (.inl ⟨rfl,HN⟩))))
    case measure=>simp[intOf]
  ·have hidx: ∀w:World,(Instr.index 264 (.agg #[.string ⟨#[61,61]⟩, .string ⟨#[33,61]⟩, .string ⟨#[60,61]⟩, .string ⟨#[62,61]⟩, .string ⟨#[38,38]⟩, .string ⟨#[124,124]⟩]) (.int .i64 4)).run prog w= .ok (.string ⟨#[38,38]⟩) w:=fun w=>by(show _=_;kernel_rfl)
   have HP:=G (fun w=>(show Calls prog 138 #[.string (ag (c::m)), .string ⟨#[38,38]⟩] w fun e w'=>e= .returned (.bool (fA 4 (c::m)))/\w=w' from HPF.out w [38,38]))
   cases hp:fA 4 (c::m)with
   |true=>
    have HR:=G (iC (i:=4) (t:=[38,38]) (by omega) rfl hp (by rw[HT.out,hp];simp));rw[hp]at HP;clear hp HT;go_wp2_with (go_at_call 138;refine(HP.out _).mono ?_;rintro e w' ⟨rfl,rfl⟩);exact bodyPost_ret (v:=cj (.ok ((5,[38,38],0),2))) (by simp[results,results144,go_sem,cj];rfl) rfl ⟨by rw[HR.out],O w _⟩
   |false=>
    have HN:=G (show lQ.contains ((c::m).take 2)=(fA 5 (c::m)) by rw[HT.out,hp];simp);rw[hp]at HP;clear hp HT;go_wp2_with (go_at_call 138;refine(HP.out _).mono ?_;rintro e w' ⟨rfl,rfl⟩)
    go_round
    case rel=>exact .inr (.inr (.inr (.inr (.inr (.inl ⟨rfl,HN⟩)))))
    case measure=>simp[intOf]
  ·have hidx: ∀w:World,(Instr.index 264 (.agg #[.string ⟨#[61,61]⟩, .string ⟨#[33,61]⟩, .string ⟨#[60,61]⟩, .string ⟨#[62,61]⟩, .string ⟨#[38,38]⟩, .string ⟨#[124,124]⟩]) (.int .i64 5)).run prog w= .ok (.string ⟨#[124,124]⟩) w:=fun w=>by(show _=_;kernel_rfl)
   have HP:=G (fun w=>(show Calls prog 138 #[.string (ag (c::m)), .string ⟨#[124,124]⟩] w fun e w'=>e= .returned (.bool (fA 5 (c::m)))/\w=w' from HPF.out w [124,124]))
   cases hp:fA 5 (c::m)with
   |true=>
    have HR:=G (iC (i:=5) (t:=[124,124]) (by omega) rfl hp (by rw[HT.out,hp]));rw[hp]at HP;clear hp HT;go_wp2_with (go_at_call 138;refine(HP.out _).mono ?_;rintro e w' ⟨rfl,rfl⟩);exact bodyPost_ret (v:=cj (.ok ((5,[124,124],0),2))) (by simp[results,results144,go_sem,cj];rfl) rfl ⟨by rw[HR.out],O w _⟩
   |false=>
    have HN:=G (show lQ.contains ((c::m).take 2)=(false) by rw[HT.out,hp]);rw[hp]at HP;clear hp HT;go_wp2_with (go_at_call 138;refine(HP.out _).mono ?_;rintro e w' ⟨rfl,rfl⟩)
    go_round
    case rel=>exact .inr (.inr (.inr (.inr (.inr (.inr (⟨rfl,HN⟩))))))
    case measure=>simp[intOf]
  ·have HI:=G (fun w=>(show Calls prog 137 #[.string ⟨#[40,41,123,125,91,93,44,59,61,43,45,42,47,37,60,62,33]⟩, .int .u8 (c.toNat:Int)] w fun e w'=>e= .returned (.int .i64 (Lib.indexByte mx c))/\w=w' from HIX.out w));by_cases h1:0<=Lib.indexByte mx c
   ·have HR:=G (show iD (c::m)= .ok ((5,[c],0),1) by
     unfold iD;rw[HT.out,if_neg (by simp),if_pos]
     ·rfl
     ·show(some c).any (fun c=>mx.contains c)=true
      simpa using(pK c).1 h1)
    generalize Lib.indexByte mx c=ix at*;clear HT;go_wp2_with (go_at_call 137;refine(HI.out _).mono ?_;rintro e w' ⟨rfl,rfl⟩);exact bodyPost_ret (v:=cj (.ok ((5,[c],0),1))) (by simp[results,results144,go_sem,cj]) rfl ⟨by rw[HR.out],O w _⟩
   ·have HR:=G (show iD (c::m)= .error 3 by
     unfold iD;rw[HT.out,if_neg (by simp),if_neg];show ¬(some c).any (fun c=>mx.contains c)=true;intro h
     exact h1 ((pK c).2 (by simpa using h)))
    generalize Lib.indexByte mx c=ix at*;clear HT;go_wp2_with (go_at_call 137;refine(HI.out _).mono ?_;rintro e w' ⟨rfl,rfl⟩);exact bodyPost_ret (v:=cj (.error 3)) (by simp[results,results144,go_sem,cj]) rfl ⟨by rw[HR.out],O w _⟩
def EZ (w:World):Prop:=(∃ev,w.cell? ⟨4,0,none⟩=some ev/\(ev= .nilIface\/ ∃te pe,ev= .iface te pe))/\(∃ev,w.cell? ⟨5,0,none⟩=some ev/\(ev= .nilIface\/ ∃te pe,ev= .iface te pe))
theorem EZ.ext {w w':World} (h:EZ w) (he:au w w'):EZ w':=by
 obtain⟨⟨a,a1,a2⟩,b,b1,b2⟩:=h;exact⟨⟨a,(he.cell _ _ (World.block_lt_of_cell? _ _ a1)).trans a1,a2⟩,b,(he.cell _ _ (World.block_lt_of_cell? _ _ b1)).trans b1,b2⟩
theorem nC (p:UInt8->Bool): ∀l:List UInt8,∀c∈l.take (bS p l),p c=true
 | [],c,h=>by simp at h
 |x::l,c,h=>by
  simp only[bS]at h;split at h
  ·rename_i hx;rw[List.take_succ_cons]at h;rcases List.mem_cons.1 h with rfl|h
   ·exact hx
   ·exact nC p l c h
  ·simp at h
def p' (acc:Nat) (l:List UInt8):Nat:=l.foldl (fun v c=>v*10+(c.toNat-48)) acc
theorem sm: ∀(l:List UInt8) (acc:Nat),acc<=p' acc l
 | [],acc=>an _
 |c::l,acc=>by
  have:=sm l (acc*10+(c.toNat-48));show acc<=p' (acc*10+(c.toNat-48)) l;omega
theorem lE: ∀(l:List UInt8) (acc:Nat),(∀c∈l,dM c=true)->Lib.parseUint10 acc l= .ok (p' acc l)\/(Lib.parseUint10 acc l= .range/\18446744073709551616<=p' acc l)
 | [],acc,_=> .inl rfl
 |c::l,acc,h=>by
  have hc:48<=c.toNat/\c.toNat<=57:=by have:=h c (eU ..);unfold dM at this;simpa using this
  have hg:=sm l (acc*10+(c.toNat-48));have he:p' acc (c::l)=p' (acc*10+(c.toNat-48)) l:=rfl;simp only[Lib.parseUint10];rw[if_pos hc,he];split
  ·exact .inr ⟨rfl,by omega⟩
  ·split
   ·exact .inr ⟨rfl,by omega⟩
   ·exact lE l _ fun d hd=>h d (fQ _ hd)
theorem qg {l:List UInt8} (hne:l≠ []) (h: ∀c∈l,dM c=true):(Lib.atoiAll l= .ok (kK l:Int))\/(Lib.atoiAll l= .range/\Lib.atoiSat l=9223372036854775807/\9223372036854775808<=kK l):=by
 match l with
 | []=>exact absurd rfl hne
 |c::r=>
  have hc:48<=c.toNat/\c.toNat<=57:=by have:=h c (eU ..);unfold dM at this;simpa using this
  have h45: ¬c.toNat=45:=by omega
  have h43: ¬(c.toNat=43\/c.toNat=45):=by omega
  have hd:kK (c::r)=p' 0 (c::r):=rfl;have hsat:Lib.atoiSat (c::r)=9223372036854775807:=by
   unfold Lib.atoiSat;rw[if_neg (by simp;omega)]
  have hm:Lib.parseMag (c::r)=Lib.parseUint10 0 (c::r):=by unfold Lib.parseMag;rw[if_neg (by simp)]
  rcases lE (c::r) 0 h with h1|⟨h1,h2⟩
  ·by_cases hb:9223372036854775808<=p' 0 (c::r)
   ·refine .inr ⟨?_,hsat,by rw[hd];exact hb⟩;simp only[Lib.atoiAll];rw[if_neg h43,hm,h1];simp only;rw[if_pos ⟨h45,hb⟩]
   ·refine .inl ?_;simp only[Lib.atoiAll];rw[if_neg h43,hm,h1];simp only;rw[if_neg (by omega),if_neg (by omega),if_neg h45,hd]
  ·refine .inr ⟨?_,hsat,by rw[hd];omega⟩;simp only[Lib.atoiAll];rw[if_neg h43,hm,h1]
theorem wh (l:List UInt8) (hne:l≠ []) (hl:l.length<=100000) (h: ∀c∈l,dM c=true) (w:World) (hz:EZ w):
  ∃v:Int,(v=kK l\/(v=9223372036854775807/\9223372036854775808<=kK l))/\Calls prog 180 #[.string (ag l)] w fun e w'=>(∃er,e= .returned (.tuple #[.int .i64 v,er]))/\au w w':=by
 rcases qg hne h with h1|⟨h1,h2,h3⟩
 ·refine⟨kK l, .inl rfl,?_⟩;refine(Tryz.strconv_Atoi_ok (ag l) (by rw[aL];omega) (kK l) (by rw[gC];exact h1) w).mono ?_;rintro e w' ⟨rfl,h⟩;refine⟨⟨_,rfl⟩,?_⟩;rcases h with rfl|⟨t,rfl⟩
  ·exact aH _
  ·exact Lib.bytesWorld_below _ _ _
 ·refine⟨9223372036854775807, .inr ⟨rfl,h3⟩,?_⟩;obtain⟨ev,q1,q2⟩:=hz.2;refine(Tryz.strconv_Atoi_range (ag l) (by rw[aL];omega) (by rw[gC];exact h1) ev w q1 q2).mono ?_;rintro e w' ⟨N,rfl,_,_,hb⟩;rw[gC,h2];exact⟨⟨_,rfl⟩,hb⟩
end
section
open Go.RowKit
theorem u_ (c:UInt8) (m:List UInt8) {n:Nat} {x:List UInt8} (hn:bS dM (c::m)=n) (hx:(c::m).take n=x):gV (c::m)=if((c::m).drop n).head?.any dL then .error 3 else if 10<n\/(1<n/\c=48)\/2147483647<kK x then .error 2 else .ok ((3,[],kK x),n):=by
 subst hn;subst hx;unfold gV;simp
theorem xq (c:UInt8) (m:List UInt8) {n:Nat} (hle:n<=m.length+1) (hlt: ¬n<m.length+1):((c::m).drop n).head?.any dL=false:=by
 rw[aB (by simp;omega)];rfl
theorem zf (c:UInt8) (m:List UInt8) {n:Nat} (hlt:n<(c::m).length):((c::m).drop n).head?.any dL=dL (c::m)[n]:=by
 rw[lk _ _ hlt];rfl
theorem q9 (c:UInt8) (m:List UInt8) (hc:dM c=true) (hl:(c::m).length<=100000) (w:World) (hz:EZ w):Calls prog 141 #[.string (ag (c::m))] w fun e w'=>e= .returned (cj (gV (c::m)))/\au w w':=by
 have hsz:(ag (c::m)).size=m.length+1:=by rw[aL];rfl
 have h0:0<(ag (c::m)).size:=by rw[hsz];omega
 have hg0:(ag (c::m))[0]=c:=rfl;have hl1:m.length<=99999:=by simpa using hl
 have hle:bS dM (c::m)<=m.length+1:=gF dM (c::m);have hn1:1<=bS dM (c::m):=by simp[bS,hc]
 have hall:=nC dM (c::m);have hex:=cA (c::m) 0 (bS dM (c::m));simp only[ap]at hex;have HSP:=G (fun w=>pn dM 140 lm (.inr rfl) (c::m) hl w);have HTX:=fun x h=>G (u_ c m (n:=bS dM (c::m)) (x:=x) rfl h);have HX0:=G (O w (.cells #[.int .i64 0, .string ⟨#[]⟩, .int .i64 0, .int .i64 0] 206));have HB0:=G (ax w 206 #[.int .i64 0, .string ⟨#[]⟩, .int .i64 0, .int .i64 0]);have hxne:(c::m).take (bS dM (c::m))≠ []:=by intro h;have:=congrArg List.length h;simp at this;omega
 have hxl:((c::m).take (bS dM (c::m))).length<=100000:=by have:=List.length_take_le' (bS dM (c::m)) (c::m);omega
 obtain⟨v,hv,HA⟩:=wh ((c::m).take (bS dM (c::m))) hxne hxl hall _ (hz.ext HX0.out);have HA:=G HA;have HT:=HTX _ rfl;clear HTX;generalize hn:bS dM (c::m)=n at*;generalize hx:(c::m).take n=x at*;clear hn hxne hall hxl hx;have hvr:v<=2147483647->v=kK x:=by omega
 have hvg:2147483647<v->2147483647<kK x:=by omega
 have hv1:v<=2147483647-> ¬2147483647<kK x:=by omega
 clear hv;by_cases hlt:n<m.length+1
 ·have hns:n<(ag (c::m)).size:=by rw[hsz];exact hlt
  have hg:(ag (c::m))[n]=(c::m)[n]'hlt:=rfl;have hH:=zf c m (n:=n) hlt;have HPT:=G (kF ((c::m)[n]'hlt));have hlt':(n:Int)<m.length+1:=by omega
  generalize (c::m)[n]'hlt=d at*
  cases hp:dL d with
  |true=>
   rw[hp]at HPT hH;have HR:=G (show gV (c::m)= .error 3 by rw[HT.out,hH,if_pos rfl]);clear hH hp;clear HT hc hvr hvg hv1;go_enter func141,ntmps141
   go_wp2_with (first
    |(go_at_call 179;refine(HSP.out _).mono ?_;rintro e w' ⟨rfl,rfl⟩)
    |(go_at_call 180;refine HA.out.mono ?_;rintro e w1 ⟨⟨er,rfl⟩,hE⟩;have HB:=G (HB0.out.ext hE);have HX:=G (HX0.out.trans hE);clear hE;have hbc:=HB.out.cell;have hbf:=HB.out.frozen)
    |(go_at_call 107;refine(HPT.out _).mono ?_;rintro e w' ⟨rfl,rfl⟩))
   have hset:=(HB.out.put4 (.int .i64 0) (.string ⟨#[]⟩) (.int .i64 0) (.int .i64 0)).cell;exact bodyPost_ret (v:=cj (.error 3)) (by simp[results,results141,go_sem,cj,hset]) rfl ⟨by rw[HR.out],HX.out.put4 (an _) _ _ _ _⟩
  |false=>
   rw[hp]at HPT hH;clear hp;by_cases hA:10<n
   ·have hA':(10:Int)<n:=by omega
    have HR:=G (show gV (c::m)= .error 2 by rw[HT.out,hH,if_neg (by simp),if_pos (.inl hA)]);clear hH;clear HT hc hvr hvg hv1;go_enter func141,ntmps141
    go_wp2_with (first
     |(go_at_call 179;refine(HSP.out _).mono ?_;rintro e w' ⟨rfl,rfl⟩)
     |(go_at_call 180;refine HA.out.mono ?_;rintro e w1 ⟨⟨er,rfl⟩,hE⟩;have HB:=G (HB0.out.ext hE);have HX:=G (HX0.out.trans hE);clear hE;have hbc:=HB.out.cell;have hbf:=HB.out.frozen)
     |(go_at_call 107;refine(HPT.out _).mono ?_;rintro e w' ⟨rfl,rfl⟩))
    have hset:=(HB.out.put4 (.int .i64 0) (.string ⟨#[]⟩) (.int .i64 0) (.int .i64 0)).cell;exact bodyPost_ret (v:=cj (.error 2)) (by simp[results,results141,go_sem,cj,hset]) rfl ⟨by rw[HR.out],HX.out.put4 (an _) _ _ _ _⟩
   ·have hA': ¬(10:Int)<n:=by omega
    by_cases hB:1<n
    ·have hB':(1:Int)<n:=by omega
     by_cases hC:c=48
     ·have hC':((c.toNat:Int)==48)=true:=by rw[hC];rfl
      have HR:=G (show gV (c::m)= .error 2 by rw[HT.out,hH,if_neg (by simp),if_pos (.inr (.inl ⟨hB,hC⟩))]);clear hH hC;clear HT hc hvr hvg hv1;go_enter func141,ntmps141
      go_wp2_with (first
       |(go_at_call 179;refine(HSP.out _).mono ?_;rintro e w' ⟨rfl,rfl⟩)
       |(go_at_call 180;refine HA.out.mono ?_;rintro e w1 ⟨⟨er,rfl⟩,hE⟩;have HB:=G (HB0.out.ext hE);have HX:=G (HX0.out.trans hE);clear hE;have hbc:=HB.out.cell;have hbf:=HB.out.frozen)
       |(go_at_call 107;refine(HPT.out _).mono ?_;rintro e w' ⟨rfl,rfl⟩))
      have hset:=(HB.out.put4 (.int .i64 0) (.string ⟨#[]⟩) (.int .i64 0) (.int .i64 0)).cell;exact bodyPost_ret (v:=cj (.error 2)) (by simp[results,results141,go_sem,cj,hset]) rfl ⟨by rw[HR.out],HX.out.put4 (an _) _ _ _ _⟩
     ·have hC':((c.toNat:Int)==48)=false:=(cT c 48 (by omega)).trans (beq_eq_false_iff_ne.2 hC);by_cases hV:2147483647<v
      ·have HR:=G (show gV (c::m)= .error 2 by rw[HT.out,hH,if_neg (by simp),if_pos (.inr (.inr (hvg hV)))]);clear hH;clear hC;clear HT hc hvr hvg hv1;go_enter func141,ntmps141
       go_wp2_with (first
        |(go_at_call 179;refine(HSP.out _).mono ?_;rintro e w' ⟨rfl,rfl⟩)
        |(go_at_call 180;refine HA.out.mono ?_;rintro e w1 ⟨⟨er,rfl⟩,hE⟩;have HB:=G (HB0.out.ext hE);have HX:=G (HX0.out.trans hE);clear hE;have hbc:=HB.out.cell;have hbf:=HB.out.frozen)
        |(go_at_call 107;refine(HPT.out _).mono ?_;rintro e w' ⟨rfl,rfl⟩))
       have hset:=(HB.out.put4 (.int .i64 0) (.string ⟨#[]⟩) (.int .i64 0) (.int .i64 0)).cell;exact bodyPost_ret (v:=cj (.error 2)) (by simp[results,results141,go_sem,cj,hset]) rfl ⟨by rw[HR.out],HX.out.put4 (an _) _ _ _ _⟩
      ·have HR:=G (show gV (c::m)= .ok ((3,[],v),n) by rw[HT.out,hH,if_neg (by simp),if_neg (by rintro(h|h|h);exact hA h;exact(fun h:1<n/\c=48=>hC h.2) h;exact hv1 (by omega) h),hvr (by omega)]);clear hH;clear hC;clear HT hc hvr hvg hv1;go_enter func141,ntmps141
       go_wp2_with (first
        |(go_at_call 179;refine(HSP.out _).mono ?_;rintro e w' ⟨rfl,rfl⟩)
        |(go_at_call 180;refine HA.out.mono ?_;rintro e w1 ⟨⟨er,rfl⟩,hE⟩;have HB:=G (HB0.out.ext hE);have HX:=G (HX0.out.trans hE);clear hE;have hbc:=HB.out.cell;have hbf:=HB.out.frozen)
        |(go_at_call 107;refine(HPT.out _).mono ?_;rintro e w' ⟨rfl,rfl⟩))
       have hset:=(HB.out.put4 (.int .i64 3) (.string ⟨#[]⟩) (.int .i64 v) (.int .i64 0)).cell;exact bodyPost_ret (v:=cj (.ok ((3,[],v),n))) (by simp[results,results141,go_sem,cj,hset];rfl) rfl ⟨by rw[HR.out],HX.out.put4 (an _) _ _ _ _⟩
    ·have hB': ¬(1:Int)<n:=by omega
     by_cases hV:2147483647<v
     ·have HR:=G (show gV (c::m)= .error 2 by rw[HT.out,hH,if_neg (by simp),if_pos (.inr (.inr (hvg hV)))]);clear hH;clear HT hc hvr hvg hv1;go_enter func141,ntmps141
      go_wp2_with (first
       |(go_at_call 179;refine(HSP.out _).mono ?_;rintro e w' ⟨rfl,rfl⟩)
       |(go_at_call 180;refine HA.out.mono ?_;rintro e w1 ⟨⟨er,rfl⟩,hE⟩;have HB:=G (HB0.out.ext hE);have HX:=G (HX0.out.trans hE);clear hE;have hbc:=HB.out.cell;have hbf:=HB.out.frozen)
       |(go_at_call 107;refine(HPT.out _).mono ?_;rintro e w' ⟨rfl,rfl⟩))
      have hset:=(HB.out.put4 (.int .i64 0) (.string ⟨#[]⟩) (.int .i64 0) (.int .i64 0)).cell;exact bodyPost_ret (v:=cj (.error 2)) (by simp[results,results141,go_sem,cj,hset]) rfl ⟨by rw[HR.out],HX.out.put4 (an _) _ _ _ _⟩
     ·have HR:=G (show gV (c::m)= .ok ((3,[],v),n) by rw[HT.out,hH,if_neg (by simp),if_neg (by rintro(h|h|h);exact hA h;exact(fun h:1<n/\c=48=>hB h.1) h;exact hv1 (by omega) h),hvr (by omega)]);clear hH;clear HT hc hvr hvg hv1;go_enter func141,ntmps141
      go_wp2_with (first
       |(go_at_call 179;refine(HSP.out _).mono ?_;rintro e w' ⟨rfl,rfl⟩)
       |(go_at_call 180;refine HA.out.mono ?_;rintro e w1 ⟨⟨er,rfl⟩,hE⟩;have HB:=G (HB0.out.ext hE);have HX:=G (HX0.out.trans hE);clear hE;have hbc:=HB.out.cell;have hbf:=HB.out.frozen)
       |(go_at_call 107;refine(HPT.out _).mono ?_;rintro e w' ⟨rfl,rfl⟩))
      have hset:=(HB.out.put4 (.int .i64 3) (.string ⟨#[]⟩) (.int .i64 v) (.int .i64 0)).cell;exact bodyPost_ret (v:=cj (.ok ((3,[],v),n))) (by simp[results,results141,go_sem,cj,hset];rfl) rfl ⟨by rw[HR.out],HX.out.put4 (an _) _ _ _ _⟩
 ·have hlt': ¬(n:Int)<m.length+1:=by omega
  have hH:=xq c m hle hlt;have HPT:=G (kF 0);by_cases hA:10<n
  ·have hA':(10:Int)<n:=by omega
   have HR:=G (show gV (c::m)= .error 2 by rw[HT.out,hH,if_neg (by simp),if_pos (.inl hA)]);clear hH;clear HT hc hvr hvg hv1;go_enter func141,ntmps141
   go_wp2_with (first
    |(go_at_call 179;refine(HSP.out _).mono ?_;rintro e w' ⟨rfl,rfl⟩)
    |(go_at_call 180;refine HA.out.mono ?_;rintro e w1 ⟨⟨er,rfl⟩,hE⟩;have HB:=G (HB0.out.ext hE);have HX:=G (HX0.out.trans hE);clear hE;have hbc:=HB.out.cell;have hbf:=HB.out.frozen)
    |(go_at_call 107;refine(HPT.out _).mono ?_;rintro e w' ⟨rfl,rfl⟩))
   have hset:=(HB.out.put4 (.int .i64 0) (.string ⟨#[]⟩) (.int .i64 0) (.int .i64 0)).cell;exact bodyPost_ret (v:=cj (.error 2)) (by simp[results,results141,go_sem,cj,hset]) rfl ⟨by rw[HR.out],HX.out.put4 (an _) _ _ _ _⟩
  ·have hA': ¬(10:Int)<n:=by omega
   by_cases hB:1<n
   ·have hB':(1:Int)<n:=by omega
    by_cases hC:c=48
    ·have hC':((c.toNat:Int)==48)=true:=by rw[hC];rfl
     have HR:=G (show gV (c::m)= .error 2 by rw[HT.out,hH,if_neg (by simp),if_pos (.inr (.inl ⟨hB,hC⟩))]);clear hH hC;clear HT hc hvr hvg hv1;go_enter func141,ntmps141
     go_wp2_with (first
      |(go_at_call 179;refine(HSP.out _).mono ?_;rintro e w' ⟨rfl,rfl⟩)
      |(go_at_call 180;refine HA.out.mono ?_;rintro e w1 ⟨⟨er,rfl⟩,hE⟩;have HB:=G (HB0.out.ext hE);have HX:=G (HX0.out.trans hE);clear hE;have hbc:=HB.out.cell;have hbf:=HB.out.frozen)
      |(go_at_call 107;refine(HPT.out _).mono ?_;rintro e w' ⟨rfl,rfl⟩))
     have hset:=(HB.out.put4 (.int .i64 0) (.string ⟨#[]⟩) (.int .i64 0) (.int .i64 0)).cell;exact bodyPost_ret (v:=cj (.error 2)) (by simp[results,results141,go_sem,cj,hset]) rfl ⟨by rw[HR.out],HX.out.put4 (an _) _ _ _ _⟩
    ·have hC':((c.toNat:Int)==48)=false:=(cT c 48 (by omega)).trans (beq_eq_false_iff_ne.2 hC);by_cases hV:2147483647<v
     ·have HR:=G (show gV (c::m)= .error 2 by rw[HT.out,hH,if_neg (by simp),if_pos (.inr (.inr (hvg hV)))]);clear hH;clear hC;clear HT hc hvr hvg hv1;go_enter func141,ntmps141
      go_wp2_with (first
       |(go_at_call 179;refine(HSP.out _).mono ?_;rintro e w' ⟨rfl,rfl⟩)
       |(go_at_call 180;refine HA.out.mono ?_;rintro e w1 ⟨⟨er,rfl⟩,hE⟩;have HB:=G (HB0.out.ext hE);have HX:=G (HX0.out.trans hE);clear hE;have hbc:=HB.out.cell;have hbf:=HB.out.frozen)
       |(go_at_call 107;refine(HPT.out _).mono ?_;rintro e w' ⟨rfl,rfl⟩))
      have hset:=(HB.out.put4 (.int .i64 0) (.string ⟨#[]⟩) (.int .i64 0) (.int .i64 0)).cell;exact bodyPost_ret (v:=cj (.error 2)) (by simp[results,results141,go_sem,cj,hset]) rfl ⟨by rw[HR.out],HX.out.put4 (an _) _ _ _ _⟩
     ·have HR:=G (show gV (c::m)= .ok ((3,[],v),n) by rw[HT.out,hH,if_neg (by simp),if_neg (by rintro(h|h|h);exact hA h;exact(fun h:1<n/\c=48=>hC h.2) h;exact hv1 (by omega) h),hvr (by omega)]);clear hH;clear hC;clear HT hc hvr hvg hv1;go_enter func141,ntmps141
      go_wp2_with (first
       |(go_at_call 179;refine(HSP.out _).mono ?_;rintro e w' ⟨rfl,rfl⟩)
       |(go_at_call 180;refine HA.out.mono ?_;rintro e w1 ⟨⟨er,rfl⟩,hE⟩;have HB:=G (HB0.out.ext hE);have HX:=G (HX0.out.trans hE);clear hE;have hbc:=HB.out.cell;have hbf:=HB.out.frozen)
       |(go_at_call 107;refine(HPT.out _).mono ?_;rintro e w' ⟨rfl,rfl⟩))
      have hset:=(HB.out.put4 (.int .i64 3) (.string ⟨#[]⟩) (.int .i64 v) (.int .i64 0)).cell;exact bodyPost_ret (v:=cj (.ok ((3,[],v),n))) (by simp[results,results141,go_sem,cj,hset];rfl) rfl ⟨by rw[HR.out],HX.out.put4 (an _) _ _ _ _⟩
   ·have hB': ¬(1:Int)<n:=by omega
    by_cases hV:2147483647<v
    ·have HR:=G (show gV (c::m)= .error 2 by rw[HT.out,hH,if_neg (by simp),if_pos (.inr (.inr (hvg hV)))]);clear hH;clear HT hc hvr hvg hv1;go_enter func141,ntmps141
     go_wp2_with (first
      |(go_at_call 179;refine(HSP.out _).mono ?_;rintro e w' ⟨rfl,rfl⟩)
      |(go_at_call 180;refine HA.out.mono ?_;rintro e w1 ⟨⟨er,rfl⟩,hE⟩;have HB:=G (HB0.out.ext hE);have HX:=G (HX0.out.trans hE);clear hE;have hbc:=HB.out.cell;have hbf:=HB.out.frozen)
      |(go_at_call 107;refine(HPT.out _).mono ?_;rintro e w' ⟨rfl,rfl⟩))
     have hset:=(HB.out.put4 (.int .i64 0) (.string ⟨#[]⟩) (.int .i64 0) (.int .i64 0)).cell;exact bodyPost_ret (v:=cj (.error 2)) (by simp[results,results141,go_sem,cj,hset]) rfl ⟨by rw[HR.out],HX.out.put4 (an _) _ _ _ _⟩
    ·have HR:=G (show gV (c::m)= .ok ((3,[],v),n) by rw[HT.out,hH,if_neg (by simp),if_neg (by rintro(h|h|h);exact hA h;exact(fun h:1<n/\c=48=>hB h.1) h;exact hv1 (by omega) h),hvr (by omega)]);clear hH;clear HT hc hvr hvg hv1;go_enter func141,ntmps141
     go_wp2_with (first
      |(go_at_call 179;refine(HSP.out _).mono ?_;rintro e w' ⟨rfl,rfl⟩)
      |(go_at_call 180;refine HA.out.mono ?_;rintro e w1 ⟨⟨er,rfl⟩,hE⟩;have HB:=G (HB0.out.ext hE);have HX:=G (HX0.out.trans hE);clear hE;have hbc:=HB.out.cell;have hbf:=HB.out.frozen)
      |(go_at_call 107;refine(HPT.out _).mono ?_;rintro e w' ⟨rfl,rfl⟩))
     have hset:=(HB.out.put4 (.int .i64 3) (.string ⟨#[]⟩) (.int .i64 v) (.int .i64 0)).cell;exact bodyPost_ret (v:=cj (.ok ((3,[],v),n))) (by simp[results,results141,go_sem,cj,hset];rfl) rfl ⟨by rw[HR.out],HX.out.put4 (an _) _ _ _ _⟩
theorem gA (r:qj): ∃k s v n e,cj r= .tuple #[.agg #[.int .i64 k, .string s, .int .i64 v, .int .i64 0], .int .i64 n, .int .i64 e]:=by
 cases r with
 |ok x=>exact⟨_,_,_,_,_,rfl⟩
 |error e=>exact⟨_,_,_,_,_,rfl⟩
theorem ua (c:UInt8) (m:List UInt8):j9 (c::m)=if fw c then jp (c::m)else if dM c then gV (c::m)else if c=39 then iH (c::m)else if c=34 then jb (c::m)else iD (c::m):=rfl
theorem sM (c:UInt8) (m:List UInt8) (hl:(c::m).length<=100000) (w:World) (hz:EZ w):Calls prog 97 #[.string (ag (c::m))] w fun e w'=>e= .returned (cj (j9 (c::m)))/\au w w':=by
 have hsz:(ag (c::m)).size=m.length+1:=by rw[aL];rfl
 have h0:0<(ag (c::m)).size:=by rw[hsz];omega
 have hg0:(ag (c::m))[0]=c:=rfl;have hl1:m.length<=99999:=by simpa using hl
 have HL:=G (kq c);have HD:=G (lm c);have HX0:=G (O w (.cells #[.int .i64 0, .string ⟨#[]⟩, .int .i64 0, .int .i64 0] 206));have HB0:=G (ax w 206 #[.int .i64 0, .string ⟨#[]⟩, .int .i64 0, .int .i64 0]);have HT:=G (ua c m)
 cases hL:fw c with
 |true=>
  rw[hL]at HL;have HR:=G (show j9 (c::m)=jp (c::m) by rw[HT.out,hL,if_pos rfl]);obtain⟨k,s,v,n,e,hr⟩:=gA (jp (c::m));have HF:=G (tW (c::m) hl (w.alloc (.cells #[.int .i64 0, .string ⟨#[]⟩, .int .i64 0, .int .i64 0] 206)));rw[hr]at HF;have HV:=G hr;clear hL HT hr hz;go_enter func97,ntmps97
  go_wp2_with (first
   |(go_at_call 108;refine(HL.out _).mono ?_;rintro e' w' ⟨rfl,rfl⟩)
   |(go_at_call 140;refine(HD.out _).mono ?_;rintro e' w' ⟨rfl,rfl⟩)
   |(go_at_call 139;refine HF.out.mono ?_;rintro e' w1 ⟨rfl,hE⟩;have HB:=G (HB0.out.ext hE);have HX:=G (HX0.out.trans hE);clear hE;have hbc:=HB.out.cell;have hbf:=HB.out.frozen))
  have hset:=(HB.out.put4 (.int .i64 k) (.string s) (.int .i64 v) (.int .i64 0)).cell;exact bodyPost_ret (v:= .tuple #[.agg #[.int .i64 k, .string s, .int .i64 v, .int .i64 0], .int .i64 n, .int .i64 e]) (by simp[results,results97,go_sem,hset]) rfl ⟨by rw[HR.out,HV.out],HX.out.put4 (an _) _ _ _ _⟩
 |false=>
  rw[hL]at HL
  cases hD:dM c with
  |true=>
   rw[hD]at HD;have HR:=G (show j9 (c::m)=gV (c::m) by rw[HT.out,hL,if_neg (by simp),hD,if_pos rfl]);obtain⟨k,s,v,n,e,hr⟩:=gA (gV (c::m));have HF:=G (q9 c m hD hl (w.alloc (.cells #[.int .i64 0, .string ⟨#[]⟩, .int .i64 0, .int .i64 0] 206)) (hz.ext HX0.out));rw[hr]at HF;have HV:=G hr;clear hL hD HT hr hz;go_enter func97,ntmps97
   go_wp2_with (first
    |(go_at_call 108;refine(HL.out _).mono ?_;rintro e' w' ⟨rfl,rfl⟩)
    |(go_at_call 140;refine(HD.out _).mono ?_;rintro e' w' ⟨rfl,rfl⟩)
    |(go_at_call 141;refine HF.out.mono ?_;rintro e' w1 ⟨rfl,hE⟩;have HB:=G (HB0.out.ext hE);have HX:=G (HX0.out.trans hE);clear hE;have hbc:=HB.out.cell;have hbf:=HB.out.frozen))
   have hset:=(HB.out.put4 (.int .i64 k) (.string s) (.int .i64 v) (.int .i64 0)).cell;exact bodyPost_ret (v:= .tuple #[.agg #[.int .i64 k, .string s, .int .i64 v, .int .i64 0], .int .i64 n, .int .i64 e]) (by simp[results,results97,go_sem,hset]) rfl ⟨by rw[HR.out,HV.out],HX.out.put4 (an _) _ _ _ _⟩
  |false=>
   rw[hD]at HD;by_cases h39:c=39
   ·have HR:=G (show j9 (c::m)=iH (c::m) by rw[HT.out,hL,if_neg (by simp),hD,if_neg (by simp),if_pos h39]);obtain⟨k,s,v,n,e,hr⟩:=gA (iH (c::m));have HF:=G (wa c m (by omega) (w.alloc (.cells #[.int .i64 0, .string ⟨#[]⟩, .int .i64 0, .int .i64 0] 206)));rw[hr]at HF;have HV:=G hr;have hb39:((c.toNat:Int)==39)=true:=by rw[h39];rfl
    clear hL hD HT hr hz h39;go_enter func97,ntmps97
    go_wp2_with (first
     |(go_at_call 108;refine(HL.out _).mono ?_;rintro e' w' ⟨rfl,rfl⟩)
     |(go_at_call 140;refine(HD.out _).mono ?_;rintro e' w' ⟨rfl,rfl⟩)
     |(go_at_call 142;refine HF.out.mono ?_;rintro e' w1 ⟨rfl,hE⟩;have HB:=G (HB0.out.ext hE);have HX:=G (HX0.out.trans hE);clear hE;have hbc:=HB.out.cell;have hbf:=HB.out.frozen))
    have hset:=(HB.out.put4 (.int .i64 k) (.string s) (.int .i64 v) (.int .i64 0)).cell;exact bodyPost_ret (v:= .tuple #[.agg #[.int .i64 k, .string s, .int .i64 v, .int .i64 0], .int .i64 n, .int .i64 e]) (by simp[results,results97,go_sem,hset]) rfl ⟨by rw[HR.out,HV.out],HX.out.put4 (an _) _ _ _ _⟩
   ·have hb39:((c.toNat:Int)==39)=false:=(cT c 39 (by omega)).trans (beq_eq_false_iff_ne.2 h39);by_cases h34:c=34
    ·have HR:=G (show j9 (c::m)=jb (c::m) by rw[HT.out,hL,if_neg (by simp),hD,if_neg (by simp),if_neg h39,if_pos h34]);obtain⟨k,s,v,n,e,hr⟩:=gA (jb (c::m));have HF:=G (uf c m (by omega) (w.alloc (.cells #[.int .i64 0, .string ⟨#[]⟩, .int .i64 0, .int .i64 0] 206)));rw[hr]at HF;have HV:=G hr;have hb34:((c.toNat:Int)==34)=true:=by rw[h34];rfl
     clear hL hD HT hr hz h39 h34;go_enter func97,ntmps97
     go_wp2_with (first
      |(go_at_call 108;refine(HL.out _).mono ?_;rintro e' w' ⟨rfl,rfl⟩)
      |(go_at_call 140;refine(HD.out _).mono ?_;rintro e' w' ⟨rfl,rfl⟩)
      |(go_at_call 143;refine HF.out.mono ?_;rintro e' w1 ⟨rfl,hE⟩;have HB:=G (HB0.out.ext hE);have HX:=G (HX0.out.trans hE);clear hE;have hbc:=HB.out.cell;have hbf:=HB.out.frozen))
     have hset:=(HB.out.put4 (.int .i64 k) (.string s) (.int .i64 v) (.int .i64 0)).cell;exact bodyPost_ret (v:= .tuple #[.agg #[.int .i64 k, .string s, .int .i64 v, .int .i64 0], .int .i64 n, .int .i64 e]) (by simp[results,results97,go_sem,hset]) rfl ⟨by rw[HR.out,HV.out],HX.out.put4 (an _) _ _ _ _⟩
    ·have HR:=G (show j9 (c::m)=iD (c::m) by rw[HT.out,hL,if_neg (by simp),hD,if_neg (by simp),if_neg h39,if_neg h34]);obtain⟨k,s,v,n,e,hr⟩:=gA (iD (c::m));have HF:=G (vl c m (by omega) (w.alloc (.cells #[.int .i64 0, .string ⟨#[]⟩, .int .i64 0, .int .i64 0] 206)));rw[hr]at HF;have HV:=G hr;have hb34:((c.toNat:Int)==34)=false:=(cT c 34 (by omega)).trans (beq_eq_false_iff_ne.2 h34);clear hL hD HT hr hz h39 h34;go_enter func97,ntmps97
     go_wp2_with (first
      |(go_at_call 108;refine(HL.out _).mono ?_;rintro e' w' ⟨rfl,rfl⟩)
      |(go_at_call 140;refine(HD.out _).mono ?_;rintro e' w' ⟨rfl,rfl⟩)
      |(go_at_call 144;refine HF.out.mono ?_;rintro e' w1 ⟨rfl,hE⟩;have HB:=G (HB0.out.ext hE);have HX:=G (HX0.out.trans hE);clear hE;have hbc:=HB.out.cell;have hbf:=HB.out.frozen))
     have hset:=(HB.out.put4 (.int .i64 k) (.string s) (.int .i64 v) (.int .i64 0)).cell;exact bodyPost_ret (v:= .tuple #[.agg #[.int .i64 k, .string s, .int .i64 v, .int .i64 0], .int .i64 n, .int .i64 e]) (by simp[results,results97,go_sem,hset]) rfl ⟨by rw[HR.out,HV.out],HX.out.put4 (an _) _ _ _ _⟩
end
section
open Go.RowKit
def eR (t:db):List Value:=[.int .i64 t.k, .string (ag t.t), .int .i64 t.v, .int .i64 t.f]
def jr (ts:List db):List Value:=ts.flatMap eR
theorem sN (a b:List db):jr (a++b)=jr a++jr b:=by simp[jr]
def fU (w:World) (base:Nat) (e:TypeId) (v:Value) (ts:List db):Prop:=w.ownsRow base e 4 v ts.length (jr ts)
theorem fU.nil_ (w:World) (base:Nat) (e:TypeId):fU w base e (.slice none 0 0) []:=World.ownsRow_nil w base e 4
theorem fU.form {w:World} {base:Nat} {e:TypeId} {v:Value} {ts:List db} (h:fU w base e v ts): ∃A cap,v= .slice A ts.length cap:=by
 rcases h.2 with⟨rfl,h0⟩|⟨g,cap,cur,rfl,_⟩
 ·exact⟨none,0,by rw[h0]⟩
 ·exact⟨_,_,rfl⟩
theorem fU.grown {w w':World} {base:Nat} {e:TypeId} {v:Value} {ts:List db} {row:Option Nat} (h:fU w base e v ts) (hg:w.grownBy w' row) (hr:v.ownBlock=none\/v.ownBlock≠row):fU w' base e v ts:=World.ownsRow.kept h hg hr
theorem fU.ext {w w':World} {base:Nat} {e:TypeId} {v:Value} {ts:List db} (h:fU w base e v ts) (he:au w w'):fU w' base e v ts:=h.grown (he.grownBy none) (by cases v.ownBlock<;>simp)
structure zF (P:Program) (t e:TypeId):Prop where
 under:P.underlying t=some (.slice e)
 info:(P.info? e).map (fun i=>(i.zero,i.size,i.bytes))=some (some (.agg #[.int .i64 0, .string ⟨#[]⟩, .int .i64 0, .int .i64 0]),4,40)
theorem pp {P:Program} {w:World} {t e:TypeId} (hT:zF P t e) (ty:TypeId) (base:Nat) (v:Value) (ts:List db) (hown:fU w base e v ts) (g:Nat) (x:db)
  (hg:w.heap[g]? =some (.cells #[.int .i64 x.k, .string (ag x.t), .int .i64 x.v, .int .i64 x.f] e (0,0))) (hb:ts.length<=1073741824) (hbase:base<=w.heap.size):
  ∃A' cap' w',(Builtin.append_ #[t,t] ty #[v, .slice (some ⟨g,0,none⟩) 1 1]).run P w= .ok (.slice A' (ts.length+1) cap') w'/\fU w' base e (.slice A' (ts.length+1) cap') (ts++[x])/\w.grownBy w' v.ownBlock/\
   (Value.ownBlock (.slice A' (ts.length+1) cap')=v.ownBlock\/Value.ownBlock (.slice A' (ts.length+1) cap')=some w.heap.size):=by
 obtain⟨i,hi,hz,hz1,hz2⟩:=info_parts hT.info;obtain⟨v',w',hr,h2,h3,_,h5⟩:=run_append_own_at (P:=P) w base t ty e i (.agg #[.int .i64 0, .string ⟨#[]⟩, .int .i64 0, .int .i64 0]) 4 40 hT.under hi hz hz1 hz2 rfl (by decide) v ts.length (jr ts) hown ⟨g,0,none⟩ 1 1 (eR x) rfl
  (fun j y hj=>by
   rw[Addr.add_lit,a8,cell_of_row w g j _ e (0,0) hg]
   simpa[eR]using hj) (by simp[eR,Value.oneCell']) (by simp only[maxLen];omega) (by omega) hbase
 have hO:fU w' base e v' (ts++[x]):=by
  unfold fU;rw[aa,sN];simpa[jr]using h2
 obtain⟨A',cap',rfl⟩:=hO.form;rw[aa]at hO hr h5;exact⟨A',cap',w',hr,hO,h3,h5⟩
theorem l8 {P:Program} {w:World} {ops:Array Oper} {rest:List Oper} {o:Oper} {a:Act} {Q:Exit->Act->World->Prop} {t e:TypeId} (hT:zF P t e) (hgd:o.guard=none) (s x:Operand)
  (ho:o.op= .call {callee:= .builtin .append,args:= #[s,x],argTypes:= #[t,t]}) (base:Nat) (v:Value) (ts:List db) (hv:a.eval s=v) (hown:fU w base e v ts)
  (g:Nat) (y:db) (hx:a.eval x= .slice (some ⟨g,0,none⟩) 1 1) (hg:w.heap[g]? =some (.cells #[.int .i64 y.k, .string (ag y.t), .int .i64 y.v, .int .i64 y.f] e (0,0))) (hb:ts.length<=1073741824) (hbase:base<=w.heap.size)
  (h: ∀A' cap' w',fU w' base e (.slice A' (ts.length+1) cap') (ts++[y])->w.grownBy w' v.ownBlock->
   (Value.ownBlock (.slice A' (ts.length+1) cap')=v.ownBlock\/Value.ownBlock (.slice A' (ts.length+1) cap')=some w.heap.size)->wpList P ops Q rest (a.put o.dst (.slice A' (ts.length+1) cap')) w'):
  wpList P ops Q (o::rest) a w:=by
 obtain⟨A',cap',w',hr,h1,h2,h3⟩:=pp (P:=P) (w:=w) hT o.type base v ts hown g y hg hb hbase;refine wpList_plain hgd fun K hK=> ?_;unfold Oper.wp execOp;simp only[ho,resolve,invoke,builtin,Sem.run_bind,Sem.run_pure,Result.andThen_ok,dZ,bI,dw,hv,hx,hr];exact hK _ _ (h A' cap' w' h1 h2 h3)
theorem tt:zF prog 147 206:=⟨underlying147,by kernel_rfl⟩
theorem pT: ∀(f:Nat) (m:List UInt8) (t:List UInt8) (n:Nat),m8 f m=some (t,n)->1<=n/\n<=m.length
 |0,m,t,n,h=>by cases h
 |f+1,[],t,n,h=>by cases h
 |f+1,c::r,t,n,h=>by
  simp only[m8]at h;split at h
  ·cases h;exact⟨an _,by simp⟩
  ·split at h
   ·cases h
   ·obtain⟨⟨t',n'⟩,h1,h2⟩:=Option.map_eq_some_iff.1 h
    cases h2;have:=pT f _ t' n' h1;have h3:=jG (c::r);rw[bJ]at this;omega
theorem lj {l:List UInt8} {c:UInt8} (h:l.head? =some c):1<=l.length:=by cases l<;>simp at h⊢
theorem ub {c:UInt8} {r:List UInt8} {x:Int×List UInt8×Int} {n:Nat} (h:j9 (c::r)= .ok (x,n)):1<=n/\n<=(c::r).length:=by
 have hp:fw c=true->1<=bS dL (c::r):=fun h=>by simp[bS,dL,h]
 have hd:dM c=true->1<=bS dM (c::r):=fun h=>by simp[bS,h]
 have hp2:=gF dL (c::r);have hd2:=gF dM (c::r);simp only[j9]at h;split at h
 ·rename_i hL;unfold jp at h;split at h
  ·cases h;exact⟨hp hL,hp2⟩
  ·split at h
   ·cases h
   ·cases h;exact⟨hp hL,hp2⟩
 ·split at h
  ·rename_i hD;unfold gV at h;split at h
   ·cases h
   ·split at h
    ·cases h
    ·cases h;exact⟨hd hD,hd2⟩
  ·split at h
   ·unfold iH at h;split at h
    ·cases h
    ·rename_i hc
     cases h;have h3:((c::r).drop ((b_ ((c::r).drop 1)).2+1)).head? =some 39:=by
      refine Classical.byContradiction fun hne=>hc (.inr (.inr hne))
     have:=lj h3;rw[bJ]at this;omega
   ·split at h
    ·unfold jb at h;split at h
     ·cases h
     ·rename_i t n' hl;split at h
      ·cases h
      ·cases h;have:=pT _ _ _ _ hl;rw[bJ]at this;omega
    ·unfold iD at h;split at h
     ·rename_i hc
      cases h;have: ∀t∈lQ,t.length=2:=by decide
      have h2:((c::r).take 2).length=2:=this _ (List.contains_iff_mem.1 hc);rw[dg]at h2;omega
     ·split at h
      ·cases h;exact⟨an _,by simp⟩
      ·cases h
theorem uc {c:UInt8} {r:List UInt8} {e:Int} (h:j9 (c::r)= .error e):e=3\/e=2\/e=6:=by
 simp only[j9]at h;unfold jp gV iH jb iD at h;repeat' split at h
 all_goals cases h
 all_goals first|exact .inl rfl|exact .inr (.inl rfl)|exact .inr (.inr rfl)
def jZ (ts:List db):Except (Nat×Int) (List db)->Except (Nat×Int) (List db)
 | .error e=> .error e
 | .ok us=> .ok (ts++us)
theorem qt (l:List UInt8):lK l=jZ [] (iw (l.length+1) (l.drop 0) 0):=by
 unfold lK;rw[ap]
 cases iw (l.length+1) l 0<;>simp[jZ]
theorem t8 {l:List UInt8} {f p:Nat} {ts:List db} (h:lK l=jZ ts (iw (f+1) (l.drop p) p)) (he:l.length<=p+cH false (l.drop p)):lK l= .ok ts:=by
 rw[h];have:(l.drop p).drop (cH false (l.drop p))=[]:=by
  rw[dG];exact aB he
 simp only[iw,this,jZ,cO]
theorem t7 {l:List UInt8} {f p q:Nat} {ts:List db} {c:UInt8} {r:List UInt8} {e:Int} (h:lK l=jZ ts (iw (f+1) (l.drop p) p)) (hq:q=p+cH false (l.drop p)) (hd:l.drop q=c::r) (ht:j9 (c::r)= .error e):lK l= .error (q,e):=by
 rw[h];have:(l.drop p).drop (cH false (l.drop p))=c::r:=by
  rw[dG,<-hq,hd]
 simp only[iw,this,ht,jZ,hq]
theorem sH {l:List UInt8} {f p q:Nat} {ts:List db} {c:UInt8} {r:List UInt8} {k:Int} {t:List UInt8} {v:Int} {n:Nat} (h:lK l=jZ ts (iw (f+1) (l.drop p) p)) (hq:q=p+cH false (l.drop p)) (hd:l.drop q=c::r)
  (ht:j9 (c::r)= .ok ((k,t,v),n)):lK l=jZ (ts++[⟨k,t,v,(q:Nat)⟩]) (iw f (l.drop (q+n)) (q+n)):=by
 rw[h];have h1:(l.drop p).drop (cH false (l.drop p))=c::r:=by
  rw[dG,<-hq,hd]
 have h2:l.drop (q+n)=(c::r).drop n:=by rw[<-hd,dG]
 rw[h2];simp only[iw,h1,ht,<-hq]
 cases iw f ((c::r).drop n) (q+n)<;>simp[jZ]
end
section
open Go.RowKit
def sw (ty:TypeId) (base:Nat) (r:List db×Int×Int) (e:Ending) (w':World):Prop:=
 ∃A cap,e= .returned (.tuple #[.slice A r.1.length cap, .int .i64 r.2.1, .int .i64 r.2.2])/\fU w' base ty (.slice A r.1.length cap) r.1
theorem nr (l:List UInt8) (h:4000<l.length):jq l=([],4000,6):=by unfold jq;rw[if_pos h]
theorem t_ (l:List UInt8) (ts:List db) (h: ¬4000<l.length) (ht:lK l= .ok ts):jq l=(ts,0,0):=by unfold jq;rw[if_neg h,ht]
theorem sL (l:List UInt8) (p:Nat) (e:Int) (h: ¬4000<l.length) (ht:lK l= .error (p,e)):jq l=([],(p:Int),e):=by unfold jq;rw[if_neg h,ht]
theorem wI (w:World) (e:TypeId) (x:db):((w.alloc (.cells #[.int .i64 x.k, .string (ag x.t), .int .i64 x.v, .int .i64 x.f] e)).alloc (.cells #[.int .i64 x.k, .string (ag x.t), .int .i64 x.v, .int .i64 x.f] e)).heap[w.heap.size+1]? =some (.cells #[.int .i64 x.k, .string (ag x.t), .int .i64 x.v, .int .i64 x.f] e (0,0)):=by
 have:=heap_alloc_new (w.alloc (.cells #[.int .i64 x.k, .string (ag x.t), .int .i64 x.v, .int .i64 x.f] e)) (.cells #[.int .i64 x.k, .string (ag x.t), .int .i64 x.v, .int .i64 x.f] e);rwa [World.size_alloc]at this
theorem qu (l:List UInt8) (hl:l.length<=100000) (w:World) (hz:EZ w):Calls prog 58 #[.string (ag l)] w fun e w'=>sw 206 w.heap.size (jq l) e w'/\au w w':=by
 have hsz:(ag l).size=l.length:=aL l;have HZ:=G hz;clear hz;have HRb:=G (nr l);have HRo:=G (t_ l);have HRe:=G (sL l);by_cases hbig:4000<l.length
 ·have hbig':(4000:Int)<l.length:=by omega
  go_enter func58,ntmps58;go_wp2_with fail;exact bodyPost_ret (v:= .tuple #[.slice none 0 0, .int .i64 4000, .int .i64 6]) (by simp[results,results58,go_sem]) rfl ⟨by rw[HRb.out hbig];exact⟨none,0,rfl,fU.nil_ _ _ _⟩,aH _⟩
 ·have hbig': ¬(4000:Int)<l.length:=by omega
  go_enter func58,ntmps58;go_wp2_with fail
  go_loopw [2,3] (fun vb vp wr=> ∃(B:Option Addr) (cap:Nat) (ts:List db) (p f:Nat),vb= .slice B ts.length cap/\fU wr w.heap.size 206 (.slice B ts.length cap) ts/\vp= .int .i64 (p:Int)/\p<=l.length/\ts.length<=p/\l.length+1<=f+p/\
   Hid (lK l=jZ ts (iw f (l.drop p) p))/\au w wr) (fun _ vp _=>l.length+1-(intOf vp).toNat)
  case atStart=>exact⟨none,0,[],0,l.length+1,rfl,fU.nil_ _ _ _,rfl,az _,an _,by omega,G (qt l),aH _⟩
  case round=>
   obtain⟨B,cap,ts,p,f,rfl,hown,rfl,hp,htp,hfp,HJ,hx⟩:=hrel;obtain⟨f,rfl⟩: ∃g,f=g+1:=⟨f-1,by omega⟩
   have HO:=G hown;have HX:=G hx;clear hown hx;have hps:p<=(ag l).size:=by rw[hsz];exact hp
   have hex:(ag l).extract p l.length=ag (l.drop p):=by
    have:=cA l p l.length;rw[aJ (an _)]at this;exact this
   have HBL:=G (fun w=>tJ (l.drop p) (by rw[bJ];omega) w);have hsk:p+cH false (l.drop p)<=l.length:=by have:=jx false (l.drop p);rw[bJ]at this;omega
   obtain⟨q,hq⟩: ∃q,q=p+cH false (l.drop p):=⟨_,rfl⟩
   have hqi:(p:Int)+(cH false (l.drop p):Int)=(q:Int):=by omega
   by_cases hend:l.length<=q
   ·have HT:=G (t8 HJ.out (by omega));have hqn:q=l.length:=by omega
    have hend':(l.length:Int)<=q:=by omega
    generalize cH false (l.drop p)=s at*;clear hq HJ;go_wp2_with (go_at_call 96;refine(HBL.out _).mono ?_;rintro e w' ⟨rfl,rfl⟩);exact bodyPost_ret (v:= .tuple #[.slice B ts.length cap, .int .i64 0, .int .i64 0]) (by simp[results,results58,go_sem]) rfl ⟨by rw[HRo.out _ hbig HT.out];exact⟨B,cap,rfl,HO.out⟩,HX.out⟩
   ·have hend': ¬(l.length:Int)<=q:=by omega
    have hqs:q<=(ag l).size:=by rw[hsz];omega
    have hexq:(ag l).extract q l.length=ag (l.drop q):=by
     have:=cA l q l.length;rw[aJ (an _)]at this;exact this
    obtain⟨c,r,hcr⟩: ∃c r,l.drop q=c::r:=by
     cases h:l.drop q with
     |nil=>have:=congrArg List.length h;rw[bJ]at this;simp at this;omega
     |cons c r=>exact⟨c,r,rfl⟩
    have hlr:(c::r).length=l.length-q:=by rw[<-hcr,bJ]
    rw[hcr]at hexq;have HTK:=G (fun w h=>sM c r (by omega) w h)
    cases ht:j9 (c::r)with
    |error e=>
     have HT:=G (t7 HJ.out hq hcr ht);have he:e=3\/e=2\/e=6:=uc ht;rw[ht]at HTK;have htv:cj (.error e)= .tuple #[.agg #[.int .i64 0, .string ⟨#[]⟩, .int .i64 0, .int .i64 0], .int .i64 0, .int .i64 e]:=rfl;rw[htv]at HTK;have hne: ¬e=0:=by omega
     have hne2:(e==0)=false:=by simp[hne]
     generalize cH false (l.drop p)=s at*;clear hq HJ ht hcr htv he
     go_wp2_with (first
      |(go_at_call 96;refine(HBL.out _).mono ?_;rintro e w' ⟨rfl,rfl⟩)
      |(go_at_call 97;refine(HTK.out _ (HZ.out.ext HX.out)).mono ?_;rintro e' w1 ⟨rfl,hE⟩;have HE:=G (HX.out.trans hE);clear hE))
     exact bodyPost_ret (v:= .tuple #[.slice none 0 0, .int .i64 q, .int .i64 e]) (by simp[results,results58,go_sem]) rfl ⟨by rw[HRe.out _ _ hbig HT.out];exact⟨none,0,rfl,fU.nil_ _ _ _⟩,HE.out.alloc' _⟩
    |ok y=>
     obtain⟨⟨k,t,v⟩,n⟩:=y;have HT:=G (sH HJ.out hq hcr ht);obtain⟨hn1,hn2⟩:=ub ht;rw[ht]at HTK;have htv:cj (.ok ((k,t,v),n))= .tuple #[.agg #[.int .i64 k, .string (ag t), .int .i64 v, .int .i64 0], .int .i64 (n:Int), .int .i64 0]:=rfl;rw[htv]at HTK;generalize cH false (l.drop p)=s at*;clear hq HJ ht hcr htv
     go_wp2_with (first
      |(go_at_call 96;refine(HBL.out _).mono ?_;rintro e w' ⟨rfl,rfl⟩)
      |(go_at_call 97;refine(HTK.out _ (HZ.out.ext HX.out)).mono ?_;rintro e' w1 ⟨rfl,hE⟩;have HE1:=G (HX.out.trans ((hE.alloc' (.cells #[.int .i64 k, .string (ag t), .int .i64 v, .int .i64 (q:Int)] 206)).alloc' (.cells #[.int .i64 k, .string (ag t), .int .i64 v, .int .i64 (q:Int)] 206)));have HO1:=G (HO.out.ext ((hE.alloc' (.cells #[.int .i64 k, .string (ag t), .int .i64 v, .int .i64 (q:Int)] 206)).alloc' (.cells #[.int .i64 k, .string (ag t), .int .i64 v, .int .i64 (q:Int)] 206)));have HG1:=G (wI w1 206 ⟨k,t,v,(q:Int)⟩);clear hE)
      |(at_builtin;refine l8 tt rfl _ _ rfl w.heap.size (.slice B ts.length cap) ts rfl HO1.out (w1.heap.size+1) ⟨k,t,v,(q:Int)⟩ rfl HG1.out (by omega) HE1.out.size ?_;intro A3 c3 w3 ho3 hg3 _;have HO3:=G ho3;have HG3:=G hg3;clear ho3 hg3))
     go_roundw
     case rel=>
      have hrow:=fun k hk=>(World.ownsRow.lt HO1.out k hk).1;have hx3:=HE1.out.grown HG3.out (fun k hk=>by have:=hrow k hk;omega);refine⟨A3,c3,ts++[⟨k,t,v,(q:Int)⟩],q+n,f,by rw[aa];rfl,?_,by go_num,by omega,by rw[aa];simp;omega,by omega,HT,hx3⟩;rw[aa];exact HO3.out
     case measure=>simp[intOf];omega
end
section
open Go.RowKit
theorem cd (a b:List UInt8):ag a++ag b=ag (a++b):=by
 apply ic;simp[ag]
end
section
open Go.RowKit
end
section
open Go.RowKit
end
section
open Go.RowKit
end
section
open Go.RowKit
end
end Go.Proofs.YtddomeddabfinaaGreatDoor
