/-
  Parts of the proof: LexD LexE LexF LexG LexH.
-/
import Derived.Test.YtddomeddabfinaaGreatDoorTl03
import Derived.Test.YtddomeddabfinaaGreatDoorTl04
set_option maxRecDepth 100000
set_option maxHeartbeats 8000000
set_option linter.unusedVariables false
set_option linter.unusedSimpArgs false
set_option linter.unusedSectionVars false
namespace Go.Proofs.YtddomeddabfinaaGreatDoor
open Go.Proofs.Tryz
open Go.RowKit
theorem str_data (l:List UInt8):(str l).data.toList=l:=by simp[str]
theorem idx_mem (c:UInt8): ∀l:List UInt8,(Lib.indexByte l c= -1/\l.contains c=false)\/(0<=Lib.indexByte l c/\l.contains c=true)
 | []=> .inl ⟨rfl,rfl⟩
 |b::l=>by
  simp only[Lib.indexByte];by_cases h:b=c
  ·subst h;refine .inr ⟨by simp,by simp⟩
  ·have hb:(b==c)=false:=beq_eq_false_iff_ne.2 h;have hb2:(c==b)=false:=beq_eq_false_iff_ne.2 fun e=>h e.symm;rw[hb];rcases idx_mem c l with⟨h1,h2⟩|⟨h1,h2⟩
   ·refine .inl ⟨by simp[h1],?_⟩;rw[List.contains_cons,hb2,h2];rfl
   ·refine .inr ⟨?_,?_⟩
    ·have:(Lib.indexByte l c== -1)=false:=by rw[beq_eq_false_iff_ne];omega
     simp only[Bool.false_eq_true,if_false,this];omega
    ·rw[List.contains_cons,hb2,h2];rfl
theorem idx_line: ∀l:List UInt8,Lib.indexByte l 10=if lineN l<l.length then(lineN l:Int)else-1
 | []=>rfl
 |b::l=>by
  by_cases h:b=10
  ·subst h;rfl
  ·have hb:(b==10)=false:=beq_eq_false_iff_ne.2 h;have hb2:(b !=10)=true:=by simp[h]
   have ih:=idx_line l;have e:lineN (b::l)=lineN l+1:=by simp[lineN,spanN,h]
   rw[e];simp only[Lib.indexByte];rw[hb,ih,if_neg (by simp)];by_cases hl:lineN l<l.length
   ·rw[if_pos hl,if_neg (by simp),if_pos (by rw[List.length_cons];omega)];rfl
   ·rw[if_neg hl,if_pos (show((-1:Int)== -1)=true from rfl),if_neg (by rw[List.length_cons];omega)]
theorem ws_idx (c:UInt8):wsB c=([32,9,10,13]:List UInt8).contains c:=by
 have: ∀n:Fin 256,wsB (UInt8.ofNat n.val)=([32,9,10,13]:List UInt8).contains (UInt8.ofNat n.val):=by decide+kernel
 have h:=this ⟨c.toNat,c.toNat_lt⟩;rwa [UInt8.ofNat_toNat]at h
theorem index_any (l:List UInt8) (c:UInt8) (w:World):Calls prog 137 #[.string (str l), .int .u8 (c.toNat:Int)] w fun e w'=>e= .returned (.int .i64 (Lib.indexByte l c))/\w=w':=by
 refine(Tryz.strings_IndexByte (str l) (c.toNat:Int) w).mono ?_;rintro e w' ⟨rfl,rfl⟩;rw[str_data];have:(c.toNat:Int).toNat.toUInt8=c:=by
  rw[Int.toNat_natCast];exact UInt8.ofNat_toNat
 rw[this];exact⟨rfl,rfl⟩
theorem prefix_any (l p:List UInt8) (w:World):Calls prog 138 #[.string (str l), .string (str p)] w fun e w'=>e= .returned (.bool (p.isPrefixOf l))/\w=w':=by
 refine(Tryz.strings_HasPrefix (str l) (str p) w).mono ?_;rintro e w' ⟨rfl,rfl⟩;rw[str_data,str_data];exact⟨rfl,rfl⟩
theorem slash_prefix (l:List UInt8):(([47,47]:List UInt8).isPrefixOf l=true/\ ∃r,l=47::47::r)\/(([47,47]:List UInt8).isPrefixOf l=false/\ ∀c r,l=c::r-> ¬(c=47/\r.head? =some 47)):=by
 match l with
 | []=>exact .inr ⟨rfl,fun c r h=>by cases h⟩
 | [c]=>exact .inr ⟨by simp[List.isPrefixOf],fun c' r h=>by injection h with h1 h2;subst h2;simp⟩
 |c::d::r=>
  by_cases h:c=47/\d=47
  ·obtain⟨rfl,rfl⟩:=h;exact .inl ⟨by simp[List.isPrefixOf],r,rfl⟩
  ·refine .inr ⟨?_,fun c' r' h'=>by injection h' with h1 h2;subst h1 h2;simpa using h⟩;simp only[List.isPrefixOf,Bool.and_true];rw[Bool.and_eq_false_iff];by_cases hc:c=47
   ·right;exact beq_eq_false_iff_ne.2 fun e=>h ⟨hc,e.symm⟩
   ·left;exact beq_eq_false_iff_ne.2 fun e=>hc e.symm
theorem skip_step {l:List UInt8} {j:Nat} (h:j<l.length) (hw:wsB l[j]=true):skipC false (l.drop j)=skipC false (l.drop (j+1))+1:=by
 rw[List.drop_eq_getElem_cons h];simp only[skipC];rw[if_pos hw]
theorem skip_stop {l:List UInt8} {j:Nat} (h:j<l.length) (hw:wsB l[j]=false) (hs: ∀c r,l.drop j=c::r-> ¬(c=47/\r.head? =some 47)):skipC false (l.drop j)=0:=by
 have hs:=hs l[j] (l.drop (j+1)) (List.drop_eq_getElem_cons h);rw[List.drop_eq_getElem_cons h];simp only[skipC];rw[hw,if_neg (by simp),if_neg hs]
theorem blank_any (l:List UInt8) (hl:l.length<=100000) (w:World):Calls prog 96 #[.string (str l)] w fun e w'=>e= .returned (.int .i64 (skipC false l))/\w=w':=by
 have hsz:=str_size l;go_enter func96,ntmps96;go_wp2_with fail
 go_loop [3] (fun vi=> ∃j:Nat,vi= .int .i64 j/\j<=l.length/\Hid (skipC false l=j+skipC false (l.drop j))) (fun vi=>l.length-(intOf vi).toNat)
 case atStart=>exact⟨0,rfl,Nat.zero_le _,hide (by simp)⟩
 case round=>
  obtain⟨j,rfl,hj,HT⟩:=hrel;by_cases hlt:j<l.length
  ·have hjs:j<(str l).size:=by rw[str_size];exact hlt
   have hg:=str_get l j hjs;have hlt':(j:Int)<l.length:=by omega
   have hex:=str_extract l j l.length;rw[List.take_length]at hex;have HST:=hide (fun h=>skip_step (l:=l) hlt h);have HSP:=hide (fun h hs=>skip_stop (l:=l) hlt h hs);generalize l[j]'hlt=c at*;have HIX:=hide (show Calls prog 137 #[.string ⟨#[32,9,10,13]⟩, .int .u8 (c.toNat:Int)] w fun e w'=>e= .returned (.int .i64 (Lib.indexByte [32,9,10,13] c))/\w=w' from index_any [32,9,10,13] c w)
   cases hw:wsB c with
   |true=>
    have hi:0<=Lib.indexByte [32,9,10,13] c:=by
     rcases idx_mem c [32,9,10,13]with⟨h1,h2⟩|⟨h1,h2⟩
     ·rw[<-ws_idx,hw]at h2;cases h2
     ·exact h1
    have HN:=hide (show skipC false l=((j+1:Nat))+skipC false (l.drop (j+1)) by rw[HT.out,HST.out hw];omega);generalize Lib.indexByte [32,9,10,13] c=ix at*;clear hw hex;go_wp2_with (go_at_call 137;refine HIX.out.mono ?_;rintro e w' ⟨rfl,rfl⟩)
    go_round
    case rel=>exact⟨j+1,by go_num,by omega,HN⟩
    case measure=>simp[intOf];omega
   |false=>
    have hi: ¬0<=Lib.indexByte [32,9,10,13] c:=by
     rcases idx_mem c [32,9,10,13]with⟨h1,h2⟩|⟨h1,h2⟩
     ·omega
     ·rw[<-ws_idx,hw]at h2;cases h2
    generalize Lib.indexByte [32,9,10,13] c=ix at*;have HPX:=hide (show Calls prog 138 #[.string (str (l.drop j)), .string ⟨#[47,47]⟩] w fun e w'=>e= .returned (.bool (([47,47]:List UInt8).isPrefixOf (l.drop j)))/\w=w' from prefix_any (l.drop j) [47,47] w);rcases slash_prefix (l.drop j)with⟨hp,hq⟩|⟨hp,hq⟩
    ·have hsc:=skipC_comment hq;have hix:=idx_line (l.drop j);have HIL:=hide (show Calls prog 137 #[.string (str (l.drop j)), .int .u8 10] w fun e w'=>e= .returned (.int .i64 (Lib.indexByte (l.drop j) 10))/\w=w' from index_any (l.drop j) 10 w);rw[hp]at HPX;have hll:lineN (l.drop j)<=(l.drop j).length:=spanN_le _ _;have hlen:(l.drop j).length=l.length-j:=List.length_drop;by_cases hn:lineN (l.drop j)<(l.drop j).length
     ·rw[if_pos hn]at hix;rw[hix]at HIL;have HN:=hide (show skipC false l=((j+lineN (l.drop j):Nat))+skipC false (l.drop (j+lineN (l.drop j))) by rw[HT.out,hsc,List.drop_drop];omega);have hpos:1<=lineN (l.drop j):=by
       obtain⟨r,hr⟩:=hq;rw[hr];simp[lineN,spanN]
      have hle:j+lineN (l.drop j)<=l.length:=by omega
      generalize lineN (l.drop j)=n at*;clear hw hp hq hsc hix hn hll hlen
      go_wp2_with (first
       |(go_at_call 137;with_reducible (refine HIX.out.mono ?_);rintro e w' ⟨rfl,rfl⟩)
       |(go_at_call 138;refine HPX.out.mono ?_;rintro e w' ⟨rfl,rfl⟩)
       |(go_at_call 137;refine HIL.out.mono ?_;rintro e w' ⟨rfl,rfl⟩))
      go_round
      case rel=>exact⟨j+n,by go_num,hle,HN⟩
      case measure=>simp[intOf];omega
     ·rw[if_neg hn]at hix;rw[hix]at HIL;have h3:j+lineN (l.drop j)=l.length:=by omega
      have HN:=hide (show skipC false l=l.length by
       have hd:l.drop (j+lineN (l.drop j))=[]:=List.drop_of_length_le (by omega);rw[HT.out,hsc,List.drop_drop,hd];show j+(lineN (l.drop j)+0)=l.length
       omega)
      clear h3;clear hw hp hq hsc hix hn hll hlen
      go_wp2_with (first
       |(go_at_call 137;with_reducible (refine HIX.out.mono ?_);rintro e w' ⟨rfl,rfl⟩)
       |(go_at_call 138;refine HPX.out.mono ?_;rintro e w' ⟨rfl,rfl⟩)
       |(go_at_call 137;refine HIL.out.mono ?_;rintro e w' ⟨rfl,rfl⟩))
      go_ret;exact⟨ret_int (by rw[HN.out]),rfl⟩
    ·rw[hp]at HPX;have HN:=hide (show skipC false l=j by rw[HT.out,HSP.out hw hq];omega);clear hw hp hq
     go_wp2_with (first
      |(go_at_call 137;with_reducible (refine HIX.out.mono ?_);rintro e w' ⟨rfl,rfl⟩)
      |(go_at_call 138;refine HPX.out.mono ?_;rintro e w' ⟨rfl,rfl⟩))
     go_ret;exact⟨ret_int (by rw[HN.out]),rfl⟩
  ·have HN:=hide (show skipC false l=j by rw[HT.out,List.drop_of_length_le (by omega)];rfl);have hlt': ¬(j:Int)<l.length:=by omega
   go_wp2_with fail;go_ret;exact⟨ret_int (by rw[HN.out]),rfl⟩
end Go.Proofs.YtddomeddabfinaaGreatDoor
namespace Go.Proofs.YtddomeddabfinaaGreatDoor
open Go.Proofs.Tryz
open Go.RowKit
def tokV:TokR->Value
 | .ok x=> .tuple #[.agg #[.int .i64 x.1.1, .string (str x.1.2.1), .int .i64 x.1.2.2, .int .i64 0], .int .i64 (x.2:Int), .int .i64 0]
 | .error e=> .tuple #[.agg #[.int .i64 0, .string ⟨#[]⟩, .int .i64 0, .int .i64 0], .int .i64 0, .int .i64 e]
theorem Blk.put4 {w:World} {g:Nat} {t:TypeId} {x0 x1 x2 x3:Value} (h:Blk w g t #[x0,x1,x2,x3]) (a b c d:Value):Blk ((((w.setCell ⟨g,0,none⟩ a).setCell ⟨g,1,none⟩ b).setCell ⟨g,2,none⟩ c).setCell ⟨g,3,none⟩ d) g t #[a,b,c,d]:=by
 have:=(((h.set 0 a).set 1 b).set 2 c).set 3 d;simpa using this
theorem Ext.put4 {w0 w:World} {g:Nat} (h:Ext w0 w) (hg:w0.heap.size<=g) (a b c d:Value):Ext w0 ((((w.setCell ⟨g,0,none⟩ a).setCell ⟨g,1,none⟩ b).setCell ⟨g,2,none⟩ c).setCell ⟨g,3,none⟩ d):=(((h.set hg a).set hg b).set hg c).set hg d
theorem word_any (l:List UInt8) (hl:l.length<=100000) (w:World):Calls prog 139 #[.string (str l)] w fun e w'=>e= .returned (tokV (wordT l))/\Ext w w':=by
 have hsz:=str_size l;have hle:=spanN_le prtB l;have hex:=str_extract l 0 (spanN prtB l);simp only[List.drop_zero]at hex;have HSP:=hide (fun w=>span_any prtB 107 part_any (.inl rfl) l hl w);have HT:=hide (show wordT l=if kwB (l.take (spanN prtB l))then .ok ((2,l.take (spanN prtB l),0),spanN prtB l)else if 14<spanN prtB l then .error 6 else .ok ((1,l.take (spanN prtB l),0),spanN prtB l)from rfl);have HK:=hide (fun w=>keyword_any (l.take (spanN prtB l)) w);generalize hn:spanN prtB l=n at*;generalize hx:l.take n=x at*;clear hn hx
 cases hk:kwB x with
 |true=>
  have HR:=hide (show wordT l= .ok ((2,x,0),n) by rw[HT.out,hk,if_pos rfl]);rw[hk]at HK;clear hk HT;go_enter func139,ntmps139
  go_wp2_with (first
   |(go_at_call 179;refine(HSP.out _).mono ?_;rintro e w' ⟨rfl,rfl⟩)
   |(go_at_call 109;refine(HK.out _).mono ?_;rintro e w' ⟨rfl,rfl⟩))
  exact bodyPost_ret (v:=tokV (.ok ((2,x,0),n))) (by simp[results,results139,go_sem,tokV]) rfl ⟨by rw[HR.out],(Ext.alloc w _).alloc' _⟩
 |false=>
  rw[hk]at HK;by_cases h14:14<n
  ·have HR:=hide (show wordT l= .error 6 by rw[HT.out,hk,if_neg (by simp),if_pos h14]);have h14':(14:Int)<n:=by omega
   clear hk HT;go_enter func139,ntmps139
   go_wp2_with (first
    |(go_at_call 179;refine(HSP.out _).mono ?_;rintro e w' ⟨rfl,rfl⟩)
    |(go_at_call 109;refine(HK.out _).mono ?_;rintro e w' ⟨rfl,rfl⟩))
   exact bodyPost_ret (v:=tokV (.error 6)) (by simp[results,results139,go_sem,tokV]) rfl ⟨by rw[HR.out],(Ext.alloc w _).alloc' _⟩
  ·have HR:=hide (show wordT l= .ok ((1,x,0),n) by rw[HT.out,hk,if_neg (by simp),if_neg h14]);have h14': ¬(14:Int)<n:=by omega
   clear hk HT;go_enter func139,ntmps139
   go_wp2_with (first
    |(go_at_call 179;refine(HSP.out _).mono ?_;rintro e w' ⟨rfl,rfl⟩)
    |(go_at_call 109;refine(HK.out _).mono ?_;rintro e w' ⟨rfl,rfl⟩))
   exact bodyPost_ret (v:=tokV (.ok ((1,x,0),n))) (by simp[results,results139,go_sem,tokV]) rfl ⟨by rw[HR.out],(Ext.alloc w _).alloc' _⟩
theorem head_drop (l:List UInt8) (j:Nat) (h:j<l.length):(l.drop j).head? =some l[j]:=by rw[List.head?_drop,List.getElem?_eq_getElem h]
theorem head_drop_none (l:List UInt8) (j:Nat) (h:l.length<=j):(l.drop j).head? =none:=by rw[List.head?_drop,List.getElem?_eq_none h]
theorem char_spec (c:UInt8) (m:List UInt8):charT (c::m)=if(elemL m).2=0\/m.head? =some 39\/(m.drop (elemL m).2).head? ≠some 39 then .error 3 else .ok ((3,[],((elemL m).1.toNat:Int)),(elemL m).2+2):=rfl
theorem char_any (c:UInt8) (m:List UInt8) (hl:m.length<=100000) (w:World):Calls prog 142 #[.string (str (c::m))] w fun e w'=>e= .returned (tokV (charT (c::m)))/\Ext w w':=by
 have hsz:(str (c::m)).size=m.length+1:=by rw[str_size];rfl
 have hex:(str (c::m)).extract 1 (m.length+1)=str m:=by
  have:=str_extract (c::m) 1 (m.length+1);rw[List.take_of_length_le (by simp)]at this;exact this
 have HEL:=hide (fun w=>elem_any m w hl);obtain⟨hle1,hle2⟩:=elemL_le m;have HT:=hide (char_spec c m);generalize hv:(elemL m).1=v at*;generalize hn:(elemL m).2=n at*;have HN:=hide hn;have hvb:=v.toNat_lt;have hvb':(v.toNat:Int)<256:=by omega
 clear hv hn;by_cases hn0:n=0
 ·have HR:=hide (show charT (c::m)= .error 3 by rw[HT.out,if_pos (.inl hn0)]);subst hn0;clear HT;go_enter func142,ntmps142;go_wp2_with (go_at_call 181;refine(HEL.out _).mono ?_;rintro e w1 ⟨rfl,hE⟩;have HB:=hide ((Blk.new w 206 #[.int .i64 0, .string ⟨#[]⟩, .int .i64 0, .int .i64 0]).ext hE);have HE:=hide ((Ext.alloc w _).trans hE);clear hE;have hbc:=HB.out.cell;have hbf:=HB.out.frozen);have hset:=(HB.out.put4 (.int .i64 0) (.string ⟨#[]⟩) (.int .i64 0) (.int .i64 0)).cell;exact bodyPost_ret (v:=tokV (.error 3)) (by simp[results,results142,go_sem,tokV,hset]) rfl ⟨by rw[HR.out],HE.out.put4 (Nat.le_refl _) _ _ _ _⟩
 ·have hm0:0<m.length:=by omega
  have hs1:1<(str (c::m)).size:=by rw[hsz];omega
  have hg1:(str (c::m))[1]=m[0]:=rfl;have hnb:((n:Int)==0)=false:=by simp[hn0]
  by_cases hq:m[0]=39
  ·have HR:=hide (show charT (c::m)= .error 3 by rw[HT.out,if_pos (.inr (.inl (by rw[List.head?_eq_getElem?,List.getElem?_eq_getElem hm0,hq])))]);rw[hq]at hg1;clear HT hn0 hq;go_enter func142,ntmps142;go_wp2_with (go_at_call 181;refine(HEL.out _).mono ?_;rintro e w1 ⟨rfl,hE⟩;have HB:=hide ((Blk.new w 206 #[.int .i64 0, .string ⟨#[]⟩, .int .i64 0, .int .i64 0]).ext hE);have HE:=hide ((Ext.alloc w _).trans hE);clear hE;have hbc:=HB.out.cell;have hbf:=HB.out.frozen);have hset:=(HB.out.put4 (.int .i64 0) (.string ⟨#[]⟩) (.int .i64 0) (.int .i64 0)).cell;exact bodyPost_ret (v:=tokV (.error 3)) (by simp[results,results142,go_sem,tokV,hset]) rfl ⟨by rw[HR.out],HE.out.put4 (Nat.le_refl _) _ _ _ _⟩
  ·have hq1:m.head? ≠some 39:=by rw[List.head?_eq_getElem?,List.getElem?_eq_getElem hm0];intro e;exact hq (Option.some.inj e)
   have hqb:((m[0].toNat:Int)==39)=false:=(u8_eqI m[0] 39 (by omega)).trans (beq_eq_false_iff_ne.2 hq);generalize m[0]=d at*;by_cases hln:m.length<n+1
   ·have HR:=hide (show charT (c::m)= .error 3 by rw[HT.out,if_pos (.inr (.inr (by rw[head_drop_none _ _ (by omega)];simp)))]);have hln':(m.length:Int)+1<n+2:=by omega
    clear HT hn0 hq hq1;go_enter func142,ntmps142;go_wp2_with (go_at_call 181;refine(HEL.out _).mono ?_;rintro e w1 ⟨rfl,hE⟩;have HB:=hide ((Blk.new w 206 #[.int .i64 0, .string ⟨#[]⟩, .int .i64 0, .int .i64 0]).ext hE);have HE:=hide ((Ext.alloc w _).trans hE);clear hE;have hbc:=HB.out.cell;have hbf:=HB.out.frozen);have hset:=(HB.out.put4 (.int .i64 0) (.string ⟨#[]⟩) (.int .i64 0) (.int .i64 0)).cell;exact bodyPost_ret (v:=tokV (.error 3)) (by simp[results,results142,go_sem,tokV,hset]) rfl ⟨by rw[HR.out],HE.out.put4 (Nat.le_refl _) _ _ _ _⟩
   ·have hnm:n<m.length:=by omega
    have hsn:n+1<(str (c::m)).size:=by rw[hsz];omega
    have hgn:(str (c::m))[n+1]=m[n]:=rfl;have hln': ¬(m.length:Int)+1<n+2:=by omega
    by_cases he:m[n]=39
    ·have HR:=hide (show charT (c::m)= .ok ((3,[],(v.toNat:Int)),n+2) by
      rw[HT.out,if_neg];rintro(h|h|h)
      ·exact hn0 h
      ·exact hq1 h
      ·exact h (by rw[head_drop _ _ hnm,he]))
     rw[he]at hgn;clear HT hn0 hq hq1 he;go_enter func142,ntmps142;go_wp2_with (go_at_call 181;refine(HEL.out _).mono ?_;rintro e w1 ⟨rfl,hE⟩;have HB:=hide ((Blk.new w 206 #[.int .i64 0, .string ⟨#[]⟩, .int .i64 0, .int .i64 0]).ext hE);have HE:=hide ((Ext.alloc w _).trans hE);clear hE;have hbc:=HB.out.cell;have hbf:=HB.out.frozen);have hset:=(HB.out.put4 (.int .i64 3) (.string ⟨#[]⟩) (.int .i64 (v.toNat:Int)) (.int .i64 0)).cell;exact bodyPost_ret (v:=tokV (.ok ((3,[],(v.toNat:Int)),n+2))) (by simp[results,results142,go_sem,tokV,hset];rfl) rfl ⟨by rw[HR.out],HE.out.put4 (Nat.le_refl _) _ _ _ _⟩
    ·have HR:=hide (show charT (c::m)= .error 3 by
      rw[HT.out,if_pos (.inr (.inr (by rw[head_drop _ _ hnm];intro e;exact he (Option.some.inj e))))])
     have hgb:((m[n].toNat:Int)==39)=false:=(u8_eqI m[n] 39 (by omega)).trans (beq_eq_false_iff_ne.2 he);have hgb2:((m[n].toNat:Int) !=39)=true:=by rw[bne,hgb];rfl
     generalize m[n]=u at*;clear HT hn0 hq hq1 he;go_enter func142,ntmps142;go_wp2_with (go_at_call 181;refine(HEL.out _).mono ?_;rintro e w1 ⟨rfl,hE⟩;have HB:=hide ((Blk.new w 206 #[.int .i64 0, .string ⟨#[]⟩, .int .i64 0, .int .i64 0]).ext hE);have HE:=hide ((Ext.alloc w _).trans hE);clear hE;have hbc:=HB.out.cell;have hbf:=HB.out.frozen);have hset:=(HB.out.put4 (.int .i64 0) (.string ⟨#[]⟩) (.int .i64 0) (.int .i64 0)).cell;exact bodyPost_ret (v:=tokV (.error 3)) (by simp[results,results142,go_sem,tokV,hset]) rfl ⟨by rw[HR.out],HE.out.put4 (Nat.le_refl _) _ _ _ _⟩
end Go.Proofs.YtddomeddabfinaaGreatDoor
namespace Go.Proofs.YtddomeddabfinaaGreatDoor
open Go.Proofs.Tryz
open Go.RowKit
theorem bt:ByteT prog 40 5:=⟨underlying40,by kernel_rfl⟩
theorem Sl.one (w:World) (v:UInt8):Sl (w.alloc (.cells #[.int .u8 (v.toNat:Int)] 5)) (some ⟨w.heap.size,0,none⟩) 1 [v]:=
 ⟨by simp,by simp[maxLen],(fun h=>by cases h), .inr ⟨w.heap.size,0,rfl,by simp,fun i hi=>by
  have hi0:i=0:=by simp at hi;omega
  subst hi0;rw[(Blk.new w 5 #[.int .u8 (v.toNat:Int)]).cell]
  rfl⟩⟩
theorem lit_drop_end {m:List UInt8} {j:Nat} (h:j<m.length) (hc:m[j]=34):litL (m.drop j)=some ([],1):=by
 rw[List.drop_eq_getElem_cons h,hc];exact litL_end _
theorem lit_drop_bad {m:List UInt8} {j:Nat} (h:j<m.length) (hc:m[j]≠34) (h0:(elemL (m.drop j)).2=0):litL (m.drop j)=none:=by
 rw[List.drop_eq_getElem_cons h]at h0⊢;exact litL_bad hc h0
theorem lit_drop_step {m:List UInt8} {j:Nat} (h:j<m.length) (hc:m[j]≠34) (h0:(elemL (m.drop j)).2≠0):litL (m.drop j)=(litL (m.drop (j+(elemL (m.drop j)).2))).map fun x=>((elemL (m.drop j)).1::x.1,(elemL (m.drop j)).2+x.2):=by
 have e:m.drop (j+(elemL (m.drop j)).2)=(m.drop j).drop (elemL (m.drop j)).2:=by rw[List.drop_drop]
 rw[e];generalize hd:m.drop j=d at*;rw[List.drop_eq_getElem_cons h]at hd;subst hd;exact litL_step hc h0
theorem text_spec (c:UInt8) (m:List UInt8):textT (c::m)=match litL m with
 |none=> .error 3
 |some (t,n)=>if 128<t.length then .error 6 else .ok ((4,t,0),n+1):=rfl
theorem text_any (c:UInt8) (m:List UInt8) (hl:m.length<=100000) (w:World):Calls prog 143 #[.string (str (c::m))] w fun e w'=>e= .returned (tokV (textT (c::m)))/\Ext w w':=by
 have hsz:(str (c::m)).size=m.length+1:=by rw[str_size];rfl
 have HT:=hide (text_spec c m);go_enter func143,ntmps143;go_wp2_with fail
 go_loopw [5,6] (fun vb vi wr=> ∃(B:Option Addr) (cap:Nat) (b:List UInt8) (j:Nat),vb= .slice B b.length cap/\Own wr (w.heap.size+1) 5 (.slice B b.length cap) b/\vi= .int .i64 ((j+1:Nat):Int)/\j<=m.length/\b.length<=j/\
   Hid (litL m=(litL (m.drop j)).map fun x=>(b++x.1,j+x.2))/\Blk wr w.heap.size 206 #[.int .i64 0, .string ⟨#[]⟩, .int .i64 0, .int .i64 0]/\Ext w wr) (fun _ vi _=>m.length+1-(intOf vi).toNat)
 case atStart=>
  refine⟨none,0,[],0,rfl,Own.nil_ _ _ _,rfl,Nat.zero_le _,Nat.zero_le _,hide ?_,Blk.new w _ _,Ext.alloc w _⟩
  cases h:litL m<;>simp[h]
 case round=>
  obtain⟨B,cap,b,j,rfl,hown,rfl,hj,hbj,HL,hblk,hx⟩:=hrel;have HO:=hide hown;have HB:=hide hblk;have HX:=hide hx;have hbc:=hblk.cell;have hbf:=hblk.frozen;have hzb:=hblk.lt;clear hown hblk hx;have hjc:((j+1:Nat):Int)=(j:Int)+1:=by omega
  rw[hjc];by_cases hlt:j<m.length
  ·have hjs:j+1<(str (c::m)).size:=by rw[hsz];omega
   have hg:(str (c::m))[j+1]=m[j]:=rfl;have hlt':(j:Int)+1<m.length+1:=by omega
   by_cases h34:m[j]=34
   ·have hR:litL m=some (b,j+1):=by rw[HL.out,lit_drop_end hlt h34];simp
    rw[h34]at hg;by_cases h128:128<b.length
    ·have HR:=hide (show textT (c::m)= .error 6 by rw[HT.out,hR];simp only;rw[if_pos h128]);have h128':(128:Int)<b.length:=by omega
     clear h34 hR HT HL;go_wp2_with fail;have hset:=(HB.out.put4 (.int .i64 0) (.string ⟨#[]⟩) (.int .i64 0) (.int .i64 0)).cell;exact bodyPost_ret (v:=tokV (.error 6)) (by simp[results,results143,go_sem,tokV,hset]) rfl ⟨by rw[HR.out],HX.out.put4 (Nat.le_refl _) _ _ _ _⟩
    ·have HR:=hide (show textT (c::m)= .ok ((4,b,0),j+1+1) by rw[HT.out,hR];simp only;rw[if_neg h128]);have h128': ¬(128:Int)<b.length:=by omega
     have hcv:=HO.out.sl.2.convert (P:=prog) (src:=40) (dst:=9) underlying40 underlying5 underlying9;clear h34 hR HT HL;go_wp2_with fail;have hset:=(HB.out.put4 (.int .i64 4) (.string (str b)) (.int .i64 0) (.int .i64 0)).cell;exact bodyPost_ret (v:=tokV (.ok ((4,b,0),j+1+1))) (by simp[results,results143,go_sem,tokV,hset]) rfl ⟨by rw[HR.out],HX.out.put4 (Nat.le_refl _) _ _ _ _⟩
   ·have hgb:((m[j].toNat:Int)==34)=false:=(u8_eqI m[j] 34 (by omega)).trans (beq_eq_false_iff_ne.2 h34);have hgb2:((m[j].toNat:Int) !=34)=true:=by rw[bne,hgb];rfl
    have hex:(str (c::m)).extract (j+1) (m.length+1)=str (m.drop j):=by
     have:=str_extract (c::m) (j+1) (m.length+1);rw[List.take_of_length_le (by simp)]at this;exact this
    have HEL:=hide (fun w=>elem_any (m.drop j) w (by rw[List.length_drop];omega));obtain⟨hle1,hle2⟩:=elemL_le (m.drop j);rw[List.length_drop]at hle1;have HBD:=hide (fun h=>lit_drop_bad (m:=m) hlt h34 h);have HST:=hide (fun h=>lit_drop_step (m:=m) hlt h34 h);generalize hv:(elemL (m.drop j)).1=v at*;generalize hn:(elemL (m.drop j)).2=n at*;generalize m[j]=d at*;have HN:=hide hn;have hvb:=v.toNat_lt;have hvb':(v.toNat:Int)<256:=by omega
    clear hv hn h34;generalize hdr:m.drop j=mj at*;have HDR:=hide hdr;clear hdr;by_cases hn0:n=0
    ·have HR:=hide (show textT (c::m)= .error 3 by rw[HT.out,HL.out,HBD.out hn0];rfl);subst hn0;clear HT HL HBD HST;go_wp2_with (go_at_call 181;refine(HEL.out _).mono ?_;rintro e w1 ⟨rfl,hE⟩;have HB:=hide (HB.out.ext hE);have HE:=hide (HX.out.trans hE);clear hE hbc hbf;have hbc:=HB.out.cell;have hbf:=HB.out.frozen);have hset:=(HB.out.put4 (.int .i64 0) (.string ⟨#[]⟩) (.int .i64 0) (.int .i64 0)).cell;exact bodyPost_ret (v:=tokV (.error 3)) (by simp[results,results143,go_sem,tokV,hset]) rfl ⟨by rw[HR.out],HE.out.put4 (Nat.le_refl _) _ _ _ _⟩
    ·have hnb:((n:Int)==0)=false:=by simp[hn0]
     have hn1:1<=n:=by omega
     have HL2:=hide (show litL m=(litL (m.drop (j+n))).map fun x=>((b++[v])++x.1,(j+n)+x.2) by
      rw[HL.out,HST.out hn0,Option.map_map]
      congr 1
      funext x
      simp[Nat.add_assoc])
     clear HT HL HBD HST hn0
     go_wp2_with (first
      |(go_at_call 181;refine(HEL.out _).mono ?_;rintro e w1 ⟨rfl,hE⟩;have HO1:=hide (HO.out.ext (hE.alloc' (.cells #[.int .u8 (v.toNat:Int)] 5)));have HB1:=hide (HB.out.ext (hE.alloc' (.cells #[.int .u8 (v.toNat:Int)] 5)));have HE1:=hide (HX.out.trans (hE.alloc' (.cells #[.int .u8 (v.toNat:Int)] 5)));have hz1:=hE.size;clear hE hbc hbf)
      |(at_builtin;refine wpList_appendB bt rfl _ _ rfl (w.heap.size+1) (.slice B b.length cap) b rfl HO1.out (some ⟨w1.heap.size,0,none⟩) 1 [v] rfl (Sl.one w1 v) (by simp;omega) (by simp;omega) ?_;intro A3 c3 w3 ho3 hg3 _;have HO3:=hide ho3;have HG3:=hide hg3;clear ho3 hg3))
     go_roundw
     case rel=>
      have hrow:=fun k hk=>(World.ownsRow.lt HO1.out k hk).1;have hx3:=HE1.out.grown HG3.out (fun k hk=>by have:=hrow k hk;omega);have hb3:=HB1.out.grown HG3.out (fun e=>by have:=hrow _ e.symm;omega);refine⟨A3,c3,b++[v],j+n,by rw[List.length_append];rfl,?_,by go_num,by omega,by rw[List.length_append];simp;omega,HL2,hb3,hx3⟩;rw[List.length_append];exact HO3.out
     case measure=>simp[intOf];omega
  ·have hmj:m.drop j=[]:=List.drop_of_length_le (by omega);have HR:=hide (show textT (c::m)= .error 3 by rw[HT.out,HL.out,hmj];rfl);have hlt': ¬(j:Int)+1<m.length+1:=by omega
   clear HT HL hmj;go_wp2_with fail;have hset:=(HB.out.put4 (.int .i64 0) (.string ⟨#[]⟩) (.int .i64 0) (.int .i64 0)).cell;exact bodyPost_ret (v:=tokV (.error 3)) (by simp[results,results143,go_sem,tokV,hset]) rfl ⟨by rw[HR.out],HX.out.put4 (Nat.le_refl _) _ _ _ _⟩
theorem ones_idx (c:UInt8):0<=Lib.indexByte ones c↔ones.contains c=true:=by
 rcases idx_mem c ones with⟨h1,h2⟩|⟨h1,h2⟩
 ·rw[h1,h2];simp
 ·rw[h2];simp[h1]
theorem two_take (a b:UInt8) (l:List UInt8):([a,b]:List UInt8).isPrefixOf l=(l.take 2==[a,b]):=by
 match l with
 | []=>rfl
 | [c]=>simp[List.isPrefixOf]
 |c::d::r=>
  simp only[List.isPrefixOf,Bool.and_true,List.take_succ_cons,List.take_zero];rw[show(a==c)=(c==a)from BEq.comm,show(b==d)=(d==b)from BEq.comm];simp
def pfx (i:Nat) (l:List UInt8):Bool:=(two.getD i []).isPrefixOf l
theorem two_ways (l:List UInt8):two.contains (l.take 2)=(pfx 0 l||pfx 1 l||pfx 2 l||pfx 3 l||pfx 4 l||pfx 5 l):=by
 unfold pfx two;simp only[List.getD_cons_zero,List.getD_cons_succ,two_take,List.contains_cons,List.contains_nil,Bool.or_false,Bool.or_assoc]
theorem pfx_take {i:Nat} {l:List UInt8} (hi:i<6) (h:pfx i l=true):l.take 2=two.getD i []:=by
 unfold pfx two at h;unfold two;have hc:i=0\/i=1\/i=2\/i=3\/i=4\/i=5:=by omega
 rcases hc with rfl|rfl|rfl|rfl|rfl|rfl<;>(simp only[List.getD_cons_zero,List.getD_cons_succ,two_take]at h⊢;exact beq_iff_eq.1 h)
end Go.Proofs.YtddomeddabfinaaGreatDoor
namespace Go.Proofs.YtddomeddabfinaaGreatDoor
open Go.Proofs.Tryz
open Go.RowKit
theorem mark_two {l:List UInt8} {i:Nat} {t:List UInt8} (hi:i<6) (ht:two.getD i []=t) (h:pfx i l=true) (hc:two.contains (l.take 2)=true):markT l= .ok ((5,t,0),2):=by
 unfold markT;rw[if_pos hc,pfx_take hi h,ht]
theorem mark_any (c:UInt8) (m:List UInt8) (hl:m.length<=100000) (w:World):Calls prog 144 #[.string (str (c::m))] w fun e w'=>e= .returned (tokV (markT (c::m)))/\Ext w w':=by
 have hsz:(str (c::m)).size=m.length+1:=by rw[str_size];rfl
 have h0:0<(str (c::m)).size:=by rw[hsz];omega
 have hg:(str (c::m))[0]=c:=rfl;have hex:(str (c::m)).extract 0 1=str [c]:=by rw[str_extract];rfl
 have HW:=hide (two_ways (c::m));have HPF:=hide (fun w (p:List UInt8)=>prefix_any (c::m) p w);have HIX:=hide (fun w=>index_any ones c w);go_enter func144,ntmps144;go_wp2_with fail
 go_loop [8] (fun vi=>(vi= .int .i64 0/\Hid (two.contains ((c::m).take 2)=(pfx 0 (c::m)||pfx 1 (c::m)||pfx 2 (c::m)||pfx 3 (c::m)||pfx 4 (c::m)||pfx 5 (c::m))))\/(vi= .int .i64 1/\Hid (two.contains ((c::m).take 2)=(pfx 1 (c::m)||pfx 2 (c::m)||pfx 3 (c::m)||pfx 4 (c::m)||pfx 5 (c::m))))\/(vi= .int .i64 2/\Hid (two.contains ((c::m).take 2)=(pfx 2 (c::m)||pfx 3 (c::m)||pfx 4 (c::m)||pfx 5 (c::m))))\/(vi= .int .i64 3/\Hid (two.contains ((c::m).take 2)=(pfx 3 (c::m)||pfx 4 (c::m)||pfx 5 (c::m))))\/(vi= .int .i64 4/\Hid (two.contains ((c::m).take 2)=(pfx 4 (c::m)||pfx 5 (c::m))))\/(vi= .int .i64 5/\Hid (two.contains ((c::m).take 2)=(pfx 5 (c::m))))\/(vi= .int .i64 6/\Hid (two.contains ((c::m).take 2)=(false)))) (fun vi=>7-(intOf vi).toNat)
 case atStart=>exact .inl ⟨rfl,HW⟩
 case round=>
  rcases hrel with⟨rfl,HT⟩|⟨rfl,HT⟩|⟨rfl,HT⟩|⟨rfl,HT⟩|⟨rfl,HT⟩|⟨rfl,HT⟩|⟨rfl,HT⟩
  ·have hidx: ∀w:World,(Instr.index 264 (.agg #[.string ⟨#[61,61]⟩, .string ⟨#[33,61]⟩, .string ⟨#[60,61]⟩, .string ⟨#[62,61]⟩, .string ⟨#[38,38]⟩, .string ⟨#[124,124]⟩]) (.int .i64 0)).run prog w= .ok (.string ⟨#[61,61]⟩) w:=fun w=>by(show _=_;kernel_rfl)
   have HP:=hide (fun w=>(show Calls prog 138 #[.string (str (c::m)), .string ⟨#[61,61]⟩] w fun e w'=>e= .returned (.bool (pfx 0 (c::m)))/\w=w' from HPF.out w [61,61]))
   cases hp:pfx 0 (c::m)with
   |true=>
    have HR:=hide (mark_two (i:=0) (t:=[61,61]) (by omega) rfl hp (by rw[HT.out,hp];simp));rw[hp]at HP;clear hp HT;go_wp2_with (go_at_call 138;refine(HP.out _).mono ?_;rintro e w' ⟨rfl,rfl⟩);exact bodyPost_ret (v:=tokV (.ok ((5,[61,61],0),2))) (by simp[results,results144,go_sem,tokV];rfl) rfl ⟨by rw[HR.out],Ext.alloc w _⟩
   |false=>
    have HN:=hide (show two.contains ((c::m).take 2)=(pfx 1 (c::m)||pfx 2 (c::m)||pfx 3 (c::m)||pfx 4 (c::m)||pfx 5 (c::m)) by rw[HT.out,hp];simp);rw[hp]at HP;clear hp HT;go_wp2_with (go_at_call 138;refine(HP.out _).mono ?_;rintro e w' ⟨rfl,rfl⟩)
    go_round
    case rel=>exact .inr (.inl ⟨rfl,HN⟩)
    case measure=>simp[intOf]
  ·have hidx: ∀w:World,(Instr.index 264 (.agg #[.string ⟨#[61,61]⟩, .string ⟨#[33,61]⟩, .string ⟨#[60,61]⟩, .string ⟨#[62,61]⟩, .string ⟨#[38,38]⟩, .string ⟨#[124,124]⟩]) (.int .i64 1)).run prog w= .ok (.string ⟨#[33,61]⟩) w:=fun w=>by(show _=_;kernel_rfl)
   have HP:=hide (fun w=>(show Calls prog 138 #[.string (str (c::m)), .string ⟨#[33,61]⟩] w fun e w'=>e= .returned (.bool (pfx 1 (c::m)))/\w=w' from HPF.out w [33,61]))
   cases hp:pfx 1 (c::m)with
   |true=>
    have HR:=hide (mark_two (i:=1) (t:=[33,61]) (by omega) rfl hp (by rw[HT.out,hp];simp));rw[hp]at HP;clear hp HT;go_wp2_with (go_at_call 138;refine(HP.out _).mono ?_;rintro e w' ⟨rfl,rfl⟩);exact bodyPost_ret (v:=tokV (.ok ((5,[33,61],0),2))) (by simp[results,results144,go_sem,tokV];rfl) rfl ⟨by rw[HR.out],Ext.alloc w _⟩
   |false=>
    have HN:=hide (show two.contains ((c::m).take 2)=(pfx 2 (c::m)||pfx 3 (c::m)||pfx 4 (c::m)||pfx 5 (c::m)) by rw[HT.out,hp];simp);rw[hp]at HP;clear hp HT;go_wp2_with (go_at_call 138;refine(HP.out _).mono ?_;rintro e w' ⟨rfl,rfl⟩)
    go_round
    case rel=>exact .inr (.inr (.inl ⟨rfl,HN⟩))
    case measure=>simp[intOf]
  ·have hidx: ∀w:World,(Instr.index 264 (.agg #[.string ⟨#[61,61]⟩, .string ⟨#[33,61]⟩, .string ⟨#[60,61]⟩, .string ⟨#[62,61]⟩, .string ⟨#[38,38]⟩, .string ⟨#[124,124]⟩]) (.int .i64 2)).run prog w= .ok (.string ⟨#[60,61]⟩) w:=fun w=>by(show _=_;kernel_rfl)
   have HP:=hide (fun w=>(show Calls prog 138 #[.string (str (c::m)), .string ⟨#[60,61]⟩] w fun e w'=>e= .returned (.bool (pfx 2 (c::m)))/\w=w' from HPF.out w [60,61]))
   cases hp:pfx 2 (c::m)with
   |true=>
    have HR:=hide (mark_two (i:=2) (t:=[60,61]) (by omega) rfl hp (by rw[HT.out,hp];simp));rw[hp]at HP;clear hp HT;go_wp2_with (go_at_call 138;refine(HP.out _).mono ?_;rintro e w' ⟨rfl,rfl⟩);exact bodyPost_ret (v:=tokV (.ok ((5,[60,61],0),2))) (by simp[results,results144,go_sem,tokV];rfl) rfl ⟨by rw[HR.out],Ext.alloc w _⟩
   |false=>
    have HN:=hide (show two.contains ((c::m).take 2)=(pfx 3 (c::m)||pfx 4 (c::m)||pfx 5 (c::m)) by rw[HT.out,hp];simp);rw[hp]at HP;clear hp HT;go_wp2_with (go_at_call 138;refine(HP.out _).mono ?_;rintro e w' ⟨rfl,rfl⟩)
    go_round
    case rel=>exact .inr (.inr (.inr (.inl ⟨rfl,HN⟩)))
    case measure=>simp[intOf]
  ·have hidx: ∀w:World,(Instr.index 264 (.agg #[.string ⟨#[61,61]⟩, .string ⟨#[33,61]⟩, .string ⟨#[60,61]⟩, .string ⟨#[62,61]⟩, .string ⟨#[38,38]⟩, .string ⟨#[124,124]⟩]) (.int .i64 3)).run prog w= .ok (.string ⟨#[62,61]⟩) w:=fun w=>by(show _=_;kernel_rfl)
   have HP:=hide (fun w=>(show Calls prog 138 #[.string (str (c::m)), .string ⟨#[62,61]⟩] w fun e w'=>e= .returned (.bool (pfx 3 (c::m)))/\w=w' from HPF.out w [62,61]))
   cases hp:pfx 3 (c::m)with
   |true=>
    have HR:=hide (mark_two (i:=3) (t:=[62,61]) (by omega) rfl hp (by rw[HT.out,hp];simp));rw[hp]at HP;clear hp HT;go_wp2_with (go_at_call 138;refine(HP.out _).mono ?_;rintro e w' ⟨rfl,rfl⟩);exact bodyPost_ret (v:=tokV (.ok ((5,[62,61],0),2))) (by simp[results,results144,go_sem,tokV];rfl) rfl ⟨by rw[HR.out],Ext.alloc w _⟩
   |false=>
    have HN:=hide (show two.contains ((c::m).take 2)=(pfx 4 (c::m)||pfx 5 (c::m)) by rw[HT.out,hp];simp);rw[hp]at HP;clear hp HT;go_wp2_with (go_at_call 138;refine(HP.out _).mono ?_;rintro e w' ⟨rfl,rfl⟩)
    go_round
    case rel=>exact .inr (.inr (.inr (.inr (.inl ⟨rfl,HN⟩))))
    case measure=>simp[intOf]
  ·have hidx: ∀w:World,(Instr.index 264 (.agg #[.string ⟨#[61,61]⟩, .string ⟨#[33,61]⟩, .string ⟨#[60,61]⟩, .string ⟨#[62,61]⟩, .string ⟨#[38,38]⟩, .string ⟨#[124,124]⟩]) (.int .i64 4)).run prog w= .ok (.string ⟨#[38,38]⟩) w:=fun w=>by(show _=_;kernel_rfl)
   have HP:=hide (fun w=>(show Calls prog 138 #[.string (str (c::m)), .string ⟨#[38,38]⟩] w fun e w'=>e= .returned (.bool (pfx 4 (c::m)))/\w=w' from HPF.out w [38,38]))
   cases hp:pfx 4 (c::m)with
   |true=>
    have HR:=hide (mark_two (i:=4) (t:=[38,38]) (by omega) rfl hp (by rw[HT.out,hp];simp));rw[hp]at HP;clear hp HT;go_wp2_with (go_at_call 138;refine(HP.out _).mono ?_;rintro e w' ⟨rfl,rfl⟩);exact bodyPost_ret (v:=tokV (.ok ((5,[38,38],0),2))) (by simp[results,results144,go_sem,tokV];rfl) rfl ⟨by rw[HR.out],Ext.alloc w _⟩
   |false=>
    have HN:=hide (show two.contains ((c::m).take 2)=(pfx 5 (c::m)) by rw[HT.out,hp];simp);rw[hp]at HP;clear hp HT;go_wp2_with (go_at_call 138;refine(HP.out _).mono ?_;rintro e w' ⟨rfl,rfl⟩)
    go_round
    case rel=>exact .inr (.inr (.inr (.inr (.inr (.inl ⟨rfl,HN⟩)))))
    case measure=>simp[intOf]
  ·have hidx: ∀w:World,(Instr.index 264 (.agg #[.string ⟨#[61,61]⟩, .string ⟨#[33,61]⟩, .string ⟨#[60,61]⟩, .string ⟨#[62,61]⟩, .string ⟨#[38,38]⟩, .string ⟨#[124,124]⟩]) (.int .i64 5)).run prog w= .ok (.string ⟨#[124,124]⟩) w:=fun w=>by(show _=_;kernel_rfl)
   have HP:=hide (fun w=>(show Calls prog 138 #[.string (str (c::m)), .string ⟨#[124,124]⟩] w fun e w'=>e= .returned (.bool (pfx 5 (c::m)))/\w=w' from HPF.out w [124,124]))
   cases hp:pfx 5 (c::m)with
   |true=>
    have HR:=hide (mark_two (i:=5) (t:=[124,124]) (by omega) rfl hp (by rw[HT.out,hp]));rw[hp]at HP;clear hp HT;go_wp2_with (go_at_call 138;refine(HP.out _).mono ?_;rintro e w' ⟨rfl,rfl⟩);exact bodyPost_ret (v:=tokV (.ok ((5,[124,124],0),2))) (by simp[results,results144,go_sem,tokV];rfl) rfl ⟨by rw[HR.out],Ext.alloc w _⟩
   |false=>
    have HN:=hide (show two.contains ((c::m).take 2)=(false) by rw[HT.out,hp]);rw[hp]at HP;clear hp HT;go_wp2_with (go_at_call 138;refine(HP.out _).mono ?_;rintro e w' ⟨rfl,rfl⟩)
    go_round
    case rel=>exact .inr (.inr (.inr (.inr (.inr (.inr (⟨rfl,HN⟩))))))
    case measure=>simp[intOf]
  ·have HI:=hide (fun w=>(show Calls prog 137 #[.string ⟨#[40,41,123,125,91,93,44,59,61,43,45,42,47,37,60,62,33]⟩, .int .u8 (c.toNat:Int)] w fun e w'=>e= .returned (.int .i64 (Lib.indexByte ones c))/\w=w' from HIX.out w));by_cases h1:0<=Lib.indexByte ones c
   ·have HR:=hide (show markT (c::m)= .ok ((5,[c],0),1) by
     unfold markT;rw[HT.out,if_neg (by simp),if_pos]
     ·rfl
     ·show(some c).any (fun c=>ones.contains c)=true
      simpa using(ones_idx c).1 h1)
    generalize Lib.indexByte ones c=ix at*;clear HT;go_wp2_with (go_at_call 137;refine(HI.out _).mono ?_;rintro e w' ⟨rfl,rfl⟩);exact bodyPost_ret (v:=tokV (.ok ((5,[c],0),1))) (by simp[results,results144,go_sem,tokV]) rfl ⟨by rw[HR.out],Ext.alloc w _⟩
   ·have HR:=hide (show markT (c::m)= .error 3 by
     unfold markT;rw[HT.out,if_neg (by simp),if_neg];show ¬(some c).any (fun c=>ones.contains c)=true;intro h
     exact h1 ((ones_idx c).2 (by simpa using h)))
    generalize Lib.indexByte ones c=ix at*;clear HT;go_wp2_with (go_at_call 137;refine(HI.out _).mono ?_;rintro e w' ⟨rfl,rfl⟩);exact bodyPost_ret (v:=tokV (.error 3)) (by simp[results,results144,go_sem,tokV]) rfl ⟨by rw[HR.out],Ext.alloc w _⟩
def EZ (w:World):Prop:=(∃ev,w.cell? ⟨4,0,none⟩=some ev/\(ev= .nilIface\/ ∃te pe,ev= .iface te pe))/\(∃ev,w.cell? ⟨5,0,none⟩=some ev/\(ev= .nilIface\/ ∃te pe,ev= .iface te pe))
theorem EZ.ext {w w':World} (h:EZ w) (he:Ext w w'):EZ w':=by
 obtain⟨⟨a,a1,a2⟩,b,b1,b2⟩:=h;exact⟨⟨a,(he.cell _ _ (World.block_lt_of_cell? _ _ a1)).trans a1,a2⟩,b,(he.cell _ _ (World.block_lt_of_cell? _ _ b1)).trans b1,b2⟩
theorem spanN_all (p:UInt8->Bool): ∀l:List UInt8,∀c∈l.take (spanN p l),p c=true
 | [],c,h=>by simp at h
 |x::l,c,h=>by
  simp only[spanN]at h;split at h
  ·rename_i hx;rw[List.take_succ_cons]at h;rcases List.mem_cons.1 h with rfl|h
   ·exact hx
   ·exact spanN_all p l c h
  ·simp at h
def decF (acc:Nat) (l:List UInt8):Nat:=l.foldl (fun v c=>v*10+(c.toNat-48)) acc
theorem decF_ge: ∀(l:List UInt8) (acc:Nat),acc<=decF acc l
 | [],acc=>Nat.le_refl _
 |c::l,acc=>by
  have:=decF_ge l (acc*10+(c.toNat-48));show acc<=decF (acc*10+(c.toNat-48)) l;omega
theorem pu10_digits: ∀(l:List UInt8) (acc:Nat),(∀c∈l,digB c=true)->Lib.parseUint10 acc l= .ok (decF acc l)\/(Lib.parseUint10 acc l= .range/\18446744073709551616<=decF acc l)
 | [],acc,_=> .inl rfl
 |c::l,acc,h=>by
  have hc:48<=c.toNat/\c.toNat<=57:=by have:=h c (List.mem_cons_self ..);unfold digB at this;simpa using this
  have hg:=decF_ge l (acc*10+(c.toNat-48));have he:decF acc (c::l)=decF (acc*10+(c.toNat-48)) l:=rfl;simp only[Lib.parseUint10];rw[if_pos hc,he];split
  ·exact .inr ⟨rfl,by omega⟩
  ·split
   ·exact .inr ⟨rfl,by omega⟩
   ·exact pu10_digits l _ fun d hd=>h d (List.mem_cons_of_mem _ hd)
theorem atoi_digits {l:List UInt8} (hne:l≠ []) (h: ∀c∈l,digB c=true):(Lib.atoiAll l= .ok (decV l:Int))\/(Lib.atoiAll l= .range/\Lib.atoiSat l=9223372036854775807/\9223372036854775808<=decV l):=by
 match l with
 | []=>exact absurd rfl hne
 |c::r=>
  have hc:48<=c.toNat/\c.toNat<=57:=by have:=h c (List.mem_cons_self ..);unfold digB at this;simpa using this
  have h45: ¬c.toNat=45:=by omega
  have h43: ¬(c.toNat=43\/c.toNat=45):=by omega
  have hd:decV (c::r)=decF 0 (c::r):=rfl;have hsat:Lib.atoiSat (c::r)=9223372036854775807:=by
   unfold Lib.atoiSat;rw[if_neg (by simp;omega)]
  have hm:Lib.parseMag (c::r)=Lib.parseUint10 0 (c::r):=by unfold Lib.parseMag;rw[if_neg (by simp)]
  rcases pu10_digits (c::r) 0 h with h1|⟨h1,h2⟩
  ·by_cases hb:9223372036854775808<=decF 0 (c::r)
   ·refine .inr ⟨?_,hsat,by rw[hd];exact hb⟩;simp only[Lib.atoiAll];rw[if_neg h43,hm,h1];simp only;rw[if_pos ⟨h45,hb⟩]
   ·refine .inl ?_;simp only[Lib.atoiAll];rw[if_neg h43,hm,h1];simp only;rw[if_neg (by omega),if_neg (by omega),if_neg h45,hd]
  ·refine .inr ⟨?_,hsat,by rw[hd];omega⟩;simp only[Lib.atoiAll];rw[if_neg h43,hm,h1]
theorem atoi_any (l:List UInt8) (hne:l≠ []) (hl:l.length<=100000) (h: ∀c∈l,digB c=true) (w:World) (hz:EZ w):
  ∃v:Int,(v=decV l\/(v=9223372036854775807/\9223372036854775808<=decV l))/\Calls prog 180 #[.string (str l)] w fun e w'=>(∃er,e= .returned (.tuple #[.int .i64 v,er]))/\Ext w w':=by
 rcases atoi_digits hne h with h1|⟨h1,h2,h3⟩
 ·refine⟨decV l, .inl rfl,?_⟩;refine(Tryz.strconv_Atoi_ok (str l) (by rw[str_size];omega) (decV l) (by rw[str_data];exact h1) w).mono ?_;rintro e w' ⟨rfl,h⟩;refine⟨⟨_,rfl⟩,?_⟩;rcases h with rfl|⟨t,rfl⟩
  ·exact Ext.refl _
  ·exact Lib.bytesWorld_below _ _ _
 ·refine⟨9223372036854775807, .inr ⟨rfl,h3⟩,?_⟩;obtain⟨ev,q1,q2⟩:=hz.2;refine(Tryz.strconv_Atoi_range (str l) (by rw[str_size];omega) (by rw[str_data];exact h1) ev w q1 q2).mono ?_;rintro e w' ⟨N,rfl,_,_,hb⟩;rw[str_data,h2];exact⟨⟨_,rfl⟩,hb⟩
end Go.Proofs.YtddomeddabfinaaGreatDoor
namespace Go.Proofs.YtddomeddabfinaaGreatDoor
open Go.Proofs.Tryz
open Go.RowKit
theorem num_spec (c:UInt8) (m:List UInt8) {n:Nat} {x:List UInt8} (hn:spanN digB (c::m)=n) (hx:(c::m).take n=x):numT (c::m)=if((c::m).drop n).head?.any prtB then .error 3 else if 10<n\/(1<n/\c=48)\/2147483647<decV x then .error 2 else .ok ((3,[],decV x),n):=by
 subst hn;subst hx;unfold numT;simp
theorem num_end (c:UInt8) (m:List UInt8) {n:Nat} (hle:n<=m.length+1) (hlt: ¬n<m.length+1):((c::m).drop n).head?.any prtB=false:=by
 rw[List.drop_of_length_le (by simp;omega)];rfl
theorem num_in (c:UInt8) (m:List UInt8) {n:Nat} (hlt:n<(c::m).length):((c::m).drop n).head?.any prtB=prtB (c::m)[n]:=by
 rw[head_drop _ _ hlt];rfl
theorem number_any (c:UInt8) (m:List UInt8) (hc:digB c=true) (hl:(c::m).length<=100000) (w:World) (hz:EZ w):Calls prog 141 #[.string (str (c::m))] w fun e w'=>e= .returned (tokV (numT (c::m)))/\Ext w w':=by
 have hsz:(str (c::m)).size=m.length+1:=by rw[str_size];rfl
 have h0:0<(str (c::m)).size:=by rw[hsz];omega
 have hg0:(str (c::m))[0]=c:=rfl;have hl1:m.length<=99999:=by simpa using hl
 have hle:spanN digB (c::m)<=m.length+1:=spanN_le digB (c::m);have hn1:1<=spanN digB (c::m):=by simp[spanN,hc]
 have hall:=spanN_all digB (c::m);have hex:=str_extract (c::m) 0 (spanN digB (c::m));simp only[List.drop_zero]at hex;have HSP:=hide (fun w=>span_any digB 140 digit_any (.inr rfl) (c::m) hl w);have HTX:=fun x h=>hide (num_spec c m (n:=spanN digB (c::m)) (x:=x) rfl h);have HX0:=hide (Ext.alloc w (.cells #[.int .i64 0, .string ⟨#[]⟩, .int .i64 0, .int .i64 0] 206));have HB0:=hide (Blk.new w 206 #[.int .i64 0, .string ⟨#[]⟩, .int .i64 0, .int .i64 0]);have hxne:(c::m).take (spanN digB (c::m))≠ []:=by intro h;have:=congrArg List.length h;simp at this;omega
 have hxl:((c::m).take (spanN digB (c::m))).length<=100000:=by have:=List.length_take_le' (spanN digB (c::m)) (c::m);omega
 obtain⟨v,hv,HA⟩:=atoi_any ((c::m).take (spanN digB (c::m))) hxne hxl hall _ (hz.ext HX0.out);have HA:=hide HA;have HT:=HTX _ rfl;clear HTX;generalize hn:spanN digB (c::m)=n at*;generalize hx:(c::m).take n=x at*;clear hn hxne hall hxl hx;have hvr:v<=2147483647->v=decV x:=by omega
 have hvg:2147483647<v->2147483647<decV x:=by omega
 have hv1:v<=2147483647-> ¬2147483647<decV x:=by omega
 clear hv;by_cases hlt:n<m.length+1
 ·have hns:n<(str (c::m)).size:=by rw[hsz];exact hlt
  have hg:(str (c::m))[n]=(c::m)[n]'hlt:=rfl;have hH:=num_in c m (n:=n) hlt;have HPT:=hide (part_any ((c::m)[n]'hlt));have hlt':(n:Int)<m.length+1:=by omega
  generalize (c::m)[n]'hlt=d at*
  cases hp:prtB d with
  |true=>
   rw[hp]at HPT hH;have HR:=hide (show numT (c::m)= .error 3 by rw[HT.out,hH,if_pos rfl]);clear hH hp;clear HT hc hvr hvg hv1;go_enter func141,ntmps141
   go_wp2_with (first
    |(go_at_call 179;refine(HSP.out _).mono ?_;rintro e w' ⟨rfl,rfl⟩)
    |(go_at_call 180;refine HA.out.mono ?_;rintro e w1 ⟨⟨er,rfl⟩,hE⟩;have HB:=hide (HB0.out.ext hE);have HX:=hide (HX0.out.trans hE);clear hE;have hbc:=HB.out.cell;have hbf:=HB.out.frozen)
    |(go_at_call 107;refine(HPT.out _).mono ?_;rintro e w' ⟨rfl,rfl⟩))
   have hset:=(HB.out.put4 (.int .i64 0) (.string ⟨#[]⟩) (.int .i64 0) (.int .i64 0)).cell;exact bodyPost_ret (v:=tokV (.error 3)) (by simp[results,results141,go_sem,tokV,hset]) rfl ⟨by rw[HR.out],HX.out.put4 (Nat.le_refl _) _ _ _ _⟩
  |false=>
   rw[hp]at HPT hH;clear hp;by_cases hA:10<n
   ·have hA':(10:Int)<n:=by omega
    have HR:=hide (show numT (c::m)= .error 2 by rw[HT.out,hH,if_neg (by simp),if_pos (.inl hA)]);clear hH;clear HT hc hvr hvg hv1;go_enter func141,ntmps141
    go_wp2_with (first
     |(go_at_call 179;refine(HSP.out _).mono ?_;rintro e w' ⟨rfl,rfl⟩)
     |(go_at_call 180;refine HA.out.mono ?_;rintro e w1 ⟨⟨er,rfl⟩,hE⟩;have HB:=hide (HB0.out.ext hE);have HX:=hide (HX0.out.trans hE);clear hE;have hbc:=HB.out.cell;have hbf:=HB.out.frozen)
     |(go_at_call 107;refine(HPT.out _).mono ?_;rintro e w' ⟨rfl,rfl⟩))
    have hset:=(HB.out.put4 (.int .i64 0) (.string ⟨#[]⟩) (.int .i64 0) (.int .i64 0)).cell;exact bodyPost_ret (v:=tokV (.error 2)) (by simp[results,results141,go_sem,tokV,hset]) rfl ⟨by rw[HR.out],HX.out.put4 (Nat.le_refl _) _ _ _ _⟩
   ·have hA': ¬(10:Int)<n:=by omega
    by_cases hB:1<n
    ·have hB':(1:Int)<n:=by omega
     by_cases hC:c=48
     ·have hC':((c.toNat:Int)==48)=true:=by rw[hC];rfl
      have HR:=hide (show numT (c::m)= .error 2 by rw[HT.out,hH,if_neg (by simp),if_pos (.inr (.inl ⟨hB,hC⟩))]);clear hH hC;clear HT hc hvr hvg hv1;go_enter func141,ntmps141
      go_wp2_with (first
       |(go_at_call 179;refine(HSP.out _).mono ?_;rintro e w' ⟨rfl,rfl⟩)
       |(go_at_call 180;refine HA.out.mono ?_;rintro e w1 ⟨⟨er,rfl⟩,hE⟩;have HB:=hide (HB0.out.ext hE);have HX:=hide (HX0.out.trans hE);clear hE;have hbc:=HB.out.cell;have hbf:=HB.out.frozen)
       |(go_at_call 107;refine(HPT.out _).mono ?_;rintro e w' ⟨rfl,rfl⟩))
      have hset:=(HB.out.put4 (.int .i64 0) (.string ⟨#[]⟩) (.int .i64 0) (.int .i64 0)).cell;exact bodyPost_ret (v:=tokV (.error 2)) (by simp[results,results141,go_sem,tokV,hset]) rfl ⟨by rw[HR.out],HX.out.put4 (Nat.le_refl _) _ _ _ _⟩
     ·have hC':((c.toNat:Int)==48)=false:=(u8_eqI c 48 (by omega)).trans (beq_eq_false_iff_ne.2 hC);by_cases hV:2147483647<v
      ·have HR:=hide (show numT (c::m)= .error 2 by rw[HT.out,hH,if_neg (by simp),if_pos (.inr (.inr (hvg hV)))]);clear hH;clear hC;clear HT hc hvr hvg hv1;go_enter func141,ntmps141
       go_wp2_with (first
        |(go_at_call 179;refine(HSP.out _).mono ?_;rintro e w' ⟨rfl,rfl⟩)
        |(go_at_call 180;refine HA.out.mono ?_;rintro e w1 ⟨⟨er,rfl⟩,hE⟩;have HB:=hide (HB0.out.ext hE);have HX:=hide (HX0.out.trans hE);clear hE;have hbc:=HB.out.cell;have hbf:=HB.out.frozen)
        |(go_at_call 107;refine(HPT.out _).mono ?_;rintro e w' ⟨rfl,rfl⟩))
       have hset:=(HB.out.put4 (.int .i64 0) (.string ⟨#[]⟩) (.int .i64 0) (.int .i64 0)).cell;exact bodyPost_ret (v:=tokV (.error 2)) (by simp[results,results141,go_sem,tokV,hset]) rfl ⟨by rw[HR.out],HX.out.put4 (Nat.le_refl _) _ _ _ _⟩
      ·have HR:=hide (show numT (c::m)= .ok ((3,[],v),n) by rw[HT.out,hH,if_neg (by simp),if_neg (by rintro(h|h|h);exact hA h;exact(fun h:1<n/\c=48=>hC h.2) h;exact hv1 (by omega) h),hvr (by omega)]);clear hH;clear hC;clear HT hc hvr hvg hv1;go_enter func141,ntmps141
       go_wp2_with (first
        |(go_at_call 179;refine(HSP.out _).mono ?_;rintro e w' ⟨rfl,rfl⟩)
        |(go_at_call 180;refine HA.out.mono ?_;rintro e w1 ⟨⟨er,rfl⟩,hE⟩;have HB:=hide (HB0.out.ext hE);have HX:=hide (HX0.out.trans hE);clear hE;have hbc:=HB.out.cell;have hbf:=HB.out.frozen)
        |(go_at_call 107;refine(HPT.out _).mono ?_;rintro e w' ⟨rfl,rfl⟩))
       have hset:=(HB.out.put4 (.int .i64 3) (.string ⟨#[]⟩) (.int .i64 v) (.int .i64 0)).cell;exact bodyPost_ret (v:=tokV (.ok ((3,[],v),n))) (by simp[results,results141,go_sem,tokV,hset];rfl) rfl ⟨by rw[HR.out],HX.out.put4 (Nat.le_refl _) _ _ _ _⟩
    ·have hB': ¬(1:Int)<n:=by omega
     by_cases hV:2147483647<v
     ·have HR:=hide (show numT (c::m)= .error 2 by rw[HT.out,hH,if_neg (by simp),if_pos (.inr (.inr (hvg hV)))]);clear hH;clear HT hc hvr hvg hv1;go_enter func141,ntmps141
      go_wp2_with (first
       |(go_at_call 179;refine(HSP.out _).mono ?_;rintro e w' ⟨rfl,rfl⟩)
       |(go_at_call 180;refine HA.out.mono ?_;rintro e w1 ⟨⟨er,rfl⟩,hE⟩;have HB:=hide (HB0.out.ext hE);have HX:=hide (HX0.out.trans hE);clear hE;have hbc:=HB.out.cell;have hbf:=HB.out.frozen)
       |(go_at_call 107;refine(HPT.out _).mono ?_;rintro e w' ⟨rfl,rfl⟩))
      have hset:=(HB.out.put4 (.int .i64 0) (.string ⟨#[]⟩) (.int .i64 0) (.int .i64 0)).cell;exact bodyPost_ret (v:=tokV (.error 2)) (by simp[results,results141,go_sem,tokV,hset]) rfl ⟨by rw[HR.out],HX.out.put4 (Nat.le_refl _) _ _ _ _⟩
     ·have HR:=hide (show numT (c::m)= .ok ((3,[],v),n) by rw[HT.out,hH,if_neg (by simp),if_neg (by rintro(h|h|h);exact hA h;exact(fun h:1<n/\c=48=>hB h.1) h;exact hv1 (by omega) h),hvr (by omega)]);clear hH;clear HT hc hvr hvg hv1;go_enter func141,ntmps141
      go_wp2_with (first
       |(go_at_call 179;refine(HSP.out _).mono ?_;rintro e w' ⟨rfl,rfl⟩)
       |(go_at_call 180;refine HA.out.mono ?_;rintro e w1 ⟨⟨er,rfl⟩,hE⟩;have HB:=hide (HB0.out.ext hE);have HX:=hide (HX0.out.trans hE);clear hE;have hbc:=HB.out.cell;have hbf:=HB.out.frozen)
       |(go_at_call 107;refine(HPT.out _).mono ?_;rintro e w' ⟨rfl,rfl⟩))
      have hset:=(HB.out.put4 (.int .i64 3) (.string ⟨#[]⟩) (.int .i64 v) (.int .i64 0)).cell;exact bodyPost_ret (v:=tokV (.ok ((3,[],v),n))) (by simp[results,results141,go_sem,tokV,hset];rfl) rfl ⟨by rw[HR.out],HX.out.put4 (Nat.le_refl _) _ _ _ _⟩
 ·have hlt': ¬(n:Int)<m.length+1:=by omega
  have hH:=num_end c m hle hlt;have HPT:=hide (part_any 0);by_cases hA:10<n
  ·have hA':(10:Int)<n:=by omega
   have HR:=hide (show numT (c::m)= .error 2 by rw[HT.out,hH,if_neg (by simp),if_pos (.inl hA)]);clear hH;clear HT hc hvr hvg hv1;go_enter func141,ntmps141
   go_wp2_with (first
    |(go_at_call 179;refine(HSP.out _).mono ?_;rintro e w' ⟨rfl,rfl⟩)
    |(go_at_call 180;refine HA.out.mono ?_;rintro e w1 ⟨⟨er,rfl⟩,hE⟩;have HB:=hide (HB0.out.ext hE);have HX:=hide (HX0.out.trans hE);clear hE;have hbc:=HB.out.cell;have hbf:=HB.out.frozen)
    |(go_at_call 107;refine(HPT.out _).mono ?_;rintro e w' ⟨rfl,rfl⟩))
   have hset:=(HB.out.put4 (.int .i64 0) (.string ⟨#[]⟩) (.int .i64 0) (.int .i64 0)).cell;exact bodyPost_ret (v:=tokV (.error 2)) (by simp[results,results141,go_sem,tokV,hset]) rfl ⟨by rw[HR.out],HX.out.put4 (Nat.le_refl _) _ _ _ _⟩
  ·have hA': ¬(10:Int)<n:=by omega
   by_cases hB:1<n
   ·have hB':(1:Int)<n:=by omega
    by_cases hC:c=48
    ·have hC':((c.toNat:Int)==48)=true:=by rw[hC];rfl
     have HR:=hide (show numT (c::m)= .error 2 by rw[HT.out,hH,if_neg (by simp),if_pos (.inr (.inl ⟨hB,hC⟩))]);clear hH hC;clear HT hc hvr hvg hv1;go_enter func141,ntmps141
     go_wp2_with (first
      |(go_at_call 179;refine(HSP.out _).mono ?_;rintro e w' ⟨rfl,rfl⟩)
      |(go_at_call 180;refine HA.out.mono ?_;rintro e w1 ⟨⟨er,rfl⟩,hE⟩;have HB:=hide (HB0.out.ext hE);have HX:=hide (HX0.out.trans hE);clear hE;have hbc:=HB.out.cell;have hbf:=HB.out.frozen)
      |(go_at_call 107;refine(HPT.out _).mono ?_;rintro e w' ⟨rfl,rfl⟩))
     have hset:=(HB.out.put4 (.int .i64 0) (.string ⟨#[]⟩) (.int .i64 0) (.int .i64 0)).cell;exact bodyPost_ret (v:=tokV (.error 2)) (by simp[results,results141,go_sem,tokV,hset]) rfl ⟨by rw[HR.out],HX.out.put4 (Nat.le_refl _) _ _ _ _⟩
    ·have hC':((c.toNat:Int)==48)=false:=(u8_eqI c 48 (by omega)).trans (beq_eq_false_iff_ne.2 hC);by_cases hV:2147483647<v
     ·have HR:=hide (show numT (c::m)= .error 2 by rw[HT.out,hH,if_neg (by simp),if_pos (.inr (.inr (hvg hV)))]);clear hH;clear hC;clear HT hc hvr hvg hv1;go_enter func141,ntmps141
      go_wp2_with (first
       |(go_at_call 179;refine(HSP.out _).mono ?_;rintro e w' ⟨rfl,rfl⟩)
       |(go_at_call 180;refine HA.out.mono ?_;rintro e w1 ⟨⟨er,rfl⟩,hE⟩;have HB:=hide (HB0.out.ext hE);have HX:=hide (HX0.out.trans hE);clear hE;have hbc:=HB.out.cell;have hbf:=HB.out.frozen)
       |(go_at_call 107;refine(HPT.out _).mono ?_;rintro e w' ⟨rfl,rfl⟩))
      have hset:=(HB.out.put4 (.int .i64 0) (.string ⟨#[]⟩) (.int .i64 0) (.int .i64 0)).cell;exact bodyPost_ret (v:=tokV (.error 2)) (by simp[results,results141,go_sem,tokV,hset]) rfl ⟨by rw[HR.out],HX.out.put4 (Nat.le_refl _) _ _ _ _⟩
     ·have HR:=hide (show numT (c::m)= .ok ((3,[],v),n) by rw[HT.out,hH,if_neg (by simp),if_neg (by rintro(h|h|h);exact hA h;exact(fun h:1<n/\c=48=>hC h.2) h;exact hv1 (by omega) h),hvr (by omega)]);clear hH;clear hC;clear HT hc hvr hvg hv1;go_enter func141,ntmps141
      go_wp2_with (first
       |(go_at_call 179;refine(HSP.out _).mono ?_;rintro e w' ⟨rfl,rfl⟩)
       |(go_at_call 180;refine HA.out.mono ?_;rintro e w1 ⟨⟨er,rfl⟩,hE⟩;have HB:=hide (HB0.out.ext hE);have HX:=hide (HX0.out.trans hE);clear hE;have hbc:=HB.out.cell;have hbf:=HB.out.frozen)
       |(go_at_call 107;refine(HPT.out _).mono ?_;rintro e w' ⟨rfl,rfl⟩))
      have hset:=(HB.out.put4 (.int .i64 3) (.string ⟨#[]⟩) (.int .i64 v) (.int .i64 0)).cell;exact bodyPost_ret (v:=tokV (.ok ((3,[],v),n))) (by simp[results,results141,go_sem,tokV,hset];rfl) rfl ⟨by rw[HR.out],HX.out.put4 (Nat.le_refl _) _ _ _ _⟩
   ·have hB': ¬(1:Int)<n:=by omega
    by_cases hV:2147483647<v
    ·have HR:=hide (show numT (c::m)= .error 2 by rw[HT.out,hH,if_neg (by simp),if_pos (.inr (.inr (hvg hV)))]);clear hH;clear HT hc hvr hvg hv1;go_enter func141,ntmps141
     go_wp2_with (first
      |(go_at_call 179;refine(HSP.out _).mono ?_;rintro e w' ⟨rfl,rfl⟩)
      |(go_at_call 180;refine HA.out.mono ?_;rintro e w1 ⟨⟨er,rfl⟩,hE⟩;have HB:=hide (HB0.out.ext hE);have HX:=hide (HX0.out.trans hE);clear hE;have hbc:=HB.out.cell;have hbf:=HB.out.frozen)
      |(go_at_call 107;refine(HPT.out _).mono ?_;rintro e w' ⟨rfl,rfl⟩))
     have hset:=(HB.out.put4 (.int .i64 0) (.string ⟨#[]⟩) (.int .i64 0) (.int .i64 0)).cell;exact bodyPost_ret (v:=tokV (.error 2)) (by simp[results,results141,go_sem,tokV,hset]) rfl ⟨by rw[HR.out],HX.out.put4 (Nat.le_refl _) _ _ _ _⟩
    ·have HR:=hide (show numT (c::m)= .ok ((3,[],v),n) by rw[HT.out,hH,if_neg (by simp),if_neg (by rintro(h|h|h);exact hA h;exact(fun h:1<n/\c=48=>hB h.1) h;exact hv1 (by omega) h),hvr (by omega)]);clear hH;clear HT hc hvr hvg hv1;go_enter func141,ntmps141
     go_wp2_with (first
      |(go_at_call 179;refine(HSP.out _).mono ?_;rintro e w' ⟨rfl,rfl⟩)
      |(go_at_call 180;refine HA.out.mono ?_;rintro e w1 ⟨⟨er,rfl⟩,hE⟩;have HB:=hide (HB0.out.ext hE);have HX:=hide (HX0.out.trans hE);clear hE;have hbc:=HB.out.cell;have hbf:=HB.out.frozen)
      |(go_at_call 107;refine(HPT.out _).mono ?_;rintro e w' ⟨rfl,rfl⟩))
     have hset:=(HB.out.put4 (.int .i64 3) (.string ⟨#[]⟩) (.int .i64 v) (.int .i64 0)).cell;exact bodyPost_ret (v:=tokV (.ok ((3,[],v),n))) (by simp[results,results141,go_sem,tokV,hset];rfl) rfl ⟨by rw[HR.out],HX.out.put4 (Nat.le_refl _) _ _ _ _⟩
theorem tokV_shape (r:TokR): ∃k s v n e,tokV r= .tuple #[.agg #[.int .i64 k, .string s, .int .i64 v, .int .i64 0], .int .i64 n, .int .i64 e]:=by
 cases r with
 |ok x=>exact⟨_,_,_,_,_,rfl⟩
 |error e=>exact⟨_,_,_,_,_,rfl⟩
theorem tok_spec (c:UInt8) (m:List UInt8):tokT (c::m)=if letB c then wordT (c::m)else if digB c then numT (c::m)else if c=39 then charT (c::m)else if c=34 then textT (c::m)else markT (c::m):=rfl
theorem token_any (c:UInt8) (m:List UInt8) (hl:(c::m).length<=100000) (w:World) (hz:EZ w):Calls prog 97 #[.string (str (c::m))] w fun e w'=>e= .returned (tokV (tokT (c::m)))/\Ext w w':=by
 have hsz:(str (c::m)).size=m.length+1:=by rw[str_size];rfl
 have h0:0<(str (c::m)).size:=by rw[hsz];omega
 have hg0:(str (c::m))[0]=c:=rfl;have hl1:m.length<=99999:=by simpa using hl
 have HL:=hide (letter_any c);have HD:=hide (digit_any c);have HX0:=hide (Ext.alloc w (.cells #[.int .i64 0, .string ⟨#[]⟩, .int .i64 0, .int .i64 0] 206));have HB0:=hide (Blk.new w 206 #[.int .i64 0, .string ⟨#[]⟩, .int .i64 0, .int .i64 0]);have HT:=hide (tok_spec c m)
 cases hL:letB c with
 |true=>
  rw[hL]at HL;have HR:=hide (show tokT (c::m)=wordT (c::m) by rw[HT.out,hL,if_pos rfl]);obtain⟨k,s,v,n,e,hr⟩:=tokV_shape (wordT (c::m));have HF:=hide (word_any (c::m) hl (w.alloc (.cells #[.int .i64 0, .string ⟨#[]⟩, .int .i64 0, .int .i64 0] 206)));rw[hr]at HF;have HV:=hide hr;clear hL HT hr hz;go_enter func97,ntmps97
  go_wp2_with (first
   |(go_at_call 108;refine(HL.out _).mono ?_;rintro e' w' ⟨rfl,rfl⟩)
   |(go_at_call 140;refine(HD.out _).mono ?_;rintro e' w' ⟨rfl,rfl⟩)
   |(go_at_call 139;refine HF.out.mono ?_;rintro e' w1 ⟨rfl,hE⟩;have HB:=hide (HB0.out.ext hE);have HX:=hide (HX0.out.trans hE);clear hE;have hbc:=HB.out.cell;have hbf:=HB.out.frozen))
  have hset:=(HB.out.put4 (.int .i64 k) (.string s) (.int .i64 v) (.int .i64 0)).cell;exact bodyPost_ret (v:= .tuple #[.agg #[.int .i64 k, .string s, .int .i64 v, .int .i64 0], .int .i64 n, .int .i64 e]) (by simp[results,results97,go_sem,hset]) rfl ⟨by rw[HR.out,HV.out],HX.out.put4 (Nat.le_refl _) _ _ _ _⟩
 |false=>
  rw[hL]at HL
  cases hD:digB c with
  |true=>
   rw[hD]at HD;have HR:=hide (show tokT (c::m)=numT (c::m) by rw[HT.out,hL,if_neg (by simp),hD,if_pos rfl]);obtain⟨k,s,v,n,e,hr⟩:=tokV_shape (numT (c::m));have HF:=hide (number_any c m hD hl (w.alloc (.cells #[.int .i64 0, .string ⟨#[]⟩, .int .i64 0, .int .i64 0] 206)) (hz.ext HX0.out));rw[hr]at HF;have HV:=hide hr;clear hL hD HT hr hz;go_enter func97,ntmps97
   go_wp2_with (first
    |(go_at_call 108;refine(HL.out _).mono ?_;rintro e' w' ⟨rfl,rfl⟩)
    |(go_at_call 140;refine(HD.out _).mono ?_;rintro e' w' ⟨rfl,rfl⟩)
    |(go_at_call 141;refine HF.out.mono ?_;rintro e' w1 ⟨rfl,hE⟩;have HB:=hide (HB0.out.ext hE);have HX:=hide (HX0.out.trans hE);clear hE;have hbc:=HB.out.cell;have hbf:=HB.out.frozen))
   have hset:=(HB.out.put4 (.int .i64 k) (.string s) (.int .i64 v) (.int .i64 0)).cell;exact bodyPost_ret (v:= .tuple #[.agg #[.int .i64 k, .string s, .int .i64 v, .int .i64 0], .int .i64 n, .int .i64 e]) (by simp[results,results97,go_sem,hset]) rfl ⟨by rw[HR.out,HV.out],HX.out.put4 (Nat.le_refl _) _ _ _ _⟩
  |false=>
   rw[hD]at HD;by_cases h39:c=39
   ·have HR:=hide (show tokT (c::m)=charT (c::m) by rw[HT.out,hL,if_neg (by simp),hD,if_neg (by simp),if_pos h39]);obtain⟨k,s,v,n,e,hr⟩:=tokV_shape (charT (c::m));have HF:=hide (char_any c m (by omega) (w.alloc (.cells #[.int .i64 0, .string ⟨#[]⟩, .int .i64 0, .int .i64 0] 206)));rw[hr]at HF;have HV:=hide hr;have hb39:((c.toNat:Int)==39)=true:=by rw[h39];rfl
    clear hL hD HT hr hz h39;go_enter func97,ntmps97
    go_wp2_with (first
     |(go_at_call 108;refine(HL.out _).mono ?_;rintro e' w' ⟨rfl,rfl⟩)
     |(go_at_call 140;refine(HD.out _).mono ?_;rintro e' w' ⟨rfl,rfl⟩)
     |(go_at_call 142;refine HF.out.mono ?_;rintro e' w1 ⟨rfl,hE⟩;have HB:=hide (HB0.out.ext hE);have HX:=hide (HX0.out.trans hE);clear hE;have hbc:=HB.out.cell;have hbf:=HB.out.frozen))
    have hset:=(HB.out.put4 (.int .i64 k) (.string s) (.int .i64 v) (.int .i64 0)).cell;exact bodyPost_ret (v:= .tuple #[.agg #[.int .i64 k, .string s, .int .i64 v, .int .i64 0], .int .i64 n, .int .i64 e]) (by simp[results,results97,go_sem,hset]) rfl ⟨by rw[HR.out,HV.out],HX.out.put4 (Nat.le_refl _) _ _ _ _⟩
   ·have hb39:((c.toNat:Int)==39)=false:=(u8_eqI c 39 (by omega)).trans (beq_eq_false_iff_ne.2 h39);by_cases h34:c=34
    ·have HR:=hide (show tokT (c::m)=textT (c::m) by rw[HT.out,hL,if_neg (by simp),hD,if_neg (by simp),if_neg h39,if_pos h34]);obtain⟨k,s,v,n,e,hr⟩:=tokV_shape (textT (c::m));have HF:=hide (text_any c m (by omega) (w.alloc (.cells #[.int .i64 0, .string ⟨#[]⟩, .int .i64 0, .int .i64 0] 206)));rw[hr]at HF;have HV:=hide hr;have hb34:((c.toNat:Int)==34)=true:=by rw[h34];rfl
     clear hL hD HT hr hz h39 h34;go_enter func97,ntmps97
     go_wp2_with (first
      |(go_at_call 108;refine(HL.out _).mono ?_;rintro e' w' ⟨rfl,rfl⟩)
      |(go_at_call 140;refine(HD.out _).mono ?_;rintro e' w' ⟨rfl,rfl⟩)
      |(go_at_call 143;refine HF.out.mono ?_;rintro e' w1 ⟨rfl,hE⟩;have HB:=hide (HB0.out.ext hE);have HX:=hide (HX0.out.trans hE);clear hE;have hbc:=HB.out.cell;have hbf:=HB.out.frozen))
     have hset:=(HB.out.put4 (.int .i64 k) (.string s) (.int .i64 v) (.int .i64 0)).cell;exact bodyPost_ret (v:= .tuple #[.agg #[.int .i64 k, .string s, .int .i64 v, .int .i64 0], .int .i64 n, .int .i64 e]) (by simp[results,results97,go_sem,hset]) rfl ⟨by rw[HR.out,HV.out],HX.out.put4 (Nat.le_refl _) _ _ _ _⟩
    ·have HR:=hide (show tokT (c::m)=markT (c::m) by rw[HT.out,hL,if_neg (by simp),hD,if_neg (by simp),if_neg h39,if_neg h34]);obtain⟨k,s,v,n,e,hr⟩:=tokV_shape (markT (c::m));have HF:=hide (mark_any c m (by omega) (w.alloc (.cells #[.int .i64 0, .string ⟨#[]⟩, .int .i64 0, .int .i64 0] 206)));rw[hr]at HF;have HV:=hide hr;have hb34:((c.toNat:Int)==34)=false:=(u8_eqI c 34 (by omega)).trans (beq_eq_false_iff_ne.2 h34);clear hL hD HT hr hz h39 h34;go_enter func97,ntmps97
     go_wp2_with (first
      |(go_at_call 108;refine(HL.out _).mono ?_;rintro e' w' ⟨rfl,rfl⟩)
      |(go_at_call 140;refine(HD.out _).mono ?_;rintro e' w' ⟨rfl,rfl⟩)
      |(go_at_call 144;refine HF.out.mono ?_;rintro e' w1 ⟨rfl,hE⟩;have HB:=hide (HB0.out.ext hE);have HX:=hide (HX0.out.trans hE);clear hE;have hbc:=HB.out.cell;have hbf:=HB.out.frozen))
     have hset:=(HB.out.put4 (.int .i64 k) (.string s) (.int .i64 v) (.int .i64 0)).cell;exact bodyPost_ret (v:= .tuple #[.agg #[.int .i64 k, .string s, .int .i64 v, .int .i64 0], .int .i64 n, .int .i64 e]) (by simp[results,results97,go_sem,hset]) rfl ⟨by rw[HR.out,HV.out],HX.out.put4 (Nat.le_refl _) _ _ _ _⟩
end Go.Proofs.YtddomeddabfinaaGreatDoor
