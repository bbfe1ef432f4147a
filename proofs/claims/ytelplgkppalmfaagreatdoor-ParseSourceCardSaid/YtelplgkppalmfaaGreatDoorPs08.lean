/-
  Parts of the proof: LexL LexM LexN LexO.
-/
import Derived.Test.YtelplgkppalmfaaGreatDoorPs00
import Derived.Test.YtelplgkppalmfaaGreatDoorPs07
set_option maxRecDepth 100000
set_option maxHeartbeats 8000000
set_option linter.unusedVariables false
set_option linter.unusedSimpArgs false
namespace Go.Proofs.YtelplgkppalmfaaGreatDoor
open Go.Proofs.Tryz
section
open Go.RowKit
theorem nG (l:List UInt8) {n:Nat} {x:List UInt8} (hn:bS c_ l=n) (hx:l.take n=x):fK l=if nB x then .ok ((2,x,0),n)else if 14<n then .error 6 else .ok ((1,x,0),n):=by
 subst hn;subst hx;rfl
theorem sG (c:UInt8) (m:List UInt8) (hc:fd c=true) (hl:(c::m).length<=100000) (w:World):Calls prog 55 #[.string (ae (c::m))] w fun e w'=>e= .returned (aY (fK (c::m)))/\al w w':=by
 have hsz:(ae (c::m)).size=m.length+1:=by rw[aM];rfl
 have h0:0<(ae (c::m)).size:=by rw[hsz];omega
 have hg0:(ae (c::m))[0]=c:=rfl;have hl1:m.length<=99999:=by simpa using hl
 have HX0:=G (O w (.cells #[.int .i64 0, .string ⟨#[]⟩, .int .i64 0, .int .i64 0] 62));have HB0:=G (ai w 62 #[.int .i64 0, .string ⟨#[]⟩, .int .i64 0, .int .i64 0]);have HL:=G (e_ c);have HD:=G (fa c);have hs1:=G (show 1<=bS c_ (c::m) by simp[bS,c_,hc]);rw[hc]at HL;clear hc;go_enter func55,ntmps55
 go_wp2_with (first
   |(go_at_call 93;refine(HL.out _).mono ?_;rintro e w' ⟨rfl,rfl⟩))
 go_loop [5] (fun vi=> ∃j:Nat,vi= .int .i64 (j:Int)/\Hid (j<=bS c_ (c::m))) (fun vi=>m.length+1-(intOf vi).toNat)
 case atStart=>exact⟨1,rfl,hs1⟩
 case round=>
  obtain⟨j,rfl,HJ⟩:=hrel;have hjl:j<=m.length+1:=by have:=HJ.out;have:=eY c_ (c::m);simp at this;omega
  by_cases hlt:j<m.length+1
  ·have hns:j<(ae (c::m)).size:=by rw[hsz];exact hlt
   have hg:(ae (c::m))[j]=(c::m)[j]'hlt:=rfl;have hlt':(j:Int)<m.length+1:=by omega
   have HI:=G (jf ((c::m)[j]'hlt));have HSP:=G (fun h=>kn (p:=c_) (l:=c::m) HJ.out hlt h);have hdr:=gh c_ (c::m) j HJ.out;have hst:=ia c_ (l:=c::m) (j:=j) hlt;generalize (c::m)[j]'hlt=d at*
   cases hp:c_ d with
   |true=>
    have HJ2:=G (show j+1<=bS c_ (c::m) by rw[hp,if_pos rfl]at hst;omega);rw[hp]at HI;clear HSP hp hst hdr
    go_wp2_with (first
   |(go_at_call 95;refine(HI.out _).mono ?_;rintro e w' ⟨rfl,rfl⟩))
    go_round
    case rel=>exact⟨j+1,by go_num,HJ2⟩
    case measure=>simp[intOf];omega
   |false=>
    have hn:=HSP.out hp;rw[hp]at HI;clear HSP hp hst hdr;have HT:=G (nG (c::m) hn rfl);have hex:=bR (c::m) 0 j;simp only[ap]at hex;have HK:=G (js ((c::m).take j));generalize (c::m).take j=x at*;clear hn
    cases hk:nB x with
    |true=>
     rw[hk]at HK;have HR:=G (show fK (c::m)= .ok ((2,x,0),j) by rw[HT.out,hk,if_pos rfl]);clear hk HT
     go_wp2_with (first
       |(go_at_call 95;refine(HI.out _).mono ?_;rintro e w' ⟨rfl,rfl⟩)
       |(go_at_call 94;refine(HK.out _).mono ?_;rintro e w1 ⟨rfl,hE⟩;have HB:=G (HB0.out.ext hE);have HX:=G (HX0.out.trans hE);clear hE;have hbc:=HB.out.cell;have hbf:=HB.out.frozen))
     have hset:=(HB.out.put4 (.int .i64 2) (.string (ae x)) (.int .i64 0) (.int .i64 0)).cell;exact bodyPost_ret (v:=aY (.ok ((2,x,0),j))) (by first|(simp[results,results55,go_sem,aY,hset];done)|(simp[results,results55,go_sem,aY,hset];rfl)) rfl ⟨by rw[HR.out],HX.out.put4 (ag _) _ _ _ _⟩
    |false=>
     rw[hk]at HK;by_cases h14:14<j
     ·have h14':(14:Int)<j:=by omega
      have HR:=G (show fK (c::m)= .error 6 by rw[HT.out,hk,if_neg (by simp),if_pos h14]);clear hk HT
      go_wp2_with (first
       |(go_at_call 95;refine(HI.out _).mono ?_;rintro e w' ⟨rfl,rfl⟩)
       |(go_at_call 94;refine(HK.out _).mono ?_;rintro e w1 ⟨rfl,hE⟩;have HB:=G (HB0.out.ext hE);have HX:=G (HX0.out.trans hE);clear hE;have hbc:=HB.out.cell;have hbf:=HB.out.frozen))
      have hset:=(HB.out.put4 (.int .i64 0) (.string ⟨#[]⟩) (.int .i64 0) (.int .i64 0)).cell;exact bodyPost_ret (v:=aY (.error 6)) (by first|(simp[results,results55,go_sem,aY,hset];done)|(simp[results,results55,go_sem,aY,hset];rfl)) rfl ⟨by rw[HR.out],HX.out.put4 (ag _) _ _ _ _⟩
     ·have h14': ¬(14:Int)<j:=by omega
      have HR:=G (show fK (c::m)= .ok ((1,x,0),j) by rw[HT.out,hk,if_neg (by simp),if_neg h14]);clear hk HT
      go_wp2_with (first
       |(go_at_call 95;refine(HI.out _).mono ?_;rintro e w' ⟨rfl,rfl⟩)
       |(go_at_call 94;refine(HK.out _).mono ?_;rintro e w1 ⟨rfl,hE⟩;have HB:=G (HB0.out.ext hE);have HX:=G (HX0.out.trans hE);clear hE;have hbc:=HB.out.cell;have hbf:=HB.out.frozen))
      have hset:=(HB.out.put4 (.int .i64 1) (.string (ae x)) (.int .i64 0) (.int .i64 0)).cell;exact bodyPost_ret (v:=aY (.ok ((1,x,0),j))) (by first|(simp[results,results55,go_sem,aY,hset];done)|(simp[results,results55,go_sem,aY,hset];rfl)) rfl ⟨by rw[HR.out],HX.out.put4 (ag _) _ _ _ _⟩
  ·have hlt': ¬(j:Int)<m.length+1:=by omega
   have HI:=G (jf 0);have hn:=kQ HJ.out hlt;have HT:=G (nG (c::m) hn rfl);have hex:=bR (c::m) 0 j;simp only[ap]at hex;have HK:=G (js ((c::m).take j));generalize (c::m).take j=x at*;clear hn
   cases hk:nB x with
   |true=>
    rw[hk]at HK;have HR:=G (show fK (c::m)= .ok ((2,x,0),j) by rw[HT.out,hk,if_pos rfl]);clear hk HT
    go_wp2_with (first
      |(go_at_call 95;refine(HI.out _).mono ?_;rintro e w' ⟨rfl,rfl⟩)
      |(go_at_call 94;refine(HK.out _).mono ?_;rintro e w1 ⟨rfl,hE⟩;have HB:=G (HB0.out.ext hE);have HX:=G (HX0.out.trans hE);clear hE;have hbc:=HB.out.cell;have hbf:=HB.out.frozen))
    have hset:=(HB.out.put4 (.int .i64 2) (.string (ae x)) (.int .i64 0) (.int .i64 0)).cell;exact bodyPost_ret (v:=aY (.ok ((2,x,0),j))) (by first|(simp[results,results55,go_sem,aY,hset];done)|(simp[results,results55,go_sem,aY,hset];rfl)) rfl ⟨by rw[HR.out],HX.out.put4 (ag _) _ _ _ _⟩
   |false=>
    rw[hk]at HK;by_cases h14:14<j
    ·have h14':(14:Int)<j:=by omega
     have HR:=G (show fK (c::m)= .error 6 by rw[HT.out,hk,if_neg (by simp),if_pos h14]);clear hk HT
     go_wp2_with (first
      |(go_at_call 95;refine(HI.out _).mono ?_;rintro e w' ⟨rfl,rfl⟩)
      |(go_at_call 94;refine(HK.out _).mono ?_;rintro e w1 ⟨rfl,hE⟩;have HB:=G (HB0.out.ext hE);have HX:=G (HX0.out.trans hE);clear hE;have hbc:=HB.out.cell;have hbf:=HB.out.frozen))
     have hset:=(HB.out.put4 (.int .i64 0) (.string ⟨#[]⟩) (.int .i64 0) (.int .i64 0)).cell;exact bodyPost_ret (v:=aY (.error 6)) (by first|(simp[results,results55,go_sem,aY,hset];done)|(simp[results,results55,go_sem,aY,hset];rfl)) rfl ⟨by rw[HR.out],HX.out.put4 (ag _) _ _ _ _⟩
    ·have h14': ¬(14:Int)<j:=by omega
     have HR:=G (show fK (c::m)= .ok ((1,x,0),j) by rw[HT.out,hk,if_neg (by simp),if_neg h14]);clear hk HT
     go_wp2_with (first
      |(go_at_call 95;refine(HI.out _).mono ?_;rintro e w' ⟨rfl,rfl⟩)
      |(go_at_call 94;refine(HK.out _).mono ?_;rintro e w1 ⟨rfl,hE⟩;have HB:=G (HB0.out.ext hE);have HX:=G (HX0.out.trans hE);clear hE;have hbc:=HB.out.cell;have hbf:=HB.out.frozen))
     have hset:=(HB.out.put4 (.int .i64 1) (.string (ae x)) (.int .i64 0) (.int .i64 0)).cell;exact bodyPost_ret (v:=aY (.ok ((1,x,0),j))) (by first|(simp[results,results55,go_sem,aY,hset];done)|(simp[results,results55,go_sem,aY,hset];rfl)) rfl ⟨by rw[HR.out],HX.out.put4 (ag _) _ _ _ _⟩
theorem ub (c:UInt8) (m:List UInt8) (hL:fd c=false) (hD:cX c=true) (hl:(c::m).length<=100000) (w:World):Calls prog 55 #[.string (ae (c::m))] w fun e w'=>e= .returned (aY (eP (c::m)))/\al w w':=by
 have hsz:(ae (c::m)).size=m.length+1:=by rw[aM];rfl
 have h0:0<(ae (c::m)).size:=by rw[hsz];omega
 have hg0:(ae (c::m))[0]=c:=rfl;have hl1:m.length<=99999:=by simpa using hl
 have HX0:=G (O w (.cells #[.int .i64 0, .string ⟨#[]⟩, .int .i64 0, .int .i64 0] 62));have HB0:=G (ai w 62 #[.int .i64 0, .string ⟨#[]⟩, .int .i64 0, .int .i64 0]);have HL:=G (e_ c);have HD:=G (fa c);obtain⟨k,s,v,n,e,hr⟩:=gg (eP (c::m));have HF:=G (p_ c m hD hl);rw[hr]at HF;have HR:=G hr;rw[hL]at HL;rw[hD]at HD;clear hL hD hr;go_enter func55,ntmps55
 go_wp2_with (first
   |(go_at_call 93;refine(HL.out _).mono ?_;rintro e w' ⟨rfl,rfl⟩)
   |(go_at_call 101;refine(HD.out _).mono ?_;rintro e w' ⟨rfl,rfl⟩)
   |(go_at_call 102;refine(HF.out _).mono ?_;rintro e' w1 ⟨rfl,hE⟩;have HB:=G (HB0.out.ext hE);have HX:=G (HX0.out.trans hE);clear hE;have hbc:=HB.out.cell;have hbf:=HB.out.frozen))
 have hset:=(HB.out.put4 (.int .i64 k) (.string s) (.int .i64 v) (.int .i64 0)).cell;exact bodyPost_ret (v:= .tuple #[.agg #[.int .i64 k, .string s, .int .i64 v, .int .i64 0], .int .i64 n, .int .i64 e]) (by first|(simp[results,results55,go_sem,hset];done)|(simp[results,results55,go_sem,hset];rfl)) rfl ⟨by rw[HR.out],HX.out.put4 (ag _) _ _ _ _⟩
end
section
open Go.RowKit
theorem wB {m:List UInt8}:(bI m).2=1/\(bI m).1=39↔m.head? =some 39:=by
 match m with
 | []=>simp[bI]
 |c::r=>
  constructor
  ·rintro⟨h1,h2⟩;simp only[bI]at h1 h2;split at h1
   ·cases h1
   ·rename_i q;rw[if_neg q]at h2;split at h1
    ·rename_i q2;rw[if_pos q2]at h2;have h2:c=39:=h2;rw[h2];rfl
    ·exfalso
     split at h1
     ·cases h1
     ·split at h1
      ·cases h1
      ·cases h1
  ·intro h;have h:c=39:=by simpa using h
   subst h;simp[bI]
theorem sM (c:UInt8) (m:List UInt8) (hL:fd c=false) (hD:cX c=false) (hb39:((c.toNat:Int)==39)=true) (hl:(c::m).length<=100000) (w:World):Calls prog 55 #[.string (ae (c::m))] w fun e w'=>e= .returned (aY (ff (c::m)))/\al w w':=by
 have hsz:(ae (c::m)).size=m.length+1:=by rw[aM];rfl
 have h0:0<(ae (c::m)).size:=by rw[hsz];omega
 have hg0:(ae (c::m))[0]=c:=rfl;have hl1:m.length<=99999:=by simpa using hl
 have HX0:=G (O w (.cells #[.int .i64 0, .string ⟨#[]⟩, .int .i64 0, .int .i64 0] 62));have HB0:=G (ai w 62 #[.int .i64 0, .string ⟨#[]⟩, .int .i64 0, .int .i64 0]);have HL:=G (e_ c);have HD:=G (fa c);rw[hL]at HL;rw[hD]at HD;clear hL hD;have hex:(ae (c::m)).extract 1 (m.length+1)=ae m:=by
  have:=bR (c::m) 1 (m.length+1);rw[aK (by simp)]at this;exact this
 have HEL:=G (fun w=>nW m w (by omega));obtain⟨hle1,hle2⟩:=ij m;have HT:=G (oq c m);have H39:=G (wB (m:=m));generalize hv:(bI m).1=v at*;generalize hn:(bI m).2=n at*;have hvb:=v.toNat_lt;have hvb':(v.toNat:Int)<256:=by omega
 clear hv hn;go_enter func55,ntmps55;by_cases hn0:n=0
 ·have HR:=G (show ff (c::m)= .error 3 by rw[HT.out,if_pos (.inl hn0)]);subst hn0;clear HT H39
  go_wp2_with (first
   |(go_at_call 93;refine(HL.out _).mono ?_;rintro e w' ⟨rfl,rfl⟩)
   |(go_at_call 101;refine(HD.out _).mono ?_;rintro e w' ⟨rfl,rfl⟩)
   |(go_at_call 103;refine(HEL.out _).mono ?_;rintro e w1 ⟨rfl,hE⟩;have HB:=G (HB0.out.ext hE);have HX:=G (HX0.out.trans hE);clear hE;have hbc:=HB.out.cell;have hbf:=HB.out.frozen))
  have hset:=(HB.out.put4 (.int .i64 0) (.string ⟨#[]⟩) (.int .i64 0) (.int .i64 0)).cell;exact bodyPost_ret (v:=aY (.error 3)) (by first|(simp[results,results55,go_sem,aY,hset];done)|(simp[results,results55,go_sem,aY,hset];rfl)) rfl ⟨by rw[HR.out],HX.out.put4 (ag _) _ _ _ _⟩
 ·have hnb:((n:Int)==0)=false:=by simp[hn0]
  by_cases hn1:n=1
  ·have hnb1:((n:Int)==1)=true:=by simp[hn1]
   by_cases hv39:v=39
   ·have HR:=G (show ff (c::m)= .error 3 by rw[HT.out,if_pos (.inr (.inl (H39.out.1 ⟨hn1,hv39⟩)))]);have hvb39:((v.toNat:Int)==39)=true:=by rw[hv39];rfl
    clear HT H39 hv39 hn1
    go_wp2_with (first
   |(go_at_call 93;refine(HL.out _).mono ?_;rintro e w' ⟨rfl,rfl⟩)
   |(go_at_call 101;refine(HD.out _).mono ?_;rintro e w' ⟨rfl,rfl⟩)
   |(go_at_call 103;refine(HEL.out _).mono ?_;rintro e w1 ⟨rfl,hE⟩;have HB:=G (HB0.out.ext hE);have HX:=G (HX0.out.trans hE);clear hE;have hbc:=HB.out.cell;have hbf:=HB.out.frozen))
    have hset:=(HB.out.put4 (.int .i64 0) (.string ⟨#[]⟩) (.int .i64 0) (.int .i64 0)).cell;exact bodyPost_ret (v:=aY (.error 3)) (by first|(simp[results,results55,go_sem,aY,hset];done)|(simp[results,results55,go_sem,aY,hset];rfl)) rfl ⟨by rw[HR.out],HX.out.put4 (ag _) _ _ _ _⟩
   ·have hvb39:((v.toNat:Int)==39)=false:=(bQ v 39 (by omega)).trans (beq_eq_false_iff_ne.2 hv39);by_cases hlt:n<m.length
    ·have hlt': ¬(m.length:Int)+1<(n:Int)+2:=by omega
     have hns:n+1<(ae (c::m)).size:=by rw[hsz];omega
     have hg:(ae (c::m))[n+1]=m[n]'hlt:=rfl;by_cases hd39:m[n]'hlt=39
     ·have HR:=G (show ff (c::m)= .ok ((3,[],(v.toNat:Int)),n+2) by rw[HT.out,if_neg (by rintro(h|h|h);exact hn0 h;exact(fun h=>hv39 (H39.out.2 h).2) h;exact h (by rw[gk _ _ hlt,hd39]))]);rw[hd39]at hg;clear hd39;clear HT H39 hv39 hn1
      go_wp2_with (first
   |(go_at_call 93;refine(HL.out _).mono ?_;rintro e w' ⟨rfl,rfl⟩)
   |(go_at_call 101;refine(HD.out _).mono ?_;rintro e w' ⟨rfl,rfl⟩)
   |(go_at_call 103;refine(HEL.out _).mono ?_;rintro e w1 ⟨rfl,hE⟩;have HB:=G (HB0.out.ext hE);have HX:=G (HX0.out.trans hE);clear hE;have hbc:=HB.out.cell;have hbf:=HB.out.frozen))
      have hset:=(HB.out.put4 (.int .i64 3) (.string ⟨#[]⟩) (.int .i64 (v.toNat:Int)) (.int .i64 0)).cell;exact bodyPost_ret (v:=aY (.ok ((3,[],(v.toNat:Int)),n+2))) (by first|(simp[results,results55,go_sem,aY,hset];done)|(simp[results,results55,go_sem,aY,hset];rfl)) rfl ⟨by rw[HR.out],HX.out.put4 (ag _) _ _ _ _⟩
     ·have HR:=G (show ff (c::m)= .error 3 by rw[HT.out,if_pos (.inr (.inr (by rw[gk _ _ hlt];intro h;exact hd39 (M h))))]);have hb:((m[n].toNat:Int)==39)=false:=(bQ m[n] 39 (by omega)).trans (beq_eq_false_iff_ne.2 hd39);have hbn:((m[n].toNat:Int) !=39)=true:=by rw[bne,hb];rfl
      generalize m[n]'hlt=d at*;clear hd39;clear HT H39 hv39 hn1
      go_wp2_with (first
   |(go_at_call 93;refine(HL.out _).mono ?_;rintro e w' ⟨rfl,rfl⟩)
   |(go_at_call 101;refine(HD.out _).mono ?_;rintro e w' ⟨rfl,rfl⟩)
   |(go_at_call 103;refine(HEL.out _).mono ?_;rintro e w1 ⟨rfl,hE⟩;have HB:=G (HB0.out.ext hE);have HX:=G (HX0.out.trans hE);clear hE;have hbc:=HB.out.cell;have hbf:=HB.out.frozen))
      have hset:=(HB.out.put4 (.int .i64 0) (.string ⟨#[]⟩) (.int .i64 0) (.int .i64 0)).cell;exact bodyPost_ret (v:=aY (.error 3)) (by first|(simp[results,results55,go_sem,aY,hset];done)|(simp[results,results55,go_sem,aY,hset];rfl)) rfl ⟨by rw[HR.out],HX.out.put4 (ag _) _ _ _ _⟩
    ·have hlt':(m.length:Int)+1<(n:Int)+2:=by omega
     have HR:=G (show ff (c::m)= .error 3 by rw[HT.out,if_pos (.inr (.inr (by rw[ii _ _ (by omega)];intro h;cases h)))]);clear HT H39 hv39 hn1
     go_wp2_with (first
   |(go_at_call 93;refine(HL.out _).mono ?_;rintro e w' ⟨rfl,rfl⟩)
   |(go_at_call 101;refine(HD.out _).mono ?_;rintro e w' ⟨rfl,rfl⟩)
   |(go_at_call 103;refine(HEL.out _).mono ?_;rintro e w1 ⟨rfl,hE⟩;have HB:=G (HB0.out.ext hE);have HX:=G (HX0.out.trans hE);clear hE;have hbc:=HB.out.cell;have hbf:=HB.out.frozen))
     have hset:=(HB.out.put4 (.int .i64 0) (.string ⟨#[]⟩) (.int .i64 0) (.int .i64 0)).cell;exact bodyPost_ret (v:=aY (.error 3)) (by first|(simp[results,results55,go_sem,aY,hset];done)|(simp[results,results55,go_sem,aY,hset];rfl)) rfl ⟨by rw[HR.out],HX.out.put4 (ag _) _ _ _ _⟩
  ·have hnb1:((n:Int)==1)=false:=by simp;omega
   by_cases hlt:n<m.length
   ·have hlt': ¬(m.length:Int)+1<(n:Int)+2:=by omega
    have hns:n+1<(ae (c::m)).size:=by rw[hsz];omega
    have hg:(ae (c::m))[n+1]=m[n]'hlt:=rfl;by_cases hd39:m[n]'hlt=39
    ·have HR:=G (show ff (c::m)= .ok ((3,[],(v.toNat:Int)),n+2) by rw[HT.out,if_neg (by rintro(h|h|h);exact hn0 h;exact(fun h=>hn1 (H39.out.2 h).1) h;exact h (by rw[gk _ _ hlt,hd39]))]);rw[hd39]at hg;clear hd39;clear HT H39 hn1
     go_wp2_with (first
   |(go_at_call 93;refine(HL.out _).mono ?_;rintro e w' ⟨rfl,rfl⟩)
   |(go_at_call 101;refine(HD.out _).mono ?_;rintro e w' ⟨rfl,rfl⟩)
   |(go_at_call 103;refine(HEL.out _).mono ?_;rintro e w1 ⟨rfl,hE⟩;have HB:=G (HB0.out.ext hE);have HX:=G (HX0.out.trans hE);clear hE;have hbc:=HB.out.cell;have hbf:=HB.out.frozen))
     have hset:=(HB.out.put4 (.int .i64 3) (.string ⟨#[]⟩) (.int .i64 (v.toNat:Int)) (.int .i64 0)).cell;exact bodyPost_ret (v:=aY (.ok ((3,[],(v.toNat:Int)),n+2))) (by first|(simp[results,results55,go_sem,aY,hset];done)|(simp[results,results55,go_sem,aY,hset];rfl)) rfl ⟨by rw[HR.out],HX.out.put4 (ag _) _ _ _ _⟩
    ·have HR:=G (show ff (c::m)= .error 3 by rw[HT.out,if_pos (.inr (.inr (by rw[gk _ _ hlt];intro h;exact hd39 (M h))))]);have hb:((m[n].toNat:Int)==39)=false:=(bQ m[n] 39 (by omega)).trans (beq_eq_false_iff_ne.2 hd39);have hbn:((m[n].toNat:Int) !=39)=true:=by rw[bne,hb];rfl
     generalize m[n]'hlt=d at*;clear hd39;clear HT H39 hn1
     go_wp2_with (first
   |(go_at_call 93;refine(HL.out _).mono ?_;rintro e w' ⟨rfl,rfl⟩)
   |(go_at_call 101;refine(HD.out _).mono ?_;rintro e w' ⟨rfl,rfl⟩)
   |(go_at_call 103;refine(HEL.out _).mono ?_;rintro e w1 ⟨rfl,hE⟩;have HB:=G (HB0.out.ext hE);have HX:=G (HX0.out.trans hE);clear hE;have hbc:=HB.out.cell;have hbf:=HB.out.frozen))
     have hset:=(HB.out.put4 (.int .i64 0) (.string ⟨#[]⟩) (.int .i64 0) (.int .i64 0)).cell;exact bodyPost_ret (v:=aY (.error 3)) (by first|(simp[results,results55,go_sem,aY,hset];done)|(simp[results,results55,go_sem,aY,hset];rfl)) rfl ⟨by rw[HR.out],HX.out.put4 (ag _) _ _ _ _⟩
   ·have hlt':(m.length:Int)+1<(n:Int)+2:=by omega
    have HR:=G (show ff (c::m)= .error 3 by rw[HT.out,if_pos (.inr (.inr (by rw[ii _ _ (by omega)];intro h;cases h)))]);clear HT H39 hn1
    go_wp2_with (first
   |(go_at_call 93;refine(HL.out _).mono ?_;rintro e w' ⟨rfl,rfl⟩)
   |(go_at_call 101;refine(HD.out _).mono ?_;rintro e w' ⟨rfl,rfl⟩)
   |(go_at_call 103;refine(HEL.out _).mono ?_;rintro e w1 ⟨rfl,hE⟩;have HB:=G (HB0.out.ext hE);have HX:=G (HX0.out.trans hE);clear hE;have hbc:=HB.out.cell;have hbf:=HB.out.frozen))
    have hset:=(HB.out.put4 (.int .i64 0) (.string ⟨#[]⟩) (.int .i64 0) (.int .i64 0)).cell;exact bodyPost_ret (v:=aY (.error 3)) (by first|(simp[results,results55,go_sem,aY,hset];done)|(simp[results,results55,go_sem,aY,hset];rfl)) rfl ⟨by rw[HR.out],HX.out.put4 (ag _) _ _ _ _⟩
theorem sH (c:UInt8) (m:List UInt8) (hL:fd c=false) (hD:cX c=false) (hb39:((c.toNat:Int)==39)=false) (hb34:((c.toNat:Int)==34)=true) (hl:(c::m).length<=100000) (w:World):Calls prog 55 #[.string (ae (c::m))] w fun e w'=>e= .returned (aY (gx (c::m)))/\al w w':=by
 have hsz:(ae (c::m)).size=m.length+1:=by rw[aM];rfl
 have h0:0<(ae (c::m)).size:=by rw[hsz];omega
 have hg0:(ae (c::m))[0]=c:=rfl;have hl1:m.length<=99999:=by simpa using hl
 have HX0:=G (O w (.cells #[.int .i64 0, .string ⟨#[]⟩, .int .i64 0, .int .i64 0] 62));have HB0:=G (ai w 62 #[.int .i64 0, .string ⟨#[]⟩, .int .i64 0, .int .i64 0]);have HL:=G (e_ c);have HD:=G (fa c);rw[hL]at HL;rw[hD]at HD;clear hL hD;have hex:(ae (c::m)).extract 1 (m.length+1)=ae m:=by
  have:=bR (c::m) 1 (m.length+1);rw[aK (by simp)]at this;exact this
 have HLT:=G (fun w=>ud m (by omega) w);have HT:=G (nL c m)
 cases hlit:f6 m with
 |none=>
  rw[hlit,show o6 none= .tuple #[.string ⟨#[]⟩, .int .i64 0]from rfl]at HLT;have HR:=G (show gx (c::m)= .error 3 by rw[HT.out,hlit]);clear HT hlit;go_enter func55,ntmps55
  go_wp2_with (first
   |(go_at_call 93;refine(HL.out _).mono ?_;rintro e w' ⟨rfl,rfl⟩)
   |(go_at_call 101;refine(HD.out _).mono ?_;rintro e w' ⟨rfl,rfl⟩)
   |(go_at_call 104;refine(HLT.out _).mono ?_;rintro e w1 ⟨rfl,hE⟩;have HB:=G (HB0.out.ext hE);have HX:=G (HX0.out.trans hE);clear hE;have hbc:=HB.out.cell;have hbf:=HB.out.frozen))
  have hset:=(HB.out.put4 (.int .i64 0) (.string ⟨#[]⟩) (.int .i64 0) (.int .i64 0)).cell;exact bodyPost_ret (v:=aY (.error 3)) (by first|(simp[results,results55,go_sem,aY,hset];done)|(simp[results,results55,go_sem,aY,hset];rfl)) rfl ⟨by rw[HR.out],HX.out.put4 (ag _) _ _ _ _⟩
 |some x=>
  obtain⟨t,k⟩:=x;obtain⟨hk1,hk2⟩:=mQ _ _ _ _ hlit;rw[hlit,show o6 (some (t,k))= .tuple #[.string (ae t), .int .i64 (k:Int)]from rfl]at HLT;have hkb:((k:Int)==0)=false:=by simp;omega
  have hts:(ae t).size=t.length:=aM t;by_cases h128:128<t.length
  ·have HR:=G (show gx (c::m)= .error 6 by rw[HT.out,hlit];simp only;rw[if_pos h128]);have h128':(128:Int)<t.length:=by omega
   clear HT hlit;go_enter func55,ntmps55
   go_wp2_with (first
   |(go_at_call 93;refine(HL.out _).mono ?_;rintro e w' ⟨rfl,rfl⟩)
   |(go_at_call 101;refine(HD.out _).mono ?_;rintro e w' ⟨rfl,rfl⟩)
   |(go_at_call 104;refine(HLT.out _).mono ?_;rintro e w1 ⟨rfl,hE⟩;have HB:=G (HB0.out.ext hE);have HX:=G (HX0.out.trans hE);clear hE;have hbc:=HB.out.cell;have hbf:=HB.out.frozen))
   have hset:=(HB.out.put4 (.int .i64 0) (.string ⟨#[]⟩) (.int .i64 0) (.int .i64 0)).cell;exact bodyPost_ret (v:=aY (.error 6)) (by first|(simp[results,results55,go_sem,aY,hset];done)|(simp[results,results55,go_sem,aY,hset];rfl)) rfl ⟨by rw[HR.out],HX.out.put4 (ag _) _ _ _ _⟩
  ·have HR:=G (show gx (c::m)= .ok ((4,t,0),k+1) by rw[HT.out,hlit];simp only;rw[if_neg h128]);have h128': ¬(128:Int)<t.length:=by omega
   clear HT hlit;go_enter func55,ntmps55
   go_wp2_with (first
   |(go_at_call 93;refine(HL.out _).mono ?_;rintro e w' ⟨rfl,rfl⟩)
   |(go_at_call 101;refine(HD.out _).mono ?_;rintro e w' ⟨rfl,rfl⟩)
   |(go_at_call 104;refine(HLT.out _).mono ?_;rintro e w1 ⟨rfl,hE⟩;have HB:=G (HB0.out.ext hE);have HX:=G (HX0.out.trans hE);clear hE;have hbc:=HB.out.cell;have hbf:=HB.out.frozen))
   have hset:=(HB.out.put4 (.int .i64 4) (.string (ae t)) (.int .i64 0) (.int .i64 0)).cell;exact bodyPost_ret (v:=aY (.ok ((4,t,0),k+1))) (by first|(simp[results,results55,go_sem,aY,hset];done)|(simp[results,results55,go_sem,aY,hset];rfl)) rfl ⟨by rw[HR.out],HX.out.put4 (ag _) _ _ _ _⟩
end
section
open Go.RowKit
theorem al.of_eq_alloc {w w':World} {x:Obj} (h:w.alloc x=w'):al w w':=by
 rw[<-h];exact O _ _
theorem Ss.new (w:World) (e:TypeId) (ls:List (List UInt8)):Ss (w.alloc (.cells (ls.map fun l=> .string (ae l)).toArray e)) (some ⟨w.heap.size,0,none⟩) ls.length ls:=
 ⟨ag _, .inr ⟨w.heap.size,0,rfl,by simp,fun i hi=>by
  rw[ak,(ai w e _).cell]
  simp[hi]⟩⟩
def jE:List (List UInt8):=lC.map fun c=>[c]
theorem uB (c:UInt8):mS jE [c]=lC.contains c:=by
 unfold mS jE;rw[db];simp
theorem tg (c:UInt8) (m:List UInt8):fA (c::m)=if mS two ((c::m).take 2)then .ok ((5,(c::m).take 2,0),2)else if mS jE [c]then .ok ((5,[c],0),1)else .error 3:=by
 rw[uB];rfl
theorem si (c:UInt8):mS two [c]=false:=by
 unfold mS;rw[iy];intro h;have: ∀t∈two,t.length=2:=by decide
 have:=this [c] (List.contains_iff_mem.1 h);simp at this
theorem sL (c:UInt8) (m:List UInt8) (hL:fd c=false) (hD:cX c=false) (hb39:((c.toNat:Int)==39)=false) (hb34:((c.toNat:Int)==34)=false) (hl:(c::m).length<=100000) (w:World):Calls prog 55 #[.string (ae (c::m))] w fun e w'=>e= .returned (aY (fA (c::m)))/\al w w':=by
 have hsz:(ae (c::m)).size=m.length+1:=by rw[aM];rfl
 have h0:0<(ae (c::m)).size:=by rw[hsz];omega
 have hg0:(ae (c::m))[0]=c:=rfl;have hl1:m.length<=99999:=by simpa using hl
 have HX0:=G (O w (.cells #[.int .i64 0, .string ⟨#[]⟩, .int .i64 0, .int .i64 0] 62));have HB0:=G (ai w 62 #[.int .i64 0, .string ⟨#[]⟩, .int .i64 0, .int .i64 0]);have HL:=G (e_ c);have HD:=G (fa c);rw[hL]at HL;rw[hD]at HD;clear hL hD;have hx1:(ae (c::m)).extract 0 1=ae [c]:=by rw[bR];rfl
 have HT:=G (tg c m)
 cases m with
 |nil=>
  have hsz1:(ae [c]).size=1:=aM [c];have H2:=G (si c);have HINS:=Ss.new (w.alloc (.cells #[.int .i64 0, .string ⟨#[]⟩, .int .i64 0, .int .i64 0] 62)) 9 jE;rw[aQ,show(jE.map fun l=>Value.string (ae l)).toArray= #[.string ⟨#[40]⟩, .string ⟨#[41]⟩, .string ⟨#[123]⟩, .string ⟨#[125]⟩, .string ⟨#[91]⟩, .string ⟨#[93]⟩, .string ⟨#[44]⟩, .string ⟨#[59]⟩, .string ⟨#[61]⟩, .string ⟨#[43]⟩, .string ⟨#[45]⟩, .string ⟨#[42]⟩, .string ⟨#[47]⟩, .string ⟨#[37]⟩, .string ⟨#[60]⟩, .string ⟨#[62]⟩, .string ⟨#[33]⟩]from rfl]at HINS;have HIN:Hid (Calls prog 105 #[.slice (some ⟨w.heap.size+1,0,none⟩) 17 17, .string (ae [c])] ((w.alloc (.cells #[.int .i64 0, .string ⟨#[]⟩, .int .i64 0, .int .i64 0] 62)).alloc (.cells #[.string ⟨#[40]⟩, .string ⟨#[41]⟩, .string ⟨#[123]⟩, .string ⟨#[125]⟩, .string ⟨#[91]⟩, .string ⟨#[93]⟩, .string ⟨#[44]⟩, .string ⟨#[59]⟩, .string ⟨#[61]⟩, .string ⟨#[43]⟩, .string ⟨#[45]⟩, .string ⟨#[42]⟩, .string ⟨#[47]⟩, .string ⟨#[37]⟩, .string ⟨#[60]⟩, .string ⟨#[62]⟩, .string ⟨#[33]⟩] 9)) fun e w'=>e= .returned (.bool (mS jE [c]))/\((w.alloc (.cells #[.int .i64 0, .string ⟨#[]⟩, .int .i64 0, .int .i64 0] 62)).alloc (.cells #[.string ⟨#[40]⟩, .string ⟨#[41]⟩, .string ⟨#[123]⟩, .string ⟨#[125]⟩, .string ⟨#[91]⟩, .string ⟨#[93]⟩, .string ⟨#[44]⟩, .string ⟨#[59]⟩, .string ⟨#[61]⟩, .string ⟨#[43]⟩, .string ⟨#[45]⟩, .string ⟨#[42]⟩, .string ⟨#[47]⟩, .string ⟨#[37]⟩, .string ⟨#[60]⟩, .string ⟨#[62]⟩, .string ⟨#[33]⟩] 9))=w'):=G (o_ _ 17 jE [c] _ HINS (by decide));clear HINS
  cases h1:mS jE [c]with
  |true=>
   have HR:=G (show fA [c]= .ok ((5,[c],0),1) by rw[HT.out,show([c]:List UInt8).take 2=[c]from rfl,H2.out,if_neg (by simp),h1,if_pos rfl]);rw[h1]at HIN;clear h1 HT;go_enter func55,ntmps55
   go_wp2_with (first
   |(go_at_call 93;refine(HL.out _).mono ?_;rintro e w' ⟨rfl,rfl⟩)
   |(go_at_call 101;refine(HD.out _).mono ?_;rintro e w' ⟨rfl,rfl⟩)
   |(go_at_call 105;refine(HIN.out).mono ?_;rintro e w1 ⟨rfl,hw⟩;have hE:al (w.alloc (.cells #[.int .i64 0, .string ⟨#[]⟩, .int .i64 0, .int .i64 0] 62)) w1:=al.of_eq_alloc hw;clear hw HIN;have HB:=G (HB0.out.ext hE);have HX:=G (HX0.out.trans hE);clear hE;have hbc:=HB.out.cell;have hbf:=HB.out.frozen))
   have hset:=(HB.out.put4 (.int .i64 5) (.string (ae [c])) (.int .i64 0) (.int .i64 0)).cell;exact bodyPost_ret (v:=aY (.ok ((5,[c],0),1))) (by first|(simp[results,results55,go_sem,aY,hset];done)|(simp[results,results55,go_sem,aY,hset];rfl)) rfl ⟨by rw[HR.out],HX.out.put4 (ag _) _ _ _ _⟩
  |false=>
   have HR:=G (show fA [c]= .error 3 by rw[HT.out,show([c]:List UInt8).take 2=[c]from rfl,H2.out,if_neg (by simp),h1,if_neg (by simp)]);rw[h1]at HIN;clear h1 HT;go_enter func55,ntmps55
   go_wp2_with (first
   |(go_at_call 93;refine(HL.out _).mono ?_;rintro e w' ⟨rfl,rfl⟩)
   |(go_at_call 101;refine(HD.out _).mono ?_;rintro e w' ⟨rfl,rfl⟩)
   |(go_at_call 105;refine(HIN.out).mono ?_;rintro e w1 ⟨rfl,hw⟩;have hE:al (w.alloc (.cells #[.int .i64 0, .string ⟨#[]⟩, .int .i64 0, .int .i64 0] 62)) w1:=al.of_eq_alloc hw;clear hw HIN;have HB:=G (HB0.out.ext hE);have HX:=G (HX0.out.trans hE);clear hE;have hbc:=HB.out.cell;have hbf:=HB.out.frozen))
   have hset:=(HB.out.put4 (.int .i64 0) (.string ⟨#[]⟩) (.int .i64 0) (.int .i64 0)).cell;exact bodyPost_ret (v:=aY (.error 3)) (by first|(simp[results,results55,go_sem,aY,hset];done)|(simp[results,results55,go_sem,aY,hset];rfl)) rfl ⟨by rw[HR.out],HX.out.put4 (ag _) _ _ _ _⟩
 |cons d r=>
  have hx2:(ae (c::d::r)).extract 0 2=ae [c,d]:=by rw[bR];rfl
  have hlr:(1:Int)<r.length+1+1:=by omega
  have HINS:=Ss.new (w.alloc (.cells #[.int .i64 0, .string ⟨#[]⟩, .int .i64 0, .int .i64 0] 62)) 9 two;rw[aQ,show(two.map fun l=>Value.string (ae l)).toArray= #[.string ⟨#[61,61]⟩, .string ⟨#[33,61]⟩, .string ⟨#[60,61]⟩, .string ⟨#[62,61]⟩, .string ⟨#[38,38]⟩, .string ⟨#[124,124]⟩]from rfl]at HINS;have HIN:Hid (Calls prog 105 #[.slice (some ⟨w.heap.size+1,0,none⟩) 6 6, .string (ae [c,d])] ((w.alloc (.cells #[.int .i64 0, .string ⟨#[]⟩, .int .i64 0, .int .i64 0] 62)).alloc (.cells #[.string ⟨#[61,61]⟩, .string ⟨#[33,61]⟩, .string ⟨#[60,61]⟩, .string ⟨#[62,61]⟩, .string ⟨#[38,38]⟩, .string ⟨#[124,124]⟩] 9)) fun e w'=>e= .returned (.bool (mS two [c,d]))/\((w.alloc (.cells #[.int .i64 0, .string ⟨#[]⟩, .int .i64 0, .int .i64 0] 62)).alloc (.cells #[.string ⟨#[61,61]⟩, .string ⟨#[33,61]⟩, .string ⟨#[60,61]⟩, .string ⟨#[62,61]⟩, .string ⟨#[38,38]⟩, .string ⟨#[124,124]⟩] 9))=w'):=G (o_ _ 6 two [c,d] _ HINS (by decide));clear HINS
  cases h2:mS two [c,d]with
  |true=>
   have HR:=G (show fA (c::d::r)= .ok ((5,[c,d],0),2) by rw[HT.out,show(c::d::r).take 2=[c,d]from rfl,h2,if_pos rfl]);rw[h2]at HIN;clear h2 HT;go_enter func55,ntmps55
   go_wp2_with (first
   |(go_at_call 93;refine(HL.out _).mono ?_;rintro e w' ⟨rfl,rfl⟩)
   |(go_at_call 101;refine(HD.out _).mono ?_;rintro e w' ⟨rfl,rfl⟩)
   |(go_at_call 105;refine(HIN.out).mono ?_;rintro e w1 ⟨rfl,hw⟩;have hE:al (w.alloc (.cells #[.int .i64 0, .string ⟨#[]⟩, .int .i64 0, .int .i64 0] 62)) w1:=al.of_eq_alloc hw;clear hw HIN;have HB:=G (HB0.out.ext hE);have HX:=G (HX0.out.trans hE);clear hE;have hbc:=HB.out.cell;have hbf:=HB.out.frozen))
   have hset:=(HB.out.put4 (.int .i64 5) (.string (ae [c,d])) (.int .i64 0) (.int .i64 0)).cell;exact bodyPost_ret (v:=aY (.ok ((5,[c,d],0),2))) (by first|(simp[results,results55,go_sem,aY,hset];done)|(simp[results,results55,go_sem,aY,hset];rfl)) rfl ⟨by rw[HR.out],HX.out.put4 (ag _) _ _ _ _⟩
  |false=>
   have HIN2:Hid (∀w1:World,Calls prog 105 #[.slice (some ⟨w1.heap.size,0,none⟩) 17 17, .string (ae [c])] (w1.alloc (.cells #[.string ⟨#[40]⟩, .string ⟨#[41]⟩, .string ⟨#[123]⟩, .string ⟨#[125]⟩, .string ⟨#[91]⟩, .string ⟨#[93]⟩, .string ⟨#[44]⟩, .string ⟨#[59]⟩, .string ⟨#[61]⟩, .string ⟨#[43]⟩, .string ⟨#[45]⟩, .string ⟨#[42]⟩, .string ⟨#[47]⟩, .string ⟨#[37]⟩, .string ⟨#[60]⟩, .string ⟨#[62]⟩, .string ⟨#[33]⟩] 9)) fun e w'=>e= .returned (.bool (mS jE [c]))/\(w1.alloc (.cells #[.string ⟨#[40]⟩, .string ⟨#[41]⟩, .string ⟨#[123]⟩, .string ⟨#[125]⟩, .string ⟨#[91]⟩, .string ⟨#[93]⟩, .string ⟨#[44]⟩, .string ⟨#[59]⟩, .string ⟨#[61]⟩, .string ⟨#[43]⟩, .string ⟨#[45]⟩, .string ⟨#[42]⟩, .string ⟨#[47]⟩, .string ⟨#[37]⟩, .string ⟨#[60]⟩, .string ⟨#[62]⟩, .string ⟨#[33]⟩] 9))=w'):=G (fun w1=>o_ _ 17 jE [c] _ (Ss.new w1 9 jE) (by decide));rw[h2]at HIN
   cases h1:mS jE [c]with
   |true=>
    have HR:=G (show fA (c::d::r)= .ok ((5,[c],0),1) by rw[HT.out,show(c::d::r).take 2=[c,d]from rfl,h2,if_neg (by simp),h1,if_pos rfl]);rw[h1]at HIN2;clear h2 h1 HT;go_enter func55,ntmps55
    go_wp2_with (first
   |(go_at_call 93;refine(HL.out _).mono ?_;rintro e w' ⟨rfl,rfl⟩)
   |(go_at_call 101;refine(HD.out _).mono ?_;rintro e w' ⟨rfl,rfl⟩)
   |(go_at_call 105;refine(HIN.out).mono ?_;rintro e w1 ⟨rfl,hw⟩;have hE:al (w.alloc (.cells #[.int .i64 0, .string ⟨#[]⟩, .int .i64 0, .int .i64 0] 62)) w1:=al.of_eq_alloc hw;clear hw HIN;have HB:=G (HB0.out.ext hE);have HX:=G (HX0.out.trans hE);clear hE;have hbc:=HB.out.cell;have hbf:=HB.out.frozen)
   |(go_at_call 105;refine(HIN2.out _).mono ?_;rintro e w2 ⟨rfl,hw⟩;have hE:al w1 w2:=al.of_eq_alloc hw;clear hw;have HB2:=G (HB.out.ext hE);have HX2:=G (HX.out.trans hE);clear hE HB HX hbc hbf;have HB:=G HB2.out;have HX:=G HX2.out;have hbc:=HB.out.cell;have hbf:=HB.out.frozen))
    have hset:=(HB.out.put4 (.int .i64 5) (.string (ae [c])) (.int .i64 0) (.int .i64 0)).cell;exact bodyPost_ret (v:=aY (.ok ((5,[c],0),1))) (by first|(simp[results,results55,go_sem,aY,hset];done)|(simp[results,results55,go_sem,aY,hset];rfl)) rfl ⟨by rw[HR.out],HX.out.put4 (ag _) _ _ _ _⟩
   |false=>
    have HR:=G (show fA (c::d::r)= .error 3 by rw[HT.out,show(c::d::r).take 2=[c,d]from rfl,h2,if_neg (by simp),h1,if_neg (by simp)]);rw[h1]at HIN2;clear h2 h1 HT;go_enter func55,ntmps55
    go_wp2_with (first
   |(go_at_call 93;refine(HL.out _).mono ?_;rintro e w' ⟨rfl,rfl⟩)
   |(go_at_call 101;refine(HD.out _).mono ?_;rintro e w' ⟨rfl,rfl⟩)
   |(go_at_call 105;refine(HIN.out).mono ?_;rintro e w1 ⟨rfl,hw⟩;have hE:al (w.alloc (.cells #[.int .i64 0, .string ⟨#[]⟩, .int .i64 0, .int .i64 0] 62)) w1:=al.of_eq_alloc hw;clear hw HIN;have HB:=G (HB0.out.ext hE);have HX:=G (HX0.out.trans hE);clear hE;have hbc:=HB.out.cell;have hbf:=HB.out.frozen)
   |(go_at_call 105;refine(HIN2.out _).mono ?_;rintro e w2 ⟨rfl,hw⟩;have hE:al w1 w2:=al.of_eq_alloc hw;clear hw;have HB2:=G (HB.out.ext hE);have HX2:=G (HX.out.trans hE);clear hE HB HX hbc hbf;have HB:=G HB2.out;have HX:=G HX2.out;have hbc:=HB.out.cell;have hbf:=HB.out.frozen))
    have hset:=(HB.out.put4 (.int .i64 0) (.string ⟨#[]⟩) (.int .i64 0) (.int .i64 0)).cell;exact bodyPost_ret (v:=aY (.error 3)) (by first|(simp[results,results55,go_sem,aY,hset];done)|(simp[results,results55,go_sem,aY,hset];rfl)) rfl ⟨by rw[HR.out],HX.out.put4 (ag _) _ _ _ _⟩
end
section
open Go.RowKit
theorem qY (c:UInt8) (m:List UInt8) (hl:(c::m).length<=100000) (w:World):Calls prog 55 #[.string (ae (c::m))] w fun e w'=>e= .returned (aY (jn (c::m)))/\al w w':=by
 rw[pN]
 cases hL:fd c with
 |true=>exact sG c m hL hl w
 |false=>
  cases hD:cX c with
  |true=>exact ub c m hL hD hl w
  |false=>
   rw[if_neg (by simp),if_neg (by simp)];by_cases h39:c=39
   ·rw[if_pos h39];exact sM c m hL hD (by rw[h39];rfl) hl w
   ·have hb39:((c.toNat:Int)==39)=false:=(bQ c 39 (by omega)).trans (beq_eq_false_iff_ne.2 h39);rw[if_neg h39];by_cases h34:c=34
    ·rw[if_pos h34];exact sH c m hL hD hb39 (by rw[h34];rfl) hl w
    ·rw[if_neg h34];exact sL c m hL hD hb39 ((bQ c 34 (by omega)).trans (beq_eq_false_iff_ne.2 h34)) hl w
theorem lS (l:List UInt8) (hl:l.length<=100000) (w:World):Calls prog 25 #[.string (ae l)] w fun e w'=>py 62 w.heap.size (fz l) e w'/\al w w':=by
 have hsz:(ae l).size=l.length:=aM l;have HRb:=G (lw l);have HRo:=G (pM l);have HRe:=G (nK l);by_cases hbig:4000<l.length
 ·have hbig':(4000:Int)<l.length:=by omega
  go_enter func25,ntmps25;go_wp2_with fail;exact bodyPost_ret (v:= .tuple #[.slice none 0 0, .int .i64 4000, .int .i64 6]) (by simp[results,results25,go_sem]) rfl ⟨by rw[HRb.out hbig];exact⟨none,0,rfl,lN _ _ _⟩,aG _⟩
 ·have hbig': ¬(4000:Int)<l.length:=by omega
  have HSK:=G (fun w=>pV l hl 0 (aB _) w);obtain⟨q0,hq0⟩: ∃q,q=0+bY false (l.drop 0):=⟨_,rfl⟩
  rw[<-hq0]at HSK;have HQ0:=G hq0;have hq0l:q0<=l.length:=by have:=ib false (l.drop 0);rw[hq0];rw[aZ]at this;omega
  clear hq0;go_enter func25,ntmps25;go_wp2_with (go_at_call 54;refine(HSK.out _).mono ?_;rintro e' w' ⟨rfl,rfl⟩)
  go_loopw [5,6] (fun vb vq wr=> ∃(B:Option Addr) (cap:Nat) (ts:List bB) (p f q:Nat),vb= .slice B ts.length cap/\fx wr w.heap.size 62 (.slice B ts.length cap) ts/\vq= .int .i64 (q:Int)/\q<=l.length/\p<=q/\ts.length<=p/\l.length+1<=f+p/\
   Hid (q=p+bY false (l.drop p))/\Hid (lx l=jS ts (ga f (l.drop p) p))/\al w wr) (fun _ vq _=>l.length+1-(intOf vq).toNat)
  case atStart=>exact⟨none,0,[],0,l.length+1,q0,rfl,lN _ _ _,rfl,hq0l,aB _,ag _,by omega,HQ0,G (mr l),aG _⟩
  case round=>
   obtain⟨B,cap,ts,p,f,q,rfl,hown,rfl,hql,hpq,htp,hfp,HQ,HJ,hx⟩:=hrel;clear HSK HQ0 hq0l;obtain⟨f,rfl⟩: ∃g,f=g+1:=⟨f-1,by omega⟩
   have HO:=G hown;have HX:=G hx;clear hown hx;have hqs:q<=(ae l).size:=by rw[hsz];exact hql
   by_cases hlt:q<l.length
   ·have hlt':(q:Int)<l.length:=by omega
    have hexq:(ae l).extract q l.length=ae (l.drop q):=by
     have:=bR l q l.length;rw[aK (ag _)]at this;exact this
    obtain⟨c,r,hcr⟩: ∃c r,l.drop q=c::r:=by
     cases h:l.drop q with
     |nil=>have:=congrArg List.length h;rw[aZ]at this;simp at this;omega
     |cons c r=>exact⟨c,r,rfl⟩
    have hlr:(c::r).length=l.length-q:=by rw[<-hcr,aZ]
    rw[hcr]at hexq;have HTK:=G (fun w=>qY c r (by omega) w)
    cases ht:jn (c::r)with
    |error e=>
     have HT:=G (pK HJ.out HQ.out hcr ht);have he:e=3\/e=2\/e=6:=pO ht;rw[ht]at HTK;have htv:aY (.error e)= .tuple #[.agg #[.int .i64 0, .string ⟨#[]⟩, .int .i64 0, .int .i64 0], .int .i64 0, .int .i64 e]:=rfl;rw[htv]at HTK;have hne: ¬e=0:=by omega
     have hne2:(e==0)=false:=by simp[hne]
     clear HJ ht hcr htv he;go_wp2_with (go_at_call 55;refine(HTK.out _).mono ?_;rintro e' w1 ⟨rfl,hE⟩;have HE:=G (HX.out.trans hE);clear hE);exact bodyPost_ret (v:= .tuple #[.slice none 0 0, .int .i64 q, .int .i64 e]) (by simp[results,results25,go_sem]) rfl ⟨by rw[HRe.out _ _ hbig HT.out];exact⟨none,0,rfl,lN _ _ _⟩,HE.out.alloc' _⟩
    |ok y=>
     obtain⟨⟨k,t,v⟩,n⟩:=y;have HT:=G (nJ HJ.out HQ.out hcr ht);obtain⟨hn1,hn2⟩:=kP ht;rw[ht]at HTK;have htv:aY (.ok ((k,t,v),n))= .tuple #[.agg #[.int .i64 k, .string (ae t), .int .i64 v, .int .i64 0], .int .i64 (n:Int), .int .i64 0]:=rfl;rw[htv]at HTK;have hqn:q+n<=l.length:=by omega
     have HSK:=G (fun w=>pV l hl (q+n) hqn w);obtain⟨q1,hq1⟩: ∃q',q'=(q+n)+bY false (l.drop (q+n)):=⟨_,rfl⟩
     rw[<-hq1]at HSK;have hq1l:q1<=l.length:=by have:=ib false (l.drop (q+n));rw[hq1];rw[aZ]at this;omega
     have hq1g:q+n<=q1:=by omega
     have HQ1:=G hq1;have hqc:((q+n:Nat):Int)=(q:Int)+(n:Int):=by omega
     rw[hqc]at HSK;clear HJ ht hcr htv hq1 hqc
     go_wp2_with (first
      |(go_at_call 55;refine(HTK.out _).mono ?_;rintro e' w1 ⟨rfl,hE⟩;have HE1:=G (HX.out.trans ((hE.alloc' (.cells #[.int .i64 k, .string (ae t), .int .i64 v, .int .i64 (q:Int)] 62)).alloc' (.cells #[.int .i64 k, .string (ae t), .int .i64 v, .int .i64 (q:Int)] 62)));have HO1:=G (HO.out.ext ((hE.alloc' (.cells #[.int .i64 k, .string (ae t), .int .i64 v, .int .i64 (q:Int)] 62)).alloc' (.cells #[.int .i64 k, .string (ae t), .int .i64 v, .int .i64 (q:Int)] 62)));have HG1:=G (rL w1 62 ⟨k,t,v,(q:Int)⟩);clear hE)
      |(go_at_call 54;refine(HSK.out _).mono ?_;rintro e' w' ⟨rfl,rfl⟩)
      |(at_builtin;refine jM Ac rfl _ _ rfl w.heap.size (.slice B ts.length cap) ts rfl HO1.out (w1.heap.size+1) ⟨k,t,v,(q:Int)⟩ rfl HG1.out (by omega) HE1.out.size ?_;intro A3 c3 w3 ho3 hg3 _;have HO3:=G ho3;have HG3:=G hg3;clear ho3 hg3))
     go_roundw
     case rel=>
      have hrow:=fun k hk=>(aJ HO1.out k hk).1;have hx3:=HE1.out.grown HG3.out (fun k hk=>by have:=hrow k hk;omega);refine⟨A3,c3,ts++[⟨k,t,v,(q:Int)⟩],q+n,f,q1,by rw[aa];rfl,?_,by go_num,hq1l,hq1g,by rw[aa];simp;omega,by omega,HQ1,HT,hx3⟩;rw[aa];exact HO3.out
     case measure=>simp[intOf];omega
   ·have HT:=G (pL HJ.out (by have:=HQ.out;omega));have hlt': ¬(q:Int)<l.length:=by omega
    clear HJ;go_wp2_with fail;exact bodyPost_ret (v:= .tuple #[.slice B ts.length cap, .int .i64 0, .int .i64 0]) (by simp[results,results25,go_sem]) rfl ⟨by rw[HRo.out _ hbig HT.out];exact⟨B,cap,rfl,HO.out⟩,HX.out⟩
end
end Go.Proofs.YtelplgkppalmfaaGreatDoor
