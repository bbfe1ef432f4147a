/-
  Parts of the proof: LexH LexI LexJ LexK.
-/
import Derived.Test.YtelplgkppalmfaaGreatDoorPs00
import Derived.Test.YtelplgkppalmfaaGreatDoorPs06
set_option maxRecDepth 100000
set_option maxHeartbeats 8000000
set_option linter.unusedVariables false
set_option linter.unusedSimpArgs false
set_option linter.defProp false
namespace Go.Proofs.YtelplgkppalmfaaGreatDoor
open Go.Proofs.Tryz
section
open Go.RowKit
theorem kX (c:UInt8) (m:List UInt8) {n:Nat} {x:List UInt8} (hn:bS cX (c::m)=n) (hx:(c::m).take n=x):eP (c::m)=if((c::m).drop n).head?.any c_ then .error 3 else if 10<n\/(1<n/\c=48)\/2147483647<gY x then .error 2 else .ok ((3,[],gY x),n):=by
 subst hn;subst hx;unfold eP;simp
theorem r6 (c:UInt8) (m:List UInt8) {n:Nat} (hle:n<=m.length+1) (hlt: ¬n<m.length+1):((c::m).drop n).head?.any c_=false:=by
 rw[bq (by simp;omega)];rfl
theorem uE (c:UInt8) (m:List UInt8) {n:Nat} (hlt:n<(c::m).length):((c::m).drop n).head?.any c_=c_ (c::m)[n]:=by
 rw[gk _ _ hlt];rfl
theorem rt (c:UInt8) (m:List UInt8) (hc:cX c=true) (hl:(c::m).length<=100000) (w:World) (hz:EZ w):Calls prog 111 #[.string (ae (c::m))] w fun e w'=>e= .returned (aY (eP (c::m)))/\al w w':=by
 have hsz:(ae (c::m)).size=m.length+1:=by rw[aM];rfl
 have h0:0<(ae (c::m)).size:=by rw[hsz];omega
 have hg0:(ae (c::m))[0]=c:=rfl;have hl1:m.length<=99999:=by simpa using hl
 have hle:bS cX (c::m)<=m.length+1:=eY cX (c::m);have hn1:1<=bS cX (c::m):=by simp[bS,hc]
 have hall:=nP cX (c::m);have hex:=bR (c::m) 0 (bS cX (c::m));simp only[ap]at hex;have HSP:=G (fun w=>pU cX 110 lH (.inr rfl) (c::m) hl w);have HTX:=fun x h=>G (kX c m (n:=bS cX (c::m)) (x:=x) rfl h);have HX0:=G (O w (.cells #[.int .i64 0, .string ⟨#[]⟩, .int .i64 0, .int .i64 0] 116));have HB0:=G (ai w 116 #[.int .i64 0, .string ⟨#[]⟩, .int .i64 0, .int .i64 0]);have hxne:(c::m).take (bS cX (c::m))≠ []:=by intro h;have:=congrArg List.length h;simp at this;omega
 have hxl:((c::m).take (bS cX (c::m))).length<=100000:=by have:=List.length_take_le' (bS cX (c::m)) (c::m);omega
 obtain⟨v,hv,HA⟩:=vA ((c::m).take (bS cX (c::m))) hxne hxl hall _ (hz.ext HX0.out);have HA:=G HA;have HT:=HTX _ rfl;clear HTX;generalize hn:bS cX (c::m)=n at*;generalize hx:(c::m).take n=x at*;clear hn hxne hall hxl hx;have hvr:v<=2147483647->v=gY x:=by omega
 have hvg:2147483647<v->2147483647<gY x:=by omega
 have hv1:v<=2147483647-> ¬2147483647<gY x:=by omega
 clear hv;by_cases hlt:n<m.length+1
 ·have hns:n<(ae (c::m)).size:=by rw[hsz];exact hlt
  have hg:(ae (c::m))[n]=(c::m)[n]'hlt:=rfl;have hH:=uE c m (n:=n) hlt;have HPT:=G (kV ((c::m)[n]'hlt));have hlt':(n:Int)<m.length+1:=by omega
  generalize (c::m)[n]'hlt=d at*
  cases hp:c_ d with
  |true=>
   rw[hp]at HPT hH;have HR:=G (show eP (c::m)= .error 3 by rw[HT.out,hH,if_pos rfl]);clear hH hp;clear HT hc hvr hvg hv1;go_enter func111,ntmps111
   go_wp2_with (first
    |(go_at_call 137;refine(HSP.out _).mono ?_;rintro e w' ⟨rfl,rfl⟩)
    |(go_at_call 138;refine HA.out.mono ?_;rintro e w1 ⟨⟨er,rfl⟩,hE⟩;have HB:=G (HB0.out.ext hE);have HX:=G (HX0.out.trans hE);clear hE;have hbc:=HB.out.cell;have hbf:=HB.out.frozen)
    |(go_at_call 74;refine(HPT.out _).mono ?_;rintro e w' ⟨rfl,rfl⟩))
   have hset:=(HB.out.put4 (.int .i64 0) (.string ⟨#[]⟩) (.int .i64 0) (.int .i64 0)).cell;exact bodyPost_ret (v:=aY (.error 3)) (by simp[results,results111,go_sem,aY,hset]) rfl ⟨by rw[HR.out],HX.out.put4 (ag _) _ _ _ _⟩
  |false=>
   rw[hp]at HPT hH;clear hp;by_cases hA:10<n
   ·have hA':(10:Int)<n:=by omega
    have HR:=G (show eP (c::m)= .error 2 by rw[HT.out,hH,if_neg (by simp),if_pos (.inl hA)]);clear hH;clear HT hc hvr hvg hv1;go_enter func111,ntmps111
    go_wp2_with (first
     |(go_at_call 137;refine(HSP.out _).mono ?_;rintro e w' ⟨rfl,rfl⟩)
     |(go_at_call 138;refine HA.out.mono ?_;rintro e w1 ⟨⟨er,rfl⟩,hE⟩;have HB:=G (HB0.out.ext hE);have HX:=G (HX0.out.trans hE);clear hE;have hbc:=HB.out.cell;have hbf:=HB.out.frozen)
     |(go_at_call 74;refine(HPT.out _).mono ?_;rintro e w' ⟨rfl,rfl⟩))
    have hset:=(HB.out.put4 (.int .i64 0) (.string ⟨#[]⟩) (.int .i64 0) (.int .i64 0)).cell;exact bodyPost_ret (v:=aY (.error 2)) (by simp[results,results111,go_sem,aY,hset]) rfl ⟨by rw[HR.out],HX.out.put4 (ag _) _ _ _ _⟩
   ·have hA': ¬(10:Int)<n:=by omega
    by_cases hB:1<n
    ·have hB':(1:Int)<n:=by omega
     by_cases hC:c=48
     ·have hC':((c.toNat:Int)==48)=true:=by rw[hC];rfl
      have HR:=G (show eP (c::m)= .error 2 by rw[HT.out,hH,if_neg (by simp),if_pos (.inr (.inl ⟨hB,hC⟩))]);clear hH hC;clear HT hc hvr hvg hv1;go_enter func111,ntmps111
      go_wp2_with (first
       |(go_at_call 137;refine(HSP.out _).mono ?_;rintro e w' ⟨rfl,rfl⟩)
       |(go_at_call 138;refine HA.out.mono ?_;rintro e w1 ⟨⟨er,rfl⟩,hE⟩;have HB:=G (HB0.out.ext hE);have HX:=G (HX0.out.trans hE);clear hE;have hbc:=HB.out.cell;have hbf:=HB.out.frozen)
       |(go_at_call 74;refine(HPT.out _).mono ?_;rintro e w' ⟨rfl,rfl⟩))
      have hset:=(HB.out.put4 (.int .i64 0) (.string ⟨#[]⟩) (.int .i64 0) (.int .i64 0)).cell;exact bodyPost_ret (v:=aY (.error 2)) (by simp[results,results111,go_sem,aY,hset]) rfl ⟨by rw[HR.out],HX.out.put4 (ag _) _ _ _ _⟩
     ·have hC':((c.toNat:Int)==48)=false:=(bQ c 48 (by omega)).trans (beq_eq_false_iff_ne.2 hC);by_cases hV:2147483647<v
      ·have HR:=G (show eP (c::m)= .error 2 by rw[HT.out,hH,if_neg (by simp),if_pos (.inr (.inr (hvg hV)))]);clear hH;clear hC;clear HT hc hvr hvg hv1;go_enter func111,ntmps111
       go_wp2_with (first
        |(go_at_call 137;refine(HSP.out _).mono ?_;rintro e w' ⟨rfl,rfl⟩)
        |(go_at_call 138;refine HA.out.mono ?_;rintro e w1 ⟨⟨er,rfl⟩,hE⟩;have HB:=G (HB0.out.ext hE);have HX:=G (HX0.out.trans hE);clear hE;have hbc:=HB.out.cell;have hbf:=HB.out.frozen)
        |(go_at_call 74;refine(HPT.out _).mono ?_;rintro e w' ⟨rfl,rfl⟩))
       have hset:=(HB.out.put4 (.int .i64 0) (.string ⟨#[]⟩) (.int .i64 0) (.int .i64 0)).cell;exact bodyPost_ret (v:=aY (.error 2)) (by simp[results,results111,go_sem,aY,hset]) rfl ⟨by rw[HR.out],HX.out.put4 (ag _) _ _ _ _⟩
      ·have HR:=G (show eP (c::m)= .ok ((3,[],v),n) by rw[HT.out,hH,if_neg (by simp),if_neg (by rintro(h|h|h);exact hA h;exact(fun h:1<n/\c=48=>hC h.2) h;exact hv1 (by omega) h),hvr (by omega)]);clear hH;clear hC;clear HT hc hvr hvg hv1;go_enter func111,ntmps111
       go_wp2_with (first
        |(go_at_call 137;refine(HSP.out _).mono ?_;rintro e w' ⟨rfl,rfl⟩)
        |(go_at_call 138;refine HA.out.mono ?_;rintro e w1 ⟨⟨er,rfl⟩,hE⟩;have HB:=G (HB0.out.ext hE);have HX:=G (HX0.out.trans hE);clear hE;have hbc:=HB.out.cell;have hbf:=HB.out.frozen)
        |(go_at_call 74;refine(HPT.out _).mono ?_;rintro e w' ⟨rfl,rfl⟩))
       have hset:=(HB.out.put4 (.int .i64 3) (.string ⟨#[]⟩) (.int .i64 v) (.int .i64 0)).cell;exact bodyPost_ret (v:=aY (.ok ((3,[],v),n))) (by simp[results,results111,go_sem,aY,hset];rfl) rfl ⟨by rw[HR.out],HX.out.put4 (ag _) _ _ _ _⟩
    ·have hB': ¬(1:Int)<n:=by omega
     by_cases hV:2147483647<v
     ·have HR:=G (show eP (c::m)= .error 2 by rw[HT.out,hH,if_neg (by simp),if_pos (.inr (.inr (hvg hV)))]);clear hH;clear HT hc hvr hvg hv1;go_enter func111,ntmps111
      go_wp2_with (first
       |(go_at_call 137;refine(HSP.out _).mono ?_;rintro e w' ⟨rfl,rfl⟩)
       |(go_at_call 138;refine HA.out.mono ?_;rintro e w1 ⟨⟨er,rfl⟩,hE⟩;have HB:=G (HB0.out.ext hE);have HX:=G (HX0.out.trans hE);clear hE;have hbc:=HB.out.cell;have hbf:=HB.out.frozen)
       |(go_at_call 74;refine(HPT.out _).mono ?_;rintro e w' ⟨rfl,rfl⟩))
      have hset:=(HB.out.put4 (.int .i64 0) (.string ⟨#[]⟩) (.int .i64 0) (.int .i64 0)).cell;exact bodyPost_ret (v:=aY (.error 2)) (by simp[results,results111,go_sem,aY,hset]) rfl ⟨by rw[HR.out],HX.out.put4 (ag _) _ _ _ _⟩
     ·have HR:=G (show eP (c::m)= .ok ((3,[],v),n) by rw[HT.out,hH,if_neg (by simp),if_neg (by rintro(h|h|h);exact hA h;exact(fun h:1<n/\c=48=>hB h.1) h;exact hv1 (by omega) h),hvr (by omega)]);clear hH;clear HT hc hvr hvg hv1;go_enter func111,ntmps111
      go_wp2_with (first
       |(go_at_call 137;refine(HSP.out _).mono ?_;rintro e w' ⟨rfl,rfl⟩)
       |(go_at_call 138;refine HA.out.mono ?_;rintro e w1 ⟨⟨er,rfl⟩,hE⟩;have HB:=G (HB0.out.ext hE);have HX:=G (HX0.out.trans hE);clear hE;have hbc:=HB.out.cell;have hbf:=HB.out.frozen)
       |(go_at_call 74;refine(HPT.out _).mono ?_;rintro e w' ⟨rfl,rfl⟩))
      have hset:=(HB.out.put4 (.int .i64 3) (.string ⟨#[]⟩) (.int .i64 v) (.int .i64 0)).cell;exact bodyPost_ret (v:=aY (.ok ((3,[],v),n))) (by simp[results,results111,go_sem,aY,hset];rfl) rfl ⟨by rw[HR.out],HX.out.put4 (ag _) _ _ _ _⟩
 ·have hlt': ¬(n:Int)<m.length+1:=by omega
  have hH:=r6 c m hle hlt;have HPT:=G (kV 0);by_cases hA:10<n
  ·have hA':(10:Int)<n:=by omega
   have HR:=G (show eP (c::m)= .error 2 by rw[HT.out,hH,if_neg (by simp),if_pos (.inl hA)]);clear hH;clear HT hc hvr hvg hv1;go_enter func111,ntmps111
   go_wp2_with (first
    |(go_at_call 137;refine(HSP.out _).mono ?_;rintro e w' ⟨rfl,rfl⟩)
    |(go_at_call 138;refine HA.out.mono ?_;rintro e w1 ⟨⟨er,rfl⟩,hE⟩;have HB:=G (HB0.out.ext hE);have HX:=G (HX0.out.trans hE);clear hE;have hbc:=HB.out.cell;have hbf:=HB.out.frozen)
    |(go_at_call 74;refine(HPT.out _).mono ?_;rintro e w' ⟨rfl,rfl⟩))
   have hset:=(HB.out.put4 (.int .i64 0) (.string ⟨#[]⟩) (.int .i64 0) (.int .i64 0)).cell;exact bodyPost_ret (v:=aY (.error 2)) (by simp[results,results111,go_sem,aY,hset]) rfl ⟨by rw[HR.out],HX.out.put4 (ag _) _ _ _ _⟩
  ·have hA': ¬(10:Int)<n:=by omega
   by_cases hB:1<n
   ·have hB':(1:Int)<n:=by omega
    by_cases hC:c=48
    ·have hC':((c.toNat:Int)==48)=true:=by rw[hC];rfl
     have HR:=G (show eP (c::m)= .error 2 by rw[HT.out,hH,if_neg (by simp),if_pos (.inr (.inl ⟨hB,hC⟩))]);clear hH hC;clear HT hc hvr hvg hv1;go_enter func111,ntmps111
     go_wp2_with (first
      |(go_at_call 137;refine(HSP.out _).mono ?_;rintro e w' ⟨rfl,rfl⟩)
      |(go_at_call 138;refine HA.out.mono ?_;rintro e w1 ⟨⟨er,rfl⟩,hE⟩;have HB:=G (HB0.out.ext hE);have HX:=G (HX0.out.trans hE);clear hE;have hbc:=HB.out.cell;have hbf:=HB.out.frozen)
      |(go_at_call 74;refine(HPT.out _).mono ?_;rintro e w' ⟨rfl,rfl⟩))
     have hset:=(HB.out.put4 (.int .i64 0) (.string ⟨#[]⟩) (.int .i64 0) (.int .i64 0)).cell;exact bodyPost_ret (v:=aY (.error 2)) (by simp[results,results111,go_sem,aY,hset]) rfl ⟨by rw[HR.out],HX.out.put4 (ag _) _ _ _ _⟩
    ·have hC':((c.toNat:Int)==48)=false:=(bQ c 48 (by omega)).trans (beq_eq_false_iff_ne.2 hC);by_cases hV:2147483647<v
     ·have HR:=G (show eP (c::m)= .error 2 by rw[HT.out,hH,if_neg (by simp),if_pos (.inr (.inr (hvg hV)))]);clear hH;clear hC;clear HT hc hvr hvg hv1;go_enter func111,ntmps111
      go_wp2_with (first
       |(go_at_call 137;refine(HSP.out _).mono ?_;rintro e w' ⟨rfl,rfl⟩)
       |(go_at_call 138;refine HA.out.mono ?_;rintro e w1 ⟨⟨er,rfl⟩,hE⟩;have HB:=G (HB0.out.ext hE);have HX:=G (HX0.out.trans hE);clear hE;have hbc:=HB.out.cell;have hbf:=HB.out.frozen)
       |(go_at_call 74;refine(HPT.out _).mono ?_;rintro e w' ⟨rfl,rfl⟩))
      have hset:=(HB.out.put4 (.int .i64 0) (.string ⟨#[]⟩) (.int .i64 0) (.int .i64 0)).cell;exact bodyPost_ret (v:=aY (.error 2)) (by simp[results,results111,go_sem,aY,hset]) rfl ⟨by rw[HR.out],HX.out.put4 (ag _) _ _ _ _⟩
     ·have HR:=G (show eP (c::m)= .ok ((3,[],v),n) by rw[HT.out,hH,if_neg (by simp),if_neg (by rintro(h|h|h);exact hA h;exact(fun h:1<n/\c=48=>hC h.2) h;exact hv1 (by omega) h),hvr (by omega)]);clear hH;clear hC;clear HT hc hvr hvg hv1;go_enter func111,ntmps111
      go_wp2_with (first
       |(go_at_call 137;refine(HSP.out _).mono ?_;rintro e w' ⟨rfl,rfl⟩)
       |(go_at_call 138;refine HA.out.mono ?_;rintro e w1 ⟨⟨er,rfl⟩,hE⟩;have HB:=G (HB0.out.ext hE);have HX:=G (HX0.out.trans hE);clear hE;have hbc:=HB.out.cell;have hbf:=HB.out.frozen)
       |(go_at_call 74;refine(HPT.out _).mono ?_;rintro e w' ⟨rfl,rfl⟩))
      have hset:=(HB.out.put4 (.int .i64 3) (.string ⟨#[]⟩) (.int .i64 v) (.int .i64 0)).cell;exact bodyPost_ret (v:=aY (.ok ((3,[],v),n))) (by simp[results,results111,go_sem,aY,hset];rfl) rfl ⟨by rw[HR.out],HX.out.put4 (ag _) _ _ _ _⟩
   ·have hB': ¬(1:Int)<n:=by omega
    by_cases hV:2147483647<v
    ·have HR:=G (show eP (c::m)= .error 2 by rw[HT.out,hH,if_neg (by simp),if_pos (.inr (.inr (hvg hV)))]);clear hH;clear HT hc hvr hvg hv1;go_enter func111,ntmps111
     go_wp2_with (first
      |(go_at_call 137;refine(HSP.out _).mono ?_;rintro e w' ⟨rfl,rfl⟩)
      |(go_at_call 138;refine HA.out.mono ?_;rintro e w1 ⟨⟨er,rfl⟩,hE⟩;have HB:=G (HB0.out.ext hE);have HX:=G (HX0.out.trans hE);clear hE;have hbc:=HB.out.cell;have hbf:=HB.out.frozen)
      |(go_at_call 74;refine(HPT.out _).mono ?_;rintro e w' ⟨rfl,rfl⟩))
     have hset:=(HB.out.put4 (.int .i64 0) (.string ⟨#[]⟩) (.int .i64 0) (.int .i64 0)).cell;exact bodyPost_ret (v:=aY (.error 2)) (by simp[results,results111,go_sem,aY,hset]) rfl ⟨by rw[HR.out],HX.out.put4 (ag _) _ _ _ _⟩
    ·have HR:=G (show eP (c::m)= .ok ((3,[],v),n) by rw[HT.out,hH,if_neg (by simp),if_neg (by rintro(h|h|h);exact hA h;exact(fun h:1<n/\c=48=>hB h.1) h;exact hv1 (by omega) h),hvr (by omega)]);clear hH;clear HT hc hvr hvg hv1;go_enter func111,ntmps111
     go_wp2_with (first
      |(go_at_call 137;refine(HSP.out _).mono ?_;rintro e w' ⟨rfl,rfl⟩)
      |(go_at_call 138;refine HA.out.mono ?_;rintro e w1 ⟨⟨er,rfl⟩,hE⟩;have HB:=G (HB0.out.ext hE);have HX:=G (HX0.out.trans hE);clear hE;have hbc:=HB.out.cell;have hbf:=HB.out.frozen)
      |(go_at_call 74;refine(HPT.out _).mono ?_;rintro e w' ⟨rfl,rfl⟩))
     have hset:=(HB.out.put4 (.int .i64 3) (.string ⟨#[]⟩) (.int .i64 v) (.int .i64 0)).cell;exact bodyPost_ret (v:=aY (.ok ((3,[],v),n))) (by simp[results,results111,go_sem,aY,hset];rfl) rfl ⟨by rw[HR.out],HX.out.put4 (ag _) _ _ _ _⟩
theorem gg (r:qC): ∃k s v n e,aY r= .tuple #[.agg #[.int .i64 k, .string s, .int .i64 v, .int .i64 0], .int .i64 n, .int .i64 e]:=by
 cases r with
 |ok x=>exact⟨_,_,_,_,_,rfl⟩
 |error e=>exact⟨_,_,_,_,_,rfl⟩
theorem pN (c:UInt8) (m:List UInt8):jn (c::m)=if fd c then fK (c::m)else if cX c then eP (c::m)else if c=39 then ff (c::m)else if c=34 then gx (c::m)else fA (c::m):=rfl
theorem sj (c:UInt8) (m:List UInt8) (hl:(c::m).length<=100000) (w:World) (hz:EZ w):Calls prog 60 #[.string (ae (c::m))] w fun e w'=>e= .returned (aY (jn (c::m)))/\al w w':=by
 have hsz:(ae (c::m)).size=m.length+1:=by rw[aM];rfl
 have h0:0<(ae (c::m)).size:=by rw[hsz];omega
 have hg0:(ae (c::m))[0]=c:=rfl;have hl1:m.length<=99999:=by simpa using hl
 have HL:=G (kD c);have HD:=G (lH c);have HX0:=G (O w (.cells #[.int .i64 0, .string ⟨#[]⟩, .int .i64 0, .int .i64 0] 116));have HB0:=G (ai w 116 #[.int .i64 0, .string ⟨#[]⟩, .int .i64 0, .int .i64 0]);have HT:=G (pN c m)
 cases hL:fd c with
 |true=>
  rw[hL]at HL;have HR:=G (show jn (c::m)=fK (c::m) by rw[HT.out,hL,if_pos rfl]);obtain⟨k,s,v,n,e,hr⟩:=gg (fK (c::m));have HF:=G (tO (c::m) hl (w.alloc (.cells #[.int .i64 0, .string ⟨#[]⟩, .int .i64 0, .int .i64 0] 116)));rw[hr]at HF;have HV:=G hr;clear hL HT hr hz;go_enter func60,ntmps60
  go_wp2_with (first
   |(go_at_call 75;refine(HL.out _).mono ?_;rintro e' w' ⟨rfl,rfl⟩)
   |(go_at_call 110;refine(HD.out _).mono ?_;rintro e' w' ⟨rfl,rfl⟩)
   |(go_at_call 109;refine HF.out.mono ?_;rintro e' w1 ⟨rfl,hE⟩;have HB:=G (HB0.out.ext hE);have HX:=G (HX0.out.trans hE);clear hE;have hbc:=HB.out.cell;have hbf:=HB.out.frozen))
  have hset:=(HB.out.put4 (.int .i64 k) (.string s) (.int .i64 v) (.int .i64 0)).cell;exact bodyPost_ret (v:= .tuple #[.agg #[.int .i64 k, .string s, .int .i64 v, .int .i64 0], .int .i64 n, .int .i64 e]) (by simp[results,results60,go_sem,hset]) rfl ⟨by rw[HR.out,HV.out],HX.out.put4 (ag _) _ _ _ _⟩
 |false=>
  rw[hL]at HL
  cases hD:cX c with
  |true=>
   rw[hD]at HD;have HR:=G (show jn (c::m)=eP (c::m) by rw[HT.out,hL,if_neg (by simp),hD,if_pos rfl]);obtain⟨k,s,v,n,e,hr⟩:=gg (eP (c::m));have HF:=G (rt c m hD hl (w.alloc (.cells #[.int .i64 0, .string ⟨#[]⟩, .int .i64 0, .int .i64 0] 116)) (hz.ext HX0.out));rw[hr]at HF;have HV:=G hr;clear hL hD HT hr hz;go_enter func60,ntmps60
   go_wp2_with (first
    |(go_at_call 75;refine(HL.out _).mono ?_;rintro e' w' ⟨rfl,rfl⟩)
    |(go_at_call 110;refine(HD.out _).mono ?_;rintro e' w' ⟨rfl,rfl⟩)
    |(go_at_call 111;refine HF.out.mono ?_;rintro e' w1 ⟨rfl,hE⟩;have HB:=G (HB0.out.ext hE);have HX:=G (HX0.out.trans hE);clear hE;have hbc:=HB.out.cell;have hbf:=HB.out.frozen))
   have hset:=(HB.out.put4 (.int .i64 k) (.string s) (.int .i64 v) (.int .i64 0)).cell;exact bodyPost_ret (v:= .tuple #[.agg #[.int .i64 k, .string s, .int .i64 v, .int .i64 0], .int .i64 n, .int .i64 e]) (by simp[results,results60,go_sem,hset]) rfl ⟨by rw[HR.out,HV.out],HX.out.put4 (ag _) _ _ _ _⟩
  |false=>
   rw[hD]at HD;by_cases h39:c=39
   ·have HR:=G (show jn (c::m)=ff (c::m) by rw[HT.out,hL,if_neg (by simp),hD,if_neg (by simp),if_pos h39]);obtain⟨k,s,v,n,e,hr⟩:=gg (ff (c::m));have HF:=G (vx c m (by omega) (w.alloc (.cells #[.int .i64 0, .string ⟨#[]⟩, .int .i64 0, .int .i64 0] 116)));rw[hr]at HF;have HV:=G hr;have hb39:((c.toNat:Int)==39)=true:=by rw[h39];rfl
    clear hL hD HT hr hz h39;go_enter func60,ntmps60
    go_wp2_with (first
     |(go_at_call 75;refine(HL.out _).mono ?_;rintro e' w' ⟨rfl,rfl⟩)
     |(go_at_call 110;refine(HD.out _).mono ?_;rintro e' w' ⟨rfl,rfl⟩)
     |(go_at_call 112;refine HF.out.mono ?_;rintro e' w1 ⟨rfl,hE⟩;have HB:=G (HB0.out.ext hE);have HX:=G (HX0.out.trans hE);clear hE;have hbc:=HB.out.cell;have hbf:=HB.out.frozen))
    have hset:=(HB.out.put4 (.int .i64 k) (.string s) (.int .i64 v) (.int .i64 0)).cell;exact bodyPost_ret (v:= .tuple #[.agg #[.int .i64 k, .string s, .int .i64 v, .int .i64 0], .int .i64 n, .int .i64 e]) (by simp[results,results60,go_sem,hset]) rfl ⟨by rw[HR.out,HV.out],HX.out.put4 (ag _) _ _ _ _⟩
   ·have hb39:((c.toNat:Int)==39)=false:=(bQ c 39 (by omega)).trans (beq_eq_false_iff_ne.2 h39);by_cases h34:c=34
    ·have HR:=G (show jn (c::m)=gx (c::m) by rw[HT.out,hL,if_neg (by simp),hD,if_neg (by simp),if_neg h39,if_pos h34]);obtain⟨k,s,v,n,e,hr⟩:=gg (gx (c::m));have HF:=G (tW c m (by omega) (w.alloc (.cells #[.int .i64 0, .string ⟨#[]⟩, .int .i64 0, .int .i64 0] 116)));rw[hr]at HF;have HV:=G hr;have hb34:((c.toNat:Int)==34)=true:=by rw[h34];rfl
     clear hL hD HT hr hz h39 h34;go_enter func60,ntmps60
     go_wp2_with (first
      |(go_at_call 75;refine(HL.out _).mono ?_;rintro e' w' ⟨rfl,rfl⟩)
      |(go_at_call 110;refine(HD.out _).mono ?_;rintro e' w' ⟨rfl,rfl⟩)
      |(go_at_call 113;refine HF.out.mono ?_;rintro e' w1 ⟨rfl,hE⟩;have HB:=G (HB0.out.ext hE);have HX:=G (HX0.out.trans hE);clear hE;have hbc:=HB.out.cell;have hbf:=HB.out.frozen))
     have hset:=(HB.out.put4 (.int .i64 k) (.string s) (.int .i64 v) (.int .i64 0)).cell;exact bodyPost_ret (v:= .tuple #[.agg #[.int .i64 k, .string s, .int .i64 v, .int .i64 0], .int .i64 n, .int .i64 e]) (by simp[results,results60,go_sem,hset]) rfl ⟨by rw[HR.out,HV.out],HX.out.put4 (ag _) _ _ _ _⟩
    ·have HR:=G (show jn (c::m)=fA (c::m) by rw[HT.out,hL,if_neg (by simp),hD,if_neg (by simp),if_neg h39,if_neg h34]);obtain⟨k,s,v,n,e,hr⟩:=gg (fA (c::m));have HF:=G (uH c m (by omega) (w.alloc (.cells #[.int .i64 0, .string ⟨#[]⟩, .int .i64 0, .int .i64 0] 116)));rw[hr]at HF;have HV:=G hr;have hb34:((c.toNat:Int)==34)=false:=(bQ c 34 (by omega)).trans (beq_eq_false_iff_ne.2 h34);clear hL hD HT hr hz h39 h34;go_enter func60,ntmps60
     go_wp2_with (first
      |(go_at_call 75;refine(HL.out _).mono ?_;rintro e' w' ⟨rfl,rfl⟩)
      |(go_at_call 110;refine(HD.out _).mono ?_;rintro e' w' ⟨rfl,rfl⟩)
      |(go_at_call 114;refine HF.out.mono ?_;rintro e' w1 ⟨rfl,hE⟩;have HB:=G (HB0.out.ext hE);have HX:=G (HX0.out.trans hE);clear hE;have hbc:=HB.out.cell;have hbf:=HB.out.frozen))
     have hset:=(HB.out.put4 (.int .i64 k) (.string s) (.int .i64 v) (.int .i64 0)).cell;exact bodyPost_ret (v:= .tuple #[.agg #[.int .i64 k, .string s, .int .i64 v, .int .i64 0], .int .i64 n, .int .i64 e]) (by simp[results,results60,go_sem,hset]) rfl ⟨by rw[HR.out,HV.out],HX.out.put4 (ag _) _ _ _ _⟩
end
section
open Go.RowKit
def fB (t:bB):List Value:=[.int .i64 t.k, .string (ae t.t), .int .i64 t.v, .int .i64 t.f]
def jN (ts:List bB):List Value:=ts.flatMap fB
theorem sm (a b:List bB):jN (a++b)=jN a++jN b:=by simp[jN]
def fx (w:World) (base:Nat) (e:TypeId) (v:Value) (ts:List bB):Prop:=w.ownsRow base e 4 v ts.length (jN ts)
theorem fx.nil_ (w:World) (base:Nat) (e:TypeId):fx w base e (.slice none 0 0) []:=b7 w base e 4
theorem fx.form {w:World} {base:Nat} {e:TypeId} {v:Value} {ts:List bB} (h:fx w base e v ts): ∃A cap,v= .slice A ts.length cap:=by
 rcases h.2 with⟨rfl,h0⟩|⟨g,cap,cur,rfl,_⟩
 ·exact⟨none,0,by rw[h0]⟩
 ·exact⟨_,_,rfl⟩
theorem fx.grown {w w':World} {base:Nat} {e:TypeId} {v:Value} {ts:List bB} {row:Option Nat} (h:fx w base e v ts) (hg:w.grownBy w' row) (hr:v.ownBlock=none\/v.ownBlock≠row):fx w' base e v ts:=bH h hg hr
theorem fx.ext {w w':World} {base:Nat} {e:TypeId} {v:Value} {ts:List bB} (h:fx w base e v ts) (he:al w w'):fx w' base e v ts:=h.grown (he.grownBy none) (by cases v.ownBlock<;>simp)
structure wG (P:Program) (t e:TypeId):Prop where
 under:P.underlying t=some (.slice e)
 info:(P.info? e).map (fun i=>(i.zero,i.size,i.bytes))=some (some (.agg #[.int .i64 0, .string ⟨#[]⟩, .int .i64 0, .int .i64 0]),4,40)
theorem pY {P:Program} {w:World} {t e:TypeId} (hT:wG P t e) (ty:TypeId) (base:Nat) (v:Value) (ts:List bB) (hown:fx w base e v ts) (g:Nat) (x:bB)
  (hg:w.heap[g]? =some (.cells #[.int .i64 x.k, .string (ae x.t), .int .i64 x.v, .int .i64 x.f] e (0,0))) (hb:ts.length<=1073741824) (hbase:base<=w.heap.size):
  ∃A' cap' w',(Builtin.append_ #[t,t] ty #[v, .slice (some ⟨g,0,none⟩) 1 1]).run P w= .ok (.slice A' (ts.length+1) cap') w'/\fx w' base e (.slice A' (ts.length+1) cap') (ts++[x])/\w.grownBy w' v.ownBlock/\
   (Value.ownBlock (.slice A' (ts.length+1) cap')=v.ownBlock\/Value.ownBlock (.slice A' (ts.length+1) cap')=some w.heap.size):=by
 obtain⟨i,hi,hz,hz1,hz2⟩:=info_parts hT.info;obtain⟨v',w',hr,h2,h3,_,h5⟩:=run_append_own_at (P:=P) w base t ty e i (.agg #[.int .i64 0, .string ⟨#[]⟩, .int .i64 0, .int .i64 0]) 4 40 hT.under hi hz hz1 hz2 rfl (by decide) v ts.length (jN ts) hown ⟨g,0,none⟩ 1 1 (fB x) rfl
  (fun j y hj=>by
   rw[gQ,ak,cell_of_row w g j _ e (0,0) hg]
   simpa[fB]using hj) (by simp[fB,Value.oneCell']) (by simp only[maxLen];omega) (by omega) hbase
 have hO:fx w' base e v' (ts++[x]):=by
  unfold fx;rw[aa,sm];simpa[jN]using h2
 obtain⟨A',cap',rfl⟩:=hO.form;rw[aa]at hO hr h5;exact⟨A',cap',w',hr,hO,h3,h5⟩
theorem jM {P:Program} {w:World} {ops:Array Oper} {rest:List Oper} {o:Oper} {a:Act} {Q:Exit->Act->World->Prop} {t e:TypeId} (hT:wG P t e) (hgd:o.guard=none) (s x:Operand)
  (ho:o.op= .call {callee:= .builtin .append,args:= #[s,x],argTypes:= #[t,t]}) (base:Nat) (v:Value) (ts:List bB) (hv:a.eval s=v) (hown:fx w base e v ts)
  (g:Nat) (y:bB) (hx:a.eval x= .slice (some ⟨g,0,none⟩) 1 1) (hg:w.heap[g]? =some (.cells #[.int .i64 y.k, .string (ae y.t), .int .i64 y.v, .int .i64 y.f] e (0,0))) (hb:ts.length<=1073741824) (hbase:base<=w.heap.size)
  (h: ∀A' cap' w',fx w' base e (.slice A' (ts.length+1) cap') (ts++[y])->w.grownBy w' v.ownBlock->
   (Value.ownBlock (.slice A' (ts.length+1) cap')=v.ownBlock\/Value.ownBlock (.slice A' (ts.length+1) cap')=some w.heap.size)->wpList P ops Q rest (a.put o.dst (.slice A' (ts.length+1) cap')) w'):
  wpList P ops Q (o::rest) a w:=by
 obtain⟨A',cap',w',hr,h1,h2,h3⟩:=pY (P:=P) (w:=w) hT o.type base v ts hown g y hg hb hbase;refine wpList_plain hgd fun K hK=> ?_;unfold Oper.wp execOp;simp only[ho,resolve,invoke,builtin,fT,fS,dW,eo,cA,dX,hv,hx,hr];exact hK _ _ (h A' cap' w' h1 h2 h3)
theorem tt:wG prog 77 116:=⟨underlying77,by kernel_rfl⟩
theorem Ac:wG prog 57 62:=⟨underlying57,by kernel_rfl⟩
theorem mQ: ∀(f:Nat) (m:List UInt8) (t:List UInt8) (n:Nat),l_ f m=some (t,n)->1<=n/\n<=m.length
 |0,m,t,n,h=>by cases h
 |f+1,[],t,n,h=>by cases h
 |f+1,c::r,t,n,h=>by
  simp only[l_]at h;split at h
  ·cases h;exact⟨ag _,by simp⟩
  ·split at h
   ·cases h
   ·obtain⟨⟨t',n'⟩,h1,h2⟩:=Option.map_eq_some_iff.1 h
    cases h2;have:=mQ f _ t' n' h1;have h3:=ij (c::r);rw[aZ]at this;omega
theorem lG {l:List UInt8} {c:UInt8} (h:l.head? =some c):1<=l.length:=by cases l<;>simp at h⊢
theorem kP {c:UInt8} {r:List UInt8} {x:Int×List UInt8×Int} {n:Nat} (h:jn (c::r)= .ok (x,n)):1<=n/\n<=(c::r).length:=by
 have hp:fd c=true->1<=bS c_ (c::r):=fun h=>by simp[bS,c_,h]
 have hd:cX c=true->1<=bS cX (c::r):=fun h=>by simp[bS,h]
 have hp2:=eY c_ (c::r);have hd2:=eY cX (c::r);simp only[jn]at h;split at h
 ·rename_i hL;unfold fK at h;split at h
  ·cases h;exact⟨hp hL,hp2⟩
  ·split at h
   ·cases h
   ·cases h;exact⟨hp hL,hp2⟩
 ·split at h
  ·rename_i hD;unfold eP at h;split at h
   ·cases h
   ·split at h
    ·cases h
    ·cases h;exact⟨hd hD,hd2⟩
  ·split at h
   ·unfold ff at h;split at h
    ·cases h
    ·rename_i hc
     cases h;have h3:((c::r).drop ((bI ((c::r).drop 1)).2+1)).head? =some 39:=by
      refine Classical.byContradiction fun hne=>hc (.inr (.inr hne))
     have:=lG h3;rw[aZ]at this;omega
   ·split at h
    ·unfold gx at h;split at h
     ·cases h
     ·rename_i t n' hl;split at h
      ·cases h
      ·cases h;have:=mQ _ _ _ _ hl;rw[aZ]at this;omega
    ·unfold fA at h;split at h
     ·rename_i hc
      cases h;have: ∀t∈two,t.length=2:=by decide
      have h2:((c::r).take 2).length=2:=this _ (List.contains_iff_mem.1 hc);rw[cO]at h2;omega
     ·split at h
      ·cases h;exact⟨ag _,by simp⟩
      ·cases h
theorem pO {c:UInt8} {r:List UInt8} {e:Int} (h:jn (c::r)= .error e):e=3\/e=2\/e=6:=by
 simp only[jn]at h;unfold fK eP ff gx fA at h;repeat' split at h
 all_goals cases h
 all_goals first|exact .inl rfl|exact .inr (.inl rfl)|exact .inr (.inr rfl)
def jS (ts:List bB):Except (Nat×Int) (List bB)->Except (Nat×Int) (List bB)
 | .error e=> .error e
 | .ok us=> .ok (ts++us)
theorem mr (l:List UInt8):lx l=jS [] (ga (l.length+1) (l.drop 0) 0):=by
 unfold lx;rw[ap]
 cases ga (l.length+1) l 0<;>simp[jS]
theorem pL {l:List UInt8} {f p:Nat} {ts:List bB} (h:lx l=jS ts (ga (f+1) (l.drop p) p)) (he:l.length<=p+bY false (l.drop p)):lx l= .ok ts:=by
 rw[h];have:(l.drop p).drop (bY false (l.drop p))=[]:=by
  rw[dr];exact bq he
 simp only[ga,this,jS,du]
theorem pK {l:List UInt8} {f p q:Nat} {ts:List bB} {c:UInt8} {r:List UInt8} {e:Int} (h:lx l=jS ts (ga (f+1) (l.drop p) p)) (hq:q=p+bY false (l.drop p)) (hd:l.drop q=c::r) (ht:jn (c::r)= .error e):lx l= .error (q,e):=by
 rw[h];have:(l.drop p).drop (bY false (l.drop p))=c::r:=by
  rw[dr,<-hq,hd]
 simp only[ga,this,ht,jS,hq]
theorem nJ {l:List UInt8} {f p q:Nat} {ts:List bB} {c:UInt8} {r:List UInt8} {k:Int} {t:List UInt8} {v:Int} {n:Nat} (h:lx l=jS ts (ga (f+1) (l.drop p) p)) (hq:q=p+bY false (l.drop p)) (hd:l.drop q=c::r)
  (ht:jn (c::r)= .ok ((k,t,v),n)):lx l=jS (ts++[⟨k,t,v,(q:Nat)⟩]) (ga f (l.drop (q+n)) (q+n)):=by
 rw[h];have h1:(l.drop p).drop (bY false (l.drop p))=c::r:=by
  rw[dr,<-hq,hd]
 have h2:l.drop (q+n)=(c::r).drop n:=by rw[<-hd,dr]
 rw[h2];simp only[ga,h1,ht,<-hq]
 cases ga f ((c::r).drop n) (q+n)<;>simp[jS]
end
section
open Go.RowKit
def py (ty:TypeId) (base:Nat) (r:List bB×Int×Int) (e:Ending) (w':World):Prop:=
 ∃A cap,e= .returned (.tuple #[.slice A r.1.length cap, .int .i64 r.2.1, .int .i64 r.2.2])/\fx w' base ty (.slice A r.1.length cap) r.1
theorem lw (l:List UInt8) (h:4000<l.length):fz l=([],4000,6):=by unfold fz;rw[if_pos h]
theorem pM (l:List UInt8) (ts:List bB) (h: ¬4000<l.length) (ht:lx l= .ok ts):fz l=(ts,0,0):=by unfold fz;rw[if_neg h,ht]
theorem nK (l:List UInt8) (p:Nat) (e:Int) (h: ¬4000<l.length) (ht:lx l= .error (p,e)):fz l=([],(p:Int),e):=by unfold fz;rw[if_neg h,ht]
theorem rL (w:World) (e:TypeId) (x:bB):((w.alloc (.cells #[.int .i64 x.k, .string (ae x.t), .int .i64 x.v, .int .i64 x.f] e)).alloc (.cells #[.int .i64 x.k, .string (ae x.t), .int .i64 x.v, .int .i64 x.f] e)).heap[w.heap.size+1]? =some (.cells #[.int .i64 x.k, .string (ae x.t), .int .i64 x.v, .int .i64 x.f] e (0,0)):=by
 have:=heap_alloc_new (w.alloc (.cells #[.int .i64 x.k, .string (ae x.t), .int .i64 x.v, .int .i64 x.f] e)) (.cells #[.int .i64 x.k, .string (ae x.t), .int .i64 x.v, .int .i64 x.f] e);rwa [aQ]at this
theorem qP (l:List UInt8) (hl:l.length<=100000) (w:World) (hz:EZ w):Calls prog 28 #[.string (ae l)] w fun e w'=>py 116 w.heap.size (fz l) e w'/\al w w':=by
 have hsz:(ae l).size=l.length:=aM l;have HZ:=G hz;clear hz;have HRb:=G (lw l);have HRo:=G (pM l);have HRe:=G (nK l);by_cases hbig:4000<l.length
 ·have hbig':(4000:Int)<l.length:=by omega
  go_enter func28,ntmps28;go_wp2_with fail;exact bodyPost_ret (v:= .tuple #[.slice none 0 0, .int .i64 4000, .int .i64 6]) (by simp[results,results28,go_sem]) rfl ⟨by rw[HRb.out hbig];exact⟨none,0,rfl,fx.nil_ _ _ _⟩,aG _⟩
 ·have hbig': ¬(4000:Int)<l.length:=by omega
  go_enter func28,ntmps28;go_wp2_with fail
  go_loopw [2,3] (fun vb vp wr=> ∃(B:Option Addr) (cap:Nat) (ts:List bB) (p f:Nat),vb= .slice B ts.length cap/\fx wr w.heap.size 116 (.slice B ts.length cap) ts/\vp= .int .i64 (p:Int)/\p<=l.length/\ts.length<=p/\l.length+1<=f+p/\
   Hid (lx l=jS ts (ga f (l.drop p) p))/\al w wr) (fun _ vp _=>l.length+1-(intOf vp).toNat)
  case atStart=>exact⟨none,0,[],0,l.length+1,rfl,fx.nil_ _ _ _,rfl,aB _,ag _,by omega,G (mr l),aG _⟩
  case round=>
   obtain⟨B,cap,ts,p,f,rfl,hown,rfl,hp,htp,hfp,HJ,hx⟩:=hrel;obtain⟨f,rfl⟩: ∃g,f=g+1:=⟨f-1,by omega⟩
   have HO:=G hown;have HX:=G hx;clear hown hx;have hps:p<=(ae l).size:=by rw[hsz];exact hp
   have hex:(ae l).extract p l.length=ae (l.drop p):=by
    have:=bR l p l.length;rw[aK (ag _)]at this;exact this
   have HBL:=G (fun w=>tD (l.drop p) (by rw[aZ];omega) w);have hsk:p+bY false (l.drop p)<=l.length:=by have:=ib false (l.drop p);rw[aZ]at this;omega
   obtain⟨q,hq⟩: ∃q,q=p+bY false (l.drop p):=⟨_,rfl⟩
   have hqi:(p:Int)+(bY false (l.drop p):Int)=(q:Int):=by omega
   by_cases hend:l.length<=q
   ·have HT:=G (pL HJ.out (by omega));have hqn:q=l.length:=by omega
    have hend':(l.length:Int)<=q:=by omega
    generalize bY false (l.drop p)=s at*;clear hq HJ;go_wp2_with (go_at_call 59;refine(HBL.out _).mono ?_;rintro e w' ⟨rfl,rfl⟩);exact bodyPost_ret (v:= .tuple #[.slice B ts.length cap, .int .i64 0, .int .i64 0]) (by simp[results,results28,go_sem]) rfl ⟨by rw[HRo.out _ hbig HT.out];exact⟨B,cap,rfl,HO.out⟩,HX.out⟩
   ·have hend': ¬(l.length:Int)<=q:=by omega
    have hqs:q<=(ae l).size:=by rw[hsz];omega
    have hexq:(ae l).extract q l.length=ae (l.drop q):=by
     have:=bR l q l.length;rw[aK (ag _)]at this;exact this
    obtain⟨c,r,hcr⟩: ∃c r,l.drop q=c::r:=by
     cases h:l.drop q with
     |nil=>have:=congrArg List.length h;rw[aZ]at this;simp at this;omega
     |cons c r=>exact⟨c,r,rfl⟩
    have hlr:(c::r).length=l.length-q:=by rw[<-hcr,aZ]
    rw[hcr]at hexq;have HTK:=G (fun w h=>sj c r (by omega) w h)
    cases ht:jn (c::r)with
    |error e=>
     have HT:=G (pK HJ.out hq hcr ht);have he:e=3\/e=2\/e=6:=pO ht;rw[ht]at HTK;have htv:aY (.error e)= .tuple #[.agg #[.int .i64 0, .string ⟨#[]⟩, .int .i64 0, .int .i64 0], .int .i64 0, .int .i64 e]:=rfl;rw[htv]at HTK;have hne: ¬e=0:=by omega
     have hne2:(e==0)=false:=by simp[hne]
     generalize bY false (l.drop p)=s at*;clear hq HJ ht hcr htv he
     go_wp2_with (first
      |(go_at_call 59;refine(HBL.out _).mono ?_;rintro e w' ⟨rfl,rfl⟩)
      |(go_at_call 60;refine(HTK.out _ (HZ.out.ext HX.out)).mono ?_;rintro e' w1 ⟨rfl,hE⟩;have HE:=G (HX.out.trans hE);clear hE))
     exact bodyPost_ret (v:= .tuple #[.slice none 0 0, .int .i64 q, .int .i64 e]) (by simp[results,results28,go_sem]) rfl ⟨by rw[HRe.out _ _ hbig HT.out];exact⟨none,0,rfl,fx.nil_ _ _ _⟩,HE.out.alloc' _⟩
    |ok y=>
     obtain⟨⟨k,t,v⟩,n⟩:=y;have HT:=G (nJ HJ.out hq hcr ht);obtain⟨hn1,hn2⟩:=kP ht;rw[ht]at HTK;have htv:aY (.ok ((k,t,v),n))= .tuple #[.agg #[.int .i64 k, .string (ae t), .int .i64 v, .int .i64 0], .int .i64 (n:Int), .int .i64 0]:=rfl;rw[htv]at HTK;generalize bY false (l.drop p)=s at*;clear hq HJ ht hcr htv
     go_wp2_with (first
      |(go_at_call 59;refine(HBL.out _).mono ?_;rintro e w' ⟨rfl,rfl⟩)
      |(go_at_call 60;refine(HTK.out _ (HZ.out.ext HX.out)).mono ?_;rintro e' w1 ⟨rfl,hE⟩;have HE1:=G (HX.out.trans ((hE.alloc' (.cells #[.int .i64 k, .string (ae t), .int .i64 v, .int .i64 (q:Int)] 116)).alloc' (.cells #[.int .i64 k, .string (ae t), .int .i64 v, .int .i64 (q:Int)] 116)));have HO1:=G (HO.out.ext ((hE.alloc' (.cells #[.int .i64 k, .string (ae t), .int .i64 v, .int .i64 (q:Int)] 116)).alloc' (.cells #[.int .i64 k, .string (ae t), .int .i64 v, .int .i64 (q:Int)] 116)));have HG1:=G (rL w1 116 ⟨k,t,v,(q:Int)⟩);clear hE)
      |(at_builtin;refine jM tt rfl _ _ rfl w.heap.size (.slice B ts.length cap) ts rfl HO1.out (w1.heap.size+1) ⟨k,t,v,(q:Int)⟩ rfl HG1.out (by omega) HE1.out.size ?_;intro A3 c3 w3 ho3 hg3 _;have HO3:=G ho3;have HG3:=G hg3;clear ho3 hg3))
     go_roundw
     case rel=>
      have hrow:=fun k hk=>(aJ HO1.out k hk).1;have hx3:=HE1.out.grown HG3.out (fun k hk=>by have:=hrow k hk;omega);refine⟨A3,c3,ts++[⟨k,t,v,(q:Int)⟩],q+n,f,by rw[aa];rfl,?_,by go_num,by omega,by rw[aa];simp;omega,by omega,HT,hx3⟩;rw[aa];exact HO3.out
     case measure=>simp[intOf];omega
end
section
open Go.RowKit
def o6:Option (List UInt8×Nat)->Value
 |some x=> .tuple #[.string (ae x.1), .int .i64 (x.2:Int)]
 |none=> .tuple #[.string ⟨#[]⟩, .int .i64 0]
theorem cu (a b:List UInt8):ae a++ae b=ae (a++b):=by
 apply ByteArray.ext;simp[ae]
theorem ud (m:List UInt8) (hl:m.length<=100000) (w:World):Calls prog 104 #[.string (ae m)] w fun e w'=>e= .returned (o6 (f6 m))/\al w w':=by
 have hsz:(ae m).size=m.length:=aM m;go_enter func104,ntmps104;go_wp2_with fail
 go_loopw [4,5] (fun vb vi wr=> ∃(b:List UInt8) (j:Nat),vb= .string (ae b)/\vi= .int .i64 (j:Int)/\j<=m.length/\b.length<=j/\
   Hid (f6 m=(f6 (m.drop j)).map fun x=>(b++x.1,j+x.2))/\al w wr) (fun _ vi _=>m.length+1-(intOf vi).toNat)
 case atStart=>
  refine⟨[],0,rfl,rfl,aB _,ag _,G ?_,aG _⟩
  cases h:f6 m<;>simp[h]
 case round=>
  obtain⟨b,j,rfl,rfl,hj,hbj,HL,hx⟩:=hrel;have HX:=G hx;clear hx;by_cases hlt:j<m.length
  ·have hjs:j<(ae m).size:=by rw[hsz];exact hlt
   have hjs2:j<=(ae m).size:=by rw[hsz];exact hj
   have hg:(ae m)[j]=m[j]:=rfl;have hlt':(j:Int)<m.length:=by omega
   by_cases h34:m[j]=34
   ·have HR:=G (show f6 m=some (b,j+1) by rw[HL.out,kZ hlt h34];simp);rw[h34]at hg;clear h34 HL;go_wp2_with fail;exact bodyPost_ret (v:=o6 (some (b,j+1))) (by simp[results,results104,go_sem,o6]) rfl ⟨by rw[HR.out],HX.out⟩
   ·have hgb:((m[j].toNat:Int)==34)=false:=(bQ m[j] 34 (by omega)).trans (beq_eq_false_iff_ne.2 h34);have hex:(ae m).extract j m.length=ae (m.drop j):=by
     have:=bR m j m.length;rw[aK (by simp)]at this;exact this
    have HEL:=G (fun w=>nW (m.drop j) w (by rw[aZ];omega));obtain⟨hle1,hle2⟩:=ij (m.drop j);rw[aZ]at hle1;have HBD:=G (fun h=>k8 (m:=m) hlt h34 h);have HST:=G (fun h=>kt (m:=m) hlt h34 h);generalize hv:(bI (m.drop j)).1=v at*;generalize hn:(bI (m.drop j)).2=n at*;generalize m[j]=d at*;have hvb:=v.toNat_lt;have hvb':(v.toNat:Int)<256:=by omega
    clear hv hn h34;generalize hdr:m.drop j=mj at*;clear hdr;by_cases hn0:n=0
    ·have HR:=G (show f6 m=none by rw[HL.out,HBD.out hn0];rfl);subst hn0;clear HL HBD HST;go_wp2_with (go_at_call 103;refine(HEL.out _).mono ?_;rintro e w1 ⟨rfl,hE⟩;have HE:=G (HX.out.trans hE);clear hE);exact bodyPost_ret (v:=o6 none) (by simp[results,results104,go_sem,o6]) rfl ⟨by rw[HR.out],HE.out⟩
    ·have hnb:((n:Int)==0)=false:=by simp[hn0]
     have hn1:1<=n:=by omega
     have HL2:=G (show f6 m=(f6 (m.drop (j+n))).map fun x=>((b++[v])++x.1,(j+n)+x.2) by
      rw[HL.out,HST.out hn0,Option.map_map]
      congr 1
      funext x
      simp[dG])
     have hap:=cu b [v];have hbs:(ae b).size=b.length:=aM b;have hvs:(ae [v]).size=1:=aM [v];clear HL HBD HST hn0;go_wp2_with (go_at_call 103;refine(HEL.out _).mono ?_;rintro e w1 ⟨rfl,hE⟩;have hcv:Sem.run prog (convert 56 9 (.slice (some ⟨w1.heap.size,0,none⟩) 1 1)) (w1.alloc (.cells #[.int .u8 (v.toNat:Int)] 5))= .ok (.string (ae [v])) (w1.alloc (.cells #[.int .u8 (v.toNat:Int)] 5)):=(Sl.one w1 v).convert (P:=prog) (src:=56) (dst:=9) underlying56 underlying5 underlying9;have HE:=G (HX.out.trans (hE.alloc' (.cells #[.int .u8 (v.toNat:Int)] 5)));clear hE);go_roundw
     case rel=>exact⟨b++[v],j+n,rfl,by go_num,by omega,by rw[aa];simp;omega,HL2,HE.out⟩
     case measure=>simp[intOf];omega
  ·have hmj:m.drop j=[]:=bq (by omega);have HR:=G (show f6 m=none by rw[HL.out,hmj];rfl);have hlt': ¬(j:Int)<m.length:=by omega
   clear HL hmj;go_wp2_with fail;exact bodyPost_ret (v:=o6 none) (by simp[results,results104,go_sem,o6]) rfl ⟨by rw[HR.out],HX.out⟩
theorem tB {l:List UInt8} {j:Nat} (h:j<l.length):gY (l.take (j+1))=gY (l.take j)*10+(l[j].toNat-48):=by
 unfold gY;rw[aF h,List.foldl_append];rfl
def fq (l:List UInt8) (j:Nat):Nat:=min (gY (l.take j)) 1099511627776
theorem sE {l:List UInt8} {j:Nat} (h:j<l.length):fq l (j+1)=min (10*fq l j+(l[j].toNat-48)) 1099511627776:=by
 unfold fq;rw[tB h];omega
theorem kQ {p:UInt8->Bool} {l:List UInt8} {j:Nat} (hj:j<=bS p l) (hlt: ¬j<l.length):bS p l=j:=by
 have:=eY p l;omega
theorem kn {p:UInt8->Bool} {l:List UInt8} {j:Nat} (hj:j<=bS p l) (hlt:j<l.length) (h:p l[j]=false):bS p l=j:=by
 have h1:=gh p l j hj;rw[ia p hlt,h]at h1;simpa using h1
theorem p_ (c:UInt8) (m:List UInt8) (hc:cX c=true) (hl:(c::m).length<=100000) (w:World):Calls prog 102 #[.string (ae (c::m))] w fun e w'=>e= .returned (aY (eP (c::m)))/\al w w':=by
 have hsz:(ae (c::m)).size=m.length+1:=by rw[aM];rfl
 have h0:0<(ae (c::m)).size:=by rw[hsz];omega
 have hg0:(ae (c::m))[0]=c:=rfl;have hl1:m.length<=99999:=by simpa using hl
 have HC:=G hc;clear hc;go_enter func102,ntmps102;go_wp2_with fail
 go_loop [5,6] (fun vi vv=> ∃j:Nat,vi= .int .i64 (j:Int)/\vv= .int .i64 (fq (c::m) j:Int)/\Hid (j<=bS cX (c::m))) (fun vi _=>m.length+1-(intOf vi).toNat)
 case atStart=>exact⟨0,rfl,rfl,G (aB _)⟩
 case round=>
  obtain⟨j,rfl,rfl,HJ⟩:=hrel;have HX:=G (O w (.cells #[.int .i64 0, .string ⟨#[]⟩, .int .i64 0, .int .i64 0] 62));have HB:=G (ai w 62 #[.int .i64 0, .string ⟨#[]⟩, .int .i64 0, .int .i64 0]);have hjl:j<=m.length+1:=by have:=HJ.out;have:=eY cX (c::m);simp at this;omega
  have hsat:fq (c::m) j<=1099511627776:=Nat.min_le_right _ _;by_cases hlt:j<m.length+1
  ·have hns:j<(ae (c::m)).size:=by rw[hsz];exact hlt
   have hg:(ae (c::m))[j]=(c::m)[j]'hlt:=rfl;have hlt':(j:Int)<m.length+1:=by omega
   have HD:=G (fa ((c::m)[j]'hlt));have HI:=G (jf ((c::m)[j]'hlt));have HSP:=G (fun h=>kn (p:=cX) (l:=c::m) HJ.out hlt h);have HHD:=G (uE c m (n:=j) hlt);have hdr:=gh cX (c::m) j HJ.out;have hst:=ia cX (l:=c::m) (j:=j) hlt;have HSV:=G (sE (l:=c::m) (j:=j) hlt);generalize (c::m)[j]'hlt=d at*
   cases hp:cX d with
   |true=>
    have hd:48<=d.toNat/\d.toNat<=57:=by unfold cX at hp;simpa using hp
    have hd1:(48:Int)<=d.toNat:=by omega
    have hd2:(d.toNat:Int)<=57:=by omega
    have HJ2:=G (show j+1<=bS cX (c::m) by rw[hp,if_pos rfl]at hst;omega);rw[hp]at HD;clear HSP hp hst hdr HHD hd;by_cases hmx:10*fq (c::m) j+(d.toNat-48)<=1099511627776
    ·have hsv:fq (c::m) (j+1)=10*fq (c::m) j+(d.toNat-48):=by rw[HSV.out];omega
     have HSV2:=G (show(fq (c::m) (j+1):Int)=10*(fq (c::m) j:Int)+((d.toNat:Int)-48) by omega);have hmx':10*(fq (c::m) j:Int)+((d.toNat:Int)-48)<=1099511627776:=by omega
     generalize fq (c::m) j=sv at*;clear hsv hmx HSV;go_wp2_with (go_at_call 101;refine(HD.out _).mono ?_;rintro e w' ⟨rfl,rfl⟩)
     go_round
     case rel=>exact⟨j+1,by go_num,by rw[HSV2.out];go_num,HJ2⟩
     case measure=>simp[intOf];omega
    ·have hsv:fq (c::m) (j+1)=1099511627776:=by rw[HSV.out];omega
     have HSV2:=G (show(fq (c::m) (j+1):Int)=1099511627776 by omega);have hmx': ¬10*(fq (c::m) j:Int)+((d.toNat:Int)-48)<=1099511627776:=by omega
     generalize fq (c::m) j=sv at*;clear hsv hmx HSV;go_wp2_with (go_at_call 101;refine(HD.out _).mono ?_;rintro e w' ⟨rfl,rfl⟩)
     go_round
     case rel=>exact⟨j+1,by go_num,by rw[HSV2.out];go_num,HJ2⟩
     case measure=>simp[intOf];omega
   |false=>
    have hn:=HSP.out hp;rw[hp]at HD;clear HSP hp hst hdr HSV
    cases hq:c_ d with
    |true=>
     rw[hq]at HI;have HR:=G (show eP (c::m)= .error 3 by rw[kX c m hn rfl,HHD.out,hq,if_pos rfl]);clear HHD hq hn;generalize fq (c::m) j=sv at*
     go_wp2_with (first
      |(go_at_call 101;refine(HD.out _).mono ?_;rintro e w' ⟨rfl,rfl⟩)
      |(go_at_call 95;refine(HI.out _).mono ?_;rintro e w' ⟨rfl,rfl⟩))
     exact bodyPost_ret (v:=aY (.error 3)) (by first|(simp[results,results102,go_sem,aY];done)|(simp[results,results102,go_sem,aY];rfl)) rfl ⟨by rw[HR.out],O w _⟩
    |false=>
     rw[hq]at HI;have hH:((c::m).drop j).head?.any c_=false:=HHD.out.trans hq;have HT:=G (kX c m hn rfl);clear HHD hq hn;have hvr:fq (c::m) j<=2147483647->(gY ((c::m).take j):Int)=(fq (c::m) j:Int):=by unfold fq;omega
     have hvn:fq (c::m) j<=2147483647-> ¬2147483647<gY ((c::m).take j):=by unfold fq;omega
     have hvg:2147483647<fq (c::m) j->2147483647<gY ((c::m).take j):=by unfold fq;omega
     generalize fq (c::m) j=sv at*;by_cases hA:10<j
     ·have hA':(10:Int)<j:=by omega
      have HR:=G (show eP (c::m)= .error 2 by rw[HT.out,hH,if_neg (by simp),if_pos (.inl hA)]);clear HT hH hvr hvn hvg
      go_wp2_with (first
       |(go_at_call 101;refine(HD.out _).mono ?_;rintro e w' ⟨rfl,rfl⟩)
       |(go_at_call 95;refine(HI.out _).mono ?_;rintro e w' ⟨rfl,rfl⟩))
      exact bodyPost_ret (v:=aY (.error 2)) (by first|(simp[results,results102,go_sem,aY];done)|(simp[results,results102,go_sem,aY];rfl)) rfl ⟨by rw[HR.out],O w _⟩
     ·have hA': ¬(10:Int)<j:=by omega
      by_cases hV:2147483647<sv
      ·have hV':(2147483647:Int)<sv:=by omega
       have HR:=G (show eP (c::m)= .error 2 by rw[HT.out,hH,if_neg (by simp),if_pos (.inr (.inr (hvg hV)))]);clear HT hH hvr hvn hvg
       go_wp2_with (first
        |(go_at_call 101;refine(HD.out _).mono ?_;rintro e w' ⟨rfl,rfl⟩)
        |(go_at_call 95;refine(HI.out _).mono ?_;rintro e w' ⟨rfl,rfl⟩))
       exact bodyPost_ret (v:=aY (.error 2)) (by first|(simp[results,results102,go_sem,aY];done)|(simp[results,results102,go_sem,aY];rfl)) rfl ⟨by rw[HR.out],O w _⟩
      ·have hV': ¬(2147483647:Int)<sv:=by omega
       by_cases hB:1<j
       ·have hB':(1:Int)<j:=by omega
        by_cases hC:c=48
        ·have hC':((c.toNat:Int)==48)=true:=by rw[hC];rfl
         have HR:=G (show eP (c::m)= .error 2 by rw[HT.out,hH,if_neg (by simp),if_pos (.inr (.inl ⟨hB,hC⟩))]);clear HT hH hvr hvn hvg hC
         go_wp2_with (first
          |(go_at_call 101;refine(HD.out _).mono ?_;rintro e w' ⟨rfl,rfl⟩)
          |(go_at_call 95;refine(HI.out _).mono ?_;rintro e w' ⟨rfl,rfl⟩))
         exact bodyPost_ret (v:=aY (.error 2)) (by first|(simp[results,results102,go_sem,aY];done)|(simp[results,results102,go_sem,aY];rfl)) rfl ⟨by rw[HR.out],O w _⟩
        ·have hC':((c.toNat:Int)==48)=false:=(bQ c 48 (by omega)).trans (beq_eq_false_iff_ne.2 hC);have HR:=G (show eP (c::m)= .ok ((3,[],(sv:Int)),j) by rw[HT.out,hH,if_neg (by simp),if_neg (by rintro(h|h|h);exact hA h;exact(fun h:1<j/\c=48=>hC h.2) h;exact hvn (by omega) h),hvr (by omega)]);clear HT hH hvr hvn hvg hC
         go_wp2_with (first
          |(go_at_call 101;refine(HD.out _).mono ?_;rintro e w' ⟨rfl,rfl⟩)
          |(go_at_call 95;refine(HI.out _).mono ?_;rintro e w' ⟨rfl,rfl⟩))
         exact bodyPost_ret (v:=aY (.ok ((3,[],(sv:Int)),j))) (by first|(simp[results,results102,go_sem,aY];done)|(simp[results,results102,go_sem,aY];rfl)) rfl ⟨by rw[HR.out],O w _⟩
       ·have hB': ¬(1:Int)<j:=by omega
        have HR:=G (show eP (c::m)= .ok ((3,[],(sv:Int)),j) by rw[HT.out,hH,if_neg (by simp),if_neg (by rintro(h|h|h);exact hA h;exact(fun h:1<j/\c=48=>hB h.1) h;exact hvn (by omega) h),hvr (by omega)]);clear HT hH hvr hvn hvg
        go_wp2_with (first
         |(go_at_call 101;refine(HD.out _).mono ?_;rintro e w' ⟨rfl,rfl⟩)
         |(go_at_call 95;refine(HI.out _).mono ?_;rintro e w' ⟨rfl,rfl⟩))
        exact bodyPost_ret (v:=aY (.ok ((3,[],(sv:Int)),j))) (by first|(simp[results,results102,go_sem,aY];done)|(simp[results,results102,go_sem,aY];rfl)) rfl ⟨by rw[HR.out],O w _⟩
  ·have hlt': ¬(j:Int)<m.length+1:=by omega
   have HD:=G (fa 0);have HI:=G (jf 0);have hH:=r6 c m hjl hlt;have hn:=kQ HJ.out hlt;have HT:=G (kX c m hn rfl);clear hn;have hvr:fq (c::m) j<=2147483647->(gY ((c::m).take j):Int)=(fq (c::m) j:Int):=by unfold fq;omega
   have hvn:fq (c::m) j<=2147483647-> ¬2147483647<gY ((c::m).take j):=by unfold fq;omega
   have hvg:2147483647<fq (c::m) j->2147483647<gY ((c::m).take j):=by unfold fq;omega
   generalize fq (c::m) j=sv at*;by_cases hA:10<j
   ·have hA':(10:Int)<j:=by omega
    have HR:=G (show eP (c::m)= .error 2 by rw[HT.out,hH,if_neg (by simp),if_pos (.inl hA)]);clear HT hH hvr hvn hvg
    go_wp2_with (first
     |(go_at_call 101;refine(HD.out _).mono ?_;rintro e w' ⟨rfl,rfl⟩)
     |(go_at_call 95;refine(HI.out _).mono ?_;rintro e w' ⟨rfl,rfl⟩))
    exact bodyPost_ret (v:=aY (.error 2)) (by first|(simp[results,results102,go_sem,aY];done)|(simp[results,results102,go_sem,aY];rfl)) rfl ⟨by rw[HR.out],O w _⟩
   ·have hA': ¬(10:Int)<j:=by omega
    by_cases hV:2147483647<sv
    ·have hV':(2147483647:Int)<sv:=by omega
     have HR:=G (show eP (c::m)= .error 2 by rw[HT.out,hH,if_neg (by simp),if_pos (.inr (.inr (hvg hV)))]);clear HT hH hvr hvn hvg
     go_wp2_with (first
      |(go_at_call 101;refine(HD.out _).mono ?_;rintro e w' ⟨rfl,rfl⟩)
      |(go_at_call 95;refine(HI.out _).mono ?_;rintro e w' ⟨rfl,rfl⟩))
     exact bodyPost_ret (v:=aY (.error 2)) (by first|(simp[results,results102,go_sem,aY];done)|(simp[results,results102,go_sem,aY];rfl)) rfl ⟨by rw[HR.out],O w _⟩
    ·have hV': ¬(2147483647:Int)<sv:=by omega
     by_cases hB:1<j
     ·have hB':(1:Int)<j:=by omega
      by_cases hC:c=48
      ·have hC':((c.toNat:Int)==48)=true:=by rw[hC];rfl
       have HR:=G (show eP (c::m)= .error 2 by rw[HT.out,hH,if_neg (by simp),if_pos (.inr (.inl ⟨hB,hC⟩))]);clear HT hH hvr hvn hvg hC
       go_wp2_with (first
        |(go_at_call 101;refine(HD.out _).mono ?_;rintro e w' ⟨rfl,rfl⟩)
        |(go_at_call 95;refine(HI.out _).mono ?_;rintro e w' ⟨rfl,rfl⟩))
       exact bodyPost_ret (v:=aY (.error 2)) (by first|(simp[results,results102,go_sem,aY];done)|(simp[results,results102,go_sem,aY];rfl)) rfl ⟨by rw[HR.out],O w _⟩
      ·have hC':((c.toNat:Int)==48)=false:=(bQ c 48 (by omega)).trans (beq_eq_false_iff_ne.2 hC);have HR:=G (show eP (c::m)= .ok ((3,[],(sv:Int)),j) by rw[HT.out,hH,if_neg (by simp),if_neg (by rintro(h|h|h);exact hA h;exact(fun h:1<j/\c=48=>hC h.2) h;exact hvn (by omega) h),hvr (by omega)]);clear HT hH hvr hvn hvg hC
       go_wp2_with (first
        |(go_at_call 101;refine(HD.out _).mono ?_;rintro e w' ⟨rfl,rfl⟩)
        |(go_at_call 95;refine(HI.out _).mono ?_;rintro e w' ⟨rfl,rfl⟩))
       exact bodyPost_ret (v:=aY (.ok ((3,[],(sv:Int)),j))) (by first|(simp[results,results102,go_sem,aY];done)|(simp[results,results102,go_sem,aY];rfl)) rfl ⟨by rw[HR.out],O w _⟩
     ·have hB': ¬(1:Int)<j:=by omega
      have HR:=G (show eP (c::m)= .ok ((3,[],(sv:Int)),j) by rw[HT.out,hH,if_neg (by simp),if_neg (by rintro(h|h|h);exact hA h;exact(fun h:1<j/\c=48=>hB h.1) h;exact hvn (by omega) h),hvr (by omega)]);clear HT hH hvr hvn hvg
      go_wp2_with (first
       |(go_at_call 101;refine(HD.out _).mono ?_;rintro e w' ⟨rfl,rfl⟩)
       |(go_at_call 95;refine(HI.out _).mono ?_;rintro e w' ⟨rfl,rfl⟩))
      exact bodyPost_ret (v:=aY (.ok ((3,[],(sv:Int)),j))) (by first|(simp[results,results102,go_sem,aY];done)|(simp[results,results102,go_sem,aY];rfl)) rfl ⟨by rw[HR.out],O w _⟩
def lN:=@fx.nil_
end
end Go.Proofs.YtelplgkppalmfaaGreatDoor
