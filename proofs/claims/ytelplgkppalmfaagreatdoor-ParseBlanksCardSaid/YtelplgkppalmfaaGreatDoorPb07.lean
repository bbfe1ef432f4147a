/-
  Parts of the proof: LexH LexI LexJ LexK.
-/
import Derived.Test.YtelplgkppalmfaaGreatDoorPb06
set_option maxRecDepth 100000
set_option maxHeartbeats 8000000
set_option linter.unusedVariables false
set_option linter.unusedSimpArgs false
namespace Go.Proofs.YtelplgkppalmfaaGreatDoor
open Go.Proofs.Tryz
open Go.RowKit
theorem num_spec (c:UInt8) (m:List UInt8) {n:Nat} {x:List UInt8} (hn:spanN digB (c::m)=n) (hx:(c::m).take n=x):numT (c::m)=if((c::m).drop n).head?.any prtB then .error 3 else if 10<n\/(1<n/\c=48)\/2147483647<decV x then .error 2 else .ok ((3,[],decV x),n):=by
 subst hn;subst hx;unfold numT;simp
theorem num_end (c:UInt8) (m:List UInt8) {n:Nat} (hle:n<=m.length+1) (hlt: ¬n<m.length+1):((c::m).drop n).head?.any prtB=false:=by
 rw[List.drop_of_length_le (by simp;omega)];rfl
theorem num_in (c:UInt8) (m:List UInt8) {n:Nat} (hlt:n<(c::m).length):((c::m).drop n).head?.any prtB=prtB (c::m)[n]:=by
 rw[head_drop _ _ hlt];rfl
theorem number_any (c:UInt8) (m:List UInt8) (hc:digB c=true) (hl:(c::m).length<=100000) (w:World) (hz:EZ w):Calls prog 111 #[.string (str (c::m))] w fun e w'=>e= .returned (tokV (numT (c::m)))/\Ext w w':=by
 have hsz:(str (c::m)).size=m.length+1:=by rw[str_size];rfl
 have h0:0<(str (c::m)).size:=by rw[hsz];omega
 have hg0:(str (c::m))[0]=c:=rfl;have hl1:m.length<=99999:=by simpa using hl
 have hle:spanN digB (c::m)<=m.length+1:=spanN_le digB (c::m);have hn1:1<=spanN digB (c::m):=by simp[spanN,hc]
 have hall:=spanN_all digB (c::m);have hex:=str_extract (c::m) 0 (spanN digB (c::m));simp only[List.drop_zero]at hex;have HSP:=hide (fun w=>span_any digB 110 digit_any (.inr rfl) (c::m) hl w);have HTX:=fun x h=>hide (num_spec c m (n:=spanN digB (c::m)) (x:=x) rfl h);have HX0:=hide (Ext.alloc w (.cells #[.int .i64 0, .string ⟨#[]⟩, .int .i64 0, .int .i64 0] 116));have HB0:=hide (Blk.new w 116 #[.int .i64 0, .string ⟨#[]⟩, .int .i64 0, .int .i64 0]);have hxne:(c::m).take (spanN digB (c::m))≠ []:=by intro h;have:=congrArg List.length h;simp at this;omega
 have hxl:((c::m).take (spanN digB (c::m))).length<=100000:=by have:=List.length_take_le' (spanN digB (c::m)) (c::m);omega
 obtain⟨v,hv,HA⟩:=atoi_any ((c::m).take (spanN digB (c::m))) hxne hxl hall _ (hz.ext HX0.out);have HA:=hide HA;have HT:=HTX _ rfl;clear HTX;generalize hn:spanN digB (c::m)=n at*;generalize hx:(c::m).take n=x at*;clear hn hxne hall hxl hx;have hvr:v<=2147483647->v=decV x:=by omega
 have hvg:2147483647<v->2147483647<decV x:=by omega
 have hv1:v<=2147483647-> ¬2147483647<decV x:=by omega
 clear hv;by_cases hlt:n<m.length+1
 ·have hns:n<(str (c::m)).size:=by rw[hsz];exact hlt
  have hg:(str (c::m))[n]=(c::m)[n]'hlt:=rfl;have hH:=num_in c m (n:=n) hlt;have HPT:=hide (part_any ((c::m)[n]'hlt));have hlt':(n:Int)<m.length+1:=by omega
  generalize (c::m)[n]'hlt=d at*
  cases hp:prtB d with
  |true=>
   rw[hp]at HPT hH;have HR:=hide (show numT (c::m)= .error 3 by rw[HT.out,hH,if_pos rfl]);clear hH hp;clear HT hc hvr hvg hv1;go_enter func111,ntmps111
   go_wp2_with (first
    |(go_at_call 137;refine(HSP.out _).mono ?_;rintro e w' ⟨rfl,rfl⟩)
    |(go_at_call 138;refine HA.out.mono ?_;rintro e w1 ⟨⟨er,rfl⟩,hE⟩;have HB:=hide (HB0.out.ext hE);have HX:=hide (HX0.out.trans hE);clear hE;have hbc:=HB.out.cell;have hbf:=HB.out.frozen)
    |(go_at_call 74;refine(HPT.out _).mono ?_;rintro e w' ⟨rfl,rfl⟩))
   have hset:=(HB.out.put4 (.int .i64 0) (.string ⟨#[]⟩) (.int .i64 0) (.int .i64 0)).cell;exact bodyPost_ret (v:=tokV (.error 3)) (by simp[results,results111,go_sem,tokV,hset]) rfl ⟨by rw[HR.out],HX.out.put4 (Nat.le_refl _) _ _ _ _⟩
  |false=>
   rw[hp]at HPT hH;clear hp;by_cases hA:10<n
   ·have hA':(10:Int)<n:=by omega
    have HR:=hide (show numT (c::m)= .error 2 by rw[HT.out,hH,if_neg (by simp),if_pos (.inl hA)]);clear hH;clear HT hc hvr hvg hv1;go_enter func111,ntmps111
    go_wp2_with (first
     |(go_at_call 137;refine(HSP.out _).mono ?_;rintro e w' ⟨rfl,rfl⟩)
     |(go_at_call 138;refine HA.out.mono ?_;rintro e w1 ⟨⟨er,rfl⟩,hE⟩;have HB:=hide (HB0.out.ext hE);have HX:=hide (HX0.out.trans hE);clear hE;have hbc:=HB.out.cell;have hbf:=HB.out.frozen)
     |(go_at_call 74;refine(HPT.out _).mono ?_;rintro e w' ⟨rfl,rfl⟩))
    have hset:=(HB.out.put4 (.int .i64 0) (.string ⟨#[]⟩) (.int .i64 0) (.int .i64 0)).cell;exact bodyPost_ret (v:=tokV (.error 2)) (by simp[results,results111,go_sem,tokV,hset]) rfl ⟨by rw[HR.out],HX.out.put4 (Nat.le_refl _) _ _ _ _⟩
   ·have hA': ¬(10:Int)<n:=by omega
    by_cases hB:1<n
    ·have hB':(1:Int)<n:=by omega
     by_cases hC:c=48
     ·have hC':((c.toNat:Int)==48)=true:=by rw[hC];rfl
      have HR:=hide (show numT (c::m)= .error 2 by rw[HT.out,hH,if_neg (by simp),if_pos (.inr (.inl ⟨hB,hC⟩))]);clear hH hC;clear HT hc hvr hvg hv1;go_enter func111,ntmps111
      go_wp2_with (first
       |(go_at_call 137;refine(HSP.out _).mono ?_;rintro e w' ⟨rfl,rfl⟩)
       |(go_at_call 138;refine HA.out.mono ?_;rintro e w1 ⟨⟨er,rfl⟩,hE⟩;have HB:=hide (HB0.out.ext hE);have HX:=hide (HX0.out.trans hE);clear hE;have hbc:=HB.out.cell;have hbf:=HB.out.frozen)
       |(go_at_call 74;refine(HPT.out _).mono ?_;rintro e w' ⟨rfl,rfl⟩))
      have hset:=(HB.out.put4 (.int .i64 0) (.string ⟨#[]⟩) (.int .i64 0) (.int .i64 0)).cell;exact bodyPost_ret (v:=tokV (.error 2)) (by simp[results,results111,go_sem,tokV,hset]) rfl ⟨by rw[HR.out],HX.out.put4 (Nat.le_refl _) _ _ _ _⟩
     ·have hC':((c.toNat:Int)==48)=false:=(u8_eqI c 48 (by omega)).trans (beq_eq_false_iff_ne.2 hC);by_cases hV:2147483647<v
      ·have HR:=hide (show numT (c::m)= .error 2 by rw[HT.out,hH,if_neg (by simp),if_pos (.inr (.inr (hvg hV)))]);clear hH;clear hC;clear HT hc hvr hvg hv1;go_enter func111,ntmps111
       go_wp2_with (first
        |(go_at_call 137;refine(HSP.out _).mono ?_;rintro e w' ⟨rfl,rfl⟩)
        |(go_at_call 138;refine HA.out.mono ?_;rintro e w1 ⟨⟨er,rfl⟩,hE⟩;have HB:=hide (HB0.out.ext hE);have HX:=hide (HX0.out.trans hE);clear hE;have hbc:=HB.out.cell;have hbf:=HB.out.frozen)
        |(go_at_call 74;refine(HPT.out _).mono ?_;rintro e w' ⟨rfl,rfl⟩))
       have hset:=(HB.out.put4 (.int .i64 0) (.string ⟨#[]⟩) (.int .i64 0) (.int .i64 0)).cell;exact bodyPost_ret (v:=tokV (.error 2)) (by simp[results,results111,go_sem,tokV,hset]) rfl ⟨by rw[HR.out],HX.out.put4 (Nat.le_refl _) _ _ _ _⟩
      ·have HR:=hide (show numT (c::m)= .ok ((3,[],v),n) by rw[HT.out,hH,if_neg (by simp),if_neg (by rintro(h|h|h);exact hA h;exact(fun h:1<n/\c=48=>hC h.2) h;exact hv1 (by omega) h),hvr (by omega)]);clear hH;clear hC;clear HT hc hvr hvg hv1;go_enter func111,ntmps111
       go_wp2_with (first
        |(go_at_call 137;refine(HSP.out _).mono ?_;rintro e w' ⟨rfl,rfl⟩)
        |(go_at_call 138;refine HA.out.mono ?_;rintro e w1 ⟨⟨er,rfl⟩,hE⟩;have HB:=hide (HB0.out.ext hE);have HX:=hide (HX0.out.trans hE);clear hE;have hbc:=HB.out.cell;have hbf:=HB.out.frozen)
        |(go_at_call 74;refine(HPT.out _).mono ?_;rintro e w' ⟨rfl,rfl⟩))
       have hset:=(HB.out.put4 (.int .i64 3) (.string ⟨#[]⟩) (.int .i64 v) (.int .i64 0)).cell;exact bodyPost_ret (v:=tokV (.ok ((3,[],v),n))) (by simp[results,results111,go_sem,tokV,hset];rfl) rfl ⟨by rw[HR.out],HX.out.put4 (Nat.le_refl _) _ _ _ _⟩
    ·have hB': ¬(1:Int)<n:=by omega
     by_cases hV:2147483647<v
     ·have HR:=hide (show numT (c::m)= .error 2 by rw[HT.out,hH,if_neg (by simp),if_pos (.inr (.inr (hvg hV)))]);clear hH;clear HT hc hvr hvg hv1;go_enter func111,ntmps111
      go_wp2_with (first
       |(go_at_call 137;refine(HSP.out _).mono ?_;rintro e w' ⟨rfl,rfl⟩)
       |(go_at_call 138;refine HA.out.mono ?_;rintro e w1 ⟨⟨er,rfl⟩,hE⟩;have HB:=hide (HB0.out.ext hE);have HX:=hide (HX0.out.trans hE);clear hE;have hbc:=HB.out.cell;have hbf:=HB.out.frozen)
       |(go_at_call 74;refine(HPT.out _).mono ?_;rintro e w' ⟨rfl,rfl⟩))
      have hset:=(HB.out.put4 (.int .i64 0) (.string ⟨#[]⟩) (.int .i64 0) (.int .i64 0)).cell;exact bodyPost_ret (v:=tokV (.error 2)) (by simp[results,results111,go_sem,tokV,hset]) rfl ⟨by rw[HR.out],HX.out.put4 (Nat.le_refl _) _ _ _ _⟩
     ·have HR:=hide (show numT (c::m)= .ok ((3,[],v),n) by rw[HT.out,hH,if_neg (by simp),if_neg (by rintro(h|h|h);exact hA h;exact(fun h:1<n/\c=48=>hB h.1) h;exact hv1 (by omega) h),hvr (by omega)]);clear hH;clear HT hc hvr hvg hv1;go_enter func111,ntmps111
      go_wp2_with (first
       |(go_at_call 137;refine(HSP.out _).mono ?_;rintro e w' ⟨rfl,rfl⟩)
       |(go_at_call 138;refine HA.out.mono ?_;rintro e w1 ⟨⟨er,rfl⟩,hE⟩;have HB:=hide (HB0.out.ext hE);have HX:=hide (HX0.out.trans hE);clear hE;have hbc:=HB.out.cell;have hbf:=HB.out.frozen)
       |(go_at_call 74;refine(HPT.out _).mono ?_;rintro e w' ⟨rfl,rfl⟩))
      have hset:=(HB.out.put4 (.int .i64 3) (.string ⟨#[]⟩) (.int .i64 v) (.int .i64 0)).cell;exact bodyPost_ret (v:=tokV (.ok ((3,[],v),n))) (by simp[results,results111,go_sem,tokV,hset];rfl) rfl ⟨by rw[HR.out],HX.out.put4 (Nat.le_refl _) _ _ _ _⟩
 ·have hlt': ¬(n:Int)<m.length+1:=by omega
  have hH:=num_end c m hle hlt;have HPT:=hide (part_any 0);by_cases hA:10<n
  ·have hA':(10:Int)<n:=by omega
   have HR:=hide (show numT (c::m)= .error 2 by rw[HT.out,hH,if_neg (by simp),if_pos (.inl hA)]);clear hH;clear HT hc hvr hvg hv1;go_enter func111,ntmps111
   go_wp2_with (first
    |(go_at_call 137;refine(HSP.out _).mono ?_;rintro e w' ⟨rfl,rfl⟩)
    |(go_at_call 138;refine HA.out.mono ?_;rintro e w1 ⟨⟨er,rfl⟩,hE⟩;have HB:=hide (HB0.out.ext hE);have HX:=hide (HX0.out.trans hE);clear hE;have hbc:=HB.out.cell;have hbf:=HB.out.frozen)
    |(go_at_call 74;refine(HPT.out _).mono ?_;rintro e w' ⟨rfl,rfl⟩))
   have hset:=(HB.out.put4 (.int .i64 0) (.string ⟨#[]⟩) (.int .i64 0) (.int .i64 0)).cell;exact bodyPost_ret (v:=tokV (.error 2)) (by simp[results,results111,go_sem,tokV,hset]) rfl ⟨by rw[HR.out],HX.out.put4 (Nat.le_refl _) _ _ _ _⟩
  ·have hA': ¬(10:Int)<n:=by omega
   by_cases hB:1<n
   ·have hB':(1:Int)<n:=by omega
    by_cases hC:c=48
    ·have hC':((c.toNat:Int)==48)=true:=by rw[hC];rfl
     have HR:=hide (show numT (c::m)= .error 2 by rw[HT.out,hH,if_neg (by simp),if_pos (.inr (.inl ⟨hB,hC⟩))]);clear hH hC;clear HT hc hvr hvg hv1;go_enter func111,ntmps111
     go_wp2_with (first
      |(go_at_call 137;refine(HSP.out _).mono ?_;rintro e w' ⟨rfl,rfl⟩)
      |(go_at_call 138;refine HA.out.mono ?_;rintro e w1 ⟨⟨er,rfl⟩,hE⟩;have HB:=hide (HB0.out.ext hE);have HX:=hide (HX0.out.trans hE);clear hE;have hbc:=HB.out.cell;have hbf:=HB.out.frozen)
      |(go_at_call 74;refine(HPT.out _).mono ?_;rintro e w' ⟨rfl,rfl⟩))
     have hset:=(HB.out.put4 (.int .i64 0) (.string ⟨#[]⟩) (.int .i64 0) (.int .i64 0)).cell;exact bodyPost_ret (v:=tokV (.error 2)) (by simp[results,results111,go_sem,tokV,hset]) rfl ⟨by rw[HR.out],HX.out.put4 (Nat.le_refl _) _ _ _ _⟩
    ·have hC':((c.toNat:Int)==48)=false:=(u8_eqI c 48 (by omega)).trans (beq_eq_false_iff_ne.2 hC);by_cases hV:2147483647<v
     ·have HR:=hide (show numT (c::m)= .error 2 by rw[HT.out,hH,if_neg (by simp),if_pos (.inr (.inr (hvg hV)))]);clear hH;clear hC;clear HT hc hvr hvg hv1;go_enter func111,ntmps111
      go_wp2_with (first
       |(go_at_call 137;refine(HSP.out _).mono ?_;rintro e w' ⟨rfl,rfl⟩)
       |(go_at_call 138;refine HA.out.mono ?_;rintro e w1 ⟨⟨er,rfl⟩,hE⟩;have HB:=hide (HB0.out.ext hE);have HX:=hide (HX0.out.trans hE);clear hE;have hbc:=HB.out.cell;have hbf:=HB.out.frozen)
       |(go_at_call 74;refine(HPT.out _).mono ?_;rintro e w' ⟨rfl,rfl⟩))
      have hset:=(HB.out.put4 (.int .i64 0) (.string ⟨#[]⟩) (.int .i64 0) (.int .i64 0)).cell;exact bodyPost_ret (v:=tokV (.error 2)) (by simp[results,results111,go_sem,tokV,hset]) rfl ⟨by rw[HR.out],HX.out.put4 (Nat.le_refl _) _ _ _ _⟩
     ·have HR:=hide (show numT (c::m)= .ok ((3,[],v),n) by rw[HT.out,hH,if_neg (by simp),if_neg (by rintro(h|h|h);exact hA h;exact(fun h:1<n/\c=48=>hC h.2) h;exact hv1 (by omega) h),hvr (by omega)]);clear hH;clear hC;clear HT hc hvr hvg hv1;go_enter func111,ntmps111
      go_wp2_with (first
       |(go_at_call 137;refine(HSP.out _).mono ?_;rintro e w' ⟨rfl,rfl⟩)
       |(go_at_call 138;refine HA.out.mono ?_;rintro e w1 ⟨⟨er,rfl⟩,hE⟩;have HB:=hide (HB0.out.ext hE);have HX:=hide (HX0.out.trans hE);clear hE;have hbc:=HB.out.cell;have hbf:=HB.out.frozen)
       |(go_at_call 74;refine(HPT.out _).mono ?_;rintro e w' ⟨rfl,rfl⟩))
      have hset:=(HB.out.put4 (.int .i64 3) (.string ⟨#[]⟩) (.int .i64 v) (.int .i64 0)).cell;exact bodyPost_ret (v:=tokV (.ok ((3,[],v),n))) (by simp[results,results111,go_sem,tokV,hset];rfl) rfl ⟨by rw[HR.out],HX.out.put4 (Nat.le_refl _) _ _ _ _⟩
   ·have hB': ¬(1:Int)<n:=by omega
    by_cases hV:2147483647<v
    ·have HR:=hide (show numT (c::m)= .error 2 by rw[HT.out,hH,if_neg (by simp),if_pos (.inr (.inr (hvg hV)))]);clear hH;clear HT hc hvr hvg hv1;go_enter func111,ntmps111
     go_wp2_with (first
      |(go_at_call 137;refine(HSP.out _).mono ?_;rintro e w' ⟨rfl,rfl⟩)
      |(go_at_call 138;refine HA.out.mono ?_;rintro e w1 ⟨⟨er,rfl⟩,hE⟩;have HB:=hide (HB0.out.ext hE);have HX:=hide (HX0.out.trans hE);clear hE;have hbc:=HB.out.cell;have hbf:=HB.out.frozen)
      |(go_at_call 74;refine(HPT.out _).mono ?_;rintro e w' ⟨rfl,rfl⟩))
     have hset:=(HB.out.put4 (.int .i64 0) (.string ⟨#[]⟩) (.int .i64 0) (.int .i64 0)).cell;exact bodyPost_ret (v:=tokV (.error 2)) (by simp[results,results111,go_sem,tokV,hset]) rfl ⟨by rw[HR.out],HX.out.put4 (Nat.le_refl _) _ _ _ _⟩
    ·have HR:=hide (show numT (c::m)= .ok ((3,[],v),n) by rw[HT.out,hH,if_neg (by simp),if_neg (by rintro(h|h|h);exact hA h;exact(fun h:1<n/\c=48=>hB h.1) h;exact hv1 (by omega) h),hvr (by omega)]);clear hH;clear HT hc hvr hvg hv1;go_enter func111,ntmps111
     go_wp2_with (first
      |(go_at_call 137;refine(HSP.out _).mono ?_;rintro e w' ⟨rfl,rfl⟩)
      |(go_at_call 138;refine HA.out.mono ?_;rintro e w1 ⟨⟨er,rfl⟩,hE⟩;have HB:=hide (HB0.out.ext hE);have HX:=hide (HX0.out.trans hE);clear hE;have hbc:=HB.out.cell;have hbf:=HB.out.frozen)
      |(go_at_call 74;refine(HPT.out _).mono ?_;rintro e w' ⟨rfl,rfl⟩))
     have hset:=(HB.out.put4 (.int .i64 3) (.string ⟨#[]⟩) (.int .i64 v) (.int .i64 0)).cell;exact bodyPost_ret (v:=tokV (.ok ((3,[],v),n))) (by simp[results,results111,go_sem,tokV,hset];rfl) rfl ⟨by rw[HR.out],HX.out.put4 (Nat.le_refl _) _ _ _ _⟩
theorem tokV_shape (r:TokR): ∃k s v n e,tokV r= .tuple #[.agg #[.int .i64 k, .string s, .int .i64 v, .int .i64 0], .int .i64 n, .int .i64 e]:=by
 cases r with
 |ok x=>exact⟨_,_,_,_,_,rfl⟩
 |error e=>exact⟨_,_,_,_,_,rfl⟩
theorem tok_spec (c:UInt8) (m:List UInt8):tokT (c::m)=if letB c then wordT (c::m)else if digB c then numT (c::m)else if c=39 then charT (c::m)else if c=34 then textT (c::m)else markT (c::m):=rfl
theorem token_any (c:UInt8) (m:List UInt8) (hl:(c::m).length<=100000) (w:World) (hz:EZ w):Calls prog 60 #[.string (str (c::m))] w fun e w'=>e= .returned (tokV (tokT (c::m)))/\Ext w w':=by
 have hsz:(str (c::m)).size=m.length+1:=by rw[str_size];rfl
 have h0:0<(str (c::m)).size:=by rw[hsz];omega
 have hg0:(str (c::m))[0]=c:=rfl;have hl1:m.length<=99999:=by simpa using hl
 have HL:=hide (letter_any c);have HD:=hide (digit_any c);have HX0:=hide (Ext.alloc w (.cells #[.int .i64 0, .string ⟨#[]⟩, .int .i64 0, .int .i64 0] 116));have HB0:=hide (Blk.new w 116 #[.int .i64 0, .string ⟨#[]⟩, .int .i64 0, .int .i64 0]);have HT:=hide (tok_spec c m)
 cases hL:letB c with
 |true=>
  rw[hL]at HL;have HR:=hide (show tokT (c::m)=wordT (c::m) by rw[HT.out,hL,if_pos rfl]);obtain⟨k,s,v,n,e,hr⟩:=tokV_shape (wordT (c::m));have HF:=hide (word_any (c::m) hl (w.alloc (.cells #[.int .i64 0, .string ⟨#[]⟩, .int .i64 0, .int .i64 0] 116)));rw[hr]at HF;have HV:=hide hr;clear hL HT hr hz;go_enter func60,ntmps60
  go_wp2_with (first
   |(go_at_call 75;refine(HL.out _).mono ?_;rintro e' w' ⟨rfl,rfl⟩)
   |(go_at_call 110;refine(HD.out _).mono ?_;rintro e' w' ⟨rfl,rfl⟩)
   |(go_at_call 109;refine HF.out.mono ?_;rintro e' w1 ⟨rfl,hE⟩;have HB:=hide (HB0.out.ext hE);have HX:=hide (HX0.out.trans hE);clear hE;have hbc:=HB.out.cell;have hbf:=HB.out.frozen))
  have hset:=(HB.out.put4 (.int .i64 k) (.string s) (.int .i64 v) (.int .i64 0)).cell;exact bodyPost_ret (v:= .tuple #[.agg #[.int .i64 k, .string s, .int .i64 v, .int .i64 0], .int .i64 n, .int .i64 e]) (by simp[results,results60,go_sem,hset]) rfl ⟨by rw[HR.out,HV.out],HX.out.put4 (Nat.le_refl _) _ _ _ _⟩
 |false=>
  rw[hL]at HL
  cases hD:digB c with
  |true=>
   rw[hD]at HD;have HR:=hide (show tokT (c::m)=numT (c::m) by rw[HT.out,hL,if_neg (by simp),hD,if_pos rfl]);obtain⟨k,s,v,n,e,hr⟩:=tokV_shape (numT (c::m));have HF:=hide (number_any c m hD hl (w.alloc (.cells #[.int .i64 0, .string ⟨#[]⟩, .int .i64 0, .int .i64 0] 116)) (hz.ext HX0.out));rw[hr]at HF;have HV:=hide hr;clear hL hD HT hr hz;go_enter func60,ntmps60
   go_wp2_with (first
    |(go_at_call 75;refine(HL.out _).mono ?_;rintro e' w' ⟨rfl,rfl⟩)
    |(go_at_call 110;refine(HD.out _).mono ?_;rintro e' w' ⟨rfl,rfl⟩)
    |(go_at_call 111;refine HF.out.mono ?_;rintro e' w1 ⟨rfl,hE⟩;have HB:=hide (HB0.out.ext hE);have HX:=hide (HX0.out.trans hE);clear hE;have hbc:=HB.out.cell;have hbf:=HB.out.frozen))
   have hset:=(HB.out.put4 (.int .i64 k) (.string s) (.int .i64 v) (.int .i64 0)).cell;exact bodyPost_ret (v:= .tuple #[.agg #[.int .i64 k, .string s, .int .i64 v, .int .i64 0], .int .i64 n, .int .i64 e]) (by simp[results,results60,go_sem,hset]) rfl ⟨by rw[HR.out,HV.out],HX.out.put4 (Nat.le_refl _) _ _ _ _⟩
  |false=>
   rw[hD]at HD;by_cases h39:c=39
   ·have HR:=hide (show tokT (c::m)=charT (c::m) by rw[HT.out,hL,if_neg (by simp),hD,if_neg (by simp),if_pos h39]);obtain⟨k,s,v,n,e,hr⟩:=tokV_shape (charT (c::m));have HF:=hide (char_any c m (by omega) (w.alloc (.cells #[.int .i64 0, .string ⟨#[]⟩, .int .i64 0, .int .i64 0] 116)));rw[hr]at HF;have HV:=hide hr;have hb39:((c.toNat:Int)==39)=true:=by rw[h39];rfl
    clear hL hD HT hr hz h39;go_enter func60,ntmps60
    go_wp2_with (first
     |(go_at_call 75;refine(HL.out _).mono ?_;rintro e' w' ⟨rfl,rfl⟩)
     |(go_at_call 110;refine(HD.out _).mono ?_;rintro e' w' ⟨rfl,rfl⟩)
     |(go_at_call 112;refine HF.out.mono ?_;rintro e' w1 ⟨rfl,hE⟩;have HB:=hide (HB0.out.ext hE);have HX:=hide (HX0.out.trans hE);clear hE;have hbc:=HB.out.cell;have hbf:=HB.out.frozen))
    have hset:=(HB.out.put4 (.int .i64 k) (.string s) (.int .i64 v) (.int .i64 0)).cell;exact bodyPost_ret (v:= .tuple #[.agg #[.int .i64 k, .string s, .int .i64 v, .int .i64 0], .int .i64 n, .int .i64 e]) (by simp[results,results60,go_sem,hset]) rfl ⟨by rw[HR.out,HV.out],HX.out.put4 (Nat.le_refl _) _ _ _ _⟩
   ·have hb39:((c.toNat:Int)==39)=false:=(u8_eqI c 39 (by omega)).trans (beq_eq_false_iff_ne.2 h39);by_cases h34:c=34
    ·have HR:=hide (show tokT (c::m)=textT (c::m) by rw[HT.out,hL,if_neg (by simp),hD,if_neg (by simp),if_neg h39,if_pos h34]);obtain⟨k,s,v,n,e,hr⟩:=tokV_shape (textT (c::m));have HF:=hide (text_any c m (by omega) (w.alloc (.cells #[.int .i64 0, .string ⟨#[]⟩, .int .i64 0, .int .i64 0] 116)));rw[hr]at HF;have HV:=hide hr;have hb34:((c.toNat:Int)==34)=true:=by rw[h34];rfl
     clear hL hD HT hr hz h39 h34;go_enter func60,ntmps60
     go_wp2_with (first
      |(go_at_call 75;refine(HL.out _).mono ?_;rintro e' w' ⟨rfl,rfl⟩)
      |(go_at_call 110;refine(HD.out _).mono ?_;rintro e' w' ⟨rfl,rfl⟩)
      |(go_at_call 113;refine HF.out.mono ?_;rintro e' w1 ⟨rfl,hE⟩;have HB:=hide (HB0.out.ext hE);have HX:=hide (HX0.out.trans hE);clear hE;have hbc:=HB.out.cell;have hbf:=HB.out.frozen))
     have hset:=(HB.out.put4 (.int .i64 k) (.string s) (.int .i64 v) (.int .i64 0)).cell;exact bodyPost_ret (v:= .tuple #[.agg #[.int .i64 k, .string s, .int .i64 v, .int .i64 0], .int .i64 n, .int .i64 e]) (by simp[results,results60,go_sem,hset]) rfl ⟨by rw[HR.out,HV.out],HX.out.put4 (Nat.le_refl _) _ _ _ _⟩
    ·have HR:=hide (show tokT (c::m)=markT (c::m) by rw[HT.out,hL,if_neg (by simp),hD,if_neg (by simp),if_neg h39,if_neg h34]);obtain⟨k,s,v,n,e,hr⟩:=tokV_shape (markT (c::m));have HF:=hide (mark_any c m (by omega) (w.alloc (.cells #[.int .i64 0, .string ⟨#[]⟩, .int .i64 0, .int .i64 0] 116)));rw[hr]at HF;have HV:=hide hr;have hb34:((c.toNat:Int)==34)=false:=(u8_eqI c 34 (by omega)).trans (beq_eq_false_iff_ne.2 h34);clear hL hD HT hr hz h39 h34;go_enter func60,ntmps60
     go_wp2_with (first
      |(go_at_call 75;refine(HL.out _).mono ?_;rintro e' w' ⟨rfl,rfl⟩)
      |(go_at_call 110;refine(HD.out _).mono ?_;rintro e' w' ⟨rfl,rfl⟩)
      |(go_at_call 114;refine HF.out.mono ?_;rintro e' w1 ⟨rfl,hE⟩;have HB:=hide (HB0.out.ext hE);have HX:=hide (HX0.out.trans hE);clear hE;have hbc:=HB.out.cell;have hbf:=HB.out.frozen))
     have hset:=(HB.out.put4 (.int .i64 k) (.string s) (.int .i64 v) (.int .i64 0)).cell;exact bodyPost_ret (v:= .tuple #[.agg #[.int .i64 k, .string s, .int .i64 v, .int .i64 0], .int .i64 n, .int .i64 e]) (by simp[results,results60,go_sem,hset]) rfl ⟨by rw[HR.out,HV.out],HX.out.put4 (Nat.le_refl _) _ _ _ _⟩
end Go.Proofs.YtelplgkppalmfaaGreatDoor
namespace Go.Proofs.YtelplgkppalmfaaGreatDoor
open Go.Proofs.Tryz
open Go.RowKit
def tkCells (t:Tok):List Value:=[.int .i64 t.k, .string (str t.t), .int .i64 t.v, .int .i64 t.f]
def tkRow (ts:List Tok):List Value:=ts.flatMap tkCells
theorem tkRow_app (a b:List Tok):tkRow (a++b)=tkRow a++tkRow b:=by simp[tkRow]
def OwnT (w:World) (base:Nat) (e:TypeId) (v:Value) (ts:List Tok):Prop:=w.ownsRow base e 4 v ts.length (tkRow ts)
theorem OwnT.nil_ (w:World) (base:Nat) (e:TypeId):OwnT w base e (.slice none 0 0) []:=World.ownsRow_nil w base e 4
theorem OwnT.form {w:World} {base:Nat} {e:TypeId} {v:Value} {ts:List Tok} (h:OwnT w base e v ts): ∃A cap,v= .slice A ts.length cap:=by
 rcases h.2 with⟨rfl,h0⟩|⟨g,cap,cur,rfl,_⟩
 ·exact⟨none,0,by rw[h0]⟩
 ·exact⟨_,_,rfl⟩
theorem OwnT.grown {w w':World} {base:Nat} {e:TypeId} {v:Value} {ts:List Tok} {row:Option Nat} (h:OwnT w base e v ts) (hg:w.grownBy w' row) (hr:v.ownBlock=none\/v.ownBlock≠row):OwnT w' base e v ts:=World.ownsRow.kept h hg hr
theorem OwnT.ext {w w':World} {base:Nat} {e:TypeId} {v:Value} {ts:List Tok} (h:OwnT w base e v ts) (he:Ext w w'):OwnT w' base e v ts:=h.grown (he.grownBy none) (by cases v.ownBlock<;>simp)
structure TokT (P:Program) (t e:TypeId):Prop where
 under:P.underlying t=some (.slice e)
 info:(P.info? e).map (fun i=>(i.zero,i.size,i.bytes))=some (some (.agg #[.int .i64 0, .string ⟨#[]⟩, .int .i64 0, .int .i64 0]),4,40)
theorem run_appendT {P:Program} {w:World} {t e:TypeId} (hT:TokT P t e) (ty:TypeId) (base:Nat) (v:Value) (ts:List Tok) (hown:OwnT w base e v ts) (g:Nat) (x:Tok)
  (hg:w.heap[g]? =some (.cells #[.int .i64 x.k, .string (str x.t), .int .i64 x.v, .int .i64 x.f] e (0,0))) (hb:ts.length<=1073741824) (hbase:base<=w.heap.size):
  ∃A' cap' w',(Builtin.append_ #[t,t] ty #[v, .slice (some ⟨g,0,none⟩) 1 1]).run P w= .ok (.slice A' (ts.length+1) cap') w'/\OwnT w' base e (.slice A' (ts.length+1) cap') (ts++[x])/\w.grownBy w' v.ownBlock/\
   (Value.ownBlock (.slice A' (ts.length+1) cap')=v.ownBlock\/Value.ownBlock (.slice A' (ts.length+1) cap')=some w.heap.size):=by
 obtain⟨i,hi,hz,hz1,hz2⟩:=info_parts hT.info;obtain⟨v',w',hr,h2,h3,_,h5⟩:=run_append_own_at (P:=P) w base t ty e i (.agg #[.int .i64 0, .string ⟨#[]⟩, .int .i64 0, .int .i64 0]) 4 40 hT.under hi hz hz1 hz2 rfl (by decide) v ts.length (tkRow ts) hown ⟨g,0,none⟩ 1 1 (tkCells x) rfl
  (fun j y hj=>by
   rw[Addr.add_lit,Nat.zero_add,cell_of_row w g j _ e (0,0) hg]
   simpa[tkCells]using hj) (by simp[tkCells,Value.oneCell']) (by simp only[maxLen];omega) (by omega) hbase
 have hO:OwnT w' base e v' (ts++[x]):=by
  unfold OwnT;rw[List.length_append,tkRow_app];simpa[tkRow]using h2
 obtain⟨A',cap',rfl⟩:=hO.form;rw[List.length_append]at hO hr h5;exact⟨A',cap',w',hr,hO,h3,h5⟩
theorem wpList_appendT {P:Program} {w:World} {ops:Array Oper} {rest:List Oper} {o:Oper} {a:Act} {Q:Exit->Act->World->Prop} {t e:TypeId} (hT:TokT P t e) (hgd:o.guard=none) (s x:Operand)
  (ho:o.op= .call {callee:= .builtin .append,args:= #[s,x],argTypes:= #[t,t]}) (base:Nat) (v:Value) (ts:List Tok) (hv:a.eval s=v) (hown:OwnT w base e v ts)
  (g:Nat) (y:Tok) (hx:a.eval x= .slice (some ⟨g,0,none⟩) 1 1) (hg:w.heap[g]? =some (.cells #[.int .i64 y.k, .string (str y.t), .int .i64 y.v, .int .i64 y.f] e (0,0))) (hb:ts.length<=1073741824) (hbase:base<=w.heap.size)
  (h: ∀A' cap' w',OwnT w' base e (.slice A' (ts.length+1) cap') (ts++[y])->w.grownBy w' v.ownBlock->
   (Value.ownBlock (.slice A' (ts.length+1) cap')=v.ownBlock\/Value.ownBlock (.slice A' (ts.length+1) cap')=some w.heap.size)->wpList P ops Q rest (a.put o.dst (.slice A' (ts.length+1) cap')) w'):
  wpList P ops Q (o::rest) a w:=by
 obtain⟨A',cap',w',hr,h1,h2,h3⟩:=run_appendT (P:=P) (w:=w) hT o.type base v ts hown g y hg hb hbase;refine wpList_plain hgd fun K hK=> ?_;unfold Oper.wp execOp;simp only[ho,resolve,invoke,builtin,Sem.run_bind,Sem.run_pure,Result.andThen_ok,List.map_toArray,List.map_cons,List.map_nil,hv,hx,hr];exact hK _ _ (h A' cap' w' h1 h2 h3)
theorem tt:TokT prog 77 116:=⟨underlying77,by kernel_rfl⟩
theorem rtt:TokT prog 57 62:=⟨underlying57,by kernel_rfl⟩
theorem litF_pos: ∀(f:Nat) (m:List UInt8) (t:List UInt8) (n:Nat),litF f m=some (t,n)->1<=n/\n<=m.length
 |0,m,t,n,h=>by cases h
 |f+1,[],t,n,h=>by cases h
 |f+1,c::r,t,n,h=>by
  simp only[litF]at h;split at h
  ·cases h;exact⟨Nat.le_refl _,by simp⟩
  ·split at h
   ·cases h
   ·obtain⟨⟨t',n'⟩,h1,h2⟩:=Option.map_eq_some_iff.1 h
    cases h2;have:=litF_pos f _ t' n' h1;have h3:=elemL_le (c::r);rw[List.length_drop]at this;omega
theorem head_some_length {l:List UInt8} {c:UInt8} (h:l.head? =some c):1<=l.length:=by cases l<;>simp at h⊢
theorem tokT_len {c:UInt8} {r:List UInt8} {x:Int×List UInt8×Int} {n:Nat} (h:tokT (c::r)= .ok (x,n)):1<=n/\n<=(c::r).length:=by
 have hp:letB c=true->1<=spanN prtB (c::r):=fun h=>by simp[spanN,prtB,h]
 have hd:digB c=true->1<=spanN digB (c::r):=fun h=>by simp[spanN,h]
 have hp2:=spanN_le prtB (c::r);have hd2:=spanN_le digB (c::r);simp only[tokT]at h;split at h
 ·rename_i hL;unfold wordT at h;split at h
  ·cases h;exact⟨hp hL,hp2⟩
  ·split at h
   ·cases h
   ·cases h;exact⟨hp hL,hp2⟩
 ·split at h
  ·rename_i hD;unfold numT at h;split at h
   ·cases h
   ·split at h
    ·cases h
    ·cases h;exact⟨hd hD,hd2⟩
  ·split at h
   ·unfold charT at h;split at h
    ·cases h
    ·rename_i hc
     cases h;have h3:((c::r).drop ((elemL ((c::r).drop 1)).2+1)).head? =some 39:=by
      refine Classical.byContradiction fun hne=>hc (.inr (.inr hne))
     have:=head_some_length h3;rw[List.length_drop]at this;omega
   ·split at h
    ·unfold textT at h;split at h
     ·cases h
     ·rename_i t n' hl;split at h
      ·cases h
      ·cases h;have:=litF_pos _ _ _ _ hl;rw[List.length_drop]at this;omega
    ·unfold markT at h;split at h
     ·rename_i hc
      cases h;have: ∀t∈two,t.length=2:=by decide
      have h2:((c::r).take 2).length=2:=this _ (List.contains_iff_mem.1 hc);rw[List.length_take]at h2;omega
     ·split at h
      ·cases h;exact⟨Nat.le_refl _,by simp⟩
      ·cases h
theorem tokT_err {c:UInt8} {r:List UInt8} {e:Int} (h:tokT (c::r)= .error e):e=3\/e=2\/e=6:=by
 simp only[tokT]at h;unfold wordT numT charT textT markT at h;repeat' split at h
 all_goals cases h
 all_goals first|exact .inl rfl|exact .inr (.inl rfl)|exact .inr (.inr rfl)
def joinE (ts:List Tok):Except (Nat×Int) (List Tok)->Except (Nat×Int) (List Tok)
 | .error e=> .error e
 | .ok us=> .ok (ts++us)
theorem toks_start (l:List UInt8):toks l=joinE [] (toksF (l.length+1) (l.drop 0) 0):=by
 unfold toks;rw[List.drop_zero]
 cases toksF (l.length+1) l 0<;>simp[joinE]
theorem toks_end {l:List UInt8} {f p:Nat} {ts:List Tok} (h:toks l=joinE ts (toksF (f+1) (l.drop p) p)) (he:l.length<=p+skipC false (l.drop p)):toks l= .ok ts:=by
 rw[h];have:(l.drop p).drop (skipC false (l.drop p))=[]:=by
  rw[List.drop_drop];exact List.drop_of_length_le he
 simp only[toksF,this,joinE,List.append_nil]
theorem toks_err {l:List UInt8} {f p q:Nat} {ts:List Tok} {c:UInt8} {r:List UInt8} {e:Int} (h:toks l=joinE ts (toksF (f+1) (l.drop p) p)) (hq:q=p+skipC false (l.drop p)) (hd:l.drop q=c::r) (ht:tokT (c::r)= .error e):toks l= .error (q,e):=by
 rw[h];have:(l.drop p).drop (skipC false (l.drop p))=c::r:=by
  rw[List.drop_drop,<-hq,hd]
 simp only[toksF,this,ht,joinE,hq]
theorem toks_step {l:List UInt8} {f p q:Nat} {ts:List Tok} {c:UInt8} {r:List UInt8} {k:Int} {t:List UInt8} {v:Int} {n:Nat} (h:toks l=joinE ts (toksF (f+1) (l.drop p) p)) (hq:q=p+skipC false (l.drop p)) (hd:l.drop q=c::r)
  (ht:tokT (c::r)= .ok ((k,t,v),n)):toks l=joinE (ts++[⟨k,t,v,(q:Nat)⟩]) (toksF f (l.drop (q+n)) (q+n)):=by
 rw[h];have h1:(l.drop p).drop (skipC false (l.drop p))=c::r:=by
  rw[List.drop_drop,<-hq,hd]
 have h2:l.drop (q+n)=(c::r).drop n:=by rw[<-hd,List.drop_drop]
 rw[h2];simp only[toksF,h1,ht,<-hq]
 cases toksF f ((c::r).drop n) (q+n)<;>simp[joinE]
end Go.Proofs.YtelplgkppalmfaaGreatDoor
namespace Go.Proofs.YtelplgkppalmfaaGreatDoor
open Go.Proofs.Tryz
open Go.RowKit
def TokensP (ty:TypeId) (base:Nat) (r:List Tok×Int×Int) (e:Ending) (w':World):Prop:=
 ∃A cap,e= .returned (.tuple #[.slice A r.1.length cap, .int .i64 r.2.1, .int .i64 r.2.2])/\OwnT w' base ty (.slice A r.1.length cap) r.1
theorem toksR_big (l:List UInt8) (h:4000<l.length):toksR l=([],4000,6):=by unfold toksR;rw[if_pos h]
theorem toksR_ok (l:List UInt8) (ts:List Tok) (h: ¬4000<l.length) (ht:toks l= .ok ts):toksR l=(ts,0,0):=by unfold toksR;rw[if_neg h,ht]
theorem toksR_err (l:List UInt8) (p:Nat) (e:Int) (h: ¬4000<l.length) (ht:toks l= .error (p,e)):toksR l=([],(p:Int),e):=by unfold toksR;rw[if_neg h,ht]
theorem tok_new (w:World) (e:TypeId) (x:Tok):((w.alloc (.cells #[.int .i64 x.k, .string (str x.t), .int .i64 x.v, .int .i64 x.f] e)).alloc (.cells #[.int .i64 x.k, .string (str x.t), .int .i64 x.v, .int .i64 x.f] e)).heap[w.heap.size+1]? =some (.cells #[.int .i64 x.k, .string (str x.t), .int .i64 x.v, .int .i64 x.f] e (0,0)):=by
 have:=heap_alloc_new (w.alloc (.cells #[.int .i64 x.k, .string (str x.t), .int .i64 x.v, .int .i64 x.f] e)) (.cells #[.int .i64 x.k, .string (str x.t), .int .i64 x.v, .int .i64 x.f] e);rwa [World.size_alloc]at this
theorem tokens_any (l:List UInt8) (hl:l.length<=100000) (w:World) (hz:EZ w):Calls prog 28 #[.string (str l)] w fun e w'=>TokensP 116 w.heap.size (toksR l) e w'/\Ext w w':=by
 have hsz:(str l).size=l.length:=str_size l;have HZ:=hide hz;clear hz;have HRb:=hide (toksR_big l);have HRo:=hide (toksR_ok l);have HRe:=hide (toksR_err l);by_cases hbig:4000<l.length
 ·have hbig':(4000:Int)<l.length:=by omega
  go_enter func28,ntmps28;go_wp2_with fail;exact bodyPost_ret (v:= .tuple #[.slice none 0 0, .int .i64 4000, .int .i64 6]) (by simp[results,results28,go_sem]) rfl ⟨by rw[HRb.out hbig];exact⟨none,0,rfl,OwnT.nil_ _ _ _⟩,Ext.refl _⟩
 ·have hbig': ¬(4000:Int)<l.length:=by omega
  go_enter func28,ntmps28;go_wp2_with fail
  go_loopw [2,3] (fun vb vp wr=> ∃(B:Option Addr) (cap:Nat) (ts:List Tok) (p f:Nat),vb= .slice B ts.length cap/\OwnT wr w.heap.size 116 (.slice B ts.length cap) ts/\vp= .int .i64 (p:Int)/\p<=l.length/\ts.length<=p/\l.length+1<=f+p/\
   Hid (toks l=joinE ts (toksF f (l.drop p) p))/\Ext w wr) (fun _ vp _=>l.length+1-(intOf vp).toNat)
  case atStart=>exact⟨none,0,[],0,l.length+1,rfl,OwnT.nil_ _ _ _,rfl,Nat.zero_le _,Nat.le_refl _,by omega,hide (toks_start l),Ext.refl _⟩
  case round=>
   obtain⟨B,cap,ts,p,f,rfl,hown,rfl,hp,htp,hfp,HJ,hx⟩:=hrel;obtain⟨f,rfl⟩: ∃g,f=g+1:=⟨f-1,by omega⟩
   have HO:=hide hown;have HX:=hide hx;clear hown hx;have hps:p<=(str l).size:=by rw[hsz];exact hp
   have hex:(str l).extract p l.length=str (l.drop p):=by
    have:=str_extract l p l.length;rw[List.take_of_length_le (Nat.le_refl _)]at this;exact this
   have HBL:=hide (fun w=>blank_any (l.drop p) (by rw[List.length_drop];omega) w);have hsk:p+skipC false (l.drop p)<=l.length:=by have:=skipC_le false (l.drop p);rw[List.length_drop]at this;omega
   obtain⟨q,hq⟩: ∃q,q=p+skipC false (l.drop p):=⟨_,rfl⟩
   have hqi:(p:Int)+(skipC false (l.drop p):Int)=(q:Int):=by omega
   by_cases hend:l.length<=q
   ·have HT:=hide (toks_end HJ.out (by omega));have hqn:q=l.length:=by omega
    have hend':(l.length:Int)<=q:=by omega
    generalize skipC false (l.drop p)=s at*;clear hq HJ;go_wp2_with (go_at_call 59;refine(HBL.out _).mono ?_;rintro e w' ⟨rfl,rfl⟩);exact bodyPost_ret (v:= .tuple #[.slice B ts.length cap, .int .i64 0, .int .i64 0]) (by simp[results,results28,go_sem]) rfl ⟨by rw[HRo.out _ hbig HT.out];exact⟨B,cap,rfl,HO.out⟩,HX.out⟩
   ·have hend': ¬(l.length:Int)<=q:=by omega
    have hqs:q<=(str l).size:=by rw[hsz];omega
    have hexq:(str l).extract q l.length=str (l.drop q):=by
     have:=str_extract l q l.length;rw[List.take_of_length_le (Nat.le_refl _)]at this;exact this
    obtain⟨c,r,hcr⟩: ∃c r,l.drop q=c::r:=by
     cases h:l.drop q with
     |nil=>have:=congrArg List.length h;rw[List.length_drop]at this;simp at this;omega
     |cons c r=>exact⟨c,r,rfl⟩
    have hlr:(c::r).length=l.length-q:=by rw[<-hcr,List.length_drop]
    rw[hcr]at hexq;have HTK:=hide (fun w h=>token_any c r (by omega) w h)
    cases ht:tokT (c::r)with
    |error e=>
     have HT:=hide (toks_err HJ.out hq hcr ht);have he:e=3\/e=2\/e=6:=tokT_err ht;rw[ht]at HTK;have htv:tokV (.error e)= .tuple #[.agg #[.int .i64 0, .string ⟨#[]⟩, .int .i64 0, .int .i64 0], .int .i64 0, .int .i64 e]:=rfl;rw[htv]at HTK;have hne: ¬e=0:=by omega
     have hne2:(e==0)=false:=by simp[hne]
     generalize skipC false (l.drop p)=s at*;clear hq HJ ht hcr htv he
     go_wp2_with (first
      |(go_at_call 59;refine(HBL.out _).mono ?_;rintro e w' ⟨rfl,rfl⟩)
      |(go_at_call 60;refine(HTK.out _ (HZ.out.ext HX.out)).mono ?_;rintro e' w1 ⟨rfl,hE⟩;have HE:=hide (HX.out.trans hE);clear hE))
     exact bodyPost_ret (v:= .tuple #[.slice none 0 0, .int .i64 q, .int .i64 e]) (by simp[results,results28,go_sem]) rfl ⟨by rw[HRe.out _ _ hbig HT.out];exact⟨none,0,rfl,OwnT.nil_ _ _ _⟩,HE.out.alloc' _⟩
    |ok y=>
     obtain⟨⟨k,t,v⟩,n⟩:=y;have HT:=hide (toks_step HJ.out hq hcr ht);obtain⟨hn1,hn2⟩:=tokT_len ht;rw[ht]at HTK;have htv:tokV (.ok ((k,t,v),n))= .tuple #[.agg #[.int .i64 k, .string (str t), .int .i64 v, .int .i64 0], .int .i64 (n:Int), .int .i64 0]:=rfl;rw[htv]at HTK;generalize skipC false (l.drop p)=s at*;clear hq HJ ht hcr htv
     go_wp2_with (first
      |(go_at_call 59;refine(HBL.out _).mono ?_;rintro e w' ⟨rfl,rfl⟩)
      |(go_at_call 60;refine(HTK.out _ (HZ.out.ext HX.out)).mono ?_;rintro e' w1 ⟨rfl,hE⟩;have HE1:=hide (HX.out.trans ((hE.alloc' (.cells #[.int .i64 k, .string (str t), .int .i64 v, .int .i64 (q:Int)] 116)).alloc' (.cells #[.int .i64 k, .string (str t), .int .i64 v, .int .i64 (q:Int)] 116)));have HO1:=hide (HO.out.ext ((hE.alloc' (.cells #[.int .i64 k, .string (str t), .int .i64 v, .int .i64 (q:Int)] 116)).alloc' (.cells #[.int .i64 k, .string (str t), .int .i64 v, .int .i64 (q:Int)] 116)));have HG1:=hide (tok_new w1 116 ⟨k,t,v,(q:Int)⟩);clear hE)
      |(at_builtin;refine wpList_appendT tt rfl _ _ rfl w.heap.size (.slice B ts.length cap) ts rfl HO1.out (w1.heap.size+1) ⟨k,t,v,(q:Int)⟩ rfl HG1.out (by omega) HE1.out.size ?_;intro A3 c3 w3 ho3 hg3 _;have HO3:=hide ho3;have HG3:=hide hg3;clear ho3 hg3))
     go_roundw
     case rel=>
      have hrow:=fun k hk=>(World.ownsRow.lt HO1.out k hk).1;have hx3:=HE1.out.grown HG3.out (fun k hk=>by have:=hrow k hk;omega);refine⟨A3,c3,ts++[⟨k,t,v,(q:Int)⟩],q+n,f,by rw[List.length_append];rfl,?_,by go_num,by omega,by rw[List.length_append];simp;omega,by omega,HT,hx3⟩;rw[List.length_append];exact HO3.out
     case measure=>simp[intOf];omega
end Go.Proofs.YtelplgkppalmfaaGreatDoor
namespace Go.Proofs.YtelplgkppalmfaaGreatDoor
open Go.Proofs.Tryz
open Go.RowKit
def litV:Option (List UInt8×Nat)->Value
 |some x=> .tuple #[.string (str x.1), .int .i64 (x.2:Int)]
 |none=> .tuple #[.string ⟨#[]⟩, .int .i64 0]
theorem str_app (a b:List UInt8):str a++str b=str (a++b):=by
 apply ByteArray.ext;simp[str]
theorem rlit_any (m:List UInt8) (hl:m.length<=100000) (w:World):Calls prog 104 #[.string (str m)] w fun e w'=>e= .returned (litV (litL m))/\Ext w w':=by
 have hsz:(str m).size=m.length:=str_size m;go_enter func104,ntmps104;go_wp2_with fail
 go_loopw [4,5] (fun vb vi wr=> ∃(b:List UInt8) (j:Nat),vb= .string (str b)/\vi= .int .i64 (j:Int)/\j<=m.length/\b.length<=j/\
   Hid (litL m=(litL (m.drop j)).map fun x=>(b++x.1,j+x.2))/\Ext w wr) (fun _ vi _=>m.length+1-(intOf vi).toNat)
 case atStart=>
  refine⟨[],0,rfl,rfl,Nat.zero_le _,Nat.le_refl _,hide ?_,Ext.refl _⟩
  cases h:litL m<;>simp[h]
 case round=>
  obtain⟨b,j,rfl,rfl,hj,hbj,HL,hx⟩:=hrel;have HX:=hide hx;clear hx;by_cases hlt:j<m.length
  ·have hjs:j<(str m).size:=by rw[hsz];exact hlt
   have hjs2:j<=(str m).size:=by rw[hsz];exact hj
   have hg:(str m)[j]=m[j]:=rfl;have hlt':(j:Int)<m.length:=by omega
   by_cases h34:m[j]=34
   ·have HR:=hide (show litL m=some (b,j+1) by rw[HL.out,lit_drop_end hlt h34];simp);rw[h34]at hg;clear h34 HL;go_wp2_with fail;exact bodyPost_ret (v:=litV (some (b,j+1))) (by simp[results,results104,go_sem,litV]) rfl ⟨by rw[HR.out],HX.out⟩
   ·have hgb:((m[j].toNat:Int)==34)=false:=(u8_eqI m[j] 34 (by omega)).trans (beq_eq_false_iff_ne.2 h34);have hex:(str m).extract j m.length=str (m.drop j):=by
     have:=str_extract m j m.length;rw[List.take_of_length_le (by simp)]at this;exact this
    have HEL:=hide (fun w=>relem_any (m.drop j) w (by rw[List.length_drop];omega));obtain⟨hle1,hle2⟩:=elemL_le (m.drop j);rw[List.length_drop]at hle1;have HBD:=hide (fun h=>lit_drop_bad (m:=m) hlt h34 h);have HST:=hide (fun h=>lit_drop_step (m:=m) hlt h34 h);generalize hv:(elemL (m.drop j)).1=v at*;generalize hn:(elemL (m.drop j)).2=n at*;generalize m[j]=d at*;have hvb:=v.toNat_lt;have hvb':(v.toNat:Int)<256:=by omega
    clear hv hn h34;generalize hdr:m.drop j=mj at*;clear hdr;by_cases hn0:n=0
    ·have HR:=hide (show litL m=none by rw[HL.out,HBD.out hn0];rfl);subst hn0;clear HL HBD HST;go_wp2_with (go_at_call 103;refine(HEL.out _).mono ?_;rintro e w1 ⟨rfl,hE⟩;have HE:=hide (HX.out.trans hE);clear hE);exact bodyPost_ret (v:=litV none) (by simp[results,results104,go_sem,litV]) rfl ⟨by rw[HR.out],HE.out⟩
    ·have hnb:((n:Int)==0)=false:=by simp[hn0]
     have hn1:1<=n:=by omega
     have HL2:=hide (show litL m=(litL (m.drop (j+n))).map fun x=>((b++[v])++x.1,(j+n)+x.2) by
      rw[HL.out,HST.out hn0,Option.map_map]
      congr 1
      funext x
      simp[Nat.add_assoc])
     have hap:=str_app b [v];have hbs:(str b).size=b.length:=str_size b;have hvs:(str [v]).size=1:=str_size [v];clear HL HBD HST hn0;go_wp2_with (go_at_call 103;refine(HEL.out _).mono ?_;rintro e w1 ⟨rfl,hE⟩;have hcv:Sem.run prog (convert 56 9 (.slice (some ⟨w1.heap.size,0,none⟩) 1 1)) (w1.alloc (.cells #[.int .u8 (v.toNat:Int)] 5))= .ok (.string (str [v])) (w1.alloc (.cells #[.int .u8 (v.toNat:Int)] 5)):=(Sl.one w1 v).convert (P:=prog) (src:=56) (dst:=9) underlying56 underlying5 underlying9;have HE:=hide (HX.out.trans (hE.alloc' (.cells #[.int .u8 (v.toNat:Int)] 5)));clear hE);go_roundw
     case rel=>exact⟨b++[v],j+n,rfl,by go_num,by omega,by rw[List.length_append];simp;omega,HL2,HE.out⟩
     case measure=>simp[intOf];omega
  ·have hmj:m.drop j=[]:=List.drop_of_length_le (by omega);have HR:=hide (show litL m=none by rw[HL.out,hmj];rfl);have hlt': ¬(j:Int)<m.length:=by omega
   clear HL hmj;go_wp2_with fail;exact bodyPost_ret (v:=litV none) (by simp[results,results104,go_sem,litV]) rfl ⟨by rw[HR.out],HX.out⟩
theorem decV_take {l:List UInt8} {j:Nat} (h:j<l.length):decV (l.take (j+1))=decV (l.take j)*10+(l[j].toNat-48):=by
 unfold decV;rw[List.take_succ_eq_append_getElem h,List.foldl_append];rfl
def satV (l:List UInt8) (j:Nat):Nat:=min (decV (l.take j)) 1099511627776
theorem satV_step {l:List UInt8} {j:Nat} (h:j<l.length):satV l (j+1)=min (10*satV l j+(l[j].toNat-48)) 1099511627776:=by
 unfold satV;rw[decV_take h];omega
theorem spanN_at_len {p:UInt8->Bool} {l:List UInt8} {j:Nat} (hj:j<=spanN p l) (hlt: ¬j<l.length):spanN p l=j:=by
 have:=spanN_le p l;omega
theorem spanN_at_stop {p:UInt8->Bool} {l:List UInt8} {j:Nat} (hj:j<=spanN p l) (hlt:j<l.length) (h:p l[j]=false):spanN p l=j:=by
 have h1:=spanN_drop p l j hj;rw[spanN_step p hlt,h]at h1;simpa using h1
theorem rnumber_any (c:UInt8) (m:List UInt8) (hc:digB c=true) (hl:(c::m).length<=100000) (w:World):Calls prog 102 #[.string (str (c::m))] w fun e w'=>e= .returned (tokV (numT (c::m)))/\Ext w w':=by
 have hsz:(str (c::m)).size=m.length+1:=by rw[str_size];rfl
 have h0:0<(str (c::m)).size:=by rw[hsz];omega
 have hg0:(str (c::m))[0]=c:=rfl;have hl1:m.length<=99999:=by simpa using hl
 have HC:=hide hc;clear hc;go_enter func102,ntmps102;go_wp2_with fail
 go_loop [5,6] (fun vi vv=> ∃j:Nat,vi= .int .i64 (j:Int)/\vv= .int .i64 (satV (c::m) j:Int)/\Hid (j<=spanN digB (c::m))) (fun vi _=>m.length+1-(intOf vi).toNat)
 case atStart=>exact⟨0,rfl,rfl,hide (Nat.zero_le _)⟩
 case round=>
  obtain⟨j,rfl,rfl,HJ⟩:=hrel;have HX:=hide (Ext.alloc w (.cells #[.int .i64 0, .string ⟨#[]⟩, .int .i64 0, .int .i64 0] 62));have HB:=hide (Blk.new w 62 #[.int .i64 0, .string ⟨#[]⟩, .int .i64 0, .int .i64 0]);have hjl:j<=m.length+1:=by have:=HJ.out;have:=spanN_le digB (c::m);simp at this;omega
  have hsat:satV (c::m) j<=1099511627776:=Nat.min_le_right _ _;by_cases hlt:j<m.length+1
  ·have hns:j<(str (c::m)).size:=by rw[hsz];exact hlt
   have hg:(str (c::m))[j]=(c::m)[j]'hlt:=rfl;have hlt':(j:Int)<m.length+1:=by omega
   have HD:=hide (rdigit_any ((c::m)[j]'hlt));have HI:=hide (inner_any ((c::m)[j]'hlt));have HSP:=hide (fun h=>spanN_at_stop (p:=digB) (l:=c::m) HJ.out hlt h);have HHD:=hide (num_in c m (n:=j) hlt);have hdr:=spanN_drop digB (c::m) j HJ.out;have hst:=spanN_step digB (l:=c::m) (j:=j) hlt;have HSV:=hide (satV_step (l:=c::m) (j:=j) hlt);generalize (c::m)[j]'hlt=d at*
   cases hp:digB d with
   |true=>
    have hd:48<=d.toNat/\d.toNat<=57:=by unfold digB at hp;simpa using hp
    have hd1:(48:Int)<=d.toNat:=by omega
    have hd2:(d.toNat:Int)<=57:=by omega
    have HJ2:=hide (show j+1<=spanN digB (c::m) by rw[hp,if_pos rfl]at hst;omega);rw[hp]at HD;clear HSP hp hst hdr HHD hd;by_cases hmx:10*satV (c::m) j+(d.toNat-48)<=1099511627776
    ·have hsv:satV (c::m) (j+1)=10*satV (c::m) j+(d.toNat-48):=by rw[HSV.out];omega
     have HSV2:=hide (show(satV (c::m) (j+1):Int)=10*(satV (c::m) j:Int)+((d.toNat:Int)-48) by omega);have hmx':10*(satV (c::m) j:Int)+((d.toNat:Int)-48)<=1099511627776:=by omega
     generalize satV (c::m) j=sv at*;clear hsv hmx HSV;go_wp2_with (go_at_call 101;refine(HD.out _).mono ?_;rintro e w' ⟨rfl,rfl⟩)
     go_round
     case rel=>exact⟨j+1,by go_num,by rw[HSV2.out];go_num,HJ2⟩
     case measure=>simp[intOf];omega
    ·have hsv:satV (c::m) (j+1)=1099511627776:=by rw[HSV.out];omega
     have HSV2:=hide (show(satV (c::m) (j+1):Int)=1099511627776 by omega);have hmx': ¬10*(satV (c::m) j:Int)+((d.toNat:Int)-48)<=1099511627776:=by omega
     generalize satV (c::m) j=sv at*;clear hsv hmx HSV;go_wp2_with (go_at_call 101;refine(HD.out _).mono ?_;rintro e w' ⟨rfl,rfl⟩)
     go_round
     case rel=>exact⟨j+1,by go_num,by rw[HSV2.out];go_num,HJ2⟩
     case measure=>simp[intOf];omega
   |false=>
    have hn:=HSP.out hp;rw[hp]at HD;clear HSP hp hst hdr HSV
    cases hq:prtB d with
    |true=>
     rw[hq]at HI;have HR:=hide (show numT (c::m)= .error 3 by rw[num_spec c m hn rfl,HHD.out,hq,if_pos rfl]);clear HHD hq hn;generalize satV (c::m) j=sv at*
     go_wp2_with (first
      |(go_at_call 101;refine(HD.out _).mono ?_;rintro e w' ⟨rfl,rfl⟩)
      |(go_at_call 95;refine(HI.out _).mono ?_;rintro e w' ⟨rfl,rfl⟩))
     exact bodyPost_ret (v:=tokV (.error 3)) (by first|(simp[results,results102,go_sem,tokV];done)|(simp[results,results102,go_sem,tokV];rfl)) rfl ⟨by rw[HR.out],Ext.alloc w _⟩
    |false=>
     rw[hq]at HI;have hH:((c::m).drop j).head?.any prtB=false:=HHD.out.trans hq;have HT:=hide (num_spec c m hn rfl);clear HHD hq hn;have hvr:satV (c::m) j<=2147483647->(decV ((c::m).take j):Int)=(satV (c::m) j:Int):=by unfold satV;omega
     have hvn:satV (c::m) j<=2147483647-> ¬2147483647<decV ((c::m).take j):=by unfold satV;omega
     have hvg:2147483647<satV (c::m) j->2147483647<decV ((c::m).take j):=by unfold satV;omega
     generalize satV (c::m) j=sv at*;by_cases hA:10<j
     ·have hA':(10:Int)<j:=by omega
      have HR:=hide (show numT (c::m)= .error 2 by rw[HT.out,hH,if_neg (by simp),if_pos (.inl hA)]);clear HT hH hvr hvn hvg
      go_wp2_with (first
       |(go_at_call 101;refine(HD.out _).mono ?_;rintro e w' ⟨rfl,rfl⟩)
       |(go_at_call 95;refine(HI.out _).mono ?_;rintro e w' ⟨rfl,rfl⟩))
      exact bodyPost_ret (v:=tokV (.error 2)) (by first|(simp[results,results102,go_sem,tokV];done)|(simp[results,results102,go_sem,tokV];rfl)) rfl ⟨by rw[HR.out],Ext.alloc w _⟩
     ·have hA': ¬(10:Int)<j:=by omega
      by_cases hV:2147483647<sv
      ·have hV':(2147483647:Int)<sv:=by omega
       have HR:=hide (show numT (c::m)= .error 2 by rw[HT.out,hH,if_neg (by simp),if_pos (.inr (.inr (hvg hV)))]);clear HT hH hvr hvn hvg
       go_wp2_with (first
        |(go_at_call 101;refine(HD.out _).mono ?_;rintro e w' ⟨rfl,rfl⟩)
        |(go_at_call 95;refine(HI.out _).mono ?_;rintro e w' ⟨rfl,rfl⟩))
       exact bodyPost_ret (v:=tokV (.error 2)) (by first|(simp[results,results102,go_sem,tokV];done)|(simp[results,results102,go_sem,tokV];rfl)) rfl ⟨by rw[HR.out],Ext.alloc w _⟩
      ·have hV': ¬(2147483647:Int)<sv:=by omega
       by_cases hB:1<j
       ·have hB':(1:Int)<j:=by omega
        by_cases hC:c=48
        ·have hC':((c.toNat:Int)==48)=true:=by rw[hC];rfl
         have HR:=hide (show numT (c::m)= .error 2 by rw[HT.out,hH,if_neg (by simp),if_pos (.inr (.inl ⟨hB,hC⟩))]);clear HT hH hvr hvn hvg hC
         go_wp2_with (first
          |(go_at_call 101;refine(HD.out _).mono ?_;rintro e w' ⟨rfl,rfl⟩)
          |(go_at_call 95;refine(HI.out _).mono ?_;rintro e w' ⟨rfl,rfl⟩))
         exact bodyPost_ret (v:=tokV (.error 2)) (by first|(simp[results,results102,go_sem,tokV];done)|(simp[results,results102,go_sem,tokV];rfl)) rfl ⟨by rw[HR.out],Ext.alloc w _⟩
        ·have hC':((c.toNat:Int)==48)=false:=(u8_eqI c 48 (by omega)).trans (beq_eq_false_iff_ne.2 hC);have HR:=hide (show numT (c::m)= .ok ((3,[],(sv:Int)),j) by rw[HT.out,hH,if_neg (by simp),if_neg (by rintro(h|h|h);exact hA h;exact(fun h:1<j/\c=48=>hC h.2) h;exact hvn (by omega) h),hvr (by omega)]);clear HT hH hvr hvn hvg hC
         go_wp2_with (first
          |(go_at_call 101;refine(HD.out _).mono ?_;rintro e w' ⟨rfl,rfl⟩)
          |(go_at_call 95;refine(HI.out _).mono ?_;rintro e w' ⟨rfl,rfl⟩))
         exact bodyPost_ret (v:=tokV (.ok ((3,[],(sv:Int)),j))) (by first|(simp[results,results102,go_sem,tokV];done)|(simp[results,results102,go_sem,tokV];rfl)) rfl ⟨by rw[HR.out],Ext.alloc w _⟩
       ·have hB': ¬(1:Int)<j:=by omega
        have HR:=hide (show numT (c::m)= .ok ((3,[],(sv:Int)),j) by rw[HT.out,hH,if_neg (by simp),if_neg (by rintro(h|h|h);exact hA h;exact(fun h:1<j/\c=48=>hB h.1) h;exact hvn (by omega) h),hvr (by omega)]);clear HT hH hvr hvn hvg
        go_wp2_with (first
         |(go_at_call 101;refine(HD.out _).mono ?_;rintro e w' ⟨rfl,rfl⟩)
         |(go_at_call 95;refine(HI.out _).mono ?_;rintro e w' ⟨rfl,rfl⟩))
        exact bodyPost_ret (v:=tokV (.ok ((3,[],(sv:Int)),j))) (by first|(simp[results,results102,go_sem,tokV];done)|(simp[results,results102,go_sem,tokV];rfl)) rfl ⟨by rw[HR.out],Ext.alloc w _⟩
  ·have hlt': ¬(j:Int)<m.length+1:=by omega
   have HD:=hide (rdigit_any 0);have HI:=hide (inner_any 0);have hH:=num_end c m hjl hlt;have hn:=spanN_at_len HJ.out hlt;have HT:=hide (num_spec c m hn rfl);clear hn;have hvr:satV (c::m) j<=2147483647->(decV ((c::m).take j):Int)=(satV (c::m) j:Int):=by unfold satV;omega
   have hvn:satV (c::m) j<=2147483647-> ¬2147483647<decV ((c::m).take j):=by unfold satV;omega
   have hvg:2147483647<satV (c::m) j->2147483647<decV ((c::m).take j):=by unfold satV;omega
   generalize satV (c::m) j=sv at*;by_cases hA:10<j
   ·have hA':(10:Int)<j:=by omega
    have HR:=hide (show numT (c::m)= .error 2 by rw[HT.out,hH,if_neg (by simp),if_pos (.inl hA)]);clear HT hH hvr hvn hvg
    go_wp2_with (first
     |(go_at_call 101;refine(HD.out _).mono ?_;rintro e w' ⟨rfl,rfl⟩)
     |(go_at_call 95;refine(HI.out _).mono ?_;rintro e w' ⟨rfl,rfl⟩))
    exact bodyPost_ret (v:=tokV (.error 2)) (by first|(simp[results,results102,go_sem,tokV];done)|(simp[results,results102,go_sem,tokV];rfl)) rfl ⟨by rw[HR.out],Ext.alloc w _⟩
   ·have hA': ¬(10:Int)<j:=by omega
    by_cases hV:2147483647<sv
    ·have hV':(2147483647:Int)<sv:=by omega
     have HR:=hide (show numT (c::m)= .error 2 by rw[HT.out,hH,if_neg (by simp),if_pos (.inr (.inr (hvg hV)))]);clear HT hH hvr hvn hvg
     go_wp2_with (first
      |(go_at_call 101;refine(HD.out _).mono ?_;rintro e w' ⟨rfl,rfl⟩)
      |(go_at_call 95;refine(HI.out _).mono ?_;rintro e w' ⟨rfl,rfl⟩))
     exact bodyPost_ret (v:=tokV (.error 2)) (by first|(simp[results,results102,go_sem,tokV];done)|(simp[results,results102,go_sem,tokV];rfl)) rfl ⟨by rw[HR.out],Ext.alloc w _⟩
    ·have hV': ¬(2147483647:Int)<sv:=by omega
     by_cases hB:1<j
     ·have hB':(1:Int)<j:=by omega
      by_cases hC:c=48
      ·have hC':((c.toNat:Int)==48)=true:=by rw[hC];rfl
       have HR:=hide (show numT (c::m)= .error 2 by rw[HT.out,hH,if_neg (by simp),if_pos (.inr (.inl ⟨hB,hC⟩))]);clear HT hH hvr hvn hvg hC
       go_wp2_with (first
        |(go_at_call 101;refine(HD.out _).mono ?_;rintro e w' ⟨rfl,rfl⟩)
        |(go_at_call 95;refine(HI.out _).mono ?_;rintro e w' ⟨rfl,rfl⟩))
       exact bodyPost_ret (v:=tokV (.error 2)) (by first|(simp[results,results102,go_sem,tokV];done)|(simp[results,results102,go_sem,tokV];rfl)) rfl ⟨by rw[HR.out],Ext.alloc w _⟩
      ·have hC':((c.toNat:Int)==48)=false:=(u8_eqI c 48 (by omega)).trans (beq_eq_false_iff_ne.2 hC);have HR:=hide (show numT (c::m)= .ok ((3,[],(sv:Int)),j) by rw[HT.out,hH,if_neg (by simp),if_neg (by rintro(h|h|h);exact hA h;exact(fun h:1<j/\c=48=>hC h.2) h;exact hvn (by omega) h),hvr (by omega)]);clear HT hH hvr hvn hvg hC
       go_wp2_with (first
        |(go_at_call 101;refine(HD.out _).mono ?_;rintro e w' ⟨rfl,rfl⟩)
        |(go_at_call 95;refine(HI.out _).mono ?_;rintro e w' ⟨rfl,rfl⟩))
       exact bodyPost_ret (v:=tokV (.ok ((3,[],(sv:Int)),j))) (by first|(simp[results,results102,go_sem,tokV];done)|(simp[results,results102,go_sem,tokV];rfl)) rfl ⟨by rw[HR.out],Ext.alloc w _⟩
     ·have hB': ¬(1:Int)<j:=by omega
      have HR:=hide (show numT (c::m)= .ok ((3,[],(sv:Int)),j) by rw[HT.out,hH,if_neg (by simp),if_neg (by rintro(h|h|h);exact hA h;exact(fun h:1<j/\c=48=>hB h.1) h;exact hvn (by omega) h),hvr (by omega)]);clear HT hH hvr hvn hvg
      go_wp2_with (first
       |(go_at_call 101;refine(HD.out _).mono ?_;rintro e w' ⟨rfl,rfl⟩)
       |(go_at_call 95;refine(HI.out _).mono ?_;rintro e w' ⟨rfl,rfl⟩))
      exact bodyPost_ret (v:=tokV (.ok ((3,[],(sv:Int)),j))) (by first|(simp[results,results102,go_sem,tokV];done)|(simp[results,results102,go_sem,tokV];rfl)) rfl ⟨by rw[HR.out],Ext.alloc w _⟩
end Go.Proofs.YtelplgkppalmfaaGreatDoor
