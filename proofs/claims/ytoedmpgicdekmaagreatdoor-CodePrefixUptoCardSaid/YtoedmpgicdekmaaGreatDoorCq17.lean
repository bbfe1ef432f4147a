/-
  Parts of the proof: TyK TyFr TyAl.
-/
import Derived.Test.YtoedmpgicdekmaaGreatDoorCq00
import Derived.Test.YtoedmpgicdekmaaGreatDoorCq16
import Derived.Test.YtoedmpgicdekmaaGreatDoorCq01
set_option maxRecDepth 100000
set_option maxHeartbeats 8000000
set_option linter.unusedVariables false
set_option linter.unusedSimpArgs false
set_option linter.unusedSectionVars false
namespace Go.Proofs.YtoedmpgicdekmaaGreatDoor
open Go.Proofs.Tryz
section
open Go.RowKit
mutual
theorem BR: ∀s:St,mE s<=s.wt
 | .mk k nm e b l=>by
  have:=kI b;have:=kI l;rw[mE,St.wt];split<;>omega
theorem kI: ∀l:List St,cJ l<=gF l
 | []=>by simp[cJ]
 |s::r=>by
  have:=BR s;have:=kI r;rw[cJ,gF];omega
end
theorem wT {l:List St} {j:Nat} (h:j<l.length):cJ (l.drop j)=mE l[j]+cJ (l.drop (j+1)):=by
 rw[am h,cJ]
def Ff (xs:List St):Prop:= ∀(P:Nat->Prop) (w:World) (A:Option Addr) (n c:Nat),dS w P (.slice A n c) xs->Calls prog 67 #[.slice A n c] w fun e w'=>e= .returned (.int .i64 (cJ xs:Int))/\au w w'
theorem sL (xs:List St) (hw:gF xs<=1073741824) (hIH: ∀s∈xs,Ff s.body/\Ff s.els):Ff xs:=by
 intro P w A n c hR;obtain⟨A',c',hv,hf⟩:=hR.form;injection hv with hv1 hv2 hv3;subst hv1 hv2 hv3;have hl:=eo xs;have hdl:=kI xs;have HR:=G hR;have HI:=G hIH;obtain⟨N,hN⟩: ∃N,xs.length=N:=⟨_,rfl⟩
 have HN:=G hN;rw[hN]at HR hl;obtain⟨Rv,hRv⟩: ∃R,cJ xs=R:=⟨_,rfl⟩
 have HQ0:=G (show 0+cJ (xs.drop 0)=Rv by rw[<-hRv];simp);have HX0:=G (aG w);have hRb:Rv<=1073741824:=by omega
 rw[hN,hRv];clear hR hf hIH hN hRv hdl;go_enter func67,ntmps67;go_wp2_with fail
 go_loopw [3,8] (fun vm vi wr=> ∃(j m:Nat),vi= .int .i64 (j:Int)/\vm= .int .i64 (m:Int)/\j<=N/\Hid (m+cJ (xs.drop j)=Rv)/\Hid (au w wr)) (fun _ vi _=>N-(intOf vi).toNat)
 case atStart=>exact⟨0,0,rfl,rfl,aC _,HQ0,HX0⟩
 case round=>
  obtain⟨j,m,rfl,rfl,hj,HQ,HX⟩:=hrel;by_cases hlt:j<N
  ·have hlt':(j:Int)<N:=by omega
   have hjl:j<xs.length:=by have:=HN.out;omega
   obtain⟨b,o,e,bv,lv,rfl,hb,hPb,h0,h1,h2,h3,h4,hRe,hRb2,hRl⟩:=HR.out.at_ j hjl;have hS:=wT hjl;have hII:=HI.out _ (ap hjl);obtain⟨y,hy⟩: ∃y,xs[j]=y:=⟨_,rfl⟩
   rw[hy]at h0 h1 hRe hRb2 hRl hS hII;clear hy;obtain⟨k,nm,ex,bd,el⟩:=y;simp only[St.k,St.nm,St.ex,St.body,St.els]at h0 h1 hRe hRb2 hRl hII;rw[mE]at hS;have hSb:=HQ.out;rw[hS]at hSb;have e0:=(HX.out.cell b _ hb).trans h0;have e1:=(HX.out.cell b _ hb).trans h1;have e2:=(HX.out.cell b _ hb).trans h2;have e3:=(HX.out.cell b _ hb).trans h3;have e4:=(HX.out.cell b _ hb).trans h4;obtain⟨A1,c1,rfl,_⟩:=hRe.form;obtain⟨A2,c2,rfl,_⟩:=hRb2.form;obtain⟨A3,c3,rfl,_⟩:=hRl.form;have hAl:=aa wr (.cells #[.int .i64 k, .string (an nm), .slice A1 ex.length c1, .slice A2 bd.length c2, .slice A3 el.length c3] 147);have HBK:=G (aw wr 147 #[.int .i64 k, .string (an nm), .slice A1 ex.length c1, .slice A2 bd.length c2, .slice A3 el.length c3]);have HXA:=G (HX.out.trans hAl);have HRb:=G (hRb2.keep (.of_ext HXA.out) (Q:=P) (fun b hb _=>hb));have HRl:=G (hRl.keep (.of_ext HXA.out) (Q:=P) (fun b hb _=>hb));have HII:=G hII;obtain⟨d1,hd1⟩: ∃d,cJ bd=d:=⟨_,rfl⟩
   obtain⟨d2,hd2⟩: ∃d,cJ el=d:=⟨_,rfl⟩
   rw[hd1,hd2]at hSb;have HC1:=G (fun W (h:au (wr.alloc (.cells #[.int .i64 k, .string (an nm), .slice A1 ex.length c1, .slice A2 bd.length c2, .slice A3 el.length c3] 147)) W)=>hd1▸HII.out.1 P W A2 _ c2 (HRb.out.keep (.of_ext h) (Q:=P) (fun b hb _=>hb)));have HC2:=G (fun W (h:au (wr.alloc (.cells #[.int .i64 k, .string (an nm), .slice A1 ex.length c1, .slice A2 bd.length c2, .slice A3 el.length c3] 147)) W)=>hd2▸HII.out.2 P W A3 _ c3 (HRl.out.keep (.of_ext h) (Q:=P) (fun b hb _=>hb)));have HSb:=G hSb;clear h0 h1 h2 h3 h4 hRe hRb2 hRl hII hAl HRb HRl HII hd1 hd2 hS hSb;have hbs:m+(if k=1 then 1 else 0)+(d1+d2)<=1073741824:=by have:=HSb.out;omega
   have hwr: ∀z:Nat,z<=1073741824->IntKind.i64.wrap (z:Int)=z:=fun z hz=>by simp[IntKind.wrap,IntKind.signed,IntKind.bits];omega
   have hw1:IntKind.i64.wrap ((d1:Int)+(d2:Int))=((d1+d2:Nat):Int):=by rw[<-Int.natCast_add];exact hwr _ (by omega)
   by_cases hk:k=1
   ·subst hk;have hbs:m+1+(d1+d2)<=1073741824:=by simpa using hbs
    have hw2:IntKind.i64.wrap ((m:Int)+1+((d1+d2:Nat):Int))=((m+1+(d1+d2):Nat):Int):=by rw[<-hwr (m+1+(d1+d2)) hbs];congr 1
    clear hwr;go_wp2_with fail;refine cG 9 4 [(3,fun v=>v= .int .i64 (d1:Int),fun _ _=>True),(6,fun v=>v= .int .i64 (d2:Int),fun _ _=>True)] [] [1,4] mixed (by kernel_rfl) (by kernel_rfl) (by kernel_rfl) (by rfl) ⟨fun _ _ _ _ _=>trivial,fun _ _ _ _ _=>trivial,trivial⟩ (fun i hi=>by cases hi) ?_;repeat (first|(refine bM (by rfl) ?_;simp only[bH,bG,bF,bE,bD])|(refine sx ?_ (fun w1 hU=> ?_) ?_;rotate_left;(focus have f1:=(HBK.out.ext hU.un).cell;clear hU;go_simp<;>with_reducible rfl);simp only[bH,bG,bF,bE,bD]))
    refine so (fun w6 hU hp K hK=> ?_) ?_
    ·have hc:=HC1.out w6 hU.un;clear hp hU;go_simp;refine hc.mono ?_;rintro e w7 ⟨rfl,hE⟩;exact hK _ _ hE rfl trivial
    rintro _ rfl;simp only[bH,bG,bF,bE,bD];repeat (first|(refine bM (by rfl) ?_;simp only[bH,bG,bF,bE,bD])|(refine sx ?_ (fun w1 hU=> ?_) ?_;rotate_left;(focus have f1:=(HBK.out.ext hU.un).cell;clear hU;go_simp<;>with_reducible rfl);simp only[bH,bG,bF,bE,bD]))
    refine so (fun w6 hU hp K hK=> ?_) ?_
    ·have hc:=HC2.out w6 hU.un;clear hp hU;go_simp;refine hc.mono ?_;rintro e w7 ⟨rfl,hE⟩;exact hK _ _ hE rfl trivial
    rintro _ rfl;simp only[bH,bG,bF,bE,bD];repeat (first|(refine bM (by rfl) ?_;simp only[bH,bG,bF,bE,bD])|(refine sx ?_ (fun w1 hU=> ?_) ?_;rotate_left;(focus have f1:=(HBK.out.ext hU.un).cell;clear hU;go_simp<;>with_reducible rfl);simp only[bH,bG,bF,bE,bD]))
    intro w8 hw8 hp hpair;clear hp hpair;simp only[ac,aq];have HX8:=G (HXA.out.trans hw8.un);refine aH (by rfl) (by simp) (fun K hK=> ?_);go_simp;refine hK _ _ hw8 ?_;clear hK hw8;refine b_ ?_;go_wp2_with fail;go_roundw
    case rel=>exact⟨j+1,m+1+(d1+d2),by go_num,congrArg (Value.int .i64) (by simp[IntKind.wrap,IntKind.signed,IntKind.bits];omega),by omega,G (by have:=HSb.out;simp only[if_true]at this;omega),HX8⟩
    case measure=>simp[intOf];omega
   ·have hkb:=beq_eq_false_iff_ne.2 hk;have hbs:m+(d1+d2)<=1073741824:=by simpa[hk]using hbs
    have hw2:IntKind.i64.wrap ((m:Int)+((d1+d2:Nat):Int))=((m+(d1+d2):Nat):Int):=by rw[<-hwr (m+(d1+d2)) hbs];congr 1
    clear hwr;go_wp2_with fail;refine cG 9 4 [(3,fun v=>v= .int .i64 (d1:Int),fun _ _=>True),(6,fun v=>v= .int .i64 (d2:Int),fun _ _=>True)] [] [1,4] mixed (by kernel_rfl) (by kernel_rfl) (by kernel_rfl) (by rfl) ⟨fun _ _ _ _ _=>trivial,fun _ _ _ _ _=>trivial,trivial⟩ (fun i hi=>by cases hi) ?_;repeat (first|(refine bM (by rfl) ?_;simp only[bH,bG,bF,bE,bD])|(refine sx ?_ (fun w1 hU=> ?_) ?_;rotate_left;(focus have f1:=(HBK.out.ext hU.un).cell;clear hU;go_simp<;>with_reducible rfl);simp only[bH,bG,bF,bE,bD]))
    refine so (fun w6 hU hp K hK=> ?_) ?_
    ·have hc:=HC1.out w6 hU.un;clear hp hU;go_simp;refine hc.mono ?_;rintro e w7 ⟨rfl,hE⟩;exact hK _ _ hE rfl trivial
    rintro _ rfl;simp only[bH,bG,bF,bE,bD];repeat (first|(refine bM (by rfl) ?_;simp only[bH,bG,bF,bE,bD])|(refine sx ?_ (fun w1 hU=> ?_) ?_;rotate_left;(focus have f1:=(HBK.out.ext hU.un).cell;clear hU;go_simp<;>with_reducible rfl);simp only[bH,bG,bF,bE,bD]))
    refine so (fun w6 hU hp K hK=> ?_) ?_
    ·have hc:=HC2.out w6 hU.un;clear hp hU;go_simp;refine hc.mono ?_;rintro e w7 ⟨rfl,hE⟩;exact hK _ _ hE rfl trivial
    rintro _ rfl;simp only[bH,bG,bF,bE,bD];repeat (first|(refine bM (by rfl) ?_;simp only[bH,bG,bF,bE,bD])|(refine sx ?_ (fun w1 hU=> ?_) ?_;rotate_left;(focus have f1:=(HBK.out.ext hU.un).cell;clear hU;go_simp<;>with_reducible rfl);simp only[bH,bG,bF,bE,bD]))
    intro w8 hw8 hp hpair;clear hp hpair;simp only[ac,aq];have HX8:=G (HXA.out.trans hw8.un);refine aH (by rfl) (by simp) (fun K hK=> ?_);go_simp;refine hK _ _ hw8 ?_;clear hK hw8;refine b_ ?_;go_wp2_with fail;go_roundw
    case rel=>exact⟨j+1,m+(d1+d2),by go_num,congrArg (Value.int .i64) (by simp[IntKind.wrap,IntKind.signed,IntKind.bits];omega),by omega,G (by have:=HSb.out;rw[if_neg hk]at this;omega),HX8⟩
    case measure=>simp[intOf];omega
  ·have hlt': ¬(j:Int)<N:=by omega
   have HM:=G (show m=Rv by
    have:=HQ.out;rw[aI (by have:=HN.out;omega),cJ]at this
    omega)
   go_wp2_with fail;go_ret;exact⟨by rw[<-HM.out];rfl,HX.out⟩
theorem jz: ∀(m:Nat) (xs:List St),gF xs<=m->gF xs<=1073741824->Ff xs
 |0,xs,h,hw=>sL xs hw (fun s hs=>by have:=co hs;have:=s.wt_eq;omega)
 |m+1,xs,h,hw=>sL xs hw (fun s hs=>⟨jz m s.body (by have:=co hs;have:=s.wt_eq;omega) (by have:=co hs;have:=s.wt_eq;omega),jz m s.els (by have:=co hs;have:=s.wt_eq;omega) (by have:=co hs;have:=s.wt_eq;omega)⟩)
end
section
open Go.RowKit
theorem zD (xs:List St) (h:gF xs<=1073741824):Ff xs:=jz _ xs (ah _) h
theorem nM (nm:List UInt8) (ps:List (List UInt8)) (bd:List St) (hw:gF bd<=6000000) (hp:ps.length<=6000000) (P:Nat->Prop) (w:World) (A B:Option Addr) (c d:Nat) (hR:dS w P (.slice B bd.length d) bd):
  Calls prog 35 #[.agg #[.string (an nm), .slice A ps.length c, .slice B bd.length d]] w fun e w'=>e= .returned (.int .i64 (il ⟨nm,ps,bd⟩:Int))/\au w w':=by
 have hE0:=aa w (.cells #[.string (an nm), .slice A ps.length c, .slice B bd.length d] 81);have HE0:=G hE0;have HB0:=G (aw w 81 #[.string (an nm), .slice A ps.length c, .slice B bd.length d]);have hdl:=kI bd;obtain⟨q,hq⟩: ∃q,cJ bd=q:=⟨_,rfl⟩
 have HD:=G (fun W (h:au (w.alloc (.cells #[.string (an nm), .slice A ps.length c, .slice B bd.length d] 81)) W)=>hq▸zD bd (by omega) P W B _ d ((hR.keep (.of_ext hE0) (Q:=P) (fun b hb _=>hb)).keep (.of_ext h) (Q:=P) (fun b hb _=>hb)));have HF:=G (show il ⟨nm,ps,bd⟩=4*(8+ps.length+q) by rw[<-hq];rfl);rw[hq]at hdl;generalize ps.length=n at*;generalize bd.length=m at*;clear hR hE0 hq;go_enter func35,ntmps35;go_wp2_with fail;refine ay 10 3 [(6,fun v=>v= .int .i64 (q:Int),fun _ _=>True)] mixed (by kernel_rfl) ⟨fun _ _ _ _ _=>trivial,trivial⟩ ?_;repeat (first|(refine bM (by rfl) ?_;simp only[bH,bG,bF,bE,bD])|(refine sx ?_ (fun w1 hU=> ?_) ?_;rotate_left;(focus have f1:=(HB0.out.ext hU.un).cell;clear hU;go_simp<;>with_reducible rfl);simp only[bH,bG,bF,bE,bD]))
 refine so (fun w6 hU hp K hK=> ?_) ?_
 ·have hc:=HD.out w6 hU.un;clear hp hU;go_simp;refine hc.mono ?_;rintro e w7 ⟨rfl,hE⟩;exact hK _ _ hE rfl trivial
 rintro _ rfl;simp only[bH,bG,bF,bE,bD];repeat (first|(refine bM (by rfl) ?_;simp only[bH,bG,bF,bE,bD])|(refine sx ?_ (fun w1 hU=> ?_) ?_;rotate_left;(focus have f1:=(HB0.out.ext hU.un).cell;clear hU;go_simp<;>with_reducible rfl);simp only[bH,bG,bF,bE,bD]))
 intro w8 hw8 hp;clear hp;simp only[ac,aO];have HX8:=G (HE0.out.trans hw8.un);clear hw8;go_wp2_with fail;go_ret;refine⟨congrArg (fun z=>Ending.returned (.int .i64 z)) ?_,HX8.out⟩;rw[HF.out];simp[IntKind.wrap,IntKind.signed,IntKind.bits];omega
def Fz (xs:List St):Prop:= ∀(P:Nat->Prop) (w:World) (A:Option Addr) (n c:Nat),BT w->dS w P (.slice A n c) xs->Calls prog 68 #[.slice A n c] w fun e w'=>e= .returned (.bool (lP xs))/\au w w'
theorem y6 {l:List St} {j:Nat} (h:j<l.length):lP (l.drop j)=(Gd l[j]||lP (l.drop (j+1))):=by
 rw[am h,lP]
theorem Ao {l:List Ex} {j:Nat} (h:j<l.length):(l.drop j).any (fun y=>decide (7<dJ y))=(decide (7<dJ l[j])||(l.drop (j+1)).any (fun y=>decide (7<dJ y))):=by
 rw[am h,gz]
theorem sh (xs:List St) (hw:gF xs<=1073741824) (hIH: ∀s∈xs,Fz s.body/\Fz s.els):Fz xs:=by
 intro P w A n c hT hR;obtain⟨A',c',hv,hf⟩:=hR.form;injection hv with hv1 hv2 hv3;subst hv1 hv2 hv3;have hl:=eo xs;have HR:=G hR;have HI:=G hIH;have HT:=G hT;have HWT:=G (fun s (hs:s∈xs)=>show jF s.ex<=1073741824 by have:=co hs;have:=s.wt_eq;omega);obtain⟨N,hN⟩: ∃N,xs.length=N:=⟨_,rfl⟩
 have HN:=G hN;rw[hN]at HR hl;obtain⟨Rv,hRv⟩: ∃R,lP xs=R:=⟨_,rfl⟩
 have HQ0:=G (show lP (xs.drop 0)=Rv from hRv);have HX0:=G (aG w);rw[hN,hRv];clear hR hf hIH hN hRv hT;go_enter func68,ntmps68;go_wp2_with fail
 go_loopw [9] (fun vi wr=> ∃(j:Nat),vi= .int .i64 (j:Int)/\j<=N/\Hid (lP (xs.drop j)=Rv)/\Hid (au w wr)) (fun vi _=>N-(intOf vi).toNat)
 case atStart=>exact⟨0,rfl,aC _,HQ0,HX0⟩
 case round=>
  obtain⟨j,rfl,hj,HQ,HX⟩:=hrel;generalize wr=wo at*;by_cases hlt:j<N
  ·have hlt':(j:Int)<N:=by omega
   have hjl:j<xs.length:=by have:=HN.out;omega
   obtain⟨b,o,e,bv,lv,rfl,hb,hPb,h0,h1,h2,h3,h4,hRe,hRb2,hRl⟩:=HR.out.at_ j hjl;have hS:=y6 hjl;have hII:=HI.out _ (ap hjl);have hWx:=HWT.out _ (ap hjl);obtain⟨y,hy⟩: ∃y,xs[j]=y:=⟨_,rfl⟩
   rw[hy]at h0 h1 hRe hRb2 hRl hS hII hWx;clear hy;obtain⟨k,nm,ex,bd,el⟩:=y;simp only[St.k,St.nm,St.ex,St.body,St.els]at h0 h1 hRe hRb2 hRl hII hWx;rw[Gd]at hS;have HS:=G (HQ.out.symm.trans hS);obtain⟨M,hM⟩: ∃m,ex.length=m:=⟨_,rfl⟩
   obtain⟨A1,c1,rfl,_⟩:=hRe.form;obtain⟨A2,c2,rfl,_⟩:=hRb2.form;obtain⟨A3,c3,rfl,_⟩:=hRl.form;rw[hM]at h2 hRe;have HM:=G hM;have hMb:M<=1073741824:=by have:=dI ex;omega
   have e0:=(HX.out.cell b _ hb).trans h0;have e1:=(HX.out.cell b _ hb).trans h1;have e2:=(HX.out.cell b _ hb).trans h2;have e3:=(HX.out.cell b _ hb).trans h3;have e4:=(HX.out.cell b _ hb).trans h4;have hAl:=aa wo (.cells #[.int .i64 k, .string (an nm), .slice A1 M c1, .slice A2 bd.length c2, .slice A3 el.length c3] 147);have HBK:=G (aw wo 147 #[.int .i64 k, .string (an nm), .slice A1 M c1, .slice A2 bd.length c2, .slice A3 el.length c3]);have HXA:=G (HX.out.trans hAl);have HRe:=G (hRe.keep (.of_ext HXA.out) (Q:=P) (fun b hb _=>hb));have HRb:=G (hRb2.keep (.of_ext HXA.out) (Q:=P) (fun b hb _=>hb));have HRl:=G (hRl.keep (.of_ext HXA.out) (Q:=P) (fun b hb _=>hb));have HII:=G hII;have HWX:=G hWx;have HI0:=G (show(((ex.drop 0).any (fun y=>decide (7<dJ y))||(lP bd||lP el))||lP (xs.drop (j+1)))=Rv from HS.out.symm);have HY0:=G (aG (wo.alloc (.cells #[.int .i64 k, .string (an nm), .slice A1 M c1, .slice A2 bd.length c2, .slice A3 el.length c3] 147)));clear h0 h1 h2 h3 h4 hRe hRb2 hRl hII hS hAl hM hWx HR HI HWT;go_wp2_with fail
   go_loopw [16] (fun vi wr=> ∃(i:Nat),vi= .int .i64 (i:Int)/\i<=M/\Hid ((((ex.drop i).any (fun y=>decide (7<dJ y))||(lP bd||lP el))||lP (xs.drop (j+1)))=Rv)/\Hid (au (wo.alloc (.cells #[.int .i64 k, .string (an nm), .slice A1 M c1, .slice A2 bd.length c2, .slice A3 el.length c3] 147)) wr)) (fun vi _=>M-(intOf vi).toNat)
   case atStart=>exact⟨0,rfl,aC _,HI0,HY0⟩
   case round=>
    obtain⟨i,rfl,hi,HIQ,HY⟩:=hrel;by_cases hli:i<M
    ·have hli':(i:Int)<M:=by omega
     have hil:i<ex.length:=by have:=HM.out;omega
     obtain⟨b2,o2,a2,rfl,hb2,hP2,g0,g1,g2,g3,g4,g5,hRa⟩:=HRe.out.at_ i hil;have HSI:=G (Ao hil);have hyw:=dO (ap hil);have hyn:=gZ ex[i];have HND:=G (pI _ ex[i] (ah _) (by have:=HWX.out;omega));generalize ex[i]=y at*;have q0:=(HY.out.cell b2 _ hb2).trans g0;have q1:=(HY.out.cell b2 _ hb2).trans g1;have q2:=(HY.out.cell b2 _ hb2).trans g2;have q3:=(HY.out.cell b2 _ hb2).trans g3;have q4:=(HY.out.cell b2 _ hb2).trans g4;have q5:=(HY.out.cell b2 _ hb2).trans g5;obtain⟨B,d,rfl,_⟩:=hRa.form;have HRa:=G ((hRa.keep (.of_ext HY.out) (Q:=P) (fun b hb _=>hb)).keep (.of_ext (aa _ (.cells #[.int .i64 y.k, .string (an y.op), .string (an y.nm), .string (an y.tx), .int .i64 y.v, .slice B y.args.length d] 206))) (Q:=P) (fun b hb _=>hb));have HTi:=G (((HT.out.ext HXA.out).ext HY.out).ext (aa wr (.cells #[.int .i64 y.k, .string (an y.op), .string (an y.nm), .string (an y.tx), .int .i64 y.v, .slice B y.args.length d] 206)));clear g0 g1 g2 g3 g4 g5 hRa hyw hyn;by_cases h7:7<dJ y
     ·have h7':(7:Int)<(dJ y:Int):=by omega
      have HF:=G (show Rv=true by rw[<-HIQ.out,HSI.out,decide_eq_true h7];rfl);go_wp2_with (go_at_call 127;refine(HND.out P _ B _ d HRa.out HTi.out).mono ?_;rintro e w3 ⟨rfl,hE⟩;have HZ:=G (((HXA.out.trans HY.out).alloc' _).trans hE);clear hE);go_ret;exact⟨by rw[HF.out];rfl,HZ.out⟩
     ·have h7': ¬(7:Int)<(dJ y:Int):=by omega
      have HF:=G (show(((ex.drop (i+1)).any (fun y=>decide (7<dJ y))||(lP bd||lP el))||lP (xs.drop (j+1)))=Rv by rw[<-HIQ.out,HSI.out,decide_eq_false h7];rfl);go_wp2_with (go_at_call 127;refine(HND.out P _ B _ d HRa.out HTi.out).mono ?_;rintro e w3 ⟨rfl,hE⟩;have HZ:=G ((HY.out.alloc' _).trans hE);clear hE);go_roundw
      case rel=>exact⟨i+1,by go_num,by omega,HF,HZ⟩
      case measure=>simp[intOf];omega
    ·have hli': ¬(i:Int)<M:=by omega
     have HF:=G (show((lP bd||lP el)||lP (xs.drop (j+1)))=Rv by
      have:=HIQ.out;rw[aI (l:=ex) (by have:=HM.out;omega)]at this
      exact this)
     have f0:=(HBK.out.ext HY.out).cell;have HXY:=G (HXA.out.trans HY.out);have HC1:=HII.out.1 P wr A2 _ c2 (HT.out.ext HXY.out) (HRb.out.keep (.of_ext HY.out) (Q:=P) (fun b hb _=>hb));have HC1:=G HC1
     cases hr1:lP bd with
     |true=>
      rw[hr1]at HF HC1;have HF:=G (show Rv=true from HF.out.symm);go_wp2_with (go_at_call 68;refine HC1.out.mono ?_;rintro e w3 ⟨rfl,hE⟩;have HZ:=G (HXY.out.trans hE);clear hE HC1);go_ret;exact⟨by rw[HF.out];rfl,HZ.out⟩
     |false=>
      rw[hr1]at HF HC1
      cases hr2:lP el with
      |true=>
       rw[hr2]at HF;have HF:=G (show Rv=true from HF.out.symm);go_wp2_with (first|(go_at_call 68;refine HC1.out.mono ?_;clear HC1;rintro e w3 ⟨rfl,hE⟩;have HZ:=G (HXY.out.trans hE);have HE3:=G hE;clear f0;have f0:=(HBK.out.ext (HY.out.trans hE)).cell;clear hE)|(go_at_call 68;have hc:=HII.out.2 P _ A3 _ c3 (HT.out.ext HZ.out) (HRl.out.keep (.of_ext (HY.out.trans HE3.out)) (Q:=P) (fun b hb _=>hb));rw[hr2]at hc;refine hc.mono ?_;clear hc;rintro e w4 ⟨rfl,hE⟩;have HZ4:=G (HZ.out.trans hE);clear hE));go_ret;exact⟨by rw[HF.out];rfl,HZ4.out⟩
      |false=>
       rw[hr2]at HF;have HF:=G (show lP (xs.drop (j+1))=Rv from HF.out);go_wp2_with (first|(go_at_call 68;refine HC1.out.mono ?_;clear HC1;rintro e w3 ⟨rfl,hE⟩;have HZ:=G (HXY.out.trans hE);have HE3:=G hE;clear f0;have f0:=(HBK.out.ext (HY.out.trans hE)).cell;clear hE)|(go_at_call 68;have hc:=HII.out.2 P _ A3 _ c3 (HT.out.ext HZ.out) (HRl.out.keep (.of_ext (HY.out.trans HE3.out)) (Q:=P) (fun b hb _=>hb));rw[hr2]at hc;refine hc.mono ?_;clear hc;rintro e w4 ⟨rfl,hE⟩;have HZ4:=G (HZ.out.trans hE);clear hE));go_roundw
       case rel=>exact⟨j+1,by go_num,by omega,HF,HZ4⟩
       case measure=>simp[intOf];omega
  ·have hlt': ¬(j:Int)<N:=by omega
   have HF:=G (show Rv=false by
    have:=HQ.out;rw[aI (by have:=HN.out;omega),lP]at this
    exact this.symm)
   go_wp2_with fail;go_ret;exact⟨by rw[HF.out];rfl,HX.out⟩
theorem lf: ∀(m:Nat) (xs:List St),gF xs<=m->gF xs<=1073741824->Fz xs
 |0,xs,h,hw=>sh xs hw (fun s hs=>by have:=co hs;have:=s.wt_eq;omega)
 |m+1,xs,h,hw=>sh xs hw (fun s hs=>⟨lf m s.body (by have:=co hs;have:=s.wt_eq;omega) (by have:=co hs;have:=s.wt_eq;omega),lf m s.els (by have:=co hs;have:=s.wt_eq;omega) (by have:=co hs;have:=s.wt_eq;omega)⟩)
end
section
open Go.RowKit
theorem sQ {α β γ:Type} (x:Except Er α) (k:α->Except Er β) (l:β->Except Er γ):CR.then (CR.then x k) l=CR.then x fun a=>CR.then (k a) l:=by cases x<;>rfl
abbrev CB.U (X:CB) (k:Nat):Prop:=k=X.g\/X.S k
section
variable {X:CB} {gl:Gl} {lv:Value} {lo lo':Ls} {w W:World}
theorem CK.lt (h:CK X gl lv lo w):X.g<w.heap.size/\X.bi<w.heap.size/\X.ba<w.heap.size/\X.bf<w.heap.size:=⟨h.blk.lt,h.i.lt,h.a.lt,h.f.lt⟩
theorem qL {b:Nat} {t:TypeId} {cs:Array Value} {L:KF} (h:aP w b t cs) (hm:b7 w b L):False:=by
 obtain⟨es,c,hm,_⟩:=hm;unfold aP at h;rw[h]at hm;cases hm
theorem CK.newL (h:CK X gl lv lo w) (hg:X.g≠1):CK X gl (.map (some w.heap.size)) fV ((w.alloc (.map #[] 0)).setCell ⟨X.g,5,none⟩ (.map (some w.heap.size))):=by
 obtain⟨h1,h2,h3,h4⟩:=h.lt;have he:=aa w (.map #[] 0);have hi:X.bi≠X.g:=fun e=>qL h.blk (e▸h.i);have ha:X.ba≠X.g:=fun e=>qL h.blk (e▸h.a);have hf:X.bf≠X.g:=fun e=>qL h.blk (e▸h.f);have hm:=jj w;refine⟨?_,(h.i.ext he).set hi _,(h.a.ext he).set ha _,(h.f.ext he).set hf _, .inr ⟨_,rfl,?_,by omega,by omega,by omega,by omega⟩,?_⟩
 ·have:=(h.blk.ext he).set 5 (.map (some w.heap.size));simpa using this
 ·refine(hm.set (p:=⟨X.g,5,none⟩) (by show _≠X.g;omega) _).congr fun s=> ?_;simp[DA,fV]
 ·obtain⟨t,fr,ht⟩:=h.t.ext he;exact⟨t,fr,(Below.heap_setCell _ ⟨X.g,5,none⟩ _ _ (fun e=>hg e.symm)).trans ht⟩
end
theorem xe {g:Gl} {lo:Ls} {l:List (List UInt8)} {j:Nat} (h:j<l.length):oK g lo (l.drop j)=if g.known lo l[j]=true then .error (l[j],9)else oK g (lo.add l[j]) (l.drop (j+1)):=by
 rw[am h,oK]
theorem xf {g:Gl} {l:List Fc} {j:Nat} (h:j<l.length):mG g (l.drop j)=CR.then (oK g fV l[j].ps) fun lo=>CR.then (gR g lo l[j].body) fun _=>mG g (l.drop (j+1)):=by
 rw[am h,mG]
theorem uv {l:List Fc} {j:Nat} (h:j<l.length):gU (l.drop j)=if 20<l[j].ps.length+cJ l[j].body\/lP l[j].body=true then .error (l[j].nm,6)else gU (l.drop (j+1)):=by
 rw[am h,gU]
def GC (X:CB) (r:CR) (w:World) (e:Ending) (w':World):Prop:=Mv X.U w w'/\e=cg r
theorem xW (p:Pg) (hw:qA p<=6000000) (X:CB) (hX:X.Ok) (hgt:X.g≠1) (P:Nat->Prop) (w:World) (hV:nG w P X.sv p.vs) (hF:oT w P X.sf p.fs) (hP: ∀b,P b-> ¬X.U b) (hK:CK X wE (.map none) fV w):
  Calls prog 30 #[X.p] w (GC X (sV p) w):=by
 have hmm:= @run_makeMap prog;have HTO:=G (vN p hw X hX P w hV hF (fun b hb hs=>hP b hb (.inr hs)) hK);have hlf:p.fs.length<=6000000:=by have:=qk p;omega
 have HFN:=G (fun f (hf:f∈p.fs)=>show f.nm.length<=1073741824/\gF f.body<=6000000/\f.ps.length<=6000000/\ ∀y∈f.ps,y.length<=1073741824 by
  have h1:=r5 hf;have h2:=yN (f:=f);have h3:gF f.body<=f.wt:=by unfold Fc.wt;omega
  have h4:f.ps.length<=f.wt:=by
   have:=j_ (fun _:List UInt8=>1) (fun s=>s.length+1) f.ps (fun v _=>by omega);rw[g7]at this;unfold Fc.wt;omega
  exact⟨by omega,by omega,by omega,fun y hy=>by have:=Ct hy;omega⟩)
 obtain⟨Rv,hRv⟩: ∃R,sV p=R:=⟨_,rfl⟩
 have HQT:=G (show CR.then (xM p) (fun g=>CR.then (mG g (p.fs.drop 0)) fun _=>gU p.fs)=Rv from hRv);rw[hRv];clear hRv hw;obtain⟨vs,fs⟩:=p;generalize xM ⟨vs,fs⟩=tr at*;obtain⟨g,bi,ba,bf,sv,sf⟩:=X;simp only[CB.p]at*;obtain⟨NF,hNF⟩: ∃n,fs.length=n:=⟨_,rfl⟩
 obtain⟨B,cb,hB⟩: ∃B cb,sf= .slice B NF cb:=by obtain⟨A,ca,h,_⟩:=hF;exact⟨A,ca,by rw[h,hNF]⟩
 subst hB;rw[hNF]at hlf;have HNF:=G hNF;have HFr:=G (hF.keep (Q:=fun b=>P b/\b<w.heap.size) ⟨ah _,fun _ _ _=>rfl⟩ (fun b h1 h2=>⟨h1,h2⟩));have HKP:=G (fun W (h:Mv (CB.U ⟨g,bi,ba,bf,sv, .slice B NF cb⟩) w W)=>show dm (fun b=>P b/\b<w.heap.size) w W from h.keepP (fun k hk _=>hP k hk.1));have HX:=G hX;have HGT:=G hgt;clear hV hF hP hK hX hNF hgt
 cases tr with
 |error q=>
  obtain⟨qn,m⟩:=q;have HFn:=G (show Rv= .error (qn,m)from HQT.out.symm);go_enter func30,ntmps30;go_wp2_with (go_at_call 63;refine HTO.out.mono ?_;unfold Gv aY;rintro e w1 ⟨hM,rfl⟩;have HM:=G (hM.mono (S':=CB.U ⟨g,bi,ba,bf,sv, .slice B NF cb⟩) (fun k _ h=> .inr h));clear hM HTO);exact⟨rfl,HM.out,by rw[HFn.out];rfl⟩
 |ok gl=>
  have HQ0:=G (show CR.then (mG gl (fs.drop 0)) (fun _=>gU fs)=Rv from HQT.out);go_enter func30,ntmps30;go_wp2_with (go_at_call 63;refine HTO.out.mono ?_;unfold Gv;rintro e w1 ⟨hM,rfl,hK1⟩;have HM0:=G (hM.mono (S':=CB.U ⟨g,bi,ba,bf,sv, .slice B NF cb⟩) (fun k _ h=> .inr h));have HK0:=G hK1;have hc:=HK0.out.blk.cell;clear hM hK1 HTO);clear hc
  go_loopw [16] (fun vi wr=> ∃(j:Nat) (lv:Value) (lo:Ls),vi= .int .i64 (j:Int)/\j<=NF/\Hid (CR.then (mG gl (fs.drop j)) (fun _=>gU fs)=Rv)/\Hid (Mv (CB.U ⟨g,bi,ba,bf,sv, .slice B NF cb⟩) w wr)/\Hid (CK ⟨g,bi,ba,bf,sv, .slice B NF cb⟩ gl lv lo wr)) (fun vi _=>NF-(intOf vi).toNat)
  case atStart=>exact⟨0,_,_,rfl,aC _,HQ0,HM0,HK0⟩
  case round=>
   obtain⟨j,lv,lo,rfl,hj,HQ,HM,HKj⟩:=hrel;generalize wr=wo at*;by_cases hlt:j<NF
   ·have hlt':(j:Int)<NF:=by omega
    have hjl:j<fs.length:=by have:=HNF.out;omega
    obtain⟨b,o,pv,bv,rfl,hb,hPb,h0,h1,h2,hRp,hRb⟩:=lJ HFr.out j hjl;have hS:=xf (g:=gl) hjl;have hFn:=HFN.out _ (ap hjl);obtain⟨y,hy⟩: ∃y,fs[j]=y:=⟨_,rfl⟩
    rw[hy]at h0 hRp hRb hS hFn;clear hy;obtain⟨nm,ps,bd⟩:=y;simp only at h0 hRp hRb hS hFn;obtain⟨hnm,hwb,hpl,hpy⟩:=hFn
    have HQ1:=G (show CR.then (oK gl fV (ps.drop 0)) (fun lo=>CR.then (gR gl lo bd) fun _=>CR.then (mG gl (fs.drop (j+1))) fun _=>gU fs)=Rv by
     rw[<-HQ.out,hS,sQ]
     simp only[sQ,aq])
    obtain⟨M,hM⟩: ∃m,ps.length=m:=⟨_,rfl⟩
    obtain⟨Ap,cp,hpv,hRp⟩:=hRp;rw[hM]at hpv hpl;subst hpv;have HPM:=G hM;obtain⟨Ab,cb2,rfl,_⟩:=hRb.form;have e0:=((HKP.out _ HM.out).cell _ hPb hb).trans h0;have e1:=((HKP.out _ HM.out).cell _ hPb hb).trans h1;have e2:=((HKP.out _ HM.out).cell _ hPb hb).trans h2;have HRb:=G hRb;have HRp:=G hRp;have hAl:=aa wo (.cells #[.string (an nm), .slice Ap M cp, .slice Ab bd.length cb2] 81);have HKA:=G (HKj.out.ext hAl);have HBA:=G (aw wo 81 #[.string (an nm), .slice Ap M cp, .slice Ab bd.length cb2]);have HMA:=G (HM.out.alloc (.cells #[.string (an nm), .slice Ap M cp, .slice Ab bd.length cb2] 81));have hm2:=aa (wo.alloc (.cells #[.string (an nm), .slice Ap M cp, .slice Ab bd.length cb2] 81)) (.map #[] 0);have hka:=(HKA.out.blk.ext hm2).cell;have hkf:=(HKA.out.blk.ext hm2).frozen;have hgl:g≠wo.heap.size:=by have:=HKj.out.lt.1;simp only at this;omega
    have hgl2:wo.heap.size≠g:=fun e=>hgl e.symm;have HB3:=G ((HBA.out.ext hm2).far (p:=⟨g,5,none⟩) hgl2 (.map (some (wo.heap.size+1))));have fb3:=HB3.out.cell
    have HK3:=G (show CK ⟨g,bi,ba,bf,sv, .slice (some ⟨b,o,none⟩) NF cb⟩ gl (.map (some (wo.heap.size+1))) fV (((wo.alloc (.cells #[.string (an nm), .slice Ap M cp, .slice Ab bd.length cb2] 81)).alloc (.map #[] 0)).setCell ⟨g,5,none⟩ (.map (some (wo.heap.size+1))))from by
     have:=HKA.out.newL HGT.out
     rwa [World.size_alloc]at this)
    have HM3:=G ((HMA.out.alloc (.map #[] 0)).set (p:=⟨g,5,none⟩) (fun _=> .inl rfl) (.map (some (wo.heap.size+1))));have HG3:=G (World.grownBy.refl (((wo.alloc (.cells #[.string (an nm), .slice Ap M cp, .slice Ab bd.length cb2] 81)).alloc (.map #[] 0)).setCell ⟨g,5,none⟩ (.map (some (wo.heap.size+1)))) (some (wo.heap.size+1)));have hne3:wo.heap.size+1≠wo.heap.size:=by omega
    have HS3:=G (show w.heap.size<=wo.heap.size from HM.out.size);have HMW:=G (fun W (h:World.grownBy (((wo.alloc (.cells #[.string (an nm), .slice Ap M cp, .slice Ab bd.length cb2] 81)).alloc (.map #[] 0)).setCell ⟨g,5,none⟩ (.map (some (wo.heap.size+1)))) W (some (wo.heap.size+1)))=>show Mv (CB.U ⟨g,bi,ba,bf,sv, .slice (some ⟨b,o,none⟩) NF cb⟩) w W from HM3.out.tr (.of_grown (S:=fun k=>k=wo.heap.size+1) h (fun k e=>by injection e with e;exact e.symm)) (fun k h1 h2=>absurd h2 (by have:=HS3.out;omega)));clear h0 h1 h2 hRb hM hm2;go_wp2_with fail;clear fb3 hka hkf hmm
    go_loopw [27] (fun vi wr=> ∃(i:Nat) (loi:Ls),vi= .int .i64 (i:Int)/\i<=M/\Hid (CR.then (oK gl loi (ps.drop i)) (fun lo=>CR.then (gR gl lo bd) fun _=>CR.then (mG gl (fs.drop (j+1))) fun _=>gU fs)=Rv)/\Hid (World.grownBy (((wo.alloc (.cells #[.string (an nm), .slice Ap M cp, .slice Ab bd.length cb2] 81)).alloc (.map #[] 0)).setCell ⟨g,5,none⟩ (.map (some (wo.heap.size+1)))) wr (some (wo.heap.size+1)))/\Hid (CK ⟨g,bi,ba,bf,sv, .slice (some ⟨b,o,none⟩) NF cb⟩ gl (.map (some (wo.heap.size+1))) loi wr)) (fun vi _=>M-(intOf vi).toNat)
    case atStart=>exact⟨0,fV,rfl,aC _,HQ1,HG3,HK3⟩
    case round=>
     obtain⟨i,loi,rfl,hi,HIQ,HG,HKi⟩:=hrel;by_cases hli:i<M
     ·have hli':(i:Int)<M:=by omega
      have hil:i<ps.length:=by have:=HPM.out;omega
      have hpc: ∃b2 o2,Ap=some ⟨b2,o2,none⟩/\(P b2/\b2<w.heap.size)/\b2<w.heap.size/\w.cell? ⟨b2,o2+i,none⟩=some (.string (an ps[i])):=by
       rcases HRp.out with h|⟨_,_,b2,o2,h1,h2,h3,h4⟩
       ·rw[h]at hil;simp at hil
       ·exact⟨b2,o2,h1,h2,h3,h4 i hil⟩
      obtain⟨b2,o2,rfl,hb2,hb2l,p0⟩:=hpc;have q0:=((HKP.out _ (HMW.out _ HG.out)).cell _ hb2 hb2l).trans p0;have hS:=xe (g:=gl) (lo:=loi) hil;have hyl:=hpy _ (ap hil);generalize ps[i]=y at*;have hkc:=HKi.out.blk.cell
      cases hkn:gl.known loi y with
      |true=>
       have HFn:=G (show Rv= .error (y,9) by rw[<-HIQ.out,hS,hkn];rfl);go_wp2_with (first|(go_at_call 64;refine(dU _ gl _ loi _ HKi.out y hyl).mono ?_;rw[hkn];rintro e wx ⟨rfl,hE⟩;have HMX:=G ((HMW.out _ HG.out).trans (.of_ext hE));clear hE)|(go_at_call 65;refine(dT y 9 _).mono ?_;unfold aY;rintro e wx ⟨rfl,hE⟩;have HMY:=G (HMX.out.trans (.of_ext hE));clear hE));exact⟨rfl,HMY.out,by rw[HFn.out];rfl⟩
      |false=>
       have hS2:oK gl loi (ps.drop i)=oK gl (loi.add y) (ps.drop (i+1)):=by rw[hS,hkn,if_neg (by decide)]
       go_wp2_with (first|(go_at_call 64;refine(dU _ gl _ loi _ HKi.out y hyl).mono ?_;rw[hkn];rintro e wx ⟨rfl,hE⟩;have HGX:=G (HG.out.trans (hE.grownBy _));have HKX:=G (HKi.out.ext hE);clear hkc;have hkc:=HKX.out.blk.cell;clear hE)|(at_mapUpdate;refine ej Cz rfl _ _ _ rfl HKX.out.ml.1 rfl (by unfold maxLen;omega) rfl _ rfl ?_;intro w8 hm8 hg8;have HK8:=G (HKX.out.add hm8 hg8);have HG8:=G (HGX.out.trans hg8);clear hm8 hg8));go_roundw
       case rel=>exact⟨i+1,loi.add y,by go_num,by omega,G (by rw[<-hS2];exact HIQ.out),HG8,HK8⟩
       case measure=>simp[intOf];omega
     ·have hli': ¬(i:Int)<M:=by omega
      have HQ2:=G (show CR.then (gR gl loi bd) (fun _=>CR.then (mG gl (fs.drop (j+1))) fun _=>gU fs)=Rv by
       have:=HIQ.out;rw[aI (l:=ps) (by have:=HPM.out;omega),oK,eP]at this
       exact this)
      have fb:=(HB3.out.grown HG.out (Aw hne3.symm)).cell;have HMi:=G (HMW.out _ HG.out);have hc:=k' _ bd (ah _) (by omega) _ gl (wo.heap.size+1) loi (fun b=>P b/\b<w.heap.size) wr Ab _ cb2 HKi.out (HRb.out.keep (HKP.out _ HMi.out) (fun b hb _=>hb)) (fun b hb e=>by have:=HS3.out;omega);have HC:=G hc;clear hc
      cases hr:gR gl loi bd with
      |error q=>
       obtain⟨qn,m⟩:=q;have HFn:=G (show Rv= .error (qn,m) by rw[<-HQ2.out,hr];rfl);go_wp2_with (go_at_call 66;have hc:=HC.out;rw[hr]at hc;refine hc.mono ?_;unfold oS aY;rintro e wx ⟨hg,rfl⟩;have HMZ:=G (HMW.out _ (HG.out.trans hg));clear hg hc HC);exact⟨rfl,HMZ.out,by rw[HFn.out];rfl⟩
      |ok lo2=>
       have HQ3:=G (show CR.then (mG gl (fs.drop (j+1))) (fun _=>gU fs)=Rv by rw[<-HQ2.out,hr];rfl);go_wp2_with (go_at_call 66;have hc:=HC.out;rw[hr]at hc;refine hc.mono ?_;unfold oS;rintro e wx ⟨hg,rfl,hck⟩;have HMZ:=G (HMW.out _ (HG.out.trans hg));have HKZ:=G hck;clear hg hc HC hck);go_roundw
       case rel=>exact⟨j+1,_,lo2,by go_num,by omega,HQ3,HMZ,HKZ⟩
       case measure=>simp[intOf];omega
   ·have hlt': ¬(j:Int)<NF:=by omega
    have HQ1:=G (show gU (fs.drop 0)=Rv by
     have:=HQ.out;rw[aI (by have:=HNF.out;omega),mG,eP]at this
     exact this)
    have hc:=HKj.out.blk.cell;go_wp2_with fail;clear hc
    go_loopw [53] (fun vi wr=> ∃(i:Nat),vi= .int .i64 (i:Int)/\i<=NF/\Hid (gU (fs.drop i)=Rv)/\Hid (au wo wr)) (fun vi _=>NF-(intOf vi).toNat)
    case atStart=>exact⟨0,rfl,aC _,HQ1,G (aG _)⟩
    case round=>
     obtain⟨i,rfl,hi,HIQ,HX3⟩:=hrel;by_cases hli:i<NF
     ·have hli':(i:Int)<NF:=by omega
      have hil:i<fs.length:=by have:=HNF.out;omega
      obtain⟨b,o,pv,bv,rfl,hb,hPb,h0,h1,h2,hRp,hRb⟩:=lJ HFr.out i hil;have hS:=uv hil;have hFn:=HFN.out _ (ap hil);obtain⟨y,hy⟩: ∃y,fs[i]=y:=⟨_,rfl⟩
      rw[hy]at h0 hRp hRb hS hFn;clear hy;obtain⟨nm,ps,bd⟩:=y;simp only at h0 hRp hRb hS hFn;obtain⟨hnm,hwb,hpl,hpy⟩:=hFn;obtain⟨M,hM⟩: ∃m,ps.length=m:=⟨_,rfl⟩
      obtain⟨Ap,cp,hpv,hRp⟩:=hRp;rw[hM]at hpv hpl hS;subst hpv;obtain⟨Ab,cb2,rfl,_⟩:=hRb.form;have HMx:=G (HM.out.trans (.of_ext HX3.out));have e0:=((HKP.out _ HMx.out).cell _ hPb hb).trans h0;have e1:=((HKP.out _ HMx.out).cell _ hPb hb).trans h1;have e2:=((HKP.out _ HMx.out).cell _ hPb hb).trans h2;have hAl:=aa wr (.cells #[.string (an nm), .slice Ap M cp, .slice Ab bd.length cb2] 81);have HBA:=G (aw wr 81 #[.string (an nm), .slice Ap M cp, .slice Ab bd.length cb2]);have HXA:=G (HX3.out.trans hAl);have HRb:=G ((hRb.keep (HKP.out _ HMx.out) (Q:=fun b=>P b/\b<w.heap.size) (fun b hb _=>hb)).keep (.of_ext hAl) (Q:=fun b=>P b/\b<w.heap.size) (fun b hb _=>hb));have hdl:=kI bd;obtain⟨q,hq⟩: ∃q,cJ bd=q:=⟨_,rfl⟩
      obtain⟨r,hr⟩: ∃r,lP bd=r:=⟨_,rfl⟩
      rw[hq,hr]at hS;rw[hq]at hdl;have HC1:=G (fun W (h:au (wr.alloc (.cells #[.string (an nm), .slice Ap M cp, .slice Ab bd.length cb2] 81)) W)=>hq▸zD bd (by omega) (fun b=>P b/\b<w.heap.size) W Ab _ cb2 (HRb.out.keep (.of_ext h) (fun b hb _=>hb)));have HC2:=G (fun W (h:au (wr.alloc (.cells #[.string (an nm), .slice Ap M cp, .slice Ab bd.length cb2] 81)) W)=>hr▸lf _ bd (ah _) (by omega) (fun b=>P b/\b<w.heap.size) W Ab _ cb2 (HKj.out.t.ext (HXA.out.trans h)) (HRb.out.keep (.of_ext h) (fun b hb _=>hb)));have hwr:IntKind.i64.wrap ((M:Int)+(q:Int))=(M:Int)+(q:Int):=by simp[IntKind.wrap,IntKind.signed,IntKind.bits];omega
      clear h0 h1 h2 hRp hRb hM hAl hq hr;have HS:=G hS;clear hS;by_cases h20:20<M+q
      ·have h20':(20:Int)<(M:Int)+(q:Int):=by omega
       have h20d:decide ((20:Int)<(M:Int)+(q:Int))=true:=decide_eq_true h20';have HFn:=G (show Rv= .error (nm,6) by rw[<-HIQ.out,HS.out,if_pos (.inl h20)]);go_wp2_with fail;refine ay 13 4 [(5,fun v=>v= .int .i64 (q:Int),fun _ _=>True)] mixed (by kernel_rfl) ⟨fun _ _ _ _ _=>trivial,trivial⟩ ?_;repeat (first|(refine bM (by rfl) ?_;simp only[bH,bG,bF,bE,bD])|(refine sx ?_ (fun w1 hU=> ?_) ?_;rotate_left;(focus have f1:=(HBA.out.ext hU.un).cell;clear hU;go_simp<;>with_reducible rfl);simp only[bH,bG,bF,bE,bD]))
       refine so (fun w6 hU hp K hK=> ?_) ?_
       ·have hc:=HC1.out w6 hU.un;clear hp hU;go_simp;refine hc.mono ?_;rintro e w7 ⟨rfl,hE⟩;exact hK _ _ hE rfl trivial
       rintro _ rfl;simp only[bH,bG,bF,bE,bD];repeat (first|(refine bM (by rfl) ?_;simp only[bH,bG,bF,bE,bD])|(refine sx ?_ (fun w1 hU=> ?_) ?_;rotate_left;(focus have f1:=(HBA.out.ext hU.un).cell;clear hU;go_simp<;>with_reducible rfl);simp only[bH,bG,bF,bE,bD]))
       intro w8 hw8 hp;clear hp;simp only[ac,aO];have f1:=(HBA.out.ext hw8.un).cell;have HX8:=G (HXA.out.trans hw8.un);clear hw8;go_wp2_with (go_at_call 65;refine(dT nm 6 _).mono ?_;unfold aY;rintro e wx ⟨rfl,hE⟩;have HMY:=G (HM.out.trans (.of_ext (HX8.out.trans hE)));clear hE);exact⟨rfl,HMY.out,by rw[HFn.out];rfl⟩
      ·have h20': ¬(20:Int)<(M:Int)+(q:Int):=by omega
       have h20d:decide ((20:Int)<(M:Int)+(q:Int))=false:=decide_eq_false h20';go_wp2_with fail;refine ay 13 4 [(5,fun v=>v= .int .i64 (q:Int),fun _ _=>True),(11,fun v=>v= .bool r,fun _ _=>True)] mixed (by kernel_rfl) ⟨fun _ _ _ _ _=>trivial,fun _ _ _ _ _=>trivial,trivial⟩ ?_;repeat (first|(refine bM (by rfl) ?_;simp only[bH,bG,bF,bE,bD])|(refine sx ?_ (fun w1 hU=> ?_) ?_;rotate_left;(focus have f1:=(HBA.out.ext hU.un).cell;clear hU;go_simp<;>with_reducible rfl);simp only[bH,bG,bF,bE,bD]))
       refine so (fun w6 hU hp K hK=> ?_) ?_
       ·have hc:=HC1.out w6 hU.un;clear hp hU;go_simp;refine hc.mono ?_;rintro e w7 ⟨rfl,hE⟩;exact hK _ _ hE rfl trivial
       rintro _ rfl;simp only[bH,bG,bF,bE,bD];repeat (first|(refine bM (by rfl) ?_;simp only[bH,bG,bF,bE,bD])|(refine sx ?_ (fun w1 hU=> ?_) ?_;rotate_left;(focus have f1:=(HBA.out.ext hU.un).cell;clear hU;go_simp<;>with_reducible rfl);simp only[bH,bG,bF,bE,bD]))
       refine so (fun w6 hU hp K hK=> ?_) ?_
       ·have hc:=HC2.out w6 hU.un;clear hp hU;go_simp;refine hc.mono ?_;rintro e w7 ⟨rfl,hE⟩;exact hK _ _ hE rfl trivial
       rintro _ rfl;simp only[bH,bG,bF,bE,bD];repeat (first|(refine bM (by rfl) ?_;simp only[bH,bG,bF,bE,bD])|(refine sx ?_ (fun w1 hU=> ?_) ?_;rotate_left;(focus have f1:=(HBA.out.ext hU.un).cell;clear hU;go_simp<;>with_reducible rfl);simp only[bH,bG,bF,bE,bD]))
       intro w8 hw8 hp;clear hp;simp only[ac,aO];have f1:=(HBA.out.ext hw8.un).cell;have HX8:=G (HXA.out.trans hw8.un);clear hw8
       cases r with
       |false=>
        have HFn:=G (show gU (fs.drop (i+1))=Rv by rw[<-HIQ.out,HS.out,if_neg (by simp;omega)]);go_wp2_with fail;go_roundw
        case rel=>exact⟨i+1,by go_num,by omega,HFn,HX8⟩
        case measure=>simp[intOf];omega
       |true=>
        have HFn:=G (show Rv= .error (nm,6) by rw[<-HIQ.out,HS.out,if_pos (.inr rfl)]);go_wp2_with (go_at_call 65;refine(dT nm 6 _).mono ?_;unfold aY;rintro e wx ⟨rfl,hE⟩;have HMY:=G (HM.out.trans (.of_ext (HX8.out.trans hE)));clear hE);exact⟨rfl,HMY.out,by rw[HFn.out];rfl⟩
     ·have hli': ¬(i:Int)<NF:=by omega
      have HFn:=G (show Rv= .ok () by
       have:=HIQ.out;rw[aI (by have:=HNF.out;omega),gU]at this
       exact this.symm)
      go_wp2_with fail;exact bodyPost_end (results_none rfl _ _ _) rfl ⟨HM.out.trans (.of_ext HX3.out),by rw[HFn.out];rfl⟩
end
end Go.Proofs.YtoedmpgicdekmaaGreatDoor
