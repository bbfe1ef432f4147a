/-
  Parts of the proof: TyC TyD TyE.
-/
import Derived.Test.YtddomeddabfinaaGreatDoorTl27
import Derived.Test.YtddomeddabfinaaGreatDoorTl15
set_option maxRecDepth 100000
set_option maxHeartbeats 8000000
set_option linter.unusedVariables false
set_option linter.unusedSimpArgs false
set_option linter.unusedSectionVars false
namespace Go.Proofs.YtddomeddabfinaaGreatDoor
open Go.Proofs.Tryz
open Go.RowKit
theorem str_index (a:List UInt8) (i:Nat) (h:i<a.length) (w:World):(Instr.index 9 (.string (str a)) (.int .i64 (i:Int))).run prog w= .ok (.int .u8 (a[i].toNat:Int)) w:=by
 have h3:(str a)[i]? =some a[i]:=by
  have h2:i<(str a).size:=by rw[str_size];exact h
  rw[getElem?_pos (str a) i h2];rfl
 simp[Instr.index,run_underlying underlying9,asIntOf,h3]
def biS (b:Bi):List UInt8:=match b with
 |none=>[]
 |some (_,a)=>a
theorem integer_any (b:Bi) (i:Nat) (hi:i<=1073741824) (hl:(biS b).length<=1073741824) (w:World):Calls prog 55 #[.string (str (biS b)), .bool b.isSome, .int .i64 (i:Int)] w fun e w'=>e= .returned (.bool (intA b i))/\Ext w w':=by
 cases b with
 |none=>
  have HI:=hide (show intA none i=true from rfl);simp only[Option.isSome_none];go_enter func55,ntmps55;go_wp2_with fail;go_ret;exact⟨by rw[HI.out];rfl,Ext.refl _⟩
 |some x=>
  obtain⟨c,a⟩:=x;have HI:=hide (show intA (some (c,a)) i=(decide (a.length<=i)||a.getD i 0==105)from rfl);simp only[biS,Option.isSome_some]at*;have hsz:=str_size a;by_cases h:a.length<=i
  ·have h':(a.length:Int)<=i:=by omega
   go_enter func55,ntmps55;go_wp2_with fail;go_ret;exact⟨by rw[HI.out,decide_eq_true h];rfl,Ext.refl _⟩
  ·have h': ¬(a.length:Int)<=i:=by omega
   have hix:=fun w=>str_index a i (by omega) w;have hg:a.getD i 0=a[i]'(by omega):=by rw[List.getD_eq_getElem?_getD,List.getElem?_eq_getElem (by omega)];rfl
   have HI:=hide (show intA (some (c,a)) i=(a.getD i 0==105) by rw[HI.out,decide_eq_false h];rfl);rw[<-hg]at hix;generalize a.getD i 0=q at*
   have HE:=hide (show((q.toNat:Int)==105)=(q==105) by
    by_cases e:q=105
    ·subst e;rfl
    ·have: ¬(q.toNat:Int)=105:=fun h=>e (UInt8.toNat_inj.1 (by have:(105:UInt8).toNat=105:=rfl;omega))
     rw[beq_eq_false_iff_ne.2 this,beq_eq_false_iff_ne.2 e])
   clear hg;go_enter func55,ntmps55;go_wp2_with fail;go_ret;exact⟨by rw[HI.out,<-HE.out];rfl,Ext.refl _⟩
theorem needM_ge: ∀(l:List Ex) (m:Nat),m<=needM m l
 | [],m=>by rw[needM];exact Nat.le_refl _
 |y::r,m=>by rw[needM];have:=needM_ge r (max m (need y));omega
theorem needB_ge (lg:Bool): ∀(l:List Ex) (i m:Nat),m<=needB lg i m l
 | [],i,m=>by rw[needB];exact Nat.le_refl _
 |y::r,i,m=>by rw[needB];have:=needB_ge lg r (i+1) (max m (if 0<i/\lg=false then need y+1 else need y));omega
theorem needC_ge (b:Bi): ∀(l:List Ex) (i fr m:Nat),m<=needC b i fr m l
 | [],i,fr,m=>by rw[needC];exact Nat.le_refl _
 |y::r,i,fr,m=>by
  rw[needC];split
  ·have:=needC_ge b r (i+1) (fr+1) (max m (fr+need y));omega
  ·exact needC_ge b r (i+1) fr m
mutual
theorem need_le: ∀x:Ex,need x<=x.wt
 | .mk k op nm tx v a=>by
  have h1:=needM_le a 1;have h2:=needB_le (lgOp op) a 0 1;have h3:=needC_le (bltn nm) a 0 0 1;rw[need,Ex.wt];repeat' split
  all_goals omega
theorem needM_le: ∀(l:List Ex) (m:Nat),needM m l<=max m (wtL l)
 | [],m=>by rw[needM];omega
 |y::r,m=>by
  rw[needM,wtL];have:=needM_le r (max m (need y));have:=need_le y;omega
theorem needB_le (lg:Bool): ∀(l:List Ex) (i m:Nat),needB lg i m l<=max m (wtL l+1)
 | [],i,m=>by rw[needB];omega
 |y::r,i,m=>by
  rw[needB,wtL];have h1:=needB_le lg r (i+1) (max m (if 0<i/\lg=false then need y+1 else need y));have h2:=need_le y;have h3:(if 0<i/\lg=false then need y+1 else need y)<=need y+1:=by split<;>omega
  have h4:y.wt=1+y.op.length+y.nm.length+y.tx.length+wtL y.args:=y.wt_eq;omega
theorem needC_le (b:Bi): ∀(l:List Ex) (i fr m:Nat),needC b i fr m l<=max m (fr+wtL l)
 | [],i,fr,m=>by rw[needC];omega
 |y::r,i,fr,m=>by
  rw[needC,wtL];have h2:=need_le y;have h4:y.wt=1+y.op.length+y.nm.length+y.tx.length+wtL y.args:=y.wt_eq;split
  ·have:=needC_le b r (i+1) (fr+1) (max m (fr+need y));omega
  ·have:=needC_le b r (i+1) fr m;omega
end
def NdX (x:Ex):Prop:= ∀(P:Nat->Prop) (w:World) (A:Option Addr) (n c:Nat),RdE w P (.slice A n c) x.args->BT w->
 Calls prog 26 #[.agg #[.int .i64 x.k, .string (str x.op), .string (str x.nm), .string (str x.tx), .int .i64 x.v, .slice A n c]] w fun e w'=>e= .returned (.int .i64 (need x:Int))/\Ext w w'
theorem needM_drop {l:List Ex} {j m:Nat} (h:j<l.length):needM m (l.drop j)=needM (max m (need l[j])) (l.drop (j+1)):=by
 rw[List.drop_eq_getElem_cons h,needM]
theorem needB_drop {lg:Bool} {l:List Ex} {i j m:Nat} (h:j<l.length):needB lg i m (l.drop j)=needB lg (i+1) (max m (if 0<i/\lg=false then need l[j]+1 else need l[j])) (l.drop (j+1)):=by
 rw[List.drop_eq_getElem_cons h,needB]
theorem needC_drop {b:Bi} {l:List Ex} {i j fr m:Nat} (h:j<l.length):needC b i fr m (l.drop j)=if intA b i=true then needC b (i+1) (fr+1) (max m (fr+need l[j])) (l.drop (j+1))else needC b (i+1) fr m (l.drop (j+1)):=by
 rw[List.drop_eq_getElem_cons h,needC]
theorem need_a (k:Int) (hk:k=4\/k=6) (op nm tx:List UInt8) (v:Int) (xs:List Ex) (hw:(Ex.mk k op nm tx v xs).wt<=1073741824) (hIH: ∀y∈xs,NdX y):NdX (.mk k op nm tx v xs):=by
 intro P w A n c hR hT;have HRs:=hide (show need (.mk k op nm tx v xs)=needM 1 xs by rw[need,if_pos hk]);have hb:needM 1 xs<=1073741824:=by have:=need_le (.mk k op nm tx v xs);rw[HRs.out]at this;omega
 have hnl:=wtL_length xs;rw[Ex.wt]at hw;simp only[Ex.k,Ex.op,Ex.nm,Ex.tx,Ex.v,Ex.args]at*;obtain⟨A',c',hv,hf⟩:=hR.form;injection hv with hv1 hv2 hv3;subst hv1 hv2 hv3;have HR:=hide hR;have HI:=hide hIH;have HT:=hide hT;obtain⟨N,hN⟩: ∃N,xs.length=N:=⟨_,rfl⟩
 have hNb:N<=1073741824:=by omega
 have HN:=hide hN;rw[hN]at HR;have HE0:=hide (Ext.alloc w (.cells #[.int .i64 k, .string (str op), .string (str nm), .string (str tx), .int .i64 v, .slice A N c] 70));obtain⟨Rv,hRv⟩: ∃R,needM 1 xs=R:=⟨_,rfl⟩
 rw[hRv]at hb HRs;have HQ0:=hide (show needM 1 (xs.drop 0)=Rv from hRv);clear hR hf hIH hT hw hRv hnl;rw[hN];clear hN;rcases hk with rfl|rfl;all_goals
  go_enter func26,ntmps26;go_wp2_with fail
  go_loopw [3,23] (fun vm vi wr=> ∃(j m:Nat),vi= .int .i64 (j:Int)/\vm= .int .i64 (m:Int)/\j<=N/\Hid (needM m (xs.drop j)=Rv)/\Hid (Ext w wr)) (fun _ vi _=>N-(intOf vi).toNat)
  case atStart=>exact⟨0,1,rfl,rfl,Nat.zero_le _,HQ0,HE0⟩
  case round=>
   obtain⟨j,m,rfl,rfl,hj,HQ,HX⟩:=hrel;have hm:m<=1073741824:=by have:=needM_ge (xs.drop j) m;rw[HQ.out]at this;omega
   by_cases hlt:j<N
   ·have hlt':(j:Int)<N:=by omega
    have hjl:j<xs.length:=by have:=HN.out;omega
    obtain⟨b,o,a,rfl,hb,hP,h0,h1,h2,h3,h4,h5,hRa⟩:=HR.out.at_ j hjl;have HS:=hide (needM_drop (m:=m) hjl);have hIy:=HI.out _ (List.getElem_mem hjl);generalize xs[j]=y at*;have e0:=(HX.out.cell b _ hb).trans h0;have e1:=(HX.out.cell b _ hb).trans h1;have e2:=(HX.out.cell b _ hb).trans h2;have e3:=(HX.out.cell b _ hb).trans h3;have e4:=(HX.out.cell b _ hb).trans h4;have e5:=(HX.out.cell b _ hb).trans h5;obtain⟨B,d,rfl,_⟩:=hRa.form;have HRa:=hide (hRa.keep (.of_ext HX.out) (Q:=P) (fun b hb _=>hb));have HIy:=hide hIy;clear h0 h1 h2 h3 h4 h5 hRa hIy;go_wp2_with (go_at_call 26;refine(HIy.out P _ B _ d (HRa.out.keep (.of_ext (Ext.alloc _ _)) (fun b hb _=>hb)) ((HT.out.ext HX.out).ext (Ext.alloc _ _))).mono ?_;rintro e w3 ⟨rfl,hE⟩;have HY:=hide ((HX.out.alloc' _).trans hE);clear hE);go_roundw
    case rel=>exact⟨j+1,max m (need y),by go_num,by congr 1;omega,by omega,hide (HS.out.symm.trans HQ.out),HY⟩
    case measure=>simp[intOf];omega
   ·have hlt': ¬(j:Int)<N:=by omega
    have HM:=hide (show m=Rv by
     have:=HQ.out;rw[List.drop_of_length_le (by have:=HN.out;omega),needM]at this
     exact this)
    go_wp2_with fail;go_ret;exact⟨by rw[HRs.out,<-HM.out];rfl,HX.out⟩
theorem need_b (op nm tx:List UInt8) (v:Int) (xs:List Ex) (hw:(Ex.mk 7 op nm tx v xs).wt<=1073741824) (hIH: ∀y∈xs,NdX y):NdX (.mk 7 op nm tx v xs):=by
 intro P w A n c hR hT;have HRs:=hide (show need (.mk 7 op nm tx v xs)=needB (lgOp op) 0 1 xs by rw[need,if_neg (by decide),if_pos rfl]);have hb:needB (lgOp op) 0 1 xs<=1073741824:=by have:=need_le (.mk 7 op nm tx v xs);rw[HRs.out]at this;omega
 have hnl:=wtL_length xs;rw[Ex.wt]at hw;have hwl:wtL xs<=1073741823:=by omega
 simp only[Ex.k,Ex.op,Ex.nm,Ex.tx,Ex.v,Ex.args]at*;obtain⟨A',c',hv,hf⟩:=hR.form;injection hv with hv1 hv2 hv3;subst hv1 hv2 hv3;have HR:=hide hR;have HI:=hide hIH;have HT:=hide hT;obtain⟨N,hN⟩: ∃N,xs.length=N:=⟨_,rfl⟩
 have hNb:N<=1073741824:=by omega
 have HN:=hide hN;rw[hN]at HR;have HE0:=hide (Ext.alloc w (.cells #[.int .i64 7, .string (str op), .string (str nm), .string (str tx), .int .i64 v, .slice A N c] 70));have HB0:=hide (Blk.new w 70 #[.int .i64 7, .string (str op), .string (str nm), .string (str tx), .int .i64 v, .slice A N c]);obtain⟨Rv,hRv⟩: ∃R,needB (lgOp op) 0 1 xs=R:=⟨_,rfl⟩
 rw[hRv]at hb HRs;have HQ0:=hide (show needB (lgOp op) 0 1 (xs.drop 0)=Rv from hRv);clear hR hf hIH hT hw hRv hnl;rw[hN];clear hN;obtain⟨lg,hlg⟩: ∃b,lgOp op=b:=⟨_,rfl⟩
 rw[hlg]at HQ0;have HL:=hide (show(op==[38,38]||op==[124,124])=lg from hlg);clear hlg
 cases h1:(op==[38,38])<;>cases h2:(op==[124,124]);all_goals
  rw[h1,h2]at HL;have HLG:=hide HL.out.symm;simp only[Bool.or_true,Bool.or_false,Bool.true_or,Bool.false_or]at HLG;have n1:=congrArg (!·) h1;have n2:=congrArg (!·) h2;change(op !=[38,38])=_ at n1;change(op !=[124,124])=_ at n2;simp only[Bool.not_true,Bool.not_false]at n1 n2;clear HL;go_enter func26,ntmps26;go_wp2_with fail
  go_loopw [3,37] (fun vm vi wr=> ∃(j m:Nat),vi= .int .i64 (j:Int)/\vm= .int .i64 (m:Int)/\j<=N/\Hid (needB lg j m (xs.drop j)=Rv)/\Hid (Ext w wr)/\Hid (Blk wr w.heap.size 70 #[.int .i64 7, .string (str op), .string (str nm), .string (str tx), .int .i64 v, .slice A N c])) (fun _ vi _=>N-(intOf vi).toNat)
  case atStart=>exact⟨0,1,rfl,rfl,Nat.zero_le _,HQ0,HE0,HB0⟩
  case round=>
   obtain⟨j,m,rfl,rfl,hj,HQ,HX,HB⟩:=hrel;have hm:m<=1073741824:=by have:=needB_ge lg (xs.drop j) j m;rw[HQ.out]at this;omega
   by_cases hlt:j<N
   ·have hlt':(j:Int)<N:=by omega
    have hjl:j<xs.length:=by have:=HN.out;omega
    obtain⟨b,o,a,rfl,hb,hP,h0,h1,h2,h3,h4,h5,hRa⟩:=HR.out.at_ j hjl;have HS:=hide (needB_drop (lg:=lg) (i:=j) (m:=m) hjl);have hyb:=need_le xs[j];have hyw:=wtL_mem (List.getElem_mem hjl);have hIy:=HI.out _ (List.getElem_mem hjl);generalize xs[j]=y at*;have e0:=(HX.out.cell b _ hb).trans h0;have e1:=(HX.out.cell b _ hb).trans h1;have e2:=(HX.out.cell b _ hb).trans h2;have e3:=(HX.out.cell b _ hb).trans h3;have e4:=(HX.out.cell b _ hb).trans h4;have e5:=(HX.out.cell b _ hb).trans h5;obtain⟨B,d,rfl,_⟩:=hRa.form;have HRa:=hide (hRa.keep (.of_ext HX.out) (Q:=P) (fun b hb _=>hb));have HIy:=hide hIy;clear h0 h1 h2 h3 h4 h5 hRa hIy;have hnb:need y<=1073741823:=by omega
    by_cases hj0:j=0
    ·subst hj0;simp only[Nat.zero_mul,Nat.add_zero]at e0 e1 e2 e3 e4 e5;go_wp2_with (go_at_call 26;refine(HIy.out P _ B _ d (HRa.out.keep (.of_ext (Ext.alloc _ _)) (fun b hb _=>hb)) ((HT.out.ext HX.out).ext (Ext.alloc _ _))).mono ?_;rintro e w3 ⟨rfl,hE⟩;have HY:=hide ((HX.out.alloc' _).trans hE);have HBY:=hide ((HB.out.ext (Ext.alloc _ _)).ext hE);have fc:=HBY.out.cell;clear hE);go_roundw
     case rel=>exact⟨1,max m (need y),by go_num,by congr 1;omega,by omega,hide ((by rw[HS.out,if_neg (by simp)]:needB lg 0 m (xs.drop 0)=needB lg 1 (max m (need y)) (xs.drop 1)).symm.trans HQ.out),HY,HBY⟩
     case measure=>simp[intOf];omega
    ·have hj0':(0:Int)<j:=by omega
     go_wp2_with (go_at_call 26;refine(HIy.out P _ B _ d (HRa.out.keep (.of_ext (Ext.alloc _ _)) (fun b hb _=>hb)) ((HT.out.ext HX.out).ext (Ext.alloc _ _))).mono ?_;rintro e w3 ⟨rfl,hE⟩;have HY:=hide ((HX.out.alloc' _).trans hE);have HBY:=hide ((HB.out.ext (Ext.alloc _ _)).ext hE);have fc:=HBY.out.cell;clear hE);go_roundw
     case rel=>first|exact⟨j+1,max m (need y+1),by go_num,by congr 1;omega,by omega,hide ((by rw[HS.out,if_pos ⟨by omega,HLG.out⟩]:needB lg j m (xs.drop j)=needB lg (j+1) (max m (need y+1)) (xs.drop (j+1))).symm.trans HQ.out),HY,HBY⟩|exact⟨j+1,max m (need y),by go_num,by congr 1;omega,by omega,hide ((by rw[HS.out,if_neg (by rw[HLG.out];simp)]:needB lg j m (xs.drop j)=needB lg (j+1) (max m (need y)) (xs.drop (j+1))).symm.trans HQ.out),HY,HBY⟩
     case measure=>simp[intOf];omega
   ·have hlt': ¬(j:Int)<N:=by omega
    have HM:=hide (show m=Rv by
     have:=HQ.out;rw[List.drop_of_length_le (by have:=HN.out;omega),needB]at this
     exact this)
    go_wp2_with fail;go_ret;exact⟨by rw[HRs.out,<-HM.out];rfl,HX.out⟩
end Go.Proofs.YtddomeddabfinaaGreatDoor
namespace Go.Proofs.YtddomeddabfinaaGreatDoor
open Go.Proofs.Tryz
open Go.RowKit
def biK (b:Bi):Int:=match b with
 |none=>0
 |some (c,_)=>c
theorem blt_any' (s:List UInt8) (w:World) (h:BT w):Calls prog 22 #[.string (str s)] w fun e w'=>e= .returned (.tuple #[.int .i64 (biK (bltn s)), .string (str (biS (bltn s))), .bool (bltn s).isSome])/\Ext w w':=by
 refine(blt_any s w h).mono fun e w' ⟨he,hE⟩=>⟨?_,hE⟩
 rw[he]
 cases bltn s<;>rfl
theorem bi_len: ∀x∈biT,x.2.2.length<=3:=by decide
theorem biS_len (s:List UInt8):(biS (bltn s)).length<=3:=by
 cases h:bltn s with
 |none=>simp[biS]
 |some x=>
  unfold bltn at h;rw[Option.map_eq_some_iff]at h;obtain⟨y,hy,rfl⟩:=h;exact bi_len y (List.mem_of_find?_eq_some hy)
theorem need_c (op nm tx:List UInt8) (v:Int) (xs:List Ex) (hw:(Ex.mk 5 op nm tx v xs).wt<=1073741824) (hIH: ∀y∈xs,NdX y):NdX (.mk 5 op nm tx v xs):=by
 intro P w A n c hR hT;have HRs:=hide (show need (.mk 5 op nm tx v xs)=needC (bltn nm) 0 0 1 xs by rw[need,if_neg (by decide),if_neg (by decide),if_pos rfl]);have hb:needC (bltn nm) 0 0 1 xs<=1073741824:=by have:=need_le (.mk 5 op nm tx v xs);rw[HRs.out]at this;omega
 have hnl:=wtL_length xs;rw[Ex.wt]at hw;have hwl:wtL xs<=1073741823:=by omega
 have hbl:=biS_len nm;simp only[Ex.k,Ex.op,Ex.nm,Ex.tx,Ex.v,Ex.args]at*;obtain⟨A',c',hv,hf⟩:=hR.form;injection hv with hv1 hv2 hv3;subst hv1 hv2 hv3;have HR:=hide hR;have HI:=hide hIH;have HT:=hide hT;obtain⟨N,hN⟩: ∃N,xs.length=N:=⟨_,rfl⟩
 have hNb:N<=1073741823:=by omega
 have HN:=hide hN;rw[hN]at HR;have hEA:=Ext.alloc w (.cells #[.int .i64 5, .string (str op), .string (str nm), .string (str tx), .int .i64 v, .slice A N c] 70);have HE0:=hide hEA;have HB0:=hide (Blk.new w 70 #[.int .i64 5, .string (str op), .string (str nm), .string (str tx), .int .i64 v, .slice A N c]);have HBL:=hide (blt_any' nm _ (hT.ext hEA));have HIN:=hide (fun(i:Nat) (hi:i<=1073741824) (W:World)=>integer_any (bltn nm) i hi (by omega) W);generalize bltn nm=bi at*;generalize biS bi=ls at*;generalize biK bi=bk at*;generalize bi.isSome=bs at*;obtain⟨Rv,hRv⟩: ∃R,needC bi 0 0 1 xs=R:=⟨_,rfl⟩
 rw[hRv]at hb HRs;have HQ0:=hide (show needC bi 0 0 1 (xs.drop 0)=Rv from hRv);clear hR hf hIH hT hw hRv hnl hEA hbl;rw[hN];clear hN;go_enter func26,ntmps26;go_wp2_with (go_at_call 22;refine HBL.out.mono ?_;rintro e w1 ⟨rfl,hE⟩;have HX0:=hide (HE0.out.trans hE);have f0:=(HB0.out.ext hE).cell;clear hE HBL)
 go_loopw [3,12,74] (fun vm vf vi wr=> ∃(j m fr:Nat),vi= .int .i64 (j:Int)/\vm= .int .i64 (m:Int)/\vf= .int .i64 (fr:Int)/\j<=N/\fr<=j/\Hid (needC bi j fr m (xs.drop j)=Rv)/\Hid (Ext w wr)) (fun _ _ vi _=>N-(intOf vi).toNat)
 case atStart=>exact⟨0,1,0,rfl,rfl,rfl,Nat.zero_le _,Nat.zero_le _,HQ0,HX0⟩
 case round=>
  obtain⟨j,m,fr,rfl,rfl,rfl,hj,hfr,HQ,HX⟩:=hrel;have hm:m<=1073741824:=by have:=needC_ge bi (xs.drop j) j fr m;rw[HQ.out]at this;omega
  by_cases hlt:j<N
  ·have hlt':(j:Int)<N:=by omega
   have hjl:j<xs.length:=by have:=HN.out;omega
   obtain⟨b,o,a,rfl,hb,hP,h0,h1,h2,h3,h4,h5,hRa⟩:=HR.out.at_ j hjl;have HS:=hide (needC_drop (b:=bi) (i:=j) (fr:=fr) (m:=m) hjl);have hyb:=need_le xs[j];have hyw:=wtL_mem (List.getElem_mem hjl);have hIy:=HI.out _ (List.getElem_mem hjl);generalize xs[j]=y at*;have HIN1:=hide (HIN.out j (by omega));have e0:=(HX.out.cell b _ hb).trans h0;have e1:=(HX.out.cell b _ hb).trans h1;have e2:=(HX.out.cell b _ hb).trans h2;have e3:=(HX.out.cell b _ hb).trans h3;have e4:=(HX.out.cell b _ hb).trans h4;have e5:=(HX.out.cell b _ hb).trans h5;obtain⟨B,d,rfl,_⟩:=hRa.form;have HRa:=hide (hRa.keep (.of_ext HX.out) (Q:=P) (fun b hb _=>hb));have HIy:=hide hIy;have hnb:need y<=1073741823:=by omega
   have HB1:=hide (Blk.new wr 70 #[.int .i64 y.k, .string (str y.op), .string (str y.nm), .string (str y.tx), .int .i64 y.v, .slice B y.args.length d]);have HX1:=hide (HX.out.alloc' (.cells #[.int .i64 y.k, .string (str y.op), .string (str y.nm), .string (str y.tx), .int .i64 y.v, .slice B y.args.length d] 70));clear h0 h1 h2 h3 h4 h5 hRa hIy hyb hyw
   cases hia:intA bi j with
   |true=>
    rw[hia]at HS HIN1;go_wp2_with (first|(go_at_call 55;refine(HIN1.out _).mono ?_;rintro e w2 ⟨rfl,hE⟩;have HX2:=hide (HX1.out.trans hE);have HE2:=hide hE;have f1:=(HB1.out.ext hE).cell;clear hE HIN1)|(go_at_call 26;refine(HIy.out P _ B _ d ((HRa.out.keep (.of_ext (Ext.alloc _ _)) (fun b hb _=>hb)).keep (.of_ext HE2.out) (fun b hb _=>hb)) (HT.out.ext HX2.out)).mono ?_;rintro e w3 ⟨rfl,hE⟩;have HY:=hide (HX2.out.trans hE);clear hE f1));go_roundw
    case rel=>exact⟨j+1,max m (fr+need y),fr+1,by go_num,by congr 1;omega,by go_num,by omega,by omega,hide ((by rw[HS.out,if_pos trivial]:needC bi j fr m (xs.drop j)=needC bi (j+1) (fr+1) (max m (fr+need y)) (xs.drop (j+1))).symm.trans HQ.out),HY⟩
    case measure=>simp[intOf];omega
   |false=>
    rw[hia]at HS HIN1;go_wp2_with (go_at_call 55;refine(HIN1.out _).mono ?_;rintro e w2 ⟨rfl,hE⟩;have HX2:=hide (HX1.out.trans hE);clear hE HIN1);go_roundw
    case rel=>exact⟨j+1,m,fr,by go_num,rfl,rfl,by omega,by omega,hide ((by rw[HS.out,if_neg (by simp)]:needC bi j fr m (xs.drop j)=needC bi (j+1) fr m (xs.drop (j+1))).symm.trans HQ.out),HX2⟩
    case measure=>simp[intOf];omega
  ·have hlt': ¬(j:Int)<N:=by omega
   have HM:=hide (show m=Rv by
    have:=HQ.out;rw[List.drop_of_length_le (by have:=HN.out;omega),needC]at this
    exact this)
   go_wp2_with fail;go_ret;exact⟨by rw[HRs.out,<-HM.out];rfl,HX.out⟩
theorem need_z (k:Int) (h4:(k==4)=false) (h6:(k==6)=false) (h7:(k==7)=false) (h5:(k==5)=false) (op nm tx:List UInt8) (v:Int) (xs:List Ex):NdX (.mk k op nm tx v xs):=by
 intro P w A n c hR hT
 have HRs:=hide (show need (.mk k op nm tx v xs)=1 by
  rw[need,if_neg (by simp only[beq_eq_false_iff_ne]at h4 h6;omega),if_neg (by simpa using h7),if_neg (by simpa using h5)])
 have HE0:=hide (Ext.alloc w (.cells #[.int .i64 k, .string (str op), .string (str nm), .string (str tx), .int .i64 v, .slice A n c] 70));simp only[Ex.k,Ex.op,Ex.nm,Ex.tx,Ex.v,Ex.args]at*;clear hR hT;go_enter func26,ntmps26;go_wp2_with fail;go_ret;exact⟨by rw[HRs.out];rfl,HE0.out⟩
theorem tneed_any: ∀(m:Nat) (x:Ex),x.wt<=m->x.wt<=1073741824->NdX x
 |0,x,h,_=>absurd h (by have:=x.wt_eq;omega)
 |m+1, .mk k op nm tx v xs,h,hw=>by
  have hIH: ∀y∈xs,NdX y:=fun y hy=>tneed_any m y (by have:=wtL_mem hy;rw[Ex.wt]at h;omega) (by have:=wtL_mem hy;rw[Ex.wt]at hw;omega);by_cases h46:k=4\/k=6
  ·exact need_a k h46 op nm tx v xs hw hIH
  by_cases h7:k=7
  ·subst h7;exact need_b op nm tx v xs hw hIH
  by_cases h5:k=5
  ·subst h5;exact need_c op nm tx v xs hw hIH
  exact need_z k (beq_eq_false_iff_ne.2 (by omega)) (beq_eq_false_iff_ne.2 (by omega)) (beq_eq_false_iff_ne.2 h7) (beq_eq_false_iff_ne.2 h5) op nm tx v xs
end Go.Proofs.YtddomeddabfinaaGreatDoor
namespace Go.Proofs.YtddomeddabfinaaGreatDoor
open Go.Proofs.Tryz
open Go.RowKit
def CkX (x:Ex):Prop:= ∀(X:CB) (gl:Gl) (lv:Value) (lo:Ls) (P:Nat->Prop) (w:World) (A:Option Addr) (n c:Nat),CK X gl lv lo w->RdE w P (.slice A n c) x.args->
 Calls prog 156 #[X.p, .agg #[.int .i64 x.k, .string (str x.op), .string (str x.nm), .string (str x.tx), .int .i64 x.v, .slice A n c]] w fun e w'=>e=ckEnd (ckE gl lo x)/\Ext w w'
def CkLs (xs:List Ex):Prop:= ∀(X:CB) (gl:Gl) (lv:Value) (lo:Ls) (P:Nat->Prop) (w:World) (A:Option Addr) (n c:Nat),CK X gl lv lo w->RdE w P (.slice A n c) xs->
 Calls prog 121 #[X.p, .slice A n c] w fun e w'=>e=ckEnd (ckL gl lo xs)/\Ext w w'
theorem ckL_drop {gl:Gl} {lo:Ls} {l:List Ex} {j:Nat} (h:j<l.length):ckL gl lo (l.drop j)=CR.then (ckE gl lo l[j]) fun _=>ckL gl lo (l.drop (j+1)):=by
 rw[List.drop_eq_getElem_cons h,ckL]
theorem exprs_any (xs:List Ex) (hl:xs.length<=1073741824) (hIH: ∀y∈xs,CkX y):CkLs xs:=by
 intro X gl lv lo P w A n c hK hR;obtain⟨A',c',hv,hf⟩:=hR.form;injection hv with hv1 hv2 hv3;subst hv1 hv2 hv3;have HR:=hide hR;have HI:=hide hIH;have HK:=hide hK;obtain⟨N,hN⟩: ∃N,xs.length=N:=⟨_,rfl⟩
 have HN:=hide hN;rw[hN]at HR hl;obtain⟨Rv,hRv⟩: ∃R,ckL gl lo xs=R:=⟨_,rfl⟩
 have HRv:=hide hRv;have HQ0:=hide (show ckL gl lo (xs.drop 0)=Rv from hRv);have HE0:=hide (Ext.refl w);obtain⟨Xp,hXp⟩: ∃p,X.p=p:=⟨_,rfl⟩
 have hXp':Xp= .pointer (some ⟨X.g,0,none⟩):=hXp.symm;clear hR hf hIH hK;rw[hN,hRv];clear hN hRv;subst hXp';simp only[CB.p]at*;clear hXp;go_enter func121,ntmps121;go_wp2_with fail
 go_loopw [8] (fun vi wr=> ∃(j:Nat),vi= .int .i64 (j:Int)/\j<=N/\Hid (ckL gl lo (xs.drop j)=Rv)/\Hid (Ext w wr)) (fun vi _=>N-(intOf vi).toNat)
 case atStart=>exact⟨0,rfl,Nat.zero_le _,HQ0,HE0⟩
 case round=>
  obtain⟨j,rfl,hj,HQ,HX⟩:=hrel;by_cases hlt:j<N
  ·have hlt':(j:Int)<N:=by omega
   have hjl:j<xs.length:=by have:=HN.out;omega
   obtain⟨b,o,a,rfl,hb,hP,h0,h1,h2,h3,h4,h5,hRa⟩:=HR.out.at_ j hjl;have HS:=hide (ckL_drop (gl:=gl) (lo:=lo) hjl);have hIy:=HI.out _ (List.getElem_mem hjl);generalize xs[j]=y at*;have e0:=(HX.out.cell b _ hb).trans h0;have e1:=(HX.out.cell b _ hb).trans h1;have e2:=(HX.out.cell b _ hb).trans h2;have e3:=(HX.out.cell b _ hb).trans h3;have e4:=(HX.out.cell b _ hb).trans h4;have e5:=(HX.out.cell b _ hb).trans h5;obtain⟨B,d,rfl,_⟩:=hRa.form;have HC:=hide (hIy X gl lv lo P _ B _ d ((HK.out.ext HX.out).ext (Ext.alloc _ (.cells #[.int .i64 y.k, .string (str y.op), .string (str y.nm), .string (str y.tx), .int .i64 y.v, .slice B y.args.length d] 70))) ((hRa.keep (.of_ext HX.out) (Q:=P) (fun b hb _=>hb)).keep (.of_ext (Ext.alloc _ _)) (fun b hb _=>hb)));have HX1:=hide (HX.out.alloc' (.cells #[.int .i64 y.k, .string (str y.op), .string (str y.nm), .string (str y.tx), .int .i64 y.v, .slice B y.args.length d] 70));clear h0 h1 h2 h3 h4 h5 hRa hIy;generalize ckE gl lo y=r at*;simp only[CB.p]at HC
   cases r with
   |ok u=>
    go_wp2_with (go_at_call 156;refine HC.out.mono ?_;unfold ckEnd;rintro e w3 ⟨rfl,hE⟩;have HY:=hide (HX1.out.trans hE);clear hE HC);go_roundw
    case rel=>exact⟨j+1,by go_num,by omega,hide (HS.out.symm.trans HQ.out),HY⟩
    case measure=>simp[intOf];omega
   |error q=>
    obtain⟨nm,n⟩:=q;have HF:=hide (show Rv= .error (nm,n)from HQ.out.symm.trans HS.out);go_wp2_with (go_at_call 156;refine HC.out.mono ?_;unfold ckEnd mistakeV;rintro e w3 ⟨rfl,hE⟩;have HY:=hide (HX1.out.trans hE);clear hE HC);exact⟨rfl,by rw[HF.out];rfl,HY.out⟩
  ·have hlt': ¬(j:Int)<N:=by omega
   have HF:=hide (show Rv= .ok () by
    have:=HQ.out;rw[List.drop_of_length_le (by have:=HN.out;omega),ckL]at this
    exact this.symm)
   go_wp2_with fail;exact bodyPost_end (results_none rfl _ _ _) rfl ⟨by rw[HF.out];rfl,HX.out⟩
end Go.Proofs.YtddomeddabfinaaGreatDoor
