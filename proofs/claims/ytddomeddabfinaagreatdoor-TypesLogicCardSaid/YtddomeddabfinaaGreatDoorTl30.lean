/-
  Parts of the proof: TyF TyG TyH.
-/
import Derived.Test.YtddomeddabfinaaGreatDoorTl28
import Derived.Test.YtddomeddabfinaaGreatDoorTl29
import Derived.Test.YtddomeddabfinaaGreatDoorTl02
set_option maxRecDepth 100000
set_option maxHeartbeats 8000000
set_option linter.unusedVariables false
set_option linter.unusedSimpArgs false
set_option linter.unusedSectionVars false
namespace Go.Proofs.YtddomeddabfinaaGreatDoor
open Go.Proofs.Tryz
open Go.RowKit
theorem ckA_drop {gl:Gl} {lo:Ls} {nm:List UInt8} {b:Bi} {l:List Ex} {j:Nat} (h:j<l.length):ckA gl lo nm b j (l.drop j)=CR.then (if intA b j=true then ckE gl lo l[j]else if badA (letA b j) l[j].k=true then .error (nm,16)else if l[j].k=3 then ckArr gl lo l[j].nm else .ok ()) fun _=>ckA gl lo nm b (j+1) (l.drop (j+1)):=by
 rw[List.drop_eq_getElem_cons h,ckA]
def CkC (op nm tx:List UInt8) (v:Int) (xs:List Ex):Prop:= ∀(X:CB) (gl:Gl) (lv:Value) (lo:Ls) (P:Nat->Prop) (w:World) (A:Option Addr) (n c:Nat),CK X gl lv lo w->RdE w P (.slice A n c) xs->
 Calls prog 185 #[X.p, .agg #[.int .i64 5, .string (str op), .string (str nm), .string (str tx), .int .i64 v, .slice A n c]] w fun e w'=>e=ckEnd (ckE gl lo (.mk 5 op nm tx v xs))/\Ext w w'
theorem tcall_none (op nm tx:List UInt8) (v:Int) (xs:List Ex) (hl:xs.length<=1073741824) (hnm:nm.length<=1073741824) (hb:bltn nm=none) (hIH: ∀y∈xs,CkX y):CkC op nm tx v xs:=by
 intro X gl lv lo P w A n c hK hR;obtain⟨A',c',hv,hf⟩:=hR.form;injection hv with hv1 hv2 hv3;subst hv1 hv2 hv3;have HR:=hide hR;have HI:=hide hIH;obtain⟨N,hN⟩: ∃N,xs.length=N:=⟨_,rfl⟩
 have HN:=hide hN;rw[hN]at HR hl;obtain⟨Rv,hRv⟩: ∃R,ckE gl lo (.mk 5 op nm tx v xs)=R:=⟨_,rfl⟩
 have HRv:=hide (show Rv=match gl.fn nm with|none=> .error (nm,15)|some n=>if n=N then ckA gl lo nm none 0 xs else .error (nm,16) by
  rw[<-hRv,ckE,if_neg (by decide),if_neg (by decide),if_neg (by decide),if_pos rfl];unfold arity;rw[hb,<-hN]
  cases gl.fn nm<;>rfl)
 have hEA:=Ext.alloc w (.cells #[.int .i64 5, .string (str op), .string (str nm), .string (str tx), .int .i64 v, .slice A N c] 70);have HE0:=hide hEA;have HB0:=hide (Blk.new w 70 #[.int .i64 5, .string (str op), .string (str nm), .string (str tx), .int .i64 v, .slice A N c]);have HK0:=hide (hK.ext hEA)
 have HBL:=hide (show Calls prog 22 #[.string (str nm)] (w.alloc (.cells #[.int .i64 5, .string (str op), .string (str nm), .string (str tx), .int .i64 v, .slice A N c] 70)) fun e w'=>e= .returned (.tuple #[.int .i64 0, .string ⟨#[]⟩, .bool false])/\Ext (w.alloc (.cells #[.int .i64 5, .string (str op), .string (str nm), .string (str tx), .int .i64 v, .slice A N c] 70)) w' from by
  have:=blt_any nm _ HK0.out.t;rw[hb]at this
  exact this)
 have HIN:=hide (fun(i:Nat) (hi:i<=1073741824) (W:World)=>show Calls prog 55 #[.string ⟨#[]⟩, .bool false, .int .i64 (i:Int)] W fun e w'=>e= .returned (.bool true)/\Ext W w' from integer_any none i hi (by simp[biS]) W);have HF:=hide (fun n W=>tfail_any nm n W);clear hR hf hIH hb hEA hK;rw[hN,hRv];clear hN hRv;obtain⟨g,bi,ba,bf,sv,sf⟩:=X;simp only[CB.p]at*
 cases hfn:gl.fn nm with
 |none=>
  have HE:=hide (show Rv= .error (nm,15) by rw[HRv.out,hfn]);clear HI HIN HRv;go_enter func185,ntmps185;go_wp2_with (go_at_call 22;refine HBL.out.mono ?_;rintro e w1 ⟨rfl,hE⟩;have HX1:=hide (HE0.out.trans hE);have HB1:=hide (HB0.out.ext hE);have f0:=HB1.out.cell;have HK1:=hide (HK0.out.ext hE);clear hE HBL HB0 HK0 HE0);refine wp_region_ext 12 1 [] mixed (by kernel_rfl) trivial ?_;repeat (refine sx ?_ (fun w1 hU=> ?_) ?_;rotate_left;(focus have f0:=(HB1.out.ext hU.un).cell;have fk:=(HK1.out.ext hU.un).blk.cell;have f2:=(HK1.out.ext hU.un).lookF hnm;rw[hfn]at f2;simp only[Option.getD_none,Option.isSome_none]at f2;clear hU;go_simp<;>with_reducible rfl);simp only[pq0,pq1,pq2,pq3,pq4])
  intro w7 hw7 _;simp only[List.drop_succ_cons,List.drop_nil];have HX2:=hide (HX1.out.trans hw7.un);clear f0;have f0:=(HB1.out.ext hw7.un).cell;clear hw7;go_wp2_with (go_at_call 73;refine(HF.out _ _).mono ?_;unfold mistakeV;rintro e w2 ⟨rfl,hE⟩;have HY:=hide (HX2.out.trans hE);clear hE HF);exact⟨rfl,by rw[HE.out];rfl,HY.out⟩
 |some k=>
  by_cases hkN:k=N
  ·subst hkN;have HE:=hide (show Rv=ckA gl lo nm none 0 xs by rw[HRv.out,hfn];simp);have HQ0:=hide (show ckA gl lo nm none 0 (xs.drop 0)=Rv from HE.out.symm);clear HRv;go_enter func185,ntmps185;go_wp2_with (go_at_call 22;refine HBL.out.mono ?_;rintro e w1 ⟨rfl,hE⟩;have HX1:=hide (HE0.out.trans hE);have HB1:=hide (HB0.out.ext hE);have f0:=HB1.out.cell;have HK1:=hide (HK0.out.ext hE);clear hE HBL HB0 HK0 HE0);refine wp_region_ext 12 1 [] mixed (by kernel_rfl) trivial ?_;repeat (refine sx ?_ (fun w1 hU=> ?_) ?_;rotate_left;(focus have f0:=(HB1.out.ext hU.un).cell;have fk:=(HK1.out.ext hU.un).blk.cell;have f2:=(HK1.out.ext hU.un).lookF hnm;rw[hfn]at f2;simp only[Option.getD_some,Option.isSome_some]at f2;clear hU;go_simp<;>with_reducible rfl);simp only[pq0,pq1,pq2,pq3,pq4])
   intro w7 hw7 _;simp only[List.drop_succ_cons,List.drop_nil];have HX2:=hide (HX1.out.trans hw7.un);have HK2:=hide (HK1.out.ext hw7.un);clear f0;have f0:=(HB1.out.ext hw7.un).cell;clear hw7 HX1 HK1 HB1;go_wp2_with fail;clear f0
   go_loopw [53] (fun vi wr=> ∃(j:Nat),vi= .int .i64 (j:Int)/\j<=k/\Hid (ckA gl lo nm none j (xs.drop j)=Rv)/\Hid (Ext w wr)/\Hid (CK ⟨g,bi,ba,bf,sv,sf⟩ gl lv lo wr)) (fun vi _=>k-(intOf vi).toNat)
   case atStart=>exact⟨0,rfl,Nat.zero_le _,HQ0,HX2,HK2⟩
   case round=>
    obtain⟨j,rfl,hj,HQ,HX,HKj⟩:=hrel;by_cases hlt:j<k
    ·have hlt':(j:Int)<k:=by omega
     have hjl:j<xs.length:=by have:=HN.out;omega
     obtain⟨b,o,a,rfl,hb,hP,h0,h1,h2,h3,h4,h5,hRa⟩:=HR.out.at_ j hjl;have HS:=hide (ckA_drop (gl:=gl) (lo:=lo) (nm:=nm) (b:=none) hjl);have hIy:=HI.out _ (List.getElem_mem hjl);generalize xs[j]=y at*;have e0:=(HX.out.cell b _ hb).trans h0;have e1:=(HX.out.cell b _ hb).trans h1;have e2:=(HX.out.cell b _ hb).trans h2;have e3:=(HX.out.cell b _ hb).trans h3;have e4:=(HX.out.cell b _ hb).trans h4;have e5:=(HX.out.cell b _ hb).trans h5;obtain⟨B,d,rfl,_⟩:=hRa.form;have HRa:=hide ((hRa.keep (.of_ext HX.out) (Q:=P) (fun b hb _=>hb)).keep (.of_ext (Ext.alloc _ (.cells #[.int .i64 y.k, .string (str y.op), .string (str y.nm), .string (str y.tx), .int .i64 y.v, .slice B y.args.length d] 70))) (Q:=P) (fun b hb _=>hb));have HB1:=hide (Blk.new wr 70 #[.int .i64 y.k, .string (str y.op), .string (str y.nm), .string (str y.tx), .int .i64 y.v, .slice B y.args.length d]);have HX1:=hide (HX.out.alloc' (.cells #[.int .i64 y.k, .string (str y.op), .string (str y.nm), .string (str y.tx), .int .i64 y.v, .slice B y.args.length d] 70));have HK1:=hide (HKj.out.ext (Ext.alloc wr (.cells #[.int .i64 y.k, .string (str y.op), .string (str y.nm), .string (str y.tx), .int .i64 y.v, .slice B y.args.length d] 70)));have HIy:=hide (hIy ⟨g,bi,ba,bf,sv,sf⟩ gl lv lo P);have HIN1:=hide (HIN.out j (by omega));clear h0 h1 h2 h3 h4 h5 hRa hIy;simp only[CB.p]at HIy;generalize ckE gl lo y=r at*;rw[show intA none j=true from rfl]at HS;simp only[if_true]at HS
     cases r with
     |ok u=>
      go_wp2_with (first|(go_at_call 55;refine(HIN1.out _).mono ?_;rintro e w2 ⟨rfl,hE⟩;have HX3:=hide (HX1.out.trans hE);have HE2:=hide hE;have f1:=(HB1.out.ext hE).cell;have HK3:=hide (HK1.out.ext hE);clear hE HIN1)|(go_at_call 156;refine(HIy.out _ B _ d HK3.out (HRa.out.keep (.of_ext HE2.out) (fun b hb _=>hb))).mono ?_;unfold ckEnd;rintro e w3 ⟨rfl,hE⟩;have HY:=hide (HX3.out.trans hE);have HKY:=hide (HK3.out.ext hE);clear hE HIy));go_roundw
      case rel=>exact⟨j+1,by go_num,by omega,hide (HS.out.symm.trans HQ.out),HY,HKY⟩
      case measure=>simp[intOf];omega
     |error q=>
      obtain⟨qn,n⟩:=q;have HFn:=hide (show Rv= .error (qn,n)from HQ.out.symm.trans HS.out);go_wp2_with (first|(go_at_call 55;refine(HIN1.out _).mono ?_;rintro e w2 ⟨rfl,hE⟩;have HX3:=hide (HX1.out.trans hE);have HE2:=hide hE;have f1:=(HB1.out.ext hE).cell;have HK3:=hide (HK1.out.ext hE);clear hE HIN1)|(go_at_call 156;refine(HIy.out _ B _ d HK3.out (HRa.out.keep (.of_ext HE2.out) (fun b hb _=>hb))).mono ?_;unfold ckEnd mistakeV;rintro e w3 ⟨rfl,hE⟩;have HY:=hide (HX3.out.trans hE);clear hE HIy));exact⟨rfl,by rw[HFn.out];rfl,HY.out⟩
    ·have hlt': ¬(j:Int)<k:=by omega
     have HFn:=hide (show Rv= .ok () by
      have:=HQ.out;rw[List.drop_of_length_le (by have:=HN.out;omega),ckA]at this
      exact this.symm)
     go_wp2_with fail;exact bodyPost_end (results_none rfl _ _ _) rfl ⟨by rw[HFn.out];rfl,HX.out⟩
  ·have HE:=hide (show Rv= .error (nm,16) by rw[HRv.out,hfn];simp[hkN]);have hkN':((k:Int) !=(N:Int))=true:=by simp;omega
   have hkN2:((k:Int)==(N:Int))=false:=by simp;omega
   clear HI HIN HRv;go_enter func185,ntmps185;go_wp2_with (go_at_call 22;refine HBL.out.mono ?_;rintro e w1 ⟨rfl,hE⟩;have HX1:=hide (HE0.out.trans hE);have HB1:=hide (HB0.out.ext hE);have f0:=HB1.out.cell;have HK1:=hide (HK0.out.ext hE);clear hE HBL HB0 HK0 HE0);refine wp_region_ext 12 1 [] mixed (by kernel_rfl) trivial ?_;repeat (refine sx ?_ (fun w1 hU=> ?_) ?_;rotate_left;(focus have f0:=(HB1.out.ext hU.un).cell;have fk:=(HK1.out.ext hU.un).blk.cell;have f2:=(HK1.out.ext hU.un).lookF hnm;rw[hfn]at f2;simp only[Option.getD_some,Option.isSome_some]at f2;clear hU;go_simp<;>with_reducible rfl);simp only[pq0,pq1,pq2,pq3,pq4])
   intro w7 hw7 _;simp only[List.drop_succ_cons,List.drop_nil];have HX2:=hide (HX1.out.trans hw7.un);clear f0;have f0:=(HB1.out.ext hw7.un).cell;clear hw7;go_wp2_with (go_at_call 73;refine(HF.out _ _).mono ?_;unfold mistakeV;rintro e w2 ⟨rfl,hE⟩;have HY:=hide (HX2.out.trans hE);clear hE HF);exact⟨rfl,by rw[HE.out];rfl,HY.out⟩
end Go.Proofs.YtddomeddabfinaaGreatDoor
namespace Go.Proofs.YtddomeddabfinaaGreatDoor
open Go.Proofs.Tryz
open Go.RowKit
theorem tcall_some (op nm tx:List UInt8) (v:Int) (xs:List Ex) (hl:xs.length<=1073741824) (hnm:nm.length<=1073741824) (bc:Int) (ls:List UInt8) (hb:bltn nm=some (bc,ls)) (hls:ls.length<=3) (hIH: ∀y∈xs,CkX y) (hY2: ∀y∈xs,y.nm.length<=1073741824):CkC op nm tx v xs:=by
 intro X gl lv lo P w A n c hK hR;obtain⟨A',c',hv,hf⟩:=hR.form;injection hv with hv1 hv2 hv3;subst hv1 hv2 hv3;have HR:=hide hR;have HI:=hide hIH;have HY2:=hide hY2;have HLT:=hide (bltn_let hb);obtain⟨N,hN⟩: ∃N,xs.length=N:=⟨_,rfl⟩
 have HN:=hide hN;rw[hN]at HR hl;obtain⟨Rv,hRv⟩: ∃R,ckE gl lo (.mk 5 op nm tx v xs)=R:=⟨_,rfl⟩
 have HRv:=hide (show Rv=if ls.length=N then ckA gl lo nm (some (bc,ls)) 0 xs else .error (nm,16) by
  rw[<-hRv,ckE,if_neg (by decide),if_neg (by decide),if_neg (by decide),if_pos rfl];unfold arity
  rw[hb,<-hN])
 have hEA:=Ext.alloc w (.cells #[.int .i64 5, .string (str op), .string (str nm), .string (str tx), .int .i64 v, .slice A N c] 70);have HE0:=hide hEA;have HB0:=hide (Blk.new w 70 #[.int .i64 5, .string (str op), .string (str nm), .string (str tx), .int .i64 v, .slice A N c]);have HK0:=hide (hK.ext hEA)
 have HBL:=hide (show Calls prog 22 #[.string (str nm)] (w.alloc (.cells #[.int .i64 5, .string (str op), .string (str nm), .string (str tx), .int .i64 v, .slice A N c] 70)) fun e w'=>e= .returned (.tuple #[.int .i64 bc, .string (str ls), .bool true])/\Ext (w.alloc (.cells #[.int .i64 5, .string (str op), .string (str nm), .string (str tx), .int .i64 v, .slice A N c] 70)) w' from by
  have:=blt_any nm _ HK0.out.t;rw[hb]at this
  exact this)
 have HIN:=hide (fun(i:Nat) (hi:i<=1073741824) (W:World)=>show Calls prog 55 #[.string (str ls), .bool true, .int .i64 (i:Int)] W fun e w'=>e= .returned (.bool (intA (some (bc,ls)) i))/\Ext W w' from integer_any (some (bc,ls)) i hi (by simp only[biS];omega) W);have HF:=hide (fun n W=>tfail_any nm n W);have hsz:=str_size ls;clear hR hf hIH hY2 hb hEA hK;rw[hN,hRv];clear hN hRv;obtain⟨g,bi,ba,bf,sv,sf⟩:=X;simp only[CB.p]at*;obtain⟨fo,hfn⟩: ∃fo,gl.fn nm=fo:=⟨_,rfl⟩
 cases fo;all_goals
  by_cases hkN:ls.length=N
  ·have HE:=hide (show Rv=ckA gl lo nm (some (bc,ls)) 0 xs by rw[HRv.out,if_pos hkN]);have HQ0:=hide (show ckA gl lo nm (some (bc,ls)) 0 (xs.drop 0)=Rv from HE.out.symm);have hkN1:((ls.length:Int) !=(N:Int))=false:=by simp[hkN]
   clear HRv;go_enter func185,ntmps185;go_wp2_with (go_at_call 22;refine HBL.out.mono ?_;rintro e w1 ⟨rfl,hE⟩;have HX1:=hide (HE0.out.trans hE);have HB1:=hide (HB0.out.ext hE);have f0:=HB1.out.cell;have HK1:=hide (HK0.out.ext hE);clear hE HBL HB0 HK0 HE0);refine wp_region_ext 12 1 [] mixed (by kernel_rfl) trivial ?_;repeat (refine sx ?_ (fun w1 hU=> ?_) ?_;rotate_left;(focus have f0:=(HB1.out.ext hU.un).cell;have fk:=(HK1.out.ext hU.un).blk.cell;have f2:=(HK1.out.ext hU.un).lookF hnm;rw[hfn]at f2;simp only[Option.getD_some,Option.getD_none,Option.isSome_some,Option.isSome_none]at f2;clear hU;go_simp<;>with_reducible rfl);simp only[pq0,pq1,pq2,pq3,pq4])
   intro w7 hw7 _;simp only[List.drop_succ_cons,List.drop_nil];have HX2:=hide (HX1.out.trans hw7.un);have HK2:=hide (HK1.out.ext hw7.un);have HB2:=hide (HB1.out.ext hw7.un);clear f0;have f0:=HB2.out.cell;clear hw7 HX1 HK1 HB1;go_wp2_with fail;clear f0
   go_loopw [53] (fun vi wr=> ∃(j:Nat),vi= .int .i64 (j:Int)/\j<=N/\Hid (ckA gl lo nm (some (bc,ls)) j (xs.drop j)=Rv)/\Hid (Ext w wr)/\Hid (CK ⟨g,bi,ba,bf,sv,sf⟩ gl lv lo wr)/\Hid (Blk wr w.heap.size 70 #[.int .i64 5, .string (str op), .string (str nm), .string (str tx), .int .i64 v, .slice A N c])) (fun vi _=>N-(intOf vi).toNat)
   case atStart=>exact⟨0,rfl,Nat.zero_le _,HQ0,HX2,HK2,HB2⟩
   case round=>
    obtain⟨j,rfl,hj,HQ,HX,HKj,HBj⟩:=hrel;by_cases hlt:j<N
    ·have hlt':(j:Int)<N:=by omega
     have hjl:j<xs.length:=by have:=HN.out;omega
     have hjs:j<ls.length:=by omega
     obtain⟨b,o,a,rfl,hb,hP,h0,h1,h2,h3,h4,h5,hRa⟩:=HR.out.at_ j hjl;have HS:=ckA_drop (gl:=gl) (lo:=lo) (nm:=nm) (b:=some (bc,ls)) hjl;have hIy:=HI.out _ (List.getElem_mem hjl);have hy2:=HY2.out _ (List.getElem_mem hjl);obtain⟨y,hy⟩: ∃y,xs[j]=y:=⟨_,rfl⟩
     rw[hy]at h0 h1 h2 h3 h4 hRa HS hIy hy2;clear hy;obtain⟨k2,op2,nm2,tx2,v2,as2⟩:=y;simp only[Ex.k,Ex.op,Ex.nm,Ex.tx,Ex.v,Ex.args]at h0 h1 h2 h3 h4 hRa HS hy2;have e0:=(HX.out.cell b _ hb).trans h0;have e1:=(HX.out.cell b _ hb).trans h1;have e2:=(HX.out.cell b _ hb).trans h2;have e3:=(HX.out.cell b _ hb).trans h3;have e4:=(HX.out.cell b _ hb).trans h4;have e5:=(HX.out.cell b _ hb).trans h5;obtain⟨B,d,rfl,_⟩:=hRa.form;have HRa:=hide ((hRa.keep (.of_ext HX.out) (Q:=P) (fun b hb _=>hb)).keep (.of_ext (Ext.alloc _ (.cells #[.int .i64 k2, .string (str op2), .string (str nm2), .string (str tx2), .int .i64 v2, .slice B as2.length d] 70))) (Q:=P) (fun b hb _=>hb));have HB1:=hide (Blk.new wr 70 #[.int .i64 k2, .string (str op2), .string (str nm2), .string (str tx2), .int .i64 v2, .slice B as2.length d]);have HX1:=hide (HX.out.alloc' (.cells #[.int .i64 k2, .string (str op2), .string (str nm2), .string (str tx2), .int .i64 v2, .slice B as2.length d] 70));have HK1:=hide (HKj.out.ext (Ext.alloc wr (.cells #[.int .i64 k2, .string (str op2), .string (str nm2), .string (str tx2), .int .i64 v2, .slice B as2.length d] 70)));have HIy:=hide (hIy ⟨g,bi,ba,bf,sv,sf⟩ gl lv lo P);have HIN1:=hide (HIN.out j (by omega));clear h0 h1 h2 h3 h4 h5 hRa hIy;simp only[CB.p,Ex.k,Ex.op,Ex.nm,Ex.tx,Ex.v,Ex.args]at HIy
     cases hia:intA (some (bc,ls)) j with
     |true=>
      rw[hia]at HS HIN1;simp only[if_true]at HS;generalize ckE gl lo (.mk k2 op2 nm2 tx2 v2 as2)=r at*
      cases r with
      |ok u=>
       have HS:=hide HS;go_wp2_with (first|(go_at_call 55;refine(HIN1.out _).mono ?_;rintro e w2 ⟨rfl,hE⟩;have HX3:=hide (HX1.out.trans hE);have HE2:=hide hE;have f1:=(HB1.out.ext hE).cell;have f0:=(HBj.out.ext ((Ext.alloc _ _).trans hE)).cell;have HK3:=hide (HK1.out.ext hE);clear hE HIN1)|(go_at_call 156;refine(HIy.out _ B _ d HK3.out (HRa.out.keep (.of_ext HE2.out) (fun b hb _=>hb))).mono ?_;unfold ckEnd;rintro e w3 ⟨rfl,hE⟩;have HY:=hide (HX3.out.trans hE);have HKY:=hide (HK3.out.ext hE);have HBY:=hide (HBj.out.ext ((Ext.alloc _ _).trans (HE2.out.trans hE)));clear hE HIy));go_roundw
       case rel=>exact⟨j+1,by go_num,by omega,hide (HS.out.symm.trans HQ.out),HY,HKY,HBY⟩
       case measure=>simp[intOf];omega
      |error q=>
       obtain⟨qn,n⟩:=q;have HS:=hide HS;have HFn:=hide (show Rv= .error (qn,n)from HQ.out.symm.trans HS.out);go_wp2_with (first|(go_at_call 55;refine(HIN1.out _).mono ?_;rintro e w2 ⟨rfl,hE⟩;have HX3:=hide (HX1.out.trans hE);have HE2:=hide hE;have f1:=(HB1.out.ext hE).cell;have f0:=(HBj.out.ext ((Ext.alloc _ _).trans hE)).cell;have HK3:=hide (HK1.out.ext hE);clear hE HIN1)|(go_at_call 156;refine(HIy.out _ B _ d HK3.out (HRa.out.keep (.of_ext HE2.out) (fun b hb _=>hb))).mono ?_;unfold ckEnd mistakeV;rintro e w3 ⟨rfl,hE⟩;have HY:=hide (HX3.out.trans hE);clear hE HIy));exact⟨rfl,by rw[HFn.out];rfl,HY.out⟩
     |false=>
      rw[hia]at HS HIN1;have hq:=HLT.out _ (List.getElem_mem hjs);have hix:=fun w=>str_index ls j hjs w;have hq5:ls[j]≠105:=by
       intro e;have:intA (some (bc,ls)) j=true:=by
        simp only[intA];rw[Bool.or_eq_true];right;rw[List.getD_eq_getElem?_getD,List.getElem?_eq_getElem hjs];simp[e]
       rw[this]at hia
       cases hia
      have hlt2:letA (some (bc,ls)) j=ls[j]:=by simp only[letA];rw[List.getD_eq_getElem?_getD,List.getElem?_eq_getElem hjs];rfl
      rw[hlt2]at HS;have hjs':(j:Int)<ls.length:=by omega
      generalize ls[j]=q at hq hix hq5 HS;simp only[Bool.false_eq_true,if_false]at HS;clear hia hlt2 HIy;rcases hq with rfl|rfl|rfl|rfl
      ·exact absurd rfl hq5
      ·have hix: ∀w,(Instr.index 9 (.string (str ls)) (.int .i64 (j:Int))).run prog w= .ok (.int .u8 115) w:=hix;by_cases hk2:k2=2
       ·subst hk2;simp[badA]at HS;have HS:=hide HS;go_wp2_with (go_at_call 55;refine(HIN1.out _).mono ?_;rintro e w2 ⟨rfl,hE⟩;have HX3:=hide (HX1.out.trans hE);have HE2:=hide hE;have f1:=(HB1.out.ext hE).cell;have f0:=(HBj.out.ext ((Ext.alloc _ _).trans hE)).cell;have HK3:=hide (HK1.out.ext hE);clear hE HIN1);go_roundw
        case rel=>exact⟨j+1,by go_num,by omega,hide (HS.out.symm.trans HQ.out),HX3,HK3,hide (HBj.out.ext ((Ext.alloc _ _).trans HE2.out))⟩
        case measure=>simp[intOf];omega
       ·have n2:(k2 !=2)=true:=by simpa using hk2
        have m2:(k2==2)=false:=by simpa using hk2
        simp[badA,hk2]at HS;have HS:=hide HS;have HFn:=hide (show Rv= .error (nm,16)from HQ.out.symm.trans HS.out);go_wp2_with (first|(go_at_call 55;refine(HIN1.out _).mono ?_;rintro e w2 ⟨rfl,hE⟩;have HX3:=hide (HX1.out.trans hE);have HE2:=hide hE;have f1:=(HB1.out.ext hE).cell;have f0:=(HBj.out.ext ((Ext.alloc _ _).trans hE)).cell;have HK3:=hide (HK1.out.ext hE);clear hE HIN1)|(go_at_call 73;refine(HF.out _ _).mono ?_;unfold mistakeV;rintro e w4 ⟨rfl,hE⟩;have HY:=hide (HX3.out.trans hE);clear hE HF));exact⟨rfl,by rw[HFn.out];rfl,HY.out⟩
      ·have hix: ∀w,(Instr.index 9 (.string (str ls)) (.int .i64 (j:Int))).run prog w= .ok (.int .u8 97) w:=hix;by_cases hk3:k2=3
       ·subst hk3;simp[badA]at HS
        cases hca:ckArr gl lo nm2 with
        |ok u=>
         rw[hca]at HS;have HS:=hide HS;go_wp2_with (first|(go_at_call 55;refine(HIN1.out _).mono ?_;rintro e w2 ⟨rfl,hE⟩;have HX3:=hide (HX1.out.trans hE);have HE2:=hide hE;have f1:=(HB1.out.ext hE).cell;have f0:=(HBj.out.ext ((Ext.alloc _ _).trans hE)).cell;have HK3:=hide (HK1.out.ext hE);clear hE HIN1)|(go_at_call 120;refine(array_any ⟨g,bi,ba,bf,sv,sf⟩ gl lv lo _ HK3.out nm2 hy2).mono ?_;rw[hca];unfold ckEnd;rintro e w3 ⟨rfl,hE⟩;have HY:=hide (HX3.out.trans hE);have HKY:=hide (HK3.out.ext hE);have HBY:=hide (HBj.out.ext ((Ext.alloc _ _).trans (HE2.out.trans hE)));clear hE));go_roundw
         case rel=>exact⟨j+1,by go_num,by omega,hide (HS.out.symm.trans HQ.out),HY,HKY,HBY⟩
         case measure=>simp[intOf];omega
        |error q=>
         obtain⟨qn,n⟩:=q;rw[hca]at HS;have HS:=hide HS;have HFn:=hide (show Rv= .error (qn,n)from HQ.out.symm.trans HS.out);go_wp2_with (first|(go_at_call 55;refine(HIN1.out _).mono ?_;rintro e w2 ⟨rfl,hE⟩;have HX3:=hide (HX1.out.trans hE);have HE2:=hide hE;have f1:=(HB1.out.ext hE).cell;have f0:=(HBj.out.ext ((Ext.alloc _ _).trans hE)).cell;have HK3:=hide (HK1.out.ext hE);clear hE HIN1)|(go_at_call 120;refine(array_any ⟨g,bi,ba,bf,sv,sf⟩ gl lv lo _ HK3.out nm2 hy2).mono ?_;rw[hca];unfold ckEnd mistakeV;rintro e w3 ⟨rfl,hE⟩;have HY:=hide (HX3.out.trans hE);clear hE));exact⟨rfl,by rw[HFn.out];rfl,HY.out⟩
       ·have n3:(k2 !=3)=true:=by simpa using hk3
        have m3:(k2==3)=false:=by simpa using hk3
        simp[badA,hk3]at HS;have HS:=hide HS;have HFn:=hide (show Rv= .error (nm,16)from HQ.out.symm.trans HS.out);go_wp2_with (first|(go_at_call 55;refine(HIN1.out _).mono ?_;rintro e w2 ⟨rfl,hE⟩;have HX3:=hide (HX1.out.trans hE);have HE2:=hide hE;have f1:=(HB1.out.ext hE).cell;have f0:=(HBj.out.ext ((Ext.alloc _ _).trans hE)).cell;have HK3:=hide (HK1.out.ext hE);clear hE HIN1)|(go_at_call 73;refine(HF.out _ _).mono ?_;unfold mistakeV;rintro e w4 ⟨rfl,hE⟩;have HY:=hide (HX3.out.trans hE);clear hE HF));exact⟨rfl,by rw[HFn.out];rfl,HY.out⟩
      ·have hix: ∀w,(Instr.index 9 (.string (str ls)) (.int .i64 (j:Int))).run prog w= .ok (.int .u8 98) w:=hix;by_cases hk3:k2=3
       ·subst hk3;simp[badA]at HS
        cases hca:ckArr gl lo nm2 with
        |ok u=>
         rw[hca]at HS;have HS:=hide HS;go_wp2_with (first|(go_at_call 55;refine(HIN1.out _).mono ?_;rintro e w2 ⟨rfl,hE⟩;have HX3:=hide (HX1.out.trans hE);have HE2:=hide hE;have f1:=(HB1.out.ext hE).cell;have f0:=(HBj.out.ext ((Ext.alloc _ _).trans hE)).cell;have HK3:=hide (HK1.out.ext hE);clear hE HIN1)|(go_at_call 120;refine(array_any ⟨g,bi,ba,bf,sv,sf⟩ gl lv lo _ HK3.out nm2 hy2).mono ?_;rw[hca];unfold ckEnd;rintro e w3 ⟨rfl,hE⟩;have HY:=hide (HX3.out.trans hE);have HKY:=hide (HK3.out.ext hE);have HBY:=hide (HBj.out.ext ((Ext.alloc _ _).trans (HE2.out.trans hE)));clear hE));go_roundw
         case rel=>exact⟨j+1,by go_num,by omega,hide (HS.out.symm.trans HQ.out),HY,HKY,HBY⟩
         case measure=>simp[intOf];omega
        |error q=>
         obtain⟨qn,n⟩:=q;rw[hca]at HS;have HS:=hide HS;have HFn:=hide (show Rv= .error (qn,n)from HQ.out.symm.trans HS.out);go_wp2_with (first|(go_at_call 55;refine(HIN1.out _).mono ?_;rintro e w2 ⟨rfl,hE⟩;have HX3:=hide (HX1.out.trans hE);have HE2:=hide hE;have f1:=(HB1.out.ext hE).cell;have f0:=(HBj.out.ext ((Ext.alloc _ _).trans hE)).cell;have HK3:=hide (HK1.out.ext hE);clear hE HIN1)|(go_at_call 120;refine(array_any ⟨g,bi,ba,bf,sv,sf⟩ gl lv lo _ HK3.out nm2 hy2).mono ?_;rw[hca];unfold ckEnd mistakeV;rintro e w3 ⟨rfl,hE⟩;have HY:=hide (HX3.out.trans hE);clear hE));exact⟨rfl,by rw[HFn.out];rfl,HY.out⟩
       ·have n3:(k2 !=3)=true:=by simpa using hk3
        have m3:(k2==3)=false:=by simpa using hk3
        by_cases hk2:k2=2
        ·subst hk2;simp[badA]at HS;have HS:=hide HS;go_wp2_with (go_at_call 55;refine(HIN1.out _).mono ?_;rintro e w2 ⟨rfl,hE⟩;have HX3:=hide (HX1.out.trans hE);have HE2:=hide hE;have f1:=(HB1.out.ext hE).cell;have f0:=(HBj.out.ext ((Ext.alloc _ _).trans hE)).cell;have HK3:=hide (HK1.out.ext hE);clear hE HIN1);go_roundw
         case rel=>exact⟨j+1,by go_num,by omega,hide (HS.out.symm.trans HQ.out),HX3,HK3,hide (HBj.out.ext ((Ext.alloc _ _).trans HE2.out))⟩
         case measure=>simp[intOf];omega
        ·have n2:(k2 !=2)=true:=by simpa using hk2
         have m2:(k2==2)=false:=by simpa using hk2
         simp[badA,hk3,hk2]at HS;have HS:=hide HS;have HFn:=hide (show Rv= .error (nm,16)from HQ.out.symm.trans HS.out);go_wp2_with (first|(go_at_call 55;refine(HIN1.out _).mono ?_;rintro e w2 ⟨rfl,hE⟩;have HX3:=hide (HX1.out.trans hE);have HE2:=hide hE;have f1:=(HB1.out.ext hE).cell;have f0:=(HBj.out.ext ((Ext.alloc _ _).trans hE)).cell;have HK3:=hide (HK1.out.ext hE);clear hE HIN1)|(go_at_call 73;refine(HF.out _ _).mono ?_;unfold mistakeV;rintro e w4 ⟨rfl,hE⟩;have HY:=hide (HX3.out.trans hE);clear hE HF));exact⟨rfl,by rw[HFn.out];rfl,HY.out⟩
    ·have hlt': ¬(j:Int)<N:=by omega
     have HFn:=hide (show Rv= .ok () by
      have:=HQ.out;rw[List.drop_of_length_le (by have:=HN.out;omega),ckA]at this
      exact this.symm)
     go_wp2_with fail;exact bodyPost_end (results_none rfl _ _ _) rfl ⟨by rw[HFn.out];rfl,HX.out⟩
  ·have HE:=hide (show Rv= .error (nm,16) by rw[HRv.out,if_neg hkN]);have hkN':((ls.length:Int) !=(N:Int))=true:=by simp;omega
   have hkN2:((ls.length:Int)==(N:Int))=false:=by simp;omega
   clear HI HIN HRv;go_enter func185,ntmps185;go_wp2_with (go_at_call 22;refine HBL.out.mono ?_;rintro e w1 ⟨rfl,hE⟩;have HX1:=hide (HE0.out.trans hE);have HB1:=hide (HB0.out.ext hE);have f0:=HB1.out.cell;have HK1:=hide (HK0.out.ext hE);clear hE HBL HB0 HK0 HE0);refine wp_region_ext 12 1 [] mixed (by kernel_rfl) trivial ?_;repeat (refine sx ?_ (fun w1 hU=> ?_) ?_;rotate_left;(focus have f0:=(HB1.out.ext hU.un).cell;have fk:=(HK1.out.ext hU.un).blk.cell;have f2:=(HK1.out.ext hU.un).lookF hnm;rw[hfn]at f2;simp only[Option.getD_some,Option.getD_none,Option.isSome_some,Option.isSome_none]at f2;clear hU;go_simp<;>with_reducible rfl);simp only[pq0,pq1,pq2,pq3,pq4])
   intro w7 hw7 _;simp only[List.drop_succ_cons,List.drop_nil];have HX2:=hide (HX1.out.trans hw7.un);have HK2:=hide (HK1.out.ext hw7.un);have HB2:=hide (HB1.out.ext hw7.un);clear f0;have f0:=HB2.out.cell;clear hw7 HX1 HK1 HB1;go_wp2_with (go_at_call 73;refine(HF.out _ _).mono ?_;unfold mistakeV;rintro e w2 ⟨rfl,hE⟩;have HY:=hide (HX2.out.trans hE);clear hE HF);exact⟨rfl,by rw[HE.out];rfl,HY.out⟩
end Go.Proofs.YtddomeddabfinaaGreatDoor
namespace Go.Proofs.YtddomeddabfinaaGreatDoor
open Go.Proofs.Tryz
open Go.RowKit
theorem texpr_step (k:Int) (op nm tx:List UInt8) (v:Int) (xs:List Ex) (hnm:nm.length<=1073741824) (hLs:CkLs xs) (hC:k=5->CkC op nm tx v xs):CkX (.mk k op nm tx v xs):=by
 intro X gl lv lo P w A n c hK hR;obtain⟨Rv,hRv⟩: ∃R,ckE gl lo (.mk k op nm tx v xs)=R:=⟨_,rfl⟩
 have HD:=hide (hRv.symm.trans (ckE.eq_1 gl lo k op nm tx v xs));simp only[Ex.k,Ex.op,Ex.nm,Ex.tx,Ex.v,Ex.args]at*;rw[hRv];clear hRv;by_cases h3:k=3
 ·subst h3;have hE:=HD.out;rw[if_pos rfl]at hE;have HE0:=hide (Ext.alloc w (.cells #[.int .i64 3, .string (str op), .string (str nm), .string (str tx), .int .i64 v, .slice A n c] 70));have hB0:=Blk.new w 70 #[.int .i64 3, .string (str op), .string (str nm), .string (str tx), .int .i64 v, .slice A n c];have HB0:=hide hB0;have HK0:=hide (hK.ext HE0.out);have HR0:=hide (hR.keep (.of_ext HE0.out) (Q:=P) (fun b hb _=>hb));clear hK hR hB0
  cases hr:ckVar gl lo nm with
  |ok u=>
   have HE:=hide (hE.trans hr);go_enter func156,ntmps156;go_wp2_with (go_at_call 119;refine(variable_any X gl lv lo _ HK0.out nm hnm).mono ?_;rw[hr];unfold ckEnd;rintro e w1 ⟨rfl,hE⟩;have HX:=hide (HE0.out.trans hE);clear hE);exact bodyPost_end (results_none rfl _ _ _) rfl ⟨by rw[HE.out];rfl,HX.out⟩
  |error q=>
   obtain⟨qn,m⟩:=q;have HE:=hide (hE.trans hr);go_enter func156,ntmps156;go_wp2_with (go_at_call 119;refine(variable_any X gl lv lo _ HK0.out nm hnm).mono ?_;rw[hr];unfold ckEnd mistakeV;rintro e w1 ⟨rfl,hE⟩;have HX:=hide (HE0.out.trans hE);clear hE);exact⟨rfl,by rw[HE.out];rfl,HX.out⟩
 by_cases h4:k=4
 ·subst h4;have hE:=HD.out;rw[if_neg (by decide),if_pos rfl]at hE;have HE0:=hide (Ext.alloc w (.cells #[.int .i64 4, .string (str op), .string (str nm), .string (str tx), .int .i64 v, .slice A n c] 70));have hB0:=Blk.new w 70 #[.int .i64 4, .string (str op), .string (str nm), .string (str tx), .int .i64 v, .slice A n c];have HB0:=hide hB0;have HK0:=hide (hK.ext HE0.out);have HR0:=hide (hR.keep (.of_ext HE0.out) (Q:=P) (fun b hb _=>hb));clear hK hR hB0
  cases hr:ckArr gl lo nm with
  |ok u=>
   rw[hr,cr_ok]at hE
   cases hs:ckL gl lo xs with
   |ok u=>
    have HE:=hide (hE.trans hs);go_enter func156,ntmps156;go_wp2_with (first|(go_at_call 120;refine(array_any X gl lv lo _ HK0.out nm hnm).mono ?_;rw[hr];unfold ckEnd;rintro e w1 ⟨rfl,hE⟩;have HX:=hide (HE0.out.trans hE);have HE1:=hide hE;have f0:=(HB0.out.ext hE).cell;clear hE)|(go_at_call 121;refine(hLs X gl lv lo P _ A n c (HK0.out.ext HE1.out) (HR0.out.keep (.of_ext HE1.out) (fun b hb _=>hb))).mono ?_;rw[hs];unfold ckEnd;rintro e w2 ⟨rfl,hE⟩;have HY:=hide (HX.out.trans hE);clear hE));exact bodyPost_end (results_none rfl _ _ _) rfl ⟨by rw[HE.out];rfl,HY.out⟩
   |error q=>
    obtain⟨qn,m⟩:=q;have HE:=hide (hE.trans hs);go_enter func156,ntmps156;go_wp2_with (first|(go_at_call 120;refine(array_any X gl lv lo _ HK0.out nm hnm).mono ?_;rw[hr];unfold ckEnd;rintro e w1 ⟨rfl,hE⟩;have HX:=hide (HE0.out.trans hE);have HE1:=hide hE;have f0:=(HB0.out.ext hE).cell;clear hE)|(go_at_call 121;refine(hLs X gl lv lo P _ A n c (HK0.out.ext HE1.out) (HR0.out.keep (.of_ext HE1.out) (fun b hb _=>hb))).mono ?_;rw[hs];unfold ckEnd mistakeV;rintro e w2 ⟨rfl,hE⟩;have HY:=hide (HX.out.trans hE);clear hE));exact⟨rfl,by rw[HE.out];rfl,HY.out⟩
  |error q=>
   obtain⟨qn,m⟩:=q;rw[hr,cr_err]at hE;have HE:=hide hE;go_enter func156,ntmps156;go_wp2_with (go_at_call 120;refine(array_any X gl lv lo _ HK0.out nm hnm).mono ?_;rw[hr];unfold ckEnd mistakeV;rintro e w1 ⟨rfl,hE⟩;have HX:=hide (HE0.out.trans hE);clear hE);exact⟨rfl,by rw[HE.out];rfl,HX.out⟩
 by_cases h2:k=2
 ·subst h2;have hE:=HD.out;rw[if_neg (by decide),if_neg (by decide),if_pos rfl]at hE;have HE:=hide hE;have HE0:=hide (Ext.alloc w (.cells #[.int .i64 2, .string (str op), .string (str nm), .string (str tx), .int .i64 v, .slice A n c] 70));have hB0:=Blk.new w 70 #[.int .i64 2, .string (str op), .string (str nm), .string (str tx), .int .i64 v, .slice A n c];have HB0:=hide hB0;have HK0:=hide (hK.ext HE0.out);have HR0:=hide (hR.keep (.of_ext HE0.out) (Q:=P) (fun b hb _=>hb));clear hK hR hB0;have HF:=hide (fun W=>show Calls prog 73 #[.string ⟨#[]⟩, .int .i64 16] W fun e w'=>e=mistakeV [] 16/\Ext W w' from tfail_any [] 16 W);go_enter func156,ntmps156;go_wp2_with (go_at_call 73;refine(HF.out _).mono ?_;unfold mistakeV;rintro e w1 ⟨rfl,hE⟩;have HX:=hide (HE0.out.trans hE);clear hE);exact⟨rfl,by rw[HE.out];rfl,HX.out⟩
 by_cases h5:k=5
 ·subst h5;have HC:=hide (hC rfl);have HD:=hide (show ckE gl lo (.mk 5 op nm tx v xs)=Rv by rw[HD.out,ckE]);have HE0:=hide (Ext.alloc w (.cells #[.int .i64 5, .string (str op), .string (str nm), .string (str tx), .int .i64 v, .slice A n c] 70));have hB0:=Blk.new w 70 #[.int .i64 5, .string (str op), .string (str nm), .string (str tx), .int .i64 v, .slice A n c];have HB0:=hide hB0;have HK0:=hide (hK.ext HE0.out);have HR0:=hide (hR.keep (.of_ext HE0.out) (Q:=P) (fun b hb _=>hb));clear hK hR hB0
  cases hr:ckE gl lo (.mk 5 op nm tx v xs)with
  |ok u=>
   have HE:=hide (HD.out.symm.trans hr);go_enter func156,ntmps156;go_wp2_with (go_at_call 185;refine(HC.out X gl lv lo P _ A n c HK0.out HR0.out).mono ?_;rw[hr];unfold ckEnd;rintro e w1 ⟨rfl,hE⟩;have HX:=hide (HE0.out.trans hE);clear hE);exact bodyPost_end (results_none rfl _ _ _) rfl ⟨by rw[HE.out];rfl,HX.out⟩
  |error q=>
   obtain⟨qn,m⟩:=q;have HE:=hide (HD.out.symm.trans hr);go_enter func156,ntmps156;go_wp2_with (go_at_call 185;refine(HC.out X gl lv lo P _ A n c HK0.out HR0.out).mono ?_;rw[hr];unfold ckEnd mistakeV;rintro e w1 ⟨rfl,hE⟩;have HX:=hide (HE0.out.trans hE);clear hE);exact⟨rfl,by rw[HE.out];rfl,HX.out⟩
 by_cases h6:k=6
 ·subst h6;have hE:=HD.out;rw[if_neg (by decide),if_neg (by decide),if_neg (by decide),if_neg (by decide),if_pos (by decide)]at hE;have HE0:=hide (Ext.alloc w (.cells #[.int .i64 6, .string (str op), .string (str nm), .string (str tx), .int .i64 v, .slice A n c] 70));have hB0:=Blk.new w 70 #[.int .i64 6, .string (str op), .string (str nm), .string (str tx), .int .i64 v, .slice A n c];have HB0:=hide hB0;have HK0:=hide (hK.ext HE0.out);have HR0:=hide (hR.keep (.of_ext HE0.out) (Q:=P) (fun b hb _=>hb));clear hK hR hB0
  cases hr:ckL gl lo xs with
  |ok u=>
   have HE:=hide (hE.trans hr);go_enter func156,ntmps156;go_wp2_with (go_at_call 121;refine(hLs X gl lv lo P _ A n c HK0.out HR0.out).mono ?_;rw[hr];unfold ckEnd;rintro e w1 ⟨rfl,hE⟩;have HX:=hide (HE0.out.trans hE);clear hE);exact bodyPost_end (results_none rfl _ _ _) rfl ⟨by rw[HE.out];rfl,HX.out⟩
  |error q=>
   obtain⟨qn,m⟩:=q;have HE:=hide (hE.trans hr);go_enter func156,ntmps156;go_wp2_with (go_at_call 121;refine(hLs X gl lv lo P _ A n c HK0.out HR0.out).mono ?_;rw[hr];unfold ckEnd mistakeV;rintro e w1 ⟨rfl,hE⟩;have HX:=hide (HE0.out.trans hE);clear hE);exact⟨rfl,by rw[HE.out];rfl,HX.out⟩
 by_cases h7:k=7
 ·subst h7;have hE:=HD.out;rw[if_neg (by decide),if_neg (by decide),if_neg (by decide),if_neg (by decide),if_pos (by decide)]at hE;have HE0:=hide (Ext.alloc w (.cells #[.int .i64 7, .string (str op), .string (str nm), .string (str tx), .int .i64 v, .slice A n c] 70));have hB0:=Blk.new w 70 #[.int .i64 7, .string (str op), .string (str nm), .string (str tx), .int .i64 v, .slice A n c];have HB0:=hide hB0;have HK0:=hide (hK.ext HE0.out);have HR0:=hide (hR.keep (.of_ext HE0.out) (Q:=P) (fun b hb _=>hb));clear hK hR hB0
  cases hr:ckL gl lo xs with
  |ok u=>
   have HE:=hide (hE.trans hr);go_enter func156,ntmps156;go_wp2_with (go_at_call 121;refine(hLs X gl lv lo P _ A n c HK0.out HR0.out).mono ?_;rw[hr];unfold ckEnd;rintro e w1 ⟨rfl,hE⟩;have HX:=hide (HE0.out.trans hE);clear hE);exact bodyPost_end (results_none rfl _ _ _) rfl ⟨by rw[HE.out];rfl,HX.out⟩
  |error q=>
   obtain⟨qn,m⟩:=q;have HE:=hide (hE.trans hr);go_enter func156,ntmps156;go_wp2_with (go_at_call 121;refine(hLs X gl lv lo P _ A n c HK0.out HR0.out).mono ?_;rw[hr];unfold ckEnd mistakeV;rintro e w1 ⟨rfl,hE⟩;have HX:=hide (HE0.out.trans hE);clear hE);exact⟨rfl,by rw[HE.out];rfl,HX.out⟩
 have hE:=HD.out;rw[if_neg h3,if_neg h4,if_neg h2,if_neg h5,if_neg (by omega)]at hE;have HE:=hide hE;have HX:=hide (Ext.alloc w (.cells #[.int .i64 k, .string (str op), .string (str nm), .string (str tx), .int .i64 v, .slice A n c] 70));have q3:=beq_eq_false_iff_ne.2 h3;have q4:=beq_eq_false_iff_ne.2 h4;have q2:=beq_eq_false_iff_ne.2 h2;have q5:=beq_eq_false_iff_ne.2 h5;have q6:=beq_eq_false_iff_ne.2 h6;have q7:=beq_eq_false_iff_ne.2 h7;clear hK hR;go_enter func156,ntmps156;go_wp2_with fail;exact bodyPost_end (results_none rfl _ _ _) rfl ⟨by rw[HE.out];rfl,HX.out⟩
theorem texpr_any: ∀(m:Nat) (x:Ex),x.wt<=m->x.wt<=1073741824->CkX x
 |0,x,h,_=>absurd h (by have:=x.wt_eq;omega)
 |m+1, .mk k op nm tx v xs,h,hw=>by
  rw[Ex.wt]at h hw;have hIH: ∀y∈xs,CkX y:=fun y hy=>texpr_any m y (by have:=wtL_mem hy;omega) (by have:=wtL_mem hy;omega);have hl:=wtL_length xs;have hY2: ∀y∈xs,y.nm.length<=1073741824:=fun y hy=>by have:=wtL_mem hy;have:=y.wt_eq;omega
  refine texpr_step k op nm tx v xs (by omega) (exprs_any xs (by omega) hIH) fun hk=> ?_
  cases hb:bltn nm with
  |none=>exact tcall_none op nm tx v xs (by omega) (by omega) hb hIH
  |some b=>
   obtain⟨bc,ls⟩:=b;have hls:=biS_len nm;rw[hb]at hls;exact tcall_some op nm tx v xs (by omega) (by omega) bc ls hb hls hIH hY2
theorem texprs_any (xs:List Ex) (h:wtL xs<=1073741824):CkLs xs:=exprs_any xs (by have:=wtL_length xs;omega) fun y hy=>texpr_any _ y (Nat.le_refl _) (by have:=wtL_mem hy;omega)
end Go.Proofs.YtddomeddabfinaaGreatDoor
