/-
  Parts of the proof: RcE RcF.
-/
import Derived.Test.YtddomeddabfinaaGreatDoorTu00
import Derived.Test.YtddomeddabfinaaGreatDoorTu43
import Derived.Test.YtddomeddabfinaaGreatDoorTu23
set_option maxRecDepth 100000
set_option maxHeartbeats 8000000
set_option linter.unusedVariables false
set_option linter.unusedSimpArgs false
set_option linter.unusedSectionVars false
namespace Go.Proofs.YtddomeddabfinaaGreatDoor
open Go.Proofs.Tryz
section
open Go.RowKit
structure XQ (w:World) (cs:Array Value) (W:World):Prop where
 b:aO W w.heap.size 75 cs
 r:RC w (w.heap.size+1) (.string ⟨#[]⟩) (.int .i64 0) W
theorem XQ.new (w:World) (cs:Array Value):XQ w cs ((w.alloc (.cells cs 75)).alloc (.cells #[.string ⟨#[]⟩, .int .i64 0] 112)):=⟨(ax w _ _).alloc _,k9 w cs _ _⟩
theorem XQ.ext {w W W':World} {cs:Array Value} (h:XQ w cs W) (he:au W W'):XQ w cs W':=⟨h.b.ext he,h.r.ext he⟩
theorem v8 {gl:Gl} {lo:Ls} {l:List Ex} {j:Nat} (h:j<l.length):gX gl lo (l.drop j)=CR.then (io gl lo l[j]) fun _=>gX gl lo (l.drop (j+1)):=by
 rw[ay h,gX]
theorem lX (g:Gl) (lo:Ls) (c:UInt8) (nm:List UInt8) (y:Ex):NZ (jR g lo c nm y):=by
 unfold jR;exact cV (xp g lo y) (cV trivial (cV (by show(16:Int)≠0;decide) (k_ _ _ _)))
theorem jz {r:CR} (h:NZ r):(r= .ok ()/\ip r=([],0))\/ ∃a b,r= .error (a,b)/\ip r=(a,b)/\(b==(0:Int))=false:=by
 cases r with
 |ok u=>exact .inl ⟨rfl,rfl⟩
 |error e=>exact .inr ⟨e.1,e.2,rfl,rfl,beq_eq_false_iff_ne.2 h⟩
theorem kM {b:Int} (h:(b==(0:Int))=false):(b !=0)=true:=by simp[bne,h]
abbrev AZ (a:List UInt8) (b:Int):Value:= .agg #[.string (ag a), .int .i64 b]
theorem XQ.far {w W:World} {cs:Array Value} {g:Nat} (h:XQ w cs W) (hg:w.heap.size+1<g) (a b:Value):XQ w cs ((W.setCell ⟨g,0,none⟩ a).setCell ⟨g,1,none⟩ b):=
 ⟨(h.b.far (p:=⟨g,0,none⟩) (by show w.heap.size≠g;omega) a).far (p:=⟨g,1,none⟩) (by show w.heap.size≠g;omega) b,
  ⟨(h.r.e.set (by show w.heap.size<=g;omega) _).set (by show w.heap.size<=g;omega) _,(h.r.b.far (p:=⟨g,0,none⟩) (by show w.heap.size+1≠g;omega) a).far (p:=⟨g,1,none⟩) (by show w.heap.size+1≠g;omega) b,h.r.h⟩⟩
section
variable {p:Pg} {gl:Gl} (hS:zY p) (hG:GL p gl)
include hS hG
theorem Au (k:Int) (h2:k≠2) (h3:k≠3) (h4:k≠4) (h5:k≠5) (op nm tx:List UInt8) (v:Int) (xs:List Ex) (hok:Ex.ok (.mk k op nm tx v xs)=true) (hw:Ex.wt (.mk k op nm tx v xs)<=1073741824) (hIH: ∀y∈xs,tM p gl y):tM p gl (.mk k op nm tx v xs):=by
 intro P Q g base A B C n c m d q e ls w D N l hK hDj hlen hR;have hnw:=bF xs;rw[Ex.wt]at hw;have hxl:xs.length<=1073741823:=by omega
 have hck:=fun lo=>AK (g:=gl) (lo:=lo) h2 h3 h4 h5 hok;simp only[Ex.k,Ex.op,Ex.nm,Ex.tx,Ex.v,Ex.args]at*;obtain⟨D',l',hv,hf⟩:=hR.form;injection hv with hv1 hv2 hv3;subst hv1 hv2 hv3;obtain⟨N,hN⟩: ∃N,xs.length=N:=⟨_,rfl⟩
 have HN:=G hN;rw[hN]at hR hxl;have HK:=G hK;have HR:=G hR;have HI:=G hIH;have HDj:=G hDj;have HLn:=G hlen;have HFI:=G (fun(W:World)=>fy W);have HQ0:=G (XQ.new w #[.int .i64 k, .string (ag op), .string (ag nm), .string (ag tx), .int .i64 v, .slice D N l]);have hb0:=HQ0.out.b.cell;have hc0:=HQ0.out.r.b.cell;have hz0:=HQ0.out.r.b.frozen;obtain⟨lo,hlo⟩: ∃lo,b7 ls=lo:=⟨_,rfl⟩
 have HLo:=G hlo;have h2':=beq_eq_false_iff_ne.2 h2;have h3':=beq_eq_false_iff_ne.2 h3;have h4':=beq_eq_false_iff_ne.2 h4;have h5':=beq_eq_false_iff_ne.2 h5;have hck:=hck lo;rw[<-hlo]at hck;rw[hck,hlo];obtain⟨R,hRR⟩: ∃R,gX gl lo xs=R:=⟨_,rfl⟩
 have HRes:=G (show gX gl lo (xs.drop 0)=R from hRR);rw[hRR,hN];clear hK hR hIH hDj hlen hf hok hw hnw hRR hlo hck hN;go_enter func83,ntmps83;go_wp2_with fail
 go_loopw [11] (fun vi wr=> ∃(j:Nat),vi= .int .i64 (j:Int)/\j<=N/\Hid (gX gl lo (xs.drop j)=R)/\Hid (XQ w #[.int .i64 k, .string (ag op), .string (ag nm), .string (ag tx), .int .i64 v, .slice D N l] wr)) (fun vi _=>N-(intOf vi).toNat)
 case atStart=>exact⟨0,rfl,az _,HRes,HQ0⟩
 case round=>
  obtain⟨j,rfl,hj,HS,HX⟩:=hrel;have hb0:=HX.out.b.cell;have hc0:=HX.out.r.b.cell;have hz0:=HX.out.r.b.frozen;by_cases hlt:j<N
  ·have hlt':(j:Int)<N:=by omega
   have hjl:j<xs.length:=by have:=HN.out;omega
   obtain⟨b,o,a5,rfl,hb,hP,h0,h1,h2,h3,h4,h5,hRa⟩:=HR.out.at_ j hjl;have HD1:=G (v8 (gl:=gl) (lo:=lo) hjl);have hIy:=HI.out _ (ai hjl);generalize xs[j]=y at*;obtain⟨B5,d5,rfl,_⟩:=hRa.form;have HY:=G (show YC w b (o+j*6) y.k y.op y.nm y.tx y.v B5 y.args.length d5 from⟨h0,h1,h2,h3,h4,h5⟩);have HAR:=G (fun(W:World) (hE:au w W)=>jM hS hG y (105) nm (fun _=>hIy) P Q g base _ _ _ _ _ _ _ _ _ ls W B5 y.args.length d5 (HK.out.ext hE) HDj.out HLn.out (hRa.keep (.of_ext hE) (fun _ hb _=>hb)));clear h0 h1 h2 h3 h4 h5 hRa hIy;rw[HLo.out]at HAR;have hnz:=lX gl lo 105 nm y;rw[show io gl lo y=jR gl lo 105 nm y by unfold jR;rw[if_pos rfl]]at HD1;generalize jR gl lo 105 nm y=r at*;have HAR:=G (fun(W:World) (hE:au w W)=>show Calls prog 129 #[.pointer (some ⟨g,0,none⟩), .agg #[.int .i64 y.k, .string (ag y.op), .string (ag y.nm), .string (ag y.tx), .int .i64 y.v, .slice B5 y.args.length d5], .int .u8 105, .string (ag nm)] W fun e w'=>e= .returned (qV r)/\au W w' from HAR.out W hE)
   go_upto_region 26 with fail
   have HX1:=HX;clear hb0 hc0 hz0;have hnz:=jz hnz;obtain⟨⟨ra,rb⟩,hab⟩: ∃z,ip r=z:=⟨_,rfl⟩
   rw[hab]at hnz;simp only[f9 _ hab]at HAR;clear hab;have hq1:=HX1.out.r.b.lt;refine fJ 11 1 [(9,fun v=>v=AZ ra rb,fun _ _=>True),(10,A9,i6 wr 112 #[.string ⟨#[]⟩, .int .i64 0])] [10] mixed (by kernel_rfl)
    ⟨fun _ _ _ _ _=>trivial,fun _ _ _ h hx=>h.ext hx,trivial⟩ (fun i hi=> ?_) ?_
   ·obtain rfl:i=10:=by simpa using hi
    exact⟨_,_,rfl,mV⟩
   repeat (refine sx ?_ (fun w1 hU=> ?_) ?_;rotate_left;(focus have hXU:=HX1.out.ext hU.un;have f1:=hXU.b.cell;have f2:=HY.out.kp (P:=fun _=>True) (.of_ext hXU.r.e) trivial hb;have g0:=f2.c0;have g1:=f2.c1;have g2:=f2.c2;have g3:=f2.c3;have g4:=f2.c4;have g5:=f2.c5;clear f2 hXU hU;go_simp<;>with_reducible rfl);simp only[aU,aT,aS,aR,aQ])
   refine so (fun w6 hU hp K hK=> ?_) ?_
   ·have hc:=HAR.out w6 (HX1.out.ext hU.un).r.e;clear hp hU;go_simp;refine hc.mono ?_;rintro e w7 ⟨rfl,hE⟩;exact hK _ _ hE rfl trivial
   rintro _ rfl;simp only[aU,aT,aS,aR,aQ];refine lT _ _ (by rfl) rfl ⟨_,0,rfl⟩ (by simp) (fun w6 hU hp K hK=> ?_) ?_
   ·have hz6:=hU.un.size;clear hp hU;go_simp;exact hK _ _ (O w6 _) ⟨_,rfl⟩ ⟨_,rfl,hz6,ax w6 _ _⟩ (xu rfl)
   rintro _ ⟨g9,rfl⟩;simp only[aU,aT,aS,aR,aQ];intro w9 hw9 hp _;obtain⟨z9,b9⟩:=mW (hp _ (.head _));clear hp;simp only[ab,ap];have hX9:=HX1.out.ext hw9.un;have hn9:w.heap.size+1≠g9:=by omega
   have cc9:=b9.cell;have zz9:=b9.frozen;have bp:aO ((w9.setCell ⟨g9,0,none⟩ (.string (ag ra))).setCell ⟨g9,1,none⟩ (.int .i64 rb)) g9 112 #[.string (ag ra), .int .i64 rb]:=by simpa using(b9.set 0 (.string (ag ra))).set 1 (.int .i64 rb)
   have HX2:=G (hX9.far (g:=g9) (by omega) (.string (ag ra)) (.int .i64 rb));have HB2:=G bp;have hb2:=HX2.out.b.cell;have hc2:=HX2.out.r.b.cell;have hz2:=HX2.out.r.b.frozen;have hd2:=bp.cell;clear b9 z9 hw9 hX9 bp HX1 HAR;rcases hnz with⟨hr,he⟩|⟨a',b',hr,he,hne⟩
   ·injection he with he1 he2;subst he1 he2;have HS2:=G (show gX gl lo (xs.drop (j+1))=R by rw[<-HS.out,HD1.out,hr];rfl);clear hr HD1 HS;go_wp2_with fail;go_roundw
    case rel=>exact⟨j+1,by go_num,by omega,HS2,HX2⟩
    case measure=>simp[intOf];omega
   ·injection he with he1 he2;subst he1 he2;have hne':=kM hne;have HF:=G (show R= .error (ra,rb) by rw[<-HS.out,HD1.out,hr];rfl);clear hr HD1 HS;go_wp2_with fail;have HZ:=G (HX2.out.r.put (.string (ag ra)) (.int .i64 rb));have cz:=HZ.out.b.cell;exact bodyPost_ret (v:= .agg #[.string (ag ra), .int .i64 rb]) (by simp[results,results83,go_sem,cz]) rfl ⟨by rw[HF.out];rfl,HZ.out.e⟩
  ·have hlt': ¬(j:Int)<N:=by omega
   have HF:=G (show R= .ok () by
    have:=HS.out;rw[aB (by have:=HN.out;omega)]at this
    exact this.symm.trans (by first|rfl|(rw[jT])|(rw[gX])))
   go_wp2_with (go_at_call 81;refine(HFI.out _).mono ?_;rintro e w8 ⟨rfl,hE⟩;have HX8:=G (HX.out.ext hE);clear hb0 hc0 hz0;have hc8:=HX8.out.r.b.cell;have hz8:=HX8.out.r.b.frozen;clear hE HFI);have HZ:=G (HX8.out.r.put (.string ⟨#[]⟩) (.int .i64 0));have cz:=HZ.out.b.cell;exact bodyPost_ret (v:= .agg #[.string ⟨#[]⟩, .int .i64 0]) (by simp[results,results83,go_sem,cz]) rfl ⟨by rw[HF.out];rfl,HZ.out.e⟩
theorem Ay (k:Int) (h2:k=2) (op nm tx:List UInt8) (v:Int) (xs:List Ex) (hok:Ex.ok (.mk k op nm tx v xs)=true) (hw:Ex.wt (.mk k op nm tx v xs)<=1073741824) (hIH: ∀y∈xs,tM p gl y):tM p gl (.mk k op nm tx v xs):=by
 intro P Q g base A B C n c m d q e ls w D N l hK hDj hlen hR;have hnw:=bF xs;rw[Ex.wt]at hw;have hxl:xs.length<=1073741823:=by omega
 simp only[Ex.k,Ex.op,Ex.nm,Ex.tx,Ex.v,Ex.args]at*;obtain⟨D',l',hv,hf⟩:=hR.form;injection hv with hv1 hv2 hv3;subst hv1 hv2 hv3;obtain⟨N,hN⟩: ∃N,xs.length=N:=⟨_,rfl⟩
 have HN:=G hN;rw[hN]at hR hxl;have HK:=G hK;have HR:=G hR;have HI:=G hIH;have HDj:=G hDj;have HLn:=G hlen;have HFI:=G (fun(W:World)=>fy W);have HQ0:=G (XQ.new w #[.int .i64 k, .string (ag op), .string (ag nm), .string (ag tx), .int .i64 v, .slice D N l]);have hb0:=HQ0.out.b.cell;have hc0:=HQ0.out.r.b.cell;have hz0:=HQ0.out.r.b.frozen;obtain⟨lo,hlo⟩: ∃lo,b7 ls=lo:=⟨_,rfl⟩
 have HLo:=G hlo;subst h2;rw[AO,hN];clear hK hR hIH hDj hlen hf hok hw hnw hlo hN HI HFI;go_enter func83,ntmps83;go_wp2_with fail;have HZ:=G (k9 w #[.int .i64 2, .string (ag op), .string (ag nm), .string (ag tx), .int .i64 v, .slice D N l] (.string ⟨#[]⟩) (.int .i64 16));have cz:=HZ.out.b.cell;exact bodyPost_ret (v:= .agg #[.string ⟨#[]⟩, .int .i64 16]) (by simp[results,results83,go_sem,cz]) rfl ⟨rfl,HZ.out.e⟩
theorem Ax (k:Int) (h3:k=3) (op nm tx:List UInt8) (v:Int) (xs:List Ex) (hok:Ex.ok (.mk k op nm tx v xs)=true) (hw:Ex.wt (.mk k op nm tx v xs)<=1073741824) (hIH: ∀y∈xs,tM p gl y):tM p gl (.mk k op nm tx v xs):=by
 intro P Q g base A B C n c m d q e ls w D N l hK hDj hlen hR;have hnw:=bF xs;rw[Ex.wt]at hw;have hxl:xs.length<=1073741823:=by omega
 simp only[Ex.k,Ex.op,Ex.nm,Ex.tx,Ex.v,Ex.args]at*;obtain⟨D',l',hv,hf⟩:=hR.form;injection hv with hv1 hv2 hv3;subst hv1 hv2 hv3;obtain⟨N,hN⟩: ∃N,xs.length=N:=⟨_,rfl⟩
 have HN:=G hN;rw[hN]at hR hxl;have HK:=G hK;have HR:=G hR;have HI:=G hIH;have HDj:=G hDj;have HLn:=G hlen;have HFI:=G (fun(W:World)=>fy W);have HQ0:=G (XQ.new w #[.int .i64 k, .string (ag op), .string (ag nm), .string (ag tx), .int .i64 v, .slice D N l]);have hb0:=HQ0.out.b.cell;have hc0:=HQ0.out.r.b.cell;have hz0:=HQ0.out.r.b.frozen;obtain⟨lo,hlo⟩: ∃lo,b7 ls=lo:=⟨_,rfl⟩
 have HLo:=G hlo;subst h3
 have HNM:=G (fun(W:World) (hE:au w W)=>show Calls prog 82 #[.pointer (some ⟨g,0,none⟩), .string (ag nm), .bool false] W fun e w'=>e= .returned (qV (gN gl lo nm))/\au W w' from by
  have:=gH hS (hK.ext hE) hlen nm false
  rwa [nM hG hDj,hlo]at this)
 obtain⟨⟨a,b⟩,hab⟩: ∃z,ip (gN gl lo nm)=z:=⟨_,rfl⟩
 have HV:=G (f9 _ hab);rw[f9 _ hab]at HNM;rw[AN,hlo,hN,HV.out];clear hK hR hIH hDj hlen hf hok hw hnw hlo hN HI HFI hab HV;go_enter func83,ntmps83;go_wp2_with (go_at_call 82;refine(HNM.out _ HQ0.out.r.e).mono ?_;rintro e w1 ⟨rfl,hE⟩;have HX1:=G (HQ0.out.ext hE);clear hb0 hc0 hz0;have hc1:=HX1.out.r.b.cell;have hz1:=HX1.out.r.b.frozen;clear hE HNM);have HZ:=G (HX1.out.r.put (.string (ag a)) (.int .i64 b));have cz:=HZ.out.b.cell;exact bodyPost_ret (v:= .agg #[.string (ag a), .int .i64 b]) (by simp[results,results83,go_sem,cz]) rfl ⟨rfl,HZ.out.e⟩
theorem Aw (k:Int) (h4:k=4) (op nm tx:List UInt8) (v:Int) (xs:List Ex) (hok:Ex.ok (.mk k op nm tx v xs)=true) (hw:Ex.wt (.mk k op nm tx v xs)<=1073741824) (hIH: ∀y∈xs,tM p gl y):tM p gl (.mk k op nm tx v xs):=by
 intro P Q g base A B C n c m d q e ls w D N l hK hDj hlen hR;have hnw:=bF xs;rw[Ex.wt]at hw;have hxl:xs.length<=1073741823:=by omega
 simp only[Ex.k,Ex.op,Ex.nm,Ex.tx,Ex.v,Ex.args]at*;obtain⟨D',l',hv,hf⟩:=hR.form;injection hv with hv1 hv2 hv3;subst hv1 hv2 hv3;obtain⟨N,hN⟩: ∃N,xs.length=N:=⟨_,rfl⟩
 have HN:=G hN;rw[hN]at hR hxl;have HK:=G hK;have HR:=G hR;have HI:=G hIH;have HDj:=G hDj;have HLn:=G hlen;have HFI:=G (fun(W:World)=>fy W);have HQ0:=G (XQ.new w #[.int .i64 k, .string (ag op), .string (ag nm), .string (ag tx), .int .i64 v, .slice D N l]);have hb0:=HQ0.out.b.cell;have hc0:=HQ0.out.r.b.cell;have hz0:=HQ0.out.r.b.frozen;obtain⟨lo,hlo⟩: ∃lo,b7 ls=lo:=⟨_,rfl⟩
 have HLo:=G hlo;subst h4
 have HNM:=G (fun(W:World) (hE:au w W)=>show Calls prog 82 #[.pointer (some ⟨g,0,none⟩), .string (ag nm), .bool true] W fun e w'=>e= .returned (qV (d9 gl lo nm))/\au W w' from by
  have:=gH hS (hK.ext hE) hlen nm true
  rwa [lc hG hDj,hlo]at this)
 obtain⟨⟨a,b⟩,hab⟩: ∃z,ip (d9 gl lo nm)=z:=⟨_,rfl⟩
 have HV:=G (f9 _ hab);rw[f9 _ hab]at HNM;rw[AM,hlo,hN];have hnz:=jz (k_ gl lo nm);rw[hab]at hnz;rcases hnz with⟨hr,he⟩|⟨a',b',hr,he,hne⟩
 ·injection he with he1 he2;subst he1 he2;rw[hr,dK];obtain⟨R,hRR⟩: ∃R,gX gl lo xs=R:=⟨_,rfl⟩
  have HRes:=G (show gX gl lo (xs.drop 0)=R from hRR);rw[hRR];clear hK hR hIH hDj hlen hf hok hw hnw hlo hN hab HV hr hRR;go_enter func83,ntmps83;go_wp2_with (go_at_call 82;refine(HNM.out _ HQ0.out.r.e).mono ?_;rintro e w1 ⟨rfl,hE⟩;have HX1:=G ((HQ0.out.ext hE).ext (O w1 (.cells #[.string (ag []), .int .i64 0] 112)));have hd1:=(ax w1 112 #[.string (ag []), .int .i64 0]).cell;clear hb0 hc0 hz0;have hb1:=HX1.out.b.cell;have hc1:=HX1.out.r.b.cell;have hz1:=HX1.out.r.b.frozen;clear hE HNM)
  go_loopw [11] (fun vi wr=> ∃(j:Nat),vi= .int .i64 (j:Int)/\j<=N/\Hid (gX gl lo (xs.drop j)=R)/\Hid (XQ w #[.int .i64 4, .string (ag op), .string (ag nm), .string (ag tx), .int .i64 v, .slice D N l] wr)) (fun vi _=>N-(intOf vi).toNat)
  case atStart=>exact⟨0,rfl,az _,HRes,HX1⟩
  case round=>
   obtain⟨j,rfl,hj,HS,HX⟩:=hrel;have hb0:=HX.out.b.cell;have hc0:=HX.out.r.b.cell;have hz0:=HX.out.r.b.frozen;by_cases hlt:j<N
   ·have hlt':(j:Int)<N:=by omega
    have hjl:j<xs.length:=by have:=HN.out;omega
    obtain⟨b,o,a5,rfl,hb,hP,h0,h1,h2,h3,h4,h5,hRa⟩:=HR.out.at_ j hjl;have HD1:=G (v8 (gl:=gl) (lo:=lo) hjl);have hIy:=HI.out _ (ai hjl);generalize xs[j]=y at*;obtain⟨B5,d5,rfl,_⟩:=hRa.form;have HY:=G (show YC w b (o+j*6) y.k y.op y.nm y.tx y.v B5 y.args.length d5 from⟨h0,h1,h2,h3,h4,h5⟩);have HAR:=G (fun(W:World) (hE:au w W)=>jM hS hG y (105) nm (fun _=>hIy) P Q g base _ _ _ _ _ _ _ _ _ ls W B5 y.args.length d5 (HK.out.ext hE) HDj.out HLn.out (hRa.keep (.of_ext hE) (fun _ hb _=>hb)));clear h0 h1 h2 h3 h4 h5 hRa hIy;rw[HLo.out]at HAR;have hnz:=lX gl lo 105 nm y;rw[show io gl lo y=jR gl lo 105 nm y by unfold jR;rw[if_pos rfl]]at HD1;generalize jR gl lo 105 nm y=r at*;have HAR:=G (fun(W:World) (hE:au w W)=>show Calls prog 129 #[.pointer (some ⟨g,0,none⟩), .agg #[.int .i64 y.k, .string (ag y.op), .string (ag y.nm), .string (ag y.tx), .int .i64 y.v, .slice B5 y.args.length d5], .int .u8 105, .string (ag nm)] W fun e w'=>e= .returned (qV r)/\au W w' from HAR.out W hE)
    go_upto_region 26 with fail
    have HX1:=HX;clear hb0 hc0 hz0;have hnz:=jz hnz;obtain⟨⟨ra,rb⟩,hab⟩: ∃z,ip r=z:=⟨_,rfl⟩
    rw[hab]at hnz;simp only[f9 _ hab]at HAR;clear hab;have hq1:=HX1.out.r.b.lt;refine fJ 11 1 [(9,fun v=>v=AZ ra rb,fun _ _=>True),(10,A9,i6 wr 112 #[.string ⟨#[]⟩, .int .i64 0])] [10] mixed (by kernel_rfl)
     ⟨fun _ _ _ _ _=>trivial,fun _ _ _ h hx=>h.ext hx,trivial⟩ (fun i hi=> ?_) ?_
    ·obtain rfl:i=10:=by simpa using hi
     exact⟨_,_,rfl,mV⟩
    repeat (refine sx ?_ (fun w1 hU=> ?_) ?_;rotate_left;(focus have hXU:=HX1.out.ext hU.un;have f1:=hXU.b.cell;have f2:=HY.out.kp (P:=fun _=>True) (.of_ext hXU.r.e) trivial hb;have g0:=f2.c0;have g1:=f2.c1;have g2:=f2.c2;have g3:=f2.c3;have g4:=f2.c4;have g5:=f2.c5;clear f2 hXU hU;go_simp<;>with_reducible rfl);simp only[aU,aT,aS,aR,aQ])
    refine so (fun w6 hU hp K hK=> ?_) ?_
    ·have hc:=HAR.out w6 (HX1.out.ext hU.un).r.e;clear hp hU;go_simp;refine hc.mono ?_;rintro e w7 ⟨rfl,hE⟩;exact hK _ _ hE rfl trivial
    rintro _ rfl;simp only[aU,aT,aS,aR,aQ];refine lT _ _ (by rfl) rfl ⟨_,0,rfl⟩ (by simp) (fun w6 hU hp K hK=> ?_) ?_
    ·have hz6:=hU.un.size;clear hp hU;go_simp;exact hK _ _ (O w6 _) ⟨_,rfl⟩ ⟨_,rfl,hz6,ax w6 _ _⟩ (xu rfl)
    rintro _ ⟨g9,rfl⟩;simp only[aU,aT,aS,aR,aQ];intro w9 hw9 hp _;obtain⟨z9,b9⟩:=mW (hp _ (.head _));clear hp;simp only[ab,ap];have hX9:=HX1.out.ext hw9.un;have hn9:w.heap.size+1≠g9:=by omega
    have cc9:=b9.cell;have zz9:=b9.frozen;have bp:aO ((w9.setCell ⟨g9,0,none⟩ (.string (ag ra))).setCell ⟨g9,1,none⟩ (.int .i64 rb)) g9 112 #[.string (ag ra), .int .i64 rb]:=by simpa using(b9.set 0 (.string (ag ra))).set 1 (.int .i64 rb)
    have HX2:=G (hX9.far (g:=g9) (by omega) (.string (ag ra)) (.int .i64 rb));have HB2:=G bp;have hb2:=HX2.out.b.cell;have hc2:=HX2.out.r.b.cell;have hz2:=HX2.out.r.b.frozen;have hd2:=bp.cell;clear b9 z9 hw9 hX9 bp HX1 HAR;rcases hnz with⟨hr,he⟩|⟨a',b',hr,he,hne⟩
    ·injection he with he1 he2;subst he1 he2;have HS2:=G (show gX gl lo (xs.drop (j+1))=R by rw[<-HS.out,HD1.out,hr];rfl);clear hr HD1 HS;go_wp2_with fail;go_roundw
     case rel=>exact⟨j+1,by go_num,by omega,HS2,HX2⟩
     case measure=>simp[intOf];omega
    ·injection he with he1 he2;subst he1 he2;have hne':=kM hne;have HF:=G (show R= .error (ra,rb) by rw[<-HS.out,HD1.out,hr];rfl);clear hr HD1 HS;go_wp2_with fail;have HZ:=G (HX2.out.r.put (.string (ag ra)) (.int .i64 rb));have cz:=HZ.out.b.cell;exact bodyPost_ret (v:= .agg #[.string (ag ra), .int .i64 rb]) (by simp[results,results83,go_sem,cz]) rfl ⟨by rw[HF.out];rfl,HZ.out.e⟩
   ·have hlt': ¬(j:Int)<N:=by omega
    have HF:=G (show R= .ok () by
     have:=HS.out;rw[aB (by have:=HN.out;omega)]at this
     exact this.symm.trans (by first|rfl|(rw[jT])|(rw[gX])))
    go_wp2_with (go_at_call 81;refine(HFI.out _).mono ?_;rintro e w8 ⟨rfl,hE⟩;have HX8:=G (HX.out.ext hE);clear hb0 hc0 hz0;have hc8:=HX8.out.r.b.cell;have hz8:=HX8.out.r.b.frozen;clear hE HFI);have HZ:=G (HX8.out.r.put (.string ⟨#[]⟩) (.int .i64 0));have cz:=HZ.out.b.cell;exact bodyPost_ret (v:= .agg #[.string ⟨#[]⟩, .int .i64 0]) (by simp[results,results83,go_sem,cz]) rfl ⟨by rw[HF.out];rfl,HZ.out.e⟩
 ·injection he with he1 he2;subst he1 he2;have hne':=kM hne;rw[hr,eG];clear hK hR hIH hDj hlen hf hok hw hnw hlo hN HI HFI hab HV hr;go_enter func83,ntmps83;go_wp2_with (go_at_call 82;refine(HNM.out _ HQ0.out.r.e).mono ?_;rintro e w1 ⟨rfl,hE⟩;have HX1:=G ((HQ0.out.ext hE).ext (O w1 (.cells #[.string (ag a), .int .i64 b] 112)));have hd1:=(ax w1 112 #[.string (ag a), .int .i64 b]).cell;clear hb0 hc0 hz0;have hb1:=HX1.out.b.cell;have hc1:=HX1.out.r.b.cell;have hz1:=HX1.out.r.b.frozen;clear hE HNM);have HZ:=G (HX1.out.r.put (.string (ag a)) (.int .i64 b));have cz:=HZ.out.b.cell;exact bodyPost_ret (v:= .agg #[.string (ag a), .int .i64 b]) (by simp[results,results83,go_sem,cz]) rfl ⟨rfl,HZ.out.e⟩
theorem Av (k:Int) (h5:k=5) (op nm tx:List UInt8) (v:Int) (xs:List Ex) (hok:Ex.ok (.mk k op nm tx v xs)=true) (hw:Ex.wt (.mk k op nm tx v xs)<=1073741824) (hIH: ∀y∈xs,tM p gl y):tM p gl (.mk k op nm tx v xs):=by
 intro P Q g base A B C n c m d q e ls w D N l hK hDj hlen hR;have hnw:=bF xs;rw[Ex.wt]at hw;have hxl:xs.length<=1073741823:=by omega
 simp only[Ex.k,Ex.op,Ex.nm,Ex.tx,Ex.v,Ex.args]at*;obtain⟨D',l',hv,hf⟩:=hR.form;injection hv with hv1 hv2 hv3;subst hv1 hv2 hv3;obtain⟨N,hN⟩: ∃N,xs.length=N:=⟨_,rfl⟩
 have HN:=G hN;rw[hN]at hR hxl;have HK:=G hK;have HR:=G hR;have HI:=G hIH;have HDj:=G hDj;have HLn:=G hlen;have HFI:=G (fun(W:World)=>fy W);have HQ0:=G (XQ.new w #[.int .i64 k, .string (ag op), .string (ag nm), .string (ag tx), .int .i64 v, .slice D N l]);have hb0:=HQ0.out.b.cell;have hc0:=HQ0.out.r.b.cell;have hz0:=HQ0.out.r.b.frozen;obtain⟨lo,hlo⟩: ∃lo,b7 ls=lo:=⟨_,rfl⟩
 have HLo:=G hlo;subst h5;have HCA:=G (fun(W:World) (hE:au w W)=>jL hS (hK.ext hE) nm);have HBL:=G (fun(W:World)=>gv nm W);have HLT:=G (fun(i:Nat) (hi:i<=1073741824) W=>pD nm i hi W);have hsz:=aL (nc (bD nm));have hbl:=l7 nm;rw[AL hG,hlo,hN]
 cases hcb:cX p nm with
 |false=>
  rw[hcb]at HCA;rw[if_pos rfl];clear hK hR hIH hDj hlen hf hok hw hnw hlo hN HI HFI hcb HBL HLT;go_enter func83,ntmps83;go_wp2_with (go_at_call 41;refine(HCA.out _ HQ0.out.r.e).mono ?_;rintro e w1 ⟨rfl,hE⟩;have HX1:=G (HQ0.out.ext hE);clear hb0 hc0 hz0;have hb1:=HX1.out.b.cell;have hc1:=HX1.out.r.b.cell;have hz1:=HX1.out.r.b.frozen;clear hE HCA);have HZ:=G (HX1.out.r.put (.string (ag nm)) (.int .i64 15));have cz:=HZ.out.b.cell;exact bodyPost_ret (v:= .agg #[.string (ag nm), .int .i64 15]) (by simp[results,results83,go_sem,cz]) rfl ⟨rfl,HZ.out.e⟩
 |true=>
  rw[hcb]at HCA;rw[if_neg (by simp)];have HFU:=G (fun(W:World) (hE:au w W)=>mm p P W (.slice A n c) B m d (hK.ext hE).f (by have:=hS.f;omega) nm);rcases ll p.fs nm with⟨hr,hfo⟩|⟨i,hi,hr,hfo,_⟩
  ·rw[hr]at HFU;have har:qT p nm=(nc (bD nm)).length:=by unfold qT;rw[hfo];cases bD nm<;>rfl
   rw[har];generalize nc (bD nm)=bs at*;generalize wg (bD nm)=bk at*;by_cases hq:bs.length=N
   ·rw[if_pos hq];obtain⟨R,hRR⟩: ∃R,jT gl lo nm (bD nm) 0 xs=R:=⟨_,rfl⟩
    have HRes:=G (show jT gl lo nm (bD nm) 0 (xs.drop 0)=R from hRR);rw[hRR];have hq1:((N:Int)==(bs.length:Int))=true:=by rw[hq];simp
    have hq2:((N:Int) !=(bs.length:Int))=false:=by rw[hq];simp
    clear hK hR hIH hDj hlen hf hok hw hnw hlo hN hcb hRR hr hfo har;go_enter func83,ntmps83
    go_upto_region 15 with(first|(go_at_call 41;refine(HCA.out _ HQ0.out.r.e).mono ?_;rintro e w1 ⟨rfl,hE⟩;have HX1:=G (HQ0.out.ext hE);clear hb0 hc0 hz0;have hb1:=HX1.out.b.cell;have hc1:=HX1.out.r.b.cell;have hz1:=HX1.out.r.b.frozen;clear hE HCA)|(go_at_call 23;refine(HBL.out _).mono ?_;rintro e w2 ⟨rfl,hE⟩;have HX2:=G (HX1.out.ext hE);clear hb1 hc1 hz1;have hb2:=HX2.out.b.cell;have hc2:=HX2.out.r.b.cell;have hz2:=HX2.out.r.b.frozen;have hk2:=(HK.out.ext HX2.out.r.e).blk.cell;clear hE HBL))
    refine am 7 1 [(6,fun v=>v= .int .i64 (-1),fun _ _=>True)] mixed (by kernel_rfl) ⟨fun _ _ _ _ _=>trivial,trivial⟩ ?_;repeat (refine sx ?_ (fun w1 hU=> ?_) ?_;rotate_left;(focus have hXU:=HX2.out.ext hU.un;have f1:=hXU.b.cell;have f2:=(HK.out.ext hXU.r.e).blk.cell;clear hXU hU;go_simp<;>with_reducible rfl);simp only[aU,aT,aS,aR,aQ])
    refine so (fun w6 hU hp K hK=> ?_) ?_
    ·have hc:=HFU.out w6 (HX2.out.ext hU.un).r.e;clear hp hU;go_simp;refine hc.mono ?_;rintro e w7 ⟨rfl,hE⟩;exact hK _ _ hE rfl trivial
    rintro _ rfl;simp only[aU,aT,aS,aR,aQ];intro w3 hw3 hp;clear hp;simp only[ab,ap];have HX3:=G (HX2.out.ext hw3.un);have hb3:=HX3.out.b.cell;have hc3:=HX3.out.r.b.cell;have hz3:=HX3.out.r.b.frozen;clear hw3 hb2 hc2 hz2 hk2;go_wp2_with fail
    go_loopw [11] (fun vi wr=> ∃(j:Nat),vi= .int .i64 (j:Int)/\j<=N/\Hid (jT gl lo nm (bD nm) j (xs.drop j)=R)/\Hid (XQ w #[.int .i64 5, .string (ag op), .string (ag nm), .string (ag tx), .int .i64 v, .slice D N l] wr)) (fun vi _=>N-(intOf vi).toNat)
    case atStart=>exact⟨0,rfl,az _,HRes,HX3⟩
    case round=>
     obtain⟨j,rfl,hj,HS,HX⟩:=hrel;have hb0:=HX.out.b.cell;have hc0:=HX.out.r.b.cell;have hz0:=HX.out.r.b.frozen;by_cases hlt:j<N
     ·have hlt':(j:Int)<N:=by omega
      have hjl:j<xs.length:=by have:=HN.out;omega
      obtain⟨b,o,a5,rfl,hb,hP,h0,h1,h2,h3,h4,h5,hRa⟩:=HR.out.at_ j hjl;have HD1:=G (nH (g:=gl) (lo:=lo) (nm:=nm) hjl);have hIy:=HI.out _ (ai hjl);generalize xs[j]=y at*;obtain⟨B5,d5,rfl,_⟩:=hRa.form;have HY:=G (show YC w b (o+j*6) y.k y.op y.nm y.tx y.v B5 y.args.length d5 from⟨h0,h1,h2,h3,h4,h5⟩);have HAR:=G (fun(W:World) (hE:au w W)=>jM hS hG y (gI (bD nm) j) nm (fun _=>hIy) P Q g base _ _ _ _ _ _ _ _ _ ls W B5 y.args.length d5 (HK.out.ext hE) HDj.out HLn.out (hRa.keep (.of_ext hE) (fun _ hb _=>hb)));clear h0 h1 h2 h3 h4 h5 hRa hIy;rw[HLo.out]at HAR;have HLT1:=G (HLT.out j (by omega));have hnz:=lX gl lo (gI (bD nm) j) nm y;generalize jR gl lo (gI (bD nm) j) nm y=r at*;generalize gI (bD nm) j=ch at*
      go_upto_region 26 with(go_at_call 56;refine(HLT1.out _).mono ?_;rintro e wq ⟨rfl,hE⟩;have HX1:=G (HX.out.ext hE);clear hb0 hc0 hz0 hE HLT1)
      have hnz:=jz hnz;obtain⟨⟨ra,rb⟩,hab⟩: ∃z,ip r=z:=⟨_,rfl⟩
      rw[hab]at hnz;simp only[f9 _ hab]at HAR;clear hab;have hq1:=HX1.out.r.b.lt;refine fJ 11 1 [(9,fun v=>v=AZ ra rb,fun _ _=>True),(10,A9,i6 wq 112 #[.string ⟨#[]⟩, .int .i64 0])] [10] mixed (by kernel_rfl)
       ⟨fun _ _ _ _ _=>trivial,fun _ _ _ h hx=>h.ext hx,trivial⟩ (fun i hi=> ?_) ?_
      ·obtain rfl:i=10:=by simpa using hi
       exact⟨_,_,rfl,mV⟩
      repeat (refine sx ?_ (fun w1 hU=> ?_) ?_;rotate_left;(focus have hXU:=HX1.out.ext hU.un;have f1:=hXU.b.cell;have f2:=HY.out.kp (P:=fun _=>True) (.of_ext hXU.r.e) trivial hb;have g0:=f2.c0;have g1:=f2.c1;have g2:=f2.c2;have g3:=f2.c3;have g4:=f2.c4;have g5:=f2.c5;clear f2 hXU hU;go_simp<;>with_reducible rfl);simp only[aU,aT,aS,aR,aQ])
      refine so (fun w6 hU hp K hK=> ?_) ?_
      ·have hc:=HAR.out w6 (HX1.out.ext hU.un).r.e;clear hp hU;go_simp;refine hc.mono ?_;rintro e w7 ⟨rfl,hE⟩;exact hK _ _ hE rfl trivial
      rintro _ rfl;simp only[aU,aT,aS,aR,aQ];refine lT _ _ (by rfl) rfl ⟨_,0,rfl⟩ (by simp) (fun w6 hU hp K hK=> ?_) ?_
      ·have hz6:=hU.un.size;clear hp hU;go_simp;exact hK _ _ (O w6 _) ⟨_,rfl⟩ ⟨_,rfl,hz6,ax w6 _ _⟩ (xu rfl)
      rintro _ ⟨g9,rfl⟩;simp only[aU,aT,aS,aR,aQ];intro w9 hw9 hp _;obtain⟨z9,b9⟩:=mW (hp _ (.head _));clear hp;simp only[ab,ap];have hX9:=HX1.out.ext hw9.un;have hn9:w.heap.size+1≠g9:=by omega
      have cc9:=b9.cell;have zz9:=b9.frozen;have bp:aO ((w9.setCell ⟨g9,0,none⟩ (.string (ag ra))).setCell ⟨g9,1,none⟩ (.int .i64 rb)) g9 112 #[.string (ag ra), .int .i64 rb]:=by simpa using(b9.set 0 (.string (ag ra))).set 1 (.int .i64 rb)
      have HX2:=G (hX9.far (g:=g9) (by omega) (.string (ag ra)) (.int .i64 rb));have HB2:=G bp;have hb2:=HX2.out.b.cell;have hc2:=HX2.out.r.b.cell;have hz2:=HX2.out.r.b.frozen;have hd2:=bp.cell;clear b9 z9 hw9 hX9 bp HX1 HAR;rcases hnz with⟨hr,he⟩|⟨a',b',hr,he,hne⟩
      ·injection he with he1 he2;subst he1 he2;have HS2:=G (show jT gl lo nm (bD nm) (j+1) (xs.drop (j+1))=R by rw[<-HS.out,HD1.out,hr];rfl);clear hr HD1 HS;go_wp2_with fail;go_roundw
       case rel=>exact⟨j+1,by go_num,by omega,HS2,HX2⟩
       case measure=>simp[intOf];omega
      ·injection he with he1 he2;subst he1 he2;have hne':=kM hne;have HF:=G (show R= .error (ra,rb) by rw[<-HS.out,HD1.out,hr];rfl);clear hr HD1 HS;go_wp2_with fail;have HZ:=G (HX2.out.r.put (.string (ag ra)) (.int .i64 rb));have cz:=HZ.out.b.cell;exact bodyPost_ret (v:= .agg #[.string (ag ra), .int .i64 rb]) (by simp[results,results83,go_sem,cz]) rfl ⟨by rw[HF.out];rfl,HZ.out.e⟩
     ·have hlt': ¬(j:Int)<N:=by omega
      have HF:=G (show R= .ok () by
       have:=HS.out;rw[aB (by have:=HN.out;omega)]at this
       exact this.symm.trans (by first|rfl|(rw[jT])|(rw[gX])))
      go_wp2_with (go_at_call 81;refine(HFI.out _).mono ?_;rintro e w8 ⟨rfl,hE⟩;have HX8:=G (HX.out.ext hE);clear hb0 hc0 hz0;have hc8:=HX8.out.r.b.cell;have hz8:=HX8.out.r.b.frozen;clear hE HFI);have HZ:=G (HX8.out.r.put (.string ⟨#[]⟩) (.int .i64 0));have cz:=HZ.out.b.cell;exact bodyPost_ret (v:= .agg #[.string ⟨#[]⟩, .int .i64 0]) (by simp[results,results83,go_sem,cz]) rfl ⟨by rw[HF.out];rfl,HZ.out.e⟩
   ·rw[if_neg hq];have hq1:((N:Int)==(bs.length:Int))=false:=beq_eq_false_iff_ne.2 (by omega);have hq2:((N:Int) !=(bs.length:Int))=true:=by simp[bne,hq1]
    clear hK hR hIH hDj hlen hf hok hw hnw hlo hN HI HFI hcb hr hfo har HLT;go_enter func83,ntmps83
    go_upto_region 15 with(first|(go_at_call 41;refine(HCA.out _ HQ0.out.r.e).mono ?_;rintro e w1 ⟨rfl,hE⟩;have HX1:=G (HQ0.out.ext hE);clear hb0 hc0 hz0;have hb1:=HX1.out.b.cell;have hc1:=HX1.out.r.b.cell;have hz1:=HX1.out.r.b.frozen;clear hE HCA)|(go_at_call 23;refine(HBL.out _).mono ?_;rintro e w2 ⟨rfl,hE⟩;have HX2:=G (HX1.out.ext hE);clear hb1 hc1 hz1;have hb2:=HX2.out.b.cell;have hc2:=HX2.out.r.b.cell;have hz2:=HX2.out.r.b.frozen;have hk2:=(HK.out.ext HX2.out.r.e).blk.cell;clear hE HBL))
    refine am 7 1 [(6,fun v=>v= .int .i64 (-1),fun _ _=>True)] mixed (by kernel_rfl) ⟨fun _ _ _ _ _=>trivial,trivial⟩ ?_;repeat (refine sx ?_ (fun w1 hU=> ?_) ?_;rotate_left;(focus have hXU:=HX2.out.ext hU.un;have f1:=hXU.b.cell;have f2:=(HK.out.ext hXU.r.e).blk.cell;clear hXU hU;go_simp<;>with_reducible rfl);simp only[aU,aT,aS,aR,aQ])
    refine so (fun w6 hU hp K hK=> ?_) ?_
    ·have hc:=HFU.out w6 (HX2.out.ext hU.un).r.e;clear hp hU;go_simp;refine hc.mono ?_;rintro e w7 ⟨rfl,hE⟩;exact hK _ _ hE rfl trivial
    rintro _ rfl;simp only[aU,aT,aS,aR,aQ];intro w3 hw3 hp;clear hp;simp only[ab,ap];have HX3:=G (HX2.out.ext hw3.un);have hb3:=HX3.out.b.cell;have hc3:=HX3.out.r.b.cell;have hz3:=HX3.out.r.b.frozen;clear hw3 hb2 hc2 hz2 hk2;go_wp2_with fail;have HZ:=G (HX3.out.r.put (.string (ag nm)) (.int .i64 16));have cz:=HZ.out.b.cell;exact bodyPost_ret (v:= .agg #[.string (ag nm), .int .i64 16]) (by simp[results,results83,go_sem,cz]) rfl ⟨rfl,HZ.out.e⟩
  ·rw[hr]at HFU;have har:qT p nm=p.fs[i].ps.length:=by unfold qT;rw[hfo]
   rw[har];obtain⟨bb,oo,pv,bv,rfl,_,hbb,_,hpv,_,hN1,_⟩:=hK.f.at0 i hi;obtain⟨pA,pc,rfl,_⟩:=id hN1;have HPV:=G hpv;have him:i<m:=by have:=hK.f.ln;omega
   have him':(i:Int)<m:=by omega
   generalize p.fs[i].ps=ps at*;generalize nc (bD nm)=bs at*;generalize wg (bD nm)=bk at*;by_cases hq:ps.length=N
   ·rw[if_pos hq];obtain⟨R,hRR⟩: ∃R,jT gl lo nm (bD nm) 0 xs=R:=⟨_,rfl⟩
    have HRes:=G (show jT gl lo nm (bD nm) 0 (xs.drop 0)=R from hRR);rw[hRR];have hq1:((N:Int)==(ps.length:Int))=true:=by rw[hq];simp
    have hq2:((N:Int) !=(ps.length:Int))=false:=by rw[hq];simp
    clear hK hR hIH hDj hlen hf hok hw hnw hlo hN hcb hRR hr hfo har hpv hN1;go_enter func83,ntmps83
    go_upto_region 15 with(first|(go_at_call 41;refine(HCA.out _ HQ0.out.r.e).mono ?_;rintro e w1 ⟨rfl,hE⟩;have HX1:=G (HQ0.out.ext hE);clear hb0 hc0 hz0;have hb1:=HX1.out.b.cell;have hc1:=HX1.out.r.b.cell;have hz1:=HX1.out.r.b.frozen;clear hE HCA)|(go_at_call 23;refine(HBL.out _).mono ?_;rintro e w2 ⟨rfl,hE⟩;have HX2:=G (HX1.out.ext hE);clear hb1 hc1 hz1;have hb2:=HX2.out.b.cell;have hc2:=HX2.out.r.b.cell;have hz2:=HX2.out.r.b.frozen;have hk2:=(HK.out.ext HX2.out.r.e).blk.cell;clear hE HBL))
    refine am 7 1 [(6,fun v=>v= .int .i64 (i:Int),fun _ _=>True)] mixed (by kernel_rfl) ⟨fun _ _ _ _ _=>trivial,trivial⟩ ?_;repeat (refine sx ?_ (fun w1 hU=> ?_) ?_;rotate_left;(focus have hXU:=HX2.out.ext hU.un;have f1:=hXU.b.cell;have f2:=(HK.out.ext hXU.r.e).blk.cell;clear hXU hU;go_simp<;>with_reducible rfl);simp only[aU,aT,aS,aR,aQ])
    refine so (fun w6 hU hp K hK=> ?_) ?_
    ·have hc:=HFU.out w6 (HX2.out.ext hU.un).r.e;clear hp hU;go_simp;refine hc.mono ?_;rintro e w7 ⟨rfl,hE⟩;exact hK _ _ hE rfl trivial
    rintro _ rfl;simp only[aU,aT,aS,aR,aQ];intro w3 hw3 hp;clear hp;simp only[ab,ap];have HX3:=G (HX2.out.ext hw3.un);have hb3:=HX3.out.b.cell;have hc3:=HX3.out.r.b.cell;have hz3:=HX3.out.r.b.frozen;clear hw3 hb2 hc2 hz2 hk2;have hk3:=(HK.out.ext HX3.out.r.e).blk.cell;have hq3:=(HX3.out.r.e.cell bb _ hbb).trans HPV.out;go_wp2_with fail
    go_loopw [11] (fun vi wr=> ∃(j:Nat),vi= .int .i64 (j:Int)/\j<=N/\Hid (jT gl lo nm (bD nm) j (xs.drop j)=R)/\Hid (XQ w #[.int .i64 5, .string (ag op), .string (ag nm), .string (ag tx), .int .i64 v, .slice D N l] wr)) (fun vi _=>N-(intOf vi).toNat)
    case atStart=>exact⟨0,rfl,az _,HRes,HX3⟩
    case round=>
     obtain⟨j,rfl,hj,HS,HX⟩:=hrel;have hb0:=HX.out.b.cell;have hc0:=HX.out.r.b.cell;have hz0:=HX.out.r.b.frozen;by_cases hlt:j<N
     ·have hlt':(j:Int)<N:=by omega
      have hjl:j<xs.length:=by have:=HN.out;omega
      obtain⟨b,o,a5,rfl,hb,hP,h0,h1,h2,h3,h4,h5,hRa⟩:=HR.out.at_ j hjl;have HD1:=G (nH (g:=gl) (lo:=lo) (nm:=nm) hjl);have hIy:=HI.out _ (ai hjl);generalize xs[j]=y at*;obtain⟨B5,d5,rfl,_⟩:=hRa.form;have HY:=G (show YC w b (o+j*6) y.k y.op y.nm y.tx y.v B5 y.args.length d5 from⟨h0,h1,h2,h3,h4,h5⟩);have HAR:=G (fun(W:World) (hE:au w W)=>jM hS hG y (gI (bD nm) j) nm (fun _=>hIy) P Q g base _ _ _ _ _ _ _ _ _ ls W B5 y.args.length d5 (HK.out.ext hE) HDj.out HLn.out (hRa.keep (.of_ext hE) (fun _ hb _=>hb)));clear h0 h1 h2 h3 h4 h5 hRa hIy;rw[HLo.out]at HAR;have HLT1:=G (HLT.out j (by omega));have hnz:=lX gl lo (gI (bD nm) j) nm y;generalize jR gl lo (gI (bD nm) j) nm y=r at*;generalize gI (bD nm) j=ch at*
      go_upto_region 26 with(go_at_call 56;refine(HLT1.out _).mono ?_;rintro e wq ⟨rfl,hE⟩;have HX1:=G (HX.out.ext hE);clear hb0 hc0 hz0 hE HLT1)
      have hnz:=jz hnz;obtain⟨⟨ra,rb⟩,hab⟩: ∃z,ip r=z:=⟨_,rfl⟩
      rw[hab]at hnz;simp only[f9 _ hab]at HAR;clear hab;have hq1:=HX1.out.r.b.lt;refine fJ 11 1 [(9,fun v=>v=AZ ra rb,fun _ _=>True),(10,A9,i6 wq 112 #[.string ⟨#[]⟩, .int .i64 0])] [10] mixed (by kernel_rfl)
       ⟨fun _ _ _ _ _=>trivial,fun _ _ _ h hx=>h.ext hx,trivial⟩ (fun i hi=> ?_) ?_
      ·obtain rfl:i=10:=by simpa using hi
       exact⟨_,_,rfl,mV⟩
      repeat (refine sx ?_ (fun w1 hU=> ?_) ?_;rotate_left;(focus have hXU:=HX1.out.ext hU.un;have f1:=hXU.b.cell;have f2:=HY.out.kp (P:=fun _=>True) (.of_ext hXU.r.e) trivial hb;have g0:=f2.c0;have g1:=f2.c1;have g2:=f2.c2;have g3:=f2.c3;have g4:=f2.c4;have g5:=f2.c5;clear f2 hXU hU;go_simp<;>with_reducible rfl);simp only[aU,aT,aS,aR,aQ])
      refine so (fun w6 hU hp K hK=> ?_) ?_
      ·have hc:=HAR.out w6 (HX1.out.ext hU.un).r.e;clear hp hU;go_simp;refine hc.mono ?_;rintro e w7 ⟨rfl,hE⟩;exact hK _ _ hE rfl trivial
      rintro _ rfl;simp only[aU,aT,aS,aR,aQ];refine lT _ _ (by rfl) rfl ⟨_,0,rfl⟩ (by simp) (fun w6 hU hp K hK=> ?_) ?_
      ·have hz6:=hU.un.size;clear hp hU;go_simp;exact hK _ _ (O w6 _) ⟨_,rfl⟩ ⟨_,rfl,hz6,ax w6 _ _⟩ (xu rfl)
      rintro _ ⟨g9,rfl⟩;simp only[aU,aT,aS,aR,aQ];intro w9 hw9 hp _;obtain⟨z9,b9⟩:=mW (hp _ (.head _));clear hp;simp only[ab,ap];have hX9:=HX1.out.ext hw9.un;have hn9:w.heap.size+1≠g9:=by omega
      have cc9:=b9.cell;have zz9:=b9.frozen;have bp:aO ((w9.setCell ⟨g9,0,none⟩ (.string (ag ra))).setCell ⟨g9,1,none⟩ (.int .i64 rb)) g9 112 #[.string (ag ra), .int .i64 rb]:=by simpa using(b9.set 0 (.string (ag ra))).set 1 (.int .i64 rb)
      have HX2:=G (hX9.far (g:=g9) (by omega) (.string (ag ra)) (.int .i64 rb));have HB2:=G bp;have hb2:=HX2.out.b.cell;have hc2:=HX2.out.r.b.cell;have hz2:=HX2.out.r.b.frozen;have hd2:=bp.cell;clear b9 z9 hw9 hX9 bp HX1 HAR;rcases hnz with⟨hr,he⟩|⟨a',b',hr,he,hne⟩
      ·injection he with he1 he2;subst he1 he2;have HS2:=G (show jT gl lo nm (bD nm) (j+1) (xs.drop (j+1))=R by rw[<-HS.out,HD1.out,hr];rfl);clear hr HD1 HS;go_wp2_with fail;go_roundw
       case rel=>exact⟨j+1,by go_num,by omega,HS2,HX2⟩
       case measure=>simp[intOf];omega
      ·injection he with he1 he2;subst he1 he2;have hne':=kM hne;have HF:=G (show R= .error (ra,rb) by rw[<-HS.out,HD1.out,hr];rfl);clear hr HD1 HS;go_wp2_with fail;have HZ:=G (HX2.out.r.put (.string (ag ra)) (.int .i64 rb));have cz:=HZ.out.b.cell;exact bodyPost_ret (v:= .agg #[.string (ag ra), .int .i64 rb]) (by simp[results,results83,go_sem,cz]) rfl ⟨by rw[HF.out];rfl,HZ.out.e⟩
     ·have hlt': ¬(j:Int)<N:=by omega
      have HF:=G (show R= .ok () by
       have:=HS.out;rw[aB (by have:=HN.out;omega)]at this
       exact this.symm.trans (by first|rfl|(rw[jT])|(rw[gX])))
      go_wp2_with (go_at_call 81;refine(HFI.out _).mono ?_;rintro e w8 ⟨rfl,hE⟩;have HX8:=G (HX.out.ext hE);clear hb0 hc0 hz0;have hc8:=HX8.out.r.b.cell;have hz8:=HX8.out.r.b.frozen;clear hE HFI);have HZ:=G (HX8.out.r.put (.string ⟨#[]⟩) (.int .i64 0));have cz:=HZ.out.b.cell;exact bodyPost_ret (v:= .agg #[.string ⟨#[]⟩, .int .i64 0]) (by simp[results,results83,go_sem,cz]) rfl ⟨by rw[HF.out];rfl,HZ.out.e⟩
   ·rw[if_neg hq];have hq1:((N:Int)==(ps.length:Int))=false:=beq_eq_false_iff_ne.2 (by omega);have hq2:((N:Int) !=(ps.length:Int))=true:=by simp[bne,hq1]
    clear hK hR hIH hDj hlen hf hok hw hnw hlo hN HI HFI hcb hr hfo har hpv hN1 HLT;go_enter func83,ntmps83
    go_upto_region 15 with(first|(go_at_call 41;refine(HCA.out _ HQ0.out.r.e).mono ?_;rintro e w1 ⟨rfl,hE⟩;have HX1:=G (HQ0.out.ext hE);clear hb0 hc0 hz0;have hb1:=HX1.out.b.cell;have hc1:=HX1.out.r.b.cell;have hz1:=HX1.out.r.b.frozen;clear hE HCA)|(go_at_call 23;refine(HBL.out _).mono ?_;rintro e w2 ⟨rfl,hE⟩;have HX2:=G (HX1.out.ext hE);clear hb1 hc1 hz1;have hb2:=HX2.out.b.cell;have hc2:=HX2.out.r.b.cell;have hz2:=HX2.out.r.b.frozen;have hk2:=(HK.out.ext HX2.out.r.e).blk.cell;clear hE HBL))
    refine am 7 1 [(6,fun v=>v= .int .i64 (i:Int),fun _ _=>True)] mixed (by kernel_rfl) ⟨fun _ _ _ _ _=>trivial,trivial⟩ ?_;repeat (refine sx ?_ (fun w1 hU=> ?_) ?_;rotate_left;(focus have hXU:=HX2.out.ext hU.un;have f1:=hXU.b.cell;have f2:=(HK.out.ext hXU.r.e).blk.cell;clear hXU hU;go_simp<;>with_reducible rfl);simp only[aU,aT,aS,aR,aQ])
    refine so (fun w6 hU hp K hK=> ?_) ?_
    ·have hc:=HFU.out w6 (HX2.out.ext hU.un).r.e;clear hp hU;go_simp;refine hc.mono ?_;rintro e w7 ⟨rfl,hE⟩;exact hK _ _ hE rfl trivial
    rintro _ rfl;simp only[aU,aT,aS,aR,aQ];intro w3 hw3 hp;clear hp;simp only[ab,ap];have HX3:=G (HX2.out.ext hw3.un);have hb3:=HX3.out.b.cell;have hc3:=HX3.out.r.b.cell;have hz3:=HX3.out.r.b.frozen;clear hw3 hb2 hc2 hz2 hk2;have hk3:=(HK.out.ext HX3.out.r.e).blk.cell;have hq3:=(HX3.out.r.e.cell bb _ hbb).trans HPV.out;go_wp2_with fail;have HZ:=G (HX3.out.r.put (.string (ag nm)) (.int .i64 16));have cz:=HZ.out.b.cell;exact bodyPost_ret (v:= .agg #[.string (ag nm), .int .i64 16]) (by simp[results,results83,go_sem,cz]) rfl ⟨rfl,HZ.out.e⟩
theorem nE: ∀(m:Nat) (x:Ex),x.wt<=m->x.wt<=1073741824->x.ok=true->tM p gl x
 |0,x,h,_,_=>absurd h (by have:=x.wt_eq;omega)
 |m+1, .mk k op nm tx v xs,h,hw,hok=>by
  have hIH: ∀y∈xs,tM p gl y:=fun y hy=>nE m y (by have:=bX hy;rw[Ex.wt]at h;omega) (by have:=bX hy;rw[Ex.wt]at hw;omega) (my (r6 hok) y hy);by_cases h2:k=2
  ·exact Ay hS hG k h2 op nm tx v xs hok hw hIH
  by_cases h3:k=3
  ·exact Ax hS hG k h3 op nm tx v xs hok hw hIH
  by_cases h4:k=4
  ·exact Aw hS hG k h4 op nm tx v xs hok hw hIH
  by_cases h5:k=5
  ·exact Av hS hG k h5 op nm tx v xs hok hw hIH
  exact Au hS hG k h2 h3 h4 h5 op nm tx v xs hok hw hIH
end
end
section
open Go.RowKit
def Bc (xs:List St):Prop:= ∀(P:Nat->Prop) (w:World) (A:Option Addr) (n c:Nat),cM w P (.slice A n c) xs->Calls prog 84 #[.slice A n c] w fun e w'=>e= .returned (.int .i64 (cC xs:Int))/\au w w'
theorem rm {l:List St} {j:Nat} (h:j<l.length):cC (l.drop j)=oN l[j]+cC (l.drop (j+1)):=by
 rw[ay h,cC]
theorem xH (s:St):oN s=(if s.k=1 then 1 else 0)+(cC s.body+cC s.els):=by
 obtain⟨k,nm,ex,b,e⟩:=s;rw[oN];rfl
theorem zh (s:St):yd s=max (qr s.ex) (max (ki s.body) (ki s.els)):=by
 obtain⟨k,nm,ex,b,e⟩:=s;rw[yd];rfl
theorem ve: ∀l:List Ex,qr l<=gt l
 | []=>by rw[qr];exact az _
 |y::r=>by rw[qr,gt];have:=eL y;have:=ve r;omega
mutual
theorem zg: ∀s:St,yd s<=s.wt
 | .mk k nm x b e=>by rw[yd,St.wt];have:=ve x;have:=mC b;have:=mC e;omega
theorem mC: ∀l:List St,ki l<=dq l
 | []=>by rw[ki];exact az _
 |s::r=>by rw[ki,dq];have:=zg s;have:=mC r;omega
end
theorem nG (xs:List St) (hw:dq xs<=1073741824) (hIH: ∀s∈xs,Bc s.body/\Bc s.els):Bc xs:=by
 intro P w A n c hR;obtain⟨A',c',hv,hf⟩:=hR.form;injection hv with hv1 hv2 hv3;subst hv1 hv2 hv3;have hl:=cw xs;have HR:=G hR;have HI:=G hIH;obtain⟨N,hN⟩: ∃N,xs.length=N:=⟨_,rfl⟩
 have HN:=G hN;rw[hN]at HR hl;have hdl:=fK xs;obtain⟨Rv,hRv⟩: ∃R,cC xs=R:=⟨_,rfl⟩
 rw[hRv]at hdl;have hRb:Rv<=1073741824:=by omega
 have HQ0:=G (show 0+cC (xs.drop 0)=Rv by rw[a8];exact hRv);have HX0:=G (aH w);rw[hN,hRv];clear hR hf hIH hN hRv;go_enter func84,ntmps84;go_wp2_with fail
 go_loopw [3,4] (fun vm vi wr=> ∃(j m:Nat),vi= .int .i64 (j:Int)/\vm= .int .i64 (m:Int)/\j<=N/\Hid (m+cC (xs.drop j)=Rv)/\Hid (au w wr)) (fun _ vi _=>N-(intOf vi).toNat)
 case atStart=>exact⟨0,0,rfl,rfl,az _,HQ0,HX0⟩
 case round=>
  obtain⟨j,m,rfl,rfl,hj,HQ,HX⟩:=hrel;have hm:m<=1073741824:=by have:=HQ.out;omega
  by_cases hlt:j<N
  ·have hlt':(j:Int)<N:=by omega
   have hjl:j<xs.length:=by have:=HN.out;omega
   obtain⟨b,o,e,bv,lv,rfl,hb,hPb,h0,h1,h2,h3,h4,hRe,hRb2,hRl⟩:=HR.out.at_ j hjl;have hS:=rm hjl;have hII:=HI.out _ (ai hjl);rw[xH]at hS;generalize xs[j]=y at*;obtain⟨A2,c2,rfl,_⟩:=hRb2.form;obtain⟨A3,c3,rfl,_⟩:=hRl.form;have e0:=(HX.out.cell b _ hb).trans h0;have HE3:=G h3;have HE4:=G h4;have HC1:=G (fun(W:World) (hE:au w W)=>hII.1 P W A2 _ c2 (hRb2.keep (.of_ext hE) (Q:=P) (fun b hb _=>hb)));have HC2:=G (fun(W:World) (hE:au w W)=>hII.2 P W A3 _ c3 (hRl.keep (.of_ext hE) (Q:=P) (fun b hb _=>hb)));have hdb:cC y.body+cC y.els<=1073741824:=by have:=HQ.out;omega
   have HSm:=G hS;generalize cC y.body=d1 at*;generalize cC y.els=d2 at*;generalize y.k=yk at*;have hdb1:d1<=1073741824:=by omega
   have hdb2:d2<=1073741824:=by omega
   clear h0 h1 h2 h3 h4 hRe hRb2 hRl hII hS;obtain⟨m1,hm1⟩: ∃z,m+(if yk=1 then 1 else 0)=z:=⟨_,rfl⟩
   have HS2:=G (show m1+(d1+d2)+cC (xs.drop (j+1))=Rv by have:=HQ.out;have:=HSm.out;omega);have hm1b:m1+(d1+d2)<=1073741824:=by have:=HS2.out;omega
   by_cases hk:yk=1
   ·have hm1':m+1=m1:=by rw[<-hm1,if_pos hk]
    subst hk;subst hm1';clear hm1
    go_upto_region 7 with fail
    refine am 15 1 [(6,fun v=>v= .int .i64 (d1:Int),fun _ _=>True),(12,fun v=>v= .int .i64 (d2:Int),fun _ _=>True)] mixed (by kernel_rfl) ⟨fun _ _ _ _ _=>trivial,fun _ _ _ _ _=>trivial,trivial⟩ ?_;repeat (refine sx ?_ (fun w1 hU=> ?_) ?_;rotate_left;(focus have g3:=((HX.out.trans hU.un).cell b _ hb).trans HE3.out;have g4:=((HX.out.trans hU.un).cell b _ hb).trans HE4.out;clear hU;go_simp<;>with_reducible rfl);simp only[aU,aT,aS,aR,aQ])
    refine so (fun w6 hU hp K hK=> ?_) ?_
    ·have hc:=HC1.out w6 (HX.out.trans hU.un);clear hp hU;go_simp;refine hc.mono ?_;rintro e w7 ⟨rfl,hE⟩;exact hK _ _ hE rfl trivial
    rintro _ rfl;simp only[aU,aT,aS,aR,aQ];repeat (refine sx ?_ (fun w1 hU=> ?_) ?_;rotate_left;(focus have g3:=((HX.out.trans hU.un).cell b _ hb).trans HE3.out;have g4:=((HX.out.trans hU.un).cell b _ hb).trans HE4.out;clear hU;go_simp<;>with_reducible rfl);simp only[aU,aT,aS,aR,aQ])
    refine so (fun w6 hU hp K hK=> ?_) ?_
    ·have hc:=HC2.out w6 (HX.out.trans hU.un);clear hp hU;go_simp;refine hc.mono ?_;rintro e w7 ⟨rfl,hE⟩;exact hK _ _ hE rfl trivial
    rintro _ rfl;simp only[aU,aT,aS,aR,aQ];repeat (refine sx ?_ (fun w1 hU=> ?_) ?_;rotate_left;(focus go_simp<;>with_reducible rfl);simp only[aU,aT,aS,aR,aQ])
    intro w8 hw8 hp;clear hp;simp only[ab,ap];have HX8:=G (HX.out.trans hw8.un);clear hw8;go_wp2_with fail;go_roundw
    case rel=>exact⟨j+1,_,by go_num,by first|rfl|(congr 1;simp[IntKind.wrap,IntKind.signed,IntKind.bits];omega),by omega,HS2,HX8⟩
    case measure=>simp[intOf];omega
   ·have hm1':m=m1:=by rw[<-hm1,if_neg hk];rfl
    subst hm1';have hk':(yk==1)=false:=beq_eq_false_iff_ne.2 hk;clear hm1
    go_upto_region 7 with fail
    refine am 15 1 [(6,fun v=>v= .int .i64 (d1:Int),fun _ _=>True),(12,fun v=>v= .int .i64 (d2:Int),fun _ _=>True)] mixed (by kernel_rfl) ⟨fun _ _ _ _ _=>trivial,fun _ _ _ _ _=>trivial,trivial⟩ ?_;repeat (refine sx ?_ (fun w1 hU=> ?_) ?_;rotate_left;(focus have g3:=((HX.out.trans hU.un).cell b _ hb).trans HE3.out;have g4:=((HX.out.trans hU.un).cell b _ hb).trans HE4.out;clear hU;go_simp<;>with_reducible rfl);simp only[aU,aT,aS,aR,aQ])
    refine so (fun w6 hU hp K hK=> ?_) ?_
    ·have hc:=HC1.out w6 (HX.out.trans hU.un);clear hp hU;go_simp;refine hc.mono ?_;rintro e w7 ⟨rfl,hE⟩;exact hK _ _ hE rfl trivial
    rintro _ rfl;simp only[aU,aT,aS,aR,aQ];repeat (refine sx ?_ (fun w1 hU=> ?_) ?_;rotate_left;(focus have g3:=((HX.out.trans hU.un).cell b _ hb).trans HE3.out;have g4:=((HX.out.trans hU.un).cell b _ hb).trans HE4.out;clear hU;go_simp<;>with_reducible rfl);simp only[aU,aT,aS,aR,aQ])
    refine so (fun w6 hU hp K hK=> ?_) ?_
    ·have hc:=HC2.out w6 (HX.out.trans hU.un);clear hp hU;go_simp;refine hc.mono ?_;rintro e w7 ⟨rfl,hE⟩;exact hK _ _ hE rfl trivial
    rintro _ rfl;simp only[aU,aT,aS,aR,aQ];repeat (refine sx ?_ (fun w1 hU=> ?_) ?_;rotate_left;(focus go_simp<;>with_reducible rfl);simp only[aU,aT,aS,aR,aQ])
    intro w8 hw8 hp;clear hp;simp only[ab,ap];have HX8:=G (HX.out.trans hw8.un);clear hw8;go_wp2_with fail;go_roundw
    case rel=>exact⟨j+1,_,by go_num,by first|rfl|(congr 1;simp[IntKind.wrap,IntKind.signed,IntKind.bits];omega),by omega,HS2,HX8⟩
    case measure=>simp[intOf];omega
  ·have hlt': ¬(j:Int)<N:=by omega
   have HF:=G (show Rv=m by
    have:=HQ.out;rw[aB (by have:=HN.out;omega),cC]at this
    omega)
   go_wp2_with fail;go_ret;exact⟨by rw[HF.out];rfl,HX.out⟩
theorem mn: ∀(m:Nat) (xs:List St),dq xs<=m->dq xs<=1073741824->Bc xs
 |0,xs,h,hw=>nG xs hw (fun s hs=>by have:=bq hs;have:=s.wt_eq;omega)
 |m+1,xs,h,hw=>nG xs hw (fun s hs=>⟨mn m s.body (by have:=bq hs;have:=s.wt_eq;omega) (by have:=bq hs;have:=s.wt_eq;omega),mn m s.els (by have:=bq hs;have:=s.wt_eq;omega) (by have:=bq hs;have:=s.wt_eq;omega)⟩)
theorem pz (nm:List UInt8) (ps:List (List UInt8)) (bd:List St) (hw:dq bd<=6000000) (hp:ps.length<=6000000) (P:Nat->Prop) (w:World) (A B:Option Addr) (c d:Nat) (hR:cM w P (.slice B bd.length d) bd):
  Calls prog 45 #[.agg #[.string (ag nm), .slice A ps.length c, .slice B bd.length d]] w fun e w'=>e= .returned (.int .i64 ((ps.length+cC bd:Nat):Int))/\au w w':=by
 have hE0:=O w (.cells #[.string (ag nm), .slice A ps.length c, .slice B bd.length d] 63);have HE0:=G hE0;have HB0:=G (ax w 63 #[.string (ag nm), .slice A ps.length c, .slice B bd.length d]);have hdl:=fK bd;obtain⟨q,hq⟩: ∃q,cC bd=q:=⟨_,rfl⟩
 have HD:=G (fun W (h:au (w.alloc (.cells #[.string (ag nm), .slice A ps.length c, .slice B bd.length d] 63)) W)=>hq▸mn _ bd (an _) (by omega) P W B _ d ((hR.keep (.of_ext hE0) (Q:=P) (fun b hb _=>hb)).keep (.of_ext h) (fun b hb _=>hb)));rw[hq]at hdl⊢;generalize ps.length=n at*;generalize bd.length=m at*;clear hR hE0 hq;go_enter func45,ntmps45;go_wp2_with fail;refine am 7 1 [(5,fun v=>v= .int .i64 (q:Int),fun _ _=>True)] mixed (by kernel_rfl) ⟨fun _ _ _ _ _=>trivial,trivial⟩ ?_;repeat (refine sx ?_ (fun w1 hU=> ?_) ?_;rotate_left;(focus have f1:=(HB0.out.ext hU.un).cell;clear hU;go_simp<;>with_reducible rfl);simp only[aU,aT,aS,aR,aQ])
 refine so (fun w6 hU hp K hK=> ?_) ?_
 ·have hc:=HD.out w6 hU.un;clear hp hU;go_simp;refine hc.mono ?_;rintro e w7 ⟨rfl,hE⟩;exact hK _ _ hE rfl trivial
 rintro _ rfl;simp only[aU,aT,aS,aR,aQ];repeat (refine sx ?_ (fun w1 hU=> ?_) ?_;rotate_left;(focus go_simp<;>with_reducible rfl);simp only[aU,aT,aS,aR,aQ])
 intro w8 hw8 hp;clear hp;simp only[ab,ap];have HX8:=G (HE0.out.trans hw8.un);clear hw8;go_wp2_with fail;go_ret;refine⟨congrArg (fun z=>Ending.returned (.int .i64 z)) ?_,HX8.out⟩;simp[IntKind.wrap,IntKind.signed,IntKind.bits];omega
theorem qP (nm:List UInt8) (ps:List (List UInt8)) (bd:List St) (hw:dq bd<=6000000) (hp:ps.length<=6000000) (P:Nat->Prop) (w:World) (A B:Option Addr) (c d:Nat) (hR:cM w P (.slice B bd.length d) bd):
  Calls prog 25 #[.agg #[.string (ag nm), .slice A ps.length c, .slice B bd.length d]] w fun e w'=>e= .returned (.int .i64 (kt ⟨nm,ps,bd⟩:Int))/\au w w':=by
 have hE0:=O w (.cells #[.string (ag nm), .slice A ps.length c, .slice B bd.length d] 63);have HE0:=G hE0;have hb0:=(ax w 63 #[.string (ag nm), .slice A ps.length c, .slice B bd.length d]).cell;have hdl:=fK bd;have HL:=G (pz nm ps bd hw hp P _ A B c d (hR.keep (.of_ext hE0) (Q:=P) (fun b hb _=>hb)));have HF:=G (show kt ⟨nm,ps,bd⟩=4*(8+(ps.length+cC bd)) by show 4*(8+ps.length+cC bd)=_;omega);have hnb:ps.length+cC bd<=12000000:=by omega
 generalize ps.length+cC bd=q at*;generalize ps.length=n at*;generalize bd.length=m at*;clear hR hE0 hdl;go_enter func25,ntmps25;go_wp2_with (go_at_call 45;refine HL.out.mono ?_;rintro e w1 ⟨rfl,hE⟩;have HX:=G (HE0.out.trans hE);clear hE HL);go_ret;refine⟨congrArg (fun z=>Ending.returned (.int .i64 z)) ?_,HX.out⟩;rw[HF.out];first|rfl|(simp[IntKind.wrap,IntKind.signed,IntKind.bits];omega)|omega
def Ce (xs:List St):Prop:= ∀s∈xs,gK s.ex=true
def Ba (xs:List St):Prop:= ∀(P:Nat->Prop) (w:World) (A:Option Addr) (n c:Nat),cM w P (.slice A n c) xs->Calls prog 46 #[.slice A n c] w fun e w'=>e= .returned (.int .i64 (ki xs:Int))/\au w w'
theorem jw {s:St} (h:s.ok=true):gK s.ex=true/\iM s.body=true/\iM s.els=true:=by
 obtain⟨k,nm,ex,b,e⟩:=s;rw[St.ok,ak,ak,ak]at h;exact⟨h.1.2,h.2.1,h.2.2⟩
theorem jA {l:List St} (h:iM l=true): ∀y∈l,y.ok=true:=by rw[dX]at h;exact fun y hy=>List.all_eq_true.1 h y hy
theorem nD (xs:List St) (hw:dq xs<=1073741824) (hok:Ce xs) (hIH: ∀s∈xs,Ba s.body/\Ba s.els):Ba xs:=by
 intro P w A n c hR;obtain⟨A',c',hv,hf⟩:=hR.form;injection hv with hv1 hv2 hv3;subst hv1 hv2 hv3;have hl:=cw xs;have HR:=G hR;have HI:=G hIH;obtain⟨N,hN⟩: ∃N,xs.length=N:=⟨_,rfl⟩
 have HN:=G hN;rw[hN]at HR hl;have hdl:=mC xs;have HOK:=G hok;have HWT:=G (fun s (hs:s∈xs)=>show gt s.ex<=1073741824 by have:=bq hs;have:=s.wt_eq;omega);obtain⟨Rv,hRv⟩: ∃R,ki xs=R:=⟨_,rfl⟩
 rw[hRv]at hdl;have hRb:Rv<=1073741824:=by omega
 have HQ0:=G (show max 0 (ki (xs.drop 0))=Rv by rw[Nat.zero_max];exact hRv);have HX0:=G (aH w);rw[hN,hRv];clear hR hf hIH hN hRv hok;go_enter func46,ntmps46;go_wp2_with fail
 go_loopw [3,4] (fun vm vi wr=> ∃(j m:Nat),vi= .int .i64 (j:Int)/\vm= .int .i64 (m:Int)/\j<=N/\Hid (max m (ki (xs.drop j))=Rv)/\Hid (au w wr)) (fun _ vi _=>N-(intOf vi).toNat)
 case atStart=>exact⟨0,0,rfl,rfl,az _,HQ0,HX0⟩
 case round=>
  obtain⟨j,m,rfl,rfl,hj,HQ,HX⟩:=hrel;have hm:m<=1073741824:=by have:=HQ.out;omega
  generalize wr=wo at*;by_cases hlt:j<N
  ·have hlt':(j:Int)<N:=by omega
   have hjl:j<xs.length:=by have:=HN.out;omega
   obtain⟨b,o,e,bv,lv,rfl,hb,hPb,h0,h1,h2,h3,h4,hRe,hRb2,hRl⟩:=HR.out.at_ j hjl;have hS:=va hjl;have hII:=HI.out _ (ai hjl);have hOK:=HOK.out _ (ai hjl);have hWx:=HWT.out _ (ai hjl);rw[zh]at hS;generalize xs[j]=y at*;obtain⟨A1,c1,rfl,_⟩:=hRe.form;obtain⟨A2,c2,rfl,_⟩:=hRb2.form;obtain⟨A3,c3,rfl,_⟩:=hRl.form;have e2:=(HX.out.cell b _ hb).trans h2;have HE2:=G h2;have HE3:=G h3;have HE4:=G h4;have HC1:=G (fun(W:World) (hE:au w W)=>hII.1 P W A2 _ c2 (hRb2.keep (.of_ext hE) (Q:=P) (fun b hb _=>hb)));have HC2:=G (fun(W:World) (hE:au w W)=>hII.2 P W A3 _ c3 (hRl.keep (.of_ext hE) (Q:=P) (fun b hb _=>hb)));have HSm:=G (show max (max m (qr y.ex)) (max (max (ki y.body) (ki y.els)) (ki (xs.drop (j+1))))=Rv by have:=HQ.out;omega);generalize ki y.body=d1 at*;generalize ki y.els=d2 at*;obtain⟨ex,hex⟩: ∃ex,y.ex=ex:=⟨_,rfl⟩
   rw[hex]at hRe hOK hWx HSm e2 HE2;obtain⟨M,hM⟩: ∃m,ex.length=m:=⟨_,rfl⟩
   rw[hM]at e2 HE2 hRe;have HM:=G hM;have HRe:=G hRe;have hMb:M<=1073741824:=by have:=bF ex;omega
   have hdb1:d1<=1073741824:=by have:=HSm.out;omega
   have hdb2:d2<=1073741824:=by have:=HSm.out;omega
   have HWX:=G hWx;have HOX:=G hOK;have HQ1:=G (show max (max m (qr (ex.drop 0))) (max (max d1 d2) (ki (xs.drop (j+1))))=Rv from HSm.out);clear h0 h1 h2 h3 h4 hRe hRb2 hRl hII hS hex hM HSm HQ hWx hOK;go_wp2_with fail
   go_loopw [3,5] (fun vm vi wr=> ∃(i m:Nat),vi= .int .i64 (i:Int)/\vm= .int .i64 (m:Int)/\i<=M/\Hid (max (max m (qr (ex.drop i))) (max (max d1 d2) (ki (xs.drop (j+1))))=Rv)/\Hid (au w wr)) (fun _ vi _=>M-(intOf vi).toNat)
   case atStart=>exact⟨0,m,rfl,rfl,az _,HQ1,HX⟩
   case round=>
    clear hm;obtain⟨i,m,rfl,rfl,hi,HIQ,HX⟩:=hrel;have hm:m<=1073741824:=by have:=HIQ.out;omega
    have g2:=(HX.out.cell b _ hb).trans HE2.out;by_cases hli:i<M
    ·have hli':(i:Int)<M:=by omega
     have hil:i<ex.length:=by have:=HM.out;omega
     obtain⟨b2,o2,a2,rfl,hb2,hP2,g0,g1,g2',g3,g4,g5,hRa⟩:=HRe.out.at_ i hil;have HSI:=G (vg hil);have hyw:=bX (ai hil);have hyn:=eL ex[i];have HND:=G (kZ _ ex[i] (an _) (by have:=HWX.out;omega) (my HOX.out _ (ai hil)));generalize ex[i]=y2 at*;have q0:=(HX.out.cell b2 _ hb2).trans g0;have q1:=(HX.out.cell b2 _ hb2).trans g1;have q2:=(HX.out.cell b2 _ hb2).trans g2';have q3:=(HX.out.cell b2 _ hb2).trans g3;have q4:=(HX.out.cell b2 _ hb2).trans g4;have q5:=(HX.out.cell b2 _ hb2).trans g5;obtain⟨B,d,rfl,_⟩:=hRa.form;have HC:=G (HND.out P wr B _ d (hRa.keep (.of_ext HX.out) (Q:=P) (fun b hb _=>hb)));have hnb:ci y2<=1073741824:=by have:=HWX.out;omega
     have HQ2:=G (show max (max (max m (ci y2)) (qr (ex.drop (i+1)))) (max (max d1 d2) (ki (xs.drop (j+1))))=Rv by have:=HIQ.out;have:=HSI.out;omega);clear g0 g1 g2' g3 g4 g5 hRa hyw hyn HND HIQ HSI;generalize ci y2=ny at*;go_wp2_with (go_at_call 27;refine HC.out.mono ?_;rintro e w3 ⟨rfl,hE⟩;have HZ:=G (HX.out.trans hE);clear hE HC);go_roundw
     case rel=>exact⟨i+1,max m ny,by go_num,by congr 1;omega,by omega,HQ2,HZ⟩
     case measure=>simp[intOf];omega
    ·have hli': ¬(i:Int)<M:=by omega
     have HF:=G (show max (max m (max d1 d2)) (ki (xs.drop (j+1)))=Rv by
      have:=HIQ.out;rw[aB (l:=ex) (by have:=HM.out;omega),qr]at this
      omega)
     clear HIQ
     go_upto_region 9 with fail
     refine am 14 1 [(6,fun v=>v= .int .i64 (d1:Int),fun _ _=>True),(12,fun v=>v= .int .i64 (d2:Int),fun _ _=>True)] mixed (by kernel_rfl) ⟨fun _ _ _ _ _=>trivial,fun _ _ _ _ _=>trivial,trivial⟩ ?_;repeat (refine sx ?_ (fun w1 hU=> ?_) ?_;rotate_left;(focus have g3:=((HX.out.trans hU.un).cell b _ hb).trans HE3.out;have g4:=((HX.out.trans hU.un).cell b _ hb).trans HE4.out;clear hU;go_simp<;>with_reducible rfl);simp only[aU,aT,aS,aR,aQ])
     refine so (fun w6 hU hp K hK=> ?_) ?_
     ·have hc:=HC1.out w6 (HX.out.trans hU.un);clear hp hU;go_simp;refine hc.mono ?_;rintro e w7 ⟨rfl,hE⟩;exact hK _ _ hE rfl trivial
     rintro _ rfl;simp only[aU,aT,aS,aR,aQ];repeat (refine sx ?_ (fun w1 hU=> ?_) ?_;rotate_left;(focus have g3:=((HX.out.trans hU.un).cell b _ hb).trans HE3.out;have g4:=((HX.out.trans hU.un).cell b _ hb).trans HE4.out;clear hU;go_simp<;>with_reducible rfl);simp only[aU,aT,aS,aR,aQ])
     refine so (fun w6 hU hp K hK=> ?_) ?_
     ·have hc:=HC2.out w6 (HX.out.trans hU.un);clear hp hU;go_simp;refine hc.mono ?_;rintro e w7 ⟨rfl,hE⟩;exact hK _ _ hE rfl trivial
     rintro _ rfl;simp only[aU,aT,aS,aR,aQ];repeat (refine sx ?_ (fun w1 hU=> ?_) ?_;rotate_left;(focus go_simp<;>with_reducible rfl);simp only[aU,aT,aS,aR,aQ])
     intro w8 hw8 hp;clear hp;simp only[ab,ap];have HX8:=G (HX.out.trans hw8.un);clear hw8;go_wp2_with fail;go_roundw
     case rel=>exact⟨j+1,max m (max d1 d2),by go_num,by congr 1;omega,by omega,HF,HX8⟩
     case measure=>simp[intOf];omega
  ·have hlt': ¬(j:Int)<N:=by omega
   have HF:=G (show Rv=m by
    have:=HQ.out;rw[aB (by have:=HN.out;omega),ki]at this
    omega)
   go_wp2_with fail;go_ret;exact⟨by rw[HF.out];rfl,HX.out⟩
theorem ke: ∀(m:Nat) (xs:List St),dq xs<=m->dq xs<=1073741824->iM xs=true->Ba xs
 |0,xs,h,hw,hok=>nD xs hw (fun s hs=>(jw (jA hok s hs)).1) (fun s hs=>by have:=bq hs;have:=s.wt_eq;omega)
 |m+1,xs,h,hw,hok=>nD xs hw (fun s hs=>(jw (jA hok s hs)).1) (fun s hs=>⟨ke m s.body (by have:=bq hs;have:=s.wt_eq;omega) (by have:=bq hs;have:=s.wt_eq;omega) (jw (jA hok s hs)).2.1,ke m s.els (by have:=bq hs;have:=s.wt_eq;omega) (by have:=bq hs;have:=s.wt_eq;omega) (jw (jA hok s hs)).2.2⟩)
end
end Go.Proofs.YtddomeddabfinaaGreatDoor
