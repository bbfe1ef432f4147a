/-
  Parts of the proof: TyEy TySya TySyb.
-/
import Derived.Test.YtddomeddabfinaaGreatDoorTz00
import Derived.Test.YtddomeddabfinaaGreatDoorTz26
set_option maxRecDepth 100000
set_option maxHeartbeats 8000000
set_option linter.unusedVariables false
set_option linter.unusedSimpArgs false
set_option linter.unusedSectionVars false
namespace Go.Proofs.YtddomeddabfinaaGreatDoor
open Go.Proofs.Tryz
section
open Go.RowKit
theorem AK {op:List UInt8} {a b:Int} {s s':Ms} {v:Int} (h:fM op a b s= .ok (v,s')):s'=s:=by
 unfold fM at h;repeat' split at h
 all_goals first|(cases h;rfl)|cases h
theorem yJ {op:List UInt8} {a b:Int} {s:Ms} {o:Oc} (h:fM op a b s= .error o):o=s.fails:=by
 unfold fM at h;repeat' split at h
 all_goals first|(cases h;rfl)|cases h
theorem Ae (X:MX) (C:Cx) (n:Nat) (op nm tx:List UInt8) (v:Int) (y:Ex) (ys:List Ex) (hnm:nm.length<=1073741824) (hy:m7 X C n y):tz X C n (.mk 4 op nm tx v (y::ys)):=by
 intro σ l fb lb w A c hA hF hl hn hR;simp only[Ex.k,Ex.op,Ex.nm,Ex.tx,Ex.v,Ex.args]at hR⊢;have hn1:2*σ.step.left<=n:=by show 2*(σ.left-1)<=n;omega
 obtain⟨N,hN⟩: ∃N,(y::ys).length=N:=⟨_,rfl⟩
 rw[hN]at hR⊢;have hwr: ∀z:Int,IntKind.i32.wrap z=kI z:=fun _=>rfl;have HQ0:=G (iU hA hF hR #[.int .i64 4, .string (ai op), .string (ai nm), .string (ai tx), .int .i64 v, .slice A N c]);have HS:=G (eR HQ0.out.ma hl);have hE:=Dk (C:=C) (n:=n) (l:=l) (op:=op) (nm:=nm) (tx:=tx) (v:=v) (a:=y::ys) hl;rw[show(y::ys).getD 0 nB=y from rfl]at hE;have hrg:j0 σ.step:=fun x=>hA.rng x;have hlo:=hF.fr.rng;obtain⟨b,o,B,d,hAq,hb,hPb,hY,hRy⟩:=hR.yc 0 (by simp);subst hAq;have hN0:0<N:=by rw[<-hN];simp
 have hN0':(0:Int)<(N:Int):=by omega
 simp only[aE,a8,br]at hY hRy;obtain⟨k2,op2,nm2,tx2,v2,as2⟩:=y;have HV:=G hy;unfold m7 at HV;simp only[Ex.k,Ex.op,Ex.nm,Ex.tx,Ex.v,Ex.args]at hY hRy HV;have HY:=G hY;have HRy:=G hRy;clear hA hF hR hN hY hRy hy;simp only[MX.p]at*;go_enter func164,ntmps164;go_wp2_with (go_at_call 162;refine HS.out.mono ?_;rintro e w1 ⟨rfl,hM,hA1⟩;have HQ1:=G (HQ0.out.nx hM hA1);have f0:=HQ1.out.bk.cell;clear hM hA1 HS HQ0);have HYq:=G (HY.out.ms HQ1.out.mv hPb hb);have hbw:=aA hb HQ1.out.mv.size;have HP:=G (fun W (hE:aq w1 W)=>HV.out σ.step l fb lb W B d (HQ1.out.ma.ext hE) (HQ1.out.fi.ext hE) hn1 ((HRy.out.ms HQ1.out.mv).xt hE));clear f0 HV HY HRy;rcases jc (ev C n σ.step l (Ex.mk k2 op2 nm2 tx2 v2 as2))with⟨i,s1,hr⟩|⟨oc,hr⟩
 ·rw[hr,eh]at hE;have hi:=mG hr hrg hlo;by_cases hin:0<=i/\i<((s1.arrs nm).length:Int)
  ·rw[if_pos hin]at hE;obtain⟨kk,rfl⟩:=cD hin.1;have hkl:kk<(s1.arrs nm).length:=by omega
   have HEL:=G (show gA X s1 nm (kk:Int)= .returned (.pointer (some ⟨X.rb nm,kk,none⟩)) by unfold gA;rw[if_pos hin];rfl);obtain⟨bb,hbb⟩: ∃bb,(s1.arrs nm)[kk]=bb:=⟨_,rfl⟩
   have hcv:kI (bb.toNat:Int)=(bb.toNat:Int):=by have:=bb.toNat_lt;unfold kI;simp[IntKind.wrap,IntKind.signed,IntKind.bits];omega
   have HE:=G (show ev C (n+1) σ l (.mk 4 op nm tx v ((Ex.mk k2 op2 nm2 tx2 v2 as2)::ys))= .ok (kI (bb.toNat:Int),s1) by
    rw[hcv,hE,cV,bB,aI hkl,hbb];rfl)
   clear hcv
   have HRW:=G (fun W (h:MA X C s1 W)=>show W.cell? ⟨X.rb nm,kk,none⟩=some (.int .u8 (bb.toNat:Int))from by
    rw[(h.row nm (fun e=>by rw[e]at hkl;simp at hkl)).1.cell]
    simp[y6,kr,r9,hkl,hbb])
   clear hE hin;refine d7 X.S 14 8 [(9,fun x=>x= .int .i32 (kk:Int),fun _ W=>MA X C s1 W),(10,fun x=>x= .pointer (some ⟨X.rb nm,kk,none⟩),fun _ _=>True),(12,fun x=>x= .int .u8 (bb.toNat:Int),fun _ _=>True)] 9 mixed (by kernel_rfl) ⟨fun _ _ _ h hE=>h.ext hE,fun _ _ _ h _=>h,fun _ _ _ h _=>h,trivial⟩ ⟨.inl rfl, .inr fun _ _ _ h _=>h, .inr fun _ _ _ h _=>h,trivial⟩ ?_
   iterate 9 (refine sx ?_ (fun w1 hU=> ?_) ?_;rotate_left;(focus have f0:=(hU.un.blk HQ1.out.bk (gS HQ1.out.hp)).cell;obtain⟨e0,e1,e2,e3,e4,e5⟩:=HYq.out.ms hU.un hPb hbw;clear hU;go_simp<;>with_reducible rfl);simp only[aY,aX,aW,aV,aU])
   refine bH _ _ (by rfl) rfl ⟨_,rfl⟩ rfl (fun w6 hT hp K hK=> ?_) ?_
   ·clear hp;have hc:=HP.out w6 hT.un;rw[hr]at hc;clear hT;go_simp;refine hc.mono ?_;intro e w7 h;obtain⟨hM,rfl,hA⟩:=h.ok_;exact hK _ _ hM rfl hA
   rintro _ rfl;simp only[aY,aX,aW,aV,aU];refine so (fun w6 hU hp K hK=> ?_) ?_
   ·have hA6:=hp _ (.head _) (by kernel_rfl);have hc:=iF X C s1 w6 hA6 nm hnm (kk:Int) hi;rw[HEL.out]at hc;clear hU hp hA6;simp only[MX.p]at hc;go_simp;refine hc.mono ?_;rintro e w7 ⟨rfl,hE⟩;exact hK _ _ hE rfl trivial
   rintro _ rfl;simp only[aY,aX,aW,aV,aU]
   iterate 1 (refine sx ?_ (fun w1 hU=> ?_) ?_;rotate_left;(focus clear hU;go_simp<;>with_reducible rfl);simp only[aY,aX,aW,aV,aU])
   refine so (fun w6 hU hp K hK=> ?_) ?_
   ·have hA6:=hp _ (.tail _ (.head _)) (by kernel_rfl);have hc:=HRW.out w6 hA6;clear hU hp hA6;go_simp;exact hK _ _ (aR _) rfl trivial
   rintro _ rfl;simp only[aY,aX,aW,aV,aU]
   iterate 1 (refine sx ?_ (fun w1 hU=> ?_) ?_;rotate_left;(focus clear hU;go_simp<;>with_reducible rfl);simp only[aY,aX,aW,aV,aU])
   intro w8 hw8 hp;have HQ8:=G (HQ1.out.nx hw8 (hp _ (.tail _ (.tail _ (.head _)))));clear hw8 hp;simp only[ac,ap];go_wp2_with fail;go_ret;exact ec HQ8.out.mv HE.out HQ8.out.ma
  ·rw[if_neg hin]at hE;have HEL:=G (show gA X s1 nm i= .panicked [{v:= .iface 129 (.agg #[.int .i64 2]),recovered:=false}] by unfold gA;rw[if_neg hin];rfl);have HE:=G hE;clear hE;refine d7 X.S 14 8 [(9,fun x=>x= .int .i32 i,fun _ W=>MA X C s1 W),(10,fun x=>x= .pointer (some ⟨X.rb nm,0,none⟩),fun _ _=>False),(12,fun x=>x= .int .u8 0,fun _ _=>True)] 9 mixed (by kernel_rfl) ⟨fun _ _ _ h hE=>h.ext hE,fun _ _ _ h _=>h,fun _ _ _ h _=>h,trivial⟩ ⟨.inl rfl, .inr fun _ _ _ h _=>h, .inr fun _ _ _ h _=>h,trivial⟩ ?_
   iterate 9 (refine sx ?_ (fun w1 hU=> ?_) ?_;rotate_left;(focus have f0:=(hU.un.blk HQ1.out.bk (gS HQ1.out.hp)).cell;obtain⟨e0,e1,e2,e3,e4,e5⟩:=HYq.out.ms hU.un hPb hbw;clear hU;go_simp<;>with_reducible rfl);simp only[aY,aX,aW,aV,aU])
   refine bH _ _ (by rfl) rfl ⟨_,rfl⟩ rfl (fun w6 hT hp K hK=> ?_) ?_
   ·clear hp;have hc:=HP.out w6 hT.un;rw[hr]at hc;clear hT;go_simp;refine hc.mono ?_;intro e w7 h;obtain⟨hM,rfl,hA⟩:=h.ok_;exact hK _ _ hM rfl hA
   rintro _ rfl;simp only[aY,aX,aW,aV,aU];refine so (fun w6 hU hp K hK=> ?_) ?_
   ·have hA6:=hp _ (.head _) (by kernel_rfl);have hc:=iF X C s1 w6 hA6 nm hnm i hi;rw[HEL.out]at hc;have HMx:=G (HQ1.out.mv.trans hU.un);have HH:=G (hA6.halt 2);clear hU hp hA6;simp only[MX.p]at hc;go_simp;refine hc.mono ?_;rintro e w7 ⟨rfl,hE⟩;intro a' hd;obtain⟨v0,v1,v2,v3,v4,v5,A9,c9,hbl,hsl,hq9⟩:=HH.out;exact⟨hd,cZ (HMx.out.trans (.of_ext hE)) HE.out rfl ⟨v0,v1,v2,v3,v4,v5,A9,c9,hbl.ext hE,hsl.ext hE,hq9⟩⟩
   rintro _ rfl;simp only[aY,aX,aW,aV,aU]
   iterate 1 (refine sx ?_ (fun w1 hU=> ?_) ?_;rotate_left;(focus clear hU;go_simp<;>with_reducible rfl);simp only[aY,aX,aW,aV,aU])
   refine so (fun w6 hU hp K hK=> ?_) ?_
   ·exact(hp _ (.head _) (by kernel_rfl)).elim
   rintro _ rfl;simp only[aY,aX,aW,aV,aU]
   iterate 1 (refine sx ?_ (fun w1 hU=> ?_) ?_;rotate_left;(focus clear hU;go_simp<;>with_reducible rfl);simp only[aY,aX,aW,aV,aU])
   intro w8 hw8 hp;exact(hp _ (.tail _ (.head _))).elim
 ·rw[hr,ed]at hE;have HE:=G hE;clear hE;refine d7 X.S 14 8 [(9,fun x=>x= .int .i32 0,fun _ W=>False),(10,fun x=>x= .pointer (some ⟨X.rb nm,0,none⟩),fun _ _=>False),(12,fun x=>x= .int .u8 0,fun _ _=>True)] 9 mixed (by kernel_rfl) ⟨fun _ _ _ h hE=>h,fun _ _ _ h _=>h,fun _ _ _ h _=>h,trivial⟩ ⟨.inl rfl, .inr fun _ _ _ h _=>h, .inr fun _ _ _ h _=>h,trivial⟩ ?_
  iterate 9 (refine sx ?_ (fun w1 hU=> ?_) ?_;rotate_left;(focus have f0:=(hU.un.blk HQ1.out.bk (gS HQ1.out.hp)).cell;obtain⟨e0,e1,e2,e3,e4,e5⟩:=HYq.out.ms hU.un hPb hbw;clear hU;go_simp<;>with_reducible rfl);simp only[aY,aX,aW,aV,aU])
  refine bH _ _ (by rfl) rfl ⟨_,rfl⟩ rfl (fun w6 hT hp K hK=> ?_) ?_
  ·clear hp;have hc:=HP.out w6 hT.un;rw[hr]at hc;have HM6:=G (HQ1.out.mv.trans (.of_ext hT.un));clear hT;go_simp;refine hc.mono ?_;intro e w7 h;obtain⟨hM,rfl,hH⟩:=h.err_;intro a' hd;exact⟨hd,cZ (HM6.out.trans hM) HE.out rfl hH⟩
  rintro _ rfl;simp only[aY,aX,aW,aV,aU];refine so (fun w6 hU hp K hK=> ?_) ?_
  ·exact(hp _ (.head _) (by kernel_rfl)).elim
  rintro _ rfl;simp only[aY,aX,aW,aV,aU]
  iterate 1 (refine sx ?_ (fun w1 hU=> ?_) ?_;rotate_left;(focus clear hU;go_simp<;>with_reducible rfl);simp only[aY,aX,aW,aV,aU])
  refine so (fun w6 hU hp K hK=> ?_) ?_
  ·exact(hp _ (.head _) (by kernel_rfl)).elim
  rintro _ rfl;simp only[aY,aX,aW,aV,aU]
  iterate 1 (refine sx ?_ (fun w1 hU=> ?_) ?_;rotate_left;(focus clear hU;go_simp<;>with_reducible rfl);simp only[aY,aX,aW,aV,aU])
  intro w8 hw8 hp;exact(hp _ (.tail _ (.head _))).elim
theorem Ad (X:MX) (C:Cx) (n:Nat) (op nm tx:List UInt8) (v:Int) (xs:List Ex) (hC:uy X C n 5 op nm tx v xs):tz X C n (.mk 5 op nm tx v xs):=by
 intro σ l fb lb w A c hA hF hl hn hR;simp only[Ex.k,Ex.op,Ex.nm,Ex.tx,Ex.v,Ex.args]at hR⊢;have hn1:2*σ.step.left<=n:=by show 2*(σ.left-1)<=n;omega
 obtain⟨N,hN⟩: ∃N,(xs).length=N:=⟨_,rfl⟩
 rw[hN]at hR⊢;have hwr: ∀z:Int,IntKind.i32.wrap z=kI z:=fun _=>rfl;have HQ0:=G (iU hA hF hR #[.int .i64 5, .string (ai op), .string (ai nm), .string (ai tx), .int .i64 v, .slice A N c]);have HS:=G (eR HQ0.out.ma hl);have HE:=G (show ev C (n+1) σ l (.mk 5 op nm tx v xs)=ow C n σ.step l nm xs by rw[Dj hl];rfl);unfold uy at hC;rw[hN]at hC;have HC:=G hC;clear hA hF hR hN hC;generalize hRv:ow C n σ.step l nm xs=Rv at*;simp only[MX.p]at*;go_enter func164,ntmps164;rcases Rv with oc|⟨z,s1⟩
 ·go_wp2_with (first|(go_at_call 162;refine HS.out.mono ?_;rintro e w1 ⟨rfl,hM,hA1⟩;have HQ1:=G (HQ0.out.nx hM hA1);have f0:=HQ1.out.bk.cell;clear hM hA1 HS HQ0)|(go_at_call 187;refine(HC.out σ.step l fb lb _ A c HQ1.out.ma HQ1.out.fi hn1 HQ1.out.re).mono ?_;rw[hRv];intro e w2 h;obtain⟨hM,rfl,hH⟩:=h.err_;have HMx:=G (HQ1.out.mv.trans hM);have HH:=G hH;clear hM hH h));exact⟨rfl,cZ HMx.out HE.out rfl HH.out⟩
 ·go_wp2_with (first|(go_at_call 162;refine HS.out.mono ?_;rintro e w1 ⟨rfl,hM,hA1⟩;have HQ1:=G (HQ0.out.nx hM hA1);have f0:=HQ1.out.bk.cell;clear hM hA1 HS HQ0)|(go_at_call 187;refine(HC.out σ.step l fb lb _ A c HQ1.out.ma HQ1.out.fi hn1 HQ1.out.re).mono ?_;rw[hRv];intro e w2 h;obtain⟨hM,rfl,hA2⟩:=h.ok_;have HQ2:=G (HQ1.out.nx hM hA2);clear hM hA2 h));go_ret;exact ec HQ2.out.mv HE.out HQ2.out.ma
theorem Aa (X:MX) (C:Cx) (n:Nat) (op nm tx:List UInt8) (v:Int) (y z:Ex) (ys:List Ex) (hy:m7 X C n y) (hz:m7 X C n z):tz X C n (.mk 7 op nm tx v (y::z::ys)):=by
 intro σ l fb lb w A c hA hF hl hn hR;simp only[Ex.k,Ex.op,Ex.nm,Ex.tx,Ex.v,Ex.args]at hR⊢;have hn1:2*σ.step.left<=n:=by show 2*(σ.left-1)<=n;omega
 obtain⟨N,hN⟩: ∃N,(y::z::ys).length=N:=⟨_,rfl⟩
 rw[hN]at hR⊢;have hwr: ∀z:Int,IntKind.i32.wrap z=kI z:=fun _=>rfl;have HQ0:=G (iU hA hF hR #[.int .i64 7, .string (ai op), .string (ai nm), .string (ai tx), .int .i64 v, .slice A N c]);have HS:=G (eR HQ0.out.ma hl);have hE:=yj (C:=C) (n:=n) (l:=l) (op:=op) (nm:=nm) (tx:=tx) (v:=v) (a:=y::z::ys) hl;rw[show(y::z::ys).getD 0 nB=y from rfl,show(y::z::ys).getD 1 nB=z from rfl]at hE;have hrg:j0 σ.step:=fun x=>hA.rng x;have hlo:=hF.fr.rng
 have HRG:=G (fun(a:Int) (s1:Ms) (hr:ev C n σ.step l y= .ok (a,s1))=>show j0 s1 by
  have:=(s7 C n).1 σ.step l y hrg hlo;rw[hr]at this
  exact this.2)
 obtain⟨b1,o1,B1,d1,hAq1,hb1,hPb1,hZ,hRz⟩:=hR.yc 1 (by simp);obtain⟨b,o,B,d,hAq,hb,hPb,hY,hRy⟩:=hR.yc 0 (by simp);rw[hAq]at hAq1;injection hAq1 with hAq1;injection hAq1 with q1 q2;subst q1 q2;subst hAq;have hN0:0<N:=by rw[<-hN];simp
 have hN0':(0:Int)<(N:Int):=by omega
 have hN1:1<N:=by rw[<-hN];simp
 have hN1':(1:Int)<(N:Int):=by omega
 simp only[aE,aQ,a8,cf,br]at hY hRy hZ hRz;obtain⟨k2,op2,nm2,tx2,v2,as2⟩:=y;obtain⟨k3,op3,nm3,tx3,v3,as3⟩:=z;have HV:=G hy;have HVz:=G hz;unfold m7 at HV HVz;simp only[Ex.k,Ex.op,Ex.nm,Ex.tx,Ex.v,Ex.args]at hY hRy HV hZ hRz HVz;have HY:=G hY;have HRy:=G hRy;have HZ:=G hZ;have HRz:=G hRz;clear hA hF hR hN hY hRy hy hZ hRz hz hb1 hPb1;have HT1:True:=trivial;have HT2:True:=trivial;have HW:=G (fun c W=>mq c W);simp only[MX.p]at*;rcases jc (ev C n σ.step l (Ex.mk k2 op2 nm2 tx2 v2 as2))with⟨a,s1,hr⟩|⟨oc,hr⟩
 ·rw[hr,eh]at hE;have hai:=mG hr hrg hlo;have hn2:2*s1.left<=n:=by have:=nz hr;omega
  by_cases hA1:op=[38,38]
  ·subst hA1;have hna:jM [38,38]=true:=by decide
   have hno:m' [38,38]=false:=by decide
   by_cases ha0:a=0
   ·subst ha0;rw[if_pos ⟨hna,rfl⟩]at hE;have HE:=G hE;clear hE;go_enter func164,ntmps164;go_wp2_with (first|(go_at_call 162;refine HS.out.mono ?_;rintro e w1 ⟨rfl,hM,hA1⟩;have HQ1:=G (HQ0.out.nx hM hA1);have f0:=HQ1.out.bk.cell;obtain⟨e0,e1,e2,e3,e4,e5⟩:=HY.out.ms HQ1.out.mv hPb hb;clear hM hA1 HS HQ0)|(go_at_call 164;clear HT1;refine(HV.out σ.step l fb lb _ B d HQ1.out.ma HQ1.out.fi hn1 (HRy.out.ms HQ1.out.mv)).mono ?_;intro e w2 h;rw[hr]at h;obtain⟨hM,rfl,hA2⟩:=h.ok_;have HQ2:=G (HQ1.out.nx hM hA2);clear f0;have f0:=HQ2.out.bk.cell;clear e0 e1 e2 e3 e4 e5;obtain⟨e0,e1,e2,e3,e4,e5⟩:=HZ.out.ms HQ2.out.mv hPb hb;clear hM hA2 h));go_ret;exact ec HQ2.out.mv HE.out HQ2.out.ma
   ·have hab:(a==0)=false:=by simpa using ha0
    have hac:(a !=0)=true:=by simpa using ha0
    rw[if_neg (fun h=>ha0 h.2),if_neg (by rw[hno];simp)]at hE;rcases jc (ev C n s1 l (Ex.mk k3 op3 nm3 tx3 v3 as3))with⟨bv,s2,hs⟩|⟨oc,hs⟩
    ·rw[hs,eh]at hE;rw[if_pos (by decide)]at hE;have HE:=G hE;clear hE;go_enter func164,ntmps164;go_wp2_with (first|(go_at_call 162;refine HS.out.mono ?_;rintro e w1 ⟨rfl,hM,hA1⟩;have HQ1:=G (HQ0.out.nx hM hA1);have f0:=HQ1.out.bk.cell;obtain⟨e0,e1,e2,e3,e4,e5⟩:=HY.out.ms HQ1.out.mv hPb hb;clear hM hA1 HS HQ0)|(go_at_call 164;clear HT1;refine(HV.out σ.step l fb lb _ B d HQ1.out.ma HQ1.out.fi hn1 (HRy.out.ms HQ1.out.mv)).mono ?_;intro e w2 h;rw[hr]at h;obtain⟨hM,rfl,hA2⟩:=h.ok_;have HQ2:=G (HQ1.out.nx hM hA2);clear f0;have f0:=HQ2.out.bk.cell;clear e0 e1 e2 e3 e4 e5;obtain⟨e0,e1,e2,e3,e4,e5⟩:=HZ.out.ms HQ2.out.mv hPb hb;clear hM hA2 h)|(go_at_call 164;clear HT2;refine(HVz.out s1 l fb lb _ B1 d1 HQ2.out.ma HQ2.out.fi hn2 (HRz.out.ms HQ2.out.mv)).mono ?_;intro e w4 h;rw[hs]at h;obtain⟨hM,rfl,hA2⟩:=h.ok_;have HQ3:=G (HQ2.out.nx hM hA2);clear f0;have f0:=HQ3.out.bk.cell;clear e0 e1 e2 e3 e4 e5;clear hM hA2 h)|(go_at_call 188;refine(HW.out _ _).mono ?_;rintro e w5 ⟨rfl,hE3⟩;have HQ4:=G (HQ3.out.ext hE3);clear hE3));go_ret;exact ec HQ4.out.mv HE.out HQ4.out.ma
    ·rw[hs,ed]at hE;have HE:=G hE;clear hE;go_enter func164,ntmps164;go_wp2_with (first|(go_at_call 162;refine HS.out.mono ?_;rintro e w1 ⟨rfl,hM,hA1⟩;have HQ1:=G (HQ0.out.nx hM hA1);have f0:=HQ1.out.bk.cell;obtain⟨e0,e1,e2,e3,e4,e5⟩:=HY.out.ms HQ1.out.mv hPb hb;clear hM hA1 HS HQ0)|(go_at_call 164;clear HT1;refine(HV.out σ.step l fb lb _ B d HQ1.out.ma HQ1.out.fi hn1 (HRy.out.ms HQ1.out.mv)).mono ?_;intro e w2 h;rw[hr]at h;obtain⟨hM,rfl,hA2⟩:=h.ok_;have HQ2:=G (HQ1.out.nx hM hA2);clear f0;have f0:=HQ2.out.bk.cell;clear e0 e1 e2 e3 e4 e5;obtain⟨e0,e1,e2,e3,e4,e5⟩:=HZ.out.ms HQ2.out.mv hPb hb;clear hM hA2 h)|(go_at_call 164;clear HT2;refine(HVz.out s1 l fb lb _ B1 d1 HQ2.out.ma HQ2.out.fi hn2 (HRz.out.ms HQ2.out.mv)).mono ?_;intro e w4 h;rw[hs]at h;obtain⟨hM,rfl,hH⟩:=h.err_;have HMx:=G (HQ2.out.mv.trans hM);have HH:=G hH;clear hM hH h));exact⟨rfl,cZ HMx.out HE.out rfl HH.out⟩
  by_cases hO1:op=[124,124]
  ·subst hO1;have hna:jM [124,124]=false:=by decide
   have hno:m' [124,124]=true:=by decide
   by_cases ha0:a=0
   ·subst ha0;rw[if_neg (by rw[hna];simp),if_neg (fun h=>h.2 rfl)]at hE;rcases jc (ev C n s1 l (Ex.mk k3 op3 nm3 tx3 v3 as3))with⟨bv,s2,hs⟩|⟨oc,hs⟩
    ·rw[hs,eh]at hE;rw[if_pos (by decide)]at hE;have HE:=G hE;clear hE;go_enter func164,ntmps164;go_wp2_with (first|(go_at_call 162;refine HS.out.mono ?_;rintro e w1 ⟨rfl,hM,hA1⟩;have HQ1:=G (HQ0.out.nx hM hA1);have f0:=HQ1.out.bk.cell;obtain⟨e0,e1,e2,e3,e4,e5⟩:=HY.out.ms HQ1.out.mv hPb hb;clear hM hA1 HS HQ0)|(go_at_call 164;clear HT1;refine(HV.out σ.step l fb lb _ B d HQ1.out.ma HQ1.out.fi hn1 (HRy.out.ms HQ1.out.mv)).mono ?_;intro e w2 h;rw[hr]at h;obtain⟨hM,rfl,hA2⟩:=h.ok_;have HQ2:=G (HQ1.out.nx hM hA2);clear f0;have f0:=HQ2.out.bk.cell;clear e0 e1 e2 e3 e4 e5;obtain⟨e0,e1,e2,e3,e4,e5⟩:=HZ.out.ms HQ2.out.mv hPb hb;clear hM hA2 h)|(go_at_call 164;clear HT2;refine(HVz.out s1 l fb lb _ B1 d1 HQ2.out.ma HQ2.out.fi hn2 (HRz.out.ms HQ2.out.mv)).mono ?_;intro e w4 h;rw[hs]at h;obtain⟨hM,rfl,hA2⟩:=h.ok_;have HQ3:=G (HQ2.out.nx hM hA2);clear f0;have f0:=HQ3.out.bk.cell;clear e0 e1 e2 e3 e4 e5;clear hM hA2 h)|(go_at_call 188;refine(HW.out _ _).mono ?_;rintro e w5 ⟨rfl,hE3⟩;have HQ4:=G (HQ3.out.ext hE3);clear hE3));go_ret;exact ec HQ4.out.mv HE.out HQ4.out.ma
    ·rw[hs,ed]at hE;have HE:=G hE;clear hE;go_enter func164,ntmps164;go_wp2_with (first|(go_at_call 162;refine HS.out.mono ?_;rintro e w1 ⟨rfl,hM,hA1⟩;have HQ1:=G (HQ0.out.nx hM hA1);have f0:=HQ1.out.bk.cell;obtain⟨e0,e1,e2,e3,e4,e5⟩:=HY.out.ms HQ1.out.mv hPb hb;clear hM hA1 HS HQ0)|(go_at_call 164;clear HT1;refine(HV.out σ.step l fb lb _ B d HQ1.out.ma HQ1.out.fi hn1 (HRy.out.ms HQ1.out.mv)).mono ?_;intro e w2 h;rw[hr]at h;obtain⟨hM,rfl,hA2⟩:=h.ok_;have HQ2:=G (HQ1.out.nx hM hA2);clear f0;have f0:=HQ2.out.bk.cell;clear e0 e1 e2 e3 e4 e5;obtain⟨e0,e1,e2,e3,e4,e5⟩:=HZ.out.ms HQ2.out.mv hPb hb;clear hM hA2 h)|(go_at_call 164;clear HT2;refine(HVz.out s1 l fb lb _ B1 d1 HQ2.out.ma HQ2.out.fi hn2 (HRz.out.ms HQ2.out.mv)).mono ?_;intro e w4 h;rw[hs]at h;obtain⟨hM,rfl,hH⟩:=h.err_;have HMx:=G (HQ2.out.mv.trans hM);have HH:=G hH;clear hM hH h));exact⟨rfl,cZ HMx.out HE.out rfl HH.out⟩
   ·have hab:(a==0)=false:=by simpa using ha0
    have hac:(a !=0)=true:=by simpa using ha0
    rw[if_neg (by rw[hna];simp),if_pos ⟨hno,ha0⟩]at hE;have HE:=G hE;clear hE;go_enter func164,ntmps164;go_wp2_with (first|(go_at_call 162;refine HS.out.mono ?_;rintro e w1 ⟨rfl,hM,hA1⟩;have HQ1:=G (HQ0.out.nx hM hA1);have f0:=HQ1.out.bk.cell;obtain⟨e0,e1,e2,e3,e4,e5⟩:=HY.out.ms HQ1.out.mv hPb hb;clear hM hA1 HS HQ0)|(go_at_call 164;clear HT1;refine(HV.out σ.step l fb lb _ B d HQ1.out.ma HQ1.out.fi hn1 (HRy.out.ms HQ1.out.mv)).mono ?_;intro e w2 h;rw[hr]at h;obtain⟨hM,rfl,hA2⟩:=h.ok_;have HQ2:=G (HQ1.out.nx hM hA2);clear f0;have f0:=HQ2.out.bk.cell;clear e0 e1 e2 e3 e4 e5;obtain⟨e0,e1,e2,e3,e4,e5⟩:=HZ.out.ms HQ2.out.mv hPb hb;clear hM hA2 h));go_ret;exact ec HQ2.out.mv HE.out HQ2.out.ma
  have q1:=beq_eq_false_iff_ne.2 hA1;have q2:=beq_eq_false_iff_ne.2 hO1;have hna:jM op=false:=q1;have hno:m' op=false:=q2;rw[if_neg (by rw[hna];simp),if_neg (by rw[hno];simp)]at hE;rcases jc (ev C n s1 l (Ex.mk k3 op3 nm3 tx3 v3 as3))with⟨bv,s2,hs⟩|⟨oc,hs⟩
  ·rw[hs,eh]at hE;rw[if_neg (by rw[hna,hno];decide)]at hE;have hbi:=mG hs (HRG.out a s1 hr) hlo
   cases hbn:fM op a bv s2 with
   |ok p=>
    obtain⟨r,s3⟩:=p;have hq:=AK hbn;rw[hq]at hbn;rw[hbn]at hE;have HE:=G hE;clear hE;go_enter func164,ntmps164;go_wp2_with (first|(go_at_call 162;refine HS.out.mono ?_;rintro e w1 ⟨rfl,hM,hA1⟩;have HQ1:=G (HQ0.out.nx hM hA1);have f0:=HQ1.out.bk.cell;obtain⟨e0,e1,e2,e3,e4,e5⟩:=HY.out.ms HQ1.out.mv hPb hb;clear hM hA1 HS HQ0)|(go_at_call 164;clear HT1;refine(HV.out σ.step l fb lb _ B d HQ1.out.ma HQ1.out.fi hn1 (HRy.out.ms HQ1.out.mv)).mono ?_;intro e w2 h;rw[hr]at h;obtain⟨hM,rfl,hA2⟩:=h.ok_;have HQ2:=G (HQ1.out.nx hM hA2);clear f0;have f0:=HQ2.out.bk.cell;clear e0 e1 e2 e3 e4 e5;obtain⟨e0,e1,e2,e3,e4,e5⟩:=HZ.out.ms HQ2.out.mv hPb hb;clear hM hA2 h)|(go_at_call 164;clear HT2;refine(HVz.out s1 l fb lb _ B1 d1 HQ2.out.ma HQ2.out.fi hn2 (HRz.out.ms HQ2.out.mv)).mono ?_;intro e w4 h;rw[hs]at h;obtain⟨hM,rfl,hA2⟩:=h.ok_;have HQ3:=G (HQ2.out.nx hM hA2);clear f0;have f0:=HQ3.out.bk.cell;clear e0 e1 e2 e3 e4 e5;clear hM hA2 h)|(go_at_call 189;refine(oB op a bv hai hbi s2 _).mono ?_;rw[hbn];unfold ti;rintro e w5 ⟨rfl,hE3⟩;have HQ4:=G (HQ3.out.ext hE3);clear hE3));go_ret;exact ec HQ4.out.mv HE.out HQ4.out.ma
   |error oc=>
    have hq:=yJ hbn;rw[hq]at hbn;rw[hbn]at hE;have HE:=G hE;clear hE;go_enter func164,ntmps164;go_wp2_with (first|(go_at_call 162;refine HS.out.mono ?_;rintro e w1 ⟨rfl,hM,hA1⟩;have HQ1:=G (HQ0.out.nx hM hA1);have f0:=HQ1.out.bk.cell;obtain⟨e0,e1,e2,e3,e4,e5⟩:=HY.out.ms HQ1.out.mv hPb hb;clear hM hA1 HS HQ0)|(go_at_call 164;clear HT1;refine(HV.out σ.step l fb lb _ B d HQ1.out.ma HQ1.out.fi hn1 (HRy.out.ms HQ1.out.mv)).mono ?_;intro e w2 h;rw[hr]at h;obtain⟨hM,rfl,hA2⟩:=h.ok_;have HQ2:=G (HQ1.out.nx hM hA2);clear f0;have f0:=HQ2.out.bk.cell;clear e0 e1 e2 e3 e4 e5;obtain⟨e0,e1,e2,e3,e4,e5⟩:=HZ.out.ms HQ2.out.mv hPb hb;clear hM hA2 h)|(go_at_call 164;clear HT2;refine(HVz.out s1 l fb lb _ B1 d1 HQ2.out.ma HQ2.out.fi hn2 (HRz.out.ms HQ2.out.mv)).mono ?_;intro e w4 h;rw[hs]at h;obtain⟨hM,rfl,hA2⟩:=h.ok_;have HQ3:=G (HQ2.out.nx hM hA2);clear f0;have f0:=HQ3.out.bk.cell;clear e0 e1 e2 e3 e4 e5;clear hM hA2 h)|(go_at_call 189;refine(oB op a bv hai hbi s2 _).mono ?_;rw[hbn];unfold ti iy;rintro e w5 ⟨rfl,hE3⟩;have HQ4:=G (HQ3.out.ext hE3);have HH:=G (HQ4.out.ma.halt 2);clear hE3));exact⟨rfl,cZ HQ4.out.mv HE.out rfl HH.out⟩
  ·rw[hs,ed]at hE;have HE:=G hE;clear hE;go_enter func164,ntmps164;go_wp2_with (first|(go_at_call 162;refine HS.out.mono ?_;rintro e w1 ⟨rfl,hM,hA1⟩;have HQ1:=G (HQ0.out.nx hM hA1);have f0:=HQ1.out.bk.cell;obtain⟨e0,e1,e2,e3,e4,e5⟩:=HY.out.ms HQ1.out.mv hPb hb;clear hM hA1 HS HQ0)|(go_at_call 164;clear HT1;refine(HV.out σ.step l fb lb _ B d HQ1.out.ma HQ1.out.fi hn1 (HRy.out.ms HQ1.out.mv)).mono ?_;intro e w2 h;rw[hr]at h;obtain⟨hM,rfl,hA2⟩:=h.ok_;have HQ2:=G (HQ1.out.nx hM hA2);clear f0;have f0:=HQ2.out.bk.cell;clear e0 e1 e2 e3 e4 e5;obtain⟨e0,e1,e2,e3,e4,e5⟩:=HZ.out.ms HQ2.out.mv hPb hb;clear hM hA2 h)|(go_at_call 164;clear HT2;refine(HVz.out s1 l fb lb _ B1 d1 HQ2.out.ma HQ2.out.fi hn2 (HRz.out.ms HQ2.out.mv)).mono ?_;intro e w4 h;rw[hs]at h;obtain⟨hM,rfl,hH⟩:=h.err_;have HMx:=G (HQ2.out.mv.trans hM);have HH:=G hH;clear hM hH h));exact⟨rfl,cZ HMx.out HE.out rfl HH.out⟩
 ·rw[hr,ed]at hE;have HE:=G hE;clear hE;go_enter func164,ntmps164;go_wp2_with (first|(go_at_call 162;refine HS.out.mono ?_;rintro e w1 ⟨rfl,hM,hA1⟩;have HQ1:=G (HQ0.out.nx hM hA1);have f0:=HQ1.out.bk.cell;obtain⟨e0,e1,e2,e3,e4,e5⟩:=HY.out.ms HQ1.out.mv hPb hb;clear hM hA1 HS HQ0)|(go_at_call 164;clear HT1;refine(HV.out σ.step l fb lb _ B d HQ1.out.ma HQ1.out.fi hn1 (HRy.out.ms HQ1.out.mv)).mono ?_;intro e w2 h;rw[hr]at h;obtain⟨hM,rfl,hH⟩:=h.err_;have HMx:=G (HQ1.out.mv.trans hM);have HH:=G hH;clear hM hH h));exact⟨rfl,cZ HMx.out HE.out rfl HH.out⟩
end
section
open Go.RowKit
theorem r7 {P:Program} {w:World} {o:Oper} {a:Act} {K:Act->World->Prop} {Q:Exit->Act->World->Prop} {t e:TypeId} (hT:oK P t e) (s x:Operand)
  (ho:o.op= .call {callee:= .builtin .append,args:= #[s,x],argTypes:= #[t,t]}) (hv:a.eval s= .slice none 0 0)
  (A:Option Addr) (cap:Nat) (m:List UInt8) {n:Nat} (hn:m.length=n) (hx:a.eval x= .slice A n cap) (hs:Sl w A cap m) (hb:n<=70368744177664)
  (h: ∀A' cap' w',Sl w' A' cap' m->aq w w'->(∀b o,A'=some ⟨b,o,none⟩->w.heap.size<=b)->K (a.put o.dst (.slice A' n cap')) w'):o.wp P a w K Q:=by
 subst hn;obtain⟨A',cap',w',hr,h1,h2,h3⟩:=mQ (P:=P) hT o.type w.heap.size (.slice none 0 0) [] (oH.nil_ w _ e) A cap m hs (by simpa using hb) (ah _);simp only[ag,aD,jB]at hr h1 h3;have hE:aq w w':=⟨h2.os,h2.tape,h2.output,h2.size,fun k hk=>h2.block k hk (by simp[Value.ownBlock])⟩
 unfold Oper.wp execOp;simp only[ho,resolve,invoke,builtin,Sem.run_bind,Sem.run_pure,Result.andThen_ok,dM,bY,d5,hv,hx,hr];refine h A' cap' w' h1.sl.2 hE fun b o hA=> ?_;subst hA;rcases h3 with h3|h3
 ·simp[Value.ownBlock]at h3
 ·simp only[Value.ownBlock]at h3;have:b=w.heap.size:=by simpa using h3
  omega
def EK (g used:Nat) (w:World):Prop:= ∃v0 v1 v2 v3 v4 v5 c0 c1 c2 c3 c4,aL w g 127 #[v0,v1,v2,v3,v4,v5, .int .i64 0,c0,c1,c2,c3,c4, .int .i64 (used:Int)]
def UG (g used:Nat) (a c:World):Prop:=a.grownBy c (some g)/\(EK g used a->EK g used c)
theorem UG.refl (g used:Nat) (w:World):UG g used w w:=⟨World.grownBy.refl _ _,id⟩
theorem UG.trans {g used:Nat} {a b c:World} (h:UG g used a b) (k:UG g used b c):UG g used a c:=⟨am h.1 k.1,fun x=>k.2 (h.2 x)⟩
theorem UG.of_ext {g used:Nat} {a c:World} (h:aq a c):UG g used a c:=⟨h.grownBy _,fun⟨v0,v1,v2,v3,v4,v5,c0,c1,c2,c3,c4,q⟩=>⟨v0,v1,v2,v3,v4,v5,c0,c1,c2,c3,c4,q.ext h⟩⟩
structure Cs (X:MX) (C:Cx) (σ:Ms) (w:World) (cs rs:Array Value) (W:World):Prop where
 e:aq w W
 ma:MA X C σ W
 b6:aL W w.heap.size 39 cs
 b8:aL W (w.heap.size+1) 80 rs
theorem Cs.new {X:MX} {C:Cx} {σ:Ms} {w:World} (hA:MA X C σ w) (cs rs:Array Value):Cs X C σ w cs rs ((w.alloc (.cells cs 39)).alloc (.cells rs 80)):=by
 have e1:=O w (.cells cs 39);have e2:=O (w.alloc (.cells cs 39)) (.cells rs 80);have b:=an (w.alloc (.cells cs 39)) 80 rs;rw[World.size_alloc]at b;exact⟨e1.trans e2,hA.ext (e1.trans e2),(an w _ _).ext e2,b⟩
theorem Cs.ext {X:MX} {C:Cx} {σ:Ms} {w W W':World} {cs rs:Array Value} (h:Cs X C σ w cs rs W) (hE:aq W W'):Cs X C σ w cs rs W':=⟨h.e.trans hE,h.ma.ext hE,h.b6.ext hE,h.b8.ext hE⟩
theorem zm {X:MX} {C:Cx} {w w':World} {r:ER (Int×List UInt8)} {o:Oc} {k:Int} (hM:w.grownBy w' (some X.g)) (h:r= .error o) (hk:o.kind=k) (hH:gC X o w'):AS X C w r (.panicked [{v:= .iface 129 (.agg #[.int .i64 k]),recovered:=false}]) w':=by
 subst h;subst hk;exact⟨hM,rfl,hH⟩
theorem vK {a b c:World} {g:Nat} (h:aq a b) (k:b.grownBy c (some g)):a.grownBy c (some g):=am (h.grownBy _) k
theorem x9 {X:MX} {w:World} {call a0 a1 a2:Int} {d:List UInt8} {used n c:Nat} {A:Option Addr} {v0 v1 v2 v3 v4 v5:Value} (hn:d.length=n) (hb:aL w X.g 127 #[v0,v1,v2,v3,v4,v5, .int .i64 0, .int .i64 call, .int .i64 a0, .int .i64 a1, .int .i64 a2, .slice A n c, .int .i64 (used:Int)]) (hs:Sl w A c d) (hq: ∀b i,A=some ⟨b,i,none⟩->X.hi<=b):gC X ⟨1,call,a0,a1,a2,d,used⟩ w:=by
 subst hn;exact⟨_,_,_,_,_,_,_,_,hb,hs,fun b i e _=>hq b i e⟩
theorem xG (X:MX) (C:Cx) (σ:Ms) (w:World) (hA:MA X C σ w) (call a0 a1 a2:Int) (d:List UInt8) (A:Option Addr) (c:Nat) (hd:Sl w A c d) (hdl:d.length<=1073741824) (hdg: ∀b o,A=some ⟨b,o,none⟩->d≠ []->b≠X.g) (hu:σ.used=C.R.length):
  Calls prog 49 #[X.p, .int .i64 call, .agg #[.int .i64 a0, .int .i64 a1, .int .i64 a2], .slice A d.length c] w (AS X C w (fW C.R σ call a0 a1 a2 d)):=by
 have HE:=G (show fW C.R σ call a0 a1 a2 d= .error ⟨1,call,a0,a1,a2,d,σ.used⟩ by unfold fW;rw[hu,jR (ah _)]);have hgw:X.g<w.heap.size:=aA hA.ok.g.2 hA.top;have HGH:=G (ax hA.ok.g.2 hA.top);have HQ0:=G (Cs.new hA #[.int .i64 a0, .int .i64 a1, .int .i64 a2] #[.int .i64 0, .slice none 0 0]);obtain⟨lf,_,_,_,hmb⟩:=HQ0.out.ma.mcl;obtain⟨RA,rc,hrv,_⟩:=hA.r;simp only[dJ,hrv]at hmb;have HMB:=G hmb;have HD:=G (hd.ext HQ0.out.e);have HDG:=G hdg;obtain⟨n,hdn⟩: ∃n,d.length=n:=⟨_,rfl⟩
 have HDN:=G hdn;rw[hdn];obtain⟨NR,hNR⟩: ∃n,C.R.length=n:=⟨_,rfl⟩
 rw[hNR]at HMB hu;have hnn:((σ.used:Int)==(NR:Int))=true:=by rw[hu];simp
 clear hA hmb hd hrv hdg hNR hdn;simp only[MX.p]at*;generalize fW C.R σ call a0 a1 a2 d=Rv at*;go_enter func49,ntmps49;go_wp2_with fail;refine az 11 1 [] mixed (by kernel_rfl) trivial ?_;repeat (refine sx ?_ (fun w1 hU=> ?_) ?_;rotate_left;(focus have fk:=(HMB.out.ext hU.un).cell;clear hU;go_simp<;>with_reducible rfl);simp only[aY,aX,aW,aV,aU])
 intro w7 hw7 _;simp only[ac,aM];have HQ1:=G (HQ0.out.ext hw7.un);have HMB1:=G (HMB.out.ext hw7.un);have HD1:=G (HD.out.ext hw7.un);have hsz1:=aA hgw HQ1.out.e.size;clear hw7 HQ0 HMB HD;go_wp2_with fail;have HNE:=G (show some w.heap.size≠some X.g from fun e=>by injection e with e;omega);refine b7 (UG X.g σ.used) (UG.refl _ _) (fun _ _ _=>UG.trans) 7 6 [(6,fun v=> ∃A' c',v= .slice A' n c',fun v W=> ∃A' c',v= .slice A' n c'/\Sl W A' c' d/\ ∀b o,A'=some ⟨b,o,none⟩->X.hi<=b)] [1,2,4] mixed (by kernel_rfl) (by kernel_rfl) (by kernel_rfl) (by rfl)
  ⟨fun v W W' ⟨A',c',e,hs,hb⟩ hU=>⟨A',c',e,hs.keepP (P:=fun b=>X.hi<=b) (.of_grown hU.1 (fun b hb e=>by injection e with e;have:=HGH.out;omega)) (fun b o ha _=>hb b o ha),hb⟩,trivial⟩ ?_
 repeat (first|(refine bL (by rfl) ?_;simp only[aY,aX,aW,aV,aU])|(refine sx ?_ (fun w1 hU=> ?_) ?_;rotate_left;(focus have f6:=(HQ1.out.b6.grown (aB hU.1) HNE.out).cell;clear hU;go_simp<;>with_reducible rfl);simp only[aY,aX,aW,aV,aU]))
 refine bJ _ _ (by rfl) rfl ⟨_,none,0,rfl⟩ (by simp) (fun w6 hU hp K hK=> ?_) ?_
 ·clear hp;have hz:=hU.1.size;refine r7 bt _ _ rfl rfl A c d HDN.out rfl (HD1.out.keepP (P:=fun b=>b≠X.g) (.of_grown (aB hU.1) (fun b hb e=>hb (by injection e))) HDG.out) (by have:=HDN.out;omega) fun A' c' w9 hs hE hb=> ?_;exact hK _ _ (UG.of_ext hE) ⟨A',c',rfl⟩ ⟨A',c',rfl,hs,fun b o ha=>by have h1:=hb b o ha;have h2:w7.drew.heap.size=w7.heap.size:=rfl;have h3:=HGH.out.2;have h4:=HQ1.out.e.size;omega⟩
 rintro _ ⟨A',c',rfl⟩;simp only[aY,aX,aW,aV,aU];intro w8 hw8 hp;obtain⟨A2,c2,e2,hs2,hb2⟩:=hp _ (.head _);injection e2 with e2 _ e3;subst e2 e3;clear hp;obtain⟨v0,v1,v2,v3,v4,v5,q0,q1,q2,q3,q4,hb8⟩:=hw8.2 ⟨_,_,_,_,_,_,_,_,_,_,_,HMB1.out.drew⟩;have hb9:aL (w8.setCell ⟨X.g,7,none⟩ (.int .i64 call)) X.g 127 #[v0,v1,v2,v3,v4,v5, .int .i64 0, .int .i64 call,q1,q2,q3,q4, .int .i64 (σ.used:Int)]:=by simpa using hb8.set 7 (.int .i64 call)
 have hb10:aL (((((w8.setCell ⟨X.g,7,none⟩ (.int .i64 call)).setCell ⟨X.g,8,none⟩ (.int .i64 a0)).setCell ⟨X.g,9,none⟩ (.int .i64 a1)).setCell ⟨X.g,10,none⟩ (.int .i64 a2))) X.g 127 #[v0,v1,v2,v3,v4,v5, .int .i64 0, .int .i64 call, .int .i64 a0, .int .i64 a1, .int .i64 a2,q4, .int .i64 (σ.used:Int)]:=by simpa using((hb9.set 8 (.int .i64 a0)).set 9 (.int .i64 a1)).set 10 (.int .i64 a2)
 have hb11:aL ((((((w8.setCell ⟨X.g,7,none⟩ (.int .i64 call)).setCell ⟨X.g,8,none⟩ (.int .i64 a0)).setCell ⟨X.g,9,none⟩ (.int .i64 a1)).setCell ⟨X.g,10,none⟩ (.int .i64 a2))).setCell ⟨X.g,11,none⟩ (.slice A' n c')) X.g 127 #[v0,v1,v2,v3,v4,v5, .int .i64 0, .int .i64 call, .int .i64 a0, .int .i64 a1, .int .i64 a2, .slice A' n c', .int .i64 (σ.used:Int)]:=by simpa using hb10.set 11 (.slice A' n c')
 have HU8:=G hw8;have HU9:=G (UG.trans hw8 ⟨cd w8 X.g 7 (.int .i64 call),fun _=>⟨_,_,_,_,_,_,_,_,_,_,_,hb9⟩⟩);have HU10:=G (UG.trans HU9.out ⟨am (am (cd _ X.g 8 (.int .i64 a0)) (cd _ X.g 9 (.int .i64 a1))) (cd _ X.g 10 (.int .i64 a2)),fun _=>⟨_,_,_,_,_,_,_,_,_,_,_,hb10⟩⟩);have HU11:=G (UG.trans HU10.out ⟨cd _ X.g 11 (.slice A' n c'),fun _=>⟨_,_,_,_,_,_,_,_,_,_,_,hb11⟩⟩);have g8:=hb8.cell;have z8:=hb8.frozen;have g9:=hb9.cell;have z9:=hb9.frozen;have g10:=hb10.cell;have z10:=hb10.frozen;have HB11:=G hb11;have HQB:=G hb2;have HS11:=G (hs2.keepP (P:=fun b=>X.hi<=b) (cC.of_grown (am (am (am (am (cd w8 X.g 7 (.int .i64 call)) (cd _ X.g 8 (.int .i64 a0))) (cd _ X.g 9 (.int .i64 a1))) (cd _ X.g 10 (.int .i64 a2))) (cd _ X.g 11 (.slice A' n c'))) (fun b hb e=>by injection e with e;have:=HGH.out;omega)) (fun b o ha _=>hb2 b o ha));clear hw8 hb8 hb9 hb10 hb11 hs2 hb2 HMB1;simp only[ac,ap]
 iterate 3 (refine aK (by rfl) (by simp) (fun K hK=> ?_);go_simp;refine hK _ _ HU8.out ?_;clear hK)
 refine aK (by rfl) (by simp) (fun K hK=> ?_);go_simp;refine hK _ _ HU9.out ?_;clear hK
 iterate 3 (refine aK (by rfl) (by simp) (fun K hK=> ?_);go_simp;refine hK _ _ HU9.out ?_;clear hK)
 refine aK (by rfl) (by simp) (fun K hK=> ?_);go_simp;refine hK _ _ HU10.out ?_;clear hK
 iterate 3 (refine aK (by rfl) (by simp) (fun K hK=> ?_);go_simp;refine hK _ _ HU10.out ?_;clear hK)
 refine aK (by rfl) (by simp) (fun K hK=> ?_);go_simp;refine hK _ _ HU11.out ?_;clear hK;refine cg ?_;have HFin:=G (x9 HDN.out HB11.out HS11.out HQB.out);have HGr:=G (vK HQ1.out.e (aB HU11.out.1));clear g8 z8 g9 z9 g10 z10 HU8 HU9 HU10 HU11 HB11 HS11 HQ1 HD1;generalize ((((((w8.setCell ⟨X.g,7,none⟩ (.int .i64 call)).setCell ⟨X.g,8,none⟩ (.int .i64 a0)).setCell ⟨X.g,9,none⟩ (.int .i64 a1)).setCell ⟨X.g,10,none⟩ (.int .i64 a2))).setCell ⟨X.g,11,none⟩ (.slice A' n c'))=we at*;go_wp2_with fail;exact⟨rfl,zm HGr.out HE.out rfl HFin.out⟩
end
section
open Go.RowKit
theorem Bz {X:MX} {C:Cx} {w w':World} {r:ER (Int×List UInt8)} {v:Int} {l:List UInt8} {σ:Ms} {da:Option Addr} {n dc:Nat} (h:r= .ok ((v,l),σ)) (hn:l.length=n) (hM:w.grownBy w' (some X.g)) (hA:MA X C σ w') (hs:Sl w' da dc l) (hP: ∀b o,da=some ⟨b,o,none⟩->l≠ []->X.P b):AS X C w r (.returned (.agg #[.int .i64 v, .slice da n dc])) w':=by
 subst h;subst hn;exact⟨hM,hA,da,dc,rfl,hs,hP⟩
def EX (n0:Nat) (v:Value) (w:World):Prop:= ∃gb,v= .pointer (some ⟨gb,0,none⟩)/\n0<=gb/\aL w gb 80 #[.int .i64 0, .slice none 0 0]
theorem zV (X:MX) (C:Cx) (σ:Ms) (w:World) (hA:MA X C σ w) (call a0 a1 a2:Int) (d:List UInt8) (A:Option Addr) (n c:Nat) (hu:σ.used<C.R.length):
  Calls prog 49 #[X.p, .int .i64 call, .agg #[.int .i64 a0, .int .i64 a1, .int .i64 a2], .slice A n c] w (AS X C w (fW C.R σ call a0 a1 a2 d)):=by
 have hgw:X.g<w.heap.size:=aA hA.ok.g.2 hA.top;have HQ0:=G (Cs.new hA #[.int .i64 a0, .int .i64 a1, .int .i64 a2] #[.int .i64 0, .slice none 0 0]);obtain⟨lf,l1,l2,l3,hmb⟩:=HQ0.out.ma.mcl;have HLF:=G (ax l1 (ax l2 l3));obtain⟨RA,rc,hrv,hrr⟩:=hA.r;simp only[dJ,hrv]at hmb;have HMB:=G hmb;have HRV:=G hrv;have HU:=G hu;obtain⟨hrc,hrm,b,o,rfl,hPb,hb,da,dc,hq⟩:=hrr.resolve_left (fun e=>by rw[e]at hu;simp at hu);obtain⟨rv1,rv2,hEE,z0,z1,z2,z3⟩: ∃(r1:Int) (r2:List UInt8),fW C.R σ call a0 a1 a2 d= .ok ((r1,r2),{σ with used:=σ.used+1})/\w.cell? ⟨b,o+σ.used*2,none⟩=some (.int .i64 r1)/\w.cell? ⟨b,o+σ.used*2+1,none⟩=some (.slice (da σ.used) r2.length (dc σ.used))/\Sl w (da σ.used) (dc σ.used) r2/\(∀b2 o2,da σ.used=some ⟨b2,o2,none⟩->r2≠ []->X.P b2):=by
  obtain⟨z0,z1,z2,z3⟩:=hq σ.used hu;exact⟨_,_,(by unfold fW;rw[aI hu]),z0,z1,z2,z3⟩
 have HE:=G hEE;have HZ2:=G z2;have HZ3:=G z3;obtain⟨NR,hNR⟩: ∃n,C.R.length=n:=⟨_,rfl⟩
 have HNR:=G hNR;rw[hNR]at HMB hu hrc;have hnn:((σ.used:Int)==(NR:Int))=false:=by simp;omega
 have hui:(σ.used:Int)<(NR:Int):=by omega
 have hw1:IntKind.i64.wrap ((σ.used:Int)+1)=(σ.used:Int)+1:=by unfold maxLen at hrm;simp[IntKind.wrap,IntKind.signed,IntKind.bits];omega
 obtain⟨nd,hnd⟩: ∃n,rv2.length=n:=⟨_,rfl⟩
 rw[hnd]at z1;have HND:=G hnd;generalize da σ.used=dA at*;generalize dc σ.used=dC at*;have HAw:=G hA;clear hA hmb hrv z2 z3 hq hrr hEE hnd hNR l1 l2 l3;simp only[MX.p]at*;generalize fW C.R σ call a0 a1 a2 d=Rv at*;go_enter func49,ntmps49;go_wp2_with fail;refine az 11 1 [] mixed (by kernel_rfl) trivial ?_;repeat (refine sx ?_ (fun w1 hU=> ?_) ?_;rotate_left;(focus have fk:=(HMB.out.ext hU.un).cell;clear hU;go_simp<;>with_reducible rfl);simp only[aY,aX,aW,aV,aU])
 intro w7 hw7 _;simp only[ac,aM];have HQ1:=G (HQ0.out.ext hw7.un);have HMB1:=G (HMB.out.ext hw7.un);clear hw7 HQ0 HMB;have e0:=(HQ1.out.e.cell b _ hb).trans z0;have e1:=(HQ1.out.e.cell b _ hb).trans z1;have hbw:=aA hb HQ1.out.e.size;have hr8:=HQ1.out.b8.lt;go_wp2_with fail;refine az 12 6 [(11,fun v=> ∃gb,v= .pointer (some ⟨gb,0,none⟩),EX (w.heap.size+2))] mixed (by kernel_rfl) ⟨fun v W W' ⟨gb,e,hn,hk⟩ hE=>⟨gb,e,hn,hk.ext hE⟩,trivial⟩ ?_;repeat (refine sx ?_ (fun w1 hU=> ?_) ?_;rotate_left;(focus have fk:=(HMB1.out.ext hU.un).cell;have e0:=(hU.un.cell b _ hbw).trans e0;have e1:=(hU.un.cell b _ hbw).trans e1;clear hU;go_simp<;>with_reducible rfl);simp only[aY,aX,aW,aV,aU])
 refine bJ _ _ (by rfl) rfl ⟨_,0,rfl⟩ (by simp) (fun w6 hU hp K hK=> ?_) ?_
 ·have hz:=cJ hU.un;clear hp hU;go_simp;exact hK _ _ (O w6 _) ⟨_,rfl⟩ ⟨_,rfl,by omega,an w6 _ _⟩
 rintro _ ⟨gb,rfl⟩;simp only[aY,aX,aW,aV,aU];intro w8 hw8 hp;obtain⟨gb',e,hgb,hbk⟩:=hp _ (.head _);injection e with e;injection e with e;injection e with e;subst e;clear hp;simp only[ac,ap];have HE8:=G (HQ1.out.e.trans hw8.un);have HMB2:=G (HMB1.out.ext hw8.un);have HB8:=G (HQ1.out.b8.ext hw8.un);clear hw8 HQ1 HMB1 e0 e1;have f1:=hbk.cell;have f2:=hbk.frozen;have HBK:=G hbk;clear hbk;refine wpList_plain rfl fun K hK=> ?_;go_simp;refine hK _ _ ?_;clear hK f1 f2;have n1:X.g≠gb:=by omega
 have n2:w.heap.size+1≠gb:=by omega
 have n3:w.heap.size+1≠X.g:=by omega
 have n4:X.g≠w.heap.size+1:=by omega
 have hb9:aL ((w8.setCell ⟨gb,0,none⟩ (.int .i64 rv1)).setCell ⟨gb,1,none⟩ (.slice dA nd dC)) gb 80 #[.int .i64 rv1, .slice dA nd dC]:=by simpa using(HBK.out.set 0 (.int .i64 rv1)).set 1 (.slice dA nd dC)
 have HE9:=G ((HE8.out.set (p:=⟨gb,0,none⟩) (by show w.heap.size<=gb;omega) (.int .i64 rv1)).set (p:=⟨gb,1,none⟩) (by show w.heap.size<=gb;omega) (.slice dA nd dC));have HM9:=G ((HMB2.out.far (p:=⟨gb,0,none⟩) n1 (.int .i64 rv1)).far (p:=⟨gb,1,none⟩) n1 (.slice dA nd dC));have HR9:=G ((HB8.out.far (p:=⟨gb,0,none⟩) n2 (.int .i64 rv1)).far (p:=⟨gb,1,none⟩) n2 (.slice dA nd dC));clear HE8 HMB2 HB8 HBK;generalize ((w8.setCell ⟨gb,0,none⟩ (.int .i64 rv1)).setCell ⟨gb,1,none⟩ (.slice dA nd dC))=w9 at*;have HG9:=G hb9;clear hb9;have fk:=HM9.out.cell;have fz:=HM9.out.frozen;have HM10:=G (HM9.out.set 12 (.int .i64 ((σ.used:Int)+1)));have HA10:=G ((HAw.out.ext HE9.out).used1 (lf:=lf) (by have:=HM9.out;unfold dJ;rw[HRV.out];exact HNR.out▸this) HLF.out.1 HLF.out.2.1 HLF.out.2.2 HU.out);have HGr:=G (am (HE9.out.grownBy (some X.g)) (cd w9 X.g 12 (.int .i64 ((σ.used:Int)+1))));have g10:=(HG9.out.far (p:=⟨X.g,12,none⟩) (fun e=>n1 e.symm) (.int .i64 ((σ.used:Int)+1))).cell;have r10:=(HR9.out.far (p:=⟨X.g,12,none⟩) n3 (.int .i64 ((σ.used:Int)+1))).cell;have rz10:=(HR9.out.far (p:=⟨X.g,12,none⟩) n3 (.int .i64 ((σ.used:Int)+1))).frozen;have HR11:aL (((w9.setCell ⟨X.g,12,none⟩ (.int .i64 ((σ.used:Int)+1))).setCell ⟨w.heap.size+1,0,none⟩ (.int .i64 rv1)).setCell ⟨w.heap.size+1,1,none⟩ (.slice dA nd dC)) (w.heap.size+1) 80 #[.int .i64 rv1, .slice dA nd dC]:=by simpa using((HR9.out.far (p:=⟨X.g,12,none⟩) n3 (.int .i64 ((σ.used:Int)+1))).set 0 (.int .i64 rv1)).set 1 (.slice dA nd dC)
 have HM11:=G (show Mv (fun k=>k=w.heap.size+1) (w9.setCell ⟨X.g,12,none⟩ (.int .i64 ((σ.used:Int)+1))) (((w9.setCell ⟨X.g,12,none⟩ (.int .i64 ((σ.used:Int)+1))).setCell ⟨w.heap.size+1,0,none⟩ (.int .i64 rv1)).setCell ⟨w.heap.size+1,1,none⟩ (.slice dA nd dC))from((iK (fun k=>k=w.heap.size+1) _).set (p:=⟨w.heap.size+1,0,none⟩) (fun _=>rfl) _).set (p:=⟨w.heap.size+1,1,none⟩) (fun _=>rfl) _);have HR:=G HR11;have r11:=HR11.cell;clear HR11;go_wp2_with fail;generalize (((w9.setCell ⟨X.g,12,none⟩ (.int .i64 ((σ.used:Int)+1))).setCell ⟨w.heap.size+1,0,none⟩ (.int .i64 rv1)).setCell ⟨w.heap.size+1,1,none⟩ (.slice dA nd dC))=w11 at*;have d0:=HR.out.cell 0;have d1:=HR.out.cell 1;have hw11:=HM11.out;have hA11:=HA10.out.mv HM11.out fun k hk e=>by have:=HAw.out.top;omega
 refine bodyPost_ret (v:= .agg #[.int .i64 rv1, .slice dA nd dC]) (by simp[results,results49,go_sem,d0,d1]) rfl ?_;have hgr:w.grownBy w11 (some X.g):=⟨hw11.os.trans HGr.out.os,hw11.tape.trans HGr.out.tape,hw11.output.trans HGr.out.output,aZ HGr.out.size hw11.size,fun k hk hn=>(hw11.block k (aA hk HGr.out.size) (by omega)).trans (HGr.out.block k hk hn)⟩
 have hok:=HAw.out.ok.g;exact Bz HE.out HND.out hgr hA11 (HZ2.out.keepP (P:=X.P) (.of_grown hgr fun b hb e=>by injection e with e;subst e;simp only[MX.S,MX.P]at*;omega) HZ3.out) HZ3.out
theorem lS (X:MX) (C:Cx) (σ:Ms) (w:World) (hA:MA X C σ w) (call a0 a1 a2:Int) (d:List UInt8) (A:Option Addr) (c:Nat) (hd:Sl w A c d) (hdl:d.length<=1073741824) (hdg: ∀b o,A=some ⟨b,o,none⟩->d≠ []->b≠X.g):
  Calls prog 49 #[X.p, .int .i64 call, .agg #[.int .i64 a0, .int .i64 a1, .int .i64 a2], .slice A d.length c] w (AS X C w (fW C.R σ call a0 a1 a2 d)):=by
 by_cases h:σ.used=C.R.length
 ·exact xG X C σ w hA call a0 a1 a2 d A c hd hdl hdg h
 ·exact zV X C σ w hA call a0 a1 a2 d A _ c (by have:=hA.used;omega)
end
end Go.Proofs.YtddomeddabfinaaGreatDoor
