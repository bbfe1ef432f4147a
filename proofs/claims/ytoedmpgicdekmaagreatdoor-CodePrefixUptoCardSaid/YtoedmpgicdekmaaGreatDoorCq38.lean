/-
  Parts of the proof: CoM CoN.
-/
import Derived.Test.YtoedmpgicdekmaaGreatDoorCq00
import Derived.Test.YtoedmpgicdekmaaGreatDoorCq17
import Derived.Test.YtoedmpgicdekmaaGreatDoorCq37
set_option maxRecDepth 100000
set_option maxHeartbeats 8000000
set_option linter.unusedVariables false
set_option linter.unusedSimpArgs false
set_option linter.unusedSectionVars false
namespace Go.Proofs.YtoedmpgicdekmaaGreatDoor
open Go.Proofs.Tryz
section
open Go.RowKit
theorem kE (l:List (Nm×Int)) (nm:Nm) (v:Int) (x:Nm):(fF l).upd nm (.int .i64 v) x=fF ((nm,v)::l) x:=by
 unfold KF.upd fF ge;rw[gN];by_cases hx:x=nm
 ·subst hx;simp
 ·have:(nm==x)=false:=by simpa using fun e=>hx e.symm
  rw[if_neg hx];simp only[this]
theorem gV.at_cp {k:CC} {at_ at2:List (Nm×Int)} {O:Nat->Prop} {w w':World} {s:CS} {vc vt vl vd vs:Value} (h:gV k at_ vc vt vl vd vs w s) (hO: ∀j,O j↔some j∈bw k vc vt vl vd vs) (hl:b7 w' k.ba (fF at2)) (hg:w.grownBy w' (some k.ba)):CP k at2 O w s w':=by
 have K: ∀(j c:Nat),j≠3->(bw k vc vt vl vd vs)[j]? =some (some c)->w'.heap[c]? =w.heap[c]? :=fun j c hj hc=>by
  refine hg.block c (h.lo c (ce hc)).2 fun e=> ?_;exact(ik h.nd hj hc (show(bw k vc vt vl vd vs)[3]? =some (some k.ba)from rfl)).resolve_left (by simp) e
 refine⟨O,⟨vc,vt,vl,vd,vs,⟨(K 0 _ (by decide) rfl).trans h.blk,dR h.code fun c e=>K 5 c (by decide) (congrArg some e),dR h.tx fun c e=>K 6 c (by decide) (congrArg some e),dR h.calls fun c e=>K 7 c (by decide) (congrArg some e),dR h.dats fun c e=>K 8 c (by decide) (congrArg some e),h.pl.obj (K 1 _ (by decide) rfl),h.sz.obj (K 2 _ (by decide) rfl),hl,rR h.sl fun c e=>K 4 c (by decide) (congrArg some e),h.nd,fun c hc=>⟨(h.lo c hc).1,aA (h.lo c hc).2 hg.size⟩⟩,hO⟩, .of_grown hg fun c e=> ?_,fun c e=> .inl e⟩;injection e with e;subst e;exact(hO k.ba).2 (by simp[bw])
theorem gV.fn_cp {k:CC} {at_:List (Nm×Int)} {O:Nat->Prop} {w:World} {s:CS} {vc vt vl vd vs:Value} (h:gV k at_ vc vt vl vd vs w s) (hO: ∀j,O j↔some j∈bw k vc vt vl vd vs) {z:Nat} (hz:me w z (fF []) 0) {n0:Nat} (hn0:k.base<=n0) (hz0:n0<=z) (hlo: ∀b,O b->b<n0) (F:Int):
  ∃O',CX k at_ O' ((w.setCell ⟨k.c,9,none⟩ (.map (some z))).setCell ⟨k.c,10,none⟩ (.int .i64 F)) {s with slots:=[],frame:=F}/\Mv O w ((w.setCell ⟨k.c,9,none⟩ (.map (some z))).setCell ⟨k.c,10,none⟩ (.int .i64 F))/\ ∀b,O' b->O b\/b=z:=by
 have hg1:=gJ w k.c 9 (.map (some z));have hg2:=gJ (w.setCell ⟨k.c,9,none⟩ (.map (some z))) k.c 10 (.int .i64 F);have hOc:O k.c:=(hO _).2 (by simp[bw]);have K: ∀(j c:Nat),j≠0->(bw k vc vt vl vd vs)[j]? =some (some c)->((w.setCell ⟨k.c,9,none⟩ (.map (some z))).setCell ⟨k.c,10,none⟩ (.int .i64 F)).heap[c]? =w.heap[c]? :=fun j c hj hc=>by
  have hne:some c≠some k.c:=(ik h.nd hj hc (show(bw k vc vt vl vd vs)[0]? =some (some k.c)from rfl)).resolve_left (by simp);have hl:=(h.lo c (ce hc)).2;exact(hg2.block c (by have:=hg1.size;omega) hne).trans (hg1.block c hl hne)
 have hzne: ∀y∈bw k vc vt vl vd vs,y≠some z:=fun y hy e=>by subst e;have:=hlo z ((hO z).2 hy);omega
 have hzc:z≠k.c:=fun e=>by have:=hlo _ hOc;omega
 refine⟨fun b=>some b∈bw k vc vt vl vd (.map (some z)),⟨vc,vt,vl,vd, .map (some z),⟨?_,dR h.code fun c e=>K 5 c (by decide) (congrArg some e),dR h.tx fun c e=>K 6 c (by decide) (congrArg some e),dR h.calls fun c e=>K 7 c (by decide) (congrArg some e),dR h.dats fun c e=>K 8 c (by decide) (congrArg some e),h.pl.obj (K 1 _ (by decide) rfl),h.sz.obj (K 2 _ (by decide) rfl),h.at_.obj (K 3 _ (by decide) rfl), .inr ⟨z,rfl,?_⟩,?_,?_⟩,fun b=>f9⟩,?_,?_⟩
 ·simpa using(h.blk.set 9 (.map (some z))).set 10 (.int .i64 F)
 ·exact(hz.obj (hg1.block z hz.1.lt (fun e=>hzc (ai e)))).obj (hg2.block z (by have:=hz.1.lt;have:=hg1.size;omega) (fun e=>hzc (ai e)))
 ·have:bw k vc vt vl vd (.map (some z))=(bw k vc vt vl vd vs).set 4 (some z):=by simp[bw,Ax]
  rw[this];exact mo h.nd 4 hzne
 ·intro b hb;have hs:=ax hg1.size hg2.size;by_cases e:b=z
  ·subst e;exact⟨by omega,aA hz.1.lt hs⟩
  ·have:some b∈bw k vc vt vl vd vs:=by simp only[bw,Ax,bN,aZ,or_false]at hb⊢;rcases hb with h|h|h|h|h|h|h|h|h<;>simp_all
   exact⟨(h.lo b this).1,aA (h.lo b this).2 hs⟩
 ·exact((fA O w).set (p:=⟨k.c,9,none⟩) (fun _=>hOc) _).set (p:=⟨k.c,10,none⟩) (fun _=>hOc) _
 ·intro b hb;by_cases e:b=z
  ·exact .inr e
  ·left;rw[hO];simp only[bw,Ax,bN,aZ,or_false]at hb⊢;rcases hb with h|h|h|h|h|h|h|h|h<;>simp_all
def GK (f:Fc):Prop:=f.nm.length<=1000000000/\(∀p∈f.ps,p.length<=1000000000)/\sU f.body=true/\f.ps.length+cJ f.body<=1000/\gF f.body<=6000000
theorem wX {xs:List Nm} {j:Nat} {s:CS} (h:j<xs.length):lZ (xs.drop j) j s=lZ (xs.drop (j+1)) (j+1) ((s.decl xs[j]).op 15 (1+j) 15 (32+4*j)):=by rw[am h,lZ]
theorem oN: ∀(l:List Nm) (i:Nat) (s:CS),(lZ l i s).big=s.big+l.length/\(lZ l i s).frame=s.frame/\(lZ l i s).slots.length<=s.slots.length+l.length
 | [],i,s=>⟨rfl,rfl,ah _⟩
 |p::l,i,s=>by
  have h:=oN l (i+1) ((s.decl p).op 15 (1+i) 15 (32+4*i));have h2:((s.decl p).op 15 (1+i) 15 (32+4*i)).slots.length<=s.slots.length+1:=by
   show(gx _ _ _).length<=_;unfold gx;split<;>simp
  rw[lZ];refine⟨by rw[h.1,a8,bV,ae];omega,h.2.1,by rw[ae];omega⟩
theorem rj: ∀(k i:Nat) (s:CS),(Ay k i s).big=s.big+k/\(Ay k i s).sf=s.sf
 |0,i,s=>⟨rfl,rfl⟩
 |k+1,i,s=>by
  have h:=rj k (i+1) (s.op 15 0 15 (32+4*i));rw[Ay];exact⟨by rw[h.1,a8];omega,h.2⟩
theorem zL {d i:Nat} {s:CS} (h:0<d):Ay d i s=Ay (d-1) (i+1) (s.op 15 0 15 (32+4*i)):=by
 obtain⟨e,rfl⟩:=dC (Nat.pos_iff_ne_zero.1 h);rfl
theorem B5 (k:CC) (at_:List (Nm×Int)) (f:Fc) (hf:GK f) (O:Nat->Prop) (w:World) (s:CS) (A B:Option Addr) (c d:Nat) (m:CX k at_ O w s) (ev:jh k w) (R1:pC w (fun b=>b<k.base) (.slice A f.ps.length c) f.ps) (R2:dS w (fun b=>b<k.base) (.slice B f.body.length d) f.body)
  (hb:(EY (aN k.sz) f s).big<=900000000):
  Calls prog 33 #[.pointer (some ⟨k.c,0,none⟩), .agg #[.string (an f.nm), .slice A f.ps.length c, .slice B f.body.length d]] w fun e' w'=>e'= .returned (.tuple #[])/\CP k ((f.nm,(s.code.length:Int))::at_) O w (EY (aN k.sz) f s) w':=by
 obtain⟨nm,ps,bd⟩:=f;obtain⟨hnm,hps,hcb,hdl,hwt⟩:=hf;simp only at*;have hnm':nm.length<=maxLen:=ax hnm (by decide);have HM:=G m;have HR1:=G R1;have HR2:=G R2;have HW0:=G (fun W A c B d (h:dS W (fun b=>b<k.base) (.slice B bd.length d) bd)=>nM nm ps bd hwt (by omega) (fun b=>b<k.base) W A B c d h);obtain⟨F,hF⟩: ∃F:Nat,il ⟨nm,ps,bd⟩=F:=⟨_,rfl⟩
 have hFv:F=4*(8+ps.length+cJ bd):=hF.symm;rw[hF]at HW0;obtain⟨S0,hS0⟩: ∃S0:CS,S0={s with slots:=[],frame:=(F:Int)}:=⟨_,rfl⟩
 have HF:=G (show EY (aN k.sz) ⟨nm,ps,bd⟩ s=((dG (aN k.sz) bd (Ay (cJ bd) ps.length ((lZ ps 0 (((((S0.op 3 15 15 (-(F:Int))).vl 1 0 3071).op 12 0 0 15).op 7 0 0 0).op 15 14 15 0)).vl 1 0 0))).vl 1 1 0).back by
  subst hS0;rw[<-hF];rfl)
 have hS0f:S0.frame=(F:Int):=by rw[hS0]
 have hS0s:S0.slots.length=0:=by rw[hS0];rfl
 have hS0b:S0.big=s.big:=by rw[hS0];rfl
 obtain⟨S1,hS1⟩: ∃S1:CS,(((((S0.op 3 15 15 (-(F:Int))).vl 1 0 3071).op 12 0 0 15).op 7 0 0 0).op 15 14 15 0)=S1:=⟨_,rfl⟩
 have h1b:S1.big=s.big+5:=by rw[<-hS1];simp only[a8,bo];omega
 have h1f:S1.frame=(F:Int)/\S1.slots.length=0:=by rw[<-hS1];exact⟨hS0f,hS0s⟩
 obtain⟨S2,hS2⟩: ∃S2,lZ ps 0 S1=S2:=⟨_,rfl⟩
 have h2:=oN ps 0 S1;rw[hS2]at h2;obtain⟨S3,hS3⟩: ∃S3,Ay (cJ bd) ps.length (S2.vl 1 0 0)=S3:=⟨_,rfl⟩
 have h3:=rj (cJ bd) ps.length (S2.vl 1 0 0);rw[hS3,bo]at h3;have h3f:=oB h3.2;have h4:=iD (aN k.sz) bd S3;rw[HF.out,hS1,hS2,hS3,dg,bo]at hb;rw[hS1,hS2,hS3]at HF;have HB:=G (show(dG (aN k.sz) bd S3).big+4<=900000000 from hb);have HB3:=G (show S3.big<=900000000 by omega);have HB2:=G (show S2.big+1+cJ bd<=900000000 by omega);have HB1:=G (show S1.big+ps.length<=900000000 by omega);have HB0:=G (show s.big+5<=900000000 by omega);have hFpos:(F:Int)≠0:=by omega
 have hFn:(F:Int)<=100000:=by omega
 have HL:=G (show S3.frame≠0/\S3.slots.length+cJ bd<=1000 from⟨by rw[h3f.1];show S2.frame≠0;rw[h2.2.1,h1f.1];exact hFpos,by rw[h3f.2];show S2.slots.length+_<=_;omega⟩);have H2:=G h2.2;have HS1:=G hS1;have HS2:=G hS2;have HS3:=G hS3;have HPs:=G hps;have HCb:=G hcb;have h1f':=G h1f;have hPn:(ps.length:Int)<=1000:=by omega
 have hDn:(cJ bd:Int)<=1000:=by omega
 have HLC:=G hdl;have HFv:=G hFv;replace hFpos:=G hFpos;obtain⟨N,hN⟩: ∃N,ps.length=N:=⟨_,rfl⟩
 have HN:=G hN;have HQ0:=G (CQ.new m ev 81 #[.string (an nm), .slice A ps.length c, .slice B bd.length d]);clear m ev R1 R2 hb hF hFv hS1 hS2 hS3 h2 h3 h3f h4 h1b h1f hS0b hps hcb hdl hwt hN;go_enter func33,ntmps33
 go_upto_region 1 with fail
 generalize World.alloc w _=W0 at*;obtain⟨vc,vt,vl,vd,vs,h,hO⟩:=id HQ0.out.m;obtain⟨C0,cap0,rfl⟩:=i6 h.code;have H0:=G h;have hcl:=aT (show s.big<=900000000 by have:=HB0.out;omega);clear h;refine ay 11 1 [] mixed (by kernel_rfl) trivial ?_;repeat (refine sx ?_ (fun w1 hU=> ?_) ?_;rotate_left;(focus have f0:=(H0.out.blk.ext hU.un).cell;have x0:=(HQ0.out.x.1.ext hU.un).cell;clear hU;go_simp<;>with_reducible rfl);simp only[bH,bG,bF,bE,bD])
 intro w7 hw7 _;simp only[ac,aq];have HQ7:=G (HQ0.out.ext hw7.un);have H7:=G (H0.out.keep hw7.un.size fun c hc=>hw7.un.obj (H0.out.lo c hc).2);clear hw7 H0 HQ0
 go_upto_region 2 with(at_mapUpdate;refine ej ud rfl _ _ _ rfl (s:=nm) H7.out.at_ rfl hnm' rfl _ rfl ?_;intro w8 hm8 hg8;obtain⟨O8,m8,hS8⟩:=H7.out.at_cp hO (hm8.congr (kE at_ nm (s.code.length:Int))) hg8;have HM8:=G m8;have HT8:=G (HQ7.out.T.trans hS8);have HX8:=G (HQ7.out.x.st hS8);have HE8:=G (HQ7.out.e.st HQ7.out.m hS8);clear hm8 hg8 m8 hS8 H7 HQ7)
 have x0:=(HX8.out.1.ext (aa w8 (.map #[] 0))).cell;have hkp8:=(HT8.out.ex (aa w8 (.map #[] 0))).keepP HM.out;have HFr:=G (HW0.out (w8.alloc (.map #[] 0)) A c B d (HR2.out.keep hkp8 (Q:=fun b=>b<k.base) (fun _ h _=>h)));have HZ:=G (show me (w8.alloc (.map #[] 0)) w8.heap.size (fF []) 0 from⟨(jj w8).congr fun _=>rfl,#[],0,(MapKept.heap_alloc w8 _).1,rfl⟩);clear hkp8 HW0;have hmm:= @run_makeMap prog
 go_upto_region 3 with(go_at_call 35;refine HFr.out.mono ?_;rintro e w9 ⟨rfl,hE⟩;have hE9:=(aa w8 (.map #[] 0)).trans hE;obtain⟨vc9,vt9,vl9,vd9,vs9,h9,hO9⟩:=HM8.out.ext hE9;have c0:=h9.blk.cell;have f0:=h9.blk.frozen;obtain⟨O9,m9,hM9,hN9⟩:=h9.fn_cp hO9 (HZ.out.obj (hE.obj HZ.out.1.lt)) (show k.base<=w8.heap.size by have:=HM8.out.lt ((hO9 k.c).2 (by simp[bw]));omega) (ah _) (fun b hb=>(HM8.out.lt hb).2) (F:Int);have HS9:=G (show dF O8 w8 O9 _ from⟨(cE hE9).trans hM9,fun b hb=>(hN9 b hb).imp id fun e=>by omega⟩);have HM9:=G m9;clear hmm x0 HFr HZ hE hE9 h9 hO9 m9 hM9 hN9)
 rw[<-hS0]at HM9;have HQ10:=G (CQ.mk HM9.out (HT8.out.trans HS9.out) (HX8.out.st HS9.out) (HE8.out.st HM8.out HS9.out));have HBS0:=G (show S0.big+5<=900000000 by rw[hS0];exact HB0.out);generalize World.setCell (World.setCell w9 _ _) _ _=w10 at*;clear HM8 HM9 HT8 HX8 HE8 HS9 c0 f0 hS0;have f1:w10.cell? ⟨k.c,9+1,none⟩=some (.int .i64 (F:Int)):=by rw[oG HQ10.out.m,hS0f]
 have hwn:IntKind.i64.wrap (-(F:Int))= -(F:Int):=by simp[IntKind.wrap,IntKind.signed,IntKind.bits];omega
 go_upto_region 4 with(go_at_call 70;refine(fp HQ10.out.m 3 _ _ _ _ rfl (aT (by(try simp only[a8,bo]);have:=HBS0.out;omega))).mono ?_;rintro e w11 ⟨rfl,O11,m,hS⟩;have HQ11:=G (HQ10.out.nx m hS);clear m hS HQ10 f1)
 go_upto_region 5 with(go_at_call 69;refine(gQ HQ11.out.m 1 _ _ _ rfl (aT (by(try simp only[a8,bo]);have:=HBS0.out;omega))).mono ?_;rintro e w12 ⟨rfl,O12,m,hS⟩;have HQ12:=G (HQ11.out.nx m hS);clear m hS HQ11)
 go_upto_region 6 with(go_at_call 70;refine(fp HQ12.out.m 12 _ _ _ _ rfl (aT (by(try simp only[a8,bo]);have:=HBS0.out;omega))).mono ?_;rintro e w13 ⟨rfl,O13,m,hS⟩;have HQ13:=G (HQ12.out.nx m hS);clear m hS HQ12)
 go_upto_region 7 with(go_at_call 70;refine(fp HQ13.out.m 7 _ _ _ _ rfl (aT (by(try simp only[a8,bo]);have:=HBS0.out;omega))).mono ?_;rintro e w14 ⟨rfl,O14,m,hS⟩;have HQ14:=G (HQ13.out.nx m hS);clear m hS HQ13)
 go_upto_region 8 with(go_at_call 70;refine(fp HQ14.out.m 15 _ _ _ _ rfl (aT (by(try simp only[a8,bo]);have:=HBS0.out;omega))).mono ?_;rintro e w15 ⟨rfl,O15,m,hS⟩;have HQ15:=G (HQ14.out.nx m hS);clear m hS HQ14)
 rw[HS1.out]at HQ15;clear hS0f hS0s HBS0 HS1 hwn;have x0:=HQ15.out.x.1.cell;have HP0:=G (show lZ (ps.drop 0) 0 S1=S2 from HS2.out);have HL0:=G (show S1.frame=(F:Int)/\S1.slots.length<=0 from⟨h1f'.out.1,by rw[h1f'.out.2];exact ah _⟩)
 go_upto_region 9 with fail
 clear x0
 go_loopw [45] (fun vi wr=> ∃(j:Nat) (O1:Nat->Prop) (s1:CS),vi= .int .i64 (j:Int)/\j<=ps.length/\Hid (CQ k ((nm,(s.code.length:Int))::at_) O w w.heap.size 81 #[.string (an nm), .slice A ps.length c, .slice B bd.length d] O1 s1 wr)/\Hid (lZ (ps.drop j) j s1=S2)/\Hid (s1.frame=(F:Int)/\s1.slots.length<=j)) (fun vi _=>ps.length-(intOf vi).toNat)
 case atStart=>exact⟨0,_,_,rfl,aC _,HQ15,HP0,HL0⟩
 case round=>
  obtain⟨j,O1,s1,rfl,hj,HQ1,HD1,HL1⟩:=hrel;clear HQ15 HP0 HL0;generalize wr=wz at*;by_cases hlt:j<ps.length
  ·have hlt':(j:Int)<(ps.length:Int):=by omega
   obtain⟨A',c',hv,hcs⟩:=HR1.out;injection hv with hv1 hv2 hv3;subst hv1 hv3;rcases hcs with hnil|⟨_,_,b,o,rfl,hPb,hbw,hcell⟩
   ·rw[hnil]at hlt;simp at hlt
   have e0:=(HQ1.out.T.keepP HM.out).cell (o+j) hPb hbw|>.trans (hcell j hlt);have hpj:=HPs.out _ (ap hlt);have HD2:=G ((wX hlt).symm.trans HD1.out);have hbg:=oN (ps.drop (j+1)) (j+1) ((s1.decl ps[j]).op 15 (1+j) 15 (32+4*j));rw[HD2.out,a8,bV]at hbg;have HBz:=G (show s1.big<=900000000 by have:=HB2.out;omega)
   have HL2:=G (show((s1.decl ps[j]).op 15 (1+j) 15 (32+4*j)).frame=(F:Int)/\((s1.decl ps[j]).op 15 (1+j) 15 (32+4*j)).slots.length<=j+1 from⟨HL1.out.1,by
    show(gx _ _ _).length<=_;have:=HL1.out.2
    unfold gx;split<;>simp<;>omega⟩)
   generalize ps[j]=p at*;have hw1:IntKind.i64.wrap (1+(j:Int))=1+(j:Int):=by simp[IntKind.wrap,IntKind.signed,IntKind.bits];omega
   have hw2:IntKind.i64.wrap (4*(j:Int))=4*(j:Int):=by simp[IntKind.wrap,IntKind.signed,IntKind.bits];omega
   have hw3:IntKind.i64.wrap (32+4*(j:Int))=32+4*(j:Int):=by simp[IntKind.wrap,IntKind.signed,IntKind.bits];omega
   clear hbg hcell
   go_wp2_with (first
    |(go_at_call 71;refine(CO HQ1.out.m p (ax hpj (by decide)) (by rw[HL1.out.1];exact hFpos.out) (by have:=HL1.out.2;omega)).mono ?_;rintro e w2 ⟨rfl,O2,m,hS⟩;have HQ2:=G (HQ1.out.nx m hS);clear m hS HQ1 e0)
    |(go_at_call 70;refine(fp HQ2.out.m 15 _ _ _ _ rfl (aT (by rw[bV];have:=HBz.out;omega))).mono ?_;rintro e w3 ⟨rfl,O3,m,hS⟩;have HQ3:=G (HQ2.out.nx m hS);clear m hS HQ2))
   go_roundw
   case rel=>exact⟨j+1,_,_,by go_num,by omega,HQ3,HD2,HL2⟩
   case measure=>simp[intOf];omega
  ·have hjN:ps.length=j:=by omega
   subst hjN;have hlt': ¬(ps.length:Int)<(ps.length:Int):=by omega
   have HSx:=G (show s1=S2 by have:=HD1.out;rw[bJ (ah _),lZ]at this;exact this);rw[HSx.out]at HQ1 HL1;clear HD1 HSx hlt hj;generalize wz=wo at*
   go_upto_region 15 with(go_at_call 69;refine(gQ HQ1.out.m 1 _ _ _ rfl (aT (by have:=HB2.out;omega))).mono ?_;rintro e w2 ⟨rfl,O2,m,hS⟩;have HQ2:=G (HQ1.out.nx m hS);clear m hS HQ1)
   have x0:=HQ2.out.x.1.cell;have HS2f:=G (show(S2.vl 1 0 0).frame=(F:Int)from HL1.out.1);have HBz:=G (show(S2.vl 1 0 0).big+cJ bd<=900000000 by rw[bo];exact HB2.out);generalize S2.vl 1 0 0=SV at*;have hw1:IntKind.i64.wrap (4*(ps.length:Int))=4*(ps.length:Int):=by simp[IntKind.wrap,IntKind.signed,IntKind.bits];omega
   have hw2:IntKind.i64.wrap (32+4*(ps.length:Int))=32+4*(ps.length:Int):=by simp[IntKind.wrap,IntKind.signed,IntKind.bits];omega
   clear hlt'
   go_upto_region 16 with fail
   clear x0 hw1 hw2
   go_loopw [6] (fun vi wr=> ∃(q:Nat) (O1:Nat->Prop) (s1:CS),vi= .int .i64 ((F:Int)-4*(q:Int))/\q<=cJ bd/\Hid (CQ k ((nm,(s.code.length:Int))::at_) O w w.heap.size 81 #[.string (an nm), .slice A ps.length c, .slice B bd.length d] O1 s1 wr)/\Hid (Ay q (ps.length+(cJ bd-q)) s1=S3)/\Hid (s1.frame=(F:Int))) (fun vi _=>F-(intOf vi).toNat)
   case atStart=>exact⟨cJ bd,_,_,by have:=HFv.out;rw[show(F:Int)-4*((cJ bd:Nat):Int)=32+4*(ps.length:Int) by omega],ah _,HQ2,G (by rw[ly,a7];exact HS3.out),HS2f⟩
   case round=>
    obtain⟨q,O5,s5,rfl,hq,HQ5,HD5,HF5⟩:=hrel;clear HQ2;generalize wr=wy at*;have f1:wy.cell? ⟨k.c,9+1,none⟩=some (.int .i64 (F:Int)):=by rw[oG HQ5.out.m,HF5.out]
    by_cases hq0:0<q
    ·have hlt':(F:Int)-4*(q:Int)<(F:Int):=by omega
     have hw4:IntKind.i64.wrap ((F:Int)-4*(q:Int)+4)=(F:Int)-4*(q:Int)+4:=by have:=HFv.out;simp[IntKind.wrap,IntKind.signed,IntKind.bits];omega
     have HBd:=G (show s5.big<=900000000 by have h1:=congrArg CS.big HD5.out;rw[(rj _ _ _).1]at h1;have:=HB3.out;omega);have HD6:=G ((zL hq0).symm.trans HD5.out);go_wp2_with (go_at_call 70;refine(fp HQ5.out.m 15 _ _ _ _ rfl (aT (ax HBd.out (by decide)))).mono ?_;rintro e w6 ⟨rfl,O6,m,hS⟩;have HQ6:=G (HQ5.out.nx m hS);clear m hS HQ5 f1);go_roundw
     case rel=>exact⟨q-1,_,_,by rw[show(F:Int)-4*((q-1:Nat):Int)=(F:Int)-4*(q:Int)+4 by omega],by omega,HQ6,G (by have h6:=HD6.out;have hv:=HFv.out;rw[show(32:Int)+4*((ps.length+(cJ bd-q):Nat):Int)=(F:Int)-4*(q:Int) by omega]at h6;rw[show ps.length+(cJ bd-(q-1))=ps.length+(cJ bd-q)+1 by omega];exact h6),G HF5.out⟩
     case measure=>have:=HFv.out;simp[intOf];omega
    ·obtain rfl:q=0:=by omega
     have HSx:=G (show s5=S3 from HD5.out);rw[HSx.out]at HQ5;have hlt': ¬(F:Int)-4*((0:Nat):Int)<(F:Int):=by omega
     clear hq0 hq HD5 HSx HF5;have HKs:=zJ k ((nm,(s.code.length:Int))::at_) bd;unfold vF at HKs;have HKs:=G HKs;have x0:=HQ5.out.x.1.cell;have HE:=G (show(dG (aN k.sz) bd S3).big+4<=900000000 from HB.out)
     go_upto_region 20 with(go_at_call 72;refine(HKs.out _ _ _ _ _ HQ5.out.m HQ5.out.e (HR2.out.keep (HQ5.out.T.keepP HM.out) (Q:=fun b=>b<k.base) (fun _ h _=>h)) HCb.out HL.out.1 HL.out.2 (aK HE.out)).mono ?_;rintro e w6 ⟨rfl,O6,m,hS⟩;have HQ6:=G (HQ5.out.nx m hS);clear m hS HQ5 x0 f1 HKs)
     generalize dG (aN k.sz) bd S3=S4 at*;go_wp2_with (first|(go_at_call 69;refine(gQ HQ6.out.m 1 _ _ _ rfl (aT (by have:=HE.out;omega))).mono ?_;rintro e w7 ⟨rfl,O7,m,hS⟩;have HQ7:=G (HQ6.out.nx m hS);clear m hS HQ6)|(go_at_call 73;refine(CT HQ7.out.m (by rw[bo];have:=HE.out;omega)).mono ?_;rintro e w8 ⟨rfl,O8,m,hS⟩;have HQ8:=G (HQ7.out.nx m hS);clear m hS HQ7));exact bodyPost_end (results_none rfl _ _ _) rfl ⟨rfl,by rw[HF.out];exact HQ8.out.cp⟩
end
section
open Go.RowKit
def DW (s:CS):CS:=((((((s.call cY).vl 1 0 255).op 9 2 1 0).vl 1 1 0).vl 1 3 0).vl 1 4 0|>.op 22 0 0 0).vl 18 0 (-1)
theorem Ad {k:CC} {at_:List (Nm×Int)} {O:Nat->Prop} {w:World} {s:CS} (m:CX k at_ O w s) (hb:s.big<=900000000):
  Calls prog 32 #[.pointer (some ⟨k.c,0,none⟩)] w fun e w'=>e= .returned (.tuple #[])/\CP k at_ O w (DW s) w':=by
 have hD:au w w.drew:=d9 (aG w);obtain⟨vc,vt,vl,vd,vs,h,hO⟩:=m.ext hD;have hc:=aT hb;have hd:=oq hb;have HV:=G (sP h 20 20 14 0 rfl (by omega));have HS:=G (iK (O:=O) hD);have HF:=G (show DW s=((((((s.call cY).vl 1 0 255).op 9 2 1 0).vl 1 1 0).vl 1 3 0).vl 1 4 0|>.op 22 0 0 0).vl 18 0 (-1)from rfl);have HBc:=G (show(s.call cY).big+10<=900000100 by rw[b6];omega);have c0:=h.blk.cell;clear m h hb;go_enter func32,ntmps32;go_wp2_with fail
 go_cut []from 2 to 13 (fun wx=> ∃O1,Hid (CX k at_ O1 wx (s.call cY))/\Hid (dF O w O1 wx))
 case first=>
  go_region_law (first
   |(refine ky Fs rfl _ _ rfl k.base _ s.calls.length (eU s.calls) rfl (HC.out.calls.alloc _) w1.heap.size (lM (s.code.length,cY)) rfl (aw w1 _ _) rfl (lL _) (by omega) (by decide) (by rw[World.size_alloc];have:=(eE HC.out).1;omega) ?_;intro A cap w2 hn hg hA;obtain⟨hb1,hp⟩:=HC.out.callm (n:=s.calls.length) (fun b=>f9) (aa w1 _) (s.code.length,cY) rfl hn hg hA;clear c0 c0a;have c0:=hb1.cell;have f0:=hb1.frozen;have HP:=G hp;clear hn hg hA hb1 hp HC)
   |(go_simp;go_at_call 69;refine HV.out.mono ?_;rintro e w1 ⟨rfl,hv⟩;obtain⟨vc1,h1,hS⟩:=hv.own hO;have HT:=G (oW HS.out hS);have HC:=G h1;clear c0;have c0:=h1.blk.cell;have c0a:=(h1.blk.alloc (.cells #[.int .i64 (s.code.length:Int), .string ⟨#[109,97,105,110]⟩] 155)).cell;clear h1 HV hS hv HS))
  all_goals
   clear c0 f0;go_wp2_with fail;obtain⟨O3,h3,hS3⟩:=HP.out;have h4:=G (show CX k at_ O3 _ (s.call cY)from h3);have h5:=G (HT.out.trans hS3);clear HP h3 hS3 HT
   go_meet
   case rel=>exact⟨_,h4,h5⟩
 case rest=>
 obtain⟨O0,m0,T0⟩:=hcut;generalize s.call cY=s0 at*;have hbc:=HBc.out
 go_upto_region 2 with(go_at_call 69;refine(gQ m0.out 1 _ _ _ rfl (aT (by(try simp only[bo,a8,bC,bB,cC,cf,b6,bV,dg,cZ,dB,cW,ea]);omega))).mono ?_;rintro e w1 ⟨rfl,O1,hm,hS⟩;have T1:=cF T0 hS;have m1:=G hm;clear m0 T0 hm hS)
 go_upto_region 3 with(go_at_call 70;refine(fp m1.out 9 _ _ _ _ rfl (aT (by(try simp only[bo,a8,bC,bB,cC,cf,b6,bV,dg,cZ,dB,cW,ea]);omega))).mono ?_;rintro e w2 ⟨rfl,O2,hm,hS⟩;have T2:=cF T1 hS;have m2:=G hm;clear m1 T1 hm hS)
 go_upto_region 4 with(go_at_call 69;refine(gQ m2.out 1 _ _ _ rfl (aT (by(try simp only[bo,a8,bC,bB,cC,cf,b6,bV,dg,cZ,dB,cW,ea]);omega))).mono ?_;rintro e w3 ⟨rfl,O3,hm,hS⟩;have T3:=cF T2 hS;have m3:=G hm;clear m2 T2 hm hS)
 go_upto_region 5 with(go_at_call 69;refine(gQ m3.out 1 _ _ _ rfl (aT (by(try simp only[bo,a8,bC,bB,cC,cf,b6,bV,dg,cZ,dB,cW,ea]);omega))).mono ?_;rintro e w4 ⟨rfl,O4,hm,hS⟩;have T4:=cF T3 hS;have m4:=G hm;clear m3 T3 hm hS)
 go_upto_region 6 with(go_at_call 69;refine(gQ m4.out 1 _ _ _ rfl (aT (by(try simp only[bo,a8,bC,bB,cC,cf,b6,bV,dg,cZ,dB,cW,ea]);omega))).mono ?_;rintro e w5 ⟨rfl,O5,hm,hS⟩;have T5:=cF T4 hS;have m5:=G hm;clear m4 T4 hm hS)
 go_upto_region 7 with(go_at_call 70;refine(fp m5.out 22 _ _ _ _ rfl (aT (by(try simp only[bo,a8,bC,bB,cC,cf,b6,bV,dg,cZ,dB,cW,ea]);omega))).mono ?_;rintro e w6 ⟨rfl,O6,hm,hS⟩;have T6:=cF T5 hS;have m6:=G hm;clear m5 T5 hm hS)
 go_wp2_with (go_at_call 69;refine(gQ m6.out 18 _ _ _ rfl (aT (by(try simp only[bo,a8,bC,bB,cC,cf,b6,bV,dg,cZ,dB,cW,ea]);omega))).mono ?_;rintro e w7 ⟨rfl,O7,hm,hS⟩;have T7:=cF T6 hS;have m7:=G hm;clear m6 T6 hm hS);exact bodyPost_end (results_none rfl _ _ _) rfl ⟨rfl,_,HF.out▸m7.out,T7.out⟩
end
end Go.Proofs.YtoedmpgicdekmaaGreatDoor
