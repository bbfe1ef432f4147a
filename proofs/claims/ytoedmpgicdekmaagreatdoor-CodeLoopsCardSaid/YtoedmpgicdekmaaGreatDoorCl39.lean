/- Parts of the proof. -/
import Derived.Test.YtoedmpgicdekmaaGreatDoorCl00
import Derived.Test.YtoedmpgicdekmaaGreatDoorCl19
import Derived.Test.YtoedmpgicdekmaaGreatDoorCl38
set_option maxRecDepth 100000
set_option maxHeartbeats 8000000
set_option linter.unusedVariables false
set_option linter.unusedSimpArgs false
set_option linter.unusedSectionVars false
namespace Go.Proofs.YtoedmpgicdekmaaGreatDoor
open Go.Proofs.Tryz
section
open Go.RowKit
theorem l_ (l:List (Nm×Int)) (nm:Nm) (v:Int) (x:Nm):(gx l).upd nm (.int .i64 v) x=gx ((nm,v)::l) x:=by
 unfold KF.upd gx gA;rw[iT];by_cases hx:x=nm
 ·subst hx;simp
 ·have:(nm==x)=false:=by simpa using λe=>hx e.symm
  rw[if_neg hx];simp only[this]
theorem i'.at_cp {k:CC} {K H:List (Nm×Int)} {O:Nat->Prop} {A w':World} {s:CS} {y h u w o:Value} (a:i' k K y h u w o A s) (G: ∀j,O j↔some j∈bJ k y h u w o) (I:cB w' k.ba (gx H)) (F:A.grownBy w' (some k.ba)):CP k H O A s w':=by
 have d: ∀(j c:Nat),j≠3->(bJ k y h u w o)[j]? =some (some c)->w'.heap[c]? =A.heap[c]? :=λj c J z=>by
  refine F.block c (a.lo c (cD z)).2 λe=> ?_;exact(ju a.nd J z (show(bJ k y h u w o)[3]? =some (some k.ba)from rfl)).resolve_left Qe e
 refine⟨O,⟨y,h,u,w,o,⟨(d 0 _ Qd rfl).trans a.blk,et a.code λc e=>d 5 c Qd (congrArg some e),et a.tx λc e=>d 6 c Qd (congrArg some e),et a.calls λc e=>d 7 c Qd (congrArg some e),et a.dats λc e=>d 8 c Qd (congrArg some e),a.pl.obj (d 1 _ Qd rfl),a.sz.obj (d 2 _ Qd rfl),I,t_ a.sl λc e=>d 4 c Qd (congrArg some e),a.nd,λc z=>⟨(a.lo c z).1,aA (a.lo c z).2 F.size⟩⟩,G⟩, .of_grown F λc e=> ?_,λc e=> .inl e⟩;injection e with e;subst e;exact(G k.ba).2 (by simp[bJ])
theorem i'.fn_cp {k:CC} {ae:List (Nm×Int)} {O:Nat->Prop} {h:World} {s:CS} {y o u w z:Value} (a:i' k ae y o u w z h s) (R: ∀j,O j↔some j∈bJ k y o u w z) {d:Nat} (I:nZ h d (gx []) 0) {J:Nat} (al:k.base<=J) (ak:J<=d) (ac: ∀b,O b->b<J) (F:Int):
  ∃af,CX k ae af ((h.setCell ⟨k.c,9,none⟩ (.map (some d))).setCell ⟨k.c,10,none⟩ (.int .i64 F)) {s with slots:=[],frame:=F}/\Mv O h ((h.setCell ⟨k.c,9,none⟩ (.map (some d))).setCell ⟨k.c,10,none⟩ (.int .i64 F))/\ ∀b,af b->O b\/b=d:=by
 have G:=iK h k.c 9 (.map (some d));have K:=iK (h.setCell ⟨k.c,9,none⟩ (.map (some d))) k.c 10 (.int .i64 F);have M:O k.c:=(R _).2 (by simp[bJ]);have A: ∀(j c:Nat),j≠0->(bJ k y o u w z)[j]? =some (some c)->((h.setCell ⟨k.c,9,none⟩ (.map (some d))).setCell ⟨k.c,10,none⟩ (.int .i64 F)).heap[c]? =h.heap[c]? :=λj c aj ad=>by
  have aa:some c≠some k.c:=(ju a.nd aj ad (show(bJ k y o u w z)[0]? =some (some k.c)from rfl)).resolve_left Qe;have ai:=(a.lo c (cD ad)).2;exact(K.block c (by have:=G.size;omega) aa).trans (G.block c ai aa)
 have ag: ∀V∈bJ k y o u w z,V≠some d:=λV ah e=>by subst e;have:=ac d ((R d).2 ah);omega
 have X:d≠k.c:=λe=>by have:=ac _ M;omega
 refine⟨λb=>some b∈bJ k y o u w (.map (some d)),⟨y,o,u,w, .map (some d),⟨?_,et a.code λc e=>A 5 c Qd (congrArg some e),et a.tx λc e=>A 6 c Qd (congrArg some e),et a.calls λc e=>A 7 c Qd (congrArg some e),et a.dats λc e=>A 8 c Qd (congrArg some e),a.pl.obj (A 1 _ Qd rfl),a.sz.obj (A 2 _ Qd rfl),a.at_.obj (A 3 _ Qd rfl), .inr ⟨d,rfl,?_⟩,?_,?_⟩,λb=>gW⟩,?_,?_⟩
 ·simpa using(a.blk.set 9 (.map (some d))).set 10 (.int .i64 F)
 ·exact(I.obj (G.block d I.1.lt (λe=>X (ab e)))).obj (K.block d (by have:=I.1.lt;have:=G.size;omega) (λe=>X (ab e)))
 ·have:bJ k y o u w (.map (some d))=(bJ k y o u w z).set 4 (some d):=by simp[bJ,CH]
  rw[this];exact om a.nd 4 ag
 ·intro b H;have Z:=ax G.size K.size;by_cases e:b=d
  ·subst e;exact⟨by omega,aA I.1.lt Z⟩
  ·have:some b∈bJ k y o u w z:=by simp only[bJ,CH,bT,bB,or_false]at H⊢;rcases H with a|a|a|a|a|a|a|a|a<;>simp_all
   exact⟨(a.lo b this).1,aA (a.lo b this).2 Z⟩
 ·exact((gn O h).set (p:=⟨k.c,9,none⟩) (λ_=>M) _).set (p:=⟨k.c,10,none⟩) (λ_=>M) _
 ·intro b H;by_cases e:b=d
  ·exact .inr e
  ·left;rw[R];simp only[bJ,CH,bT,bB,or_false]at H⊢;rcases H with a|a|a|a|a|a|a|a|a<;>simp_all
def Jy (f:Fc):Prop:=f.nm.length<=1000000000/\(∀p∈f.ps,p.length<=1000000000)/\qC f.body=true/\f.ps.length+cN f.body<=1000/\gd f.body<=6000000
theorem zd {xs:List Nm} {j:Nat} {s:CS} (a:j<xs.length):nP (xs.drop j) j s=nP (xs.drop (j+1)) (j+1) ((s.decl xs[j]).op 15 (1+j) 15 (32+4*j)):=by rw[ap a,nP]
theorem qH: ∀(l:List Nm) (i:Nat) (s:CS),(nP l i s).big=s.big+l.length/\(nP l i s).frame=s.frame/\(nP l i s).slots.length<=s.slots.length+l.length
 | [],i,s=>⟨rfl,rfl,ah _⟩
 |p::l,i,s=>by
  have a:=qH l (i+1) ((s.decl p).op 15 (1+i) 15 (32+4*i));have d:((s.decl p).op 15 (1+i) 15 (32+4*i)).slots.length<=s.slots.length+1:=by
   show(iq _ _ _).length<=_;unfold iq;split<;>simp
  rw[nP];refine⟨by rw[a.1,bE,cf,ag];omega,a.2.1,by rw[ag];omega⟩
theorem tq: ∀(k i:Nat) (s:CS),(CI k i s).big=s.big+k/\(CI k i s).sf=s.sf
 |0,i,s=>⟨rfl,rfl⟩
 |k+1,i,s=>by
  have a:=tq k (i+1) (s.op 15 0 15 (32+4*i));rw[CI];exact⟨by rw[a.1,bE];omega,a.2⟩
theorem BP {a i:Nat} {s:CS} (d:0<a):CI a i s=CI (a-1) (i+1) (s.op 15 0 15 (32+4*i)):=by
 obtain⟨e,rfl⟩:=dY (Nat.pos_iff_ne_zero.1 d);rfl
theorem EI (k:CC) (ai:List (Nm×Int)) (f:Fc) (cr:Jy f) (O:Nat->Prop) (A:World) (s:CS) (Z B:Option Addr) (c K:Nat) (m:CX k ai O A s) (bO:ko k A) (bR:qR A (λb=>b<k.base) (.slice Z f.ps.length c) f.ps) (bP:ed A (λb=>b<k.base) (.slice B f.body.length K) f.body)
  (ac:(Ig (aR k.sz) f s).big<=900000000):
  Calls prog 33 #[.pointer (some ⟨k.c,0,none⟩), .agg #[.string (ak f.nm), .slice Z f.ps.length c, .slice B f.body.length K]] A λcz w'=>cz= .returned (.tuple #[])/\CP k ((f.nm,(s.code.length:Int))::ai) O A (Ig (aR k.sz) f s) w':=by
 obtain⟨nm,ps,u⟩:=f;obtain⟨cl,bq,bB,bz,bk⟩:=cr;simp only at*;have ck:nm.length<=maxLen:=ax cl Qd;have ba:=G m;have cH:=G bR;have bU:=G bP;have a3:=G (λW Z c B K (J:ed W (λb=>b<k.base) (.slice B u.length K) u)=>pV nm ps u bk Qa (λb=>b<k.base) W Z B c K J);obtain⟨d,aC⟩: ∃d:Nat,jx ⟨nm,ps,u⟩=d:=⟨_,rfl⟩
 have bK:d=4*(8+ps.length+cN u):=aC.symm;rw[aC]at a3;obtain⟨V,ad⟩: ∃V:CS,V={s with slots:=[],frame:=(d:Int)}:=⟨_,rfl⟩
 have bc:=G (show Ig (aR k.sz) ⟨nm,ps,u⟩ s=((ee (aR k.sz) u (CI (cN u) ps.length ((nP ps 0 (((((V.op 3 15 15 (-(d:Int))).vl 1 0 3071).op 12 0 0 15).op 7 0 0 0).op 15 14 15 0)).vl 1 0 0))).vl 1 1 0).back by
  subst ad;rw[<-aC];rfl)
 have aS:V.frame=(d:Int):=by rw[ad]
 have bD:V.slots.length=0:=by rw[ad];rfl
 have cu:V.big=s.big:=by rw[ad];rfl
 obtain⟨H,ag⟩: ∃H:CS,(((((V.op 3 15 15 (-(d:Int))).vl 1 0 3071).op 12 0 0 15).op 7 0 0 0).op 15 14 15 0)=H:=⟨_,rfl⟩
 have cx:H.big=s.big+5:=by rw[<-ag];simp only[bE,bI];omega
 have aY:H.frame=(d:Int)/\H.slots.length=0:=by rw[<-ag];exact⟨aS,bD⟩
 obtain⟨y,an⟩: ∃y,nP ps 0 H=y:=⟨_,rfl⟩
 have aF:=qH ps 0 H;rw[an]at aF;obtain⟨F,am⟩: ∃F,CI (cN u) ps.length (y.vl 1 0 0)=F:=⟨_,rfl⟩
 have aX:=tq (cN u) ps.length (y.vl 1 0 0);rw[am,bI]at aX;have aW:=qt aX.2;have cw:=jM (aR k.sz) u F;rw[bc.out,ag,an,am,dK,bI]at ac;rw[ag,an,am]at bc;have cS:=G (show(ee (aR k.sz) u F).big+4<=900000000 from ac);have cR:=G (show F.big<=900000000 by omega);have bf:=G (show y.big+1+cN u<=900000000 by omega);have dy:=G (show H.big+ps.length<=900000000 by omega);have b6:=G (show s.big+5<=900000000 by omega);have aA:(d:Int)≠0:=Qa
 have di:(d:Int)<=100000:=Qa
 have bX:=G (show F.frame≠0/\F.slots.length+cN u<=1000 from⟨by rw[aW.1];show y.frame≠0;rw[aF.2.1,aY.1];exact aA,by rw[aW.2];show y.slots.length+_<=_;omega⟩);have dz:=G aF.2;have bT:=G ag;have cG:=G an;have cE:=G am;have cK:=G bq;have cO:=G bB;have bM:=G aY;have dh:(ps.length:Int)<=1000:=Qa
 have dj:(cN u:Int)<=1000:=Qa
 have dx:=G bz;have aM:=G bK;replace aA:=G aA;obtain⟨N,bG⟩: ∃N,ps.length=N:=⟨_,rfl⟩
 have dw:=G bG;have aL:=G (CQ.new m bO 81 #[.string (ak nm), .slice Z ps.length c, .slice B u.length K]);clear m bO bR bP ac aC bK ag an am aF aX aW cw cx aY cu bq bB bz bk bG;go_enter func33,ntmps33
 go_upto_region 1 with fail
 generalize World.alloc A _=dl at*;obtain⟨dc,c4,c8,da,c6,J,cv⟩:=id aL.out.m;obtain⟨dA,dk,rfl⟩:=ka J.code;have aP:=G J;have dg:=aZ (show s.big<=900000000 by have:=b6.out;omega);clear J;refine aB 11 1 [] mixed Qb trivial ?_;repeat (refine sx ?_ (λc0 aQ=> ?_) ?_;rotate_left;(focus have bN:=(aP.out.blk.ext aQ.un).cell;have R:=(aL.out.x.1.ext aQ.un).cell;clear aQ;go_simp<;>with_reducible rfl);simp only[bA,bx,bw,br,bo])
 intro ca au _;simp only[ae,aw];have M:=G (aL.out.ext au.un);have bg:=G (aP.out.keep au.un.size λc ct=>au.un.obj (aP.out.lo c ct).2);clear au aP aL
 go_upto_region 2 with(at_mapUpdate;refine eU wu rfl _ _ _ rfl (s:=nm) bg.out.at_ rfl ck rfl _ rfl ?_;intro z bt bv;obtain⟨bS,bj,az⟩:=bg.out.at_cp cv (bt.congr (l_ ai nm (s.code.length:Int))) bv;have aq:=G bj;have a4:=G (M.out.T.trans az);have a2:=G (M.out.x.st az);have bZ:=G (M.out.e.st M.out.m az);clear bt bv bj az bg M)
 have R:=(a2.out.1.ext (aa z (.map #[] 0))).cell;have bu:=(a4.out.ex (aa z (.map #[] 0))).keepP ba.out;have bY:=G (a3.out (z.alloc (.map #[] 0)) Z c B K (bU.out.keep bu (Q:=λb=>b<k.base) (λ_ J _=>J)));have a1:=G (show nZ (z.alloc (.map #[] 0)) z.heap.size (gx []) 0 from⟨(kr z).congr λ_=>rfl,#[],0,(MapKept.heap_alloc z _).1,rfl⟩);clear bu a3;have cn:= @run_makeMap prog
 go_upto_region 3 with(go_at_call 35;refine bY.out.mono ?_;rintro e b9 ⟨rfl,aV⟩;have aU:=(aa z (.map #[] 0)).trans aV;obtain⟨db,c3,c7,c9,c5,aE,aT⟩:=aq.out.ext aU;have cA:=aE.blk.cell;have bN:=aE.blk.frozen;obtain⟨cB,bi,bH,bF⟩:=aE.fn_cp aT (a1.out.obj (aV.obj a1.out.1.lt)) (show k.base<=z.heap.size by have:=aq.out.lt ((aT k.c).2 (by simp[bJ]));omega) (ah _) (λb ac=>(aq.out.lt ac).2) (d:Int);have aI:=G (show eb bS z cB _ from⟨(cQ aU).trans bH,λb ac=>(bF b ac).imp id λe=>by omega⟩);have a9:=G bi;clear cn R bY a1 aV aU aE aT bi bH bF)
 rw[<-ad]at a9;have aK:=G (CQ.mk a9.out (a4.out.trans aI.out) (a2.out.st aI.out) (bZ.out.st aq.out aI.out));have al:=G (show V.big+5<=900000000 by rw[ad];exact b6.out);generalize World.setCell (World.setCell b9 _ _) _ _=cd at*;clear aq a9 a4 a2 bZ aI cA bN ad;have aG:cd.cell? ⟨k.c,9+1,none⟩=some (.int .i64 (d:Int)):=by rw[qz aK.out.m,aS]
 have ce:IntKind.i64.wrap (-(d:Int))= -(d:Int):=Qc
 go_upto_region 4 with(go_at_call 70;refine(f9 aK.out.m 3 _ _ _ _ rfl (aZ (by(try simp only[bE,bI]);have:=al.out;omega))).mono ?_;rintro e cZ ⟨rfl,dv,m,a⟩;have a8:=G (aK.out.nx m a);clear m a aK aG)
 go_upto_region 5 with(go_at_call 69;refine(iW a8.out.m 1 _ _ _ rfl (aZ (by(try simp only[bE,bI]);have:=al.out;omega))).mono ?_;rintro e cY ⟨rfl,du,m,a⟩;have a7:=G (a8.out.nx m a);clear m a a8)
 go_upto_region 6 with(go_at_call 70;refine(f9 a7.out.m 12 _ _ _ _ rfl (aZ (by(try simp only[bE,bI]);have:=al.out;omega))).mono ?_;rintro e cX ⟨rfl,dt,m,a⟩;have a6:=G (a7.out.nx m a);clear m a a7)
 go_upto_region 7 with(go_at_call 70;refine(f9 a6.out.m 7 _ _ _ _ rfl (aZ (by(try simp only[bE,bI]);have:=al.out;omega))).mono ?_;rintro e cW ⟨rfl,ds,m,a⟩;have a5:=G (a6.out.nx m a);clear m a a6)
 go_upto_region 8 with(go_at_call 70;refine(f9 a5.out.m 15 _ _ _ _ rfl (aZ (by(try simp only[bE,bI]);have:=al.out;omega))).mono ?_;rintro e cV ⟨rfl,dr,m,a⟩;have aJ:=G (a5.out.nx m a);clear m a a5)
 rw[bT.out]at aJ;clear aS bD al bT ce;have R:=aJ.out.x.1.cell;have bV:=G (show nP (ps.drop 0) 0 H=y from cG.out);have bW:=G (show H.frame=(d:Int)/\H.slots.length<=0 from⟨bM.out.1,by rw[bM.out.2];exact ah _⟩)
 go_upto_region 9 with fail
 clear R
 go_loopw [45] (λab wr=> ∃(j:Nat) (aH:Nat->Prop) (w:CS),ab= .int .i64 (j:Int)/\j<=ps.length/\Hid (CQ k ((nm,(s.code.length:Int))::ai) O A A.heap.size 81 #[.string (ak nm), .slice Z ps.length c, .slice B u.length K] aH w wr)/\Hid (nP (ps.drop j) j w=y)/\Hid (w.frame=(d:Int)/\w.slots.length<=j)) (λab _=>ps.length-(intOf ab).toNat)
 case atStart=>exact⟨0,_,_,rfl,aD _,aJ,bV,bW⟩
 case round=>
  obtain⟨j,aH,w,rfl,cq,X,be,aj⟩:=hrel;clear aJ bV bW;generalize wr=b7 at*;by_cases hlt:j<ps.length
  ·have av:(j:Int)<(ps.length:Int):=Qa
   obtain⟨dB,c',bp,cs⟩:=cH.out;injection bp with ch df cg;subst ch cg;rcases cs with cm|⟨_,_,b,o,rfl,hPb,hbw,hcell⟩
   ·rw[cm]at hlt;simp at hlt
   have e0:=(X.out.T.keepP ba.out).cell (o+j) hPb hbw|>.trans (hcell j hlt);have cj:=cK.out _ (ay hlt);have b4:=G ((zd hlt).symm.trans be.out);have bC:=qH (ps.drop (j+1)) (j+1) ((w.decl ps[j]).op 15 (1+j) 15 (32+4*j));rw[b4.out,bE,cf]at bC;have b5:=G (show w.big<=900000000 by have:=bf.out;omega)
   have cL:=G (show((w.decl ps[j]).op 15 (1+j) 15 (32+4*j)).frame=(d:Int)/\((w.decl ps[j]).op 15 (1+j) 15 (32+4*j)).slots.length<=j+1 from⟨aj.out.1,by
    show(iq _ _ _).length<=_;have:=aj.out.2
    unfold iq;split<;>simp<;>omega⟩)
   generalize ps[j]=p at*;have bn:IntKind.i64.wrap (1+(j:Int))=1+(j:Int):=Qc
   have bl:IntKind.i64.wrap (4*(j:Int))=4*(j:Int):=Qc
   have de:IntKind.i64.wrap (32+4*(j:Int))=32+4*(j:Int):=Qc
   clear bC hcell
   go_wp2_with (first
    |(go_at_call 71;refine(Fo X.out.m p (ax cj Qd) (by rw[aj.out.1];exact aA.out) (by have:=aj.out.2;omega)).mono ?_;rintro e cc ⟨rfl,cD,m,a⟩;have af:=G (X.out.nx m a);clear m a X e0)
    |(go_at_call 70;refine(f9 af.out.m 15 _ _ _ _ rfl (aZ (by rw[cf];have:=b5.out;omega))).mono ?_;rintro e cU ⟨rfl,dq,m,a⟩;have cJ:=G (af.out.nx m a);clear m a af))
   go_roundw
   case rel=>exact⟨j+1,_,_,by go_num,by omega,cJ,b4,cL⟩
   case measure=>simp[intOf];omega
  ·have co:ps.length=j:=Qa
   subst co;have av: ¬(ps.length:Int)<(ps.length:Int):=Qa
   have ao:=G (show w=y by have:=be.out;rw[bQ (ah _),nP]at this;exact this);rw[ao.out]at X aj;clear be ao hlt cq;generalize b7=cT at*
   go_upto_region 15 with(go_at_call 69;refine(iW X.out.m 1 _ _ _ rfl (aZ (by have:=bf.out;omega))).mono ?_;rintro e cc ⟨rfl,cD,m,a⟩;have af:=G (X.out.nx m a);clear m a X)
   have R:=af.out.x.1.cell;have cF:=G (show(y.vl 1 0 0).frame=(d:Int)from aj.out.1);have b5:=G (show(y.vl 1 0 0).big+cN u<=900000000 by rw[bI];exact bf.out);generalize y.vl 1 0 0=SV at*;have bn:IntKind.i64.wrap (4*(ps.length:Int))=4*(ps.length:Int):=Qc
   have bl:IntKind.i64.wrap (32+4*(ps.length:Int))=32+4*(ps.length:Int):=Qc
   clear av
   go_upto_region 16 with fail
   clear R bn bl
   go_loopw [6] (λab wr=> ∃(q:Nat) (aH:Nat->Prop) (w:CS),ab= .int .i64 ((d:Int)-4*(q:Int))/\q<=cN u/\Hid (CQ k ((nm,(s.code.length:Int))::ai) O A A.heap.size 81 #[.string (ak nm), .slice Z ps.length c, .slice B u.length K] aH w wr)/\Hid (CI q (ps.length+(cN u-q)) w=F)/\Hid (w.frame=(d:Int))) (λab _=>d-(intOf ab).toNat)
   case atStart=>exact⟨cN u,_,_,by have:=aM.out;rw[show(d:Int)-4*((cN u:Nat):Int)=32+4*(ps.length:Int) by omega],ah _,af,G (by rw[m_,bm];exact cE.out),cF⟩
   case round=>
    obtain⟨q,dp,bh,rfl,ci,I,aO,bb⟩:=hrel;clear af;generalize wr=b8 at*;have aG:b8.cell? ⟨k.c,9+1,none⟩=some (.int .i64 (d:Int)):=by rw[qz I.out.m,bb.out]
    by_cases hq0:0<q
    ·have av:(d:Int)-4*(q:Int)<(d:Int):=Qa
     have dd:IntKind.i64.wrap ((d:Int)-4*(q:Int)+4)=(d:Int)-4*(q:Int)+4:=by have:=aM.out;simp[IntKind.wrap,IntKind.signed,IntKind.bits];omega
     have cP:=G (show bh.big<=900000000 by have cy:=congrArg CS.big aO.out;rw[(tq _ _ _).1]at cy;have:=cR.out;omega);have cM:=G ((BP hq0).symm.trans aO.out);go_wp2_with (go_at_call 70;refine(f9 I.out.m 15 _ _ _ _ rfl (aZ (ax cP.out Qd))).mono ?_;rintro e cb ⟨rfl,cC,m,a⟩;have ap:=G (I.out.nx m a);clear m a I aG);go_roundw
     case rel=>exact⟨q-1,_,_,by rw[show(d:Int)-4*((q-1:Nat):Int)=(d:Int)-4*(q:Int)+4 by omega],by omega,ap,G (by have bL:=cM.out;have bp:=aM.out;rw[show(32:Int)+4*((ps.length+(cN u-q):Nat):Int)=(d:Int)-4*(q:Int) by omega]at bL;rw[show ps.length+(cN u-(q-1))=ps.length+(cN u-q)+1 by omega];exact bL),G bb.out⟩
     case measure=>have:=aM.out;simp[intOf];omega
    ·obtain rfl:q=0:=Qa
     have ao:=G (show bh=F from aO.out);rw[ao.out]at I;have av: ¬(d:Int)-4*((0:Nat):Int)<(d:Int):=Qa
     clear hq0 ci aO ao bb;have ar:=BN k ((nm,(s.code.length:Int))::ai) u;unfold xV at ar;have ar:=G ar;have R:=I.out.x.1.cell;have bd:=G (show(ee (aR k.sz) u F).big+4<=900000000 from cS.out)
     go_upto_region 20 with(go_at_call 72;refine(ar.out _ _ _ _ _ I.out.m I.out.e (bU.out.keep (I.out.T.keepP ba.out) (Q:=λb=>b<k.base) (λ_ J _=>J)) cO.out bX.out.1 bX.out.2 (aN bd.out)).mono ?_;rintro e cb ⟨rfl,cC,m,a⟩;have ap:=G (I.out.nx m a);clear m a I R aG ar)
     generalize ee (aR k.sz) u F=dm at*;go_wp2_with (first|(go_at_call 69;refine(iW ap.out.m 1 _ _ _ rfl (aZ (by have:=bd.out;omega))).mono ?_;rintro e ca ⟨rfl,dn,m,a⟩;have M:=G (ap.out.nx m a);clear m a ap)|(go_at_call 73;refine(Fp M.out.m (by rw[bI];have:=bd.out;omega)).mono ?_;rintro e z ⟨rfl,bS,m,a⟩;have cI:=G (M.out.nx m a);clear m a M));exact bodyPost_end (results_none rfl _ _ _) rfl ⟨rfl,by rw[bc.out];exact cI.out.cp⟩
def GX (s:CS):CS:=((((((s.call dv).vl 1 0 255).op 9 2 1 0).vl 1 1 0).vl 1 3 0).vl 1 4 0|>.op 22 0 0 0).vl 18 0 (-1)
theorem Cg {k:CC} {z:List (Nm×Int)} {O:Nat->Prop} {o:World} {s:CS} (m:CX k z O o s) (H:s.big<=900000000):
  Calls prog 32 #[.pointer (some ⟨k.c,0,none⟩)] o λe w'=>e= .returned (.tuple #[])/\CP k z O o (GX s) w':=by
 have ai:au o o.drew:=eJ (aG o);obtain⟨aW,aR,aT,aU,aS,I,aD⟩:=m.ext ai;have a1:=aZ H;have aY:=qo H;have ax:=G (uR I 20 20 14 0 rfl Qa);have az:=G (jV (O:=O) ai);have aK:=G (show GX s=((((((s.call dv).vl 1 0 255).op 9 2 1 0).vl 1 1 0).vl 1 3 0).vl 1 4 0|>.op 22 0 0 0).vl 18 0 (-1)from rfl);have aL:=G (show(s.call dv).big+10<=900000100 by rw[cA];omega);have u:=I.blk.cell;clear m I H;go_enter func32,ntmps32;go_wp2_with fail
 go_cut []from 2 to 13 (λK=> ∃J,Hid (CX k z J K (s.call dv))/\Hid (eb O o J K))
 case first=>
  go_region_law (first
   |(refine lY IJ rfl _ _ rfl k.base _ s.calls.length (fO s.calls) rfl (A.out.calls.alloc _) w.heap.size (nz (s.code.length,dv)) rfl (aq w _ _) rfl (ny _) Qa Qd (by rw[World.size_alloc];have:=(fw A.out).1;omega) ?_;intro ba a3 aB af ag aj;obtain⟨F,ae⟩:=A.out.callm (n:=s.calls.length) (λb=>gW) (aa w _) (s.code.length,dv) rfl af ag aj;clear u aI;have u:=F.cell;have aH:=F.frozen;have aA:=G ae;clear af ag aj F ae A)
   |(go_simp;go_at_call 69;refine ax.out.mono ?_;rintro e w ⟨rfl,ad⟩;obtain⟨aV,y,a⟩:=ad.own aD;have ay:=G (qO az.out a);have A:=G y;clear u;have u:=y.blk.cell;have aI:=(y.blk.alloc (.cells #[.int .i64 (s.code.length:Int), .string ⟨#[109,97,105,110]⟩] 155)).cell;clear y ax a ad az))
  all_goals
   clear u aH;go_wp2_with fail;obtain⟨aw,ak,ah⟩:=aA.out;have aF:=G (show CX k z aw _ (s.call dv)from ak);have aE:=G (ay.out.trans ah);clear aA ak ah ay
   go_meet
   case rel=>exact⟨_,aF,aE⟩
 case rest=>
 obtain⟨a9,ac,av⟩:=hcut;generalize s.call dv=aX at*;have a2:=aL.out
 go_upto_region 2 with(go_at_call 69;refine(iW ac.out 1 _ _ _ rfl (aZ (by(try simp only[bI,bE,bM,bL,cO,cE,cA,cf,dK,dF,dW,dz,eM]);omega))).mono ?_;rintro e w ⟨rfl,J,d,a⟩;have ar:=cU av a;have ab:=G d;clear ac av d a)
 go_upto_region 3 with(go_at_call 70;refine(f9 ab.out 9 _ _ _ _ rfl (aZ (by(try simp only[bI,bE,bM,bL,cO,cE,cA,cf,dK,dF,dW,dz,eM]);omega))).mono ?_;rintro e aB ⟨rfl,a8,d,a⟩;have ap:=cU ar a;have Z:=G d;clear ab ar d a)
 go_upto_region 4 with(go_at_call 69;refine(iW Z.out 1 _ _ _ rfl (aZ (by(try simp only[bI,bE,bM,bL,cO,cE,cA,cf,dK,dF,dW,dz,eM]);omega))).mono ?_;rintro e aQ ⟨rfl,aw,d,a⟩;have ao:=cU ap a;have X:=G d;clear Z ap d a)
 go_upto_region 5 with(go_at_call 69;refine(iW X.out 1 _ _ _ rfl (aZ (by(try simp only[bI,bE,bM,bL,cO,cE,cA,cf,dK,dF,dW,dz,eM]);omega))).mono ?_;rintro e aP ⟨rfl,a7,d,a⟩;have an:=cU ao a;have V:=G d;clear X ao d a)
 go_upto_region 6 with(go_at_call 69;refine(iW V.out 1 _ _ _ rfl (aZ (by(try simp only[bI,bE,bM,bL,cO,cE,cA,cf,dK,dF,dW,dz,eM]);omega))).mono ?_;rintro e aO ⟨rfl,a6,d,a⟩;have am:=cU an a;have R:=G d;clear V an d a)
 go_upto_region 7 with(go_at_call 70;refine(f9 R.out 22 _ _ _ _ rfl (aZ (by(try simp only[bI,bE,bM,bL,cO,cE,cA,cf,dK,dF,dW,dz,eM]);omega))).mono ?_;rintro e aN ⟨rfl,a5,d,a⟩;have al:=cU am a;have M:=G d;clear R am d a)
 go_wp2_with (go_at_call 69;refine(iW M.out 18 _ _ _ rfl (aZ (by(try simp only[bI,bE,bM,bL,cO,cE,cA,cf,dK,dF,dW,dz,eM]);omega))).mono ?_;rintro e aM ⟨rfl,a4,d,a⟩;have aJ:=cU al a;have aC:=G d;clear M al d a);exact bodyPost_end (results_none rfl _ _ _) rfl ⟨rfl,_,aK.out▸aC.out,aJ.out⟩
end
end Go.Proofs.YtoedmpgicdekmaaGreatDoor
