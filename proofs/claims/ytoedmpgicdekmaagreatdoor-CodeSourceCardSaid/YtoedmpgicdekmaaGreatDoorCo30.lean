/- Parts of the proof. -/
import Derived.Test.YtoedmpgicdekmaaGreatDoorCo29
set_option maxRecDepth 100000
set_option maxHeartbeats 8000000
set_option linter.all false
namespace Go.Proofs.YtoedmpgicdekmaaGreatDoor
open Go.Proofs.Tryz
section
open Go.RowKit
theorem mE (l:List (Nm×Int)) (nm:Nm) (v:Int) (x:Nm):(gL l).upd nm (.int .i64 v) x=gL ((nm,v)::l) x:=by
 unfold KF.upd gL iw;rw[jk];by_cases hx:x=nm
 ·subst hx;simp
 ·have:(nm==x)=false:=by simpa using λe=>hx e.symm
  rw[if_neg hx];simp only[this]
theorem jt.at_cp {k:CC} {X G:List (Nm×Int)} {O:Nat->Prop} {z w':World} {s:CS} {w d o u h:Value} (a:jt k X w d o u h z s) (F: ∀j,O j↔some j∈bM k w d o u h) (R:cH w' k.ba (gL G)) (A:z.grownBy w' (some k.ba)):CP k G O z s w':=by
 have K: ∀(j c:Nat),j≠3->(bM k w d o u h)[j]? =some (some c)->w'.heap[c]? =z.heap[c]? :=λj c V y=>by
  refine A.block c (a.lo c (cI y)).2 λe=> ?_;exact(jN a.nd V y (show(bM k w d o u h)[3]? =some (some k.ba)from rfl)).resolve_left Qe e
 refine⟨O,⟨w,d,o,u,h,⟨(K 0 _ Qd rfl).trans a.blk,eI a.code λc e=>K 5 c Qd (congrArg some e),eI a.tx λc e=>K 6 c Qd (congrArg some e),eI a.calls λc e=>K 7 c Qd (congrArg some e),eI a.dats λc e=>K 8 c Qd (congrArg some e),a.pl.obj (K 1 _ Qd rfl),a.sz.obj (K 2 _ Qd rfl),R,uF a.sl λc e=>K 4 c Qd (congrArg some e),a.nd,λc y=>⟨(a.lo c y).1,aA (a.lo c y).2 A.size⟩⟩,F⟩,.of_grown A λc e=> ?_,λc e=> .inl e⟩;injection e with e;subst e;exact(F k.ba).2 (by simp[bM])
theorem jt.fn_cp {k:CC} {aj:List (Nm×Int)} {O:Nat->Prop} {h:World} {s:CS} {y o u w z:Value} (a:jt k aj y o u w z h s) (H: ∀j,O j↔some j∈bM k y o u w z) {d:Nat} (R:oS h d (gL []) 0) {V:Nat} (aq:k.base<=V) (ap:V<=d) (ah: ∀b,O b->b<V) (A:Int):
  ∃Z,CX k aj Z ((h.setCell ⟨k.c,9,none⟩ (.map (some d))).setCell ⟨k.c,10,none⟩ (.int .i64 A)) {s with slots:=[],frame:=A}/\Mv O h ((h.setCell ⟨k.c,9,none⟩ (.map (some d))).setCell ⟨k.c,10,none⟩ (.int .i64 A))/\ ∀b,Z b->O b\/b=d:=by
 have F:=je h k.c 9 (.map (some d));have X:=je (h.setCell ⟨k.c,9,none⟩ (.map (some d))) k.c 10 (.int .i64 A);have aa:O k.c:=(H _).2 (by simp[bM]);have K: ∀(j c:Nat),j≠0->(bM k y o u w z)[j]? =some (some c)->((h.setCell ⟨k.c,9,none⟩ (.map (some d))).setCell ⟨k.c,10,none⟩ (.int .i64 A)).heap[c]? =h.heap[c]? :=λj c ao ai=>by
  have ag:some c≠some k.c:=(jN a.nd ao ai (show(bM k y o u w z)[0]? =some (some k.c)from rfl)).resolve_left Qe;have an:=(a.lo c (cI ai)).2;exact(X.block c (by have:=F.size;omega) ag).trans (F.block c an ag)
 have al: ∀ad∈bM k y o u w z,ad≠some d:=λad am e=>by subst e;have:=ah d ((H d).2 am);omega
 have ae:d≠k.c:=λe=>by have:=ah _ aa;omega
 refine⟨λb=>some b∈bM k y o u w (.map (some d)),⟨y,o,u,w,.map (some d),⟨?_,eI a.code λc e=>K 5 c Qd (congrArg some e),eI a.tx λc e=>K 6 c Qd (congrArg some e),eI a.calls λc e=>K 7 c Qd (congrArg some e),eI a.dats λc e=>K 8 c Qd (congrArg some e),a.pl.obj (K 1 _ Qd rfl),a.sz.obj (K 2 _ Qd rfl),a.at_.obj (K 3 _ Qd rfl),.inr ⟨d,rfl,?_⟩,?_,?_⟩,λb=>ip⟩,?_,?_⟩
 ·simpa using(a.blk.set 9 (.map (some d))).set 10 (.int .i64 A)
 ·exact(R.obj (F.block d R.1.lt (λe=>ae (I e)))).obj (X.block d (by have:=R.1.lt;have:=F.size;omega) (λe=>ae (I e)))
 ·have:bM k y o u w (.map (some d))=(bM k y o u w z).set 4 (some d):=by simp[bM,DC]
  rw[this];exact o7 a.nd 4 al
 ·intro b G;have af:=ay F.size X.size;by_cases e:b=d
  ·subst e;exact⟨by omega,aA R.1.lt af⟩
  ·have:some b∈bM k y o u w z:=by simp only[bM,DC,bV,bF,or_false]at G⊢;rcases G with a|a|a|a|a|a|a|a|a<;>simp_all
   exact⟨(a.lo b this).1,aA (a.lo b this).2 af⟩
 ·exact((gG O h).set (p:=⟨k.c,9,none⟩) (λ_=>aa) _).set (p:=⟨k.c,10,none⟩) (λ_=>aa) _
 ·intro b G;by_cases e:b=d
  ·exact .inr e
  ·left;rw[H];simp only[bM,DC,bV,bF,or_false]at G⊢;rcases G with a|a|a|a|a|a|a|a|a<;>simp_all
def Ka (f:Fc):Prop:=f.nm.length<=1000000000/\(∀p∈f.ps,p.length<=1000000000)/\p7 f.body=true/\f.ps.length+cK f.body<=1000/\eX f.body<=6000000
theorem zW {xs:List Nm} {j:Nat} {s:CS} (a:j<xs.length):lf (xs.drop j) j s=lf (xs.drop (j+1)) (j+1) ((s.decl xs[j]).op 15 (1+j) 15 (32+4*j)):=by rw[ap a,lf]
theorem oN: ∀(l:List Nm) (i:Nat) (s:CS),(lf l i s).big=s.big+l.length/\(lf l i s).frame=s.frame/\(lf l i s).slots.length<=s.slots.length+l.length
 | [],i,s=>⟨rfl,rfl,ah _⟩
 |p::l,i,s=>by
  have a:=oN l (i+1) ((s.decl p).op 15 (1+i) 15 (32+4*i));have d:((s.decl p).op 15 (1+i) 15 (32+4*i)).slots.length<=s.slots.length+1:=by
   show(iU _ _ _).length<=_;unfold iU;split<;>simp
  rw[lf];refine⟨by rw[a.1,bh,cf,ag];omega,a.2.1,by rw[ag];omega⟩
theorem t8: ∀(k i:Nat) (s:CS),(wh k i s).big=s.big+k/\(wh k i s).sf=s.sf
 |0,i,s=>⟨rfl,rfl⟩
 |k+1,i,s=>by
  have a:=t8 k (i+1) (s.op 15 0 15 (32+4*i));rw[wh];exact⟨by rw[a.1,bh];omega,a.2⟩
theorem CT {a i:Nat} {s:CS} (d:0<a):wh a i s=wh (a-1) (i+1) (s.op 15 0 15 (32+4*i)):=by
 obtain⟨e,rfl⟩:=ee (Nat.pos_iff_ne_zero.1 d);rfl
theorem Ff (k:CC) (ap:List (Nm×Int)) (f:Fc) (cx:Ka f) (O:Nat->Prop) (A:World) (s:CS) (ai B:Option Addr) (c I:Nat) (m:CX k ap O A s) (bV:kK k A) (bX:rA A (λb=>b<k.base) (.slice ai f.ps.length c) f.ps) (bW:eq A (λb=>b<k.base) (.slice B f.body.length I) f.body)
  (al:(zY (aQ k.sz) f s).big<=900000000):
  Calls prog 33 #[.pointer (some ⟨k.c,0,none⟩),.agg #[.string (Z f.nm),.slice ai f.ps.length c,.slice B f.body.length I]] A λcF w'=>cF=.returned (.tuple #[])/\CP k ((f.nm,(s.code.length:Int))::ap) O A (zY (aQ k.sz) f s) w':=by
 obtain⟨nm,ps,u⟩:=f;obtain⟨cs,bz,bJ,bI,bt⟩:=cx;simp only at*;have cr:nm.length<=maxLen:=ay cs Qd;have bi:=G m;have cO:=G bX;have b4:=G bW;have ba:=G (λW ai c B I (X:eq W (λb=>b<k.base) (.slice B u.length I) u)=>qq nm ps u bt J (λb=>b<k.base) W ai B c I X);obtain⟨d,aJ⟩: ∃d:Nat,e_ ⟨nm,ps,u⟩=d:=⟨_,rfl⟩
 have bQ:d=4*(8+ps.length+cK u):=aJ.symm;rw[aJ]at ba;obtain⟨af,am⟩: ∃af:CS,af={s with slots:=[],frame:=(d:Int)}:=⟨_,rfl⟩
 have bk:=G (show zY (aQ k.sz) ⟨nm,ps,u⟩ s=((dI (aQ k.sz) u (wh (cK u) ps.length ((lf ps 0 (((((af.op 3 15 15 (-(d:Int))).vl 1 0 3071).op 12 0 0 15).op 7 0 0 0).op 15 14 15 0)).vl 1 0 0))).vl 1 1 0).back by
  subst am;rw[<-aJ];rfl)
 have aZ:af.frame=(d:Int):=by rw[am]
 have bL:af.slots.length=0:=by rw[am];rfl
 have cA:af.big=s.big:=by rw[am];rfl
 obtain⟨R,ao⟩: ∃R:CS,(((((af.op 3 15 15 (-(d:Int))).vl 1 0 3071).op 12 0 0 15).op 7 0 0 0).op 15 14 15 0)=R:=⟨_,rfl⟩
 have cD:R.big=s.big+5:=by rw[<-ao];simp only[bh,a7];omega
 have a6:R.frame=(d:Int)/\R.slots.length=0:=by rw[<-ao];exact⟨aZ,bL⟩
 obtain⟨y,av⟩: ∃y,lf ps 0 R=y:=⟨_,rfl⟩
 have aL:=oN ps 0 R;rw[av]at aL;obtain⟨F,au⟩: ∃F,wh (cK u) ps.length (y.vl 1 0 0)=F:=⟨_,rfl⟩
 have a5:=t8 (cK u) ps.length (y.vl 1 0 0);rw[au,a7]at a5;have a4:=qU a5.2;have cC:=iD (aQ k.sz) u F;rw[bk.out,ao,av,au,dn,a7]at al;rw[ao,av,au]at bk;have cY:=G (show(dI (aQ k.sz) u F).big+4<=900000000 from al);have cX:=G (show F.big<=900000000 by omega);have bn:=G (show y.big+1+cK u<=900000000 by omega);have dF:=G (show R.big+ps.length<=900000000 by omega);have cc:=G (show s.big+5<=900000000 by omega);have aI:(d:Int)≠0:=J
 have dq:(d:Int)<=100000:=J
 have b7:=G (show F.frame≠0/\F.slots.length+cK u<=1000 from⟨by rw[a4.1];show y.frame≠0;rw[aL.2.1,a6.1];exact aI,by rw[a4.2];show y.slots.length+_<=_;omega⟩);have dG:=G aL.2;have bZ:=G ao;have cN:=G av;have cL:=G au;have cR:=G bz;have cV:=G bJ;have bT:=G a6;have dp:(ps.length:Int)<=1000:=J
 have dr:(cK u:Int)<=1000:=J
 have dE:=G bI;have aV:=G bQ;replace aI:=G aI;obtain⟨N,bO⟩: ∃N,ps.length=N:=⟨_,rfl⟩
 have dD:=G bO;have aT:=G (CQ.new m bV 81 #[.string (Z nm),.slice ai ps.length c,.slice B u.length I]);clear m bV bX bW al aJ bQ ao av au aL a5 a4 cC cD a6 cA bz bJ bI bt bO;go_enter func33,ntmps33
 go_upto_region 1 with fail
 generalize World.alloc A _=dt at*;obtain⟨di,da,de,dg,dc,X,cB⟩:=id aT.out.m;obtain⟨dH,ds,rfl⟩:=kB X.code;have aX:=G X;have dm:=aU (show s.big<=900000000 by have:=cc.out;omega);clear X;refine aB 11 1 [] mixed Qb trivial ?_;repeat (refine sx ?_ (λc8 aY=> ?_) ?_;rotate_left;(focus have bU:=(aX.out.blk.ext aY.un).cell;have ad:=(aT.out.x.1.ext aY.un).cell;clear aY;go_simp<;>with_reducible rfl);simp only[bE,bD,bC,bB,bA])
 intro ch aF _;simp only[ae,aw];have H:=G (aT.out.ext aF.un);have bo:=G (aX.out.keep aF.un.size λc cz=>aF.un.obj (aX.out.lo c cz).2);clear aF aX aT
 go_upto_region 2 with(at_mapUpdate;refine fi xn rfl _ _ _ rfl (s:=nm) bo.out.at_ rfl cr rfl _ rfl ?_;intro z bF bH;obtain⟨bY,br,aH⟩:=bo.out.at_cp cB (bF.congr (mE ap nm (s.code.length:Int))) bH;have aC:=G br;have bb:=G (H.out.T.trans aH);have a9:=G (H.out.x.st aH);have b9:=G (H.out.e.st H.out.m aH);clear bF bH br aH bo H)
 have ad:=(a9.out.1.ext (aa z (.map #[] 0))).cell;have bG:=(bb.out.ex (aa z (.map #[] 0))).keepP bi.out;have b8:=G (ba.out (z.alloc (.map #[] 0)) ai c B I (b4.out.keep bG (Q:=λb=>b<k.base) (λ_ X _=>X)));have a8:=G (show oS (z.alloc (.map #[] 0)) z.heap.size (gL []) 0 from⟨(kM z).congr λ_=>rfl,#[],0,(MapKept.heap_alloc z _).1,rfl⟩);clear bG ba;have cu:= @run_makeMap prog
 go_upto_region 3 with(go_at_call 35;refine b8.out.mono ?_;rintro e cg ⟨rfl,a3⟩;have a2:=(aa z (.map #[] 0)).trans a3;obtain⟨dh,c9,dd,df,db,aK,a1⟩:=aC.out.ext a2;have cG:=aK.blk.cell;have bU:=aK.blk.frozen;obtain⟨cH,bq,bP,bN⟩:=aK.fn_cp a1 (a8.out.obj (a3.obj a8.out.1.lt)) (show k.base<=z.heap.size by have:=aC.out.lt ((a1 k.c).2 (by simp[bM]));omega) (ah _) (λb al=>(aC.out.lt al).2) (d:Int);have aP:=G (show eo bY z cH _ from⟨(cT a2).trans bP,λb al=>(bN b al).imp id λe=>by omega⟩);have bg:=G bq;clear cu ad b8 a8 a3 a2 aK a1 bq bP bN)
 rw[<-am]at bg;have aS:=G (CQ.mk bg.out (bb.out.trans aP.out) (a9.out.st aP.out) (b9.out.st aC.out aP.out));have ar:=G (show af.big+5<=900000000 by rw[am];exact cc.out);generalize World.setCell (World.setCell cg _ _) _ _=ck at*;clear aC bg bb a9 b9 aP cG bU am;have aN:ck.cell? ⟨k.c,9+1,none⟩=some (.int .i64 (d:Int)):=by rw[q_ aS.out.m,aZ]
 have cl:IntKind.i64.wrap (-(d:Int))= -(d:Int):=Qc
 go_upto_region 4 with(go_at_call 70;refine(gB aS.out.m 3 _ _ _ _ rfl (aU (by(try simp only[bh,a7]);have:=ar.out;omega))).mono ?_;rintro e c7 ⟨rfl,dC,m,a⟩;have bf:=G (aS.out.nx m a);clear m a aS aN)
 go_upto_region 5 with(go_at_call 69;refine(jn bf.out.m 1 _ _ _ rfl (aU (by(try simp only[bh,a7]);have:=ar.out;omega))).mono ?_;rintro e c6 ⟨rfl,dB,m,a⟩;have be:=G (bf.out.nx m a);clear m a bf)
 go_upto_region 6 with(go_at_call 70;refine(gB be.out.m 12 _ _ _ _ rfl (aU (by(try simp only[bh,a7]);have:=ar.out;omega))).mono ?_;rintro e c5 ⟨rfl,dA,m,a⟩;have bd:=G (be.out.nx m a);clear m a be)
 go_upto_region 7 with(go_at_call 70;refine(gB bd.out.m 7 _ _ _ _ rfl (aU (by(try simp only[bh,a7]);have:=ar.out;omega))).mono ?_;rintro e c4 ⟨rfl,dz,m,a⟩;have bc:=G (bd.out.nx m a);clear m a bd)
 go_upto_region 8 with(go_at_call 70;refine(gB bc.out.m 15 _ _ _ _ rfl (aU (by(try simp only[bh,a7]);have:=ar.out;omega))).mono ?_;rintro e c3 ⟨rfl,dy,m,a⟩;have aR:=G (bc.out.nx m a);clear m a bc)
 rw[bZ.out]at aR;clear aZ bL ar bZ cl;have ad:=aR.out.x.1.cell;have b5:=G (show lf (ps.drop 0) 0 R=y from cN.out);have b6:=G (show R.frame=(d:Int)/\R.slots.length<=0 from⟨bT.out.1,by rw[bT.out.2];exact ah _⟩)
 go_upto_region 9 with fail
 clear ad
 go_loopw [45] (λaj wr=> ∃(j:Nat) (aO:Nat->Prop) (w:CS),aj=.int .i64 (j:Int)/\j<=ps.length/\Hid (CQ k ((nm,(s.code.length:Int))::ap) O A A.heap.size 81 #[.string (Z nm),.slice ai ps.length c,.slice B u.length I] aO w wr)/\Hid (lf (ps.drop j) j w=y)/\Hid (w.frame=(d:Int)/\w.slots.length<=j)) (λaj _=>ps.length-(intOf aj).toNat)
 case atStart=>exact⟨0,_,_,rfl,aD _,aR,b5,b6⟩
 case round=>
  obtain⟨j,aO,w,rfl,cw,ag,bm,aq⟩:=hrel;clear aR b5 b6;generalize wr=cd at*;by_cases hlt:j<ps.length
  ·have aG:(j:Int)<(ps.length:Int):=J
   obtain⟨dJ,c',bw,cy⟩:=cO.out;injection bw with cn dl cm;subst cn cm;rcases cy with ct|⟨_,_,b,o,rfl,hPb,hbw,hcell⟩
   ·rw[ct]at hlt;simp at hlt
   have e0:=(ag.out.T.keepP bi.out).cell (o+j) hPb hbw|>.trans (hcell j hlt);have cq:=cR.out _ (ax hlt);have ca:=G ((zW hlt).symm.trans bm.out);have bK:=oN (ps.drop (j+1)) (j+1) ((w.decl ps[j]).op 15 (1+j) 15 (32+4*j));rw[ca.out,bh,cf]at bK;have cb:=G (show w.big<=900000000 by have:=bn.out;omega)
   have cS:=G (show((w.decl ps[j]).op 15 (1+j) 15 (32+4*j)).frame=(d:Int)/\((w.decl ps[j]).op 15 (1+j) 15 (32+4*j)).slots.length<=j+1 from⟨aq.out.1,by
    show(iU _ _ _).length<=_;have:=aq.out.2
    unfold iU;split<;>simp<;>omega⟩)
   generalize ps[j]=p at*;have bv:IntKind.i64.wrap (1+(j:Int))=1+(j:Int):=Qc
   have bu:IntKind.i64.wrap (4*(j:Int))=4*(j:Int):=Qc
   have dk:IntKind.i64.wrap (32+4*(j:Int))=32+4*(j:Int):=Qc
   clear bK hcell
   go_wp2_with (first
    |(go_at_call 71;refine(F5 ag.out.m p (ay cq Qd) (by rw[aq.out.1];exact aI.out) (by have:=aq.out.2;omega)).mono ?_;rintro e cj ⟨rfl,cJ,m,a⟩;have an:=G (ag.out.nx m a);clear m a ag e0)
    |(go_at_call 70;refine(gB an.out.m 15 _ _ _ _ rfl (aU (by rw[cf];have:=cb.out;omega))).mono ?_;rintro e c0 ⟨rfl,dx,m,a⟩;have cQ:=G (an.out.nx m a);clear m a an))
   go_roundw
   case rel=>exact⟨j+1,_,_,by go_num,by omega,cQ,ca,cS⟩
   case measure=>simp[intOf];omega
  ·have cv:ps.length=j:=J
   subst cv;have aG: ¬(ps.length:Int)<(ps.length:Int):=J
   have az:=G (show w=y by have:=bm.out;rw[bS (ah _),lf]at this;exact this);rw[az.out]at ag aq;clear bm az hlt cw;generalize cd=cZ at*
   go_upto_region 15 with(go_at_call 69;refine(jn ag.out.m 1 _ _ _ rfl (aU (by have:=bn.out;omega))).mono ?_;rintro e cj ⟨rfl,cJ,m,a⟩;have an:=G (ag.out.nx m a);clear m a ag)
   have ad:=an.out.x.1.cell;have cM:=G (show(y.vl 1 0 0).frame=(d:Int)from aq.out.1);have cb:=G (show(y.vl 1 0 0).big+cK u<=900000000 by rw[a7];exact bn.out);generalize y.vl 1 0 0=SV at*;have bv:IntKind.i64.wrap (4*(ps.length:Int))=4*(ps.length:Int):=Qc
   have bu:IntKind.i64.wrap (32+4*(ps.length:Int))=32+4*(ps.length:Int):=Qc
   clear aG
   go_upto_region 16 with fail
   clear ad bv bu
   go_loopw [6] (λaj wr=> ∃(q:Nat) (aO:Nat->Prop) (w:CS),aj=.int .i64 ((d:Int)-4*(q:Int))/\q<=cK u/\Hid (CQ k ((nm,(s.code.length:Int))::ap) O A A.heap.size 81 #[.string (Z nm),.slice ai ps.length c,.slice B u.length I] aO w wr)/\Hid (wh q (ps.length+(cK u-q)) w=F)/\Hid (w.frame=(d:Int))) (λaj _=>d-(intOf aj).toNat)
   case atStart=>exact⟨cK u,_,_,by have:=aV.out;rw[show(d:Int)-4*((cK u:Nat):Int)=32+4*(ps.length:Int) by omega],ah _,an,G (by rw[nQ,bx];exact cL.out),cM⟩
   case round=>
    obtain⟨q,dw,bp,rfl,co,V,aW,bj⟩:=hrel;clear an;generalize wr=ce at*;have aN:ce.cell? ⟨k.c,9+1,none⟩=some (.int .i64 (d:Int)):=by rw[q_ V.out.m,bj.out]
    by_cases hq0:0<q
    ·have aG:(d:Int)-4*(q:Int)<(d:Int):=J
     have dj:IntKind.i64.wrap ((d:Int)-4*(q:Int)+4)=(d:Int)-4*(q:Int)+4:=by have:=aV.out;simp[IntKind.wrap,IntKind.signed,IntKind.bits];omega
     have cW:=G (show bp.big<=900000000 by have cE:=congrArg CS.big aW.out;rw[(t8 _ _ _).1]at cE;have:=cX.out;omega);have cU:=G ((CT hq0).symm.trans aW.out);go_wp2_with (go_at_call 70;refine(gB V.out.m 15 _ _ _ _ rfl (aU (ay cW.out Qd))).mono ?_;rintro e ci ⟨rfl,cI,m,a⟩;have aA:=G (V.out.nx m a);clear m a V aN);go_roundw
     case rel=>exact⟨q-1,_,_,by rw[show(d:Int)-4*((q-1:Nat):Int)=(d:Int)-4*(q:Int)+4 by omega],by omega,aA,G (by have bR:=cU.out;have bw:=aV.out;rw[show(32:Int)+4*((ps.length+(cK u-q):Nat):Int)=(d:Int)-4*(q:Int) by omega]at bR;rw[show ps.length+(cK u-(q-1))=ps.length+(cK u-q)+1 by omega];exact bR),G bj.out⟩
     case measure=>have:=aV.out;simp[intOf];omega
    ·obtain rfl:q=0:=J
     have az:=G (show bp=F from aW.out);rw[az.out]at V;have aG: ¬(d:Int)-4*((0:Nat):Int)<(d:Int):=J
     clear hq0 co aW az bj;have aE:=CM k ((nm,(s.code.length:Int))::ap) u;unfold yH at aE;have aE:=G aE;have ad:=V.out.x.1.cell;have bl:=G (show(dI (aQ k.sz) u F).big+4<=900000000 from cY.out)
     go_upto_region 20 with(go_at_call 72;refine(aE.out _ _ _ _ _ V.out.m V.out.e (b4.out.keep (V.out.T.keepP bi.out) (Q:=λb=>b<k.base) (λ_ X _=>X)) cV.out b7.out.1 b7.out.2 (aM bl.out)).mono ?_;rintro e ci ⟨rfl,cI,m,a⟩;have aA:=G (V.out.nx m a);clear m a V ad aN aE)
     generalize dI (aQ k.sz) u F=du at*;go_wp2_with (first|(go_at_call 69;refine(jn aA.out.m 1 _ _ _ rfl (aU (by have:=bl.out;omega))).mono ?_;rintro e ch ⟨rfl,dv,m,a⟩;have H:=G (aA.out.nx m a);clear m a aA)|(go_at_call 73;refine(F6 H.out.m (by rw[a7];have:=bl.out;omega)).mono ?_;rintro e z ⟨rfl,bY,m,a⟩;have cP:=G (H.out.nx m a);clear m a H));exact bodyPost_end (results_none rfl _ _ _) rfl ⟨rfl,by rw[bk.out];exact cP.out.cp⟩
def Ha (s:CS):CS:=((((((s.call dH).vl 1 0 255).op 9 2 1 0).vl 1 1 0).vl 1 3 0).vl 1 4 0|>.op 22 0 0 0).vl 18 0 (-1)
theorem Dk {k:CC} {z:List (Nm×Int)} {O:Nat->Prop} {o:World} {s:CS} (m:CX k z O o s) (R:s.big<=900000000):
  Calls prog 32 #[.pointer (some ⟨k.c,0,none⟩)] o λe w'=>e=.returned (.tuple #[])/\CP k z O o (Ha s) w':=by
 have ao:au o o.drew:=eR (aI o);obtain⟨a4,aY,a1,a2,aZ,V,aK⟩:=m.ext ao;have a8:=aU R;have a6:=qP R;have aD:=G (vK V 20 20 14 0 rfl J);have aF:=G (kj (O:=O) ao);have aQ:=G (show Ha s=((((((s.call dH).vl 1 0 255).op 9 2 1 0).vl 1 1 0).vl 1 3 0).vl 1 4 0|>.op 22 0 0 0).vl 18 0 (-1)from rfl);have aR:=G (show(s.call dH).big+10<=900000100 by rw[cG];omega);have u:=V.blk.cell;clear m V R;go_enter func32,ntmps32;go_wp2_with fail
 go_cut []from 2 to 13 (λI=> ∃X,Hid (CX k z X I (s.call dH))/\Hid (eo O o X I))
 case first=>
  go_region_law (first
   |(refine mu IW rfl _ _ rfl k.base _ s.calls.length (f9 s.calls) rfl (A.out.calls.alloc _) w.heap.size (oo (s.code.length,dH)) rfl (aq w _ _) rfl (om _) J Qd (by rw[World.size_alloc];have:=(fL A.out).1;omega) ?_;intro bi ba aH al am ap;obtain⟨F,Z⟩:=A.out.callm (n:=s.calls.length) (λb=>ip) (aa w _) (s.code.length,dH) rfl al am ap;clear u aO;have u:=F.cell;have aN:=F.frozen;have aG:=G Z;clear al am ap F Z A)
   |(go_simp;go_at_call 69;refine aD.out.mono ?_;rintro e w ⟨rfl,aj⟩;obtain⟨a3,y,a⟩:=aj.own aK;have aE:=G (rx aF.out a);have A:=G y;clear u;have u:=y.blk.cell;have aO:=(y.blk.alloc (.cells #[.int .i64 (s.code.length:Int),.string ⟨#[109,97,105,110]⟩] 155)).cell;clear y aD a aj aF))
  all_goals
   clear u aN;go_wp2_with fail;obtain⟨aC,ar,an⟩:=aG.out;have aM:=G (show CX k z aC _ (s.call dH)from ar);have aL:=G (aE.out.trans an);clear aG ar an aE
   go_meet
   case rel=>exact⟨_,aM,aL⟩
 case rest=>
 obtain⟨bg,ai,aB⟩:=hcut;generalize s.call dH=a5 at*;have a9:=aR.out
 go_upto_region 2 with(go_at_call 69;refine(jn ai.out 1 _ _ _ rfl (aU (by(try simp only[a7,bh,bo,bm,cO,cD,cG,cf,dn,dN,eb,dl,eV]);omega))).mono ?_;rintro e w ⟨rfl,X,d,a⟩;have aA:=cW aB a;have ah:=G d;clear ai aB d a)
 go_upto_region 3 with(go_at_call 70;refine(gB ah.out 9 _ _ _ _ rfl (aU (by(try simp only[a7,bh,bo,bm,cO,cD,cG,cf,dn,dN,eb,dl,eV]);omega))).mono ?_;rintro e aH ⟨rfl,bf,d,a⟩;have az:=cW aA a;have ag:=G d;clear ah aA d a)
 go_upto_region 4 with(go_at_call 69;refine(jn ag.out 1 _ _ _ rfl (aU (by(try simp only[a7,bh,bo,bm,cO,cD,cG,cf,dn,dN,eb,dl,eV]);omega))).mono ?_;rintro e aX ⟨rfl,aC,d,a⟩;have ay:=cW az a;have af:=G d;clear ag az d a)
 go_upto_region 5 with(go_at_call 69;refine(jn af.out 1 _ _ _ rfl (aU (by(try simp only[a7,bh,bo,bm,cO,cD,cG,cf,dn,dN,eb,dl,eV]);omega))).mono ?_;rintro e aW ⟨rfl,be,d,a⟩;have ax:=cW ay a;have ae:=G d;clear af ay d a)
 go_upto_region 6 with(go_at_call 69;refine(jn ae.out 1 _ _ _ rfl (aU (by(try simp only[a7,bh,bo,bm,cO,cD,cG,cf,dn,dN,eb,dl,eV]);omega))).mono ?_;rintro e aV ⟨rfl,bd,d,a⟩;have aw:=cW ax a;have ad:=G d;clear ae ax d a)
 go_upto_region 7 with(go_at_call 70;refine(gB ad.out 22 _ _ _ _ rfl (aU (by(try simp only[a7,bh,bo,bm,cO,cD,cG,cf,dn,dN,eb,dl,eV]);omega))).mono ?_;rintro e aT ⟨rfl,bc,d,a⟩;have av:=cW aw a;have H:=G d;clear ad aw d a)
 go_wp2_with (go_at_call 69;refine(jn H.out 18 _ _ _ rfl (aU (by(try simp only[a7,bh,bo,bm,cO,cD,cG,cf,dn,dN,eb,dl,eV]);omega))).mono ?_;rintro e aS ⟨rfl,bb,d,a⟩;have aP:=cW av a;have aJ:=G d;clear H av d a);exact bodyPost_end (results_none rfl _ _ _) rfl ⟨rfl,_,aQ.out▸aJ.out,aP.out⟩
end
end Go.Proofs.YtoedmpgicdekmaaGreatDoor
