/- Parts of the proof. -/
import Derived.Test.YtoedmpgicdekmaaGreatDoorCo38
set_option maxRecDepth 100000
set_option maxHeartbeats 8000000
set_option linter.all false
namespace Go.Proofs.YtoedmpgicdekmaaGreatDoor
open IntKind(i64)
open Go.Proofs.Tryz
section
open Go.RowKit
open Go.ChangeMaps Go.MapKept Go.WideMaps Go.WideElems
structure JQ (p:Pg):Prop where
 fs: ∀f∈p.fs,Ka f
 vs: ∀v∈p.vs,v.nm.length<=1000000000/\0<=v.sz/\v.sz<=1000000
 vl:p.vs.length<=1000000
 sz: ∀nm,0<=aQ (pI p.vs []) nm/\aQ (pI p.vs []) nm<=1000000
 bg: ∀j,(ig (aQ (pI p.vs [])) (p.fs.take j) ([],eU)).2.big<=900000000
 zr:0<=(iG p).2.2/\(iG p).2.2<=100000000
 vb:VB (iG p).1.code 1000000000
 c0:0<(iG p).1.code.length
 ca: ∀q∈(iG p).1.calls,q.1<(iG p).1.code.length/\q.2.length<=1000000000/\0<=aQ (iG p).2.1 q.2/\aQ (iG p).2.1 q.2<=1000000000
 da: ∀q∈(iG p).1.dats,q.1<(iG p).1.code.length/\q.2.length<=1000000000/\0<=aQ (qe p.vs (lN p.vs 0 []).1 (lN p.vs 0 []).2).2 q.2/\aQ (qe p.vs (lN p.vs 0 []).1 (lN p.vs 0 []).2).2 q.2<=1000000000
def dD (p:Pg):pD×Int:=if(iO p).2=0 then EL (iG p).2.1 (qe p.vs (lN p.vs 0 []).1 (lN p.vs 0 []).2).2 (iG p).1 (iG p).2.2 else(⟨[],[],0,0⟩,1)
theorem Im {a W:World} {h:Array Value} {t:TypeId} (X:((((a.alloc (.map #[] 0)).alloc (.map #[] 0)).alloc (.map #[] 0)).alloc (.cells h t))=W):
  au a W/\Hid (aO W (a.heap.size+1+1+1) t h)/\Hid (ii W a.heap.size (gL []))/\Hid (ii W (a.heap.size+1) (gL []))/\Hid (cH W (a.heap.size+1+1) (gL []))/\Hid (W.heap.size=a.heap.size+1+1+1+1):=by
 have y:(a.alloc (.map #[] 0)).heap.size=a.heap.size+1:=World.size_alloc _ _;have w:((a.alloc (.map #[] 0)).alloc (.map #[] 0)).heap.size=a.heap.size+1+1:=by rw[World.size_alloc,y]
 have u:(((a.alloc (.map #[] 0)).alloc (.map #[] 0)).alloc (.map #[] 0)).heap.size=a.heap.size+1+1+1:=by rw[World.size_alloc,w]
 have V:ii (a.alloc (.map #[] 0)) a.heap.size (gL []):=(ii.new a).congr λ_=>rfl;have R:ii ((a.alloc (.map #[] 0)).alloc (.map #[] 0)) (a.heap.size+1) (gL []):=by rw[<-y];exact(ii.new _).congr λ_=>rfl
 have F:ii (((a.alloc (.map #[] 0)).alloc (.map #[] 0)).alloc (.map #[] 0)) (a.heap.size+1+1) (gL []):=by rw[<-w];exact(ii.new _).congr λ_=>rfl
 subst X;have A:=aq (((a.alloc (.map #[] 0)).alloc (.map #[] 0)).alloc (.map #[] 0)) t h;rw[u]at A;have k: ∀{o:World} {b:Nat} {L:KF} (d:Obj),ii o b L->ii (o.alloc d) b L:=λd z=>z.obj ((aa _ d).obj z.1.lt);exact⟨(((aa a _).alloc' _).alloc' _).alloc' _,A,k _ (k _ (k _ V)),k _ (k _ R),(k _ F).1,G (by rw[World.size_alloc,u])⟩
def kC (b0:Nat) (va fa:Value) (LP LS:List (Nm×Int)):CC:=⟨b0+1+1+1,b0,va,fa,b0,b0+1,b0+1+1,LP,LS⟩
def oC (b0:Nat) (va fa:Value) (LP LS:List (Nm×Int)):Nat->Prop:=λb=>some b∈bM (kC b0 va fa LP LS) (.slice none 0 0) (.slice none 0 0) (.slice none 0 0) (.slice none 0 0) (.map none)
theorem CG {W w:World} {b0:Nat} {d h:Value} {u o:List (Nm×Int)} (a:DE W (b0+1+1+1) b0 (b0+1) #[d,h,.slice none 0 0,.slice none 0 0,.map (some b0),.map (some (b0+1)),.map (some (b0+1+1)),.slice none 0 0,.slice none 0 0,.map none,.int i64 0] u o w)
  (ha:cH W (b0+1+1) (gL [])) (z:W.heap.size=b0+1+1+1+1):CX (kC b0 d h u o) [] (oC b0 d h u o) w GX:=by
 refine⟨_,_,_,_,_,⟨a.blk,World.ownsRow_nil _ _ _ _,World.ownsRow_nil _ _ _ _,World.ownsRow_nil _ _ _ _,World.ownsRow_nil _ _ _ _,a.p.1,a.s.1,a.mv.map ha (show ¬(b0+1+1=b0\/b0+1+1=b0+1) by omega),.inl ⟨rfl,rfl,rfl⟩,?_,λb y=> ?_⟩,λb=>ip⟩
 ·simp[bM,kC,DC,Value.ownBlock];omega
 ·have A:=a.mv.size;simp[bM,kC,DC,Value.ownBlock]at y⊢;omega
theorem FN {b0:Nat} {a h:Value} {u o:List (Nm×Int)} {b:Nat} (d:oC b0 a h u o b):b0<=b:=by
 simp[oC,bM,kC,DC,Value.ownBlock]at d;omega
theorem vN {sz:Nm->Int}: ∀(a b:List Fc) (q:List (Nm×Int)×CS),ig sz (a++b) q=ig sz b (ig sz a q)
 | [],b,q=>rfl
 |f::a,b,q=>by rw[List.cons_append,ig,ig,vN a b]
theorem zX {sz:Nm->Int} {a:List Fc} {j:Nat} {q r:List (Nm×Int)×CS} (d:j<a.length) (e:ig sz (a.take j) q=r):ig sz (a.take (j+1)) q=((a[j].nm,(r.2.code.length:Int))::r.1,zY sz a[j] r.2):=by
 rw[aT d,vN,e];rfl
theorem Bl {h:World} {g:Nat} {t:TypeId} {y:Option Addr} {c:Nat} {l:List UInt8} (w:Sl h y c l) (G:aO h g t #[.slice none 0 0,.slice none 0 0,.int i64 0,.int i64 0]) (x A z F:Value):
  Sl ((((h.setCell ⟨g,0,none⟩ x).setCell ⟨g,1,none⟩ A).setCell ⟨g,2,none⟩ z).setCell ⟨g,3,none⟩ F) y c l:=by
 refine⟨w.le,w.max,w.nil,?_⟩;by_cases hl:l=[]
 ·exact .inl hl
 rcases w.rd with d|⟨b,o,ha,hbw,hc⟩
 ·exact .inl d
 have u:b≠g:=λe=>by
  subst e;have d:=hc 0 (List.length_pos_iff.2 hl);rw[G.cell]at d
  match hq:o+0,d with
  |0,d=>simp[rz]at d
  |1,d=>simp[rz]at d
  |2,d=>simp[rz]at d
  |3,d=>simp[rz]at d
  |q+4,d=>simp at d
 refine .inr ⟨b,o,ha,by simpa[World.setCell]using hbw,λi hi=>(World.cell?_of_block (w:=h) (a:=⟨b,o+i,none⟩) ?_).trans (hc i hi)⟩;rw[Below.heap_setCell _ _ _ _ u,Below.heap_setCell _ _ _ _ u,Below.heap_setCell _ _ _ _ u,Below.heap_setCell _ _ _ _ u]
theorem pU (p:Pg) (ch:mC p<=6000000) (bG:(iO p).2=0->JQ p) (a:World) (u B:Option Addr) (n c m w:Nat) (bI:nM a (λ_=>True) (.slice u n c) p.vs) (bP:nP a (λ_=>True) (.slice B m w) p.fs) (bJ:ew a a.heap.size) (bR:BT a) (bO:FT a):
  Calls prog 12 #[.agg #[.slice u n c,.slice B m w]] a λe w'=>(∃u c B w,e=.returned (.tuple #[(dD p).1.val u B c w,.int i64 (dD p).2])/\Sl w' u c (dD p).1.code/\Sl w' B w (dD p).1.data)/\au a w':=by
 have ci:= @run_makeMap prog;have ae:=(aa a (.cells #[.slice u n c,.slice B m w] 31)).alloc' (.cells #[.slice none 0 0,.slice none 0 0,.int i64 0,.int i64 0] 38);have bo:=G ((aq a 31 #[.slice u n c,.slice B m w]).alloc (.cells #[.slice none 0 0,.slice none 0 0,.int i64 0,.int i64 0] 38));have aU:=G (show aO ((a.alloc (.cells #[.slice u n c,.slice B m w] 31)).alloc (.cells #[.slice none 0 0,.slice none 0 0,.int i64 0,.int i64 0] 38)) (a.heap.size+1) 38 #[.slice none 0 0,.slice none 0 0,.int i64 0,.int i64 0]from by have:=aq (a.alloc (.cells #[.slice u n c,.slice B m w] 31)) 38 #[.slice none 0 0,.slice none 0 0,.int i64 0,.int i64 0];rwa [World.size_alloc]at this);have a5:=G ae;have a7:=G (bI.keep (.of_ext ae) (Q:=λ_=>True) (λ_ o _=>trivial));have bk:=G (bP.keep (.of_ext ae) (Q:=λ_=>True) (λ_ o _=>trivial));have bZ:=G (gR bJ ae);have bn:=G (bR.ext ae);have cb:=G (bO.ext ae);have z:=G (show dD p=if(iO p).2=0 then EL (iG p).2.1 (qe p.vs (lN p.vs 0 []).1 (lN p.vs 0 []).2).2 (iG p).1 (iG p).2.2 else(⟨[],[],0,0⟩,1)from rfl);generalize dD p=y at*;have bm:=G bG;clear bI bP bJ bR bO ae bG;go_enter func12,ntmps12
 go_upto_region 1 with fail
 generalize World.alloc (World.alloc a _) _=bT at*;have aH:=G (pu p ch (λ_=>True) bT u B n c m w a7.out bk.out bZ.out bn.out);have I:=bo.out.cell;obtain⟨aP,X⟩: ∃aP,(iO p).2=aP:=⟨_,rfl⟩
 rw[X]at z bm aH;clear X;by_cases he:aP=0
 ·subst he;rw[if_pos rfl]at z;have F:=G (bm.out rfl)
  go_upto_region 4 with(go_at_call 11;refine aH.out.mono ?_;rintro e d ⟨rfl,X⟩;have ar:=G X;clear X aH I)
  have H:=G (bo.out.ext ar.out);have I:=H.out.cell
  go_upto_region 5 with fail
  generalize az:World.alloc (World.alloc (World.alloc (World.alloc d _) _) _) _=W4;obtain⟨aN,av,bv,bu,bt,br⟩:=Im az;have Z:=G (ar.out.trans aN);have ad:bT.heap.size<=d.heap.size:=ar.out.size;have bY:=G (a7.out.keep (.of_ext Z.out) (Q:=λb=>b<d.heap.size) (λb _ a1=>aA a1 ad));have bj:=G (bk.out.keep (.of_ext Z.out) (Q:=λb=>b<d.heap.size) (λb _ a1=>aA a1 ad));have cG:=G (H.out.ext aN);have aI:=G (show a.heap.size<d.heap.size from H.out.lt);have cs:=G (a5.out.trans ar.out);have b6:=G (aU.out.ext Z.out);have a8:=G (show a.heap.size+1<d.heap.size from aA aU.out.lt ad);have cr:=G aN;clear az aN I bm a7 bk bZ bo aU H a5 ci;have a6:=G (zU W4 (d.heap.size+1+1+1) d.heap.size d.heap.size (d.heap.size+1) u n c p.vs _ av.out rfl rfl rfl bY.out bv.out bu.out (ah _) (ed _) J J J F.out.vs F.out.vl);have bM:iG p=((ig (aQ (pI p.vs [])) p.fs ([],eU)).2,(ig (aQ (pI p.vs [])) p.fs ([],eU)).1,(qe p.vs (lN p.vs 0 []).1 (lN p.vs 0 []).2).1):=rfl;have aG:=G F.out.zr;have ai:=G F.out.vb;have ag:=G F.out.c0;have aj:=G F.out.ca;have af:=G F.out.da;have cy:=G F.out.sz;have b7:=G F.out.bg;have cz:=G F.out.fs;rw[bM]at z aG ai ag aj af;simp only at z aG ai ag aj af;clear bM F;generalize pI p.vs []=an at*;generalize qe p.vs (lN p.vs 0 []).1 (lN p.vs 0 []).2=PA at*;obtain⟨cR,aS⟩:=PA;simp only at z aG ai ag aj af a6;obtain⟨cc,rfl⟩:=a_ aG.out.1;have bE:p.fs.length=m:=by obtain⟨cU,c',e,_⟩:=bj.out;injection e with _ e _;exact e.symm
  have b9:=G bE;have cM:m<=6000000:=by have:=sS p;omega
  go_upto_region 6 with(go_at_call 31;refine a6.out.mono ?_;rintro e aK ⟨rfl,bN⟩;have ba:=G bN;clear bN a6)
  have bd:=G (CG ba.out bt.out br.out);have aT:=G (show Mv (λb=>d.heap.size<=b) W4 aK from ba.out.mv.mono λb _ e=>by omega);have bf:=G (aT.out.keepP (P:=λb=>b<d.heap.size) λb o _=>by omega);have cD:=G (bj.out.keep bf.out (Q:=λb=>b<d.heap.size) λb o _=>o);have cF:=G (aT.out.blk cG.out (by have:=aI.out;omega));have cw:=G (aT.out.blk b6.out (by have:=a8.out;omega));have bF:kK (kC d.heap.size (.slice u n c) (.slice B m w) aS an) aK:=by
   obtain⟨t,fr,o⟩:=bn.out;have V:=(Array.getElem?_eq_some_iff.1 o).1;refine⟨⟨t,fr,(bf.out.block _ (aA V ad) (aA V Z.out.size)).trans ((Z.out.obj V).trans o)⟩,aA V ad,cy.out⟩
  have bi:=G (show FT aK/\0<d.heap.size from by
   obtain⟨t,fr,o⟩:=cb.out;have V:=(Array.getElem?_eq_some_iff.1 o).1
   exact⟨⟨t,fr,(bf.out.block _ (aA V ad) (aA V Z.out.size)).trans ((Z.out.obj V).trans o)⟩,aA V ad⟩)
  have a9:=G (CQ.mk bd.out (kO _ _) ⟨cF.out,λe=>by have:=FN e;have:=aI.out;omega⟩ bF);clear bn cb av bv bu bt br bY bj b6 ba bF bE
  go_upto_region 7 with(go_at_call 32;refine(Dk a9.out.m Qd).mono ?_;rintro e cJ ⟨rfl,cS,bB,bL⟩;have aF:=G (a9.out.nx bB bL);clear bB bL a9)
  rw[show Ha GX=eU from rfl]at aF;have I:=aF.out.x.1.cell;have b4:=G (show ig (aQ an) (p.fs.take 0) ([],eU)=([],eU)from rfl)
  go_upto_region 8 with fail
  clear I;obtain⟨k,aL⟩: ∃k,kC d.heap.size (.slice u n c) (.slice B m w) aS an=k:=⟨_,rfl⟩
  have A:=G (show k.base=d.heap.size/\k.c=d.heap.size+1+1+1/\k.sz=an/\k.pl=aS by subst aL;exact⟨rfl,rfl,rfl,rfl⟩);obtain⟨aR,a2⟩: ∃aR,oC d.heap.size (.slice u n c) (.slice B m w) aS an=aR:=⟨_,rfl⟩
  have bb:=G (show ∀b,aR b->d.heap.size<=b by subst a2;exact λb o=>FN o);rw[aL,a2]at aF bd;clear aL a2
  go_loopw [31] (λaV wr=> ∃(j:Nat) (am:Nat->Prop) (aB:List (Nm×Int)) (ay:CS),aV=.int i64 (j:Int)/\j<=m/\Hid (CQ k aB aR aK a.heap.size 31 #[.slice u n c,.slice B m w] am ay wr)/\Hid (ig (aQ an) (p.fs.take j) ([],eU)=(aB,ay))) (λaV _=>m-(intOf aV).toNat)
  case atStart=>exact⟨0,_,_,_,rfl,aD _,aF,b4⟩
  case round=>
   obtain⟨j,am,aB,ay,rfl,cl,R,aE⟩:=hrel;clear aF b4;generalize wr=aw at*;by_cases hlt:j<m
   ·have cj:(j:Int)<(m:Int):=J
    have aZ:j<p.fs.length:=by rw[b9.out];exact hlt
    have be:=G (R.out.T.keepP bd.out);rw[A.out.1]at be;obtain⟨b,cL,cK,cQ,rfl,cO,cP,cg,cf,ce,aX,aW⟩:=og (cD.out.keep be.out (Q:=λb=>b<d.heap.size) λb o _=>o) j aZ;obtain⟨cI,cp,rfl,_⟩:=id aX;obtain⟨cH,co,rfl,_⟩:=aW.form;have ao:=G (zX aZ aE.out);have al:=G (b7.out (j+1));rw[ao.out]at al;have cE:=G (cz.out _ (ax aZ));generalize p.fs[j]=f at*;have bX:=G aX;have bW:=G aW;clear aX aW
    go_upto_region 10 with fail
    generalize az:World.alloc aw _=W7;obtain⟨aM,av,_⟩:=lC az;have ap:=G (R.out.ext aM);have bV:=G (bX.out.keep (.of_ext aM) (Q:=λb=>b<k.base) λb o _=>by rw[A.out.1];exact o);have bU:=G (bW.out.keep (.of_ext aM) (Q:=λb=>b<k.base) λb o _=>by rw[A.out.1];exact o);have I:=av.out.cell;have bl:=G (Ff k aB f cE.out am W7 ay cI cH cp co ap.out.m ap.out.e bV.out bU.out (by rw[A.out.2.2.1];exact al.out));rw[A.out.2.2.1,A.out.2.1]at bl;clear az aM av cg cf ce bX bW bV bU aE R be;go_wp2_with (go_at_call 33;refine bl.out.mono ?_;rintro e bw ⟨rfl,cq,bA,bK⟩;have bc:=G bA;have aC:=G bK;clear bl I bA bK);have cx:=G (CQ.mk bc.out (ap.out.T.trans aC.out) (ap.out.x.st aC.out) (ap.out.e.st ap.out.m aC.out));go_roundw
    case rel=>exact⟨j+1,cq,_,_,by go_num,by omega,cx,ao⟩
    case measure=>simp[intOf];omega
   ·have ck:m=j:=J
    subst ck;have cj: ¬(m:Int)<(m:Int):=J
    have ao:=aE.out;rw[bQ (by rw[b9.out];exact ah _)]at ao;have al:=G (b7.out m);rw[aE.out]at al;rw[ao]at z ai ag aj af;simp only at z ai ag aj af al
    have cC:=G (show FT aw from by
     obtain⟨t,fr,o⟩:=bi.out.1
     exact⟨t,fr,(R.out.T.1.block _ (Array.getElem?_eq_some_iff.1 o).1 λe=>by have:=bb.out _ e;have:=bi.out.2;omega).trans o⟩)
    have bh:=G (Ad k aB am aw ay cc R.out.m R.out.e cC.out (by rw[A.out.1];exact bi.out.2) (by have:=aG.out.2;omega) al.out ai.out ag.out aj.out (by rw[A.out.2.2.2];exact af.out));rw[A.out.2.2.2,A.out.2.1,<-z.out]at bh;have cv:=G (R.out.T.1.blk cw.out λe=>by have:=bb.out _ e;have:=a8.out;omega);have b8:=G (show ∀b,am b->d.heap.size<=b from λb e=>by have:=(R.out.m.lt e).1;rw[A.out.1]at this;exact this);have cA:=G (show Mv (λb=>a.heap.size<=b) a aw from((cT (cs.out.trans cr.out)).trans (aT.out.mono λb _ e=>by have:=aI.out;omega)).trans (R.out.T.1.mono λb _ e=>by have:=bb.out b e;have:=aI.out;omega))
    have b5:=G (show ∀e w',((∃u c B w,e=Ending.returned (.tuple #[y.1.val u B c w,.int i64 y.2])/\Sl w' u c y.1.code/\Sl w' B w y.1.data)/\Mv am aw w')->(∃u c B w,e=Ending.returned (.tuple #[.agg #[.slice u y.1.code.length c,.slice B y.1.data.length w,.int i64 y.1.zero,.int i64 y.1.entry],.int i64 y.2])/\Sl w' u c y.1.code/\Sl w' B w y.1.data)/\Mv (λb=>a.heap.size<=b) a w'/\aO w' (a.heap.size+1) 38 #[.slice none 0 0,.slice none 0 0,.int i64 0,.int i64 0]from
     λe w' ⟨cm,bS⟩=>⟨cm,cA.out.trans (bS.mono λb _ e=>by have:=b8.out b e;have:=aI.out;omega),bS.blk cv.out λe=>by have:=b8.out _ e;have:=a8.out;omega⟩)
    clear aE ao z ai ag aj af al R cl hlt
    go_upto_region 13 with(go_at_call 34;refine bh.out.mono ?_;intro e bw bC;obtain⟨⟨bq,a4,bp,a3,rfl,bz,bx⟩,bD,bH⟩:=b5.out e bw bC;have aC:=G bz;have ct:=G bx;have bc:=G bD;have aJ:=G bH;clear bC bz bx bD bH bh b5;have cd:=aJ.out.cell;have cn:=aJ.out.frozen)
    have aY:=(aJ.out.put4 (.slice bq y.1.code.length a4) (.slice bp y.1.data.length a3) (.int i64 y.1.zero) (.int i64 y.1.entry)).cell;exact bodyPost_ret (v:=.tuple #[.agg #[.slice bq y.1.code.length a4,.slice bp y.1.data.length a3,.int i64 y.1.zero,.int i64 y.1.entry],.int i64 y.2]) (by simp[results,results12,go_sem,aY]) rfl ⟨⟨bq,a4,bp,a3,rfl,Bl aC.out aJ.out _ _ _ _,Bl ct.out aJ.out _ _ _ _⟩,(bc.out.put4 (g:=a.heap.size+1) (ed _) _ _ _ _).ext λk aL o=>by omega⟩
 ·rw[if_neg he]at z;have cN:(aP==0)=false:=Qn.2 he;clear he
  go_upto_region 3 with(go_at_call 11;refine aH.out.mono ?_;rintro e d ⟨rfl,X⟩;have ar:=G (a5.out.trans X);have H:=G (aU.out.ext X);clear X aH I)
  have cd:=H.out.cell;have cn:=H.out.frozen;have cu:=G (H.out.put4 (.slice none 0 0) (.slice none 0 0) (.int i64 0) (.int i64 0)).cell;have cB:=G (ar.out.put4 (g:=a.heap.size+1) (ed _) (.slice none 0 0) (.slice none 0 0) (.int i64 0) (.int i64 0));go_wp2_with fail;have aY:=cu.out;exact bodyPost_ret (v:=.tuple #[.agg #[.slice none 0 0,.slice none 0 0,.int i64 0,.int i64 0],.int i64 1]) (by simp[results,results12,go_sem,aY]) rfl ⟨⟨none,0,none,0,by rw[z.out];rfl,by rw[z.out];exact ep _,by rw[z.out];exact ep _⟩,cB.out⟩
end
section
theorem iW {h d:Type} {x:Except Er h} {k:h->Except Er d} {b:d} (o:CR.then x k=.ok b): ∃a,x=.ok a/\k a=.ok b:=by
 cases x with
 |error e=>cases o
 |ok a=>exact⟨a,rfl,o⟩
theorem Ex.nm_wt (x:Ex):x.nm.length<=x.wt/\x.tx.length<=x.wt:=by rw[ru];omega
theorem JK {k:Int} {op nm tx:List UInt8} {v:Int} {d:List Ex} (h:(Ex.mk k op nm tx v d).ok=true):r7 d=true/\(-1099511627776<=v/\v<=1099511627776)/\(k=4\/k=6->d.length=1)/\(k=7->d.length=2):=by
 rw[Ex.ok,am]at h;obtain⟨a,o⟩:=h;refine⟨o,?_⟩;by_cases k1:k=1
 ·subst k1;simp at a;omega
 by_cases k2:k=2
 ·subst k2;simp at a;omega
 by_cases k3:k=3
 ·subst k3;simp at a;omega
 by_cases k4:k=4
 ·subst k4;simp at a;omega
 by_cases k5:k=5
 ·subst k5;simp at a;omega
 by_cases k6:k=6
 ·subst k6;simp at a;omega
 by_cases k7:k=7
 ·subst k7;simp at a;omega
 ·simp[k1,k2,k3,k4,k5,k6,k7]at a
theorem EK (L:List UInt8) (i:Nat):(L.drop i).headD 0=L.getD i 0:=by
 rw[List.headD_eq_head?_getD,lm,bN]
section
variable (g:Gl)
mutual
theorem GY: ∀(lo:Ls) (x:Ex),x.ok=true->x.wt<=1000000000->qj g lo x=.ok ()->F1 x=true
 |lo,.mk k op nm tx v a,hok,hw,hc=>by
  obtain⟨ha,d,o,h⟩:=JK hok;rw[Ex.wt]at hw;rw[qj]at hc;rw[F1,decide_eq_true (show nm.length<=1000000000/\tx.length<=1000000000/\ -1099511627776<=v/\v<=1099511627776 from⟨by omega,by omega,d⟩),gP];by_cases k46:k=4\/k=6
  ·rw[if_pos k46,decide_eq_true (by have:=o k46;omega),gP];rcases k46 with rfl|rfl
   ·rw[if_neg Qd,if_pos rfl]at hc;obtain⟨_,_,u⟩:=iW hc;exact C7 lo a ha J u
   ·rw[if_neg Qd,if_neg Qd,if_neg Qd,if_neg Qd,if_pos (.inl rfl)]at hc;exact C7 lo a ha J hc
  rw[if_neg k46];by_cases k5:k=5
  ·subst k5;rw[if_pos rfl];rw[if_neg Qd,if_neg Qd,if_neg Qd,if_pos rfl]at hc;unfold yD at hc
   cases hb:fX nm with
   |none=>
    rw[hb]at hc;simp only at hc⊢
    cases hf:g.fn nm with
    |none=>rw[hf]at hc;cases hc
    |some n=>
     rw[hf]at hc;simp only at hc;split at hc
     ·exact Iw lo nm 0 a ha J hc
     ·cases hc
   |some q=>
    obtain⟨c,ls⟩:=q;rw[hb]at hc;simp only at hc⊢;split at hc
    ·rename_i w;rw[decide_eq_true J,gP];exact Ix lo nm c ls 0 a ha J J hc
    ·cases hc
  rw[if_neg k5];by_cases k7:k=7
  ·subst k7;rw[if_pos rfl,decide_eq_true (by have:=h rfl;omega),gP];rw[if_neg Qd,if_neg Qd,if_neg Qd,if_neg Qd,if_pos (.inr rfl)]at hc;exact C7 lo a ha J hc
  ·rw[if_neg k7]
theorem C7: ∀(lo:Ls) (l:List Ex),r7 l=true->dU l<=1000000000->p8 g lo l=.ok ()->wj l=true
 |lo,[],_,_,_=>by rw[wj]
 |lo,y::r,hok,hw,hc=>by
  rw[r7,am]at hok;rw[dU]at hw;rw[p8]at hc;obtain⟨_,d,a⟩:=iW hc;rw[wj,GY lo y hok.1 J d,C7 lo r hok.2 J a];rfl
theorem Iw: ∀(lo:Ls) (nm:List UInt8) (i:Nat) (l:List Ex),r7 l=true->dU l<=1000000000->rK g lo nm none i l=.ok ()->wj l=true
 |lo,nm,i,[],_,_,_=>by rw[wj]
 |lo,nm,i,y::r,hok,hw,hc=>by
  rw[r7,am]at hok;rw[dU]at hw;rw[rK]at hc;obtain⟨_,a,d⟩:=iW hc;rw[if_pos Qf]at a;rw[wj,GY lo y hok.1 J a,Iw lo nm (i+1) r hok.2 J d];rfl
theorem Ix: ∀(lo:Ls) (nm:List UInt8) (c:Int) (L:List UInt8) (i:Nat) (l:List Ex),r7 l=true->dU l<=1000000000->i+l.length<=L.length->rK g lo nm (some (c,L)) i l=.ok ()->E5 (L.drop i) l=true
 |lo,nm,c,L,i,[],_,_,_,_=>by rw[E5]
 |lo,nm,c,L,i,y::r,hok,hw,hl,hc=>by
  rw[r7,am]at hok;rw[dU]at hw;rw[ag]at hl;rw[rK]at hc;obtain⟨_,a,h⟩:=iW hc;have d:=Ix lo nm c L (i+1) r hok.2 J J h;have o:=y.nm_wt;rw[E5,jD,d,gQ,EK];by_cases hi:L.getD i 0=105
  ·rw[if_pos hi];rw[if_pos (by simp only[nB];rw[hi];simp)]at a;exact GY lo y hok.1 J a
  ·rw[if_neg hi];exact decide_eq_true ⟨by omega,by omega⟩
end
mutual
theorem En: ∀x:Ex,p4 x<=x.wt
 | .mk k op nm tx v a=>by
  have:=tD a;rw[p4,Ex.wt];omega
theorem tD: ∀l:List Ex,ot l<=dU l
 | []=>ah _
 |y::r=>by
  have d:=En y;have a:=tD r;rw[ot,dU];omega
end
theorem Jg {k:Int} {nm:List UInt8} {a:List Ex} {b e:List St} (o:(St.mk k nm a b e).ok=true):r7 a=true/\pM b=true/\pM e=true/\(k=4\/k=5->a.length=1)/\(k=3->a.length=2):=by
 rw[St.ok,am,am,am]at o;obtain⟨⟨h,y⟩,w,u⟩:=o;refine⟨y,w,u,λd=> ?_,λd=> ?_⟩
 ·rcases d with rfl|rfl<;> · simp at h;omega
 ·subst d;simp at h;omega
mutual
theorem JP: ∀(lo:Ls) (x:St) (d:Ls),x.ok=true->x.wt<=900000000->vO g lo x=.ok d->rJ x=true
 |lo,.mk k nm ex b e,d,hok,hw,a=>by
  obtain⟨R,G,F,A,z⟩:=Jg hok;rw[St.wt]at hw;rw[vO]at a;obtain⟨_,_,a⟩:=iW a;obtain⟨_,u,a⟩:=iW a;obtain⟨o,_,a⟩:=iW a;obtain⟨h,y,w⟩:=iW a;have V:=tD ex;rw[rJ,decide_eq_true (show nm.length<=1000000000/\ot ex<=900000000 from⟨by omega,by omega⟩),C7 g lo ex R J u,yv o b h G J y,yv h e d F J w];by_cases k45:k=4\/k=5
  ·rw[if_pos k45,decide_eq_true (by have:=A k45;omega)];rfl
  rw[if_neg k45];by_cases k3:k=3
  ·rw[if_pos k3,decide_eq_true (by have:=z k3;omega)];rfl
  ·rw[if_neg k3];rfl
theorem yv: ∀(lo:Ls) (l:List St) (a:Ls),pM l=true->eX l<=900000000->gV g lo l=.ok a->p7 l=true
 |lo,[],a,_,_,_=>by rw[p7]
 |lo,x::l,a,hok,hw,hc=>by
  rw[pM,am]at hok;rw[eX]at hw;rw[gV]at hc;obtain⟨d,o,h⟩:=iW hc;rw[p7,JP lo x d hok.1 J o,yv d l a hok.2 J h];rfl
end
theorem FZ: ∀(l:List Fc),(∀f∈l,pM f.body=true/\eX f.body<=900000000)->ks g l=.ok ()-> ∀f∈l,p7 f.body=true
 | [],_,_,f,hf=>by cases hf
 |x::l,ho,a,f,hf=>by
  rw[ks]at a;obtain⟨lo,_,a⟩:=iW a;obtain⟨d,o,h⟩:=iW a;rcases List.mem_cons.1 hf with rfl|hf
  ·have:=ho f Qe;exact yv g lo f.body d this.1 this.2 o
  ·exact FZ l (λf u=>ho f (by simp[u])) h f hf
end
theorem C6: ∀(l:List Fc),gk l=.ok ()-> ∀f∈l,f.ps.length+cK f.body<=20
 | [],_,f,hf=>by cases hf
 |x::l,hc,f,hf=>by
  rw[gk]at hc;split at hc
  ·cases hc
  ·rename_i a;rcases List.mem_cons.1 hf with rfl|hf
   ·omega
   ·exact C6 l hc f hf
theorem tF {lo hi:Int}: ∀(l:List (Nm×Int)) (nm:Nm),lo<=0->0<=hi->(∀q∈l,lo<=q.2/\q.2<=hi)->lo<=aQ l nm/\aQ l nm<=hi:=by
 intro l nm d a h;unfold aQ iw
 cases hf:l.find? (·.1==nm)with
 |none=>exact⟨d,a⟩
 |some q=>exact h q (dA hf)
theorem wH {hi:Int}: ∀(h:List Vr) (l:List (Nm×Int)),(∀v∈h,v.sz<=hi)->(∀q∈l,0<=q.2/\q.2<=hi)-> ∀q∈pI h l,0<=q.2/\q.2<=hi
 | [],l,_,a=>a
 |v::r,l,hv,a=>by
  rw[pI];split
  ·refine wH r _ (λv a=>hv v (by simp[a])) λq d=> ?_;rcases List.mem_cons.1 d with rfl|d
   ·exact⟨by simp only;omega,hv v Qe⟩
   ·exact a q d
  ·exact wH r l (λv a=>hv v (by simp[a])) a
def Ft (B:Int) (p:Int×List (Nm×Int)):Prop:=(0<=p.1/\p.1<=B)/\ ∀q∈p.2,0<=q.2/\q.2<=B
theorem wZ: ∀(u:List Vr) (n B:Int) (l:List (Nm×Int)),Ft B (n,l)->Ft (B+4*u.length) (lN u n l)
 | [],n,B,l,h=>by simpa[lN]using h
 |v::r,n,B,l,h=>by
  obtain⟨⟨o,w⟩,d⟩:=h;simp only at o w d;rw[lN,ag];have e:B+4*((r.length+1:Nat):Int)=(B+4)+4*(r.length:Int):=J
  rw[e];split
  ·refine wZ r _ (B+4) _ ⟨⟨by simp only;omega,by simp only;omega⟩,λq a=> ?_⟩;rcases List.mem_cons.1 a with rfl|a
   ·exact⟨o,by simp only;omega⟩
   ·have:=d q a;omega
  ·exact wZ r _ (B+4) _ ⟨⟨o,by simp only;omega⟩,λq a=>by have:=d q a;omega⟩
theorem w_: ∀(h:List Vr) (n B:Int) (l:List (Nm×Int)),(∀v∈h,v.sz<=2000)->Ft B (n,l)->Ft (B+2000*h.length) (qe h n l)
 | [],n,B,l,_,a=>by simpa[qe]using a
 |v::r,n,B,l,hv,a=>by
  obtain⟨⟨u,w⟩,o⟩:=a;simp only at u w o;have y:=hv v Qe;rw[qe,ag];have e:B+2000*((r.length+1:Nat):Int)=(B+2000)+2000*(r.length:Int):=J
  rw[e];split
  ·refine w_ r _ (B+2000) _ (λv a=>hv v (by simp[a])) ⟨⟨by simp only;omega,by simp only;omega⟩,λq d=> ?_⟩;rcases List.mem_cons.1 d with rfl|d
   ·exact⟨u,by simp only;omega⟩
   ·have:=o q d;omega
  ·exact w_ r _ (B+2000) _ (λv a=>hv v (by simp[a])) ⟨⟨u,by simp only;omega⟩,λq d=>by have:=o q d;omega⟩
end
section
theorem tO {l:List UInt8} (a:eD l=true):l.length<=14:=by
 unfold eD at a;simp only[am,decide_eq_true_eq]at a;exact a.1.1.2
theorem Fe {p:Pg} (d:(iO p).2=0):lJ p=true/\ ∃g,sT p=.ok g/\ks g p.fs=.ok ()/\gk p.fs=.ok ():=by
 unfold iO at d;split at d
 ·rename_i o;refine⟨o,?_⟩;have h:=GC p
  cases hc:lB p with
  |error e=>rw[hc]at d h;exact absurd d h
  |ok a=>
   unfold lB at hc;obtain⟨g,z,y⟩:=iW hc;obtain⟨_,w,u⟩:=iW y;exact⟨g,z,w,u⟩
 ·exact absurd d Qd
theorem BS {p:Pg} (a:lJ p=true):(∀v∈p.vs,v.nm.length<=14/\0<=v.sz/\v.sz<=2000)/\(∀f∈p.fs,f.nm.length<=14/\(∀q∈f.ps,q.length<=14)/\pM f.body=true)/\p.vs.length<=20:=by
 have w:=λf d=>qI (f:=f) (by
  unfold lJ at a;simp only[am]at a
  exact List.all_eq_true.1 a.1.1.1.2 f d)
 unfold lJ at a;simp only[am,cg,decide_eq_true_eq]at a;obtain⟨⟨⟨⟨z,h⟩,y⟩,F⟩,A⟩:=a;refine⟨λv o=> ?_,λf d=>⟨?_,λq u=> ?_,w f d⟩,y⟩
 ·have:=z v o;unfold uS at this;simp only[am,decide_eq_true_eq]at this;exact⟨tO this.1.1,this.1.2,this.2⟩
 ·have:=h f d;unfold qJ at this;simp only[am,cg,decide_eq_true_eq]at this;exact tO this.1.1.1
 ·have:=h f d;unfold qJ at this;simp only[am,cg,decide_eq_true_eq]at this;exact tO (this.1.2 q u)
section
variable (sz:Nm->Int)
theorem F7: ∀(l:List Fc) (q:List (Nm×Int)×CS),(∀x∈q.1,0<=x.2/\x.2<=900000000)->(∀j,(ig sz (l.take j) q).2.big<=900000000)-> ∀x∈(ig sz l q).1,0<=x.2/\x.2<=900000000
 | [],q,h,_=>h
 |f::l,q,h,hb=>by
  rw[ig];refine F7 l _ (λx a=> ?_) λj=> ?_
  ·rcases List.mem_cons.1 a with rfl|a
   ·have d:q.2.big<=900000000:=by have:=hb 0;simpa[ig]using this
    have:=aU d;simp only;omega
   ·exact h x a
  ·have:=hb (j+1);simpa[ig]using this
theorem E3 (f:Fc) (s:CS):0<(zY sz f s).code.length:=by
 unfold zY;simp[CS.back,CS.op,CS.vl,CS.add]
theorem vM: ∀(l:List Fc) (q:List (Nm×Int)×CS),0<q.2.code.length->0<(ig sz l q).2.code.length
 | [],q,h=>h
 |f::l,q,h=>by rw[ig];exact vM l _ (E3 sz f q.2)
end
theorem Cl {p:Pg} {f:Fc} (a:f∈p.fs):eX f.body<=mC p:=by
 have: ∀l:List Fc,f∈l->f.wt+1<=(l.map λf=>f.wt+1).sum:=λl=>by
  induction l with
  |nil=>intro a;cases a
  |cons x l ih=>
   intro a;rcases List.mem_cons.1 a with rfl|a
   ·simp only[bL,dF];omega
   ·have:=ih a;simp only[bL,dF];omega
 have h:=this p.fs a;have d:f.wt=f.nm.length+(f.ps.map λs=>s.length+1).sum+eX f.body:=rfl;unfold mC;omega
theorem Iv (p:Pg) (V:mC p<=14000) (ae:(iO p).2=0):JQ p:=by
 obtain⟨aa,g,_,ad,I⟩:=Fe ae;obtain⟨w,y,ag⟩:=BS aa;have G:=C6 p.fs I;have A:=I7 p V;have H:=FZ g p.fs (λf a=>⟨(y f a).2.2,by have:=Cl a;omega⟩) ad;have X:=λnm=>tF (lo:=0) (hi:=1000000) (pI p.vs []) nm J J (wH p.vs [] (λv a=>by have:=(w v a).2.2;omega) (λq h=>by cases h));have F:=w_ p.vs (lN p.vs 0 []).1 (0+4*p.vs.length) (lN p.vs 0 []).2 (λv a=>(w v a).2.2) (wZ p.vs 0 0 [] ⟨⟨by simp,by simp⟩,λq h=>by cases h⟩);have z:CI (iG p).1:=F2 (aQ (pI p.vs [])) p.fs ([],eU) (λf a=>⟨by have:=Cl a;omega,by have:=G f a;unfold e_;omega⟩) G3 A;have af:=F7 (aQ (pI p.vs [])) p.fs ([],eU) (λx R=>by cases R) A;refine⟨λf a=>⟨by have:=(y f a).1;omega,λq h=>by have:=(y f a).2.1 q h;omega,H f a,by have:=G f a;omega,by have:=Cl a;omega⟩,λv a=> ?_,by omega,X,A,?_,z.v,vM _ p.fs ([],eU) Qd,λq h=> ?_,λq h=> ?_⟩
 ·have:=w v a;omega
 ·have o:=F.1;show 0<=(qe p.vs (lN p.vs 0 []).1 (lN p.vs 0 []).2).1/\ _;refine⟨o.1,nS o.2 J⟩
 ·have o:=z.c q h;have u:=tF (lo:=0) (hi:=900000000) (iG p).2.1 q.2 J J af;exact⟨o.1,o.2,u.1,nS u.2 J⟩
 ·have o:=z.d q h;have u:=tF (lo:=0) (hi:=0+4*(p.vs.length:Int)+2000*(p.vs.length:Int)) (qe p.vs (lN p.vs 0 []).1 (lN p.vs 0 []).2).2 q.2 J J F.2;exact⟨o.1,o.2,u.1,nS u.2 J⟩
end
section
open Go.RowKit
def IJ (p:Pg) (w:World) (e:Ending) (w':World):Prop:=au w w'/\ ∃A n c B m d,e=.returned (.tuple #[.agg #[.slice A n c,.slice B m d],.int i64 0,.int i64 0])/\nM w' (λ_=>True) (.slice A n c) p.vs/\nP w' (λ_=>True) (.slice B m d) p.fs
theorem JD {s:List UInt8} {p:Pg} {a:World} (y:Calls prog 22 #[.string (Z s)] a (xQ a (p,0,0))):Calls prog 22 #[.string (Z s)] a (IJ p a):=by
 refine y.mono λe w' d=> ?_;obtain⟨w,A,n,c,B,m,z,h,o,u⟩:=d;exact⟨w,A,n,c,B,m,z,h,o.keep (.of_ext (.refl _)) (λ_ _ _=>trivial),u.keep (.of_ext (.refl _)) (λ_ _ _=>trivial)⟩
theorem Gx (a:World) (d:EZ a) (h:ew a a.heap.size):Calls prog 22 #[.string (Z DT)] a (IJ jI a):=JD (by have:=rY DT a d h;rwa [DR]at this)
end
end Go.Proofs.YtoedmpgicdekmaaGreatDoor
