/- Parts of the proof. -/
import Derived.Test.YtoedmpgicdekmaaGreatDoorCl00
import Derived.Test.YtoedmpgicdekmaaGreatDoorCl41
import Derived.Test.YtoedmpgicdekmaaGreatDoorCl21
import Derived.Test.YtoedmpgicdekmaaGreatDoorCl20
set_option maxRecDepth 100000
set_option maxHeartbeats 8000000
set_option linter.unusedVariables false
set_option linter.unusedSimpArgs false
set_option linter.unusedSectionVars false
namespace Go.Proofs.YtoedmpgicdekmaaGreatDoor
open Go.Proofs.Tryz
section
open Go.RowKit
open Go.ChangeMaps Go.MapKept Go.WideMaps Go.WideElems
structure Ih (p:Pg):Prop where
 fs: ∀f∈p.fs,Jy f
 vs: ∀v∈p.vs,v.nm.length<=1000000000/\0<=v.sz/\v.sz<=1000000
 vl:p.vs.length<=1000000
 sz: ∀nm,0<=aR (qY p.vs []) nm/\aR (qY p.vs []) nm<=1000000
 bg: ∀j,(nQ (aR (qY p.vs [])) (p.fs.take j) ([],ii)).2.big<=900000000
 zr:0<=(gt p).2.2/\(gt p).2.2<=100000000
 vb:VB (gt p).1.code 1000000000
 c0:0<(gt p).1.code.length
 ca: ∀q∈(gt p).1.calls,q.1<(gt p).1.code.length/\q.2.length<=1000000000/\0<=aR (gt p).2.1 q.2/\aR (gt p).2.1 q.2<=1000000000
 da: ∀q∈(gt p).1.dats,q.1<(gt p).1.code.length/\q.2.length<=1000000000/\0<=aR (sG p.vs (oo p.vs 0 []).1 (oo p.vs 0 []).2).2 q.2/\aR (sG p.vs (oo p.vs 0 []).1 (oo p.vs 0 []).2).2 q.2<=1000000000
def mB (p:Pg):py×Int:=if(oL p).2=0 then Fk (gt p).2.1 (sG p.vs (oo p.vs 0 []).1 (oo p.vs 0 []).2).2 (gt p).1 (gt p).2.2 else(⟨[],[],0,0⟩,1)
theorem H6 {a W:World} {h:Array Value} {t:TypeId} (J:((((a.alloc (.map #[] 0)).alloc (.map #[] 0)).alloc (.map #[] 0)).alloc (.cells h t))=W):
  au a W/\Hid (aM W (a.heap.size+1+1+1) t h)/\Hid (gO W a.heap.size (gx []))/\Hid (gO W (a.heap.size+1) (gx []))/\Hid (cB W (a.heap.size+1+1) (gx []))/\Hid (W.heap.size=a.heap.size+1+1+1+1):=by
 have y:(a.alloc (.map #[] 0)).heap.size=a.heap.size+1:=World.size_alloc _ _;have w:((a.alloc (.map #[] 0)).alloc (.map #[] 0)).heap.size=a.heap.size+1+1:=by rw[World.size_alloc,y]
 have u:(((a.alloc (.map #[] 0)).alloc (.map #[] 0)).alloc (.map #[] 0)).heap.size=a.heap.size+1+1+1:=by rw[World.size_alloc,w]
 have I:gO (a.alloc (.map #[] 0)) a.heap.size (gx []):=(gO.new a).congr λ_=>rfl;have H:gO ((a.alloc (.map #[] 0)).alloc (.map #[] 0)) (a.heap.size+1) (gx []):=by rw[<-y];exact(gO.new _).congr λ_=>rfl
 have F:gO (((a.alloc (.map #[] 0)).alloc (.map #[] 0)).alloc (.map #[] 0)) (a.heap.size+1+1) (gx []):=by rw[<-w];exact(gO.new _).congr λ_=>rfl
 subst J;have A:=aq (((a.alloc (.map #[] 0)).alloc (.map #[] 0)).alloc (.map #[] 0)) t h;rw[u]at A;have k: ∀{o:World} {b:Nat} {L:KF} (d:Obj),gO o b L->gO (o.alloc d) b L:=λd z=>z.obj ((aa _ d).obj z.1.lt);exact⟨(((aa a _).alloc' _).alloc' _).alloc' _,A,k _ (k _ (k _ I)),k _ (k _ H),(k _ F).1,G (by rw[World.size_alloc,u])⟩
def kC (b0:Nat) (va fa:Value) (LP LS:List (Nm×Int)):CC:=⟨b0+1+1+1,b0,va,fa,b0,b0+1,b0+1+1,LP,LS⟩
def oC (b0:Nat) (va fa:Value) (LP LS:List (Nm×Int)):Nat->Prop:=λb=>some b∈bJ (kC b0 va fa LP LS) (.slice none 0 0) (.slice none 0 0) (.slice none 0 0) (.slice none 0 0) (.map none)
theorem BK {W w:World} {b0:Nat} {d h:Value} {u o:List (Nm×Int)} (a:CN W (b0+1+1+1) b0 (b0+1) #[d,h, .slice none 0 0, .slice none 0 0, .map (some b0), .map (some (b0+1)), .map (some (b0+1+1)), .slice none 0 0, .slice none 0 0, .map none, .int .i64 0] u o w)
  (ha:cB W (b0+1+1) (gx [])) (z:W.heap.size=b0+1+1+1+1):CX (kC b0 d h u o) [] (oC b0 d h u o) w Jw:=by
 refine⟨_,_,_,_,_,⟨a.blk,World.ownsRow_nil _ _ _ _,World.ownsRow_nil _ _ _ _,World.ownsRow_nil _ _ _ _,World.ownsRow_nil _ _ _ _,a.p.1,a.s.1,a.mv.map ha (show ¬(b0+1+1=b0\/b0+1+1=b0+1) by omega), .inl ⟨rfl,rfl,rfl⟩,?_,λb y=> ?_⟩,λb=>gW⟩
 ·simp[bJ,kC,CH,Value.ownBlock];omega
 ·have A:=a.mv.size;simp[bJ,kC,CH,Value.ownBlock]at y⊢;omega
theorem Fe {b0:Nat} {a h:Value} {u o:List (Nm×Int)} {b:Nat} (d:oC b0 a h u o b):b0<=b:=by
 simp[oC,bJ,kC,CH,Value.ownBlock]at d;omega
theorem uT {sz:Nm->Int}: ∀(a b:List Fc) (q:List (Nm×Int)×CS),nQ sz (a++b) q=nQ sz b (nQ sz a q)
 | [],b,q=>rfl
 |f::a,b,q=>by rw[List.cons_append,nQ,nQ,uT a b]
theorem zf {sz:Nm->Int} {a:List Fc} {j:Nat} {q r:List (Nm×Int)×CS} (d:j<a.length) (e:nQ sz (a.take j) q=r):nQ sz (a.take (j+1)) q=((a[j].nm,(r.2.code.length:Int))::r.1,Ig sz a[j] r.2):=by
 rw[aT d,uT,e];rfl
theorem Av {h:World} {g:Nat} {t:TypeId} {y:Option Addr} {c:Nat} {l:List UInt8} (w:Sl h y c l) (H:aM h g t #[.slice none 0 0, .slice none 0 0, .int .i64 0, .int .i64 0]) (x A z F:Value):
  Sl ((((h.setCell ⟨g,0,none⟩ x).setCell ⟨g,1,none⟩ A).setCell ⟨g,2,none⟩ z).setCell ⟨g,3,none⟩ F) y c l:=by
 refine⟨w.le,w.max,w.nil,?_⟩;by_cases hl:l=[]
 ·exact .inl hl
 rcases w.rd with d|⟨b,o,ha,hbw,hc⟩
 ·exact .inl d
 have u:b≠g:=λe=>by
  subst e;have d:=hc 0 (List.length_pos_iff.2 hl);rw[H.cell]at d
  match hq:o+0,d with
  |0,d=>simp[qQ]at d
  |1,d=>simp[qQ]at d
  |2,d=>simp[qQ]at d
  |3,d=>simp[qQ]at d
  |q+4,d=>simp at d
 refine .inr ⟨b,o,ha,by simpa[World.setCell]using hbw,λi G=>(World.cell?_of_block (w:=h) (a:=⟨b,o+i,none⟩) ?_).trans (hc i G)⟩;rw[Below.heap_setCell _ _ _ _ u,Below.heap_setCell _ _ _ _ u,Below.heap_setCell _ _ _ _ u,Below.heap_setCell _ _ _ _ u]
theorem pm (p:Pg) (cc:oq p<=6000000) (bB:(oL p).2=0->Ih p) (a:World) (u B:Option Addr) (n c m w:Nat) (bD:pt a (λ_=>True) (.slice u n c) p.vs) (bK:pE a (λ_=>True) (.slice B m w) p.fs) (bE:ea a a.heap.size) (bL:BT a) (bJ:FT a):
  Calls prog 12 #[.agg #[.slice u n c, .slice B m w]] a λe w'=>(∃u c B w,e= .returned (.tuple #[(mB p).1.val u B c w, .int .i64 (mB p).2])/\Sl w' u c (mB p).1.code/\Sl w' B w (mB p).1.data)/\au a w':=by
 have cd:= @run_makeMap prog;have V:=(aa a (.cells #[.slice u n c, .slice B m w] 31)).alloc' (.cells #[.slice none 0 0, .slice none 0 0, .int .i64 0, .int .i64 0] 38);have bj:=G ((aq a 31 #[.slice u n c, .slice B m w]).alloc (.cells #[.slice none 0 0, .slice none 0 0, .int .i64 0, .int .i64 0] 38));have aN:=G (show aM ((a.alloc (.cells #[.slice u n c, .slice B m w] 31)).alloc (.cells #[.slice none 0 0, .slice none 0 0, .int .i64 0, .int .i64 0] 38)) (a.heap.size+1) 38 #[.slice none 0 0, .slice none 0 0, .int .i64 0, .int .i64 0]from by have:=aq (a.alloc (.cells #[.slice u n c, .slice B m w] 31)) 38 #[.slice none 0 0, .slice none 0 0, .int .i64 0, .int .i64 0];rwa [World.size_alloc]at this);have aZ:=G V;have a2:=G (bD.keep (.of_ext V) (Q:=λ_=>True) (λ_ o _=>trivial));have be:=G (bK.keep (.of_ext V) (Q:=λ_=>True) (λ_ o _=>trivial));have bU:=G (gZ bE V);have bi:=G (bL.ext V);have b5:=G (bJ.ext V);have z:=G (show mB p=if(oL p).2=0 then Fk (gt p).2.1 (sG p.vs (oo p.vs 0 []).1 (oo p.vs 0 []).2).2 (gt p).1 (gt p).2.2 else(⟨[],[],0,0⟩,1)from rfl);generalize mB p=y at*;have bh:=G bB;clear bD bK bE bL bJ V bB;go_enter func12,ntmps12
 go_upto_region 1 with fail
 generalize World.alloc (World.alloc a _) _=bN at*;have az:=G (rU p cc (λ_=>True) bN u B n c m w a2.out be.out bU.out bi.out);have K:=bj.out.cell;obtain⟨aI,J⟩: ∃aI,(oL p).2=aI:=⟨_,rfl⟩
 rw[J]at z bh az;clear J;by_cases he:aI=0
 ·subst he;rw[if_pos rfl]at z;have F:=G (bh.out rfl)
  go_upto_region 4 with(go_at_call 11;refine az.out.mono ?_;rintro e d ⟨rfl,J⟩;have ak:=G J;clear J az K)
  have M:=G (bj.out.ext ak.out);have K:=M.out.cell
  go_upto_region 5 with fail
  generalize ao:World.alloc (World.alloc (World.alloc (World.alloc d _) _) _) _=W4;obtain⟨aH,al,bp,bo,bn,bm⟩:=H6 ao;have ad:=G (ak.out.trans aH);have R:bN.heap.size<=d.heap.size:=ak.out.size;have bT:=G (a2.out.keep (.of_ext ad.out) (Q:=λb=>b<d.heap.size) (λb _ aU=>aA aU R));have bd:=G (be.out.keep (.of_ext ad.out) (Q:=λb=>b<d.heap.size) (λb _ aU=>aA aU R));have cB:=G (M.out.ext aH);have aB:=G (show a.heap.size<d.heap.size from M.out.lt);have cn:=G (aZ.out.trans ak.out);have bX:=G (aN.out.ext ad.out);have a3:=G (show a.heap.size+1<d.heap.size from aA aN.out.lt R);have cm:=G aH;clear ao aH K bh a2 be bU bj aN M aZ cd;have a1:=G (zb W4 (d.heap.size+1+1+1) d.heap.size d.heap.size (d.heap.size+1) u n c p.vs _ al.out rfl rfl rfl bT.out bp.out bo.out (ah _) (dX _) Qa Qa Qa F.out.vs F.out.vl);have bH:gt p=((nQ (aR (qY p.vs [])) p.fs ([],ii)).2,(nQ (aR (qY p.vs [])) p.fs ([],ii)).1,(sG p.vs (oo p.vs 0 []).1 (oo p.vs 0 []).2).1):=rfl;have ax:=G F.out.zr;have ab:=G F.out.vb;have Z:=G F.out.c0;have ac:=G F.out.ca;have X:=G F.out.da;have ct:=G F.out.sz;have bY:=G F.out.bg;have cu:=G F.out.fs;rw[bH]at z ax ab Z ac X;simp only at z ax ab Z ac X;clear bH F;generalize qY p.vs []=ag at*;generalize sG p.vs (oo p.vs 0 []).1 (oo p.vs 0 []).2=PA at*;obtain⟨cM,aK⟩:=PA;simp only at z ax ab Z ac X a1;obtain⟨b6,rfl⟩:=aW ax.out.1;have bz:p.fs.length=m:=by obtain⟨cO,c',e,_⟩:=bd.out;injection e with _ e _;exact e.symm
  have b4:=G bz;have cH:m<=6000000:=by have:=sh p;omega
  go_upto_region 6 with(go_at_call 31;refine a1.out.mono ?_;rintro e aE ⟨rfl,bI⟩;have a5:=G bI;clear bI a1)
  have a8:=G (BK a5.out bn.out bm.out);have aL:=G (show Mv (λb=>d.heap.size<=b) W4 aE from a5.out.mv.mono λb _ e=>by omega);have ba:=G (aL.out.keepP (P:=λb=>b<d.heap.size) λb o _=>by omega);have cy:=G (bd.out.keep ba.out (Q:=λb=>b<d.heap.size) λb o _=>o);have cA:=G (aL.out.blk cB.out (by have:=aB.out;omega));have cr:=G (aL.out.blk bX.out (by have:=a3.out;omega));have bA:ko (kC d.heap.size (.slice u n c) (.slice B m w) aK ag) aE:=by
   obtain⟨t,fr,o⟩:=bi.out;have I:=(Array.getElem?_eq_some_iff.1 o).1;refine⟨⟨t,fr,(ba.out.block _ (aA I R) (aA I ad.out.size)).trans ((ad.out.obj I).trans o)⟩,aA I R,ct.out⟩
  have bc:=G (show FT aE/\0<d.heap.size from by
   obtain⟨t,fr,o⟩:=b5.out;have I:=(Array.getElem?_eq_some_iff.1 o).1
   exact⟨⟨t,fr,(ba.out.block _ (aA I R) (aA I ad.out.size)).trans ((ad.out.obj I).trans o)⟩,aA I R⟩)
  have a4:=G (CQ.mk a8.out (kt _ _) ⟨cA.out,λe=>by have:=Fe e;have:=aB.out;omega⟩ bA);clear bi b5 al bp bo bn bm bT bd bX a5 bA bz
  go_upto_region 7 with(go_at_call 32;refine(Cg a4.out.m Qd).mono ?_;rintro e cE ⟨rfl,cN,bv,bG⟩;have aw:=G (a4.out.nx bv bG);clear bv bG a4)
  rw[show GX Jw=ii from rfl]at aw;have K:=aw.out.x.1.cell;have bV:=G (show nQ (aR ag) (p.fs.take 0) ([],ii)=([],ii)from rfl)
  go_upto_region 8 with fail
  clear K;obtain⟨k,aF⟩: ∃k,kC d.heap.size (.slice u n c) (.slice B m w) aK ag=k:=⟨_,rfl⟩
  have A:=G (show k.base=d.heap.size/\k.c=d.heap.size+1+1+1/\k.sz=ag/\k.pl=aK by subst aF;exact⟨rfl,rfl,rfl,rfl⟩);obtain⟨aJ,aV⟩: ∃aJ,oC d.heap.size (.slice u n c) (.slice B m w) aK ag=aJ:=⟨_,rfl⟩
  have a6:=G (show ∀b,aJ b->d.heap.size<=b by subst aV;exact λb o=>Fe o);rw[aF,aV]at aw a8;clear aF aV
  go_loopw [31] (λaO wr=> ∃(j:Nat) (af:Nat->Prop) (ap:List (Nm×Int)) (an:CS),aO= .int .i64 (j:Int)/\j<=m/\Hid (CQ k ap aJ aE a.heap.size 31 #[.slice u n c, .slice B m w] af an wr)/\Hid (nQ (aR ag) (p.fs.take j) ([],ii)=(ap,an))) (λaO _=>m-(intOf aO).toNat)
  case atStart=>exact⟨0,_,_,_,rfl,aD _,aw,bV⟩
  case round=>
   obtain⟨j,af,ap,an,rfl,cg,H,av⟩:=hrel;clear aw bV;generalize wr=am at*;by_cases hlt:j<m
   ·have ce:(j:Int)<(m:Int):=Qa
    have aT:j<p.fs.length:=by rw[b4.out];exact hlt
    have a9:=G (H.out.T.keepP a8.out);rw[A.out.1]at a9;obtain⟨b,cG,cF,cL,rfl,cJ,cK,cb,b9,b8,aQ,aP⟩:=nu (cy.out.keep a9.out (Q:=λb=>b<d.heap.size) λb o _=>o) j aT;obtain⟨cD,ck,rfl,_⟩:=id aQ;obtain⟨cC,cj,rfl,_⟩:=aP.form;have ai:=G (zf aT av.out);have ae:=G (bY.out (j+1));rw[ai.out]at ae;have cz:=G (cu.out _ (ay aT));generalize p.fs[j]=f at*;have bS:=G aQ;have bR:=G aP;clear aQ aP
    go_upto_region 10 with fail
    generalize ao:World.alloc am _=W7;obtain⟨aG,al,_⟩:=kZ ao;have aj:=G (H.out.ext aG);have bQ:=G (bS.out.keep (.of_ext aG) (Q:=λb=>b<k.base) λb o _=>by rw[A.out.1];exact o);have bP:=G (bR.out.keep (.of_ext aG) (Q:=λb=>b<k.base) λb o _=>by rw[A.out.1];exact o);have K:=al.out.cell;have bf:=G (EI k ap f cz.out af W7 an cD cC ck cj aj.out.m aj.out.e bQ.out bP.out (by rw[A.out.2.2.1];exact ae.out));rw[A.out.2.2.1,A.out.2.1]at bf;clear ao aG al cb b9 b8 bS bR bQ bP av H a9;go_wp2_with (go_at_call 33;refine bf.out.mono ?_;rintro e bq ⟨rfl,cl,bu,bF⟩;have a7:=G bu;have ar:=G bF;clear bf K bu bF);have cs:=G (CQ.mk a7.out (aj.out.T.trans ar.out) (aj.out.x.st ar.out) (aj.out.e.st aj.out.m ar.out));go_roundw
    case rel=>exact⟨j+1,cl,_,_,by go_num,by omega,cs,ai⟩
    case measure=>simp[intOf];omega
   ·have cf:m=j:=Qa
    subst cf;have ce: ¬(m:Int)<(m:Int):=Qa
    have ai:=av.out;rw[bO (by rw[b4.out];exact ah _)]at ai;have ae:=G (bY.out m);rw[av.out]at ae;rw[ai]at z ab Z ac X;simp only at z ab Z ac X ae
    have cx:=G (show FT am from by
     obtain⟨t,fr,o⟩:=bc.out.1
     exact⟨t,fr,(H.out.T.1.block _ (Array.getElem?_eq_some_iff.1 o).1 λe=>by have:=a6.out _ e;have:=bc.out.2;omega).trans o⟩)
    have bb:=G (zn k ap af am an b6 H.out.m H.out.e cx.out (by rw[A.out.1];exact bc.out.2) (by have:=ax.out.2;omega) ae.out ab.out Z.out ac.out (by rw[A.out.2.2.2];exact X.out));rw[A.out.2.2.2,A.out.2.1,<-z.out]at bb;have cq:=G (H.out.T.1.blk cr.out λe=>by have:=a6.out _ e;have:=a3.out;omega);have bZ:=G (show ∀b,af b->d.heap.size<=b from λb e=>by have:=(H.out.m.lt e).1;rw[A.out.1]at this;exact this);have cv:=G (show Mv (λb=>a.heap.size<=b) a am from((cQ (cn.out.trans cm.out)).trans (aL.out.mono λb _ e=>by have:=aB.out;omega)).trans (H.out.T.1.mono λb _ e=>by have:=a6.out b e;have:=aB.out;omega))
    have bW:=G (show ∀e w',((∃u c B w,e=Ending.returned (.tuple #[y.1.val u B c w, .int .i64 y.2])/\Sl w' u c y.1.code/\Sl w' B w y.1.data)/\Mv af am w')->(∃u c B w,e=Ending.returned (.tuple #[.agg #[.slice u y.1.code.length c, .slice B y.1.data.length w, .int .i64 y.1.zero, .int .i64 y.1.entry], .int .i64 y.2])/\Sl w' u c y.1.code/\Sl w' B w y.1.data)/\Mv (λb=>a.heap.size<=b) a w'/\aM w' (a.heap.size+1) 38 #[.slice none 0 0, .slice none 0 0, .int .i64 0, .int .i64 0]from
     λe w' ⟨ch,bM⟩=>⟨ch,cv.out.trans (bM.mono λb _ e=>by have:=bZ.out b e;have:=aB.out;omega),bM.blk cq.out λe=>by have:=bZ.out _ e;have:=a3.out;omega⟩)
    clear av ai z ab Z ac X ae H cg hlt
    go_upto_region 13 with(go_at_call 34;refine bb.out.mono ?_;intro e bq bw;obtain⟨⟨bl,aY,bk,aX,rfl,bt,br⟩,bx,bC⟩:=bW.out e bq bw;have ar:=G bt;have co:=G br;have a7:=G bx;have aC:=G bC;clear bw bt br bx bC bb bW;have b7:=aC.out.cell;have ci:=aC.out.frozen)
    have aS:=(aC.out.put4 (.slice bl y.1.code.length aY) (.slice bk y.1.data.length aX) (.int .i64 y.1.zero) (.int .i64 y.1.entry)).cell;exact bodyPost_ret (v:= .tuple #[.agg #[.slice bl y.1.code.length aY, .slice bk y.1.data.length aX, .int .i64 y.1.zero, .int .i64 y.1.entry], .int .i64 y.2]) (by simp[results,results12,go_sem,aS]) rfl ⟨⟨bl,aY,bk,aX,rfl,Av ar.out aC.out _ _ _ _,Av co.out aC.out _ _ _ _⟩,(a7.out.put4 (g:=a.heap.size+1) (dX _) _ _ _ _).ext λk aF o=>by omega⟩
 ·rw[if_neg he]at z;have cI:(aI==0)=false:=Qn.2 he;clear he
  go_upto_region 3 with(go_at_call 11;refine az.out.mono ?_;rintro e d ⟨rfl,J⟩;have ak:=G (aZ.out.trans J);have M:=G (aN.out.ext J);clear J az K)
  have b7:=M.out.cell;have ci:=M.out.frozen;have cp:=G (M.out.put4 (.slice none 0 0) (.slice none 0 0) (.int .i64 0) (.int .i64 0)).cell;have cw:=G (ak.out.put4 (g:=a.heap.size+1) (dX _) (.slice none 0 0) (.slice none 0 0) (.int .i64 0) (.int .i64 0));go_wp2_with fail;have aS:=cp.out;exact bodyPost_ret (v:= .tuple #[.agg #[.slice none 0 0, .slice none 0 0, .int .i64 0, .int .i64 0], .int .i64 1]) (by simp[results,results12,go_sem,aS]) rfl ⟨⟨none,0,none,0,by rw[z.out];rfl,by rw[z.out];exact eI _,by rw[z.out];exact eI _⟩,cw.out⟩
end
section
open Go.RowKit
mutual
def He:Ex->Nat
 | .mk k op nm tx v a=>80+tx.length+vw a
def vw:List Ex->Nat
 | []=>0
 |x::l=>He x+vw l
end
mutual
theorem Fw: ∀x:Ex,He x<=80*x.wt
 | .mk k op nm tx v a=>by
  have:=sd a;rw[He,Ex.wt];omega
theorem sd: ∀l:List Ex,vw l<=80*gD l
 | []=>by simp[vw]
 |x::r=>by
  have:=Fw x;have:=sd r;rw[vw,gD];omega
end
theorem zM {l:List Ex} {j:Nat} (a:j<l.length):vw (l.drop j)=He l[j]+vw (l.drop (j+1)):=by
 rw[ap a,vw]
def IN (xs:List Ex):Prop:= ∀(P:Nat->Prop) (w:World) (A:Option Addr) (n c:Nat),dL w P (.slice A n c) xs->Calls prog 75 #[.slice A n c] w λe w'=>e= .returned (.int .i64 (vw xs:Int))/\au w w'
theorem tM (xs:List Ex) (bc:gD xs<=100000000) (al: ∀x∈xs,IN x.args):IN xs:=by
 intro P ai bj n c V;obtain⟨bi,c',aI,aN⟩:=V.form;injection aI with aH aF aE;subst aH aF aE;have aL:=eg xs;have aO:=sd xs;have aw:=G V;have a5:=G al;obtain⟨N,z⟩: ∃N,xs.length=N:=⟨_,rfl⟩
 have ax:=G z;rw[z]at aw aL;obtain⟨A,R⟩: ∃aY,vw xs=aY:=⟨_,rfl⟩
 have a3:=G (show 0+vw (xs.drop 0)=A by rw[<-R];simp);have a1:=G (aG ai);have bf:A<=8000000000:=Qa
 rw[z,R];clear V aN al z R aO;go_enter func75,ntmps75;go_wp2_with fail
 go_loopw [3,8] (λaC H wr=> ∃(j m:Nat),H= .int .i64 (j:Int)/\aC= .int .i64 (m:Int)/\j<=N/\Hid (m+vw (xs.drop j)=A)/\Hid (au ai wr)) (λ_ H _=>N-(intOf H).toNat)
 case atStart=>exact⟨0,0,rfl,rfl,aD _,a3,a1⟩
 case round=>
  obtain⟨j,m,rfl,rfl,bd,ae,d⟩:=hrel;by_cases hlt:j<N
  ·have aJ:(j:Int)<N:=Qa
   have I:j<xs.length:=by have:=ax.out;omega
   obtain⟨b,a8,bh,rfl,a,bg,ad,ac,ab,aa,Z,ao,y⟩:=aw.out.at_ j I;have M:=zM I;have X:=a5.out _ (ay I);generalize xs[j]=aB at*;obtain⟨k,op,nm,tx,v,F⟩:=aB;simp only[Ex.k,Ex.op,Ex.nm,Ex.tx,Ex.v,Ex.args]at ad ac ab aa Z y X;rw[He]at M;have w:=ae.out;rw[M]at w;have e0:=(d.out.cell b _ a).trans ad;have aV:=(d.out.cell b _ a).trans ac;have aU:=(d.out.cell b _ a).trans ab;have aT:=(d.out.cell b _ a).trans aa;have aS:=(d.out.cell b _ a).trans Z;have aR:=(d.out.cell b _ a).trans ao;obtain⟨ah,c1,rfl,_⟩:=y.form;obtain⟨u,K⟩: ∃u,wr.alloc (.cells #[.int .i64 k, .string (ak op), .string (ak nm), .string (ak tx), .int .i64 v, .slice ah F.length c1] 206)=u:=⟨_,rfl⟩
   have an:=au.of_eq_alloc K;have aA:=G (show aM u wr.heap.size 206 #[.int .i64 k, .string (ak op), .string (ak nm), .string (ak tx), .int .i64 v, .slice ah F.length c1] by rw[<-K];exact aq _ _ _);have ap:=G (d.out.trans an);have av:=G (y.keep (.of_ext ap.out) (Q:=P) (λb a _=>a));obtain⟨o,J⟩: ∃aW,vw F=aW:=⟨_,rfl⟩
   rw[J]at w;have az:=G (λW (aQ:au u W)=>J▸X P W ah _ c1 (av.out.keep (.of_ext aQ) (Q:=P) (λb a _=>a)));have a2:=G w;have be:m+(80+tx.length+o)<=8000000000:=Qa
   clear ad ac ab aa Z ao y X an av J M w ae
   go_upto_region 5 with fail
   clear K e0 aV aU aT aS aR;have aX:=aA.out.cell;have ag:=G (show au u u.drew from eJ (aG _));have ar:=G (a7 tx);have aj:=a7 tx;obtain⟨T,aP⟩: ∃T,(ak tx).size=T:=⟨_,rfl⟩
   rw[aP]at ar aj;have bb:IntKind.i64.wrap (80+(T:Int))=80+T:=Qc
   have ba:IntKind.i64.wrap (80+(T:Int)+o)=80+T+o:=Qc
   have a9:IntKind.i64.wrap ((m:Int)+(80+T+o))=m+(80+T+o):=Qc
   clear aj
   go_region_law (go_simp;go_at_call 75;refine(az.out _ ag.out).mono ?_;rintro e a6 ⟨rfl,am⟩;have af:=G (ag.out.trans am);have c2:=(aA.out.ext af.out).cell;clear az am)
   all_goals
    have aZ:=G (ap.out.trans af.out);clear aX c2 ag af;go_wp2_with fail;go_roundw
    case rel=>exact⟨j+1,m+(80+tx.length+o),by go_num,congrArg (Value.int .i64) (by have:=ar.out;omega),by omega,G (by have:=a2.out;omega),aZ⟩
    case measure=>simp[intOf];omega
  ·have aJ: ¬(j:Int)<N:=Qa
   have a4:=G (show m=A by
    have:=ae.out;rw[aK (by have:=ax.out;omega),vw]at this
    omega)
   go_wp2_with fail;go_ret;exact⟨by rw[<-a4.out];rfl,d.out⟩
theorem ro: ∀(m:Nat) (xs:List Ex),gD xs<=m->gD xs<=100000000->IN xs
 |0,xs,h,hw=>tM xs hw (λx a=>by have:=em a;have:=x.wt_eq;omega)
 |m+1,xs,h,hw=>tM xs hw (λx a=>ro m x.args (by have:=em a;have:=x.wt_eq;omega) (by have:=em a;have:=x.wt_eq;omega))
end
section
open Go.RowKit
mutual
def Hd:St->Nat
 | .mk k nm ex b e=>80+vw ex+kB b+kB e
def kB:List St->Nat
 | []=>0
 |x::l=>Hd x+kB l
end
mutual
theorem Fv: ∀x:St,Hd x<=80*x.wt
 | .mk k nm ex b e=>by
  have:=sd ex;have:=pG b;have:=pG e;rw[Hd,St.wt];omega
theorem pG: ∀l:List St,kB l<=80*gd l
 | []=>by simp[kB]
 |x::r=>by
  have:=Fv x;have:=pG r;rw[kB,gd];omega
end
theorem xX {l:List St} {j:Nat} (a:j<l.length):kB (l.drop j)=Hd l[j]+kB (l.drop (j+1)):=by
 rw[ap a,kB]
def IP (xs:List St):Prop:= ∀(P:Nat->Prop) (w:World) (A:Option Addr) (n c:Nat),ed w P (.slice A n c) xs->Calls prog 36 #[.slice A n c] w λe w'=>e= .returned (.int .i64 (kB xs:Int))/\au w w'
theorem tN (xs:List St) (bG:gd xs<=100000000) (aQ: ∀x∈xs,IN x.ex/\IP x.body/\IP x.els):IP xs:=by
 intro P aO bN n c ar;obtain⟨bM,c',ba,bd⟩:=ar.form;injection ba with a9 a8 a7;subst a9 a8 a7;have bc:=fd xs;have be:=pG xs;have aZ:=G ar;have bt:=G aQ;obtain⟨N,ac⟩: ∃N,xs.length=N:=⟨_,rfl⟩
 have a1:=G ac;rw[ac]at aZ bc;obtain⟨ad,ap⟩: ∃bk,kB xs=bk:=⟨_,rfl⟩
 have bp:=G (show 0+kB (xs.drop 0)=ad by rw[<-ap];simp);have bm:=G (aG aO);have bJ:ad<=8000000000:=Qa
 rw[ac,ap];clear ar bd aQ ac ap be;go_enter func36,ntmps36;go_wp2_with fail
 go_loopw [3,8] (λa6 ah wr=> ∃(j m:Nat),ah= .int .i64 (j:Int)/\a6= .int .i64 (m:Int)/\j<=N/\Hid (m+kB (xs.drop j)=ad)/\Hid (au aO wr)) (λ_ ah _=>N-(intOf ah).toNat)
 case atStart=>exact⟨0,0,rfl,rfl,aD _,bp,bm⟩
 case round=>
  obtain⟨j,m,rfl,rfl,bH,aH,A⟩:=hrel;by_cases hlt:j<N
  ·have bb:(j:Int)<N:=Qa
   have ai:j<xs.length:=by have:=a1.out;omega
   obtain⟨b,bz,e,bL,bB,rfl,d,bK,ax,av,aU,aT,aS,aa,ab,Z⟩:=aZ.out.at_ j ai;have ao:=xX ai;have J:=bt.out _ (ay ai);generalize xs[j]=a5 at*;obtain⟨k,nm,aA,aF,aC⟩:=a5;simp only[St.k,St.nm,St.ex,St.body,St.els]at ax av aa ab Z J;rw[Hd]at ao;have X:=aH.out;rw[ao]at X;have e0:=(A.out.cell b _ d).trans ax;have bi:=(A.out.cell b _ d).trans av;have bh:=(A.out.cell b _ d).trans aU;have bg:=(A.out.cell b _ d).trans aT;have bf:=(A.out.cell b _ d).trans aS;obtain⟨aL,c1,rfl,_⟩:=aa.form;obtain⟨aJ,c2,rfl,_⟩:=ab.form;obtain⟨aI,aE,rfl,_⟩:=Z.form;obtain⟨w,an⟩: ∃w,wr.alloc (.cells #[.int .i64 k, .string (ak nm), .slice aL aA.length c1, .slice aJ aF.length c2, .slice aI aC.length aE] 147)=w:=⟨_,rfl⟩
   have aR:=au.of_eq_alloc an;have V:=G (show aM w wr.heap.size 147 #[.int .i64 k, .string (ak nm), .slice aL aA.length c1, .slice aJ aF.length c2, .slice aI aC.length aE] by rw[<-an];exact aq _ _ _);have af:=G (A.out.trans aR);have aX:=G (aa.keep (.of_ext af.out) (Q:=P) (λb d _=>d));have aY:=G (ab.keep (.of_ext af.out) (Q:=P) (λb d _=>d));have aW:=G (Z.keep (.of_ext af.out) (Q:=P) (λb d _=>d));obtain⟨o,am⟩: ∃R,vw aA=R:=⟨_,rfl⟩
   obtain⟨u,al⟩: ∃R,kB aF=R:=⟨_,rfl⟩
   obtain⟨z,aj⟩: ∃R,kB aC=R:=⟨_,rfl⟩
   rw[am,al,aj]at X;have a4:=G (λW (M:au w W)=>am▸J.1 P W aL _ c1 (aX.out.keep (.of_ext M) (Q:=P) (λb d _=>d)));have a3:=G (λW (M:au w W)=>al▸J.2.1 P W aJ _ c2 (aY.out.keep (.of_ext M) (Q:=P) (λb d _=>d)));have a2:=G (λW (M:au w W)=>aj▸J.2.2 P W aI _ aE (aW.out.keep (.of_ext M) (Q:=P) (λb d _=>d)));have bn:=G X;have bI:m+(80+o+u+z)<=8000000000:=Qa
   clear ax av aU aT aS aa ab Z J aR aX aY aW am al aj ao X aH
   go_upto_region 5 with fail
   clear an e0 bi bh bg bf;have bj:=V.out.cell;have bu:=G (show au w w.drew from eJ (aG _));have bF:IntKind.i64.wrap (80+(o:Int))=80+o:=Qc
   have bE:IntKind.i64.wrap (80+(o:Int)+u)=80+o+u:=Qc
   have bD:IntKind.i64.wrap (80+(o:Int)+u+z)=80+o+u+z:=Qc
   have bC:IntKind.i64.wrap ((m:Int)+(80+o+u+z))=m+(80+o+u+z):=Qc
   clear bj bu;refine aB 14 4 [(3,λv=>v= .int .i64 (o:Int),λ_ _=>True),(7,λv=>v= .int .i64 (u:Int),λ_ _=>True),(11,λv=>v= .int .i64 (z:Int),λ_ _=>True)] mixed Qb ⟨λ_ _ _ _ _=>trivial,λ_ _ _ _ _=>trivial,λ_ _ _ _ _=>trivial,trivial⟩ ?_;repeat (first|(refine bS Qf ?_;simp only[bA,bx,bw,br,bo])|(refine sx ?_ (λag a=> ?_) ?_;rotate_left;(focus have az:=(V.out.ext a.un).cell;clear a;go_simp<;>with_reducible rfl);simp only[bA,bx,bw,br,bo]))
   refine so (λF a y aV I=> ?_) ?_
   ·have H:=a4.out F a.un;clear y a;go_simp;refine H.mono ?_;rintro e aN ⟨rfl,K⟩;exact I _ _ K rfl trivial
   rintro _ rfl;simp only[bA,bx,bw,br,bo];repeat (first|(refine bS Qf ?_;simp only[bA,bx,bw,br,bo])|(refine sx ?_ (λag a=> ?_) ?_;rotate_left;(focus have az:=(V.out.ext a.un).cell;clear a;go_simp<;>with_reducible rfl);simp only[bA,bx,bw,br,bo]))
   refine so (λF a y aV I=> ?_) ?_
   ·have H:=a3.out F a.un;clear y a;go_simp;refine H.mono ?_;rintro e aN ⟨rfl,K⟩;exact I _ _ K rfl trivial
   rintro _ rfl;simp only[bA,bx,bw,br,bo];repeat (first|(refine bS Qf ?_;simp only[bA,bx,bw,br,bo])|(refine sx ?_ (λag a=> ?_) ?_;rotate_left;(focus have az:=(V.out.ext a.un).cell;clear a;go_simp<;>with_reducible rfl);simp only[bA,bx,bw,br,bo]))
   refine so (λF a y aV I=> ?_) ?_
   ·have H:=a2.out F a.un;clear y a;go_simp;refine H.mono ?_;rintro e aN ⟨rfl,K⟩;exact I _ _ K rfl trivial
   rintro _ rfl;simp only[bA,bx,bw,br,bo];repeat (first|(refine bS Qf ?_;simp only[bA,bx,bw,br,bo])|(refine sx ?_ (λag a=> ?_) ?_;rotate_left;(focus have az:=(V.out.ext a.un).cell;clear a;go_simp<;>with_reducible rfl);simp only[bA,bx,bw,br,bo]))
   intro bv aP y;clear y;simp only[ae,aw];have bl:=G (af.out.trans aP.un);clear aP a4 a3 a2;go_wp2_with fail;go_roundw
   case rel=>exact⟨j+1,m+(80+o+u+z),by go_num,congrArg (Value.int .i64) Qa,by omega,G (by have:=bn.out;omega),bl⟩
   case measure=>simp[intOf];omega
  ·have bb: ¬(j:Int)<N:=Qa
   have bq:=G (show m=ad by
    have:=aH.out;rw[aK (by have:=a1.out;omega),kB]at this
    omega)
   go_wp2_with fail;go_ret;exact⟨by rw[<-bq.out];rfl,A.out⟩
theorem mE: ∀(m:Nat) (xs:List St),gd xs<=m->gd xs<=100000000->IP xs
 |0,xs,h,hw=>tN xs hw (λx a=>by have:=cI a;have:=x.wt_eq;omega)
 |m+1,xs,h,hw=>tN xs hw (λx a=>⟨ro _ x.ex (ah _) (by have:=cI a;have:=x.wt_eq;omega),mE m x.body (by have:=cI a;have:=x.wt_eq;omega) (by have:=cI a;have:=x.wt_eq;omega),mE m x.els (by have:=cI a;have:=x.wt_eq;omega) (by have:=cI a;have:=x.wt_eq;omega)⟩)
end
section
open Go.RowKit
def IR (f:Fc):Nat:=16+jx f+kB f.body
def qU:List Fc->Nat
 | []=>0
 |f::l=>IR f+qU l
def IG (p:Pg):Nat:=if(oL p).2=0 then 48+qU p.fs else 0
theorem xY {l:List Fc} {j:Nat} (a:j<l.length):qU (l.drop j)=IR l[j]+qU (l.drop (j+1)):=by
 rw[ap a,qU]
theorem tO (p:Pg) (a7:oq p<=6000000) (aE: ∀f∈p.fs,gd f.body<=6000000/\f.ps.length<=6000000) (ba:qU p.fs<=100000000000) (u:World) (M B:Option Addr) (n c m J:Nat) (aI:pt u (λ_=>True) (.slice M n c) p.vs) (aM:pE u (λ_=>True) (.slice B m J) p.fs) (aJ:ea u u.heap.size) (aN:BT u):
  Calls prog 13 #[.agg #[.slice M n c, .slice B m J]] u λe w'=>e= .returned (.int .i64 (IG p:Int))/\au u w':=by
 have A:=aa u (.cells #[.slice M n c, .slice B m J] 31);have av:=G (aq u 31 #[.slice M n c, .slice B m J]);have ao:=G A;have aU:=G (aI.keep (.of_ext A) (Q:=λ_=>True) (λ_ F _=>trivial));have ab:=G (aM.keep (.of_ext A) (Q:=λ_=>True) (λ_ F _=>trivial));have aV:=G (gZ aJ A);have aZ:=G (aN.ext A);have y:=G (show IG p=if(oL p).2=0 then 48+qU p.fs else 0 from rfl);have bj:=G aE;generalize IG p=Z at*;clear aI aM aJ aN A aE;go_enter func13,ntmps13
 go_upto_region 1 with fail
 generalize World.alloc u _=bc at*;have K:=G (rU p a7 (λ_=>True) bc M B n c m J aU.out ab.out aV.out aZ.out);have X:=av.out.cell;obtain⟨V,d⟩: ∃V,(oL p).2=V:=⟨_,rfl⟩
 rw[d]at y K;clear d;have aC:p.fs.length=m:=by obtain⟨bK,c',e,_⟩:=ab.out;injection e with _ e _;exact e.symm
 have bB:m<=6000000:=by have:=sh p;omega
 have aX:=G aC;clear aC;by_cases he:V=0
 ·subst he;rw[if_pos rfl]at y
  go_upto_region 5 with(go_at_call 11;refine K.out.mono ?_;rintro e z ⟨rfl,d⟩;have H:=G d;clear d K X)
  have bl:=G (av.out.ext H.out);have X:=bl.out.cell;have bk:=G (ab.out.keep (.of_ext H.out) (Q:=λ_=>True) (λ_ F _=>trivial));have aW:=G (show 48+qU (p.fs.drop 0)=Z by rw[y.out];simp);have aT:=G (aG z);have bH:Z<=100000000048:=by rw[y.out];omega
  have be:=G (ao.out.trans H.out);clear y ba ab aU aV aZ av ao H
  go_upto_region 6 with fail
  clear X
  go_loopw [5,18] (λa3 af wr=> ∃(j t:Nat),af= .int .i64 (j:Int)/\a3= .int .i64 (t:Int)/\j<=m/\Hid (t+qU (p.fs.drop j)=Z)/\Hid (au z wr)) (λ_ af _=>m-(intOf af).toNat)
  case atStart=>exact⟨0,48,rfl,rfl,aD _,aW,aT⟩
  case round=>
   obtain⟨j,t,rfl,rfl,bC,ap,an⟩:=hrel;clear aW aT;by_cases hlt:j<m
   ·have a8:(j:Int)<(m:Int):=Qa
    have ai:j<p.fs.length:=by rw[aX.out];exact hlt
    obtain⟨b,bq,bp,bJ,rfl,bF,bI,a6,a5,a4,ax,ag⟩:=nu (bk.out.keep (.of_ext an.out) (Q:=λ_=>True) λ_ _ _=>trivial) j ai;obtain⟨bm,bb,rfl,_⟩:=id ax;obtain⟨a1,aR,rfl,_⟩:=ag.form;have aL:=xY ai;obtain⟨aP,aO⟩:=bj.out _ (ay ai);generalize p.fs[j]=f at*;have aS:=G ag;have R:=ap.out;rw[aL]at R;clear ax ag aL ap
    go_upto_region 8 with fail
    generalize aH:World.alloc wr _=W7;obtain⟨al,ac,_⟩:=kZ aH;have am:=G (aS.out.keep (.of_ext al) (Q:=λ_=>True) λ_ _ _=>trivial);have ar:=G (λW (F:au W7 W)=>pV f.nm f.ps f.body aP aO (λ_=>True) W bm a1 bb aR (am.out.keep (.of_ext F) (Q:=λ_=>True) λ_ _ _=>trivial));have aY:=G (λW (F:au W7 W)=>mE _ f.body (ah _) Qa (λ_=>True) W a1 _ aR (am.out.keep (.of_ext F) (Q:=λ_=>True) λ_ _ _=>trivial));have bf:=G (an.out.trans al);have aF:jx ⟨f.nm,f.ps,f.body⟩=jx f:=rfl;have az:IR f=16+jx f+kB f.body:=rfl;have bD:32<=jx f:=by show 32<=4*(8+f.ps.length+cN f.body);omega
    rw[aF]at ar;rw[az]at R;generalize jx f=o at*;generalize kB f.body=w at*;have bh:=G R;have bG:t+(16+o+w)<=100000000048:=Qa
    clear aH al a6 a5 a4 aS am R aF az aP aO;have bz:IntKind.i64.wrap (48+(o:Int))=48+o:=Qc
    have bv:IntKind.i64.wrap (48+(o:Int)-32)=48+o-32:=Qc
    have bu:IntKind.i64.wrap (48+(o:Int)-32+w)=48+o-32+w:=Qc
    have bt:IntKind.i64.wrap ((t:Int)+(48+(o:Int)-32+w))=t+(48+o-32+w):=Qc
    refine aB 10 4 [(2,λv=>v= .int .i64 (o:Int),λ_ _=>True),(7,λv=>v= .int .i64 (w:Int),λ_ _=>True)] mixed Qb ⟨λ_ _ _ _ _=>trivial,λ_ _ _ _ _=>trivial,trivial⟩ ?_;repeat (first|(refine bS Qf ?_;simp only[bA,bx,bw,br,bo])|(refine sx ?_ (λz a=> ?_) ?_;rotate_left;(focus have aQ:=(ac.out.ext a.un).cell;clear a;go_simp<;>with_reducible rfl);simp only[bA,bx,bw,br,bo]))
    refine so (λad a I bd ak=> ?_) ?_
    ·have aj:=ar.out ad a.un;clear I a;go_simp;refine aj.mono ?_;rintro e a2 ⟨rfl,d⟩;exact ak _ _ d rfl trivial
    rintro _ rfl;simp only[bA,bx,bw,br,bo];repeat (first|(refine bS Qf ?_;simp only[bA,bx,bw,br,bo])|(refine sx ?_ (λz a=> ?_) ?_;rotate_left;(focus have aQ:=(ac.out.ext a.un).cell;clear a;go_simp<;>with_reducible rfl);simp only[bA,bx,bw,br,bo]))
    refine so (λad a I bd ak=> ?_) ?_
    ·have aj:=aY.out ad a.un;clear I a;go_simp;refine aj.mono ?_;rintro e a2 ⟨rfl,d⟩;exact ak _ _ d rfl trivial
    rintro _ rfl;simp only[bA,bx,bw,br,bo];repeat (first|(refine bS Qf ?_;simp only[bA,bx,bw,br,bo])|(refine sx ?_ (λz a=> ?_) ?_;rotate_left;(focus have aQ:=(ac.out.ext a.un).cell;clear a;go_simp<;>with_reducible rfl);simp only[bA,bx,bw,br,bo]))
    intro bn aA I;clear I;simp only[ae,aw];have bg:=G (bf.out.trans aA.un);clear aA ar aY;go_wp2_with fail;go_roundw
    case rel=>exact⟨j+1,t+(16+o+w),by go_num,congrArg (Value.int .i64) Qa,by omega,G (by have:=bh.out;omega),bg⟩
    case measure=>simp[intOf];omega
   ·have a9:m=j:=Qa
    subst a9;have a8: ¬(m:Int)<(m:Int):=Qa
    have bi:=G (show t=Z by
     have:=ap.out;rw[aK (by have:=aX.out;omega),qU]at this
     omega)
    go_wp2_with fail;go_ret;exact⟨by rw[<-bi.out];rfl,be.out.trans an.out⟩
 ·rw[if_neg he]at y;have bE:(V==0)=false:=Qn.2 he;clear he;go_wp2_with (go_at_call 11;refine K.out.mono ?_;rintro e z ⟨rfl,d⟩;have H:=G (ao.out.trans d);clear d K X);go_ret;exact⟨by rw[y.out];rfl,H.out⟩
def Cu (p:Pg) (w:World) (e:Ending) (w':World):Prop:=au w w'/\ ∃A n c B m d,e= .returned (.tuple #[.agg #[.slice A n c, .slice B m d], .int .i64 0, .int .i64 0])/\pt w' (λ_=>True) (.slice A n c) p.vs/\pE w' (λ_=>True) (.slice B m d) p.fs
theorem FP {s:List UInt8} {p:Pg} {a:World} (y:Calls prog 22 #[.string (ak s)] a (wZ a (p,0,0))):Calls prog 22 #[.string (ak s)] a (Cu p a):=by
 refine y.mono λe w' d=> ?_;obtain⟨w,A,n,c,B,m,z,h,o,u⟩:=d;exact⟨w,A,n,c,B,m,z,h,o.keep (.of_ext (.refl _)) (λ_ _ _=>trivial),u.keep (.of_ext (.refl _)) (λ_ _ _=>trivial)⟩
theorem FO (a:World) (d:EZ a) (h:ea a a.heap.size):Calls prog 22 #[.string (ak C8)] a (Cu gS a):=FP (by have:=ow C8 a d h;rwa [C6]at this)
end
end Go.Proofs.YtoedmpgicdekmaaGreatDoor
