/- Parts of the proof. -/
import Derived.Test.YtddomeddabfinaaGreatDoorTt00
import Derived.Test.YtddomeddabfinaaGreatDoorTt43
import Derived.Test.YtddomeddabfinaaGreatDoorTt44
import Derived.Test.YtddomeddabfinaaGreatDoorTt26
import Derived.Test.YtddomeddabfinaaGreatDoorTt45
set_option maxRecDepth 100000
set_option maxHeartbeats 8000000
set_option linter.unusedVariables false
set_option linter.unusedSimpArgs false
set_option linter.unusedSectionVars false
namespace Go.Proofs.YtddomeddabfinaaGreatDoor
open IntKind(i64)
open Go.Proofs.Tryz
open Go.RowKit
abbrev Eg:Vr:=⟨[122,122,95,117,110,117,115,101,100],0⟩
theorem tG (p:Pg):jo ⟨p.vs++[Eg],p.fs⟩=jo p+10:=by
 unfold jo;simp only[d9,lh,bF,cY,eq,nc,ah,ai];omega
theorem vD {k d a b c:Int} {l:List UInt8} {u:Nat} {q:Nat} (o:l.length=q) {h:Option Addr} {e:Nat} {j W:World} (w:az j W) (z:Sl j h e l):
  GQ ⟨k,d,a,b,c,l,u⟩ (.agg #[.int i64 k,.int i64 d,.int i64 a,.int i64 b,.int i64 c,.slice h q e,.int i64 (u:Int)]) W:=⟨h,e,by rw[<-o];rfl,z.ext w⟩
section
variable {p:Pg} (hp:jo p<=5999990) (hck:(gF p).2=0) {R:Rs} (hr:R.length<=1000000000) {P:Nat->Prop} {w:World} {A B C:Option Addr} {n c m d q cc:Nat} (hV:ik w P (.slice A n c) p.vs) (hF:jl w P (.slice B m d) p.fs) (hR:lD w P (.slice C q cc) R) (hz:EZ w) (ht:dP w w.heap.size) (hB:BT w)
include hp hck hr hV hF hR hz ht hB
theorem Em (aX a3 a9 a5 a4:Int) (bU:List UInt8) (u3:Nat) (bl:Int) (aW:Nat) (cx:bU.length=aW)
  (cd:bl=0->kn p R 1000=⟨aX,a3,a9,a5,a4,bU,u3⟩)
  (cF: ∀(W:World) (o:az w W) (A B C:Option Addr) (bS ag bT af aq an:Nat),ik W (λ_=>True) (.slice A bS ag) (p.vs++[Eg])->jl W (λ_=>True) (.slice B bT af) p.fs->lD W (λ_=>True) (.slice C aq an) R->
   Calls prog 17 #[.agg #[.slice A bS ag,.slice B bT af],.slice C aq an,.int i64 1000] W λe w'=>az W w'/\ ∃bc cK,e=.returned (.tuple #[.agg #[.int i64 aX,.int i64 a3,.int i64 a9,.int i64 a5,.int i64 a4,.slice bc aW cK,.int i64 (u3:Int)],.int i64 bl])/\Sl w' bc cK bU):
  Calls prog 9 #[.agg #[.slice A n c,.slice B m d],.slice C q cc] w λe w'=>e=.returned (.bool true)/\az w w':=by
 obtain⟨b9,_⟩:=Ew hck;have bd:jo p<=6000000:=Qa
 obtain⟨s,b6⟩: ∃s,iZ p=s:=⟨_,rfl⟩
 have cA:lQ s=(p,0,0):=by rw[<-b6];exact CZ b9
 have cy:tE p=(s,0):=by unfold tE;rw[if_pos b9,b6]
 obtain⟨⟨ar,af,ax,av,ag,b3,u1⟩,ca⟩: ∃dd,kn p R 1000=dd:=⟨_,rfl⟩
 obtain⟨aq,b8⟩: ∃c1,b3.length=c1:=⟨_,rfl⟩
 rw[ca]at cd;have co:=O cd;have bF:=Z w (.cells #[.slice A n c,.slice B m d] 25);have cW:=O bF;have cp:=O (aw w 25 #[.slice A n c,.slice B m d]);have cY:=O (oN _ (hz.ext bF) (dN ht bF) (hB.ext bF));have cU:=O (fun(W:World) (z:az w W)=>Eu bd (ek hV z) (em hF z));have cV:=O (fun(W:World) (z:az w W)=>Bm R hr P W _ (hR.xt z));have cS:=O (fun(W:World) (z:az w W)=>Ax bd (ek hV z) (em hF z));have bW:=O (fun(W:World) (z:az w W)=>C5 hr (hR.xt z))
 have cX:=O (fun(W:World) (o:az w W) (A B:Option Addr) (n c m d:Nat) (hV:ik W (λ_=>True) (.slice A n c) p.vs) (hF:jl W (λ_=>True) (.slice B m d) p.fs)=>show Calls prog 13 #[.agg #[.slice A n c,.slice B m d]] W λe w'=>e=.returned (.tuple #[.string (J (gF p).1),.int i64 0])/\az W w' from by
  have:=mB p bd _ W A B n c m d hV hF (dN ht o) (hB.ext o)
  rwa [hck]at this)
 have cQ:=O (fun(W:World) (o:az w W) (A B:Option Addr) (n c m d:Nat) (hV:ik W (λ_=>True) (.slice A n c) p.vs) (hF:jl W (λ_=>True) (.slice B m d) p.fs)=>show Calls prog 31 #[.agg #[.slice A n c,.slice B m d]] W λe w'=>e=.returned (.tuple #[.string (J s),.int i64 0])/\az W w' from by
  have:=yn p bd _ W A B n c m d hV hF (dN ht o)
  rwa [cy]at this)
 have cR:=O (fun(W:World) (o:az w W)=>pP s p cA W (hz.ext o) (dN ht o));have cl:=O (λW o A B C bS ag bT af c5 an hV hF hR=>El p bd hck R 1000 Qc ca b8 w W o A B C bS ag bT af c5 an ht hB hV hF hR);have cP:=cl;have cO:=O cF;have cn:=O b8;have cT:=O cx;have df:p.vs.length<=6000000:=aR (vr p) bd;generalize (gF p).1=nm at*;generalize de:p.vs=vs at*;generalize p.fs=dC at*;clear hV hF hR hz ht hB hp bd hck hr b9 b6 cA cy ca bF b8 cx cF cd de;go_enter func9,ntmps9
 go_upto_region 4 with(first
  |(go_at_call 11;refine cY.out.mono ?_;rintro e ap ⟨rfl,o⟩;have M:=O (cW.out.trans o);have cj:=(cp.out.ext o).cell;have bu:=O (cp.out.ext o);clear o cY cW cp)
  |(go_at_call 14;refine(cS.out _ M.out).mono ?_;rintro e bO ⟨o,cr,al,ch,aV,aO,aT,rfl,cC,cG⟩;replace M:=O (M.out.trans o);replace bu:=O (bu.out.ext o);have ad:=O cC;have ah:=O cG;clear cj o cS cC cG))
 have bE:=Z bO (.cells #[.slice cr al ch,.slice aV aO aT] 34);have ai:=O (aw bO 34 #[.slice cr al ch,.slice aV aO aT]);replace M:=O (M.out.trans bE);replace bu:=O (bu.out.ext bE);replace ad:=O (ek ad.out bE);replace ah:=O (em ah.out bE);clear bE;generalize dj:bO.heap.size=dw at*;generalize bO.alloc (.cells #[.slice cr al ch,.slice aV aO aT] 34)=du at*;clear dj;have cj:=bu.out.cell
 go_upto_region 6 with(first
  |(go_at_call 12;refine(cU.out _ M.out).mono ?_;rintro e K ⟨⟨dr,rfl⟩,o⟩;replace M:=O (M.out.trans o);replace ai:=O (ai.out.ext o);replace ad:=O (ek ad.out o);replace ah:=O (em ah.out o);clear o cU bu cj;cases dr)
  |(go_at_call 16;refine(cV.out _ M.out).mono ?_;rintro e aA ⟨⟨dq,rfl⟩,o⟩;replace M:=O (M.out.trans o);replace ai:=O (ai.out.ext o);replace ad:=O (ek ad.out o);replace ah:=O (em ah.out o);clear o cV;cases dq))
 ·go_ret;exact⟨rfl,M.out⟩
 ·go_ret;exact⟨rfl,M.out⟩
 have cg:=ai.out.cell
 go_upto_region 11 with(first
  |(go_at_call 13;refine(cX.out _ M.out _ _ _ _ _ _ ad.out ah.out).mono ?_;rintro e dt ⟨rfl,o⟩;replace M:=O (M.out.trans o);replace ai:=O (ai.out.ext o);replace ad:=O (ek ad.out o);replace ah:=O (em ah.out o);clear o cX cg;have cg:=ai.out.cell)
  |(go_at_call 31;refine(cQ.out _ M.out _ _ _ _ _ _ ad.out ah.out).mono ?_;rintro e ds ⟨rfl,o⟩;replace M:=O (M.out.trans o);replace ai:=O (ai.out.ext o);replace ad:=O (ek ad.out o);replace ah:=O (em ah.out o);clear o cQ cg)
  |(go_at_call 32;refine(cR.out _ M.out).mono ?_;rintro e bP ⟨o,cs,b1,ci,cq,b2,cf,rfl,cE,cH⟩;replace M:=O (M.out.trans o);replace ai:=O (ai.out.ext o);replace ad:=O (ek ad.out o);replace ah:=O (em ah.out o);have ba:=O cE;have bb:=O cH;clear o cR cE cH))
 have be:=Z bP (.cells #[.slice cs b1 ci,.slice cq b2 cf] 34);have bq:=O (aw bP 34 #[.slice cs b1 ci,.slice cq b2 cf]);replace M:=O (M.out.trans be);replace ai:=O (ai.out.ext be);replace ad:=O (ek ad.out be);replace ah:=O (em ah.out be);replace ba:=O (ek ba.out be);replace bb:=O (em bb.out be);clear be;generalize dk:bP.heap.size=dy at*;generalize bP.alloc (.cells #[.slice cs b1 ci,.slice cq b2 cf] 34)=bx at*;clear dk;obtain⟨b5,_⟩:=ad.out.cells;have dh:al<=6000000:=Qa
 have cM:=O b5;have cN:=O (show(eB vs).length=al*2 by rw[kN,b5]);clear b5 df
 refine fC 11 12 (eW [(0,λv=> ∃g,v=.slice (some ⟨g,0,none⟩) 0 0,mh bx.heap.size 0 []),(3,λv=> ∃g bI,v=.slice (some ⟨g,0,none⟩) al bI,mh bx.heap.size al (eB vs)),(5,λv=> ∃g,v=.slice (some ⟨g,0,none⟩) 1 1,λv bY=> ∃g,v=.slice (some ⟨g,0,none⟩) 1 1/\aU bY g 85 (nN Eg).toArray),
   (6,λv=> ∃g bI,v=.slice (some ⟨g,0,none⟩) (al+1) bI,λv bY=>bY.ownsRow bx.heap.size 85 2 v (al+1) (eB vs++nN Eg)),(10,GO,lE bx 34 #[.slice none 0 0,.slice none 0 0])]) (some 6) az (UV bx.heap.size al) mixed Qb aS (λ_ _ _=>UV.trans) (λ_ _ z=>rM z) (λ_ _ _=>oB) ?_ ?_ ?_
 ·exact jN.out (l:=_) ⟨λ_ _ _ z V=>oz z (rM V) (ak _),λ_ _ _ z V=>oz z (rM V) (ak _),λ_ _ _ z V=>(let⟨g,aj,aQ⟩:=z;⟨g,aj,aQ.ext V⟩),λ_ _ _ z V=>World.ownsRow.kept z (V.grownBy none) (by
   cases a1:Value.ownBlock _ with
   |none=>exact .inl rfl
   |some k=>exact .inr Qd),λ_ _ _ z V=>z.ext V,trivial⟩
 ·exact mL.out (x:=6) (l:=_) ⟨.inr λ_ _ _ z V=>oz z V (aI _),.inr λ_ _ _ z V=>oz z V (ak _),.inr λ_ _ _ z V=>(let⟨g,aj,aQ⟩:=z;⟨g,aj,V.blk aQ (.inr Qc)⟩),.inl rfl,.inr λ_ _ _ z V=>(let⟨g,aj,aQ,bG⟩:=z;⟨g,aj,aQ,V.blk bG (.inl Qc)⟩),trivial⟩
 refine bg _ _ Qe rfl ⟨_,0,rfl⟩ Qd (λK j hp I G=> ?_) ?_
 ·have b4:=j.un.size;clear hp j;go_simp;exact G _ _ (Z K _) ⟨_,rfl⟩ (mh.lit K _ b4)
 rintro _ ⟨dA,rfl⟩;simp only[a8,a7,a6,aZ,aY];repeat (refine sx ?_ (λap j=> ?_) ?_;rotate_left;(focus have bH:=(ai.out.ext j.un).cell;clear j;go_simp<;>with_reducible rfl);simp only[a8,a7,a6,aZ,aY])
 refine bg _ _ Qe rfl ⟨_,0,0,rfl⟩ Qd (λK j hp I G=> ?_) ?_
 ·have ce:=hp _ (.head _) Qb;have o:=j.un;clear hp j;obtain⟨dv,w',hr,aj,aQ⟩:=Ck (n:=al) Qa ce o.size (ek ad.out o) _;refine wu _ _ _ rfl rfl rfl hr ?_;have bG:=aj;obtain⟨g,bI,dD,rfl,_⟩:=bG;exact G _ _ aQ ⟨_,_,rfl⟩ aj
 rintro _ ⟨dx,dE,rfl⟩;simp only[a8,a7,a6,aZ,aY];repeat (refine sx ?_ (λap j=> ?_) ?_;rotate_left;(focus have bH:=(ai.out.ext j.un).cell;clear j;go_simp<;>with_reducible rfl);simp only[a8,a7,a6,aZ,aY])
 refine bg _ _ Qe rfl ⟨_,0,rfl⟩ Qd (λK j hp I G=> ?_) ?_
 ·clear hp j;go_simp;exact G _ _ (Z K _) ⟨_,rfl⟩ ⟨_,rfl,aw K _ _⟩
 rintro _ ⟨dn,rfl⟩;simp only[a8,a7,a6,aZ,aY];refine bR _ _ Qe rfl ⟨_,0,0,rfl⟩ rfl (λK j hp I G=> ?_) ?_
 ·obtain⟨dm,di,dl⟩:=hp _ (.head _) Qb;have bG:=hp _ (.tail _ (.head _)) Qb;have o:=j.un;clear hp j;obtain rfl:dn=dm:=by injection di with e;injection e with e;injection e
  obtain⟨dB,bI,w',hr,aj,aQ⟩:=Cj Eg cN.out Qa bG o.size dl _;refine wu _ _ _ rfl rfl rfl hr ?_;exact G _ _ aQ ⟨_,_,rfl⟩ aj
 rintro _ ⟨bf,bm,rfl⟩;simp only[a8,a7,a6,aZ,aY];repeat (refine sx ?_ (λap j=> ?_) ?_;rotate_left;(focus have bH:=(ai.out.ext j.un).cell;clear j;go_simp<;>with_reducible rfl);simp only[a8,a7,a6,aZ,aY])
 refine bg _ _ Qe rfl ⟨_,0,rfl⟩ Qd (λK j hp I G=> ?_) ?_
 ·have b4:=j.un.size;clear hp j;go_simp;exact G _ _ (Z K _) ⟨_,rfl⟩ ⟨_,rfl,b4,aw K _ _⟩
 rintro _ ⟨aM,rfl⟩;simp only[a8,a7,a6,aZ,aY];intro b0 cv hp;obtain⟨bX,bJ⟩:=qu (hp _ (.head _));have b7:=hp _ (.tail _ (.head _));clear hp;simp only[ae,au];have cI:=cv.un;clear cv;have aP:=(cI.set (p:=⟨aM,0,none⟩) bX (.slice (some ⟨bf,0,none⟩) (al+1) bm)).set (p:=⟨aM,1,none⟩) bX (.slice aV aO aT);have cB:aU ((b0.setCell ⟨aM,0,none⟩ (.slice (some ⟨bf,0,none⟩) (al+1) bm)).setCell ⟨aM,1,none⟩ (.slice aV aO aT)) aM 34 #[.slice (some ⟨bf,0,none⟩) (al+1) bm,.slice aV aO aT]:=by simpa using(bJ.set 0 (.slice (some ⟨bf,0,none⟩) (al+1) bm)).set 1 (.slice aV aO aT)
 have cb:some bf≠some aM:=λe=>by
  injection e with e;rcases b7.2 with⟨z,_⟩|⟨g,cap,cur,a1,_,hg,_⟩
  ·cases z
  ·injection a1 with a1;injection a1 with a1;injection a1 with a1;subst a1 e;exact absurd (sK (c:=cur) hg bJ).2 Qc
 have cw:=World.ownsRow.kept (World.ownsRow.kept b7 (eF b0 aM 0 (.slice (some ⟨bf,0,none⟩) (al+1) bm)) (.inr cb)) (eF _ aM 1 (.slice aV aO aT)) (.inr cb);have br:=O cB;have bn:=O ((ik.of_row (q:=vs++[Eg]) (by rw[nT];simpa[eB]using cw) (by rw[ac,cM.out];rfl)).keep (Q:=λ_=>True) (.of_ext (.refl _)) (λ_ _ _=>trivial));have bp:=O (em ah.out aP);replace M:=O (M.out.trans aP);replace ai:=O (ai.out.ext aP);replace ad:=O (ek ad.out aP);replace ah:=O (em ah.out aP);replace bq:=O (bq.out.ext aP);replace ba:=O (ek ba.out aP);replace bb:=O (em bb.out aP);have cc:=bJ.cell;have dp:=bJ.frozen;clear cI aP cB cb b7 cw bJ bX cN cM dh
 go_upto_region 12 with fail
 generalize (b0.setCell ⟨aM,0,none⟩ (.slice (some ⟨bf,0,none⟩) (al+1) bm)).setCell ⟨aM,1,none⟩ (.slice aV aO aT)=c4 at*;clear cc dp;refine cD 8 4 [(2,FG,y9 R),(3,FH ar af ax av ag aq u1 0,FM b3),(7,GO,lE c4 42 sX)] [7] [6] mixed Qb Qb Qb Qe
  ⟨λ_ _ _ z V=>z.ext V,λ_ _ _ z V=>z.ext V,λ_ _ _ z V=>z.ext V,trivial⟩ (λi bB=> ?_) ?_
 ·obtain rfl:i=7:=by simpa using bB
  exact⟨_,_,rfl,lE.old⟩
 repeat (refine sx ?_ (λap j=> ?_) ?_;rotate_left;(focus have bH:=(ai.out.ext j.un).cell;clear j;go_simp<;>with_reducible rfl);simp only[a8,a7,a6,aZ,aY])
 refine bg _ _ Qe rfl ⟨_,none,0,0,rfl⟩ Qd (λK j hp I G=> ?_) ?_
 ·have X:=bW.out K (M.out.trans j.un);clear hp j;go_simp;refine X.mono ?_;rintro e aA ⟨o,A,n,c,rfl,z⟩;exact G _ _ o ⟨_,_,_,rfl⟩ (λc0 cu cL e=>by injection e with an aK aJ;subst an aK aJ;exact z)
 rintro _ ⟨cZ,ct,cJ,rfl⟩;simp only[a8,a7,a6,aZ,aY];refine bg _ _ Qe rfl ⟨_,none,0,rfl⟩ Qd (λK j hp I G=> ?_) ?_
 ·have aj:=hp _ (.head _) Qb _ _ _ rfl;have X:=cl.out K (M.out.trans j.un) _ _ _ _ _ _ _ _ _ (ek ad.out j.un) (em ah.out j.un) aj;clear hp j aj;go_simp;refine X.mono ?_;rintro e aA ⟨o,A,c,rfl,z⟩;exact G _ _ o ⟨_,_,rfl⟩ (vV z)
 rintro _ ⟨bv,an,rfl⟩;simp only[a8,a7,a6,aZ,aY];repeat (refine sx ?_ (λap j=> ?_) ?_;rotate_left;(focus go_simp<;>with_reducible rfl);simp only[a8,a7,a6,aZ,aY])
 refine sd _ _ Qe rfl ⟨_,0,rfl⟩ Qd (λK j hp I G=> ?_) ?_
 ·have hz:=dz j.un;clear hp;go_simp;exact G _ _ (Z K _) ⟨_,rfl⟩ ⟨_,rfl,hz,aw K _ _⟩ (Fb rfl)
 rintro _ ⟨bj,rfl⟩;simp only[a8,a7,a6,aZ,aY];intro bw aF hp _;obtain⟨aD,ao⟩:=qu (hp _ (.head _));have a2:=hp _ (.tail _ (.head _)) _ _ _ _ _ _ _ _ _ _ rfl;clear hp;simp only[ae,au];obtain⟨aE,aH⟩:=vC aF.un aD ao (.int i64 ar) (.int i64 af) (.int i64 ax) (.int i64 av) (.int i64 ag) (.slice bv aq an) (.int i64 (u1:Int));have ay:=O (mz aF aD [.int i64 ar,.int i64 af,.int i64 ax,.int i64 av,.int i64 ag,.slice bv aq an,.int i64 (u1:Int)]);have bk:=O (a2.put7 ao [.int i64 ar,.int i64 af,.int i64 ax,.int i64 av,.int i64 ag,.slice bv aq an,.int i64 (u1:Int)]);simp only[World.setCells,aG,Nat.reduceAdd]at aE aH ay bk;have bD:=ao.cell;have bC:=ao.frozen;have ab:=O aE;have aC:=O aH;clear ao a2 aF aE aH;refine aN Qe Qd (λI G=> ?_);go_simp;refine G _ _ ay.out ?_;clear G;refine aN Qe Qd (λI G=> ?_);go_simp;refine G _ _ ay.out ?_;clear G;refine cz ?_;generalize (((((((bw).setCell ⟨bj,0,none⟩ (.int i64 ar)).setCell ⟨bj,1,none⟩ (.int i64 af)).setCell ⟨bj,2,none⟩ (.int i64 ax)).setCell ⟨bj,3,none⟩ (.int i64 av)).setCell ⟨bj,4,none⟩ (.int i64 ag)).setCell ⟨bj,5,none⟩ (.slice bv aq an)).setCell ⟨bj,6,none⟩ (.int i64 (u1:Int))=c3 at*;replace M:=O (M.out.trans ab.out);replace bq:=O (bq.out.ext ab.out);replace ba:=O (ek ba.out ab.out);replace bb:=O (em bb.out ab.out);replace br:=O (br.out.ext ab.out);replace bn:=O (ek bn.out ab.out);replace bp:=O (em bp.out ab.out);clear bD bC aD ay cl ab ai ad ah
 go_upto_region 13 with fail
 refine cD 8 4 [(2,FG,y9 R),(3,FH ar af ax av ag aq u1 0,FM b3),(7,GO,lE c3 42 sX)] [7] [6] mixed Qb Qb Qb Qe
  ⟨λ_ _ _ z V=>z.ext V,λ_ _ _ z V=>z.ext V,λ_ _ _ z V=>z.ext V,trivial⟩ (λi bB=> ?_) ?_
 ·obtain rfl:i=7:=by simpa using bB
  exact⟨_,_,rfl,lE.old⟩
 repeat (refine sx ?_ (λap j=> ?_) ?_;rotate_left;(focus have bH:=(bq.out.ext j.un).cell;clear j;go_simp<;>with_reducible rfl);simp only[a8,a7,a6,aZ,aY])
 refine bg _ _ Qe rfl ⟨_,none,0,0,rfl⟩ Qd (λK j hp I G=> ?_) ?_
 ·have X:=bW.out K (M.out.trans j.un);clear hp j;go_simp;refine X.mono ?_;rintro e aA ⟨o,A,n,c,rfl,z⟩;exact G _ _ o ⟨_,_,_,rfl⟩ (λc0 cu cL e=>by injection e with an aK aJ;subst an aK aJ;exact z)
 rintro _ ⟨cZ,ct,cJ,rfl⟩;simp only[a8,a7,a6,aZ,aY];refine bg _ _ Qe rfl ⟨_,none,0,rfl⟩ Qd (λK j hp I G=> ?_) ?_
 ·have aj:=hp _ (.head _) Qb _ _ _ rfl;have X:=cP.out K (M.out.trans j.un) _ _ _ _ _ _ _ _ _ (ek ba.out j.un) (em bb.out j.un) aj;clear hp j aj;go_simp;refine X.mono ?_;rintro e aA ⟨o,A,c,rfl,z⟩;exact G _ _ o ⟨_,_,rfl⟩ (vV z)
 rintro _ ⟨bc,aK,rfl⟩;simp only[a8,a7,a6,aZ,aY];repeat (refine sx ?_ (λap j=> ?_) ?_;rotate_left;(focus go_simp<;>with_reducible rfl);simp only[a8,a7,a6,aZ,aY])
 refine sd _ _ Qe rfl ⟨_,0,rfl⟩ Qd (λK j hp I G=> ?_) ?_
 ·have hz:=dz j.un;clear hp;go_simp;exact G _ _ (Z K _) ⟨_,rfl⟩ ⟨_,rfl,hz,aw K _ _⟩ (Fb rfl)
 rintro _ ⟨bi,rfl⟩;simp only[a8,a7,a6,aZ,aY];intro bw aF hp _;obtain⟨aD,ao⟩:=qu (hp _ (.head _));have a2:=hp _ (.tail _ (.head _)) _ _ _ _ _ _ _ _ _ _ rfl;clear hp;simp only[ae,au];obtain⟨aE,aH⟩:=vC aF.un aD ao (.int i64 ar) (.int i64 af) (.int i64 ax) (.int i64 av) (.int i64 ag) (.slice bc aq aK) (.int i64 (u1:Int));have ay:=O (mz aF aD [.int i64 ar,.int i64 af,.int i64 ax,.int i64 av,.int i64 ag,.slice bc aq aK,.int i64 (u1:Int)]);have bK:=O (a2.put7 ao [.int i64 ar,.int i64 af,.int i64 ax,.int i64 av,.int i64 ag,.slice bc aq aK,.int i64 (u1:Int)]);simp only[World.setCells,aG,Nat.reduceAdd]at aE aH ay bK;have bD:=ao.cell;have bC:=ao.frozen;have ab:=O aE;have bt:=O aH;clear ao a2 aF aE aH;refine aN Qe Qd (λI G=> ?_);go_simp;refine G _ _ ay.out ?_;clear G;refine aN Qe Qd (λI G=> ?_);go_simp;refine G _ _ ay.out ?_;clear G;refine cz ?_;generalize (((((((bw).setCell ⟨bi,0,none⟩ (.int i64 ar)).setCell ⟨bi,1,none⟩ (.int i64 af)).setCell ⟨bi,2,none⟩ (.int i64 ax)).setCell ⟨bi,3,none⟩ (.int i64 av)).setCell ⟨bi,4,none⟩ (.int i64 ag)).setCell ⟨bi,5,none⟩ (.slice bc aq aK)).setCell ⟨bi,6,none⟩ (.int i64 (u1:Int))=c2 at*;replace M:=O (M.out.trans ab.out);replace br:=O (br.out.ext ab.out);replace bn:=O (ek bn.out ab.out);replace bp:=O (em bp.out ab.out);replace aC:=O (aC.out.ext ab.out);replace bk:=O (bk.out.ext ab.out);clear bD bC aD ay cP ab bq ba bb
 go_upto_region 14 with fail
 refine cD 8 4 [(2,FG,y9 R),(3,FH aX a3 a9 a5 a4 aW u3 bl,FM bU),(7,GO,lE c2 42 sX)] [7] [6] mixed Qb Qb Qb Qe
  ⟨λ_ _ _ z V=>z.ext V,λ_ _ _ z V=>z.ext V,λ_ _ _ z V=>z.ext V,trivial⟩ (λi bB=> ?_) ?_
 ·obtain rfl:i=7:=by simpa using bB
  exact⟨_,_,rfl,lE.old⟩
 repeat (refine sx ?_ (λap j=> ?_) ?_;rotate_left;(focus have bH:=(br.out.ext j.un).cell;clear j;go_simp<;>with_reducible rfl);simp only[a8,a7,a6,aZ,aY])
 refine bg _ _ Qe rfl ⟨_,none,0,0,rfl⟩ Qd (λK j hp I G=> ?_) ?_
 ·have X:=bW.out K (M.out.trans j.un);clear hp j;go_simp;refine X.mono ?_;rintro e aA ⟨o,A,n,c,rfl,z⟩;exact G _ _ o ⟨_,_,_,rfl⟩ (λc0 cu cL e=>by injection e with an aK aJ;subst an aK aJ;exact z)
 rintro _ ⟨cZ,ct,cJ,rfl⟩;simp only[a8,a7,a6,aZ,aY];refine bg _ _ Qe rfl ⟨_,none,0,rfl⟩ Qd (λK j hp I G=> ?_) ?_
 ·have aj:=hp _ (.head _) Qb _ _ _ rfl;have X:=cO.out K (M.out.trans j.un) _ _ _ _ _ _ _ _ _ (ek bn.out j.un) (em bp.out j.un) aj;clear hp j aj;go_simp;refine X.mono ?_;rintro e aA ⟨o,A,c,rfl,z⟩;exact G _ _ o ⟨_,_,rfl⟩ (vV z)
 rintro _ ⟨bM,aJ,rfl⟩;simp only[a8,a7,a6,aZ,aY];repeat (refine sx ?_ (λap j=> ?_) ?_;rotate_left;(focus go_simp<;>with_reducible rfl);simp only[a8,a7,a6,aZ,aY])
 refine sd _ _ Qe rfl ⟨_,0,rfl⟩ Qd (λK j hp I G=> ?_) ?_
 ·have hz:=dz j.un;clear hp;go_simp;exact G _ _ (Z K _) ⟨_,rfl⟩ ⟨_,rfl,hz,aw K _ _⟩ (Fb rfl)
 rintro _ ⟨bh,rfl⟩;simp only[a8,a7,a6,aZ,aY];intro bw aF hp _;obtain⟨aD,ao⟩:=qu (hp _ (.head _));have a2:=hp _ (.tail _ (.head _)) _ _ _ _ _ _ _ _ _ _ rfl;clear hp;simp only[ae,au];obtain⟨aE,aH⟩:=vC aF.un aD ao (.int i64 aX) (.int i64 a3) (.int i64 a9) (.int i64 a5) (.int i64 a4) (.slice bM aW aJ) (.int i64 (u3:Int));have ay:=O (mz aF aD [.int i64 aX,.int i64 a3,.int i64 a9,.int i64 a5,.int i64 a4,.slice bM aW aJ,.int i64 (u3:Int)]);have ck:=O (a2.put7 ao [.int i64 aX,.int i64 a3,.int i64 a9,.int i64 a5,.int i64 a4,.slice bM aW aJ,.int i64 (u3:Int)]);simp only[World.setCells,aG,Nat.reduceAdd]at aE aH ay ck;have bD:=ao.cell;have bC:=ao.frozen;have ab:=O aE;have bL:=O aH;clear ao a2 aF aE aH;refine aN Qe Qd (λI G=> ?_);go_simp;refine G _ _ ay.out ?_;clear G;refine aN Qe Qd (λI G=> ?_);go_simp;refine G _ _ ay.out ?_;clear G;refine cz ?_;generalize (((((((bw).setCell ⟨bh,0,none⟩ (.int i64 aX)).setCell ⟨bh,1,none⟩ (.int i64 a3)).setCell ⟨bh,2,none⟩ (.int i64 a9)).setCell ⟨bh,3,none⟩ (.int i64 a5)).setCell ⟨bh,4,none⟩ (.int i64 a4)).setCell ⟨bh,5,none⟩ (.slice bM aW aJ)).setCell ⟨bh,6,none⟩ (.int i64 (u3:Int))=bZ at*;replace M:=O (M.out.trans ab.out);replace aC:=O (aC.out.ext ab.out);replace bk:=O (bk.out.ext ab.out);replace bt:=O (bt.out.ext ab.out);replace bK:=O (bK.out.ext ab.out);clear bD bC aD ay cO ab br bn bp;have bo:=O (fun(W:World) (o:az bZ W)=>vD (k:=ar) (d:=af) (a:=ax) (b:=av) (c:=ag) (u:=u1) cn.out o bk.out);have cm:=O (fun(W:World) (o:az bZ W)=>vD (k:=ar) (d:=af) (a:=ax) (b:=av) (c:=ag) (u:=u1) cn.out o bK.out);have bV:=O (fun(W:World) (o:az bZ W)=>vD (k:=aX) (d:=a3) (a:=a9) (b:=a5) (c:=a4) (u:=u3) cT.out o ck.out);clear bk bK ck cn cT bW
 go_upto_region 15 with fail
 refine aB 22 12 [(16,λv=>v=.agg #[.int i64 ar,.int i64 af,.int i64 ax,.int i64 av,.int i64 ag,.slice bv aq an,.int i64 (u1:Int)],λ_ _=>True),(18,λv=>v=.agg #[.int i64 ar,.int i64 af,.int i64 ax,.int i64 av,.int i64 ag,.slice bc aq aK,.int i64 (u1:Int)],λ_ _=>True),(19,λv=>v=.bool true,λ_ _=>True)] mixed Qb
  ⟨λ_ _ _ _ _=>trivial,λ_ _ _ _ _=>trivial,λ_ _ _ _ _=>trivial,trivial⟩ ?_
 repeat (first|(refine bQ Qe ?_;simp only[a8,a7,a6,aZ,aY])|(refine sx ?_ (λap j=> ?_) ?_;rotate_left;(focus have bA:=(aC.out.ext j.un).cell;have bz:=(bt.out.ext j.un).cell;clear j;go_simp<;>with_reducible rfl);simp only[a8,a7,a6,aZ,aY]))
 refine so (λK j hp I G=> ?_) ?_
 ·have X:=kQ _ _ K (bo.out K j.un);clear hp j;go_simp;refine X.mono ?_;rintro e aA ⟨rfl,o⟩;exact G _ _ o rfl trivial
 rintro _ rfl;simp only[a8,a7,a6,aZ,aY];repeat (first|(refine bQ Qe ?_;simp only[a8,a7,a6,aZ,aY])|(refine sx ?_ (λap j=> ?_) ?_;rotate_left;(focus have bA:=(aC.out.ext j.un).cell;have bz:=(bt.out.ext j.un).cell;clear j;go_simp<;>with_reducible rfl);simp only[a8,a7,a6,aZ,aY]))
 refine so (λK j hp I G=> ?_) ?_
 ·have X:=kQ _ _ K (cm.out K j.un);clear hp j;go_simp;refine X.mono ?_;rintro e aA ⟨rfl,o⟩;exact G _ _ o rfl trivial
 rintro _ rfl;simp only[a8,a7,a6,aZ,aY];refine so (λK j hp I G=> ?_) ?_
 ·have X:=pI _ _ _ _ K (bo.out K j.un) (cm.out K j.un);rw[pH]at X;clear hp j;go_simp;refine X.mono ?_;rintro e aA ⟨rfl,o⟩;exact G _ _ o rfl trivial
 rintro _ rfl;simp only[a8,a7,a6,aZ,aY];repeat (first|(refine bQ Qe ?_;simp only[a8,a7,a6,aZ,aY])|(refine sx ?_ (λap j=> ?_) ?_;rotate_left;(focus have bA:=(aC.out.ext j.un).cell;have bz:=(bt.out.ext j.un).cell;clear j;go_simp<;>with_reducible rfl);simp only[a8,a7,a6,aZ,aY]))
 intro bN aL hp;clear hp;simp only[ae,au];replace M:=O (M.out.trans aL.un);replace aC:=O (aC.out.ext aL.un);replace bL:=O (bL.out.ext aL.un);replace bo:=O (fun(W:World) (o:az bN W)=>bo.out W (aL.un.trans o));replace bV:=O (fun(W:World) (o:az bN W)=>bV.out W (aL.un.trans o));clear aL cm bt
 go_upto_region 17 with fail
 by_cases hx3:bl=0
 ·have dg:=co.out hx3;injection dg with dc db da c9 c8 c7 c6;subst hx3 dc db da c9 c8 c7 c6;clear co;refine aB 10 12 [(4,λv=>v=.agg #[.int i64 ar,.int i64 af,.int i64 ax,.int i64 av,.int i64 ag,.slice bv aq an,.int i64 (u1:Int)],λ_ _=>True),(6,λv=>v=.agg #[.int i64 ar,.int i64 af,.int i64 ax,.int i64 av,.int i64 ag,.slice bM aW aJ,.int i64 (u1:Int)],λ_ _=>True),(7,λv=>v=.bool true,λ_ _=>True)] mixed Qb
   ⟨λ_ _ _ _ _=>trivial,λ_ _ _ _ _=>trivial,λ_ _ _ _ _=>trivial,trivial⟩ ?_
  repeat (first|(refine bQ Qe ?_;simp only[a8,a7,a6,aZ,aY])|(refine sx ?_ (λap j=> ?_) ?_;rotate_left;(focus have bA:=(aC.out.ext j.un).cell;have bz:=(bL.out.ext j.un).cell;clear j;go_simp<;>with_reducible rfl);simp only[a8,a7,a6,aZ,aY]))
  refine so (λK j hp I G=> ?_) ?_
  ·have X:=kQ _ _ K (bo.out K j.un);clear hp j;go_simp;refine X.mono ?_;rintro e aA ⟨rfl,o⟩;exact G _ _ o rfl trivial
  rintro _ rfl;simp only[a8,a7,a6,aZ,aY];repeat (first|(refine bQ Qe ?_;simp only[a8,a7,a6,aZ,aY])|(refine sx ?_ (λap j=> ?_) ?_;rotate_left;(focus have bA:=(aC.out.ext j.un).cell;have bz:=(bL.out.ext j.un).cell;clear j;go_simp<;>with_reducible rfl);simp only[a8,a7,a6,aZ,aY]))
  refine so (λK j hp I G=> ?_) ?_
  ·have X:=kQ _ _ K (bV.out K j.un);clear hp j;go_simp;refine X.mono ?_;rintro e aA ⟨rfl,o⟩;exact G _ _ o rfl trivial
  rintro _ rfl;simp only[a8,a7,a6,aZ,aY];refine so (λK j hp I G=> ?_) ?_
  ·have X:=pI _ _ _ _ K (bo.out K j.un) (bV.out K j.un);rw[pH]at X;clear hp j;go_simp;refine X.mono ?_;rintro e aA ⟨rfl,o⟩;exact G _ _ o rfl trivial
  rintro _ rfl;simp only[a8,a7,a6,aZ,aY];repeat (first|(refine bQ Qe ?_;simp only[a8,a7,a6,aZ,aY])|(refine sx ?_ (λap j=> ?_) ?_;rotate_left;(focus have bA:=(aC.out.ext j.un).cell;have bz:=(bL.out.ext j.un).cell;clear j;go_simp<;>with_reducible rfl);simp only[a8,a7,a6,aZ,aY]))
  intro bN aL hp;clear hp;simp only[ae,au];replace M:=O (M.out.trans aL.un);go_wp2_with fail;go_ret;exact⟨rfl,M.out⟩
 ·have ce:(bl==0)=false:=Ql.2 hx3;have aj:(bl !=0)=true:=by simp[bne,ce]
  clear co;refine aB 10 12 [] mixed Qb trivial ?_;repeat (first|(refine bQ Qe ?_;simp only[a8,a7,a6,aZ,aY])|(refine sx ?_ (λap j=> ?_) ?_;rotate_left;(focus clear j;go_simp<;>with_reducible rfl);simp only[a8,a7,a6,aZ,aY]))
  intro bN aL hp;clear hp;simp only[ae,au];replace M:=O (M.out.trans aL.un);go_wp2_with fail;go_ret;exact⟨rfl,M.out⟩
end
theorem E3 {p:Pg} (aF:jo p<=5999990) (aq:(gF p).2≠0) {ak:Rs} (ap:ak.length<=1000000000) {P:Nat->Prop} {o:World} {G B C:Option Addr} {n c m d q ax:Nat} (M:ik o P (.slice G n c) p.vs) (R:jl o P (.slice B m d) p.fs) (au:lD o P (.slice C q ax) ak) (ao:EZ o) (af:dP o o.heap.size) (ag:BT o):
  Calls prog 9 #[.agg #[.slice G n c,.slice B m d],.slice C q ax] o λe w'=>e=.returned (.bool true)/\az o w':=by
 have ac:jo p<=6000000:=Qa
 have X:=Z o (.cells #[.slice G n c,.slice B m d] 25);have aC:=O X;have al:=O (aw o 25 #[.slice G n c,.slice B m d]);have aE:=O (oN _ (ao.ext X) (dN af X) (ag.ext X));have aA:=O (fun(W:World) (w:az o W)=>Eu ac (ek M w) (em R w));have aB:=O (fun(W:World) (w:az o W)=>Bm ak ap P W _ (au.xt w));have ay:=O (fun(W:World) (w:az o W)=>Ax ac (ek M w) (em R w));have aD:=O (fun(W:World) (a:az o W) (G B:Option Addr) (n c m d:Nat) (M:ik W (λ_=>True) (.slice G n c) p.vs) (R:jl W (λ_=>True) (.slice B m d) p.fs)=>mB p ac _ W G B n c m d M R (dN af a) (ag.ext a));have aH:=Ql.2 aq;have aS:((gF p).2 !=0)=true:=by simp[bne,aH]
 generalize (gF p).1=nm at*;generalize (gF p).2=en at*;generalize p.vs=vs at*;generalize p.fs=aR at*;clear M R au ao af ag aF ac aq ap X;go_enter func9,ntmps9
 go_upto_region 4 with(first
  |(go_at_call 11;refine aE.out.mono ?_;rintro e aP ⟨rfl,a⟩;have j:=O (aC.out.trans a);have aj:=(al.out.ext a).cell;have K:=O (al.out.ext a);clear a aE aC al)
  |(go_at_call 14;refine(ay.out _ j.out).mono ?_;rintro e ab ⟨a,an,ad,ai,J,ae,ah,rfl,ar,av⟩;replace j:=O (j.out.trans a);replace K:=O (K.out.ext a);have z:=O ar;have A:=O av;clear aj a ay ar av))
 have V:=Z ab (.cells #[.slice an ad ai,.slice J ae ah] 34);have I:=O (aw ab 34 #[.slice an ad ai,.slice J ae ah]);replace j:=O (j.out.trans V);replace K:=O (K.out.ext V);replace z:=O (ek z.out V);replace A:=O (em A.out V);clear V;generalize aG:ab.heap.size=aQ at*;generalize ab.alloc (.cells #[.slice an ad ai,.slice J ae ah] 34)=aO at*;clear aG;have aj:=K.out.cell
 go_upto_region 6 with(first
  |(go_at_call 12;refine(aA.out _ j.out).mono ?_;rintro e aN ⟨⟨aK,rfl⟩,a⟩;replace j:=O (j.out.trans a);replace I:=O (I.out.ext a);replace z:=O (ek z.out a);replace A:=O (em A.out a);clear a aA K aj;cases aK)
  |(go_at_call 16;refine(aB.out _ j.out).mono ?_;rintro e aM ⟨⟨aJ,rfl⟩,a⟩;replace j:=O (j.out.trans a);replace I:=O (I.out.ext a);replace z:=O (ek z.out a);replace A:=O (em A.out a);clear a aB;cases aJ))
 ·go_ret;exact⟨rfl,j.out⟩
 ·go_ret;exact⟨rfl,j.out⟩
 have aI:=I.out.cell;go_wp2_with (go_at_call 13;refine(aD.out _ j.out _ _ _ _ _ _ z.out A.out).mono ?_;rintro e aL ⟨rfl,a⟩;replace j:=O (j.out.trans a);clear a aD aI);go_ret;exact⟨rfl,j.out⟩
theorem E0 (p:Pg) (I:jo p<=5999990) (G:Rs) (X:G.length<=1000000000) (P:Nat->Prop) (a:World) (w B C:Option Addr) (n c m d q ag:Nat) (h:ik a P (.slice w n c) p.vs) (o:jl a P (.slice B m d) p.fs) (j:lD a P (.slice C q ag) G) (V:EZ a) (z:dP a a.heap.size) (A:BT a):
  Calls prog 9 #[.agg #[.slice w n c,.slice B m d],.slice C q ag] a λe w'=>e=.returned (.bool true)/\az a w':=by
 by_cases hck:(gF p).2=0
 ·by_cases hcm:(gF ⟨p.vs++[Eg],p.fs⟩).2=0
  ·obtain⟨⟨aj,ak,an,J,al,ai,u3⟩,af⟩: ∃ah,kn ⟨p.vs++[Eg],p.fs⟩ G 1000=ah:=⟨_,rfl⟩
   exact Em I hck X h o j V z A aj ak an J al ai u3 0 _ rfl (λ_=>by rw[<-af,Aa]) (λW ab w B C O ae R ad M ac h o j=>El ⟨_,_⟩ (by rw[tG];omega) hcm G 1000 Qc af rfl a W ab w B C O ae R ad M ac z A h o j)
  ·exact Em I hck X h o j V z A 0 0 0 0 0 [] 0 1 0 rfl (λK=>absurd K Qc) (λW ab w B C O ae R ad M ac h o j=>(Gf ⟨_,_⟩ (by rw[tG];omega) hcm G 1000 Qc a W ab w B C O ae R ad M ac z A h o j).mono λe w' K=>⟨K.1,none,0,K.2,kC w'⟩)
 ·exact E3 I hck X h o j V z A
end Go.Proofs.YtddomeddabfinaaGreatDoor
