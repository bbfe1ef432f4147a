/- Parts of the proof. -/
import Derived.Test.YtddomeddabfinaaGreatDoorTt00
import Derived.Test.YtddomeddabfinaaGreatDoorTt40
import Derived.Test.YtddomeddabfinaaGreatDoorTt41
import Derived.Test.YtddomeddabfinaaGreatDoorTt10
import Derived.Test.YtddomeddabfinaaGreatDoorTt22
import Derived.Test.YtddomeddabfinaaGreatDoorTt37
import Derived.Test.YtddomeddabfinaaGreatDoorTt01
import Derived.Test.YtddomeddabfinaaGreatDoorTt39
set_option maxRecDepth 100000
set_option maxHeartbeats 8000000
set_option linter.unusedVariables false
set_option linter.unusedSimpArgs false
set_option linter.defProp false
set_option linter.unusedSectionVars false
namespace Go.Proofs.YtddomeddabfinaaGreatDoor
open Go.Proofs.Tryz
section
open Go.Joins Go.ChangeShapes Go.WideShapes Go.ChangeAt Go.RowKit Go.Deep
theorem Sl.bk {a:World} {j:Option Addr} {c:Nat} {l:List UInt8} (z:Sl a j c l): ∀b h,j=some ⟨b,h,none⟩->l≠ []->b<a.heap.size:=λb h e o=>by
 rcases z.rd with w|⟨b',o',ha,hb,_⟩
 ·exact absurd w o
 ·rw[e]at ha;injection ha with ha;injection ha with ha;omega
instance:Inhabited RV:=⟨⟨0,[],none,0⟩⟩
section
variable {H:Type} {enc:TypeId×Value->H} {W:World}
theorem sk {base ap:Nat} {G:Bool} {c:Value} {y:DataW H×List MemPlace} (ao:DataW.trod enc prog W base (λ_=>true) G ap 37 [c]=some y): ∃ac,lD W (ze W) c ac/\ac.length+1<=Rows.uptoBulk y.1:=by
 have aw:prog.cellsOf 121=2:=Qb
 have au:prog.cellsOf 40=1:=Qb
 have av:prog.cellsOf 3=1:=Qb
 rcases jn underlying37 ao with rfl|⟨a,len,cap,n,elems,rest,rfl,rfl,hl,hm,hlen0,hy,hx⟩
 ·exact⟨[],⟨none,0,rfl,.inl rfl⟩,eY _⟩
 ·rw[aw]at hx;have key: ∀i,i<len-> ∃p:RV,(∀k,k<2->W.cell? ((a.add (i*2)).add k)=(u_ p)[k]?)/\Sl W p.A p.d p.l:=λi z=>by
   have J:i<elems.length:=Qa
   obtain⟨ar,K,X,V⟩:=hx i J
   match ar,X with
   | [u0,u1],_=>
    obtain⟨m,xs,rfl,_,aB,aC,h⟩:=iD underlying121 V;obtain⟨af,aA,o⟩:=h 0 _ rfl;have o:DataW.trod enc prog W base (λ_=>true) G m 3 [u0]=some af:=by simpa[av]using o
    obtain⟨ae,az,j⟩:=h 1 _ rfl;have j:DataW.trod enc prog W base (λ_=>true) G m 40 [u1]=some ae:=by simpa[au]using j
    obtain⟨ad,rfl,_⟩:=iO underlying3 o;obtain⟨ay,aq,aj,rfl,ah,_⟩:=qC underlying40 underlying5 Qb Qb j;exact⟨⟨ad,aj,ay,aq⟩,K,ah⟩
  obtain⟨f,h⟩:=choose_lt (α:=RV) key;have an:len+1<=Rows.uptoBulk y.1:=by
   have K:=jC (λ_:Nat=>1) elems (λi=>i) (λi z=>eY _);have X:=iv elems rest;rw[hy];rw[dU]at K;have V:(List.map ((λ_:Nat=>1) ∘ λi=>i) (List.range elems.length)).sum=elems.length:=by
    rw[show(List.map ((λ_:Nat=>1) ∘ λi=>i) (List.range elems.length))=List.replicate elems.length 1 from by rw[List.eq_replicate_iff];simp];simp
   omega
  by_cases h0:len=0
  ·subst h0;exact⟨[],⟨some a,cap,rfl,.inl rfl⟩,eY _⟩
  ·obtain⟨b,off,ag⟩:=a;have M:=(h 0 Qa).1 0 Qa;have ak:ag=none:=by simpa[Addr.add]using World.cell?_spot (show _=some _ from M)
   subst ak;have R:b<W.heap.size:=by
    have:=World.block_lt_of_cell? _ _ (show _=some _ from M);simpa[Addr.add]using this
   refine⟨(List.range len).map λi=>((f i).x,(f i).l),⟨some ⟨b,off,none⟩,cap,by simp,.inr ⟨by simpa using hl,hm,b,off,rfl,R,R,λi=>(f i).A,λi=>(f i).d,λi z=> ?_⟩⟩,by simpa using an⟩;have w:i<len:=by simpa using z
   have ab:=(h i w).1 0 Qa;have I:=(h i w).1 1 Qa;rw[qk]at ab I;have O:=(h i w).2;refine⟨by simpa[u_]using ab,by simpa[u_,RV.val]using I,by simpa using O,λax ai e al=>O.bk ax ai e (by simpa using al)⟩
end
end
section
open Go.RowKit
theorem It:ox prog 45 80 2 32 (.agg #[.int .i64 0,.slice none 0 0]):=⟨underlying45,by kernel_rfl,by rfl,by decide⟩
theorem CI (p:RV): ∀u∈u_ p,u.oneCell'=true:=by
 intro u a;simp only[u_,RV.val,ew,dw,or_false]at a;rcases a with rfl|rfl<;>rfl
theorem Aw (K:Rs) (av:K.length<=1000000000) (P:Nat->Prop) (j:World) (v:Value) (R:lD j P v K):Calls prog 18 #[v] j λe w'=>az j w'/\ ∃I,e=.returned I/\lD w' (λb=>P b\/j.heap.size<=b) I K:=by
 obtain⟨aO,n,c,rfl,aj⟩:=R.form;rw[aj]at av;obtain⟨q,ag,af,ai,al⟩:=R.rvs;have aD:=O ag;have V:=O af;have an:=O ai;have aH:=O al;clear R aj ag af ai al;go_enter func18,ntmps18;go_wp2_with fail
 go_loopw [3,4] (λX M wr=> ∃(a:Nat) (C:Option Addr) (G:Nat),M=.int .i64 (a:Int)/\X=.slice C a G/\a<=n/\Hid (az j wr)/\Hid (wr.ownsRow j.heap.size 80 2 (.slice C a G) a (jP (q.take a)))) (λX M _=>n-(intOf M).toNat)
 case atStart=>exact⟨0,none,0,rfl,rfl,aI _,O (aS j),O (World.ownsRow_nil _ _ _ _)⟩
 case round=>
  obtain⟨a,C,G,rfl,rfl,aK,o,A⟩:=hrel;by_cases hlt:a<n
  ·have au:(a:Int)<n:=Qa
   have ak:a<q.length:=by have:=V.out;omega
   rcases aH.out with aM|⟨hnc,hm,b,ad,rfl,_,w,hcc⟩
   ·exact absurd hlt Qa
   obtain⟨ac,ab⟩:=hcc a ak;have aN:=(o.out.cell b _ w).trans ac;have aA:=(o.out.cell b _ w).trans ab;unfold RV.val at aA;have aC:=O (show q.take (a+1)=q.take a++[q[a]]from aX ak);have ae:=World.ownsRow.lt A.out;have aq:j.heap.size<=wr.heap.size:=o.out.size;have aL:b<wr.heap.size:=aF w aq;generalize q[a]=p at*;clear ac ab hcc hnc hm;go_wp2_with (refine eA It rfl _ _ rfl j.heap.size _ a (jP (q.take a)) rfl (World.ownsRow.alloc A.out _) wr.heap.size (u_ p) rfl (aw wr 80 (u_ p).toArray) rfl (CI p) Qa Qc (by rw[World.size_alloc];omega) ?_;intro aJ cap' ap z J ay;have aB:=O ((o.out.alloc' (.cells (u_ p).toArray 80)).grown J (λk e=>(ae k e).1));have ao:=O z;clear z J ay o A)
   have aE:=O (show ap.ownsRow j.heap.size 80 2 (.slice (some ⟨aJ,0,none⟩) (a+1) cap') (a+1) (jP (q.take (a+1))) by
    rw[aC.out,yh];have:jP [p]=u_ p:=by simp[jP]
    rw[this]
    exact ao.out)
   clear ao ae;go_roundw
   case rel=>exact⟨a+1,_,_,by go_num,rfl,by omega,aB,aE⟩
   case measure=>simp[intOf];omega
  ·have au: ¬(a:Int)<n:=Qa
   have ax:a=n:=Qa
   have aG:=O (show lD wr (λb=>P b\/j.heap.size<=b) (.slice C a G) K by
    have z:=A.out;rw[bC (by have:=V.out;omega)]at z;have:=lD.of_row (Q:=λb=>P b\/j.heap.size<=b) z (by have:=V.out;omega) (λb w=> .inr w) (λp ah=>⟨(an.out p ah).1.ext o.out,λb ad e ar=> .inl ((an.out p ah).2 b ad e ar)⟩);rw[aD.out]at this
    exact this)
   clear A ax;go_wp2_with fail;go_ret;exact⟨o.out,_,rfl,aG.out⟩
def AA (xs:List Ex):Prop:= ∀(P:Nat->Prop) (w:World) (u:Value),c7 w P u xs->Calls prog 76 #[u] w λe w'=>az w w'/\ ∃A c,e=.returned (.slice A xs.length c)/\c7 w' (λb=>w.heap.size<=b) (.slice A xs.length c) xs
def Az (xs:List St):Prop:= ∀(P:Nat->Prop) (w:World) (u:Value),db w P u xs->Calls prog 38 #[u] w λe w'=>az w w'/\ ∃A c,e=.returned (.slice A xs.length c)/\db w' (λb=>w.heap.size<=b) (.slice A xs.length c) xs
theorem yy (xs:List Ex) (bk:xs.length<=1073741824) (aW: ∀x,x∈xs->AA x.args):AA xs:=by
 intro P V u ag;obtain⟨M,c,rfl,_⟩:=ag.form;obtain⟨n,ah⟩: ∃n,xs.length=n:=⟨_,rfl⟩
 rw[ah]at ag⊢;rw[ah]at bk;have bd:=O ah;have bz:=O ag;have bF:=O aW;clear ag aW ah;go_enter func76,ntmps76;go_wp2_with fail
 go_loopw [3,4] (λaN ap wr=> ∃(a:Nat) (K:List (Ex×Value)) (C:Option Addr) (I:Nat),ap=.int .i64 (a:Int)/\aN=.slice C a I/\a<=n/\Hid (K.map (·.1)=xs.take a)/\Hid (K.length=a)/\Hid (gz wr V.heap.size 70 (.slice C a I) K)/\Hid (az V wr)) (λaN ap _=>n-(intOf ap).toNat)
 case atStart=>exact⟨0,[],none,0,rfl,rfl,aI _,O rfl,O rfl,O (oA _ _ _),O (aS V)⟩
 case round=>
  obtain⟨a,K,C,I,rfl,rfl,bM,ao,aL,an,o⟩:=hrel;by_cases hlt:a<n
  ·have bj:(a:Int)<n:=Qa
   have ax:a<xs.length:=by have:=bd.out;omega
   obtain⟨b,bK,bR,rfl,j,bO,a3,al,ak,X,aj,a2,aA⟩:=bz.out.at_ a ax;have bN:b<wr.heap.size:=aF j o.out.size;have ba:=O (show xs.take (a+1)=xs.take a++[xs[a]]from aX ax);have aV:=bF.out _ (ay ax);generalize xs[a]=x at*;have bu:=(o.out.cell b _ j).trans a3;have bt:=(o.out.cell b _ j).trans al;have br:=(o.out.cell b _ j).trans ak;have bq:=(o.out.cell b _ j).trans X;have bp:=(o.out.cell b _ j).trans aj;have bo:=(o.out.cell b _ j).trans a2;obtain⟨bf,a5,rfl,_⟩:=aA.form;have bx:=O (aA.keep (.of_ext o.out) (Q:=P) (λb j _=>j));have bE:=O aV;have bG:=O (aw wr 75 #[.int .i64 x.k,.string (J x.op),.string (J x.nm),.string (J x.tx),.int .i64 x.v,.slice bf x.args.length a5]);have aO:=Z wr (.cells #[.int .i64 x.k,.string (J x.op),.string (J x.nm),.string (J x.tx),.int .i64 x.v,.slice bf x.args.length a5] 75);have aK:=O aO;clear a3 al ak X aj a2 aA aV aO;go_wp2_with fail;clear bu bt br bq bp bo
   refine aB 16 12 [(13,λv=> ∃M c,v=.slice M x.args.length c,λv ad=>c7 ad (λb=>wr.heap.size<=b) v x.args),
     (15,λv=> ∃z,v=.slice (some ⟨z,0,none⟩) 1 1,λv ad=> ∃z M c,v=.slice (some ⟨z,0,none⟩) 1 1/\wr.heap.size<=z/\aU ad z 70 #[.int .i64 x.k,.string (J x.op),.string (J x.nm),.string (J x.tx),.int .i64 x.v,.slice M x.args.length c]/\c7 ad (λb=>wr.heap.size<=b) (.slice M x.args.length c) x.args)] mixed Qb
    ⟨λ_ _ _ aH af=>aH.keep (.of_ext af) (λ_ j _=>j),λ_ _ _ aH af=>(let⟨z,M,c,al,ak,X,aj⟩:=aH;⟨z,M,c,al,ak,X.ext af,aj.keep (.of_ext af) (λ_ j _=>j)⟩),trivial⟩ ?_
   repeat (refine sx ?_ (λbh w=> ?_) ?_;rotate_left;(focus have bQ:=(bG.out.ext w.un).cell;clear w;go_simp<;>with_reducible rfl);simp only[a8,a7,a6,aZ,aY])
   refine bg _ _ Qe rfl ⟨_,none,0,rfl⟩ Qd (λR w A bv aD=> ?_) ?_
   ·clear A;have aG:=aK.out.trans w.un;have bm:=bE.out P R _ (bx.out.keep (.of_ext aG) (λ_ j _=>j));have aq:=aG.size;clear w aG;go_simp;refine bm.mono ?_;rintro e bJ ⟨bn,be,a4,rfl,ai⟩;exact aD _ _ bn ⟨_,_,rfl⟩ (ai.mono (λb j _=>aR aq j))
   rintro _ ⟨be,a4,rfl⟩;simp only[a8,a7,a6,aZ,aY];repeat (refine sx ?_ (λbh w=> ?_) ?_;rotate_left;(focus go_simp<;>with_reducible rfl);simp only[a8,a7,a6,aZ,aY])
   refine bg _ _ Qe rfl ⟨_,0,rfl⟩ Qd (λR w A bv aD=> ?_) ?_
   ·have X:c7 R (λb=>wr.heap.size<=b) (.slice be x.args.length a4) x.args:=A _ (.head _) Qb;have aq:=(aK.out.trans w.un).size;clear w A;go_simp;exact aD _ _ (Z R _) ⟨_,rfl⟩ ⟨_,_,_,rfl,aq,aw R _ _,X.keep (.of_ext (Z R _)) (λ_ j _=>j)⟩
   rintro _ ⟨z,rfl⟩;simp only[a8,a7,a6,aZ,aY];intro bI aP A;obtain⟨bP,aM,aJ,G,bL,a1,ai⟩:=A _ (.head _);injection G with G;injection G with G;injection G with G;subst G;clear A;simp only[ae,au];have aE:=aK.out.trans aP.un;have a9:=O (o.out.trans aE);have aC:=an.out.ext aE;have ar:=World.ownsRow.lt an.out.1;have bi:=a9.out.size;have bb:=O (ai.mono (Q:=λb=>V.heap.size<=b/\some b≠Value.ownBlock (.slice C a I)) (λb j _=>⟨aR o.out.size j,λe=>by have:=(ar b e.symm).2;omega⟩));clear aP aE ai;have ab:=aL.out;refine eA GH rfl _ _ rfl V.heap.size _ a (gI K) rfl (by have:=aC.1;rw[ab]at this;exact this) z (uA x (.slice aM x.args.length aJ)) rfl a1 rfl (sI _ _ _ _) Qa Qc bi ?_;intro bS cap' bH aT av aQ;have bc:=O (aC.snoc bb.out (by rw[ab];exact aT) av aQ);rw[ab]at bc;have bw:=O (a9.out.grown av (λk e=>(ar k e).1));have bB:=O (show(K++[(x,Value.slice aM x.args.length aJ)]).map (·.1)=xs.take (a+1) by rw[ba.out,d9,ao.out];rfl);have bD:=O (show(K++[(x,Value.slice aM x.args.length aJ)]).length=a+1 by rw[ac,ab];rfl);clear aT av aQ aC a1 bb ar ao aL ab ba;go_wp2_with fail;go_roundw
   case rel=>exact⟨a+1,_,_,_,by go_num,rfl,by omega,bB,bD,bc,bw⟩
   case measure=>simp[intOf];omega
  ·have bj: ¬(a:Int)<n:=Qa
   have bl:a=n:=Qa
   subst bl
   have bA:=O (show c7 wr (λb=>V.heap.size<=b) (.slice C a I) xs by
    have:=an.out.rd;rw[ao.out,bC (by have:=bd.out;omega)]at this
    exact this)
   clear an ao aL;go_wp2_with fail;go_ret;exact⟨o.out,C,I,rfl,bA.out⟩
theorem tH: ∀(k:Nat) (xs:List Ex),gA xs<k->k<=1000000001->AA xs
 |0,xs,h,_=>absurd h (iV _)
 |k+1,xs,h,hk=>yy xs (by have:=dH xs;omega) (λx a=>tH k x.args (by have:=dG a;have:=x.wt_eq;omega) Qa)
theorem Gk {xs:List Ex} (a:gA xs<=1000000000):AA xs:=tH _ xs (gq _) Qa
theorem yx (xs:List St) (bJ:xs.length<=1073741824) (bm: ∀x,x∈xs->AA x.ex/\Az x.body/\Az x.els):Az xs:=by
 intro P I u ax;obtain⟨K,c,rfl,_⟩:=ax.form;obtain⟨n,aC⟩: ∃n,xs.length=n:=⟨_,rfl⟩
 rw[aC]at ax⊢;rw[aC]at bJ;have bz:=O aC;have bV:=O ax;have bZ:=O bm;clear ax bm aC;go_enter func38,ntmps38;go_wp2_with fail
 go_loopw [3,4] (λbc aN wr=> ∃(j:Nat) (ai:List SV) (C:Option Addr) (ah:Nat),aN=.int .i64 (j:Int)/\bc=.slice C j ah/\j<=n/\Hid (ai.map (·.s)=xs.take j)/\Hid (ai.length=j)/\Hid (iT wr I.heap.size 72 (.slice C j ah) ai)/\Hid (az I wr)) (λbc aN _=>n-(intOf aN).toNat)
 case atStart=>exact⟨0,[],none,0,rfl,rfl,aI _,O rfl,O rfl,O (iT.nil_ _ _ _),O (aS I)⟩
 case round=>
  obtain⟨j,ai,C,ah,rfl,rfl,b6,aJ,a5,aH,A⟩:=hrel;by_cases hlt:j<n
  ·have bI:(j:Int)<n:=Qa
   have aQ:j<xs.length:=by have:=bz.out;omega
   obtain⟨b,b4,ca,g,b2,rfl,a,b8,bo,aE,aD,ak,aj,aW,aV,aT⟩:=bV.out.at_ j aQ;have b7:b<wr.heap.size:=aF a A.out.size;have bv:=O (show xs.take (j+1)=xs.take j++[xs[j]]from aX aQ);have bl:=bZ.out _ (ay aQ);generalize xs[j]=x at*;have bP:=(A.out.cell b _ a).trans bo;have bO:=(A.out.cell b _ a).trans aE;have bN:=(A.out.cell b _ a).trans aD;have bM:=(A.out.cell b _ a).trans ak;have bL:=(A.out.cell b _ a).trans aj;obtain⟨bE,bt,rfl,_⟩:=aW.form;obtain⟨bB,bq,rfl,_⟩:=aV.form;obtain⟨bA,bd,rfl,_⟩:=aT.form;have bU:=O (aW.keep (.of_ext A.out) (Q:=P) (λb a _=>a));have bT:=O (aV.keep (.of_ext A.out) (Q:=P) (λb a _=>a));have bS:=O (aT.keep (.of_ext A.out) (Q:=P) (λb a _=>a));have a9:=O bl;have ba:=O (aw wr 66 #[.int .i64 x.k,.string (J x.nm),.slice bE x.ex.length bt,.slice bB x.body.length bq,.slice bA x.els.length bd]);have be:=Z wr (.cells #[.int .i64 x.k,.string (J x.nm),.slice bE x.ex.length bt,.slice bB x.body.length bq,.slice bA x.els.length bd] 66);have ar:=O be;clear bo aE aD ak aj aW aV aT bl be;go_wp2_with fail;clear bP bO bN bM bL
   refine aB 16 12 [(7,λv=> ∃K c,v=.slice K x.ex.length c,λv M=>c7 M (λb=>wr.heap.size<=b) v x.ex),
     (10,λv=> ∃K c,v=.slice K x.body.length c,λv M=>db M (λb=>wr.heap.size<=b) v x.body),(13,λv=> ∃K c,v=.slice K x.els.length c,λv M=>db M (λb=>wr.heap.size<=b) v x.els),
     (15,λv=> ∃V,v=.slice (some ⟨V,0,none⟩) 1 1,λv M=> ∃V K c B d C i,v=.slice (some ⟨V,0,none⟩) 1 1/\wr.heap.size<=V/\aU M V 72 #[.int .i64 x.k,.string (J x.nm),.slice K x.ex.length c,.slice B x.body.length d,.slice C x.els.length i]/\c7 M (λb=>wr.heap.size<=b) (.slice K x.ex.length c) x.ex/\db M (λb=>wr.heap.size<=b) (.slice B x.body.length d) x.body/\db M (λb=>wr.heap.size<=b) (.slice C x.els.length i) x.els)] mixed Qb
    ⟨λ_ _ _ ag R=>ag.keep (.of_ext R) (λ_ a _=>a),λ_ _ _ ag R=>ag.keep (.of_ext R) (λ_ a _=>a),λ_ _ _ ag R=>ag.keep (.of_ext R) (λ_ a _=>a),λ_ _ _ ag R=>(let⟨V,K,c,B,d,C,i,aE,aD,ak,aj,a3,h6⟩:=ag;⟨V,K,c,B,d,C,i,aE,aD,ak.ext R,aj.keep (.of_ext R) (λ_ a _=>a),a3.keep (.of_ext R) (λ_ a _=>a),h6.keep (.of_ext R) (λ_ a _=>a)⟩),trivial⟩ ?_
   repeat (refine sx ?_ (λaM o=> ?_) ?_;rotate_left;(focus have bp:=(ba.out.ext o.un).cell;clear o;go_simp<;>with_reducible rfl);simp only[a8,a7,a6,aZ,aY])
   refine bg _ _ Qe rfl ⟨_,none,0,rfl⟩ Qd (λw o z a4 af=> ?_) ?_
   ·clear z;have G:=ar.out.trans o.un;have ap:=a9.out.1 P w _ (bU.out.keep (.of_ext G) (λ_ a _=>a));have ab:=G.size;clear o G;go_simp;refine ap.mono ?_;rintro e bb ⟨aq,bD,br,rfl,X⟩;exact af _ _ aq ⟨_,_,rfl⟩ (X.mono (λb a _=>aR ab a))
   rintro _ ⟨bD,br,rfl⟩;simp only[a8,a7,a6,aZ,aY];repeat (refine sx ?_ (λaM o=> ?_) ?_;rotate_left;(focus have bp:=(ba.out.ext o.un).cell;clear o;go_simp<;>with_reducible rfl);simp only[a8,a7,a6,aZ,aY])
   refine bg _ _ Qe rfl ⟨_,none,0,rfl⟩ Qd (λw o z a4 af=> ?_) ?_
   ·clear z;have G:=ar.out.trans o.un;have ap:=a9.out.2.1 P w _ (bT.out.keep (.of_ext G) (λ_ a _=>a));have ab:=G.size;clear o G;go_simp;refine ap.mono ?_;rintro e bb ⟨aq,an,al,rfl,X⟩;exact af _ _ aq ⟨_,_,rfl⟩ (X.mono (λb a _=>aR ab a))
   rintro _ ⟨b1,bQ,rfl⟩;simp only[a8,a7,a6,aZ,aY];repeat (refine sx ?_ (λaM o=> ?_) ?_;rotate_left;(focus have bp:=(ba.out.ext o.un).cell;clear o;go_simp<;>with_reducible rfl);simp only[a8,a7,a6,aZ,aY])
   refine bg _ _ Qe rfl ⟨_,none,0,rfl⟩ Qd (λw o z a4 af=> ?_) ?_
   ·clear z;have G:=ar.out.trans o.un;have ap:=a9.out.2.2 P w _ (bS.out.keep (.of_ext G) (λ_ a _=>a));have ab:=G.size;clear o G;go_simp;refine ap.mono ?_;rintro e bb ⟨aq,an,al,rfl,X⟩;exact af _ _ aq ⟨_,_,rfl⟩ (X.mono (λb a _=>aR ab a))
   rintro _ ⟨b0,bG,rfl⟩;simp only[a8,a7,a6,aZ,aY];repeat (refine sx ?_ (λaM o=> ?_) ?_;rotate_left;(focus go_simp<;>with_reducible rfl);simp only[a8,a7,a6,aZ,aY])
   refine bg _ _ Qe rfl ⟨_,0,rfl⟩ Qd (λw o z a4 af=> ?_) ?_
   ·have ak:db w (λb=>wr.heap.size<=b) (.slice b0 x.els.length bG) x.els:=z _ (.head _) Qb;have aj:db w (λb=>wr.heap.size<=b) (.slice b1 x.body.length bQ) x.body:=z _ (.tail _ (.head _)) Qb;have a3:c7 w (λb=>wr.heap.size<=b) (.slice bD x.ex.length br) x.ex:=z _ (.tail _ (.tail _ (.head _))) Qb;have ab:=(ar.out.trans o.un).size;clear o z;go_simp;exact af _ _ (Z w _) ⟨_,rfl⟩ ⟨_,_,_,_,_,_,_,rfl,ab,aw w _ _,a3.keep (.of_ext (Z w _)) (λ_ a _=>a),aj.keep (.of_ext (Z w _)) (λ_ a _=>a),ak.keep (.of_ext (Z w _)) (λ_ a _=>a)⟩
   rintro _ ⟨V,rfl⟩;simp only[a8,a7,a6,aZ,aY];intro bF bf z;obtain⟨b9,an,al,aL,aG,aK,av,ad,b5,bn,X,bk,bj⟩:=z _ (.head _);injection ad with ad;injection ad with ad;injection ad with ad;subst ad;clear z;simp only[ae,au];have a2:=ar.out.trans bf.un;have bu:=O (A.out.trans a2);have a1:=aH.out.ext a2;have aO:=World.ownsRow.lt aH.out.1;have bH:=bu.out.size;have aA: ∀b,wr.heap.size<=b->I.heap.size<=b/\some b≠Value.ownBlock (.slice C j ah):=λb a=>⟨aR A.out.size a,λe=>by have:=(aO b e.symm).2;omega⟩
   have bw:=O (show SV.ok bF (λb=>I.heap.size<=b/\some b≠Value.ownBlock (.slice C j ah)) ⟨x,.slice an x.ex.length al,.slice aL x.body.length aG,.slice aK x.els.length av⟩from⟨X.mono (λb a _=>aA b a),bk.mono (λb a _=>aA b a),bj.mono (λb a _=>aA b a)⟩);clear bf a2 X bk bj aA;have ao:=a5.out;refine eA If rfl _ _ rfl I.heap.size _ j (eN ai) rfl (by have:=a1.1;rw[ao]at this;exact this) V (uS ⟨x,.slice an x.ex.length al,.slice aL x.body.length aG,.slice aK x.els.length av⟩) rfl bn rfl (wL _ _ _ _ _ _ _ _ _ _) Qa Qc bH ?_;intro cb cap' b3 bi aP bh;have bx:=O (a1.snoc bw.out (by rw[ao];exact bi) aP bh);rw[ao]at bx;have bR:=O (bu.out.grown aP (λk e=>(aO k e).1));have bX:=O (show(ai++[SV.mk x (.slice an x.ex.length al) (.slice aL x.body.length aG) (.slice aK x.els.length av)]).map (·.s)=xs.take (j+1) by rw[bv.out,d9,aJ.out];rfl);have bY:=O (show(ai++[SV.mk x (.slice an x.ex.length al) (.slice aL x.body.length aG) (.slice aK x.els.length av)]).length=j+1 by rw[ac,ao];rfl);clear bi aP bh a1 bn bw aO aJ a5 ao bv;go_wp2_with fail;go_roundw
   case rel=>exact⟨j+1,_,_,_,by go_num,rfl,by omega,bX,bY,bx,bR⟩
   case measure=>simp[intOf];omega
  ·have bI: ¬(j:Int)<n:=Qa
   have bK:j=n:=Qa
   subst bK
   have bW:=O (show db wr (λb=>I.heap.size<=b) (.slice C j ah) xs by
    have:=aH.out.rd;rw[aJ.out,bC (by have:=bz.out;omega)]at this
    exact this)
   clear aH aJ a5;go_wp2_with fail;go_ret;exact⟨A.out,C,ah,rfl,bW.out⟩
theorem pR: ∀(k:Nat) (xs:List St),fP xs<k->k<=1000000001->Az xs
 |0,xs,h,_=>absurd h (iV _)
 |k+1,xs,h,hk=>yx xs (by have:=dF xs;omega) (λx a=>⟨Gk (by have:=bO a;have:=x.wt_eq;omega),pR k x.body (by have:=bO a;have:=x.wt_eq;omega) Qa,pR k x.els (by have:=bO a;have:=x.wt_eq;omega) Qa⟩)
theorem Gj {xs:List St} (a:fP xs<=1000000000):Az xs:=pR _ xs (gq _) Qa
theorem C6 (p:Pg) (b4:p.vs.length<=1000000000) (cb:p.fs.length<=1000000000) (o: ∀f,f∈p.fs->fP f.body<=1000000000) (P:Nat->Prop) (w:World) (aH B:Option Addr) (n c m d:Nat) (bq:ik w P (.slice aH n c) p.vs) (bw:jl w P (.slice B m d) p.fs):
  Calls prog 14 #[.agg #[.slice aH n c,.slice B m d]] w λe w'=>az w w'/\ ∃z bG aD bX bH d',e=.returned (.agg #[.slice z bG aD,.slice bX bH d'])/\ik w' (λb=>P b\/w.heap.size<=b) (.slice z bG aD) p.vs/\jl w' (λb=>P b\/w.heap.size<=b) (.slice bX bH d') p.fs:=by
 obtain⟨vs,aB⟩:=p;simp only at*;have bj:n=vs.length:=by obtain⟨z,aD,a2,_⟩:=bq;injection a2
 have bk:m=aB.length:=by obtain⟨z,aD,a2,_⟩:=bw;injection a2
 rw[<-bj]at b4;rw[<-bk]at cb;have bU:=O bj;have bW:=O bk;have cm:=O bq;have cs:=O bw;have cv:=O o;have bB:=O (E6 25 34 w (.slice aH n c) (.slice B m d));have bT:=O (jE.nil_ 85 59 (QO w P) (((w.alloc (.cells #[.slice aH n c,.slice B m d] 25)).alloc (.cells #[.slice none 0 0,.slice none 0 0] 34)).alloc (.cells #[.slice none 0 0,.slice none 0 0] 34)) (w.heap.size+3));clear bj bk bq bw o;have aC:=bB.out.bs.cell;go_enter func14,ntmps14;go_wp2_with fail
 go_loopw [4] (λaK wr=> ∃(j:Nat) (C:Option Addr) (I:Nat),aK=.int .i64 (j:Int)/\j<=n/\Hid (PO 25 34 w (.slice aH n c) (.slice B m d) (.slice C j I) (.slice none 0 0) wr)/\Hid (jE 85 59 (QO w P) wr (w.heap.size+3) (.slice C j I) (.slice none 0 0) (vs.take j) [])) (λaK _=>n-(intOf aK).toNat)
 case atStart=>exact⟨0,none,0,rfl,aI _,bB,bT⟩
 case round=>
  clear aC bB bT;obtain⟨j,C,I,rfl,bL,A,aj⟩:=hrel;have aC:=A.out.bs.cell;by_cases aP:j<n
  ·have bl:(j:Int)<n:=Qa
   have ax:j<vs.length:=by have:=bU.out;omega
   obtain⟨b,aO,rfl,o,a3,M⟩:=CO cm.out j ax;have a5:=(A.out.e.cell b _ o).trans a3;have a4:=(A.out.e.cell b _ o).trans M;have bp:b<wr.heap.size:=aF o A.out.e.size;have a9:=O (show vs.take (j+1)=vs.take j++[vs[j]]from aX ax);have bm:(vs.take j).length=j:=by rw[bN];omega
   generalize vs[j]=x at*;clear a3 M ax;go_wp2_with fail;clear aC;have ab:=World.ownsRow.lt aj.out.1
   refine bV 9 12 [(7,λv=> ∃G,v=.slice (some ⟨G,0,none⟩) 1 1,λv al=> ∃G,v=.slice (some ⟨G,0,none⟩) 1 1/\wr.heap.size<=G/\aU al G 85 #[.string (J x.nm),.int .i64 x.sz]),
     (8,λv=> ∃z cap',v=.slice (some ⟨z,0,none⟩) (j+1) cap',λv al=> ∃z cap',v=.slice (some ⟨z,0,none⟩) (j+1) cap'/\al.ownsRow (w.heap.size+3) 85 2 v (j+1) (eB (vs.take j)++nN x)/\(some z=Value.ownBlock (.slice C j I)\/wr.heap.size<=z))] 8 (Value.ownBlock (.slice C j I)) mixed Qb
    ⟨λ_ _ _ X R=>(let⟨G,M,ai,ak⟩:=X;⟨G,M,ai,ak.ext R⟩),λ_ _ _ X R=>(let⟨z,cap',M,ai,ak⟩:=X;⟨z,cap',M,World.ownsRow.kept ai (R.grownBy none) (.inr (by rw[M];simp[Value.ownBlock])),ak⟩),trivial⟩
    ⟨.inr λ_ _ _ X R=>(let⟨G,M,ai,ak⟩:=X;⟨G,M,ai,ak.grown R (λe=>by have:=(ab _ e.symm).2;omega)⟩),.inl rfl,trivial⟩ ?_
   repeat (refine sx ?_ (λbb K=> ?_) ?_;rotate_left;(focus have aM:=A.out.grown (aJ K) (λk e=>(ab k e).1);have ci:=aM.bs.cell;have ch:=aM.bo.cell;have aA:=(aJ K).block b bp (λe=>by have:=(ab _ e.symm).1;omega);have cg:=(World.cell?_of_block (w:=wr) (a:=⟨b,aO+j*2,none⟩) aA).trans a5;have cf:=(World.cell?_of_block (w:=wr) (a:=⟨b,aO+j*2+1,none⟩) aA).trans a4;clear K aM aA;go_simp<;>with_reducible rfl);simp only[a8,a7,a6,aZ,aY])
   refine bg _ _ Qe rfl ⟨_,0,rfl⟩ Qd (λan K V bd aq=> ?_) ?_
   ·have a1:=(aJ K).size;clear K V;go_simp;exact aq _ _ (Z an _) ⟨_,rfl⟩ ⟨_,rfl,a1,aw an _ _⟩
   rintro _ ⟨G,rfl⟩;simp only[a8,a7,a6,aZ,aY];refine bR _ _ Qe rfl ⟨_,0,0,rfl⟩ rfl (λan ap V bd aq=> ?_) ?_
   ·obtain⟨ce,ah,b3,bx⟩:=V _ (.head _) Qb;injection ah with ah;injection ah with ah;injection ah with ah;subst ah;have bv:=aj.out.ext ap.un;have b6:=(A.out.ex ap.un).lt;have b5:=ap.un.size;clear V ap;refine rQ uD _ _ rfl (w.heap.size+3) _ j (eB (vs.take j)) rfl (by have:=bv.1;rw[bm]at this;exact this) G (nN x) rfl bx rfl (rU x) Qa Qc Qa ?_;intro z cap' b0 ao bc aL;exact aq _ _ bc ⟨_,_,rfl⟩ ⟨_,_,rfl,ao,aL.imp_right (λe=>by omega)⟩
   rintro _ ⟨z,cap',rfl⟩;simp only[a8,a7,a6,aZ,aY];repeat (refine sx ?_ (λbb K=> ?_) ?_;rotate_left;(focus go_simp<;>with_reducible rfl);simp only[a8,a7,a6,aZ,aY])
   intro bF aV V;obtain⟨cx,ck,ag,ao,ar⟩:=V _ (.head _);injection ag with ag _ bf;injection ag with ag;injection ag with ag;subst ag bf;clear V;simp only[ae,au];have aN:=aJ aV;have aG:=O (A.out.grown aN (λk e=>(ab k e).1));have aS:=O (aj.out.snocV bm ao aN ar);rw[<-a9.out]at aS;have bA:=O (aG.out.putV (.slice (some ⟨z,0,none⟩) (j+1) cap'));have bD:=O (aS.out.far (b:=w.heap.size+1+1) (i:=0) Qa Qa (.slice (some ⟨z,0,none⟩) (j+1) cap'));have bQ:=aG.out.bo.cell;have bZ:=aG.out.bo.frozen;clear aV aN ao ar ab aj A aS a9 bm a5 a4;go_wp2_with fail;go_roundw
   case rel=>exact⟨j+1,_,_,by go_num,by omega,bA,bD⟩
   case measure=>simp[intOf];omega
  ·have bl: ¬(j:Int)<n:=Qa
   have ca:j=n:=Qa
   have bE:=O (show jE 85 59 (QO w P) wr (w.heap.size+3) (.slice C j I) (.slice none 0 0) vs ([].map id) by
    have:=aj.out;rw[bC (by have:=bU.out;omega)]at this
    exact this)
   clear aj;obtain⟨av,aW⟩: ∃av,Value.slice C j I=av:=⟨_,rfl⟩
   rw[aW]at bE A;have cl:=O aW;clear aW ca bL aP aC;have aC:=A.out.bs.cell;go_wp2_with fail
   go_loopw [5] (λaK wr=> ∃(j:Nat) (aE:List FV) (C:Option Addr) (I:Nat),aK=.int .i64 (j:Int)/\j<=m/\Hid (aE.map (·.c)=aB.take j)/\Hid (aE.length=j)/\Hid (PO 25 34 w (.slice aH n c) (.slice B m d) av (.slice C j I) wr)/\Hid (jE 85 59 (QO w P) wr (w.heap.size+3) av (.slice C j I) vs aE)) (λaK _=>m-(intOf aK).toNat)
   case atStart=>exact⟨0,[],none,0,rfl,aI _,O rfl,O rfl,A,bE⟩
   case round=>
    clear aC A bE;obtain⟨j,aE,C,I,rfl,bL,be,ba,A,aj⟩:=hrel;have aC:=A.out.bs.cell;by_cases aP:j<m
    ·have bl:(j:Int)<m:=Qa
     have ax:j<aB.length:=by have:=bW.out;omega
     obtain⟨b,aO,b1,cC,rfl,o,a3,M,ai,br,bt⟩:=wO cs.out j ax;have a5:=(A.out.e.cell b _ o).trans a3;have a4:=(A.out.e.cell b _ o).trans M;have bP:=(A.out.e.cell b _ o).trans ai;have bp:b<wr.heap.size:=aF o A.out.e.size;have a9:=O (show aB.take (j+1)=aB.take j++[aB[j]]from aX ax);have bI:=cv.out _ (ay ax);generalize aB[j]=x at*;have b8: ∃z aD,b1=.slice z x.ps.length aD:=by obtain⟨z,aD,a2,_⟩:=br;exact⟨z,aD,a2⟩
     obtain⟨aT,aQ,rfl⟩:=b8;obtain⟨cw,cj,rfl,_⟩:=bt.form;have cn:=O br;have ab:=World.ownsRow.lt aj.out.2.1;have bh:=World.ownsRow.lt aj.out.1;have cu:=O (fun(W:World) (X:wr.grownBy W (Value.ownBlock (.slice C j I)))=>Gj bI P W (.slice cw x.body.length cj) (bt.keep ⟨aR A.out.e.size X.size,λb _ o=>(X.block b (aF o A.out.e.size) (λe=>by have:=(ab _ e.symm).1;omega)).trans (A.out.e.obj o)⟩ (λ_ o _=>o)));clear a3 M ai ax br bt bI;go_wp2_with fail;clear aC
     refine bV 24 12 [(20,λv=> ∃aH c,v=.slice aH x.body.length c,λv al=>db al (λb=>wr.heap.size<=b) v x.body),
       (22,λv=> ∃G,v=.slice (some ⟨G,0,none⟩) 1 1,λv al=> ∃G af ad,v=.slice (some ⟨G,0,none⟩) 1 1/\wr.heap.size<=G/\aU al G 59 #[.string (J x.nm),.slice aT x.ps.length aQ,.slice af x.body.length ad]/\db al (λb=>wr.heap.size<=b) (.slice af x.body.length ad) x.body),
       (23,λv=> ∃z cap',v=.slice (some ⟨z,0,none⟩) (j+1) cap',λv al=> ∃z cap' af ad,v=.slice (some ⟨z,0,none⟩) (j+1) cap'/\al.ownsRow (w.heap.size+3) 59 3 v (j+1) (ij aE++t8 ⟨x,.slice aT x.ps.length aQ,.slice af x.body.length ad⟩)/\(some z=Value.ownBlock (.slice C j I)\/wr.heap.size<=z)/\db al (λb=>wr.heap.size<=b/\b≠z) (.slice af x.body.length ad) x.body)] 23 (Value.ownBlock (.slice C j I)) mixed Qb
      ⟨λ_ _ _ X R=>X.keep (.of_ext R) (λ_ o _=>o),λ_ _ _ X R=>(let⟨G,af,ad,M,ai,ak,h4⟩:=X;⟨G,af,ad,M,ai,ak.ext R,h4.keep (.of_ext R) (λ_ o _=>o)⟩),λ_ _ _ X R=>(let⟨z,cap',af,ad,M,ai,ak,h4⟩:=X;⟨z,cap',af,ad,M,World.ownsRow.kept ai (R.grownBy none) (.inr (by rw[M];simp[Value.ownBlock])),ak,h4.keep (.of_ext R) (λ_ o _=>o)⟩),trivial⟩
      ⟨.inr λ_ _ _ X R=>X.keep (.of_grown R λb o e=>by have:=(ab _ e.symm).2;omega) (λ_ o _=>o),.inr λ_ _ _ X R=>(let⟨G,af,ad,M,ai,ak,h4⟩:=X;⟨G,af,ad,M,ai,ak.grown R (λe=>by have:=(ab _ e.symm).2;omega),h4.keep (.of_grown R λb o e=>by have:=(ab _ e.symm).2;omega) (λ_ o _=>o)⟩),.inl rfl,trivial⟩ ?_
     repeat (refine sx ?_ (λbb K=> ?_) ?_;rotate_left;(focus have aM:=A.out.grown (aJ K) (λk e=>(ab k e).1);have ci:=aM.bs.cell;have ch:=aM.bo.cell;have aA:=(aJ K).block b bp (λe=>by have:=(ab _ e.symm).1;omega);have cg:=(World.cell?_of_block (w:=wr) (a:=⟨b,aO+j*3,none⟩) aA).trans a5;have cf:=(World.cell?_of_block (w:=wr) (a:=⟨b,aO+j*3+1,none⟩) aA).trans a4;have cA:=(World.cell?_of_block (w:=wr) (a:=⟨b,aO+j*3+2,none⟩) aA).trans bP;clear K aM aA;go_simp<;>with_reducible rfl);simp only[a8,a7,a6,aZ,aY])
     refine bg _ _ Qe rfl ⟨_,none,0,rfl⟩ Qd (λan K V bd aq=> ?_) ?_
     ·clear V;have cc:=cu.out an (aJ K);have a1:=(aJ K).size;clear K;go_simp;refine cc.mono ?_;rintro e cz ⟨cd,bY,bS,rfl,bu⟩;exact aq _ _ cd ⟨_,_,rfl⟩ (bu.mono (λb o _=>aR a1 o))
     rintro _ ⟨bY,bS,rfl⟩;simp only[a8,a7,a6,aZ,aY];repeat (refine sx ?_ (λbb K=> ?_) ?_;rotate_left;(focus go_simp<;>with_reducible rfl);simp only[a8,a7,a6,aZ,aY])
     refine bg _ _ Qe rfl ⟨_,0,rfl⟩ Qd (λan K V bd aq=> ?_) ?_
     ·have ak:db an (λb=>wr.heap.size<=b) (.slice bY x.body.length bS) x.body:=V _ (.head _) Qb;have a1:=(aJ K).size;clear K V;go_simp;exact aq _ _ (Z an _) ⟨_,rfl⟩ ⟨_,_,_,rfl,a1,aw an _ _,ak.keep (.of_ext (Z an _)) (λ_ o _=>o)⟩
     rintro _ ⟨G,rfl⟩;simp only[a8,a7,a6,aZ,aY];refine bR _ _ Qe rfl ⟨_,0,0,rfl⟩ rfl (λan ap V bd aq=> ?_) ?_
     ·obtain⟨ce,af,ad,ah,b3,bx,bu⟩:=V _ (.head _) Qb;injection ah with ah;injection ah with ah;injection ah with ah;subst ah;have bv:=aj.out.ext ap.un;have b6:=(A.out.ex ap.un).lt;have b5:=ap.un.size;have b9:=ba.out;clear V ap;refine rQ Ij _ _ rfl (w.heap.size+3) _ j (ij aE) rfl (by have:=bv.2.1;rw[b9]at this;exact this) G (t8 ⟨x,.slice aT x.ps.length aQ,.slice af x.body.length ad⟩) rfl bx rfl (DM _ _ _ _ _ _ _) Qa Qc Qa ?_;intro z cap' b0 ao bc aL;exact aq _ _ bc ⟨_,_,rfl⟩ ⟨_,_,_,_,rfl,ao,aL.imp_right (λe=>by omega),bu.keep (.of_grown bc λb o e=>by have:=(ab _ e.symm).2;omega) (λb o aP=>⟨o,λe=>by rcases aL with aL|aL;(have:=(ab _ aL.symm).2;omega);omega⟩)⟩
     rintro _ ⟨z,cap',rfl⟩;simp only[a8,a7,a6,aZ,aY];repeat (refine sx ?_ (λbb K=> ?_) ?_;rotate_left;(focus go_simp<;>with_reducible rfl);simp only[a8,a7,a6,aZ,aY])
     intro bF aV V;obtain⟨cx,ck,af,ad,ag,ao,ar,bM⟩:=V _ (.head _);injection ag with ag _ bf;injection ag with ag;injection ag with ag;subst ag bf;clear V;simp only[ae,au];have aN:=aJ aV;have b7:=A.out.lt;have aG:=O (A.out.grown aN (λk e=>(ab k e).1));have bK:FV.ok bF (λb=>QO w P b/\some b≠av.ownBlock/\b≠z) ⟨x,.slice aT x.ps.length aQ,.slice af x.body.length ad⟩:=by
      refine⟨cn.out.keep (.of_ext aG.out.e) (λb o aP=>⟨.inl ⟨o,aP⟩,λe=>by have:=(bh b e.symm).1;omega,λe=>by rcases ar with ar|ar;(have:=(ab _ ar.symm).1;omega);omega⟩),bM.mono (λb o aP=>⟨.inr Qa,λe=>by have:=(bh b e.symm).2;omega,o.2⟩)⟩
     have aS:=O (aj.out.snocF bK ba.out ao aN ar);have bA:=O (aG.out.putF (.slice (some ⟨z,0,none⟩) (j+1) cap'));have bD:=O (aS.out.far (b:=w.heap.size+1+1) (i:=1) Qa Qa (.slice (some ⟨z,0,none⟩) (j+1) cap'));have cq:=O (show(aE++[FV.mk x (.slice aT x.ps.length aQ) (.slice af x.body.length ad)]).map (·.c)=aB.take (j+1) by rw[a9.out,d9,be.out];rfl);have cr:=O (show(aE++[FV.mk x (.slice aT x.ps.length aQ) (.slice af x.body.length ad)]).length=j+1 by rw[ac,ba.out];rfl);have bQ:=aG.out.bo.cell;have bZ:=aG.out.bo.frozen;clear aV aN ao ar ab bh aj A aS a9 be ba a5 a4 bP bK bM b7;go_wp2_with fail;go_roundw
     case rel=>exact⟨j+1,_,_,_,by go_num,by omega,cq,cr,bA,bD⟩
     case measure=>simp[intOf];omega
    ·have bl: ¬(j:Int)<m:=Qa
     obtain⟨bJ,bi⟩:=aj.out.rd (λb o=> .inr o);rw[be.out,bC (by have:=bW.out;omega)]at bi;have bn:=AX (Aj (P:=P) (w:=w) (W:=wr) (b:=w.heap.size+1) (i:=0) av Qa Qa) (Aj (P:=P) (w:=w) (b:=w.heap.size+1) (i:=1) (.slice C j I) Qa Qa);have co:=O (bJ.keep bn (Q:=λb=>P b\/w.heap.size<=b) (λb o _=>by rcases o with o|o;(exact .inl o.1);(exact .inr Qa)));have cp:=O (bi.keep bn (Q:=λb=>P b\/w.heap.size<=b) (λb o _=>by rcases o with o|o;(exact .inl o.1);(exact .inr Qa)));have ct:=O ((A.out.e.set (p:=⟨w.heap.size+1,0,none⟩) (by show w.heap.size<=w.heap.size+1;omega) av).set (p:=⟨w.heap.size+1,1,none⟩) (by show w.heap.size<=w.heap.size+1;omega) (.slice C j I));have bO:=(A.out.bz.set 0 av).set 1 (.slice C j I);have b2:=bO.cell;have bQ:=A.out.bo.cell;have cB:=A.out.bz.cell;have cy:=A.out.bz.frozen;clear bJ bi bn aj be ba bO;have aW:=cl.out;subst aW;go_wp2_with fail;refine bodyPost_ret (v:=.agg #[.slice _ _ _,.slice C j I]) ?_ rfl ⟨ct.out,_,_,_,_,_,_,rfl,co.out,cp.out⟩;simp[results,results14,go_sem,b2]
def GC (xs:List Ex):Prop:= ∀(P:Nat->Prop) (w:World) (u:Value),c7 w P u xs->Calls prog 65 #[u] w λe w'=>(∃k:Int,e=.returned (.int .i64 k))/\az w w'
def GB (xs:List St):Prop:= ∀(P:Nat->Prop) (w:World) (u:Value),db w P u xs->Calls prog 34 #[u] w λe w'=>(∃k:Int,e=.returned (.int .i64 k))/\az w w'
theorem zP (xs:List Ex) (ae:xs.length<=1073741824) (X: ∀x,x∈xs->GC x.args):GC xs:=by
 intro P K u o;obtain⟨aB,c,rfl,_⟩:=o.form;obtain⟨n,w⟩: ∃n,xs.length=n:=⟨_,rfl⟩
 rw[w]at o ae;rw[w];have J:=O w;have al:=O o;have an:=O X;clear o X w;go_enter func65,ntmps65;go_wp2_with fail
 go_loopw [3,4] (λM A wr=> ∃(a:Nat) (k:Int),A=.int .i64 (a:Int)/\M=.int .i64 k/\a<=n/\Hid (az K wr)) (λM A _=>n-(intOf A).toNat)
 case atStart=>exact⟨0,0,rfl,rfl,aI _,O (aS K)⟩
 case round=>
  obtain⟨a,k,rfl,rfl,aq,j⟩:=hrel;by_cases hlt:a<n
  ·have ad:(a:Int)<n:=Qa
   have R:a<xs.length:=by have:=J.out;omega
   obtain⟨b,ap,ax,rfl,z,au,aj,ai,ah,ag,af,ab,G⟩:=al.out.at_ a R;have ar:b<wr.heap.size:=aF z j.out.size;have V:=an.out _ (ay R);generalize xs[a]=x at*;have av:=(j.out.cell b _ z).trans ab;obtain⟨aA,aw,rfl,_⟩:=G.form;have ac:=O (V P wr _ (G.keep (.of_ext j.out) (λb z _=>z)));clear aj ai ah ag af ab G V;go_wp2_with (go_at_call 65;refine ac.out.mono ?_;rintro e ao ⟨⟨q,rfl⟩,I⟩;have ak:=O (j.out.trans I);clear I ac);go_roundw
   case rel=>exact⟨a+1,_,by go_num,rfl,by omega,ak⟩
   case measure=>simp[intOf];omega
  ·have ad: ¬(a:Int)<n:=Qa
   go_wp2_with fail;go_ret;exact⟨⟨_,rfl⟩,j.out⟩
theorem wH: ∀(k:Nat) (xs:List Ex),gA xs<k->k<=1000000001->GC xs
 |0,xs,h,_=>absurd h (iV _)
 |k+1,xs,h,hk=>zP xs (by have:=dH xs;omega) (λx a=>wH k x.args (by have:=dG a;have:=x.wt_eq;omega) Qa)
theorem GW {xs:List Ex} (a:gA xs<=1000000000):GC xs:=wH _ xs (gq _) Qa
theorem zO (xs:List St) (aw:xs.length<=1073741824) (an: ∀x,x∈xs->GC x.ex/\GB x.body/\GB x.els):GB xs:=by
 intro P aj u V;obtain⟨bd,c,rfl,_⟩:=V.form;obtain⟨n,X⟩: ∃n,xs.length=n:=⟨_,rfl⟩
 rw[X]at V aw;rw[X];have aJ:=O X;have aH:=O V;have aK:=O an;clear V an X;go_enter func34,ntmps34;go_wp2_with fail
 go_loopw [3,4] (λak ac wr=> ∃(j:Nat) (k:Int),ac=.int .i64 (j:Int)/\ak=.int .i64 k/\j<=n/\Hid (az aj wr)) (λak ac _=>n-(intOf ac).toNat)
 case atStart=>exact⟨0,0,rfl,rfl,aI _,O (aS aj)⟩
 case round=>
  obtain⟨j,k,rfl,rfl,aW,w⟩:=hrel;by_cases hlt:j<n
  ·have av:(j:Int)<n:=Qa
   have J:j<xs.length:=by have:=aJ.out;omega
   obtain⟨b,aQ,a9,g,aO,rfl,o,aX,aA,ax,aq,ap,ao,ah,ag,af⟩:=aH.out.at_ j J;have ad:b<wr.heap.size:=aF o w.out.size;have I:=aK.out _ (ay J);generalize xs[j]=x at*;have aE:=(w.out.cell b _ o).trans aq;have aD:=(w.out.cell b _ o).trans ap;have aC:=(w.out.cell b _ o).trans ao;obtain⟨bc,a5,rfl,_⟩:=ah.form;obtain⟨bb,a4,rfl,_⟩:=ag.form;obtain⟨ba,aV,rfl,_⟩:=af.form;have aN:=O (fun(W:World) (R:az wr W)=>I.1 P W _ (ah.keep (.of_ext (w.out.trans R)) (λb o _=>o)));have aM:=O (fun(W:World) (R:az wr W)=>I.2.1 P W _ (ag.keep (.of_ext (w.out.trans R)) (λb o _=>o)));have aL:=O (fun(W:World) (R:az wr W)=>I.2.2 P W _ (af.keep (.of_ext (w.out.trans R)) (λb o _=>o)));clear aA ax aq ap ao ah ag af I;go_wp2_with fail;refine aB 23 12 [(6,λv=> ∃k:Int,v=.int .i64 k,λ_ _=>True),(13,λv=> ∃k:Int,v=.int .i64 k,λ_ _=>True),(20,λv=> ∃k:Int,v=.int .i64 k,λ_ _=>True)] mixed Qb
    ⟨λ_ _ _ _ _=>trivial,λ_ _ _ _ _=>trivial,λ_ _ _ _ _=>trivial,trivial⟩ ?_
   repeat (refine sx ?_ (λab a=> ?_) ?_;rotate_left;(focus have a3:=(a.un.cell b _ ad).trans aE;clear a;go_simp<;>with_reducible rfl);simp only[a8,a7,a6,aZ,aY])
   refine bg _ _ Qe rfl ⟨_,0,rfl⟩ Qd (λA a z ar K=> ?_) ?_
   ·have G:=aN.out A a.un;clear z a;go_simp;refine G.mono ?_;rintro e ai ⟨⟨q,rfl⟩,M⟩;exact K _ _ M ⟨_,rfl⟩ trivial
   rintro _ ⟨aU,rfl⟩;simp only[a8,a7,a6,aZ,aY];repeat (refine sx ?_ (λab a=> ?_) ?_;rotate_left;(focus have a2:=(a.un.cell b _ ad).trans aD;clear a;go_simp<;>with_reducible rfl);simp only[a8,a7,a6,aZ,aY])
   refine bg _ _ Qe rfl ⟨_,0,rfl⟩ Qd (λA a z ar K=> ?_) ?_
   ·have G:=aM.out A a.un;clear z a;go_simp;refine G.mono ?_;rintro e ai ⟨⟨q,rfl⟩,M⟩;exact K _ _ M ⟨_,rfl⟩ trivial
   rintro _ ⟨aT,rfl⟩;simp only[a8,a7,a6,aZ,aY];repeat (refine sx ?_ (λab a=> ?_) ?_;rotate_left;(focus have a1:=(a.un.cell b _ ad).trans aC;clear a;go_simp<;>with_reducible rfl);simp only[a8,a7,a6,aZ,aY])
   refine bg _ _ Qe rfl ⟨_,0,rfl⟩ Qd (λA a z ar K=> ?_) ?_
   ·have G:=aL.out A a.un;clear z a;go_simp;refine G.mono ?_;rintro e ai ⟨⟨q,rfl⟩,M⟩;exact K _ _ M ⟨_,rfl⟩ trivial
   rintro _ ⟨aR,rfl⟩;simp only[a8,a7,a6,aZ,aY];repeat (refine sx ?_ (λab a=> ?_) ?_;rotate_left;(focus go_simp<;>with_reducible rfl);simp only[a8,a7,a6,aZ,aY])
   intro aP al z;clear z;simp only[ae,au];have aG:=O (w.out.trans al.un);clear al;go_wp2_with fail;go_roundw
   case rel=>exact⟨j+1,_,by go_num,rfl,by omega,aG⟩
   case measure=>simp[intOf];omega
  ·have av: ¬(j:Int)<n:=Qa
   go_wp2_with fail;go_ret;exact⟨⟨_,rfl⟩,w.out⟩
theorem r7: ∀(k:Nat) (xs:List St),fP xs<k->k<=1000000001->GB xs
 |0,xs,h,_=>absurd h (iV _)
 |k+1,xs,h,hk=>zO xs (by have:=dF xs;omega) (λx a=>⟨GW (by have:=bO a;have:=x.wt_eq;omega),r7 k x.body (by have:=bO a;have:=x.wt_eq;omega) Qa,r7 k x.els (by have:=bO a;have:=x.wt_eq;omega) Qa⟩)
theorem GV {xs:List St} (a:fP xs<=1000000000):GB xs:=r7 _ xs (gq _) Qa
theorem DL (p:Pg) (aC:p.vs.length<=1000000000) (aG:p.fs.length<=1000000000) (w: ∀f,f∈p.fs->fP f.body<=1000000000) (P:Nat->Prop) (o:World) (M B:Option Addr) (n c m d:Nat) (ap:ik o P (.slice M n c) p.vs) (ac:jl o P (.slice B m d) p.fs):
  Calls prog 12 #[.agg #[.slice M n c,.slice B m d]] o λe w'=>(∃b:Bool,e=.returned (.bool b))/\az o w':=by
 obtain⟨vs,ag⟩:=p;simp only at*;have J:n=vs.length:=by obtain⟨K,G,A,_⟩:=ap;injection A
 have I:m=ag.length:=by obtain⟨K,G,A,_⟩:=ac;injection A
 rw[<-J]at aC;rw[<-I]at aG;have aQ:=O I;have aR:=O ac;have aT:=O w;have ar:=O (Z o (.cells #[.slice M n c,.slice B m d] 25));have ai:=O (aw o 25 #[.slice M n c,.slice B m d]);have a3:IntKind.i64.wrap ((n:Int)+m)=n+m:=Qf
 clear J I ap ac w;have ah:=ai.out.cell;go_enter func12,ntmps12;go_wp2_with fail
 go_loopw [3,4] (λak R wr=> ∃(j:Nat) (k:Int),R=.int .i64 (j:Int)/\ak=.int .i64 k/\j<=m/\Hid (az o wr)/\Hid (aU wr o.heap.size 25 #[.slice M n c,.slice B m d])) (λak R _=>m-(intOf R).toNat)
 case atStart=>exact⟨0,0,rfl,rfl,aI _,ar,ai⟩
 case round=>
  clear ah ar ai;obtain⟨j,k,rfl,rfl,a4,a,aj⟩:=hrel;have ah:=aj.out.cell;by_cases hlt:j<m
  ·have aD:(j:Int)<m:=Qa
   have an:j<ag.length:=by have:=aQ.out;omega
   obtain⟨b,a1,aA,bd,rfl,w,aL,af,ad,aq,ab⟩:=wO aR.out j an;have aO:=(a.out.cell b _ w).trans af;have aN:=(a.out.cell b _ w).trans ad;have ao:b<wr.heap.size:=aF w a.out.size;have al:=aT.out _ (ay an);generalize ag[j]=x at*;have aE: ∃K G,aA=.slice K x.ps.length G:=by obtain⟨K,G,A,_⟩:=aq;exact⟨K,G,A⟩
   obtain⟨bh,bc,rfl⟩:=aE;obtain⟨bf,bb,rfl,_⟩:=ab.form;have aS:=O (fun(W:World) (aM:az wr W)=>GV al P W _ (ab.keep (.of_ext (a.out.trans aM)) (λb w _=>w)));clear aL af ad aq ab al;go_wp2_with fail;clear ah;refine aB 17 12 [(14,λv=> ∃k:Int,v=.int .i64 k,λ_ _=>True)] mixed Qb ⟨λ_ _ _ _ _=>trivial,trivial⟩ ?_;repeat (refine sx ?_ (λax z=> ?_) ?_;rotate_left;(focus have ba:=(aj.out.ext z.un).cell;have a9:=(z.un.cell b _ ao).trans aO;have a5:=(z.un.cell b _ ao).trans aN;clear z;go_simp<;>with_reducible rfl);simp only[a8,a7,a6,aZ,aY])
   refine bg _ _ Qe rfl ⟨_,0,rfl⟩ Qd (λav z X be aJ=> ?_) ?_
   ·have aH:=aS.out av z.un;clear X z;go_simp;refine aH.mono ?_;rintro e aX ⟨⟨q,rfl⟩,aK⟩;exact aJ _ _ aK ⟨_,rfl⟩ trivial
   rintro _ ⟨a2,rfl⟩;simp only[a8,a7,a6,aZ,aY];repeat (refine sx ?_ (λax z=> ?_) ?_;rotate_left;(focus go_simp<;>with_reducible rfl);simp only[a8,a7,a6,aZ,aY])
   intro aW V X;clear X;simp only[ae,au];have aP:=O (a.out.trans V.un);have aV:=O (aj.out.ext V.un);clear V;go_wp2_with fail;go_roundw
   case rel=>exact⟨j+1,_,by go_num,rfl,by omega,aP,aV⟩
   case measure=>simp[intOf];omega
  ·have aD: ¬(j:Int)<m:=Qa
   by_cases af:(n:Int)+m<=60
   ·by_cases ad:k<=600
    ·go_wp2_with fail;go_ret;first|exact⟨.inl rfl,a.out⟩|exact⟨.inr rfl,a.out⟩
    ·go_wp2_with fail;go_ret;first|exact⟨.inl rfl,a.out⟩|exact⟨.inr rfl,a.out⟩
   ·go_wp2_with fail;go_ret;first|exact⟨.inl rfl,a.out⟩|exact⟨.inr rfl,a.out⟩
def lE (w0:World) (t:TypeId) (cs:Array Value) (v:Value) (w:World):Prop:= ∃g,v=.pointer (some ⟨g,0,none⟩)/\w0.heap.size<=g/\aU w g t cs
theorem lE.ext {w0:World} {t:TypeId} {h:Array Value} {v:Value} {a w':World} (o:lE w0 t h v a) (j:az a w'):lE w0 t h v w':=let⟨g,h1,h2,h3⟩:=o;⟨g,h1,h2,h3.ext j⟩
theorem lE.old {w0:World} {t:TypeId} {w:Array Value}: ∀(v:Value) (a:World),lE w0 t w v a-> ∀g,pB v=some g->g<a.heap.size:=λv a ⟨g,o,_,j⟩ k h=>by
 subst o;injection h with h;subst h;exact j.lt
theorem lE.at_ {w0 h:World} {t:TypeId} {j:Array Value} {g:Nat} (z:lE w0 t j (.pointer (some ⟨g,0,none⟩)) h):w0.heap.size<=g/\aU h g t j:=by
 obtain⟨k,a,w,o⟩:=z;injection a with a;injection a with a;injection a with a;subst a;exact⟨w,o⟩
def GO (v:Value):Prop:= ∃g,v=.pointer (some ⟨g,0,none⟩)
theorem Fb {h:World} {n:Nat} (j:h.heap.size=n): ∀g,pB (.pointer (some ⟨n,0,none⟩))=some g->h.heap.size<=g:=λg a=>by
 have a:some n=some g:=a;injection a with a;omega
theorem mz {W a:World} {g:Nat} (h:az W a) (j:W.heap.size<=g) (vs:List Value):az W (a.setCells g 0 vs):=h.grown (dx g vs 0 a) (λk e=>by injection e with e;omega)
theorem vr (p:Pg):p.vs.length<=jo p:=by
 have:=jv (λ_:Vr=>1) (λv=>v.nm.length+1) p.vs (λv _=>by omega);rw[gv]at this;unfold jo;omega
theorem As (p:Pg):p.fs.length<=jo p:=by
 have:=jv (λ_:Fc=>1) (λf=>f.wt+1) p.fs (λv _=>by omega);rw[gv]at this;unfold jo;omega
theorem En {p:Pg} {f:Fc} (a:f∈p.fs):fP f.body<=jo p:=by
 have:=oH a;have:fP f.body<=f.wt:=by unfold Fc.wt;omega
 omega
theorem Ax {p:Pg} (ab:jo p<=6000000) {P:Nat->Prop} {a:World} {A B:Option Addr} {n c m d:Nat} (O:ik a P (.slice A n c) p.vs) (R:jl a P (.slice B m d) p.fs):
  Calls prog 14 #[.agg #[.slice A n c,.slice B m d]] a λe w'=>az a w'/\ ∃z h o w j d',e=.returned (.agg #[.slice z h o,.slice w j d'])/\ik w' (λ_=>True) (.slice z h o) p.vs/\jl w' (λ_=>True) (.slice w j d') p.fs:=by
 refine(C6 p (by have:=vr p;omega) (by have:=As p;omega) (λf K=>by have:=En K;omega) P a A B n c m d O R).mono λe w' G=> ?_;obtain⟨V,z,h,o,w,j,d',M,I,X⟩:=G;exact⟨V,z,h,o,w,j,d',M,I.keep ⟨ak _,λ_ _ _=>rfl⟩ (λ_ _ _=>trivial),X.keep ⟨ak _,λ_ _ _=>rfl⟩ (λ_ _ _=>trivial)⟩
theorem Eu {p:Pg} (z:jo p<=6000000) {P:Nat->Prop} {a:World} {h B:Option Addr} {n c m d:Nat} (o:ik a P (.slice h n c) p.vs) (w:jl a P (.slice B m d) p.fs):
  Calls prog 12 #[.agg #[.slice h n c,.slice B m d]] a λe w'=>(∃b:Bool,e=.returned (.bool b))/\az a w':=
 DL p (by have:=vr p;omega) (by have:=As p;omega) (λf j=>by have:=En j;omega) P a h B n c m d o w
def qu:=@lE.at_
end
end Go.Proofs.YtddomeddabfinaaGreatDoor
