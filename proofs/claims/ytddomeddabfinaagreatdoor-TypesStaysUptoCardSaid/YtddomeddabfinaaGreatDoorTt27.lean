/- Parts of the proof. -/
import Derived.Test.YtddomeddabfinaaGreatDoorTt00
import Derived.Test.YtddomeddabfinaaGreatDoorTt26
set_option maxRecDepth 100000
set_option maxHeartbeats 8000000
set_option linter.unusedVariables false
set_option linter.unusedSimpArgs false
set_option linter.unusedSectionVars false
namespace Go.Proofs.YtddomeddabfinaaGreatDoor
open IntKind(i64)
open Go.Proofs.Tryz
section
open Go.RowKit
theorem D6 {op:List UInt8} {j b:Int} {s h:Ms} {v:Int} (a:kA op j b s=.ok (v,h)):h=s:=by
 unfold kA at a;repeat' split at a
 all_goals first|(cases a;rfl)|cases a
theorem BW {op:List UInt8} {j b:Int} {s:Ms} {h:Oc} (a:kA op j b s=.error h):h=s.fails:=by
 unfold kA at a;repeat' split at a
 all_goals first|(cases a;rfl)|cases a
theorem Du (G:MX) (C:Cx) (n:Nat) (op nm tx:List UInt8) (v:Int) (y:Ex) (ak:List Ex) (aU:nm.length<=1073741824) (aT:oQ G C n y):wj G C n (.mk 4 op nm tx v (y::ak)):=by
 intro aj l bA bo bK bJ c ai aE aV bN al;simp only[Ex.k,Ex.op,Ex.nm,Ex.tx,Ex.v,Ex.args]at al⊢;have bu:2*aj.step.left<=n:=by show 2*(aj.left-1)<=n;omega
 obtain⟨N,aD⟩: ∃N,(y::ak).length=N:=⟨_,rfl⟩
 rw[aD]at al⊢;have bM: ∀aL:Int,IntKind.i32.wrap aL=m9 aL:=λ_=>rfl;have aH:=O (kd ai aE al #[.int i64 4,.string (J op),.string (J nm),.string (J tx),.int i64 v,.slice bJ N c]);have bf:=O (fY aH.out.ma aV);have z:=Gw (C:=C) (n:=n) (l:=l) (op:=op) (nm:=nm) (tx:=tx) (v:=v) (a:=y::ak) aV;rw[show(y::ak).getD 0 pj=y from rfl]at z;have br:lH aj.step:=λx=>ai.rng x;have bv:=aE.fr.rng;obtain⟨b,bL,B,d,bz,a2,ax,av,aw⟩:=al.yc 0 Qd;subst bz;have bP:0<N:=by rw[<-aD];simp
 have bO:(0:Int)<(N:Int):=Qa
 simp only[aK,bp,bE]at av aw;obtain⟨aR,aP,aQ,aN,ap,bd⟩:=y;have aA:=O aT;unfold oQ at aA;simp only[Ex.k,Ex.op,Ex.nm,Ex.tx,Ex.v,Ex.args]at av aw aA;have be:=O av;have bg:=O aw;clear ai aE al aD av aw aT;simp only[MX.p]at*;go_enter func164,ntmps164;go_wp2_with (go_at_call 162;refine bf.out.mono ?_;rintro e X ⟨rfl,ad,a3⟩;have K:=O (aH.out.nx ad a3);have ay:=K.out.bk.cell;clear ad a3 bf aH);have aG:=O (be.out.ms K.out.mv ax a2);have aC:=aF a2 K.out.mv.size;have aI:=O (λW (z:az X W)=>aA.out aj.step l bA bo W B d (K.out.ma.ext z) (K.out.fi.ext z) bu ((bg.out.ms K.out.mv).xt z));clear ay aA be bg;rcases kv (ev C n aj.step l (Ex.mk aR aP aQ aN ap bd))with⟨i,V,ah⟩|⟨oc,ah⟩
 ·rw[ah,gh]at z;have aW:=oq ah br bv;by_cases hin:0<=i/\i<((V.arrs nm).length:Int)
  ·rw[if_pos hin]at z;obtain⟨ac,rfl⟩:=d6 hin.1;have ar:ac<(V.arrs nm).length:=Qa
   have aJ:=O (show iQ G V nm (ac:Int)=.returned (.pointer (some ⟨G.rb nm,ac,none⟩)) by unfold iQ;rw[if_pos hin];rfl);obtain⟨af,a1⟩: ∃af,(V.arrs nm)[ac]=af:=⟨_,rfl⟩
   have aX:m9 (af.toNat:Int)=(af.toNat:Int):=by have:=af.toNat_lt;unfold m9;simp[IntKind.wrap,IntKind.signed,IntKind.bits];omega
   have an:=O (show ev C (n+1) aj l (.mk 4 op nm tx v ((Ex.mk aR aP aQ aN ap bd)::ak))=.ok (m9 (af.toNat:Int),V) by
    rw[aX,z,eS,ch,aO ar,a1];rfl)
   clear aX
   have bD:=O (λW (j:MA G C V W)=>show W.cell? ⟨G.rb nm,ac,none⟩=some (.int .u8 (af.toNat:Int))from by
    rw[(j.row nm (λe=>by rw[e]at ar;simp at ar)).1.cell]
    simp[Cf,me,Ca,ar,a1])
   clear z hin;refine eU G.S 14 8 [(9,λx=>x=.int .i32 (ac:Int),λ_ W=>MA G C V W),(10,λx=>x=.pointer (some ⟨G.rb nm,ac,none⟩),λ_ _=>True),(12,λx=>x=.int .u8 (af.toNat:Int),λ_ _=>True)] 9 mixed Qb ⟨λ_ _ _ j z=>j.ext z,λ_ _ _ j _=>j,λ_ _ _ j _=>j,trivial⟩ ⟨.inl rfl,.inr λ_ _ _ j _=>j,.inr λ_ _ _ j _=>j,trivial⟩ ?_
   iterate 9 (refine sx ?_ (λX o=> ?_) ?_;rotate_left;(focus have ay:=(o.un.blk K.out.bk (jm K.out.hp)).cell;obtain⟨bc,bb,ba,a9,a5,a4⟩:=aG.out.ms o.un ax aC;clear o;go_simp<;>with_reducible rfl);simp only[a8,a7,a6,aZ,aY])
   refine bR _ _ Qe rfl ⟨_,rfl⟩ rfl (λM I w ag R=> ?_) ?_
   ·clear w;have A:=aI.out M I.un;rw[ah]at A;clear I;go_simp;refine A.mono ?_;intro e ao j;obtain⟨ad,rfl,ai⟩:=j.ok_;exact R _ _ ad rfl ai
   rintro _ rfl;simp only[a8,a7,a6,aZ,aY];refine so (λM o w ag R=> ?_) ?_
   ·have ab:=w _ (.head _) Qb;have A:=jW G C V M ab nm aU (ac:Int) aW;rw[aJ.out]at A;clear o w ab;simp only[MX.p]at A;go_simp;refine A.mono ?_;rintro e ao ⟨rfl,z⟩;exact R _ _ z rfl trivial
   rintro _ rfl;simp only[a8,a7,a6,aZ,aY]
   iterate 1 (refine sx ?_ (λX o=> ?_) ?_;rotate_left;(focus clear o;go_simp<;>with_reducible rfl);simp only[a8,a7,a6,aZ,aY])
   refine so (λM o w ag R=> ?_) ?_
   ·have ab:=w _ (.tail _ (.head _)) Qb;have A:=bD.out M ab;clear o w ab;go_simp;exact R _ _ (aS _) rfl trivial
   rintro _ rfl;simp only[a8,a7,a6,aZ,aY]
   iterate 1 (refine sx ?_ (λX o=> ?_) ?_;rotate_left;(focus clear o;go_simp<;>with_reducible rfl);simp only[a8,a7,a6,aZ,aY])
   intro aM aq w;have bh:=O (K.out.nx aq (w _ (.tail _ (.tail _ (.head _)))));clear aq w;simp only[ae,au];go_wp2_with fail;go_ret;exact fh bh.out.mv an.out bh.out.ma
  ·rw[if_neg hin]at z;have aJ:=O (show iQ G V nm i=.panicked [{v:=.iface 129 (.agg #[.int i64 2]),recovered:=false}] by unfold iQ;rw[if_neg hin];rfl);have an:=O z;clear z;refine eU G.S 14 8 [(9,λx=>x=.int .i32 i,λ_ W=>MA G C V W),(10,λx=>x=.pointer (some ⟨G.rb nm,0,none⟩),λ_ _=>False),(12,λx=>x=.int .u8 0,λ_ _=>True)] 9 mixed Qb ⟨λ_ _ _ j z=>j.ext z,λ_ _ _ j _=>j,λ_ _ _ j _=>j,trivial⟩ ⟨.inl rfl,.inr λ_ _ _ j _=>j,.inr λ_ _ _ j _=>j,trivial⟩ ?_
   iterate 9 (refine sx ?_ (λX o=> ?_) ?_;rotate_left;(focus have ay:=(o.un.blk K.out.bk (jm K.out.hp)).cell;obtain⟨bc,bb,ba,a9,a5,a4⟩:=aG.out.ms o.un ax aC;clear o;go_simp<;>with_reducible rfl);simp only[a8,a7,a6,aZ,aY])
   refine bR _ _ Qe rfl ⟨_,rfl⟩ rfl (λM I w ag R=> ?_) ?_
   ·clear w;have A:=aI.out M I.un;rw[ah]at A;clear I;go_simp;refine A.mono ?_;intro e ao j;obtain⟨ad,rfl,ai⟩:=j.ok_;exact R _ _ ad rfl ai
   rintro _ rfl;simp only[a8,a7,a6,aZ,aY];refine so (λM o w ag R=> ?_) ?_
   ·have ab:=w _ (.head _) Qb;have A:=jW G C V M ab nm aU i aW;rw[aJ.out]at A;have bF:=O (K.out.mv.trans o.un);have bH:=O (ab.halt 2);clear o w ab;simp only[MX.p]at A;go_simp;refine A.mono ?_;rintro e ao ⟨rfl,z⟩;intro bC aB;obtain⟨bn,bm,ap,bl,bj,bi,bI,bB,bw,bq,bt⟩:=bH.out;exact⟨aB,dK (bF.out.trans (.of_ext z)) an.out rfl ⟨bn,bm,ap,bl,bj,bi,bI,bB,bw.ext z,bq.ext z,bt⟩⟩
   rintro _ rfl;simp only[a8,a7,a6,aZ,aY]
   iterate 1 (refine sx ?_ (λX o=> ?_) ?_;rotate_left;(focus clear o;go_simp<;>with_reducible rfl);simp only[a8,a7,a6,aZ,aY])
   refine so (λM o w ag R=> ?_) ?_
   ·exact(w _ (.head _) Qb).elim
   rintro _ rfl;simp only[a8,a7,a6,aZ,aY]
   iterate 1 (refine sx ?_ (λX o=> ?_) ?_;rotate_left;(focus clear o;go_simp<;>with_reducible rfl);simp only[a8,a7,a6,aZ,aY])
   intro aM aq w;exact(w _ (.tail _ (.head _))).elim
 ·rw[ah,fj]at z;have an:=O z;clear z;refine eU G.S 14 8 [(9,λx=>x=.int .i32 0,λ_ W=>False),(10,λx=>x=.pointer (some ⟨G.rb nm,0,none⟩),λ_ _=>False),(12,λx=>x=.int .u8 0,λ_ _=>True)] 9 mixed Qb ⟨λ_ _ _ j z=>j,λ_ _ _ j _=>j,λ_ _ _ j _=>j,trivial⟩ ⟨.inl rfl,.inr λ_ _ _ j _=>j,.inr λ_ _ _ j _=>j,trivial⟩ ?_
  iterate 9 (refine sx ?_ (λX o=> ?_) ?_;rotate_left;(focus have ay:=(o.un.blk K.out.bk (jm K.out.hp)).cell;obtain⟨bc,bb,ba,a9,a5,a4⟩:=aG.out.ms o.un ax aC;clear o;go_simp<;>with_reducible rfl);simp only[a8,a7,a6,aZ,aY])
  refine bR _ _ Qe rfl ⟨_,rfl⟩ rfl (λM I w ag R=> ?_) ?_
  ·clear w;have A:=aI.out M I.un;rw[ah]at A;have bG:=O (K.out.mv.trans (.of_ext I.un));clear I;go_simp;refine A.mono ?_;intro e ao j;obtain⟨ad,rfl,bx⟩:=j.err_;intro bC aB;exact⟨aB,dK (bG.out.trans ad) an.out rfl bx⟩
  rintro _ rfl;simp only[a8,a7,a6,aZ,aY];refine so (λM o w ag R=> ?_) ?_
  ·exact(w _ (.head _) Qb).elim
  rintro _ rfl;simp only[a8,a7,a6,aZ,aY]
  iterate 1 (refine sx ?_ (λX o=> ?_) ?_;rotate_left;(focus clear o;go_simp<;>with_reducible rfl);simp only[a8,a7,a6,aZ,aY])
  refine so (λM o w ag R=> ?_) ?_
  ·exact(w _ (.head _) Qb).elim
  rintro _ rfl;simp only[a8,a7,a6,aZ,aY]
  iterate 1 (refine sx ?_ (λX o=> ?_) ?_;rotate_left;(focus clear o;go_simp<;>with_reducible rfl);simp only[a8,a7,a6,aZ,aY])
  intro aM aq w;exact(w _ (.tail _ (.head _))).elim
theorem Ds (aj:MX) (C:Cx) (n:Nat) (op nm tx:List UInt8) (v:Int) (xs:List Ex) (K:xE aj C n 5 op nm tx v xs):wj aj C n (.mk 5 op nm tx v xs):=by
 intro o l ai I aw X c ah af ac az G;simp only[Ex.k,Ex.op,Ex.nm,Ex.tx,Ex.v,Ex.args]at G⊢;have ab:2*o.step.left<=n:=by show 2*(o.left-1)<=n;omega
 obtain⟨N,V⟩: ∃N,(xs).length=N:=⟨_,rfl⟩
 rw[V]at G⊢;have ay: ∀R:Int,IntKind.i32.wrap R=m9 R:=λ_=>rfl;have A:=O (kd ah af G #[.int i64 5,.string (J op),.string (J nm),.string (J tx),.int i64 v,.slice X N c]);have M:=O (fY A.out.ma ac);have al:=O (show ev C (n+1) o l (.mk 5 op nm tx v xs)=qd C n o.step l nm xs by rw[Gv ac];rfl);unfold xE at K;rw[V]at K;have an:=O K;clear ah af G V K;generalize ad:qd C n o.step l nm xs=ar at*;simp only[MX.p]at*;go_enter func164,ntmps164;rcases ar with ax|⟨R,s1⟩
 ·go_wp2_with (first|(go_at_call 162;refine M.out.mono ?_;rintro e ap ⟨rfl,a,w⟩;have j:=O (A.out.nx a w);have aq:=j.out.bk.cell;clear a w M A)|(go_at_call 187;refine(an.out o.step l ai I _ X c j.out.ma j.out.fi ab j.out.re).mono ?_;rw[ad];intro e ao z;obtain⟨a,rfl,ae⟩:=z.err_;have au:=O (j.out.mv.trans a);have av:=O ae;clear a ae z));exact⟨rfl,dK au.out al.out rfl av.out⟩
 ·go_wp2_with (first|(go_at_call 162;refine M.out.mono ?_;rintro e ap ⟨rfl,a,w⟩;have j:=O (A.out.nx a w);have aq:=j.out.bk.cell;clear a w M A)|(go_at_call 187;refine(an.out o.step l ai I _ X c j.out.ma j.out.fi ab j.out.re).mono ?_;rw[ad];intro e ao z;obtain⟨a,rfl,ag⟩:=z.ok_;have ak:=O (j.out.nx a ag);clear a ag z));go_ret;exact fh ak.out.mv al.out ak.out.ma
theorem Dq (bf:MX) (C:Cx) (n:Nat) (op nm tx:List UInt8) (v:Int) (y aq:Ex) (aR:List Ex) (bh:oQ bf C n y) (bg:oQ bf C n aq):wj bf C n (.mk 7 op nm tx v (y::aq::aR)):=by
 intro al l ak aj bF bD c bd bc bj bK aQ;simp only[Ex.k,Ex.op,Ex.nm,Ex.tx,Ex.v,Ex.args]at aQ⊢;have ax:2*al.step.left<=n:=by show 2*(al.left-1)<=n;omega
 obtain⟨N,aZ⟩: ∃N,(y::aq::aR).length=N:=⟨_,rfl⟩
 rw[aZ]at aQ⊢;have bJ: ∀aq:Int,IntKind.i32.wrap aq=m9 aq:=λ_=>rfl;have ac:=O (kd bd bc aQ #[.int i64 7,.string (J op),.string (J nm),.string (J tx),.int i64 v,.slice bD N c]);have ad:=O (fY ac.out.ma bj);have z:=Gt (C:=C) (n:=n) (l:=l) (op:=op) (nm:=nm) (tx:=tx) (v:=v) (a:=y::aq::aR) bj;rw[show(y::aq::aR).getD 0 pj=y from rfl,show(y::aq::aR).getD 1 pj=aq from rfl]at z;have bi:lH al.step:=λx=>bd.rng x;have bb:=bc.fr.rng
 have bC:=O (fun(ao:Int) (an:Ms) (ai:ev C n al.step l y=.ok (ao,an))=>show lH an by
  have:=(vX C n).1 al.step l y bi bb;rw[ai]at this
  exact this.2)
 obtain⟨bP,bH,aN,aI,a1,bw,bA,aU,aX⟩:=aQ.yc 1 Qd;obtain⟨b,bI,B,d,bn,af,ag,aW,aY⟩:=aQ.yc 0 Qd;rw[bn]at a1;injection a1 with a1;injection a1 with a6 a5;subst a6 a5;subst bn;have bO:0<N:=by rw[<-aZ];simp
 have bN:(0:Int)<(N:Int):=Qa
 have bM:1<N:=by rw[<-aZ];simp
 have bL:(1:Int)<(N:Int):=Qa
 simp only[aK,aV,bp,cL,bE]at aW aY aU aX;obtain⟨bv,bt,bu,br,bq,bB⟩:=y;obtain⟨a9,a7,a8,a4,a3,be⟩:=aq;have ap:=O bh;have aE:=O bg;unfold oQ at ap aE;simp only[Ex.k,Ex.op,Ex.nm,Ex.tx,Ex.v,Ex.args]at aW aY ap aU aX aE;have ay:=O aW;have aA:=O aY;have aD:=O aU;have aL:=O aX;clear bd bc aQ aZ aW aY bh aU aX bg bw bA;have az:True:=trivial;have aJ:True:=trivial;have bo:=O (λc W=>nU c W);simp only[MX.p]at*;rcases kv (ev C n al.step l (Ex.mk bv bt bu br bq bB))with⟨ao,an,ai⟩|⟨oc,ai⟩
 ·rw[ai,gh]at z;have bm:=oq ai bi bb;have aH:2*an.left<=n:=by have:=ph ai;omega
  by_cases K:op=[38,38]
  ·subst K;have aG:p5 [38,38]=true:=Qc
   have aP:vT [38,38]=false:=Qc
   by_cases ha0:ao=0
   ·subst ha0;rw[if_pos ⟨aG,rfl⟩]at z;have ah:=O z;clear z;go_enter func164,ntmps164;go_wp2_with (first|(go_at_call 162;refine ad.out.mono ?_;rintro e aC ⟨rfl,a,K⟩;have o:=O (ac.out.nx a K);have G:=o.out.bk.cell;obtain⟨ab,I,X,V,R,M⟩:=ay.out.ms o.out.mv ag af;clear a K ad ac)|(go_at_call 164;clear az;refine(ap.out al.step l ak aj _ B d o.out.ma o.out.fi ax (aA.out.ms o.out.mv)).mono ?_;intro e aB j;rw[ai]at j;obtain⟨a,rfl,A⟩:=j.ok_;have w:=O (o.out.nx a A);clear G;have G:=w.out.bk.cell;clear ab I X V R M;obtain⟨ab,I,X,V,R,M⟩:=aD.out.ms w.out.mv ag af;clear a A j));go_ret;exact fh w.out.mv ah.out w.out.ma
   ·have bz:(ao==0)=false:=by simpa using ha0
    have bx:(ao !=0)=true:=by simpa using ha0
    rw[if_neg (λj=>ha0 j.2),if_neg (by rw[aP];simp)]at z;rcases kv (ev C n an l (Ex.mk a9 a7 a8 a4 a3 be))with⟨aT,aS,ae⟩|⟨oc,ae⟩
    ·rw[ae,gh]at z;rw[if_pos Qc]at z;have ah:=O z;clear z;go_enter func164,ntmps164;go_wp2_with (first|(go_at_call 162;refine ad.out.mono ?_;rintro e aC ⟨rfl,a,K⟩;have o:=O (ac.out.nx a K);have G:=o.out.bk.cell;obtain⟨ab,I,X,V,R,M⟩:=ay.out.ms o.out.mv ag af;clear a K ad ac)|(go_at_call 164;clear az;refine(ap.out al.step l ak aj _ B d o.out.ma o.out.fi ax (aA.out.ms o.out.mv)).mono ?_;intro e aB j;rw[ai]at j;obtain⟨a,rfl,A⟩:=j.ok_;have w:=O (o.out.nx a A);clear G;have G:=w.out.bk.cell;clear ab I X V R M;obtain⟨ab,I,X,V,R,M⟩:=aD.out.ms w.out.mv ag af;clear a A j)|(go_at_call 164;clear aJ;refine(aE.out an l ak aj _ aN aI w.out.ma w.out.fi aH (aL.out.ms w.out.mv)).mono ?_;intro e aO j;rw[ae]at j;obtain⟨a,rfl,A⟩:=j.ok_;have aw:=O (w.out.nx a A);clear G;have G:=aw.out.bk.cell;clear ab I X V R M;clear a A j)|(go_at_call 188;refine(bo.out _ _).mono ?_;rintro e a2 ⟨rfl,au⟩;have av:=O (aw.out.ext au);clear au));go_ret;exact fh av.out.mv ah.out av.out.ma
    ·rw[ae,fj]at z;have ah:=O z;clear z;go_enter func164,ntmps164;go_wp2_with (first|(go_at_call 162;refine ad.out.mono ?_;rintro e aC ⟨rfl,a,K⟩;have o:=O (ac.out.nx a K);have G:=o.out.bk.cell;obtain⟨ab,I,X,V,R,M⟩:=ay.out.ms o.out.mv ag af;clear a K ad ac)|(go_at_call 164;clear az;refine(ap.out al.step l ak aj _ B d o.out.ma o.out.fi ax (aA.out.ms o.out.mv)).mono ?_;intro e aB j;rw[ai]at j;obtain⟨a,rfl,A⟩:=j.ok_;have w:=O (o.out.nx a A);clear G;have G:=w.out.bk.cell;clear ab I X V R M;obtain⟨ab,I,X,V,R,M⟩:=aD.out.ms w.out.mv ag af;clear a A j)|(go_at_call 164;clear aJ;refine(aE.out an l ak aj _ aN aI w.out.ma w.out.fi aH (aL.out.ms w.out.mv)).mono ?_;intro e aO j;rw[ae]at j;obtain⟨a,rfl,ar⟩:=j.err_;have aM:=O (w.out.mv.trans a);have aF:=O ar;clear a ar j));exact⟨rfl,dK aM.out ah.out rfl aF.out⟩
  by_cases hO1:op=[124,124]
  ·subst hO1;have aG:p5 [124,124]=false:=Qc
   have aP:vT [124,124]=true:=Qc
   by_cases ha0:ao=0
   ·subst ha0;rw[if_neg (by rw[aG];simp),if_neg (λj=>j.2 rfl)]at z;rcases kv (ev C n an l (Ex.mk a9 a7 a8 a4 a3 be))with⟨aT,aS,ae⟩|⟨oc,ae⟩
    ·rw[ae,gh]at z;rw[if_pos Qc]at z;have ah:=O z;clear z;go_enter func164,ntmps164;go_wp2_with (first|(go_at_call 162;refine ad.out.mono ?_;rintro e aC ⟨rfl,a,K⟩;have o:=O (ac.out.nx a K);have G:=o.out.bk.cell;obtain⟨ab,I,X,V,R,M⟩:=ay.out.ms o.out.mv ag af;clear a K ad ac)|(go_at_call 164;clear az;refine(ap.out al.step l ak aj _ B d o.out.ma o.out.fi ax (aA.out.ms o.out.mv)).mono ?_;intro e aB j;rw[ai]at j;obtain⟨a,rfl,A⟩:=j.ok_;have w:=O (o.out.nx a A);clear G;have G:=w.out.bk.cell;clear ab I X V R M;obtain⟨ab,I,X,V,R,M⟩:=aD.out.ms w.out.mv ag af;clear a A j)|(go_at_call 164;clear aJ;refine(aE.out an l ak aj _ aN aI w.out.ma w.out.fi aH (aL.out.ms w.out.mv)).mono ?_;intro e aO j;rw[ae]at j;obtain⟨a,rfl,A⟩:=j.ok_;have aw:=O (w.out.nx a A);clear G;have G:=aw.out.bk.cell;clear ab I X V R M;clear a A j)|(go_at_call 188;refine(bo.out _ _).mono ?_;rintro e a2 ⟨rfl,au⟩;have av:=O (aw.out.ext au);clear au));go_ret;exact fh av.out.mv ah.out av.out.ma
    ·rw[ae,fj]at z;have ah:=O z;clear z;go_enter func164,ntmps164;go_wp2_with (first|(go_at_call 162;refine ad.out.mono ?_;rintro e aC ⟨rfl,a,K⟩;have o:=O (ac.out.nx a K);have G:=o.out.bk.cell;obtain⟨ab,I,X,V,R,M⟩:=ay.out.ms o.out.mv ag af;clear a K ad ac)|(go_at_call 164;clear az;refine(ap.out al.step l ak aj _ B d o.out.ma o.out.fi ax (aA.out.ms o.out.mv)).mono ?_;intro e aB j;rw[ai]at j;obtain⟨a,rfl,A⟩:=j.ok_;have w:=O (o.out.nx a A);clear G;have G:=w.out.bk.cell;clear ab I X V R M;obtain⟨ab,I,X,V,R,M⟩:=aD.out.ms w.out.mv ag af;clear a A j)|(go_at_call 164;clear aJ;refine(aE.out an l ak aj _ aN aI w.out.ma w.out.fi aH (aL.out.ms w.out.mv)).mono ?_;intro e aO j;rw[ae]at j;obtain⟨a,rfl,ar⟩:=j.err_;have aM:=O (w.out.mv.trans a);have aF:=O ar;clear a ar j));exact⟨rfl,dK aM.out ah.out rfl aF.out⟩
   ·have bz:(ao==0)=false:=by simpa using ha0
    have bx:(ao !=0)=true:=by simpa using ha0
    rw[if_neg (by rw[aG];simp),if_pos ⟨aP,ha0⟩]at z;have ah:=O z;clear z;go_enter func164,ntmps164;go_wp2_with (first|(go_at_call 162;refine ad.out.mono ?_;rintro e aC ⟨rfl,a,K⟩;have o:=O (ac.out.nx a K);have G:=o.out.bk.cell;obtain⟨ab,I,X,V,R,M⟩:=ay.out.ms o.out.mv ag af;clear a K ad ac)|(go_at_call 164;clear az;refine(ap.out al.step l ak aj _ B d o.out.ma o.out.fi ax (aA.out.ms o.out.mv)).mono ?_;intro e aB j;rw[ai]at j;obtain⟨a,rfl,A⟩:=j.ok_;have w:=O (o.out.nx a A);clear G;have G:=w.out.bk.cell;clear ab I X V R M;obtain⟨ab,I,X,V,R,M⟩:=aD.out.ms w.out.mv ag af;clear a A j));go_ret;exact fh w.out.mv ah.out w.out.ma
  have a6:=Ql.2 K;have a5:=Ql.2 hO1;have aG:p5 op=false:=a6;have aP:vT op=false:=a5;rw[if_neg (by rw[aG];simp),if_neg (by rw[aP];simp)]at z;rcases kv (ev C n an l (Ex.mk a9 a7 a8 a4 a3 be))with⟨aT,aS,ae⟩|⟨oc,ae⟩
  ·rw[ae,gh]at z;rw[if_neg (by rw[aG,aP];decide)]at z;have bl:=oq ae (bC.out ao an ai) bb
   cases hbn:kA op ao aT aS with
   |ok p=>
    obtain⟨r,bG⟩:=p;have ba:=D6 hbn;rw[ba]at hbn;rw[hbn]at z;have ah:=O z;clear z;go_enter func164,ntmps164;go_wp2_with (first|(go_at_call 162;refine ad.out.mono ?_;rintro e aC ⟨rfl,a,K⟩;have o:=O (ac.out.nx a K);have G:=o.out.bk.cell;obtain⟨ab,I,X,V,R,M⟩:=ay.out.ms o.out.mv ag af;clear a K ad ac)|(go_at_call 164;clear az;refine(ap.out al.step l ak aj _ B d o.out.ma o.out.fi ax (aA.out.ms o.out.mv)).mono ?_;intro e aB j;rw[ai]at j;obtain⟨a,rfl,A⟩:=j.ok_;have w:=O (o.out.nx a A);clear G;have G:=w.out.bk.cell;clear ab I X V R M;obtain⟨ab,I,X,V,R,M⟩:=aD.out.ms w.out.mv ag af;clear a A j)|(go_at_call 164;clear aJ;refine(aE.out an l ak aj _ aN aI w.out.ma w.out.fi aH (aL.out.ms w.out.mv)).mono ?_;intro e aO j;rw[ae]at j;obtain⟨a,rfl,A⟩:=j.ok_;have aw:=O (w.out.nx a A);clear G;have G:=aw.out.bk.cell;clear ab I X V R M;clear a A j)|(go_at_call 189;refine(qh op ao aT bm bl aS _).mono ?_;rw[hbn];unfold v8;rintro e a2 ⟨rfl,au⟩;have av:=O (aw.out.ext au);clear au));go_ret;exact fh av.out.mv ah.out av.out.ma
   |error oc=>
    have ba:=BW hbn;rw[ba]at hbn;rw[hbn]at z;have ah:=O z;clear z;go_enter func164,ntmps164;go_wp2_with (first|(go_at_call 162;refine ad.out.mono ?_;rintro e aC ⟨rfl,a,K⟩;have o:=O (ac.out.nx a K);have G:=o.out.bk.cell;obtain⟨ab,I,X,V,R,M⟩:=ay.out.ms o.out.mv ag af;clear a K ad ac)|(go_at_call 164;clear az;refine(ap.out al.step l ak aj _ B d o.out.ma o.out.fi ax (aA.out.ms o.out.mv)).mono ?_;intro e aB j;rw[ai]at j;obtain⟨a,rfl,A⟩:=j.ok_;have w:=O (o.out.nx a A);clear G;have G:=w.out.bk.cell;clear ab I X V R M;obtain⟨ab,I,X,V,R,M⟩:=aD.out.ms w.out.mv ag af;clear a A j)|(go_at_call 164;clear aJ;refine(aE.out an l ak aj _ aN aI w.out.ma w.out.fi aH (aL.out.ms w.out.mv)).mono ?_;intro e aO j;rw[ae]at j;obtain⟨a,rfl,A⟩:=j.ok_;have aw:=O (w.out.nx a A);clear G;have G:=aw.out.bk.cell;clear ab I X V R M;clear a A j)|(go_at_call 189;refine(qh op ao aT bm bl aS _).mono ?_;rw[hbn];unfold v8 jT;rintro e a2 ⟨rfl,au⟩;have av:=O (aw.out.ext au);have aF:=O (av.out.ma.halt 2);clear au));exact⟨rfl,dK av.out.mv ah.out rfl aF.out⟩
  ·rw[ae,fj]at z;have ah:=O z;clear z;go_enter func164,ntmps164;go_wp2_with (first|(go_at_call 162;refine ad.out.mono ?_;rintro e aC ⟨rfl,a,K⟩;have o:=O (ac.out.nx a K);have G:=o.out.bk.cell;obtain⟨ab,I,X,V,R,M⟩:=ay.out.ms o.out.mv ag af;clear a K ad ac)|(go_at_call 164;clear az;refine(ap.out al.step l ak aj _ B d o.out.ma o.out.fi ax (aA.out.ms o.out.mv)).mono ?_;intro e aB j;rw[ai]at j;obtain⟨a,rfl,A⟩:=j.ok_;have w:=O (o.out.nx a A);clear G;have G:=w.out.bk.cell;clear ab I X V R M;obtain⟨ab,I,X,V,R,M⟩:=aD.out.ms w.out.mv ag af;clear a A j)|(go_at_call 164;clear aJ;refine(aE.out an l ak aj _ aN aI w.out.ma w.out.fi aH (aL.out.ms w.out.mv)).mono ?_;intro e aO j;rw[ae]at j;obtain⟨a,rfl,ar⟩:=j.err_;have aM:=O (w.out.mv.trans a);have aF:=O ar;clear a ar j));exact⟨rfl,dK aM.out ah.out rfl aF.out⟩
 ·rw[ai,fj]at z;have ah:=O z;clear z;go_enter func164,ntmps164;go_wp2_with (first|(go_at_call 162;refine ad.out.mono ?_;rintro e aC ⟨rfl,a,K⟩;have o:=O (ac.out.nx a K);have G:=o.out.bk.cell;obtain⟨ab,I,X,V,R,M⟩:=ay.out.ms o.out.mv ag af;clear a K ad ac)|(go_at_call 164;clear az;refine(ap.out al.step l ak aj _ B d o.out.ma o.out.fi ax (aA.out.ms o.out.mv)).mono ?_;intro e aB j;rw[ai]at j;obtain⟨a,rfl,ar⟩:=j.err_;have aM:=O (o.out.mv.trans a);have aF:=O ar;clear a ar j));exact⟨rfl,dK aM.out ah.out rfl aF.out⟩
theorem uC {P:Program} {a:World} {h:Oper} {z:Act} {O:Act->World->Prop} {Q:Exit->Act->World->Prop} {t e:TypeId} (ae:qt P t e) (s x:Operand)
  (I:h.op=.call {callee:=.builtin .append,args:= #[s,x],argTypes:= #[t,t]}) (V:z.eval s=.slice none 0 0)
  (G:Option Addr) (A:Nat) (m:List UInt8) {n:Nat} (ab:m.length=n) (R:z.eval x=.slice G n A) (X:Sl a G A m) (ad:n<=70368744177664)
  (ah: ∀w cap' w',Sl w' w cap' m->az a w'->(∀b h,w=some ⟨b,h,none⟩->a.heap.size<=b)->O (z.put h.dst (.slice w n cap')) w'):h.wp P z a O Q:=by
 subst ab;obtain⟨w,cap',w',K,M,o,j⟩:=oF (P:=P) ae h.type a.heap.size (.slice none 0 0) [] (qp.nil_ a _ e) G A m X (by simpa using ad) (ak _);simp only[ai,aG,aP]at K M j;have af:az a w':=⟨o.os,o.tape,o.output,o.size,λk ac=>o.block k ac (by simp[Value.ownBlock])⟩
 unfold Oper.wp execOp;simp only[I,resolve,invoke,builtin,Sem.run_bind,Sem.run_pure,Result.andThen_ok,dQ,bF,cY,V,R,K];refine ah w cap' w' M.sl.2 af λb h ag=> ?_;subst ag;rcases j with j|j
 ·simp[Value.ownBlock]at j
 ·simp only[Value.ownBlock]at j;have:b=a.heap.size:=by simpa using j
  omega
def Io (g used:Nat) (w:World):Prop:= ∃v0 v1 v2 v3 v4 v5 c0 c1 c2 c3 c4,aU w g 127 #[v0,v1,v2,v3,v4,v5,.int i64 0,c0,c1,c2,c3,c4,.int i64 (used:Int)]
def UG (g used:Nat) (a c:World):Prop:=a.grownBy c (some g)/\(Io g used a->Io g used c)
theorem UG.refl (g used:Nat) (a:World):UG g used a a:=⟨World.grownBy.refl _ _,id⟩
theorem UG.trans {g used:Nat} {h b c:World} (a:UG g used h b) (k:UG g used b c):UG g used h c:=⟨ap a.1 k.1,λx=>k.2 (a.2 x)⟩
theorem UG.of_ext {g used:Nat} {h c:World} (a:az h c):UG g used h c:=⟨a.grownBy _,fun⟨G,A,z,w,o,j,V,R,O,M,K,q⟩=>⟨G,A,z,w,o,j,V,R,O,M,K,q.ext a⟩⟩
structure FF (X:MX) (C:Cx) (σ:Ms) (w:World) (cs rs:Array Value) (W:World):Prop where
 e:az w W
 ma:MA X C σ W
 b6:aU W w.heap.size 39 cs
 b8:aU W (w.heap.size+1) 80 rs
theorem FF.new {A:MX} {C:Cx} {w:Ms} {a:World} (G:MA A C w a) (h j:Array Value):FF A C w a h j ((a.alloc (.cells h 39)).alloc (.cells j 80)):=by
 have z:=Z a (.cells h 39);have o:=Z (a.alloc (.cells h 39)) (.cells j 80);have b:=aw (a.alloc (.cells h 39)) 80 j;rw[World.size_alloc]at b;exact⟨z.trans o,G.ext (z.trans o),(aw a _ _).ext o,b⟩
theorem FF.ext {A:MX} {C:Cx} {j:Ms} {o W G:World} {z w:Array Value} (h:FF A C j o z w W) (a:az W G):FF A C j o z w G:=⟨h.e.trans a,h.ma.ext a,h.b6.ext a,h.b8.ext a⟩
theorem Cz {h:MX} {C:Cx} {j w':World} {r:ER (Int×List UInt8)} {a:Oc} {k:Int} (w:j.grownBy w' (some h.g)) (A:r=.error a) (o:a.kind=k) (z:iU h a w'):D' h C j r (.panicked [{v:=.iface 129 (.agg #[.int i64 k]),recovered:=false}]) w':=by
 subst A;subst o;exact⟨w,rfl,z⟩
theorem yH {a b c:World} {g:Nat} (h:az a b) (k:b.grownBy c (some g)):a.grownBy c (some g):=ap (h.grownBy _) k
theorem Bg {h:MX} {a:World} {o a0 z w:Int} {d:List UInt8} {used n c:Nat} {j:Option Addr} {R O M K G A:Value} (I:d.length=n) (ab:aU a h.g 127 #[R,O,M,K,G,A,.int i64 0,.int i64 o,.int i64 a0,.int i64 z,.int i64 w,.slice j n c,.int i64 (used:Int)]) (V:Sl a j c d) (X: ∀b i,j=some ⟨b,i,none⟩->h.hi<=b):iU h ⟨1,o,a0,z,w,d,used⟩ a:=by
 subst I;exact⟨_,_,_,_,_,_,_,_,ab,V,λb i e _=>X b i e⟩
theorem AK (a:MX) (C:Cx) (K:Ms) (ac:World) (I:MA a C K ac) (z a0 G A:Int) (d:List UInt8) (av:Option Addr) (c:Nat) (a1:Sl ac av c d) (bI:d.length<=1073741824) (aX: ∀b V,av=some ⟨b,V,none⟩->d≠ []->b≠a.g) (aD:K.used=C.R.length):
  Calls prog 49 #[a.p,.int i64 z,.agg #[.int i64 a0,.int i64 G,.int i64 A],.slice av d.length c] ac (D' a C ac (gZ C.R K z a0 G A d)):=by
 have bx:=O (show gZ C.R K z a0 G A d=.error ⟨1,z,a0,G,A,d,K.used⟩ by unfold gZ;rw[aD,lu (ak _)]);have bk:a.g<ac.heap.size:=aF I.ok.g.2 I.top;have aP:=O (aE I.ok.g.2 I.top);have aq:=O (FF.new I #[.int i64 a0,.int i64 G,.int i64 A] #[.int i64 0,.slice none 0 0]);obtain⟨lf,_,_,_,aH⟩:=aq.out.ma.mcl;obtain⟨bT,bD,aW,_⟩:=I.r;simp only[eo,aW]at aH;have ar:=O aH;have ba:=O (a1.ext aq.out.e);have bz:=O aX;obtain⟨n,aI⟩: ∃n,d.length=n:=⟨_,rfl⟩
 have aR:=O aI;rw[aI];obtain⟨bq,a2⟩: ∃n,C.R.length=n:=⟨_,rfl⟩
 rw[a2]at ar aD;have bH:((K.used:Int)==(bq:Int))=true:=by rw[aD];simp
 clear I aH a1 aW aX a2 aI;simp only[MX.p]at*;generalize gZ C.R K z a0 G A d=bS at*;go_enter func49,ntmps49;go_wp2_with fail;refine aB 11 1 [] mixed Qb trivial ?_;repeat (refine sx ?_ (λbf M=> ?_) ?_;rotate_left;(focus have bN:=(ar.out.ext M.un).cell;clear M;go_simp<;>with_reducible rfl);simp only[a8,a7,a6,aZ,aY])
 intro aS aj _;simp only[ae,aQ];have ah:=O (aq.out.ext aj.un);have a5:=O (ar.out.ext aj.un);have a9:=O (ba.out.ext aj.un);have bG:=aF bk ah.out.e.size;clear aj aq ar ba;go_wp2_with fail;have bu:=O (show some ac.heap.size≠some a.g from λe=>by injection e with e;omega);refine cU (UG a.g K.used) (UG.refl _ _) (λ_ _ _=>UG.trans) 7 6 [(6,λv=> ∃o w,v=.slice o n w,λv W=> ∃o w,v=.slice o n w/\Sl W o w d/\ ∀b V,o=some ⟨b,V,none⟩->a.hi<=b)] [1,2,4] mixed Qb Qb Qb Qe
  ⟨λv W bR ⟨o,w,e,aG,X⟩ M=>⟨o,w,e,aG.keepP (P:=λb=>a.hi<=b) (.of_grown M.1 (λb X e=>by injection e with e;have:=aP.out;omega)) (λb V ha _=>X b V ha),X⟩,trivial⟩ ?_
 repeat (first|(refine bQ Qe ?_;simp only[a8,a7,a6,aZ,aY])|(refine sx ?_ (λbf M=> ?_) ?_;rotate_left;(focus have bO:=(ah.out.b6.grown (aJ M.1) bu.out).cell;clear M;go_simp<;>with_reducible rfl);simp only[a8,a7,a6,aZ,aY]))
 refine bg _ _ Qe rfl ⟨_,none,0,rfl⟩ Qd (λbC M al ad j=> ?_) ?_
 ·clear al;have bF:=M.1.size;refine uC bt _ _ rfl rfl av c d aR.out rfl (a9.out.keepP (P:=λb=>b≠a.g) (.of_grown (aJ M.1) (λb X e=>X (by injection e))) bz.out) (by have:=aR.out;omega) λo w bB aG bl X=> ?_;exact j _ _ (UG.of_ext bl) ⟨o,w,rfl⟩ ⟨o,w,rfl,aG,λb V ha=>by have bM:=X b V ha;have bL:aS.drew.heap.size=aS.heap.size:=rfl;have bK:=aP.out.2;have bJ:=ah.out.e.size;omega⟩
 rintro _ ⟨o,w,rfl⟩;simp only[a8,a7,a6,aZ,aY];intro ab ai al;obtain⟨bU,bP,aM,aV,aK⟩:=al _ (.head _);injection aM with aM _ bp;subst aM bp;clear al;obtain⟨aC,aA,az,ay,ax,aw,bE,bj,bi,bh,aT,J⟩:=ai.2 ⟨_,_,_,_,_,_,_,_,_,_,_,a5.out.drew⟩;have af:aU (ab.setCell ⟨a.g,7,none⟩ (.int i64 z)) a.g 127 #[aC,aA,az,ay,ax,aw,.int i64 0,.int i64 z,bj,bi,bh,aT,.int i64 (K.used:Int)]:=by simpa using J.set 7 (.int i64 z)
 have ag:aU (((((ab.setCell ⟨a.g,7,none⟩ (.int i64 z)).setCell ⟨a.g,8,none⟩ (.int i64 a0)).setCell ⟨a.g,9,none⟩ (.int i64 G)).setCell ⟨a.g,10,none⟩ (.int i64 A))) a.g 127 #[aC,aA,az,ay,ax,aw,.int i64 0,.int i64 z,.int i64 a0,.int i64 G,.int i64 A,aT,.int i64 (K.used:Int)]:=by simpa using((af.set 8 (.int i64 a0)).set 9 (.int i64 G)).set 10 (.int i64 A)
 have aL:aU ((((((ab.setCell ⟨a.g,7,none⟩ (.int i64 z)).setCell ⟨a.g,8,none⟩ (.int i64 a0)).setCell ⟨a.g,9,none⟩ (.int i64 G)).setCell ⟨a.g,10,none⟩ (.int i64 A))).setCell ⟨a.g,11,none⟩ (.slice o n w)) a.g 127 #[aC,aA,az,ay,ax,aw,.int i64 0,.int i64 z,.int i64 a0,.int i64 G,.int i64 A,.slice o n w,.int i64 (K.used:Int)]:=by simpa using ag.set 11 (.slice o n w)
 have a3:=O ai;have an:=O (UG.trans ai ⟨cH ab a.g 7 (.int i64 z),λ_=>⟨_,_,_,_,_,_,_,_,_,_,_,af⟩⟩);have ao:=O (UG.trans an.out ⟨ap (ap (cH _ a.g 8 (.int i64 a0)) (cH _ a.g 9 (.int i64 G))) (cH _ a.g 10 (.int i64 A)),λ_=>⟨_,_,_,_,_,_,_,_,_,_,_,ag⟩⟩);have aO:=O (UG.trans ao.out ⟨cH _ a.g 11 (.slice o n w),λ_=>⟨_,_,_,_,_,_,_,_,_,_,_,aL⟩⟩);have bn:=J.cell;have bd:=J.frozen;have bm:=af.cell;have bc:=af.frozen;have bo:=ag.cell;have be:=ag.frozen;have bb:=O aL;have br:=O aK;have a4:=O (aV.keepP (P:=λb=>a.hi<=b) (cR.of_grown (ap (ap (ap (ap (cH ab a.g 7 (.int i64 z)) (cH _ a.g 8 (.int i64 a0))) (cH _ a.g 9 (.int i64 G))) (cH _ a.g 10 (.int i64 A))) (cH _ a.g 11 (.slice o n w))) (λb X e=>by injection e with e;have:=aP.out;omega)) (λb V ha _=>aK b V ha));clear ai J af ag aL aV aK a5;simp only[ae,au]
 iterate 3 (refine aN Qe Qd (λad j=> ?_);go_simp;refine j _ _ a3.out ?_;clear j)
 refine aN Qe Qd (λad j=> ?_);go_simp;refine j _ _ an.out ?_;clear j
 iterate 3 (refine aN Qe Qd (λad j=> ?_);go_simp;refine j _ _ an.out ?_;clear j)
 refine aN Qe Qd (λad j=> ?_);go_simp;refine j _ _ ao.out ?_;clear j
 iterate 3 (refine aN Qe Qd (λad j=> ?_);go_simp;refine j _ _ ao.out ?_;clear j)
 refine aN Qe Qd (λad j=> ?_);go_simp;refine j _ _ aO.out ?_;clear j;refine cz ?_;have bw:=O (Bg aR.out bb.out a4.out br.out);have bv:=O (yH ah.out.e (aJ aO.out.1));clear bn bd bm bc bo be a3 an ao aO bb a4 ah a9;generalize ((((((ab.setCell ⟨a.g,7,none⟩ (.int i64 z)).setCell ⟨a.g,8,none⟩ (.int i64 a0)).setCell ⟨a.g,9,none⟩ (.int i64 G)).setCell ⟨a.g,10,none⟩ (.int i64 A))).setCell ⟨a.g,11,none⟩ (.slice o n w))=bA at*;go_wp2_with fail;exact⟨rfl,Cz bv.out bx.out rfl bw.out⟩
theorem EK {h:MX} {C:Cx} {w w':World} {r:ER (Int×List UInt8)} {v:Int} {l:List UInt8} {o:Ms} {a:Option Addr} {n j:Nat} (R:r=.ok ((v,l),o)) (G:l.length=n) (M:w.grownBy w' (some h.g)) (O:MA h C o w') (A:Sl w' a j l) (K: ∀b z,a=some ⟨b,z,none⟩->l≠ []->h.P b):D' h C w r (.returned (.agg #[.int i64 v,.slice a n j])) w':=by
 subst R;subst G;exact⟨M,O,a,j,rfl,A,K⟩
def Iu (n0:Nat) (v:Value) (w:World):Prop:= ∃gb,v=.pointer (some ⟨gb,0,none⟩)/\n0<=gb/\aU w gb 80 #[.int i64 0,.slice none 0 0]
theorem Dh (o:MX) (C:Cx) (a:Ms) (j:World) (I:MA o C a j) (ax a0 ah ag:Int) (d:List UInt8) (bS:Option Addr) (n c:Nat) (X:a.used<C.R.length):
  Calls prog 49 #[o.p,.int i64 ax,.agg #[.int i64 a0,.int i64 ah,.int i64 ag],.slice bS n c] j (D' o C j (gZ C.R a ax a0 ah ag d)):=by
 have b5:o.g<j.heap.size:=aF I.ok.g.2 I.top;have aV:=O (FF.new I #[.int i64 a0,.int i64 ah,.int i64 ag] #[.int i64 0,.slice none 0 0]);obtain⟨lf,bc,bb,ba,aK⟩:=aV.out.ma.mcl;have aX:=O (aE bc (aE bb ba));obtain⟨ce,bV,aH,bd⟩:=I.r;simp only[eo,aH]at aK;have ay:=O aK;have bM:=O aH;have bL:=O X;obtain⟨bC,bB,b,a5,rfl,b7,aq,av,aP,be⟩:=bd.resolve_left (λe=>by rw[e]at X;simp at X);obtain⟨z,bz,bj,aA,ak,aj,ai⟩: ∃(a4:Int) (al:List UInt8),gZ C.R a ax a0 ah ag d=.ok ((a4,al),{a with used:=a.used+1})/\j.cell? ⟨b,a5+a.used*2,none⟩=some (.int i64 a4)/\j.cell? ⟨b,a5+a.used*2+1,none⟩=some (.slice (av a.used) al.length (aP a.used))/\Sl j (av a.used) (aP a.used) al/\(∀bl bA,av a.used=some ⟨bl,bA,none⟩->al≠ []->o.P bl):=by
  obtain⟨aA,ak,aj,ai⟩:=be a.used X;exact⟨_,_,(by unfold gZ;rw[aO X]),aA,ak,aj,ai⟩
 have bQ:=O bj;have bK:=O aj;have bn:=O ai;obtain⟨bm,aL⟩: ∃n,C.R.length=n:=⟨_,rfl⟩
 have bN:=O aL;rw[aL]at ay X bC;have b4:((a.used:Int)==(bm:Int))=false:=Qh
 have b1:(a.used:Int)<(bm:Int):=Qa
 have b0:IntKind.i64.wrap ((a.used:Int)+1)=(a.used:Int)+1:=by unfold maxLen at bB;simp[IntKind.wrap,IntKind.signed,IntKind.bits];omega
 obtain⟨A,aI⟩: ∃n,bz.length=n:=⟨_,rfl⟩
 rw[aI]at ak;have bO:=O aI;generalize av a.used=K at*;generalize aP a.used=G at*;have a1:=O I;clear I aK aH aj ai be bd bj aI aL bc bb ba;simp only[MX.p]at*;generalize gZ C.R a ax a0 ah ag d=cd at*;go_enter func49,ntmps49;go_wp2_with fail;refine aB 11 1 [] mixed Qb trivial ?_;repeat (refine sx ?_ (λbx M=> ?_) ?_;rotate_left;(focus have bk:=(ay.out.ext M.un).cell;clear M;go_simp<;>with_reducible rfl);simp only[a8,a7,a6,aZ,aY])
 intro bT aG _;simp only[ae,aQ];have V:=O (aV.out.ext aG.un);have aW:=O (ay.out.ext aG.un);clear aG aV ay;have aN:=(V.out.e.cell b _ aq).trans aA;have aM:=(V.out.e.cell b _ aq).trans ak;have bh:=aF aq V.out.e.size;have b2:=V.out.b8.lt;go_wp2_with fail;refine aB 12 6 [(11,λv=> ∃w,v=.pointer (some ⟨w,0,none⟩),Iu (j.heap.size+2))] mixed Qb ⟨λv W cc ⟨w,e,aJ,af⟩ bD=>⟨w,e,aJ,af.ext bD⟩,trivial⟩ ?_;repeat (refine sx ?_ (λbx M=> ?_) ?_;rotate_left;(focus have bk:=(aW.out.ext M.un).cell;have aN:=(M.un.cell b _ bh).trans aN;have aM:=(M.un.cell b _ bh).trans aM;clear M;go_simp<;>with_reducible rfl);simp only[a8,a7,a6,aZ,aY])
 refine bg _ _ Qe rfl ⟨_,0,rfl⟩ Qd (λa3 M an bJ ar=> ?_) ?_
 ·have bZ:=dz M.un;clear an M;go_simp;exact ar _ _ (Z a3 _) ⟨_,rfl⟩ ⟨_,rfl,by omega,aw a3 _ _⟩
 rintro _ ⟨w,rfl⟩;simp only[a8,a7,a6,aZ,aY];intro a2 J an;obtain⟨b9,e,b6,ao⟩:=an _ (.head _);injection e with e;injection e with e;injection e with e;subst e;clear an;simp only[ae,au];have bt:=O (V.out.e.trans J.un);have bp:=O (aW.out.ext J.un);have bv:=O (V.out.b8.ext J.un);clear J V aW aN aM;have bG:=ao.cell;have bF:=ao.frozen;have bu:=O ao;clear ao;refine wpList_plain rfl λbJ ar=> ?_;go_simp;refine ar _ _ ?_;clear ar bG bF;have aD:o.g≠w:=Qa
 have a9:j.heap.size+1≠w:=Qa
 have aC:j.heap.size+1≠o.g:=Qa
 have bY:o.g≠j.heap.size+1:=Qa
 have bi:aU ((a2.setCell ⟨w,0,none⟩ (.int i64 z)).setCell ⟨w,1,none⟩ (.slice K A G)) w 80 #[.int i64 z,.slice K A G]:=by simpa using(bu.out.set 0 (.int i64 z)).set 1 (.slice K A G)
 have br:=O ((bt.out.set (p:=⟨w,0,none⟩) (by show j.heap.size<=w;omega) (.int i64 z)).set (p:=⟨w,1,none⟩) (by show j.heap.size<=w;omega) (.slice K A G));have az:=O ((bp.out.far (p:=⟨w,0,none⟩) aD (.int i64 z)).far (p:=⟨w,1,none⟩) aD (.slice K A G));have aS:=O ((bv.out.far (p:=⟨w,0,none⟩) a9 (.int i64 z)).far (p:=⟨w,1,none⟩) a9 (.slice K A G));clear bt bp bv bu;generalize ((a2.setCell ⟨w,0,none⟩ (.int i64 z)).setCell ⟨w,1,none⟩ (.slice K A G))=ac at*;have bP:=O bi;clear bi;have bk:=az.out.cell;have cb:=az.out.frozen;have cf:=O (az.out.set 12 (.int i64 ((a.used:Int)+1)));have bR:=O ((a1.out.ext br.out).used1 (lf:=lf) (by have:=az.out;unfold eo;rw[bM.out];exact bN.out▸this) aX.out.1 aX.out.2.1 aX.out.2.2 bL.out);have ab:=O (ap (br.out.grownBy (some o.g)) (cH ac o.g 12 (.int i64 ((a.used:Int)+1))));have ca:=(bP.out.far (p:=⟨o.g,12,none⟩) (λe=>aD e.symm) (.int i64 ((a.used:Int)+1))).cell;have bX:=(aS.out.far (p:=⟨o.g,12,none⟩) aC (.int i64 ((a.used:Int)+1))).cell;have bU:=(aS.out.far (p:=⟨o.g,12,none⟩) aC (.int i64 ((a.used:Int)+1))).frozen;have aT:aU (((ac.setCell ⟨o.g,12,none⟩ (.int i64 ((a.used:Int)+1))).setCell ⟨j.heap.size+1,0,none⟩ (.int i64 z)).setCell ⟨j.heap.size+1,1,none⟩ (.slice K A G)) (j.heap.size+1) 80 #[.int i64 z,.slice K A G]:=by simpa using((aS.out.far (p:=⟨o.g,12,none⟩) aC (.int i64 ((a.used:Int)+1))).set 0 (.int i64 z)).set 1 (.slice K A G)
 have bq:=O (show Mv (λk=>k=j.heap.size+1) (ac.setCell ⟨o.g,12,none⟩ (.int i64 ((a.used:Int)+1))) (((ac.setCell ⟨o.g,12,none⟩ (.int i64 ((a.used:Int)+1))).setCell ⟨j.heap.size+1,0,none⟩ (.int i64 z)).setCell ⟨j.heap.size+1,1,none⟩ (.slice K A G))from((j6 (λk=>k=j.heap.size+1) _).set (p:=⟨j.heap.size+1,0,none⟩) (λ_=>rfl) _).set (p:=⟨j.heap.size+1,1,none⟩) (λ_=>rfl) _);have bo:=O aT;have bW:=aT.cell;clear aT;go_wp2_with fail;generalize (((ac.setCell ⟨o.g,12,none⟩ (.int i64 ((a.used:Int)+1))).setCell ⟨j.heap.size+1,0,none⟩ (.int i64 z)).setCell ⟨j.heap.size+1,1,none⟩ (.slice K A G))=bw at*;have bI:=bo.out.cell 0;have bH:=bo.out.cell 1;have ad:=bq.out;have bE:=bR.out.mv bq.out λk af e=>by have:=a1.out.top;omega
 refine bodyPost_ret (v:=.agg #[.int i64 z,.slice K A G]) (by simp[results,results49,go_sem,bI,bH]) rfl ?_;have bf:j.grownBy bw (some o.g):=⟨ad.os.trans ab.out.os,ad.tape.trans ab.out.tape,ad.output.trans ab.out.output,aR ab.out.size ad.size,λk af aJ=>(ad.block k (aF af ab.out.size) Qa).trans (ab.out.block k af aJ)⟩
 have b3:=a1.out.ok.g;exact EK bQ.out bO.out bf bE (bK.out.keepP (P:=o.P) (.of_grown bf λb aq e=>by injection e with e;subst e;simp only[MX.S,MX.P]at*;omega) bn.out) bn.out
theorem ny (j:MX) (C:Cx) (o:Ms) (a:World) (K:MA j C o a) (z a0 G A:Int) (d:List UInt8) (w:Option Addr) (c:Nat) (X:Sl a w c d) (O:d.length<=1073741824) (V: ∀b M,w=some ⟨b,M,none⟩->d≠ []->b≠j.g):
  Calls prog 49 #[j.p,.int i64 z,.agg #[.int i64 a0,.int i64 G,.int i64 A],.slice w d.length c] a (D' j C a (gZ C.R o z a0 G A d)):=by
 by_cases h:o.used=C.R.length
 ·exact AK j C o a K z a0 G A d w c X O V h
 ·exact Dh j C o a K z a0 G A d w _ c (by have:=K.used;omega)
end
end Go.Proofs.YtddomeddabfinaaGreatDoor
