/- Parts of the proof. -/
import Derived.Test.YtddomeddabfinaaGreatDoorTt00
import Derived.Deep.RegionWith
import Derived.Test.YtddomeddabfinaaGreatDoorTt29
set_option maxRecDepth 100000
set_option maxHeartbeats 8000000
set_option linter.unusedVariables false
set_option linter.unusedSimpArgs false
set_option linter.unusedSectionVars false
namespace Go.Proofs.YtddomeddabfinaaGreatDoor
open Go.Proofs.Tryz
section
open Go.RowKit
section
variable {P:Program} {ops:Array Oper} {Q:Exit->Act->World->Prop}
theorem lL {id:Nat} {h:Act} {a:World} (j:P.follows .mixedOrders=true) (o:mG (wpOp P ops Q) (Q .normal) ops ops.size (Array.replicate ops.size false) h a.drew):(Code.region id ops true).wp P Q h a:=
 wp_region_any j (ld _ _ _ _ o)
end
section
variable {X:MX} {C:Cx} {σ:Ms} {l:Lo} {fb lb:Nat} {w W:World} {cs:Array Value} {ve vb vl:Value} {ex:List Ex} {bd el:List St}
theorem TQ.rt (a:TQ X C σ l none fb lb w cs ve vb vl ex bd el W) (v:Int):TQ X C σ l (some v) fb lb w cs ve vb vl ex bd el ((W.setCell ⟨fb,2,none⟩ (.int .i32 v)).setCell ⟨fb,1,none⟩ (.bool true)):=by
 have h:Mv (λk=>k=fb) W ((W.setCell ⟨fb,2,none⟩ (.int .i32 v)).setCell ⟨fb,1,none⟩ (.bool true)):=((j6 (λk=>k=fb) _).set (p:=⟨fb,2,none⟩) (λ_=>rfl) _).set (p:=⟨fb,1,none⟩) (λ_=>rfl) _;refine a.mt (h.mono λk _ e=> .inr (.inl e)) (a.ma.mv h λk j e=>by have:=a.fi.f;omega) ⟨?_,h.map a.fi.fr.m a.fi.fr.ne,a.fi.fr.rng⟩;simpa[i7]using(a.fi.fr.blk.set 2 (.int .i32 v)).set 1 (.bool true)
end
theorem tQ (X:MX) (C:Cx) (n:Nat) (nm:List UInt8) (G:List Ex) (ab I:List St) (aI: ∀y∈G,oQ X C n y) (aG:Oc) (R:Ms) (l:Lo) (ae ak:Nat) (z:World) (ad aj ai:Option Addr) (ac ag af:Nat) (ar:MA X C R z) (ap:FI X ae ak l none z) (av:R.left≠0) (aL:2*R.left<=n+1)
  (ax:c7 z X.P (.slice ad G.length ac) G) (ay:db z X.P (.slice aj ab.length ag) ab) (aw:db z X.P (.slice ai I.length af) I) (au:val C n R.step l G=.error aG):
  Calls prog 130 #[X.p,.pointer (some ⟨ae,0,none⟩),.agg #[.int .i64 6,.string (J nm),.slice ad G.length ac,.slice aj ab.length ag,.slice ai I.length af]] z (B5 X C ae ak z (st C (n+1) R l (.mk 6 nm G ab I))):=by
 have aH:2*R.step.left<=n:=by show 2*(R.left-1)<=n;omega
 have an:=O (kO ar ap ax ay aw #[.int .i64 6,.string (J nm),.slice ad G.length ac,.slice aj ab.length ag,.slice ai I.length af]);have aF:=O (fY an.out.ma av);have aE:=O (λW (j:Cg X C R.step l ae ak z.heap.size (z.heap.size+1) (z.heap.size+1+1) #[.int .i64 6,.string (J nm),.slice ad G.length ac,.slice aj ab.length ag,.slice ai I.length af] (.slice ad G.length ac) G W)=>iJ X C n 6 nm G aI R.step l ae ak z.heap.size (z.heap.size+1) (z.heap.size+1+1) ad G.length ac (.slice aj ab.length ag) (.slice ai I.length af) W j aH);have aM: ∀(fn:Fn) (first aD:Array Value) (z:World),(Instr.makeFunc fn first aD).run prog z=.ok (.func fn first aD) z:=λ_ _ _ _=>rfl;have aq:=zS (C:=C) (n:=n) (l:=l) (nm:=nm) (e:=G) (b:=ab) (c:=I) av;have al:=an.out.b0.cell;have aK:lH R.step:=λx=>ar.rng x;have aN:=ap.fr.rng;clear ar ap ax ay aw;simp only[MX.p]at*;rw[au,fj]at aq;have M:=O aq;clear aq;go_enter func130,ntmps130;go_wp2_with (go_at_call 162;refine aF.out.mono ?_;rintro e aJ ⟨rfl,o,az⟩;have ah:=O (an.out.ms o az);clear al;have al:=ah.out.b0.cell;have aC:=ah.out.b1.cell;have aB:=ah.out.b2.cell;have aA:=ah.out.fi.fr.blk.cell;clear o az aF an);have A:=O (ah.out.ext (kE (aS _)));have ao:=aE.out _ A.out.vq;rw[au]at ao;have K:=O ao;clear ao al aC aB aA aE;have al:=A.out.b0.cell;have aC:=A.out.b1.cell;have aB:=A.out.b2.cell;have aA:=A.out.fi.fr.blk.cell;refine lL mixed ?_;refine bA [0,1,2] Qb Qd (λi a=> ?_);have a:i=0\/i=1\/i=2:=by simpa using a
 rcases a with rfl|rfl|rfl
 ·refine a_ rfl Qe ?_;go_simp;try simp only[a8,a7,a6,aZ,aY]
  refine bA [1,2] Qb Qd (λi a=> ?_);have a:i=1\/i=2:=by simpa using a
  rcases a with rfl|rfl
  ·refine a_ rfl Qe ?_;go_simp;try simp only[a8,a7,a6,aZ,aY]
   refine bA [2] Qb Qd (λi a=> ?_);obtain rfl:i=2:=by simpa using a
   refine a_ rfl Qe ?_;go_simp;try simp only[a8,a7,a6,aZ,aY]
   refine bA [3] Qb Qd (λi a=> ?_);obtain rfl:i=3:=by simpa using a
   refine a_ rfl Qe ?_;go_simp;refine K.out.mono ?_;intro e V j;obtain⟨o,rfl,w⟩:=j.err_;exact⟨rfl,dB (A.out.mv.trans (o.mono λk _ j=> .inl j)) M.out rfl w⟩
  ·refine a_ rfl Qe ?_;go_simp;try simp only[a8,a7,a6,aZ,aY]
   refine bA [1,3] Qb Qd (λi a=> ?_);have a:i=1\/i=3:=by simpa using a
   rcases a with rfl|rfl
   ·refine a_ rfl Qe ?_;go_simp;try simp only[a8,a7,a6,aZ,aY]
    refine bA [3] Qb Qd (λi a=> ?_);obtain rfl:i=3:=by simpa using a
    refine a_ rfl Qe ?_;go_simp;refine K.out.mono ?_;intro e V j;obtain⟨o,rfl,w⟩:=j.err_;exact⟨rfl,dB (A.out.mv.trans (o.mono λk _ j=> .inl j)) M.out rfl w⟩
   ·refine a_ rfl Qe ?_;go_simp;refine K.out.mono ?_;intro e V j;obtain⟨o,rfl,w⟩:=j.err_;exact⟨rfl,dB (A.out.mv.trans (o.mono λk _ j=> .inl j)) M.out rfl w⟩
 ·refine a_ rfl Qe ?_;go_simp;try simp only[a8,a7,a6,aZ,aY]
  refine bA [0,2] Qb Qd (λi a=> ?_);have a:i=0\/i=2:=by simpa using a
  rcases a with rfl|rfl
  ·refine a_ rfl Qe ?_;go_simp;try simp only[a8,a7,a6,aZ,aY]
   refine bA [2] Qb Qd (λi a=> ?_);obtain rfl:i=2:=by simpa using a
   refine a_ rfl Qe ?_;go_simp;try simp only[a8,a7,a6,aZ,aY]
   refine bA [3] Qb Qd (λi a=> ?_);obtain rfl:i=3:=by simpa using a
   refine a_ rfl Qe ?_;go_simp;refine K.out.mono ?_;intro e V j;obtain⟨o,rfl,w⟩:=j.err_;exact⟨rfl,dB (A.out.mv.trans (o.mono λk _ j=> .inl j)) M.out rfl w⟩
  ·refine a_ rfl Qe ?_;go_simp;try simp only[a8,a7,a6,aZ,aY]
   refine bA [0,3] Qb Qd (λi a=> ?_);have a:i=0\/i=3:=by simpa using a
   rcases a with rfl|rfl
   ·refine a_ rfl Qe ?_;go_simp;try simp only[a8,a7,a6,aZ,aY]
    refine bA [3] Qb Qd (λi a=> ?_);obtain rfl:i=3:=by simpa using a
    refine a_ rfl Qe ?_;go_simp;refine K.out.mono ?_;intro e V j;obtain⟨o,rfl,w⟩:=j.err_;exact⟨rfl,dB (A.out.mv.trans (o.mono λk _ j=> .inl j)) M.out rfl w⟩
   ·refine a_ rfl Qe ?_;go_simp;refine K.out.mono ?_;intro e V j;obtain⟨o,rfl,w⟩:=j.err_;exact⟨rfl,dB (A.out.mv.trans (o.mono λk _ j=> .inl j)) M.out rfl w⟩
 ·refine a_ rfl Qe ?_;go_simp;try simp only[a8,a7,a6,aZ,aY]
  refine bA [0,1,3] Qb Qd (λi a=> ?_);have a:i=0\/i=1\/i=3:=by simpa using a
  rcases a with rfl|rfl|rfl
  ·refine a_ rfl Qe ?_;go_simp;try simp only[a8,a7,a6,aZ,aY]
   refine bA [1,3] Qb Qd (λi a=> ?_);have a:i=1\/i=3:=by simpa using a
   rcases a with rfl|rfl
   ·refine a_ rfl Qe ?_;go_simp;try simp only[a8,a7,a6,aZ,aY]
    refine bA [3] Qb Qd (λi a=> ?_);obtain rfl:i=3:=by simpa using a
    refine a_ rfl Qe ?_;go_simp;refine K.out.mono ?_;intro e V j;obtain⟨o,rfl,w⟩:=j.err_;exact⟨rfl,dB (A.out.mv.trans (o.mono λk _ j=> .inl j)) M.out rfl w⟩
   ·refine a_ rfl Qe ?_;go_simp;refine K.out.mono ?_;intro e V j;obtain⟨o,rfl,w⟩:=j.err_;exact⟨rfl,dB (A.out.mv.trans (o.mono λk _ j=> .inl j)) M.out rfl w⟩
  ·refine a_ rfl Qe ?_;go_simp;try simp only[a8,a7,a6,aZ,aY]
   refine bA [0,3] Qb Qd (λi a=> ?_);have a:i=0\/i=3:=by simpa using a
   rcases a with rfl|rfl
   ·refine a_ rfl Qe ?_;go_simp;try simp only[a8,a7,a6,aZ,aY]
    refine bA [3] Qb Qd (λi a=> ?_);obtain rfl:i=3:=by simpa using a
    refine a_ rfl Qe ?_;go_simp;refine K.out.mono ?_;intro e V j;obtain⟨o,rfl,w⟩:=j.err_;exact⟨rfl,dB (A.out.mv.trans (o.mono λk _ j=> .inl j)) M.out rfl w⟩
   ·refine a_ rfl Qe ?_;go_simp;refine K.out.mono ?_;intro e V j;obtain⟨o,rfl,w⟩:=j.err_;exact⟨rfl,dB (A.out.mv.trans (o.mono λk _ j=> .inl j)) M.out rfl w⟩
  ·refine a_ rfl Qe ?_;go_simp;refine K.out.mono ?_;intro e V j;obtain⟨o,rfl,w⟩:=j.err_;exact⟨rfl,dB (A.out.mv.trans (o.mono λk _ j=> .inl j)) M.out rfl w⟩
 done
theorem Dj (V:MX) (C:Cx) (n:Nat) (nm:List UInt8) (a:List Ex) (A z:List St) (ay: ∀y∈a,oQ V C n y):uu V C n (.mk 6 nm a A z):=by
 intro o l aw aq j I ap ao R al ak af ae au aF ac ad ab;simp only[St.k,St.nm,St.ex,St.body,St.els]at ac ad ab⊢;have aE:2*o.step.left<=n:=by show 2*(o.left-1)<=n;omega
 have an:=O (kO af ae ac ad ab #[.int .i64 6,.string (J nm),.slice I a.length R,.slice ap A.length al,.slice ao z.length ak]);have aD:=O (fY an.out.ma au);have aC:=O (λW (ag:Cg V C o.step l aw aq j.heap.size (j.heap.size+1) (j.heap.size+1+1) #[.int .i64 6,.string (J nm),.slice I a.length R,.slice ap A.length al,.slice ao z.length ak] (.slice I a.length R) a W)=>iJ V C n 6 nm a ay o.step l aw aq j.heap.size (j.heap.size+1) (j.heap.size+1+1) I a.length R (.slice ap A.length al) (.slice ao z.length ak) W ag aE);have aM: ∀(fn:Fn) (first aB:Array Value) (j:World),(Instr.makeFunc fn first aB).run prog j=.ok (.func fn first aB) j:=λ_ _ _ _=>rfl;have av:=zS (C:=C) (n:=n) (l:=l) (nm:=nm) (e:=a) (b:=A) (c:=z) au;have w:=an.out.b0.cell;have aL:lH o.step:=λx=>af.rng x;have aN:=ae.fr.rng
 cases hr:val C n o.step l a with
 |error oc=>exact tQ V C n nm a A z ay oc o l aw aq j I ap ao R al ak af ae au aF ac ad ab hr
 |ok p=>
  obtain⟨v,aK⟩:=p;clear af ae ac ad ab;simp only[MX.p]at*;rw[hr,gh]at av;have aH:=O av;clear av;go_enter func130,ntmps130;go_wp2_with (go_at_call 162;refine aD.out.mono ?_;rintro e aJ ⟨rfl,M,aA⟩;have X:=O (an.out.ms M aA);clear w;have w:=X.out.b0.cell;have aj:=X.out.b1.cell;have ai:=X.out.b2.cell;have ah:=X.out.fi.fr.blk.cell;clear M aA aD an);have G:=O (X.out.ext (kE (aS _)));have ar:=aC.out _ G.out.vq;rw[hr]at ar;have aG:=O ar;clear ar w aj ai ah aC;have w:=G.out.b0.cell;have aj:=G.out.b1.cell;have ai:=G.out.b2.cell;have ah:=G.out.fi.fr.blk.cell
  go_region_with (go_at_call 163;refine aG.out.mono ?_;intro e aI ag;obtain⟨M,rfl,az⟩:=ag.ok_;have K:=O (G.out.ms M az);clear w aj ai ah;have w:=K.out.b0.cell;have aj:=K.out.b1.cell;have ai:=K.out.b2.cell;have ah:=K.out.fi.fr.blk.cell;have aO:=K.out.fi.fr.blk.frozen;have ax:=O (K.out.rt v);clear M az ag)
  all_goals (exact bodyPost_end (results_none rfl _ _ _) rfl (iY ax.out.mv aH.out ax.out.ma ax.out.fi.fr))
theorem Iq (u:Int):IntKind.u8.wrap u=((UInt8.ofNat (u%256).toNat).toNat:Int):=by
 have h:0<=u%256:=Int.emod_nonneg _ Qc;have j:u%256<256:=Int.emod_lt_of_pos _ Qc;have a:(UInt8.ofNat (u%256).toNat).toNat=(u%256).toNat:=by
  rw[fM];omega
 rw[a,Int.toNat_of_nonneg h];simp[IntKind.wrap,IntKind.signed,IntKind.bits]
theorem Dm (G:MX) (C:Cx) (n:Nat) (nm:List UInt8) (z:List Ex) (aC aA:List St) (bn:nm.length<=1073741824) (bt: ∀y∈z,oQ G C n y) (b6:2<=z.length):uu G C n (.mk 3 nm z aC aA):=by
 intro ai l az ap I aR bh bg aK ba a9 a4 a3 bp bZ aJ a2 a1;simp only[St.k,St.nm,St.ex,St.body,St.els]at aJ a2 a1⊢;have bI:2*ai.step.left<=n:=by show 2*(ai.left-1)<=n;omega
 have ak:=O (kO a4 a3 aJ a2 a1 #[.int .i64 3,.string (J nm),.slice aR z.length aK,.slice bh aC.length ba,.slice bg aA.length a9]);have aN:=O (fY ak.out.ma bp);have aM:=O (λW (a:Cg G C ai.step l az ap I.heap.size (I.heap.size+1) (I.heap.size+1+1) #[.int .i64 3,.string (J nm),.slice aR z.length aK,.slice bh aC.length ba,.slice bg aA.length a9] (.slice aR z.length aK) z W)=>iJ G C n 3 nm z bt ai.step l az ap I.heap.size (I.heap.size+1) (I.heap.size+1+1) aR z.length aK (.slice bh aC.length ba) (.slice bg aA.length a9) W a bI);have b3: ∀(fn:Fn) (first bv:Array Value) (I:World),(Instr.makeFunc fn first bv).run prog I=.ok (.func fn first bv) I:=λ_ _ _ _=>rfl;have j:=F9 (C:=C) (n:=n) (l:=l) (nm:=nm) (e:=z) (b:=aC) (c:=aA) bp;have A:=ak.out.b0.cell;have bH:lH ai.step:=λx=>a4.rng x;have bJ:=a3.fr.rng;obtain⟨b,bW,bf,a5,bM,aG,bL,aH,aI⟩:=aJ.yc 1 Qa;have aq:=bt _ (ay (show 1<z.length by omega));have bl:z.getD 1 pj=z[1]' Qa:=by rw[ch,aO Qa];rfl
 rw[bl]at j;obtain⟨aS,bk⟩: ∃aS,z[1]' Qa=aS:=⟨_,rfl⟩
 rw[bk]at j aq aH aI;obtain⟨bF,bC,bE,bB,bA,bT⟩:=aS;unfold oQ at aq;simp only[Ex.k,Ex.op,Ex.nm,Ex.tx,Ex.v,Ex.args,cL]at aH aI aq;have bb:=O aq;have bU:=O aH;have bV:=O aI;have b5:(1:Int)<(z.length:Int):=Qa
 have b4:1<z.length:=Qa
 clear bk aq aH aI bl;subst bM;clear a4 a3 aJ a2 a1;simp only[MX.p]at*;rcases aj:val C n ai.step l z with bD|⟨v,s1⟩
 ·rw[aj,fj]at j;have ac:=O j;clear j;go_enter func130,ntmps130;go_wp2_with (first|(go_at_call 162;refine aN.out.mono ?_;rintro e aU ⟨rfl,o,ax⟩;have M:=O (ak.out.ms o ax);clear A;have A:=M.out.b0.cell;have V:=M.out.b1.cell;have R:=M.out.b2.cell;have ab:=M.out.fi.fr.blk.cell;clear o ax aN ak)|(go_at_call 163;refine(aM.out _ M.out.vq).mono ?_;intro e bj a;rw[aj]at a;obtain⟨o,rfl,av⟩:=a.err_;have bd:=O (M.out.mv.trans (o.mono λk _ a=> .inl a));have aD:=O av;clear o av a aM));exact⟨rfl,dB bd.out ac.out rfl aD.out⟩
 ·rw[aj,gh]at j;have bm:=rW aj bH bJ;have aX:2*s1.left<=n:=by have:=s4 aj;omega
  go_enter func130,ntmps130;go_wp2_with (first|(go_at_call 162;refine aN.out.mono ?_;rintro e aU ⟨rfl,o,ax⟩;have M:=O (ak.out.ms o ax);clear A;have A:=M.out.b0.cell;have V:=M.out.b1.cell;have R:=M.out.b2.cell;have ab:=M.out.fi.fr.blk.cell;clear o ax aN ak)|(go_at_call 163;refine(aM.out _ M.out.vq).mono ?_;intro e bj a;rw[aj]at a;obtain⟨o,rfl,bu⟩:=a.ok_;have X:=O (M.out.ms o bu);clear A V R ab;have A:=X.out.b0.cell;have V:=X.out.b1.cell;have R:=X.out.b2.cell;have ab:=X.out.fi.fr.blk.cell;clear o bu a aM));have aQ:=O (show cR G.P I bj from X.out.mv.keepP λk bK _=>MX.T_P X.out.fi.f X.out.fi.l X.out.ma.ok bK);have bw:=O (bU.out.kp aQ.out bL aG);have bx:=O (bV.out.keep aQ.out (Q:=G.P) λb aG _=>aG);have br:=aF aG aQ.out.size;clear A V R ab aQ;rcases ar:ev C n s1 l (Ex.mk bF bC bE bB bA bT)with bD|⟨u,s2⟩
  ·rw[ar,fj]at j;have ac:=O j;clear j;refine aB 6 1 [] mixed Qb trivial ?_
   iterate 6 (refine sx ?_ (λaU ag=> ?_) ?_;rotate_left;(focus obtain⟨ao,an,al,aV⟩:=X.out.cl (.of_ext ag.un);have A:=ao.cell;have V:=an.cell;have R:=al.cell;obtain⟨bS,bR,bQ,bP,bO,bN⟩:=bw.out.kp (.of_ext (P:=λ_=>True) ag.un) trivial br;clear ag ao an al aV;go_simp<;>with_reducible rfl);simp only[a8,a7,a6,aZ,aY])
   intro bz af _;simp only[ae,au];have w:=O (X.out.ext af.un);have aP:=O (bx.out.xt af.un);clear af;have A:=w.out.b0.cell;have V:=w.out.b1.cell;have R:=w.out.b2.cell;have ab:=w.out.fi.fr.blk.cell;go_wp2_with (go_at_call 164;refine(bb.out s1 l az ap _ bf a5 w.out.ma w.out.fi aX aP.out).mono ?_;intro e bi a;rw[ar]at a;obtain⟨o,rfl,av⟩:=a.err_;have bd:=O (w.out.mv.trans (o.mono λk _ a=> .inl a));have aD:=O av;clear o av a);exact⟨rfl,dB bd.out ac.out rfl aD.out⟩
  ·rw[ar,gh]at j;refine aB 6 1 [] mixed Qb trivial ?_
   iterate 6 (refine sx ?_ (λaU ag=> ?_) ?_;rotate_left;(focus obtain⟨ao,an,al,aV⟩:=X.out.cl (.of_ext ag.un);have A:=ao.cell;have V:=an.cell;have R:=al.cell;obtain⟨bS,bR,bQ,bP,bO,bN⟩:=bw.out.kp (.of_ext (P:=λ_=>True) ag.un) trivial br;clear ag ao an al aV;go_simp<;>with_reducible rfl);simp only[a8,a7,a6,aZ,aY])
   intro bz af _;simp only[ae,au];have w:=O (X.out.ext af.un);have aP:=O (bx.out.xt af.un);clear af;have A:=w.out.b0.cell;have V:=w.out.b1.cell;have R:=w.out.b2.cell;have ab:=w.out.fi.fr.blk.cell;by_cases hin:0<=v/\v<((s2.arrs nm).length:Int)
   ·rw[if_pos hin]at j;have ac:=O j;obtain⟨ad,rfl⟩:=d6 hin.1;have aE:ad<(s2.arrs nm).length:=Qa
    have bo:s2.arrs nm≠ []:=λe=>by rw[e]at aE;simp at aE
    have be:=O (show iQ G s2 nm (ad:Int)=.returned (.pointer (some ⟨G.rb nm,ad,none⟩)) by unfold iQ;rw[if_pos hin];rfl);have bG:=Iq u;obtain⟨aL,bq⟩: ∃aL,UInt8.ofNat (u%256).toNat=aL:=⟨_,rfl⟩
    rw[bq]at bG ac;rw[eS]at ac;clear j hin bq;go_wp2_with (first|(go_at_call 164;refine(bb.out s1 l az ap _ bf a5 w.out.ma w.out.fi aX aP.out).mono ?_;intro e bi a;rw[ar]at a;obtain⟨o,rfl,aw⟩:=a.ok_;have K:=O (w.out.ms o aw);clear A V R ab;have A:=K.out.b0.cell;have V:=K.out.b1.cell;have R:=K.out.b2.cell;have ab:=K.out.fi.fr.blk.cell;clear o aw a)|(go_at_call 166;refine(jW G C s2 _ K.out.ma nm bn (ad:Int) bm).mono ?_;rw[be.out];rintro e aT ⟨rfl,j⟩;have ah:=O (K.out.ext j);have aW:=(ah.out.ma.row nm bo).1;have bY:aT.cell? ⟨G.rb nm,ad,none⟩=some (.int .u8 ((s2.arrs nm)[ad].toNat:Int)):=(by rw[aW.cell];simp[Cf,me,Ca,aE]);have bX:=aW.frozen ad;clear j aW));have bc:=O (ah.out.ms (.of_grown (cH aT (G.rb nm) ad (.int .u8 (aL.toNat:Int))) λk e=>by injection e with e;subst e;exact(ah.out.ma.row nm bo).2.1) (ah.out.ma.setA1 (b:=aL) aE));exact bodyPost_end (results_none rfl _ _ _) rfl (iY bc.out.mv ac.out bc.out.ma bc.out.fi.fr)
   ·rw[if_neg hin]at j;have ac:=O j;have be:=O (show iQ G s2 nm v=.panicked [{v:=.iface 129 (.agg #[.int .i64 2]),recovered:=false}] by unfold iQ;rw[if_neg hin];rfl);clear j hin;go_wp2_with (first|(go_at_call 164;refine(bb.out s1 l az ap _ bf a5 w.out.ma w.out.fi aX aP.out).mono ?_;intro e bi a;rw[ar]at a;obtain⟨o,rfl,aw⟩:=a.ok_;have K:=O (w.out.ms o aw);clear A V R ab;have A:=K.out.b0.cell;have V:=K.out.b1.cell;have R:=K.out.b2.cell;have ab:=K.out.fi.fr.blk.cell;clear o aw a)|(go_at_call 166;refine(jW G C s2 _ K.out.ma nm bn v bm).mono ?_;rw[be.out];rintro e aT ⟨rfl,j⟩;have ah:=O (K.out.ext j);have aD:=O (ah.out.ma.halt 2);clear j));exact⟨rfl,dB ah.out.mv ac.out rfl aD.out⟩
end
end Go.Proofs.YtddomeddabfinaaGreatDoor
