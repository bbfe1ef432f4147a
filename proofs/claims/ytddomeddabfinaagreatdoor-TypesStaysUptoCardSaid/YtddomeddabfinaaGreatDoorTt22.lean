/- Parts of the proof. -/
import Derived.Test.YtddomeddabfinaaGreatDoorTt00
import Derived.Test.YtddomeddabfinaaGreatDoorTt20
import Derived.Test.YtddomeddabfinaaGreatDoorTt21
import Derived.Test.YtddomeddabfinaaGreatDoorTt01
import Derived.LoopN
import Derived.Test.YtddomeddabfinaaGreatDoorTt07
set_option maxRecDepth 100000
set_option maxHeartbeats 8000000
set_option linter.unusedVariables false
set_option linter.unusedSimpArgs false
set_option linter.unusedSectionVars false
namespace Go.Proofs.YtddomeddabfinaaGreatDoor
open IntKind(i64)
open Go.Proofs.Tryz
section
open Go.RowKit
theorem uk {gl:Gl} {lo:Ls} {nm:List UInt8} {b:Bi} {l:List Ex} {a:Nat} (h:a<l.length):oU gl lo nm b a (l.drop a)=CR.then (if lA b a=true then oM gl lo l[a]else if qE (AV b a) l[a].k=true then .error (nm,16)else if l[a].k=3 then md gl lo l[a].nm else .ok ()) λ_=>oU gl lo nm b (a+1) (l.drop (a+1)):=by
 rw[aD h,oU]
def Id (op nm tx:List UInt8) (v:Int) (xs:List Ex):Prop:= ∀(X:CB) (gl:Gl) (lv:Value) (lo:Ls) (P:Nat->Prop) (w:World) (A:Option Addr) (n c:Nat),CK X gl lv lo w->c7 w P (.slice A n c) xs->
 Calls prog 185 #[X.p,.agg #[.int i64 5,.string (J op),.string (J nm),.string (J tx),.int i64 v,.slice A n c]] w λe w'=>e=cu (oM gl lo (.mk 5 op nm tx v xs))/\az w w'
theorem uO (op nm tx:List UInt8) (v:Int) (xs:List Ex) (bn:xs.length<=1073741824) (aA:nm.length<=1073741824) (j:fp nm=none) (aW: ∀y∈xs,FZ y):Id op nm tx v xs:=by
 intro bt gl aT lo P ai au n c aU aF;obtain⟨bO,bL,bl,bp⟩:=aF.form;injection bl with bk bj bi;subst bk bj bi;have be:=O aF;have aM:=O aW;obtain⟨N,aj⟩: ∃N,xs.length=N:=⟨_,rfl⟩
 have bf:=O aj;rw[aj]at be bn;obtain⟨X,aD⟩: ∃bu,oM gl lo (.mk 5 op nm tx v xs)=bu:=⟨_,rfl⟩
 have ac:=O (show X=match gl.fn nm with|none=> .error (nm,15)|some n=>if n=N then oU gl lo nm none 0 xs else .error (nm,16) by
  rw[<-aD,oM,if_neg Qc,if_neg Qc,if_neg Qc,if_pos rfl];unfold xy;rw[j,<-aj]
  cases gl.fn nm<;>rfl)
 have aG:=Z ai (.cells #[.int i64 5,.string (J op),.string (J nm),.string (J tx),.int i64 v,.slice au N c] 70);have ad:=O aG;have ag:=O (aw ai 70 #[.int i64 5,.string (J op),.string (J nm),.string (J tx),.int i64 v,.slice au N c]);have ab:=O (aU.ext aG)
 have af:=O (show Calls prog 22 #[.string (J nm)] (ai.alloc (.cells #[.int i64 5,.string (J op),.string (J nm),.string (J tx),.int i64 v,.slice au N c] 70)) λe w'=>e=.returned (.tuple #[.int i64 0,.string ⟨#[]⟩,.bool false])/\az (ai.alloc (.cells #[.int i64 5,.string (J op),.string (J nm),.string (J tx),.int i64 v,.slice au N c] 70)) w' from by
  have:=mC nm _ ab.out.t;rw[j]at this
  exact this)
 have aK:=O (fun(i:Nat) (bo:i<=1073741824) (W:World)=>show Calls prog 55 #[.string ⟨#[]⟩,.bool false,.int i64 (i:Int)] W λe w'=>e=.returned (.bool true)/\az W w' from lZ none i bo (by simp[D8]) W);have ar:=O (λn W=>eD nm n W);clear aF bp aW j aG aU;rw[aj,aD];clear aj aD;obtain⟨g,ba,bc,bb,aR,aS⟩:=bt;simp only[CB.p]at*
 cases hfn:gl.fn nm with
 |none=>
  have an:=O (show X=.error (nm,15) by rw[ac.out,hfn]);clear aM aK ac;go_enter func185,ntmps185;go_wp2_with (go_at_call 22;refine af.out.mono ?_;rintro e ah ⟨rfl,a⟩;have M:=O (ad.out.trans a);have o:=O (ag.out.ext a);have K:=o.out.cell;have A:=O (ab.out.ext a);clear a af ag ab ad);refine aB 12 1 [] mixed Qb trivial ?_;repeat (refine sx ?_ (λah z=> ?_) ?_;rotate_left;(focus have K:=(o.out.ext z.un).cell;have a9:=(A.out.ext z.un).blk.cell;have V:=(A.out.ext z.un).lookF aA;rw[hfn]at V;simp only[eC,dq]at V;clear z;go_simp<;>with_reducible rfl);simp only[a8,a7,a6,aZ,aY])
  intro aP G _;simp only[ae,aQ];have ak:=O (M.out.trans G.un);clear K;have K:=(o.out.ext G.un).cell;clear G;go_wp2_with (go_at_call 73;refine(ar.out _ _).mono ?_;unfold bq;rintro e av ⟨rfl,a⟩;have I:=O (ak.out.trans a);clear a ar);exact⟨rfl,by rw[an.out];rfl,I.out⟩
 |some k=>
  by_cases hkN:k=N
  ·subst hkN;have an:=O (show X=oU gl lo nm none 0 xs by rw[ac.out,hfn];simp);have bv:=O (show oU gl lo nm none 0 (xs.drop 0)=X from an.out.symm);clear ac;go_enter func185,ntmps185;go_wp2_with (go_at_call 22;refine af.out.mono ?_;rintro e ah ⟨rfl,a⟩;have M:=O (ad.out.trans a);have o:=O (ag.out.ext a);have K:=o.out.cell;have A:=O (ab.out.ext a);clear a af ag ab ad);refine aB 12 1 [] mixed Qb trivial ?_;repeat (refine sx ?_ (λah z=> ?_) ?_;rotate_left;(focus have K:=(o.out.ext z.un).cell;have a9:=(A.out.ext z.un).blk.cell;have V:=(A.out.ext z.un).lookF aA;rw[hfn]at V;simp only[bM,c8]at V;clear z;go_simp<;>with_reducible rfl);simp only[a8,a7,a6,aZ,aY])
   intro aP G _;simp only[ae,aQ];have ak:=O (M.out.trans G.un);have bz:=O (A.out.ext G.un);clear K;have K:=(o.out.ext G.un).cell;clear G M A o;go_wp2_with fail;clear K
   go_loopw [53] (λax wr=> ∃(w:Nat),ax=.int i64 (w:Int)/\w<=k/\Hid (oU gl lo nm none w (xs.drop w)=X)/\Hid (az ai wr)/\Hid (CK ⟨g,ba,bc,bb,aR,aS⟩ gl aT lo wr)) (λax _=>k-(intOf ax).toNat)
   case atStart=>exact⟨0,rfl,aI _,bv,ak,bz⟩
   case round=>
    obtain⟨w,rfl,bD,aJ,R,bw⟩:=hrel;by_cases hlt:w<k
    ·have bm:(w:Int)<k:=Qa
     have aC:w<xs.length:=by have:=bf.out;omega
     obtain⟨b,bA,bN,rfl,j,bE,a5,a4,a3,a2,a1,aX,aE⟩:=be.out.at_ w aC;have ao:=O (uk (gl:=gl) (lo:=lo) (nm:=nm) (b:=none) aC);have aV:=aM.out _ (ay aC);generalize xs[w]=y at*;have bK:=(R.out.cell b _ j).trans a5;have bJ:=(R.out.cell b _ j).trans a4;have bI:=(R.out.cell b _ j).trans a3;have bH:=(R.out.cell b _ j).trans a2;have bG:=(R.out.cell b _ j).trans a1;have bF:=(R.out.cell b _ j).trans aX;obtain⟨B,d,rfl,_⟩:=aE.form;have bd:=O ((aE.keep (.of_ext R.out) (Q:=P) (λb j _=>j)).keep (.of_ext (Z _ (.cells #[.int i64 y.k,.string (J y.op),.string (J y.nm),.string (J y.tx),.int i64 y.v,.slice B y.args.length d] 70))) (Q:=P) (λb j _=>j));have o:=O (aw wr 70 #[.int i64 y.k,.string (J y.op),.string (J y.nm),.string (J y.tx),.int i64 y.v,.slice B y.args.length d]);have M:=O (R.out.alloc' (.cells #[.int i64 y.k,.string (J y.op),.string (J y.nm),.string (J y.tx),.int i64 y.v,.slice B y.args.length d] 70));have A:=O (bw.out.ext (Z wr (.cells #[.int i64 y.k,.string (J y.op),.string (J y.nm),.string (J y.tx),.int i64 y.v,.slice B y.args.length d] 70)));have al:=O (aV ⟨g,ba,bc,bb,aR,aS⟩ gl aT lo P);have aq:=O (aK.out w Qa);clear a5 a4 a3 a2 a1 aX aE aV;simp only[CB.p]at al;generalize oM gl lo y=r at*;rw[show lA none w=true from rfl]at ao;simp only[if_true]at ao
     cases r with
     |ok u=>
      go_wp2_with (first|(go_at_call 55;refine(aq.out _).mono ?_;rintro e av ⟨rfl,a⟩;have aH:=O (M.out.trans a);have aO:=O a;have br:=(o.out.ext a).cell;have ap:=O (A.out.ext a);clear a aq)|(go_at_call 156;refine(al.out _ B _ d ap.out (bd.out.keep (.of_ext aO.out) (λb j _=>j))).mono ?_;unfold cu;rintro e bg ⟨rfl,a⟩;have I:=O (aH.out.trans a);have bx:=O (ap.out.ext a);clear a al));go_roundw
      case rel=>exact⟨w+1,by go_num,by omega,O (ao.out.symm.trans aJ.out),I,bx⟩
      case measure=>simp[intOf];omega
     |error q=>
      obtain⟨bh,n⟩:=q;have aN:=O (show X=.error (bh,n)from aJ.out.symm.trans ao.out);go_wp2_with (first|(go_at_call 55;refine(aq.out _).mono ?_;rintro e av ⟨rfl,a⟩;have aH:=O (M.out.trans a);have aO:=O a;have br:=(o.out.ext a).cell;have ap:=O (A.out.ext a);clear a aq)|(go_at_call 156;refine(al.out _ B _ d ap.out (bd.out.keep (.of_ext aO.out) (λb j _=>j))).mono ?_;unfold cu bq;rintro e bg ⟨rfl,a⟩;have I:=O (aH.out.trans a);clear a al));exact⟨rfl,by rw[aN.out];rfl,I.out⟩
    ·have bm: ¬(w:Int)<k:=Qa
     have aN:=O (show X=.ok () by
      have:=aJ.out;rw[aL (by have:=bf.out;omega),oU]at this
      exact this.symm)
     go_wp2_with fail;exact bodyPost_end (results_none rfl _ _ _) rfl ⟨by rw[aN.out];rfl,R.out⟩
  ·have an:=O (show X=.error (nm,16) by rw[ac.out,hfn];simp[hkN]);have bC:((k:Int) !=(N:Int))=true:=Qh
   have bB:((k:Int)==(N:Int))=false:=Qh
   clear aM aK ac;go_enter func185,ntmps185;go_wp2_with (go_at_call 22;refine af.out.mono ?_;rintro e ah ⟨rfl,a⟩;have M:=O (ad.out.trans a);have o:=O (ag.out.ext a);have K:=o.out.cell;have A:=O (ab.out.ext a);clear a af ag ab ad);refine aB 12 1 [] mixed Qb trivial ?_;repeat (refine sx ?_ (λah z=> ?_) ?_;rotate_left;(focus have K:=(o.out.ext z.un).cell;have a9:=(A.out.ext z.un).blk.cell;have V:=(A.out.ext z.un).lookF aA;rw[hfn]at V;simp only[bM,c8]at V;clear z;go_simp<;>with_reducible rfl);simp only[a8,a7,a6,aZ,aY])
   intro aP G _;simp only[ae,aQ];have ak:=O (M.out.trans G.un);clear K;have K:=(o.out.ext G.un).cell;clear G;go_wp2_with (go_at_call 73;refine(ar.out _ _).mono ?_;unfold bq;rintro e av ⟨rfl,a⟩;have I:=O (ak.out.trans a);clear a ar);exact⟨rfl,by rw[an.out];rfl,I.out⟩
theorem uN (op nm tx:List UInt8) (v:Int) (xs:List Ex) (bX:xs.length<=1073741824) (bx:nm.length<=1073741824) (ag:Int) (ls:List UInt8) (M:fp nm=some (ag,ls)) (b9:ls.length<=3) (bD: ∀y∈xs,FZ y) (bB: ∀y∈xs,y.nm.length<=1073741824):Id op nm tx v xs:=by
 intro b1 gl ax lo P X a1 n c bC bk;obtain⟨cp,cn,bV,bZ⟩:=bk.form;injection bV with bU bT bS;subst bU bT bS;have bG:=O bk;have bL:=O bD;have b3:=O bB;have b5:=O (up M);obtain⟨N,aP⟩: ∃N,xs.length=N:=⟨_,rfl⟩
 have bH:=O aP;rw[aP]at bG bX;obtain⟨ah,bj⟩: ∃b2,oM gl lo (.mk 5 op nm tx v xs)=b2:=⟨_,rfl⟩
 have bc:=O (show ah=if ls.length=N then oU gl lo nm (some (ag,ls)) 0 xs else .error (nm,16) by
  rw[<-bj,oM,if_neg Qc,if_neg Qc,if_neg Qc,if_pos rfl];unfold xy
  rw[M,<-aP])
 have bn:=Z X (.cells #[.int i64 5,.string (J op),.string (J nm),.string (J tx),.int i64 v,.slice a1 N c] 70);have bd:=O bn;have bg:=O (aw X 70 #[.int i64 5,.string (J op),.string (J nm),.string (J tx),.int i64 v,.slice a1 N c]);have aW:=O (bC.ext bn)
 have be:=O (show Calls prog 22 #[.string (J nm)] (X.alloc (.cells #[.int i64 5,.string (J op),.string (J nm),.string (J tx),.int i64 v,.slice a1 N c] 70)) λe w'=>e=.returned (.tuple #[.int i64 ag,.string (J ls),.bool true])/\az (X.alloc (.cells #[.int i64 5,.string (J op),.string (J nm),.string (J tx),.int i64 v,.slice a1 N c] 70)) w' from by
  have:=mC nm _ aW.out.t;rw[M]at this
  exact this)
 have bK:=O (fun(i:Nat) (bY:i<=1073741824) (W:World)=>show Calls prog 55 #[.string (J ls),.bool true,.int i64 (i:Int)] W λe w'=>e=.returned (.bool (lA (some (ag,ls)) i))/\az W w' from lZ (some (ag,ls)) i bY (by simp only[D8];omega) W);have aq:=O (λn W=>eD nm n W);have b8:=bm ls;clear bk bZ bD bB M bn bC;rw[aP,bj];clear aP bj;obtain⟨g,aC,aE,aD,au,av⟩:=b1;simp only[CB.p]at*;obtain⟨bo,bA⟩: ∃bo,gl.fn nm=bo:=⟨_,rfl⟩
 cases bo;all_goals
  by_cases hkN:ls.length=N
  ·have br:=O (show ah=oU gl lo nm (some (ag,ls)) 0 xs by rw[bc.out,if_pos hkN]);have b4:=O (show oU gl lo nm (some (ag,ls)) 0 (xs.drop 0)=ah from br.out.symm);have cb:((ls.length:Int) !=(N:Int))=false:=by simp[hkN]
   clear bc;go_enter func185,ntmps185;go_wp2_with (go_at_call 22;refine be.out.mono ?_;rintro e bh ⟨rfl,a⟩;have ab:=O (bd.out.trans a);have K:=O (bg.out.ext a);have R:=K.out.cell;have G:=O (aW.out.ext a);clear a be bg aW bd);refine aB 12 1 [] mixed Qb trivial ?_;repeat (refine sx ?_ (λbh ao=> ?_) ?_;rotate_left;(focus have R:=(K.out.ext ao.un).cell;have b0:=(G.out.ext ao.un).blk.cell;have aR:=(G.out.ext ao.un).lookF bx;rw[bA]at aR;simp only[bM,eC,c8,dq]at aR;clear ao;go_simp<;>with_reducible rfl);simp only[a8,a7,a6,aZ,aY])
   intro bN an _;simp only[ae,aQ];have bp:=O (ab.out.trans an.un);have bI:=O (G.out.ext an.un);have bf:=O (K.out.ext an.un);clear R;have R:=bf.out.cell;clear an ab G K;go_wp2_with fail;clear R
   go_loopw [53] (λbi wr=> ∃(o:Nat),bi=.int i64 (o:Int)/\o<=N/\Hid (oU gl lo nm (some (ag,ls)) o (xs.drop o)=ah)/\Hid (az X wr)/\Hid (CK ⟨g,aC,aE,aD,au,av⟩ gl ax lo wr)/\Hid (aU wr X.heap.size 70 #[.int i64 5,.string (J op),.string (J nm),.string (J tx),.int i64 v,.slice a1 N c])) (λbi _=>N-(intOf bi).toNat)
   case atStart=>exact⟨0,rfl,aI _,b4,bp,bI,bf⟩
   case round=>
    obtain⟨o,rfl,ce,ai,ap,b6,ad⟩:=hrel;by_cases hlt:o<N
    ·have bW:(o:Int)<N:=Qa
     have a3:o<xs.length:=by have:=bH.out;omega
     have a2:o<ls.length:=Qa
     obtain⟨b,b7,co,rfl,M,cf,bb,ba,a9,a5,a4,bE,aN⟩:=bG.out.at_ o a3;have j:=uk (gl:=gl) (lo:=lo) (nm:=nm) (b:=some (ag,ls)) a3;have bl:=bL.out _ (ay a3);have aA:=b3.out _ (ay a3);obtain⟨y,bu⟩: ∃y,xs[o]=y:=⟨_,rfl⟩
     rw[bu]at bb ba a9 a5 a4 aN j bl aA;clear bu;obtain⟨I,aM,ak,aJ,aH,aS⟩:=y;simp only[Ex.k,Ex.op,Ex.nm,Ex.tx,Ex.v,Ex.args]at bb ba a9 a5 a4 aN j aA;have cm:=(ap.out.cell b _ M).trans bb;have cl:=(ap.out.cell b _ M).trans ba;have ck:=(ap.out.cell b _ M).trans a9;have cj:=(ap.out.cell b _ M).trans a5;have ci:=(ap.out.cell b _ M).trans a4;have cg:=(ap.out.cell b _ M).trans bE;obtain⟨B,d,rfl,_⟩:=aN.form;have bF:=O ((aN.keep (.of_ext ap.out) (Q:=P) (λb M _=>M)).keep (.of_ext (Z _ (.cells #[.int i64 I,.string (J aM),.string (J ak),.string (J aJ),.int i64 aH,.slice B aS.length d] 70))) (Q:=P) (λb M _=>M));have K:=O (aw wr 70 #[.int i64 I,.string (J aM),.string (J ak),.string (J aJ),.int i64 aH,.slice B aS.length d]);have ab:=O (ap.out.alloc' (.cells #[.int i64 I,.string (J aM),.string (J ak),.string (J aJ),.int i64 aH,.slice B aS.length d] 70));have G:=O (b6.out.ext (Z wr (.cells #[.int i64 I,.string (J aM),.string (J ak),.string (J aJ),.int i64 aH,.slice B aS.length d] 70)));have aF:=O (bl ⟨g,aC,aE,aD,au,av⟩ gl ax lo P);have w:=O (bK.out o Qa);clear bb ba a9 a5 a4 bE aN bl;simp only[CB.p,Ex.k,Ex.op,Ex.nm,Ex.tx,Ex.v,Ex.args]at aF
     cases hia:lA (some (ag,ls)) o with
     |true=>
      rw[hia]at j w;simp only[if_true]at j;generalize oM gl lo (.mk I aM ak aJ aH aS)=r at*
      cases r with
      |ok u=>
       have j:=O j;go_wp2_with (first|(go_at_call 55;refine(w.out _).mono ?_;rintro e aj ⟨rfl,a⟩;have z:=O (ab.out.trans a);have ac:=O a;have al:=(K.out.ext a).cell;have R:=(ad.out.ext ((Z _ _).trans a)).cell;have A:=O (G.out.ext a);clear a w)|(go_at_call 156;refine(aF.out _ B _ d A.out (bF.out.keep (.of_ext ac.out) (λb M _=>M))).mono ?_;unfold cu;rintro e aG ⟨rfl,a⟩;have V:=O (z.out.trans a);have aV:=O (A.out.ext a);have aX:=O (ad.out.ext ((Z _ _).trans (ac.out.trans a)));clear a aF));go_roundw
       case rel=>exact⟨o+1,by go_num,by omega,O (j.out.symm.trans ai.out),V,aV,aX⟩
       case measure=>simp[intOf];omega
      |error q=>
       obtain⟨aK,n⟩:=q;have j:=O j;have af:=O (show ah=.error (aK,n)from ai.out.symm.trans j.out);go_wp2_with (first|(go_at_call 55;refine(w.out _).mono ?_;rintro e aj ⟨rfl,a⟩;have z:=O (ab.out.trans a);have ac:=O a;have al:=(K.out.ext a).cell;have R:=(ad.out.ext ((Z _ _).trans a)).cell;have A:=O (G.out.ext a);clear a w)|(go_at_call 156;refine(aF.out _ B _ d A.out (bF.out.keep (.of_ext ac.out) (λb M _=>M))).mono ?_;unfold cu bq;rintro e aG ⟨rfl,a⟩;have V:=O (z.out.trans a);clear a aF));exact⟨rfl,by rw[af.out];rfl,V.out⟩
     |false=>
      rw[hia]at j w;have bw:=b5.out _ (ay a2);have ar:=λX=>nW ls o a2 X;have bv:ls[o]≠105:=by
       intro e;have:lA (some (ag,ls)) o=true:=by
        simp only[lA];rw[bJ];right;rw[ch,aO a2];simp[e]
       rw[this]at hia
       cases hia
      have bz:AV (some (ag,ls)) o=ls[o]:=by simp only[AV];rw[ch,aO a2];rfl
      rw[bz]at j;have cd:(o:Int)<ls.length:=Qa
      generalize ls[o]=q at bw ar bv j;simp only[aT,if_false]at j;clear hia bz aF;rcases bw with rfl|rfl|rfl|rfl
      ·exact absurd rfl bv
      ·have ar: ∀X,(Instr.index 9 (.string (J ls)) (.int i64 (o:Int))).run prog X=.ok (.int .u8 115) X:=ar;by_cases hk2:I=2
       ·subst hk2;simp[qE]at j;have j:=O j;go_wp2_with (go_at_call 55;refine(w.out _).mono ?_;rintro e aj ⟨rfl,a⟩;have z:=O (ab.out.trans a);have ac:=O a;have al:=(K.out.ext a).cell;have R:=(ad.out.ext ((Z _ _).trans a)).cell;have A:=O (G.out.ext a);clear a w);go_roundw
        case rel=>exact⟨o+1,by go_num,by omega,O (j.out.symm.trans ai.out),z,A,O (ad.out.ext ((Z _ _).trans ac.out))⟩
        case measure=>simp[intOf];omega
       ·have bP:(I !=2)=true:=by simpa using hk2
        have bR:(I==2)=false:=by simpa using hk2
        simp[qE,hk2]at j;have j:=O j;have af:=O (show ah=.error (nm,16)from ai.out.symm.trans j.out);go_wp2_with (first|(go_at_call 55;refine(w.out _).mono ?_;rintro e aj ⟨rfl,a⟩;have z:=O (ab.out.trans a);have ac:=O a;have al:=(K.out.ext a).cell;have R:=(ad.out.ext ((Z _ _).trans a)).cell;have A:=O (G.out.ext a);clear a w)|(go_at_call 73;refine(aq.out _ _).mono ?_;unfold bq;rintro e bt ⟨rfl,a⟩;have V:=O (z.out.trans a);clear a aq));exact⟨rfl,by rw[af.out];rfl,V.out⟩
      ·have ar: ∀X,(Instr.index 9 (.string (J ls)) (.int i64 (o:Int))).run prog X=.ok (.int .u8 97) X:=ar;by_cases hk3:I=3
       ·subst hk3;simp[qE]at j
        cases hca:md gl lo ak with
        |ok u=>
         rw[hca]at j;have j:=O j;go_wp2_with (first|(go_at_call 55;refine(w.out _).mono ?_;rintro e aj ⟨rfl,a⟩;have z:=O (ab.out.trans a);have ac:=O a;have al:=(K.out.ext a).cell;have R:=(ad.out.ext ((Z _ _).trans a)).cell;have A:=O (G.out.ext a);clear a w)|(go_at_call 120;refine(eR ⟨g,aC,aE,aD,au,av⟩ gl ax lo _ A.out ak aA).mono ?_;rw[hca];unfold cu;rintro e aG ⟨rfl,a⟩;have V:=O (z.out.trans a);have aV:=O (A.out.ext a);have aX:=O (ad.out.ext ((Z _ _).trans (ac.out.trans a)));clear a));go_roundw
         case rel=>exact⟨o+1,by go_num,by omega,O (j.out.symm.trans ai.out),V,aV,aX⟩
         case measure=>simp[intOf];omega
        |error q=>
         obtain⟨aK,n⟩:=q;rw[hca]at j;have j:=O j;have af:=O (show ah=.error (aK,n)from ai.out.symm.trans j.out);go_wp2_with (first|(go_at_call 55;refine(w.out _).mono ?_;rintro e aj ⟨rfl,a⟩;have z:=O (ab.out.trans a);have ac:=O a;have al:=(K.out.ext a).cell;have R:=(ad.out.ext ((Z _ _).trans a)).cell;have A:=O (G.out.ext a);clear a w)|(go_at_call 120;refine(eR ⟨g,aC,aE,aD,au,av⟩ gl ax lo _ A.out ak aA).mono ?_;rw[hca];unfold cu bq;rintro e aG ⟨rfl,a⟩;have V:=O (z.out.trans a);clear a));exact⟨rfl,by rw[af.out];rfl,V.out⟩
       ·have bO:(I !=3)=true:=by simpa using hk3
        have bQ:(I==3)=false:=by simpa using hk3
        simp[qE,hk3]at j;have j:=O j;have af:=O (show ah=.error (nm,16)from ai.out.symm.trans j.out);go_wp2_with (first|(go_at_call 55;refine(w.out _).mono ?_;rintro e aj ⟨rfl,a⟩;have z:=O (ab.out.trans a);have ac:=O a;have al:=(K.out.ext a).cell;have R:=(ad.out.ext ((Z _ _).trans a)).cell;have A:=O (G.out.ext a);clear a w)|(go_at_call 73;refine(aq.out _ _).mono ?_;unfold bq;rintro e bt ⟨rfl,a⟩;have V:=O (z.out.trans a);clear a aq));exact⟨rfl,by rw[af.out];rfl,V.out⟩
      ·have ar: ∀X,(Instr.index 9 (.string (J ls)) (.int i64 (o:Int))).run prog X=.ok (.int .u8 98) X:=ar;by_cases hk3:I=3
       ·subst hk3;simp[qE]at j
        cases hca:md gl lo ak with
        |ok u=>
         rw[hca]at j;have j:=O j;go_wp2_with (first|(go_at_call 55;refine(w.out _).mono ?_;rintro e aj ⟨rfl,a⟩;have z:=O (ab.out.trans a);have ac:=O a;have al:=(K.out.ext a).cell;have R:=(ad.out.ext ((Z _ _).trans a)).cell;have A:=O (G.out.ext a);clear a w)|(go_at_call 120;refine(eR ⟨g,aC,aE,aD,au,av⟩ gl ax lo _ A.out ak aA).mono ?_;rw[hca];unfold cu;rintro e aG ⟨rfl,a⟩;have V:=O (z.out.trans a);have aV:=O (A.out.ext a);have aX:=O (ad.out.ext ((Z _ _).trans (ac.out.trans a)));clear a));go_roundw
         case rel=>exact⟨o+1,by go_num,by omega,O (j.out.symm.trans ai.out),V,aV,aX⟩
         case measure=>simp[intOf];omega
        |error q=>
         obtain⟨aK,n⟩:=q;rw[hca]at j;have j:=O j;have af:=O (show ah=.error (aK,n)from ai.out.symm.trans j.out);go_wp2_with (first|(go_at_call 55;refine(w.out _).mono ?_;rintro e aj ⟨rfl,a⟩;have z:=O (ab.out.trans a);have ac:=O a;have al:=(K.out.ext a).cell;have R:=(ad.out.ext ((Z _ _).trans a)).cell;have A:=O (G.out.ext a);clear a w)|(go_at_call 120;refine(eR ⟨g,aC,aE,aD,au,av⟩ gl ax lo _ A.out ak aA).mono ?_;rw[hca];unfold cu bq;rintro e aG ⟨rfl,a⟩;have V:=O (z.out.trans a);clear a));exact⟨rfl,by rw[af.out];rfl,V.out⟩
       ·have bO:(I !=3)=true:=by simpa using hk3
        have bQ:(I==3)=false:=by simpa using hk3
        by_cases hk2:I=2
        ·subst hk2;simp[qE]at j;have j:=O j;go_wp2_with (go_at_call 55;refine(w.out _).mono ?_;rintro e aj ⟨rfl,a⟩;have z:=O (ab.out.trans a);have ac:=O a;have al:=(K.out.ext a).cell;have R:=(ad.out.ext ((Z _ _).trans a)).cell;have A:=O (G.out.ext a);clear a w);go_roundw
         case rel=>exact⟨o+1,by go_num,by omega,O (j.out.symm.trans ai.out),z,A,O (ad.out.ext ((Z _ _).trans ac.out))⟩
         case measure=>simp[intOf];omega
        ·have bP:(I !=2)=true:=by simpa using hk2
         have bR:(I==2)=false:=by simpa using hk2
         simp[qE,hk3,hk2]at j;have j:=O j;have af:=O (show ah=.error (nm,16)from ai.out.symm.trans j.out);go_wp2_with (first|(go_at_call 55;refine(w.out _).mono ?_;rintro e aj ⟨rfl,a⟩;have z:=O (ab.out.trans a);have ac:=O a;have al:=(K.out.ext a).cell;have R:=(ad.out.ext ((Z _ _).trans a)).cell;have A:=O (G.out.ext a);clear a w)|(go_at_call 73;refine(aq.out _ _).mono ?_;unfold bq;rintro e bt ⟨rfl,a⟩;have V:=O (z.out.trans a);clear a aq));exact⟨rfl,by rw[af.out];rfl,V.out⟩
    ·have bW: ¬(o:Int)<N:=Qa
     have af:=O (show ah=.ok () by
      have:=ai.out;rw[aL (by have:=bH.out;omega),oU]at this
      exact this.symm)
     go_wp2_with fail;exact bodyPost_end (results_none rfl _ _ _) rfl ⟨by rw[af.out];rfl,ap.out⟩
  ·have br:=O (show ah=.error (nm,16) by rw[bc.out,if_neg hkN]);have cc:((ls.length:Int) !=(N:Int))=true:=Qh
   have ca:((ls.length:Int)==(N:Int))=false:=Qh
   clear bL bK bc;go_enter func185,ntmps185;go_wp2_with (go_at_call 22;refine be.out.mono ?_;rintro e bh ⟨rfl,a⟩;have ab:=O (bd.out.trans a);have K:=O (bg.out.ext a);have R:=K.out.cell;have G:=O (aW.out.ext a);clear a be bg aW bd);refine aB 12 1 [] mixed Qb trivial ?_;repeat (refine sx ?_ (λbh ao=> ?_) ?_;rotate_left;(focus have R:=(K.out.ext ao.un).cell;have b0:=(G.out.ext ao.un).blk.cell;have aR:=(G.out.ext ao.un).lookF bx;rw[bA]at aR;simp only[bM,eC,c8,dq]at aR;clear ao;go_simp<;>with_reducible rfl);simp only[a8,a7,a6,aZ,aY])
   intro bN an _;simp only[ae,aQ];have bp:=O (ab.out.trans an.un);have bI:=O (G.out.ext an.un);have bf:=O (K.out.ext an.un);clear R;have R:=bf.out.cell;clear an ab G K;go_wp2_with (go_at_call 73;refine(aq.out _ _).mono ?_;unfold bq;rintro e aj ⟨rfl,a⟩;have V:=O (bp.out.trans a);clear a aq);exact⟨rfl,by rw[br.out];rfl,V.out⟩
theorem uM (k:Int) (op nm tx:List UInt8) (v:Int) (xs:List Ex) (ah:nm.length<=1073741824) (af:Ef xs) (ao:k=5->Id op nm tx v xs):FZ (.mk k op nm tx v xs):=by
 intro I gl R lo P M z n c X V;obtain⟨aq,aj⟩: ∃ar,oM gl lo (.mk k op nm tx v xs)=ar:=⟨_,rfl⟩
 have ad:=O (aj.symm.trans (oM.eq_1 gl lo k op nm tx v xs));simp only[Ex.k,Ex.op,Ex.nm,Ex.tx,Ex.v,Ex.args]at*;rw[aj];clear aj;by_cases h3:k=3
 ·subst h3;have a:=ad.out;rw[if_pos rfl]at a;have j:=O (Z M (.cells #[.int i64 3,.string (J op),.string (J nm),.string (J tx),.int i64 v,.slice z n c] 70));have G:=aw M 70 #[.int i64 3,.string (J op),.string (J nm),.string (J tx),.int i64 v,.slice z n c];have ae:=O G;have A:=O (X.ext j.out);have ab:=O (V.keep (.of_ext j.out) (Q:=P) (λb K _=>K));clear X V G
  cases hr:qb gl lo nm with
  |ok u=>
   have w:=O (a.trans hr);go_enter func156,ntmps156;go_wp2_with (go_at_call 119;refine(fQ I gl R lo _ A.out nm ah).mono ?_;rw[hr];unfold cu;rintro e ac ⟨rfl,a⟩;have o:=O (j.out.trans a);clear a);exact bodyPost_end (results_none rfl _ _ _) rfl ⟨by rw[w.out];rfl,o.out⟩
  |error q=>
   obtain⟨ag,m⟩:=q;have w:=O (a.trans hr);go_enter func156,ntmps156;go_wp2_with (go_at_call 119;refine(fQ I gl R lo _ A.out nm ah).mono ?_;rw[hr];unfold cu bq;rintro e ac ⟨rfl,a⟩;have o:=O (j.out.trans a);clear a);exact⟨rfl,by rw[w.out];rfl,o.out⟩
 by_cases h4:k=4
 ·subst h4;have a:=ad.out;rw[if_neg Qc,if_pos rfl]at a;have j:=O (Z M (.cells #[.int i64 4,.string (J op),.string (J nm),.string (J tx),.int i64 v,.slice z n c] 70));have G:=aw M 70 #[.int i64 4,.string (J op),.string (J nm),.string (J tx),.int i64 v,.slice z n c];have ae:=O G;have A:=O (X.ext j.out);have ab:=O (V.keep (.of_ext j.out) (Q:=P) (λb K _=>K));clear X V G
  cases hr:md gl lo nm with
  |ok u=>
   rw[hr,e_]at a
   cases hs:oL gl lo xs with
   |ok u=>
    have w:=O (a.trans hs);go_enter func156,ntmps156;go_wp2_with (first|(go_at_call 120;refine(eR I gl R lo _ A.out nm ah).mono ?_;rw[hr];unfold cu;rintro e ac ⟨rfl,a⟩;have o:=O (j.out.trans a);have ai:=O a;have ap:=(ae.out.ext a).cell;clear a)|(go_at_call 121;refine(af I gl R lo P _ z n c (A.out.ext ai.out) (ab.out.keep (.of_ext ai.out) (λb K _=>K))).mono ?_;rw[hs];unfold cu;rintro e an ⟨rfl,a⟩;have ak:=O (o.out.trans a);clear a));exact bodyPost_end (results_none rfl _ _ _) rfl ⟨by rw[w.out];rfl,ak.out⟩
   |error q=>
    obtain⟨ag,m⟩:=q;have w:=O (a.trans hs);go_enter func156,ntmps156;go_wp2_with (first|(go_at_call 120;refine(eR I gl R lo _ A.out nm ah).mono ?_;rw[hr];unfold cu;rintro e ac ⟨rfl,a⟩;have o:=O (j.out.trans a);have ai:=O a;have ap:=(ae.out.ext a).cell;clear a)|(go_at_call 121;refine(af I gl R lo P _ z n c (A.out.ext ai.out) (ab.out.keep (.of_ext ai.out) (λb K _=>K))).mono ?_;rw[hs];unfold cu bq;rintro e an ⟨rfl,a⟩;have ak:=O (o.out.trans a);clear a));exact⟨rfl,by rw[w.out];rfl,ak.out⟩
  |error q=>
   obtain⟨ag,m⟩:=q;rw[hr,gE]at a;have w:=O a;go_enter func156,ntmps156;go_wp2_with (go_at_call 120;refine(eR I gl R lo _ A.out nm ah).mono ?_;rw[hr];unfold cu bq;rintro e ac ⟨rfl,a⟩;have o:=O (j.out.trans a);clear a);exact⟨rfl,by rw[w.out];rfl,o.out⟩
 by_cases h2:k=2
 ·subst h2;have a:=ad.out;rw[if_neg Qc,if_neg Qc,if_pos rfl]at a;have w:=O a;have j:=O (Z M (.cells #[.int i64 2,.string (J op),.string (J nm),.string (J tx),.int i64 v,.slice z n c] 70));have G:=aw M 70 #[.int i64 2,.string (J op),.string (J nm),.string (J tx),.int i64 v,.slice z n c];have ae:=O G;have A:=O (X.ext j.out);have ab:=O (V.keep (.of_ext j.out) (Q:=P) (λb K _=>K));clear X V G;have au:=O (λW=>show Calls prog 73 #[.string ⟨#[]⟩,.int i64 16] W λe w'=>e=bq [] 16/\az W w' from eD [] 16 W);go_enter func156,ntmps156;go_wp2_with (go_at_call 73;refine(au.out _).mono ?_;unfold bq;rintro e ac ⟨rfl,a⟩;have o:=O (j.out.trans a);clear a);exact⟨rfl,by rw[w.out];rfl,o.out⟩
 by_cases h5:k=5
 ·subst h5;have al:=O (ao rfl);have ad:=O (show oM gl lo (.mk 5 op nm tx v xs)=aq by rw[ad.out,oM]);have j:=O (Z M (.cells #[.int i64 5,.string (J op),.string (J nm),.string (J tx),.int i64 v,.slice z n c] 70));have G:=aw M 70 #[.int i64 5,.string (J op),.string (J nm),.string (J tx),.int i64 v,.slice z n c];have ae:=O G;have A:=O (X.ext j.out);have ab:=O (V.keep (.of_ext j.out) (Q:=P) (λb K _=>K));clear X V G
  cases hr:oM gl lo (.mk 5 op nm tx v xs)with
  |ok u=>
   have w:=O (ad.out.symm.trans hr);go_enter func156,ntmps156;go_wp2_with (go_at_call 185;refine(al.out I gl R lo P _ z n c A.out ab.out).mono ?_;rw[hr];unfold cu;rintro e ac ⟨rfl,a⟩;have o:=O (j.out.trans a);clear a);exact bodyPost_end (results_none rfl _ _ _) rfl ⟨by rw[w.out];rfl,o.out⟩
  |error q=>
   obtain⟨ag,m⟩:=q;have w:=O (ad.out.symm.trans hr);go_enter func156,ntmps156;go_wp2_with (go_at_call 185;refine(al.out I gl R lo P _ z n c A.out ab.out).mono ?_;rw[hr];unfold cu bq;rintro e ac ⟨rfl,a⟩;have o:=O (j.out.trans a);clear a);exact⟨rfl,by rw[w.out];rfl,o.out⟩
 by_cases h6:k=6
 ·subst h6;have a:=ad.out;rw[if_neg Qc,if_neg Qc,if_neg Qc,if_neg Qc,if_pos Qc]at a;have j:=O (Z M (.cells #[.int i64 6,.string (J op),.string (J nm),.string (J tx),.int i64 v,.slice z n c] 70));have G:=aw M 70 #[.int i64 6,.string (J op),.string (J nm),.string (J tx),.int i64 v,.slice z n c];have ae:=O G;have A:=O (X.ext j.out);have ab:=O (V.keep (.of_ext j.out) (Q:=P) (λb K _=>K));clear X V G
  cases hr:oL gl lo xs with
  |ok u=>
   have w:=O (a.trans hr);go_enter func156,ntmps156;go_wp2_with (go_at_call 121;refine(af I gl R lo P _ z n c A.out ab.out).mono ?_;rw[hr];unfold cu;rintro e ac ⟨rfl,a⟩;have o:=O (j.out.trans a);clear a);exact bodyPost_end (results_none rfl _ _ _) rfl ⟨by rw[w.out];rfl,o.out⟩
  |error q=>
   obtain⟨ag,m⟩:=q;have w:=O (a.trans hr);go_enter func156,ntmps156;go_wp2_with (go_at_call 121;refine(af I gl R lo P _ z n c A.out ab.out).mono ?_;rw[hr];unfold cu bq;rintro e ac ⟨rfl,a⟩;have o:=O (j.out.trans a);clear a);exact⟨rfl,by rw[w.out];rfl,o.out⟩
 by_cases h7:k=7
 ·subst h7;have a:=ad.out;rw[if_neg Qc,if_neg Qc,if_neg Qc,if_neg Qc,if_pos Qc]at a;have j:=O (Z M (.cells #[.int i64 7,.string (J op),.string (J nm),.string (J tx),.int i64 v,.slice z n c] 70));have G:=aw M 70 #[.int i64 7,.string (J op),.string (J nm),.string (J tx),.int i64 v,.slice z n c];have ae:=O G;have A:=O (X.ext j.out);have ab:=O (V.keep (.of_ext j.out) (Q:=P) (λb K _=>K));clear X V G
  cases hr:oL gl lo xs with
  |ok u=>
   have w:=O (a.trans hr);go_enter func156,ntmps156;go_wp2_with (go_at_call 121;refine(af I gl R lo P _ z n c A.out ab.out).mono ?_;rw[hr];unfold cu;rintro e ac ⟨rfl,a⟩;have o:=O (j.out.trans a);clear a);exact bodyPost_end (results_none rfl _ _ _) rfl ⟨by rw[w.out];rfl,o.out⟩
  |error q=>
   obtain⟨ag,m⟩:=q;have w:=O (a.trans hr);go_enter func156,ntmps156;go_wp2_with (go_at_call 121;refine(af I gl R lo P _ z n c A.out ab.out).mono ?_;rw[hr];unfold cu bq;rintro e ac ⟨rfl,a⟩;have o:=O (j.out.trans a);clear a);exact⟨rfl,by rw[w.out];rfl,o.out⟩
 have a:=ad.out;rw[if_neg h3,if_neg h4,if_neg h2,if_neg h5,if_neg Qa]at a;have w:=O a;have o:=O (Z M (.cells #[.int i64 k,.string (J op),.string (J nm),.string (J tx),.int i64 v,.slice z n c] 70));have aB:=Ql.2 h3;have aA:=Ql.2 h4;have aC:=Ql.2 h2;have ay:=Ql.2 h5;have ax:=Ql.2 h6;have av:=Ql.2 h7;clear X V;go_enter func156,ntmps156;go_wp2_with fail;exact bodyPost_end (results_none rfl _ _ _) rfl ⟨by rw[w.out];rfl,o.out⟩
theorem qL: ∀(m:Nat) (x:Ex),x.wt<=m->x.wt<=1073741824->FZ x
 |0,x,h,_=>absurd h (by have:=x.wt_eq;omega)
 |m+1,.mk k op nm tx v xs,h,hw=>by
  rw[Ex.wt]at h hw;have j: ∀y∈xs,FZ y:=λy a=>qL m y (by have:=dG a;omega) (by have:=dG a;omega);have A:=dH xs;have w: ∀y∈xs,y.nm.length<=1073741824:=λy a=>by have:=dG a;have:=y.wt_eq;omega
  refine uM k op nm tx v xs Qa (ro xs Qa j) λG=> ?_
  cases hb:fp nm with
  |none=>exact uO op nm tx v xs Qa Qa hb j
  |some b=>
   obtain⟨z,ls⟩:=b;have o:=sM nm;rw[hb]at o;exact uN op nm tx v xs Qa Qa z ls hb o j w
theorem uL (xs:List Ex) (h:gA xs<=1073741824):Ef xs:=ro xs (by have:=dH xs;omega) λy a=>qL _ y (ak _) (by have:=dG a;omega)
def qm (X:CB) (gl:Gl) (bl:Nat) (r:SR) (w:World) (e:Ending) (w':World):Prop:=w.grownBy w' (some bl)/\match r with
 | .ok lo=>e=.returned (.tuple #[])/\CK X gl (.map (some bl)) lo w'
 | .error (nm,n)=>e=bq nm n
section
variable {X:CB} {gl:Gl} {lo lo':Ls} {w W W':World} {bl pb:Nat} {P:Nat->Prop}
theorem CK.ml (a:CK X gl (.map (some bl)) lo w):cd w bl (Fk lo)/\bl≠X.g/\bl≠X.bi/\bl≠X.ba/\bl≠X.bf:=by
 rcases a.l with⟨a,_⟩|⟨b,a,hm⟩
 ·cases a
 ·injection a with a;injection a with a;subst a;exact hm
theorem CK.lt_bl (a:CK X gl (.map (some bl)) lo w):bl<w.heap.size:=a.ml.1.lt
theorem CK.t_ne (h:CK X gl (.map (some bl)) lo w):bl≠0:=by
 rintro rfl;obtain⟨t,fr,j⟩:=h.t;obtain⟨es,c,a,_⟩:=h.ml.1;rw[j]at a;cases a
theorem CK.add {nm:List UInt8} (h:CK X gl (.map (some bl)) lo w) (O:cd W bl ((Fk lo).upd nm (.bool true))) (o:w.grownBy W (some bl)):CK X gl (.map (some bl)) (lo.add nm) W:=by
 obtain⟨V,M,K,G,A⟩:=h.ml;have j: ∀k,bl≠k->some k≠some bl:=λk R e=>R (by injection e with e;exact e.symm);refine⟨h.blk.grown o (j _ M),h.i.grown o (j _ K),h.a.grown o (j _ G),h.f.grown o (j _ A),.inr ⟨bl,rfl,O.congr λs=> ?_,M,K,G,A⟩,?_⟩
 ·unfold KF.upd Fk Ls.add;by_cases e:s=nm
  ·subst e;simp
  ·simp[e]
 ·obtain⟨t,fr,z⟩:=h.t;exact⟨t,fr,(o.block _ (Array.getElem?_eq_some_iff.1 z).1 (j _ h.t_ne)).trans z⟩
structure SQ (w:World) (pb bl:Nat) (P:Nat->Prop) (X:CB) (gl:Gl) (lo:Ls) (cs:Array Value) (ex:List Ex) (bd el:List St) (A1 A2 A3:Option Addr) (c1 c2 c3:Nat) (W:World):Prop where
 gr:w.grownBy W (some bl)
 ck:CK X gl (.map (some bl)) lo W
 bk:aU W pb 72 cs
 re:c7 W P (.slice A1 ex.length c1) ex
 rb:db W P (.slice A2 bd.length c2) bd
 rl:db W P (.slice A3 el.length c3) el
 hP: ∀b,P b->b≠bl
 ne:bl≠pb
variable {cs:Array Value} {ex:List Ex} {bd el:List St} {A1 A2 A3:Option Addr} {c1 c2 c3:Nat}
theorem SQ.ext (a:SQ w pb bl P X gl lo cs ex bd el A1 A2 A3 c1 c2 c3 W) (h:az W W'):SQ w pb bl P X gl lo cs ex bd el A1 A2 A3 c1 c2 c3 W':=
 ⟨a.gr.trans (h.grownBy _),a.ck.ext h,a.bk.ext h,a.re.keep (.of_ext h) (λb j _=>j),a.rb.keep (.of_ext h) (λb j _=>j),a.rl.keep (.of_ext h) (λb j _=>j),a.hP,a.ne⟩
theorem SQ.grown (a:SQ w pb bl P X gl lo cs ex bd el A1 A2 A3 c1 c2 c3 W) (o:W.grownBy W' (some bl)) (z:CK X gl (.map (some bl)) lo' W'):SQ w pb bl P X gl lo' cs ex bd el A1 A2 A3 c1 c2 c3 W':=by
 have j:cR P W W':=.of_grown o (λb h e=>a.hP b h (by injection e));exact⟨a.gr.trans o,z,a.bk.grown o (λe=>a.ne (by injection e with e;exact e.symm)),a.re.keep j (λb h _=>h),a.rb.keep j (λb h _=>h),a.rl.keep j (λb h _=>h),a.hP,a.ne⟩
theorem SQ.ml (a:SQ w pb bl P X gl lo cs ex bd el A1 A2 A3 c1 c2 c3 W):cd W bl (Fk lo):=a.ck.ml.1
end
theorem yS {gl:Gl} {lo:Ls} {l:List St} {a:Nat} (j:a<l.length):gm gl lo (l.drop a)=CR.then (sJ gl lo l[a]) λh=>gm gl h (l.drop (a+1)):=by
 rw[aD j,gm]
def Ee (xs:List St):Prop:= ∀(X:CB) (gl:Gl) (bl:Nat) (lo:Ls) (P:Nat->Prop) (w:World) (A:Option Addr) (n c:Nat),CK X gl (.map (some bl)) lo w->db w P (.slice A n c) xs->(∀b,P b->b≠bl)->
 Calls prog 74 #[X.p,.slice A n c] w (qm X gl bl (gm gl lo xs) w)
theorem py (xs:List St) (bx:xs.length<=1073741824) (bd: ∀s∈xs,s.nm.length<=1073741824) (bg: ∀s∈xs,Ef s.ex) (bf: ∀s∈xs,Ee s.body/\Ee s.els):Ee xs:=by
 intro K gl ac lo P aS bS n c be a2 af;obtain⟨bR,bP,bv,bz⟩:=a2.form;injection bv with bu bt br;subst bu bt br;have a4:=O a2;have bo:=O bf;have bm:=O bd;have bp:=O bg;have bD:=O be;obtain⟨N,aT⟩: ∃N,xs.length=N:=⟨_,rfl⟩
 have bn:=O aT;rw[aT]at a4 bx;obtain⟨al,a1⟩: ∃bA,gm gl lo xs=bA:=⟨_,rfl⟩
 have bC:=O (show gm gl lo (xs.drop 0)=al from a1);have bB:=O (World.grownBy.refl aS (some ac));clear a2 bz bf be bd bg;rw[aT,a1];clear aT a1;simp only[CB.p]at*;go_enter func74,ntmps74;go_wp2_with fail
 go_loopw [8] (λaX wr=> ∃(ax:Nat) (z:Ls),aX=.int i64 (ax:Int)/\ax<=N/\Hid (gm gl z (xs.drop ax)=al)/\Hid (aS.grownBy wr (some ac))/\Hid (CK K gl (.map (some ac)) z wr)) (λaX _=>N-(intOf aX).toNat)
 case atStart=>exact⟨0,lo,rfl,aI _,bC,bB,bD⟩
 case round=>
  obtain⟨ax,z,rfl,bJ,aj,a3,a5⟩:=hrel;by_cases hlt:ax<N
  ·have bw:(ax:Int)<N:=Qa
   have aM:ax<xs.length:=by have:=bn.out;omega
   obtain⟨b,bE,e,bQ,bI,rfl,ak,aQ,aW,aV,bj,bi,bh,aO,aP,aN⟩:=a4.out.at_ ax aM;have A:=yS (gl:=gl) (lo:=z) aM;have ao:=bm.out _ (ay aM);have aU:=bp.out _ (ay aM);have aR:=bo.out _ (ay aM);obtain⟨y,bc⟩: ∃y,xs[ax]=y:=⟨_,rfl⟩
   rw[bc]at aW aV aO aP aN A ao aU aR;clear bc;obtain⟨k,nm,ab,ai,ap⟩:=y;simp only[St.k,St.nm,St.ex,St.body,St.els]at aW aV aO aP aN ao aU aR;have aF:cR P aS wr:=.of_grown a3.out (λb ak e=>af b ak (by injection e));have bO:=(aF.cell _ aQ ak).trans aW;have bN:=(aF.cell _ aQ ak).trans aV;have bM:=(aF.cell _ aQ ak).trans bj;have bL:=(aF.cell _ aQ ak).trans bi;have bK:=(aF.cell _ aQ ak).trans bh;obtain⟨ah,ag,rfl,_⟩:=aO.form;obtain⟨av,aq,rfl,_⟩:=aP.form;obtain⟨aA,az,rfl,_⟩:=aN.form;have aK:=Z wr (.cells #[.int i64 k,.string (J nm),.slice ah ab.length ag,.slice av ai.length aq,.slice aA ap.length az] 72)
   have a:=O (show SQ aS wr.heap.size ac P K gl z #[.int i64 k,.string (J nm),.slice ah ab.length ag,.slice av ai.length aq,.slice aA ap.length az] ab ai ap ah av aA ag aq az (wr.alloc (.cells #[.int i64 k,.string (J nm),.slice ah ab.length ag,.slice av ai.length aq,.slice aA ap.length az] 72))from
    ⟨a3.out.trans (aK.grownBy _),a5.out.ext aK,aw wr _ _,(aO.keep aF (Q:=P) (λb ak _=>ak)).keep (.of_ext aK) (λb ak _=>ak),(aP.keep aF (Q:=P) (λb ak _=>ak)).keep (.of_ext aK) (λb ak _=>ak),(aN.keep aF (Q:=P) (λb ak _=>ak)).keep (.of_ext aK) (λb ak _=>ak),af,na a5.out.lt_bl⟩)
   have an:=O aU;have ad:=O aR.1;have ar:=O aR.2;clear aW aV bj bi bh aO aP aN aU aR aK aF a4 bo bp bm;rw[sJ]at A;by_cases hk2:k=2
   ·subst hk2;rw[if_pos rfl]at A
    cases hr1:qb gl z nm with
    |error q=>
     obtain⟨I,m⟩:=q;rw[hr1,gE]at A;have V:=O (show al=.error (I,m)from aj.out.symm.trans A);go_wp2_with (go_at_call 119;refine(fQ K gl _ z _ a.out.ck nm ao).mono ?_;rw[hr1];unfold cu bq;rintro e M ⟨rfl,j⟩;have X:=O (a.out.gr.trans (j.grownBy _));clear j);exact⟨rfl,by rw[V.out];exact⟨X.out,rfl⟩⟩
    |ok u=>
     rw[hr1,e_]at A
     cases hr2:oL gl z ab with
     |error q=>
      obtain⟨I,m⟩:=q;rw[hr2,gE]at A;have V:=O (show al=.error (I,m)from aj.out.symm.trans A);go_wp2_with (first|(go_at_call 119;refine(fQ K gl _ z _ a.out.ck nm ao).mono ?_;rw[hr1];unfold cu;rintro e M ⟨rfl,j⟩;replace a:=O (a.out.ext j);clear j;(try clear o);have o:=a.out.bk.cell;)|(go_at_call 121;refine(an.out K gl _ z P _ ah ab.length ag a.out.ck a.out.re).mono ?_;rw[hr2];unfold cu bq;rintro e M ⟨rfl,j⟩;have X:=O (a.out.gr.trans (j.grownBy _));clear j));exact⟨rfl,by rw[V.out];exact⟨X.out,rfl⟩⟩
     |ok u=>
      rw[hr2,e_]at A;rw[if_neg Qc,e_]at A;obtain⟨aJ,aE⟩: ∃l,z=l:=⟨_,rfl⟩
      subst aE
      cases hr4:gm gl z ai with
      |error q=>
       obtain⟨I,m⟩:=q;rw[hr4,gE]at A;have V:=O (show al=.error (I,m)from aj.out.symm.trans A);go_wp2_with (first|(go_at_call 119;refine(fQ K gl _ z _ a.out.ck nm ao).mono ?_;rw[hr1];unfold cu;rintro e M ⟨rfl,j⟩;replace a:=O (a.out.ext j);clear j;(try clear o);have o:=a.out.bk.cell;)|(go_at_call 121;refine(an.out K gl _ z P _ ah ab.length ag a.out.ck a.out.re).mono ?_;rw[hr2];unfold cu;rintro e M ⟨rfl,j⟩;replace a:=O (a.out.ext j);clear j;(try clear o);have o:=a.out.bk.cell;)|(go_at_call 74;have w:=ad.out K gl ac z P _ av ai.length aq a.out.ck a.out.rb af;rw[hr4]at w;clear ad;refine w.mono ?_;unfold qm bq;rintro e M ⟨G,rfl⟩;have X:=O (a.out.gr.trans G);clear G w));exact⟨rfl,by rw[V.out];exact⟨X.out,rfl⟩⟩
      |ok lo2=>
       rw[hr4,e_]at A
       cases hr5:gm gl lo2 ap with
       |error q=>
        obtain⟨I,m⟩:=q;rw[hr5,gE]at A;have V:=O (show al=.error (I,m)from aj.out.symm.trans A);go_wp2_with (first|(go_at_call 119;refine(fQ K gl _ z _ a.out.ck nm ao).mono ?_;rw[hr1];unfold cu;rintro e M ⟨rfl,j⟩;replace a:=O (a.out.ext j);clear j;(try clear o);have o:=a.out.bk.cell;)|(go_at_call 121;refine(an.out K gl _ z P _ ah ab.length ag a.out.ck a.out.re).mono ?_;rw[hr2];unfold cu;rintro e M ⟨rfl,j⟩;replace a:=O (a.out.ext j);clear j;(try clear o);have o:=a.out.bk.cell;)|(go_at_call 74;have w:=ad.out K gl ac z P _ av ai.length aq a.out.ck a.out.rb af;rw[hr4]at w;clear ad;refine w.mono ?_;unfold qm;rintro e M ⟨G,rfl,R⟩;replace a:=O (a.out.grown G R);clear G R w;(try clear o);have o:=a.out.bk.cell;)|(go_at_call 74;have w:=ar.out K gl ac lo2 P _ aA ap.length az a.out.ck a.out.rl af;rw[hr5]at w;clear ar;refine w.mono ?_;unfold qm bq;rintro e M ⟨G,rfl⟩;have X:=O (a.out.gr.trans G);clear G w));exact⟨rfl,by rw[V.out];exact⟨X.out,rfl⟩⟩
       |ok lo3=>
        rw[hr5,e_]at A;go_wp2_with (first|(go_at_call 119;refine(fQ K gl _ z _ a.out.ck nm ao).mono ?_;rw[hr1];unfold cu;rintro e M ⟨rfl,j⟩;replace a:=O (a.out.ext j);clear j;(try clear o);have o:=a.out.bk.cell;)|(go_at_call 121;refine(an.out K gl _ z P _ ah ab.length ag a.out.ck a.out.re).mono ?_;rw[hr2];unfold cu;rintro e M ⟨rfl,j⟩;replace a:=O (a.out.ext j);clear j;(try clear o);have o:=a.out.bk.cell;)|(go_at_call 74;have w:=ad.out K gl ac z P _ av ai.length aq a.out.ck a.out.rb af;rw[hr4]at w;clear ad;refine w.mono ?_;unfold qm;rintro e M ⟨G,rfl,R⟩;replace a:=O (a.out.grown G R);clear G R w;(try clear o);have o:=a.out.bk.cell;)|(go_at_call 74;have w:=ar.out K gl ac lo2 P _ aA ap.length az a.out.ck a.out.rl af;rw[hr5]at w;clear ar;refine w.mono ?_;unfold qm;rintro e M ⟨G,rfl,R⟩;replace a:=O (a.out.grown G R);clear G R w;(try clear o);have o:=a.out.bk.cell;));go_roundw
        case rel=>exact⟨ax+1,lo3,by go_num,by omega,O (A.symm.trans aj.out),O a.out.gr,O a.out.ck⟩
        case measure=>simp[intOf];omega
   by_cases hk3:k=3
   ·subst hk3;rw[if_neg Qc,if_pos rfl]at A
    cases hr1:md gl z nm with
    |error q=>
     obtain⟨I,m⟩:=q;rw[hr1,gE]at A;have V:=O (show al=.error (I,m)from aj.out.symm.trans A);go_wp2_with (go_at_call 120;refine(eR K gl _ z _ a.out.ck nm ao).mono ?_;rw[hr1];unfold cu bq;rintro e M ⟨rfl,j⟩;have X:=O (a.out.gr.trans (j.grownBy _));clear j);exact⟨rfl,by rw[V.out];exact⟨X.out,rfl⟩⟩
    |ok u=>
     rw[hr1,e_]at A
     cases hr2:oL gl z ab with
     |error q=>
      obtain⟨I,m⟩:=q;rw[hr2,gE]at A;have V:=O (show al=.error (I,m)from aj.out.symm.trans A);go_wp2_with (first|(go_at_call 120;refine(eR K gl _ z _ a.out.ck nm ao).mono ?_;rw[hr1];unfold cu;rintro e M ⟨rfl,j⟩;replace a:=O (a.out.ext j);clear j;(try clear o);have o:=a.out.bk.cell;)|(go_at_call 121;refine(an.out K gl _ z P _ ah ab.length ag a.out.ck a.out.re).mono ?_;rw[hr2];unfold cu bq;rintro e M ⟨rfl,j⟩;have X:=O (a.out.gr.trans (j.grownBy _));clear j));exact⟨rfl,by rw[V.out];exact⟨X.out,rfl⟩⟩
     |ok u=>
      rw[hr2,e_]at A;rw[if_neg Qc,e_]at A;obtain⟨aJ,aE⟩: ∃l,z=l:=⟨_,rfl⟩
      subst aE
      cases hr4:gm gl z ai with
      |error q=>
       obtain⟨I,m⟩:=q;rw[hr4,gE]at A;have V:=O (show al=.error (I,m)from aj.out.symm.trans A);go_wp2_with (first|(go_at_call 120;refine(eR K gl _ z _ a.out.ck nm ao).mono ?_;rw[hr1];unfold cu;rintro e M ⟨rfl,j⟩;replace a:=O (a.out.ext j);clear j;(try clear o);have o:=a.out.bk.cell;)|(go_at_call 121;refine(an.out K gl _ z P _ ah ab.length ag a.out.ck a.out.re).mono ?_;rw[hr2];unfold cu;rintro e M ⟨rfl,j⟩;replace a:=O (a.out.ext j);clear j;(try clear o);have o:=a.out.bk.cell;)|(go_at_call 74;have w:=ad.out K gl ac z P _ av ai.length aq a.out.ck a.out.rb af;rw[hr4]at w;clear ad;refine w.mono ?_;unfold qm bq;rintro e M ⟨G,rfl⟩;have X:=O (a.out.gr.trans G);clear G w));exact⟨rfl,by rw[V.out];exact⟨X.out,rfl⟩⟩
      |ok lo2=>
       rw[hr4,e_]at A
       cases hr5:gm gl lo2 ap with
       |error q=>
        obtain⟨I,m⟩:=q;rw[hr5,gE]at A;have V:=O (show al=.error (I,m)from aj.out.symm.trans A);go_wp2_with (first|(go_at_call 120;refine(eR K gl _ z _ a.out.ck nm ao).mono ?_;rw[hr1];unfold cu;rintro e M ⟨rfl,j⟩;replace a:=O (a.out.ext j);clear j;(try clear o);have o:=a.out.bk.cell;)|(go_at_call 121;refine(an.out K gl _ z P _ ah ab.length ag a.out.ck a.out.re).mono ?_;rw[hr2];unfold cu;rintro e M ⟨rfl,j⟩;replace a:=O (a.out.ext j);clear j;(try clear o);have o:=a.out.bk.cell;)|(go_at_call 74;have w:=ad.out K gl ac z P _ av ai.length aq a.out.ck a.out.rb af;rw[hr4]at w;clear ad;refine w.mono ?_;unfold qm;rintro e M ⟨G,rfl,R⟩;replace a:=O (a.out.grown G R);clear G R w;(try clear o);have o:=a.out.bk.cell;)|(go_at_call 74;have w:=ar.out K gl ac lo2 P _ aA ap.length az a.out.ck a.out.rl af;rw[hr5]at w;clear ar;refine w.mono ?_;unfold qm bq;rintro e M ⟨G,rfl⟩;have X:=O (a.out.gr.trans G);clear G w));exact⟨rfl,by rw[V.out];exact⟨X.out,rfl⟩⟩
       |ok lo3=>
        rw[hr5,e_]at A;go_wp2_with (first|(go_at_call 120;refine(eR K gl _ z _ a.out.ck nm ao).mono ?_;rw[hr1];unfold cu;rintro e M ⟨rfl,j⟩;replace a:=O (a.out.ext j);clear j;(try clear o);have o:=a.out.bk.cell;)|(go_at_call 121;refine(an.out K gl _ z P _ ah ab.length ag a.out.ck a.out.re).mono ?_;rw[hr2];unfold cu;rintro e M ⟨rfl,j⟩;replace a:=O (a.out.ext j);clear j;(try clear o);have o:=a.out.bk.cell;)|(go_at_call 74;have w:=ad.out K gl ac z P _ av ai.length aq a.out.ck a.out.rb af;rw[hr4]at w;clear ad;refine w.mono ?_;unfold qm;rintro e M ⟨G,rfl,R⟩;replace a:=O (a.out.grown G R);clear G R w;(try clear o);have o:=a.out.bk.cell;)|(go_at_call 74;have w:=ar.out K gl ac lo2 P _ aA ap.length az a.out.ck a.out.rl af;rw[hr5]at w;clear ar;refine w.mono ?_;unfold qm;rintro e M ⟨G,rfl,R⟩;replace a:=O (a.out.grown G R);clear G R w;(try clear o);have o:=a.out.bk.cell;));go_roundw
        case rel=>exact⟨ax+1,lo3,by go_num,by omega,O (A.symm.trans aj.out),O a.out.gr,O a.out.ck⟩
        case measure=>simp[intOf];omega
   by_cases hk1:k=1
   ·subst hk1;rw[if_neg Qc,if_neg Qc,e_]at A
    cases hr2:oL gl z ab with
    |error q=>
     obtain⟨I,m⟩:=q;rw[hr2,gE]at A;have V:=O (show al=.error (I,m)from aj.out.symm.trans A);go_wp2_with (go_at_call 121;refine(an.out K gl _ z P _ ah ab.length ag a.out.ck a.out.re).mono ?_;rw[hr2];unfold cu bq;rintro e M ⟨rfl,j⟩;have X:=O (a.out.gr.trans (j.grownBy _));clear j);exact⟨rfl,by rw[V.out];exact⟨X.out,rfl⟩⟩
    |ok u=>
     rw[hr2,e_]at A;rw[if_pos rfl]at A
     cases hr3:gl.known z nm with
     |true=>
      rw[hr3,if_pos rfl,gE]at A;have V:=O (show al=.error (nm,9)from aj.out.symm.trans A);go_wp2_with (first|(go_at_call 121;refine(an.out K gl _ z P _ ah ab.length ag a.out.ck a.out.re).mono ?_;rw[hr2];unfold cu;rintro e M ⟨rfl,j⟩;replace a:=O (a.out.ext j);clear j;(try clear o);have o:=a.out.bk.cell;)|(go_at_call 72;refine(eE K gl _ z _ a.out.ck nm ao).mono ?_;rw[hr3];rintro e M ⟨rfl,j⟩;replace a:=O (a.out.ext j);clear j;(try clear o);have o:=a.out.bk.cell;)|(go_at_call 73;refine(eD nm 9 _).mono ?_;unfold bq;rintro e M ⟨rfl,j⟩;have X:=O (a.out.gr.trans (j.grownBy _));clear j));exact⟨rfl,by rw[V.out];exact⟨X.out,rfl⟩⟩
     |false=>
      rw[hr3,if_neg Qc,e_]at A;obtain⟨aJ,aE⟩: ∃l,z.add nm=l:=⟨_,rfl⟩
      rw[aE]at A
      cases hr4:gm gl aJ ai with
      |error q=>
       obtain⟨I,m⟩:=q;rw[hr4,gE]at A;have V:=O (show al=.error (I,m)from aj.out.symm.trans A);go_wp2_with (first|(go_at_call 121;refine(an.out K gl _ z P _ ah ab.length ag a.out.ck a.out.re).mono ?_;rw[hr2];unfold cu;rintro e M ⟨rfl,j⟩;replace a:=O (a.out.ext j);clear j;(try clear o);have o:=a.out.bk.cell;)|(go_at_call 72;refine(eE K gl _ z _ a.out.ck nm ao).mono ?_;rw[hr3];rintro e M ⟨rfl,j⟩;replace a:=O (a.out.ext j);clear j;(try clear o);have o:=a.out.bk.cell;));refine aB 6 1 [] mixed Qb trivial ?_;repeat (refine sx ?_ (λbb aD=> ?_) ?_;rotate_left;(focus have o:=(a.out.ext aD.un).bk.cell;have bl:=(a.out.ext aD.un).ck.blk.cell;clear aD;go_simp<;>with_reducible rfl);simp only[a8,a7,a6,aZ,aY])
       intro ba aG _;simp only[ae,au];replace a:=O (a.out.ext aG.un);clear aG;(try clear o);go_wp2_with (at_mapUpdate;refine cZ Es rfl _ _ _ rfl a.out.ml rfl Qg rfl _ rfl ?_;intro a9 aH aC;replace a:=O (a.out.grown aC (a.out.ck.add aH aC));clear aH aC;have o:=a.out.bk.cell);rw[aE]at a;go_wp2_with (go_at_call 74;have w:=ad.out K gl ac aJ P _ av ai.length aq a.out.ck a.out.rb af;rw[hr4]at w;clear ad;refine w.mono ?_;unfold qm bq;rintro e M ⟨G,rfl⟩;have X:=O (a.out.gr.trans G);clear G w);exact⟨rfl,by rw[V.out];exact⟨X.out,rfl⟩⟩
      |ok lo2=>
       rw[hr4,e_]at A
       cases hr5:gm gl lo2 ap with
       |error q=>
        obtain⟨I,m⟩:=q;rw[hr5,gE]at A;have V:=O (show al=.error (I,m)from aj.out.symm.trans A);go_wp2_with (first|(go_at_call 121;refine(an.out K gl _ z P _ ah ab.length ag a.out.ck a.out.re).mono ?_;rw[hr2];unfold cu;rintro e M ⟨rfl,j⟩;replace a:=O (a.out.ext j);clear j;(try clear o);have o:=a.out.bk.cell;)|(go_at_call 72;refine(eE K gl _ z _ a.out.ck nm ao).mono ?_;rw[hr3];rintro e M ⟨rfl,j⟩;replace a:=O (a.out.ext j);clear j;(try clear o);have o:=a.out.bk.cell;));refine aB 6 1 [] mixed Qb trivial ?_;repeat (refine sx ?_ (λbb aD=> ?_) ?_;rotate_left;(focus have o:=(a.out.ext aD.un).bk.cell;have bl:=(a.out.ext aD.un).ck.blk.cell;clear aD;go_simp<;>with_reducible rfl);simp only[a8,a7,a6,aZ,aY])
        intro ba aG _;simp only[ae,au];replace a:=O (a.out.ext aG.un);clear aG;(try clear o);go_wp2_with (at_mapUpdate;refine cZ Es rfl _ _ _ rfl a.out.ml rfl Qg rfl _ rfl ?_;intro a9 aH aC;replace a:=O (a.out.grown aC (a.out.ck.add aH aC));clear aH aC;have o:=a.out.bk.cell);rw[aE]at a;go_wp2_with (first|(go_at_call 74;have w:=ad.out K gl ac aJ P _ av ai.length aq a.out.ck a.out.rb af;rw[hr4]at w;clear ad;refine w.mono ?_;unfold qm;rintro e M ⟨G,rfl,R⟩;replace a:=O (a.out.grown G R);clear G R w;(try clear o);have o:=a.out.bk.cell;)|(go_at_call 74;have w:=ar.out K gl ac lo2 P _ aA ap.length az a.out.ck a.out.rl af;rw[hr5]at w;clear ar;refine w.mono ?_;unfold qm bq;rintro e M ⟨G,rfl⟩;have X:=O (a.out.gr.trans G);clear G w));exact⟨rfl,by rw[V.out];exact⟨X.out,rfl⟩⟩
       |ok lo3=>
        rw[hr5,e_]at A;go_wp2_with (first|(go_at_call 121;refine(an.out K gl _ z P _ ah ab.length ag a.out.ck a.out.re).mono ?_;rw[hr2];unfold cu;rintro e M ⟨rfl,j⟩;replace a:=O (a.out.ext j);clear j;(try clear o);have o:=a.out.bk.cell;)|(go_at_call 72;refine(eE K gl _ z _ a.out.ck nm ao).mono ?_;rw[hr3];rintro e M ⟨rfl,j⟩;replace a:=O (a.out.ext j);clear j;(try clear o);have o:=a.out.bk.cell;));refine aB 6 1 [] mixed Qb trivial ?_;repeat (refine sx ?_ (λbb aD=> ?_) ?_;rotate_left;(focus have o:=(a.out.ext aD.un).bk.cell;have bl:=(a.out.ext aD.un).ck.blk.cell;clear aD;go_simp<;>with_reducible rfl);simp only[a8,a7,a6,aZ,aY])
        intro ba aG _;simp only[ae,au];replace a:=O (a.out.ext aG.un);clear aG;(try clear o);go_wp2_with (at_mapUpdate;refine cZ Es rfl _ _ _ rfl a.out.ml rfl Qg rfl _ rfl ?_;intro a9 aH aC;replace a:=O (a.out.grown aC (a.out.ck.add aH aC));clear aH aC;have o:=a.out.bk.cell);rw[aE]at a;go_wp2_with (first|(go_at_call 74;have w:=ad.out K gl ac aJ P _ av ai.length aq a.out.ck a.out.rb af;rw[hr4]at w;clear ad;refine w.mono ?_;unfold qm;rintro e M ⟨G,rfl,R⟩;replace a:=O (a.out.grown G R);clear G R w;(try clear o);have o:=a.out.bk.cell;)|(go_at_call 74;have w:=ar.out K gl ac lo2 P _ aA ap.length az a.out.ck a.out.rl af;rw[hr5]at w;clear ar;refine w.mono ?_;unfold qm;rintro e M ⟨G,rfl,R⟩;replace a:=O (a.out.grown G R);clear G R w;(try clear o);have o:=a.out.bk.cell;));go_roundw
        case rel=>exact⟨ax+1,lo3,by go_num,by omega,O (A.symm.trans aj.out),O a.out.gr,O a.out.ck⟩
        case measure=>simp[intOf];omega
   have bG:=Ql.2 hk2;have bF:=Ql.2 hk3;have bH:=Ql.2 hk1;rw[if_neg hk2,if_neg hk3,e_]at A
   cases hr2:oL gl z ab with
   |error q=>
    obtain⟨I,m⟩:=q;rw[hr2,gE]at A;have V:=O (show al=.error (I,m)from aj.out.symm.trans A);go_wp2_with (go_at_call 121;refine(an.out K gl _ z P _ ah ab.length ag a.out.ck a.out.re).mono ?_;rw[hr2];unfold cu bq;rintro e M ⟨rfl,j⟩;have X:=O (a.out.gr.trans (j.grownBy _));clear j);exact⟨rfl,by rw[V.out];exact⟨X.out,rfl⟩⟩
   |ok u=>
    rw[hr2,e_]at A;rw[if_neg (hk1),e_]at A;obtain⟨aJ,aE⟩: ∃l,z=l:=⟨_,rfl⟩
    subst aE
    cases hr4:gm gl z ai with
    |error q=>
     obtain⟨I,m⟩:=q;rw[hr4,gE]at A;have V:=O (show al=.error (I,m)from aj.out.symm.trans A);go_wp2_with (first|(go_at_call 121;refine(an.out K gl _ z P _ ah ab.length ag a.out.ck a.out.re).mono ?_;rw[hr2];unfold cu;rintro e M ⟨rfl,j⟩;replace a:=O (a.out.ext j);clear j;(try clear o);have o:=a.out.bk.cell;)|(go_at_call 74;have w:=ad.out K gl ac z P _ av ai.length aq a.out.ck a.out.rb af;rw[hr4]at w;clear ad;refine w.mono ?_;unfold qm bq;rintro e M ⟨G,rfl⟩;have X:=O (a.out.gr.trans G);clear G w));exact⟨rfl,by rw[V.out];exact⟨X.out,rfl⟩⟩
    |ok lo2=>
     rw[hr4,e_]at A
     cases hr5:gm gl lo2 ap with
     |error q=>
      obtain⟨I,m⟩:=q;rw[hr5,gE]at A;have V:=O (show al=.error (I,m)from aj.out.symm.trans A);go_wp2_with (first|(go_at_call 121;refine(an.out K gl _ z P _ ah ab.length ag a.out.ck a.out.re).mono ?_;rw[hr2];unfold cu;rintro e M ⟨rfl,j⟩;replace a:=O (a.out.ext j);clear j;(try clear o);have o:=a.out.bk.cell;)|(go_at_call 74;have w:=ad.out K gl ac z P _ av ai.length aq a.out.ck a.out.rb af;rw[hr4]at w;clear ad;refine w.mono ?_;unfold qm;rintro e M ⟨G,rfl,R⟩;replace a:=O (a.out.grown G R);clear G R w;(try clear o);have o:=a.out.bk.cell;)|(go_at_call 74;have w:=ar.out K gl ac lo2 P _ aA ap.length az a.out.ck a.out.rl af;rw[hr5]at w;clear ar;refine w.mono ?_;unfold qm bq;rintro e M ⟨G,rfl⟩;have X:=O (a.out.gr.trans G);clear G w));exact⟨rfl,by rw[V.out];exact⟨X.out,rfl⟩⟩
     |ok lo3=>
      rw[hr5,e_]at A;go_wp2_with (first|(go_at_call 121;refine(an.out K gl _ z P _ ah ab.length ag a.out.ck a.out.re).mono ?_;rw[hr2];unfold cu;rintro e M ⟨rfl,j⟩;replace a:=O (a.out.ext j);clear j;(try clear o);have o:=a.out.bk.cell;)|(go_at_call 74;have w:=ad.out K gl ac z P _ av ai.length aq a.out.ck a.out.rb af;rw[hr4]at w;clear ad;refine w.mono ?_;unfold qm;rintro e M ⟨G,rfl,R⟩;replace a:=O (a.out.grown G R);clear G R w;(try clear o);have o:=a.out.bk.cell;)|(go_at_call 74;have w:=ar.out K gl ac lo2 P _ aA ap.length az a.out.ck a.out.rl af;rw[hr5]at w;clear ar;refine w.mono ?_;unfold qm;rintro e M ⟨G,rfl,R⟩;replace a:=O (a.out.grown G R);clear G R w;(try clear o);have o:=a.out.bk.cell;));go_roundw
      case rel=>exact⟨ax+1,lo3,by go_num,by omega,O (A.symm.trans aj.out),O a.out.gr,O a.out.ck⟩
      case measure=>simp[intOf];omega
  ·have bw: ¬(ax:Int)<N:=Qa
   have V:=O (show al=.ok z by
    have:=aj.out;rw[aL (by have:=bn.out;omega),gm]at this
    exact this.symm)
   go_wp2_with fail;exact bodyPost_end (results_none rfl _ _ _) rfl (by rw[V.out];exact⟨a3.out,rfl,a5.out⟩)
theorem mR: ∀(m:Nat) (xs:List St),fP xs<=m->fP xs<=1073741824->Ee xs
 |0,xs,h,hw=>py xs (by have:=dF xs;omega) (λs a=>by have:=bO a;have:=s.wt_eq;omega) (λs a=>by have:=bO a;have:=s.wt_eq;omega) (λs a=>by have:=bO a;have:=s.wt_eq;omega)
 |m+1,xs,h,hw=>py xs (by have:=dF xs;omega) (λs a=>by have:=bO a;have:=s.wt_eq;omega) (λs a=>uL s.ex (by have:=bO a;have:=s.wt_eq;omega))
   (λs a=>⟨mR m s.body (by have:=bO a;have:=s.wt_eq;omega) (by have:=bO a;have:=s.wt_eq;omega),mR m s.els (by have:=bO a;have:=s.wt_eq;omega) (by have:=bO a;have:=s.wt_eq;omega)⟩)
theorem qW: ∀(f:Nat) (j:List (List UInt8)) (l:List bT) (x:List (List UInt8)) (r:List bT),eM f j l=.ok (x,r)->r.length<l.length
 |0,j,l,x,r,h=>by rw[eM]at h;cases h
 |f+1,j,l,x,r,h=>by
  rw[eM]at h;obtain⟨K,q,A,a⟩:=aW h;have:=(lT A).2.2.2;split at a
  ·rename_i o;have:=bG o;rw[<-(bI a).2];omega
  ·obtain⟨b,G,z,w⟩:=aW a;have:=(eK z).2.2;have:=qW f _ _ _ _ w;omega
theorem AJ {f:Nat} {l:List bT} {x:List (List UInt8)} {r:List bT} (a:fe f l=.ok (x,r)):r.length<l.length:=by
 unfold fe at a;split at a
 ·rename_i h;have:=bG h;rw[<-(bI a).2];omega
 ·exact qW _ _ _ _ _ a
theorem C0 {l r:List bT} {x:Vr} (j:jy l=.ok (x,r)):r.length<l.length:=by
 unfold jy at j;obtain⟨ab,q,R,O⟩:=aW j;obtain⟨b,I,a,M⟩:=aW O;obtain⟨c,X,K,G⟩:=aW M;have:=(lT R).2.2.2;have:=(eK K).2.2;have A:=(bI G).2;subst A;split at a
 ·rename_i o;have:=bG o;split at a
  ·split at a
   ·cases a
   ·obtain⟨e,V,z,w⟩:=aW a;have:=(eK z).2.2;have h:=(bI w).2;subst h;have:q.tail.tail.length<=q.tail.length:=Qd
    omega
  ·cases a
 ·have h:=(bI a).2;subst h;omega
theorem yq (a:World) (p:Value):let W0:=((a.alloc (.cells #[p] 153)).alloc (.cells #[.slice none 0 0,.slice none 0 0] 34)).alloc (.cells #[.slice none 0 0,.slice none 0 0] 34)
  az a W0/\aU W0 a.heap.size 153 #[p]/\aU W0 (a.heap.size+1) 34 #[.slice none 0 0,.slice none 0 0]/\aU W0 (a.heap.size+2) 34 #[.slice none 0 0,.slice none 0 0]:=by
 have j:=aw (a.alloc (.cells #[p] 153)) 34 #[.slice none 0 0,.slice none 0 0];have h:=aw ((a.alloc (.cells #[p] 153)).alloc (.cells #[.slice none 0 0,.slice none 0 0] 34)) 34 #[.slice none 0 0,.slice none 0 0];rw[World.size_alloc]at j;rw[World.size_alloc,World.size_alloc]at h;exact⟨((Z a _).alloc' _).alloc' _,((aw a _ _).alloc _).alloc _,j.alloc _,h⟩
theorem Fp {w W:World} {g a:Nat} {en:Int} {K G:Value} {r:PR Pg} {q:List bT} (p:Pg) (h:Option Addr) (n c:Nat) (B:Option Addr) (m d:Nat) (M:r=.ok (p,q)) (O:w.heap.size<=a) (I:aU W a 34 #[K,G]) (V:w.grownBy W (some g))
  (R:ik W (λb=>a<b) (.slice h n c) p.vs) (X:jl W (λb=>a<b) (.slice B m d) p.fs):
  (∀j,(W.setCells a 0 [.slice h n c,.slice B m d]).cell? ⟨a,j,none⟩=(#[.slice h n c,.slice B m d]:Array Value)[j]?)/\FL g en w r (.returned (.agg #[.slice h n c,.slice B m d])) (W.setCells a 0 [.slice h n c,.slice B m d]):=by
 subst M;have A:=dx a [.slice h n c,.slice B m d] 0 W;have o:=(I.set 0 (.slice h n c)).set 1 (.slice B m d);have z:cR (λb=>a<b) W (W.setCells a 0 [.slice h n c,.slice B m d]):=.of_grown A λb o e=>by injection e with e;omega
 exact⟨λj=>by have:=o.cell j;simpa[World.setCells]using this,d8 V A O,h,n,c,B,m,d,rfl,R.keep z (λb o _=>by omega),X.keep z (λb o _=>by omega)⟩
theorem pN (av:Nat) (dR:av<=400000) (l:List bT) (en:Int) (M:World) (g:Nat) (aq:PA M g l en) (c7:4*l.length+2<=av):Calls prog 60 #[.pointer (some ⟨g,0,none⟩)] M (FL g en M (de av ⟨[],[]⟩ l)):=by
 obtain⟨cm,cN,cU,cR⟩:=yq M (.pointer (some ⟨g,0,none⟩));have cZ:=O cm;have cY:=O cN;have c3:=O cU;have c0:=O cR;have c1:=O (aq.ext cm);have dK:=aq.lt;have R:M.heap.size≠g:=Qa
 have ao:M.heap.size+1≠g:=Qa
 have af:M.heap.size+2≠g:=Qa
 clear aq cm cN cU cR;have dD: ∀(fn:Fn) (first cX:Array Value) (M:World),(Instr.makeFunc fn first cX).run prog M=.ok (.func fn first cX) M:=λ_ _ _ _=>rfl;go_enter func60,ntmps60;go_wp2_with fail
 go_loopw [] (λwr=> ∃(k:Nat) (vs:List Vr) (al:List FV) (r:List bT) (bo:Option Addr) (n c:Nat) (B:Option Addr) (m d:Nat),4*r.length+2<=k/\k<=av/\vs.length=n/\al.length=m/\n+m+r.length<=l.length/\Hid (de k ⟨vs,al.map (·.c)⟩ r=de av ⟨[],[]⟩ l)/\Hid (PA wr g r en)/\Hid (aU wr M.heap.size 153 #[.pointer (some ⟨g,0,none⟩)])/\Hid (aU wr (M.heap.size+1) 34 #[.slice none 0 0,.slice none 0 0])/\Hid (aU wr (M.heap.size+2) 34 #[.slice bo n c,.slice B m d])/\
  Hid (lF wr (M.heap.size+3) (.slice bo n c) (.slice B m d) vs al)/\Hid (M.grownBy wr (some g))) (λwr=>tokN g wr)
 case atStart=>exact⟨av,[],[],l,none,0,0,none,0,0,c7,ak _,rfl,rfl,by omega,O rfl,c1,cY,c3,c0,O (lF.nil_ _ _),O (cZ.out.grownBy _)⟩
 case round=>
  clear cZ cY c3 c0 c1;obtain⟨k,vs,al,r,bo,n,c,B,m,d,dJ,dI,b6,b7,dB,ct,ar,bj,a3,bc,bk,bm⟩:=hrel;obtain⟨k,rfl⟩: ∃c5,k=c5+1:=⟨k-1,by omega⟩
  have cK:k<=400000:=Qa
  have cr:=O (show de (k+1) ⟨vs,al.map (·.c)⟩ r=if r=[]then .ok (⟨vs,al.map (·.c)⟩,[])else if bX lz r then(jy r.tail).then λv r=>de k ⟨vs++[v],al.map (·.c)⟩ r
   else(bw jO r).then λ_ r=>(jz k r).then λc r=>de k ⟨vs,al.map (·.c)++[c]⟩ r from by rw[de])
  have o:=bj.out.cell;have z:=bc.out.cell;have w:=bc.out.frozen;by_cases hr0:r=[]
  ·subst hr0;have aC:=O (show de av ⟨[],[]⟩ l=.ok (⟨vs,al.map (·.c)⟩,[])from by rw[<-ct.out,cr.out,if_pos rfl]);obtain⟨Q,db,X,cf,aN⟩:=ar.out;have ba:=X.cell;have dA:=a3.out.cell;have dz:=a3.out.frozen;clear X cf aN;go_wp2_with fail;have cH:=bk.out.rd;obtain⟨cG,cL⟩:=Fp (en:=en) ⟨vs,al.map (·.c)⟩ bo n c B m d aC.out (lJ _) a3.out bm.out (cH.1.keep ⟨ak _,λ_ _ _=>rfl⟩ (λb X _=>by omega)) (cH.2.keep ⟨ak _,λ_ _ _=>rfl⟩ (λb X _=>by omega));simp only[World.setCells,aG]at cG cL;exact bodyPost_ret (v:=.agg #[.slice bo n c,.slice B m d]) (by simp[results,results60,go_sem,cG]) rfl cL
  obtain⟨Q,db,X,cf,aN⟩:=ar.out;have ba:=X.cell;obtain⟨N,cS⟩: ∃N,r.length=N:=⟨_,rfl⟩
  rw[cS]at ba;have dQ:0<N:=by rw[<-cS];exact List.length_pos_iff.2 hr0
  have dP:(0:Int)<N:=Qa
  have dy:r.length=r.tail.length+1:=by simp only[List.length_tail];omega
  have ab:=O (show de av ⟨[],[]⟩ l=if bX lz r then(jy r.tail).then λv r=>de k ⟨vs++[v],al.map (·.c)⟩ r
   else(bw jO r).then λ_ r=>(jz k r).then λc r=>de k ⟨vs,al.map (·.c)++[c]⟩ r from by rw[<-ct.out,cr.out,if_neg hr0])
  clear X cf aN cr ct
  cases hv:bX lz r with
  |true=>
   have cv:=ar;go_wp2_with (first|(go_at_call 98;refine(cQ g _ en lz _ ar.out).mono ?_;rw[hv];simp only[if_true];rintro e aL ⟨rfl,j,a⟩;have ah:=O j;have ax:=O (ap bm.out a);have ad:=O (bj.out.grown a (λe=>R (I e)));have aK:=O (a3.out.grown a (λe=>ao (I e)));have K:=O (bc.out.grown a (λe=>af (I e)));have aI:=O (bk.out.grown a (λk e=>by injection e with e;omega));clear o z w ba;have o:=ad.out.cell;have z:=K.out.cell;have w:=K.out.frozen;clear j a ar))
   cases aM:jy r.tail with
   |error p=>
    obtain⟨q,b1⟩:=p;have aC:=O (show de av ⟨[],[]⟩ l=.error (q,b1)from by rw[ab.out,if_pos hv,aM];rfl);refine bV 5 4 [(3,λv=>v=.agg #[.string ⟨#[]⟩,.int i64 0],λ_ _=>False),(4,λv=> ∃aj,v=.slice (some ⟨aj,0,none⟩) 1 1,λ_ _=>True)] 3 (some g) mixed Qb ⟨λ_ _ _ aq _=>aq,λ_ _ _ aq _=>aq,trivial⟩ ⟨.inl rfl,.inr λ_ _ _ aq _=>aq,trivial⟩ ?_;repeat (refine sx ?_ (λaL aO=> ?_) ?_;rotate_left;(focus have da:=(K.out.grown (aJ aO) (λe=>af (I e))).cell;have c9:=(ad.out.grown (aJ aO) (λe=>R (I e))).cell;clear aO;go_simp<;>with_reducible rfl);simp only[a8,a7,a6,aZ,aY])
    refine bR _ _ Qe rfl ⟨_,rfl⟩ rfl (λaE bD az co bF=> ?_) ?_
    ·clear az;have cl:=wy _ en aE g (ah.out.ext bD.un);have dg:=O bD.un;clear bD;go_simp;refine cl.mono ?_;intro e a4 ag;rw[aM]at ag;obtain⟨ac,rfl⟩:=ag;unfold bh;intro dS c8;exact⟨c8,mw aC.out (ap ax.out (ap (dg.out.grownBy _) ac))⟩
    rintro _ rfl;simp only[a8,a7,a6,aZ,aY];refine bg _ _ Qe rfl ⟨_,0,rfl⟩ Qd (λaE aO az co bF=> ?_) ?_
    ·clear az;go_simp;exact bF _ _ (Z aE _) ⟨_,rfl⟩ trivial
    rintro _ ⟨aj,rfl⟩;simp only[a8,a7,a6,aZ,aY];intro aE dx az;exact(az _ (.tail _ (.head _))).elim
   |ok p=>
    obtain⟨x,q⟩:=p;have dE:=C0 aM;have cu:=O (show de k ⟨vs++[x],al.map (·.c)⟩ q=de av ⟨[],[]⟩ l from by rw[ab.out,if_pos hv,aM];rfl);have dM:g<aL.heap.size:=ah.out.lt;have dv:M.heap.size+2<aL.heap.size:=K.out.lt;refine bV 5 4 [(3,λv=>v=.agg #[.string (J x.nm),.int i64 x.sz],λv cd=>PA cd g q en),(4,λv=> ∃aj,v=.slice (some ⟨aj,0,none⟩) 1 1,λv cd=> ∀aj,v=.slice (some ⟨aj,0,none⟩) 1 1->aL.heap.size<=aj/\aU cd aj 85 #[.string (J x.nm),.int i64 x.sz])] 3 (some g) mixed Qb
     ⟨λ_ _ _ aq aM=>aq.ext aM,λ_ _ _ aq aM aj e=>⟨(aq aj e).1,(aq aj e).2.ext aM⟩,trivial⟩ ⟨.inl rfl,.inr λ_ _ _ aq aM aj e=>⟨(aq aj e).1,(aq aj e).2.grown aM (λcV=>by have:=(aq aj e).1;injection cV with cV;omega)⟩,trivial⟩ ?_
    repeat (refine sx ?_ (λaL aO=> ?_) ?_;rotate_left;(focus have da:=(K.out.grown (aJ aO) (λe=>af (I e))).cell;have c9:=(ad.out.grown (aJ aO) (λe=>R (I e))).cell;clear aO;go_simp<;>with_reducible rfl);simp only[a8,a7,a6,aZ,aY])
    refine bR _ _ Qe rfl ⟨_,rfl⟩ rfl (λaE bD az co bF=> ?_) ?_
    ·clear az;have cl:=wy _ en aE g (ah.out.ext bD.un);clear bD;go_simp;refine cl.mono ?_;intro e a4 ag;rw[aM]at ag;obtain⟨ac,rfl,aX⟩:=ag;exact bF _ _ ac rfl aX
    rintro _ rfl;simp only[a8,a7,a6,aZ,aY];refine bg _ _ Qe rfl ⟨_,0,rfl⟩ Qd (λaE aO az co bF=> ?_) ?_
    ·have cE:=(aJ aO).size;clear az aO;go_simp;exact bF _ _ (Z aE _) ⟨_,rfl⟩ (λaj e=>by injection e with e;injection e with e;injection e with e;subst e;exact⟨cE,aw aE _ _⟩)
    rintro _ ⟨aj,rfl⟩;simp only[a8,a7,a6,aZ,aY];intro c4 a9 az;obtain⟨dL,cT⟩:=az _ (.head _) aj rfl;have cx:=O (show PA c4 g q en from az _ (.tail _ (.head _)));clear az;simp only[ae,au];have a9:=aJ a9;have be:=O (ap ax.out a9);have dd:=O (ad.out.grown a9 (λe=>R (I e)));have dq:=O (aK.out.grown a9 (λe=>ao (I e)));have bH:=O (K.out.grown a9 (λe=>af (I e)));have bu:=O (aI.out.grown a9 (λk e=>by injection e with e;omega));have bO:=World.ownsRow.lt bu.out.1;have ay:=λk ai=>(bO k ai).1;have dt:=be.out.size;have ds:=a9.size;clear a9 o z w;refine eA uD rfl _ _ rfl (M.heap.size+3) _ n (eB vs) rfl (by have:=bu.out.1;rw[b6]at this;exact this) aj (nN x) rfl cT rfl (by intro u bN;simp only[nN,ew,dw,or_false]at bN;rcases bN with rfl|rfl<;>rfl) Qa Qc Qa ?_;intro bA cap' bL bQ V bP;have bE:=bu.out.snocV b6 bQ V bP;have bb:=bH.out.grown V (λe=>by have:=ay _ e.symm;omega);have bU:=dd.out.grown V (λe=>by have:=ay _ e.symm;omega);have b0:=dq.out.grown V (λe=>by have:=ay _ e.symm;omega);have bZ:=cx.out.grown V (λk e=>by have:=ay k e;omega);have aP:M.grownBy bL (some g):=⟨V.os.trans be.out.os,V.tape.trans be.out.tape,V.output.trans be.out.output,aR be.out.size V.size,λi bS ch=>(V.block i (aF bS be.out.size) (λe=>by have:=ay i e.symm;omega)).trans (be.out.block i bS ch)⟩
    have z:=bb.cell;have w:=bb.frozen;have an:=eF bL (M.heap.size+2) 0 (.slice (some ⟨bA,0,none⟩) (n+1) cap');have bC:=bb.set 0 (.slice (some ⟨bA,0,none⟩) (n+1) cap');simp only[br,cg]at bC;have cy:=O (bE.grown an (λk e=>by injection e with e;omega));have b3:=O (bZ.grown an (λk e=>by injection e with e;omega));have cp:=O (bU.grown an (λe=>by injection e with e;omega));have cD:=O (b0.grown an (λe=>by injection e with e;omega));have cz:=O (d8 aP an Qa);have cs:=O bC;clear bQ V bP an bC bE bb bU b0 bZ aP bO ay cT;go_wp2_with fail;go_roundw
    case rel=>exact⟨k,vs++[x],al,q,some ⟨bA,0,none⟩,n+1,cap',B,m,d,by omega,by omega,by simp[b6],b7,by omega,cu,b3,cp,cD,cs,cy,cz⟩
    case measure=>rw[cv.out.tokN,b3.out.tokN];omega
  |false=>
   have aH:=O (show de av ⟨[],[]⟩ l=(bw jO r).then λ_ r=>(jz k r).then λc r=>de k ⟨vs,al.map (·.c)++[c]⟩ r from by rw[ab.out,if_neg (by rw[hv];simp)]);clear ab
   cases hfu:bX jO r with
   |false=>
    have aC:=O (show de av ⟨[],[]⟩ l=.error (r,3)from by rw[aH.out,fE hfu];rfl);go_wp2_with (first|(go_at_call 98;refine(cQ g _ en lz _ ar.out).mono ?_;rw[hv];simp only[aT,if_false];rintro e aL ⟨rfl,j,a⟩;have ah:=O j;have ax:=O (ap bm.out a);have ad:=O (bj.out.grown a (λe=>R (I e)));have aK:=O (a3.out.grown a (λe=>ao (I e)));have K:=O (bc.out.grown a (λe=>af (I e)));have aI:=O (bk.out.grown a (λk e=>by injection e with e;omega));clear o z w ba;have o:=ad.out.cell;have z:=K.out.cell;have w:=K.out.frozen;clear j a ar)|(go_at_call 100;refine(gX g _ en jO _ ah.out hfu).mono ?_;unfold bh;rintro e bM ⟨rfl,ac⟩;have bd:=O (ap ax.out ac);clear ac));exact⟨rfl,mw aC.out bd.out⟩
   |true=>
    have b2:=O (show de av ⟨[],[]⟩ l=(jz k r.tail).then λc r=>de k ⟨vs,al.map (·.c)++[c]⟩ r from by rw[aH.out,cW hfu];rfl);clear aH;by_cases ai:(cO r.tail).k=1
    rotate_left
    ·have aC:=O (show de av ⟨[],[]⟩ l=.error (r.tail,3)from by rw[b2.out];unfold jz;rw[lU ai];rfl);go_wp2_with (first|(go_at_call 98;refine(cQ g _ en lz _ ar.out).mono ?_;rw[hv];simp only[aT,if_false];rintro e aL ⟨rfl,j,a⟩;have ah:=O j;have ax:=O (ap bm.out a);have ad:=O (bj.out.grown a (λe=>R (I e)));have aK:=O (a3.out.grown a (λe=>ao (I e)));have K:=O (bc.out.grown a (λe=>af (I e)));have aI:=O (bk.out.grown a (λk e=>by injection e with e;omega));clear o z w ba;have o:=ad.out.cell;have z:=K.out.cell;have w:=K.out.frozen;clear j a ar)|(go_at_call 100;refine(eV g _ en jO _ ah.out hfu).mono ?_;rintro e bM ⟨rfl,j,a⟩;have aD:=O j;have bf:=O (ap ax.out a);have aB:=O (ad.out.grown a (λe=>R (I e)));have bn:=O (aK.out.grown a (λe=>ao (I e)));have ab:=O (K.out.grown a (λe=>af (I e)));have bl:=O (aI.out.grown a (λk e=>by injection e with e;omega));clear o z w;have o:=aB.out.cell;have z:=ab.out.cell;have w:=ab.out.frozen;clear j a ah)|(go_at_call 101;refine(pW g _ en _ aD.out ai).mono ?_;unfold bh;rintro e A ⟨rfl,ac⟩;have bd:=O (ap bf.out ac);clear ac));exact⟨rfl,mw aC.out bd.out⟩
    have dH:=jc (l:=r.tail) (by rw[ai];decide)
    cases hlp:bX kV r.tail.tail with
    |false=>
     have aC:=O (show de av ⟨[],[]⟩ l=.error (r.tail.tail,3)from by rw[b2.out];unfold jz;rw[bY ai,then_ok,fE hlp];rfl);go_wp2_with (first|(go_at_call 98;refine(cQ g _ en lz _ ar.out).mono ?_;rw[hv];simp only[aT,if_false];rintro e aL ⟨rfl,j,a⟩;have ah:=O j;have ax:=O (ap bm.out a);have ad:=O (bj.out.grown a (λe=>R (I e)));have aK:=O (a3.out.grown a (λe=>ao (I e)));have K:=O (bc.out.grown a (λe=>af (I e)));have aI:=O (bk.out.grown a (λk e=>by injection e with e;omega));clear o z w ba;have o:=ad.out.cell;have z:=K.out.cell;have w:=K.out.frozen;clear j a ar)|(go_at_call 100;refine(eV g _ en jO _ ah.out hfu).mono ?_;rintro e bM ⟨rfl,j,a⟩;have aD:=O j;have bf:=O (ap ax.out a);have aB:=O (ad.out.grown a (λe=>R (I e)));have bn:=O (aK.out.grown a (λe=>ao (I e)));have ab:=O (K.out.grown a (λe=>af (I e)));have bl:=O (aI.out.grown a (λk e=>by injection e with e;omega));clear o z w;have o:=aB.out.cell;have z:=ab.out.cell;have w:=ab.out.frozen;clear j a ah)|(go_at_call 101;refine(jR g _ en _ aD.out ai).mono ?_;rintro e A ⟨rfl,j,a⟩;have bz:=O (ap bf.out a);have aA:=O (aB.out.grown a (λe=>R (I e)));have cc:=O (bn.out.grown a (λe=>ao (I e)));have aH:=O (ab.out.grown a (λe=>af (I e)));have bJ:=O (bl.out.grown a (λk e=>by injection e with e;omega));have G:=Z A (.cells #[.string (J (cO r.tail).t),.slice none 0 0,.slice none 0 0] 59);have bI:=O (G.grownBy (some g));have bK:=O (aw A 59 #[.string (J (cO r.tail).t),.slice none 0 0,.slice none 0 0]);have a2:=O (j.ext G);have bx:=O (ap bz.out (G.grownBy (some g)));have ce:=aH.out.lt;have bp:A.heap.size≠g:=Qa;have ci:g≠A.heap.size:=Qa;clear o z w;have o:=(aA.out.ext G).cell;clear j a G aD)|(go_at_call 100;refine(gX g _ en kV _ a2.out hlp).mono ?_;unfold bh;rintro e a5 ⟨rfl,ac⟩;have bd:=O (ap bx.out ac);clear ac));exact⟨rfl,mw aC.out bd.out⟩
    |true=>
     have dF:=bG hlp;have cj:r.tail.tail.tail.length+1<=k:=Qa
     cases aN:fe k r.tail.tail.tail with
     |error p=>
      obtain⟨q,b1⟩:=p;have aC:=O (show de av ⟨[],[]⟩ l=.error (q,b1)from by rw[b2.out];unfold jz;rw[bY ai,then_ok,cW hlp,then_ok,aN];rfl);go_wp2_with (first|(go_at_call 98;refine(cQ g _ en lz _ ar.out).mono ?_;rw[hv];simp only[aT,if_false];rintro e aL ⟨rfl,j,a⟩;have ah:=O j;have ax:=O (ap bm.out a);have ad:=O (bj.out.grown a (λe=>R (I e)));have aK:=O (a3.out.grown a (λe=>ao (I e)));have K:=O (bc.out.grown a (λe=>af (I e)));have aI:=O (bk.out.grown a (λk e=>by injection e with e;omega));clear o z w ba;have o:=ad.out.cell;have z:=K.out.cell;have w:=K.out.frozen;clear j a ar)|(go_at_call 100;refine(eV g _ en jO _ ah.out hfu).mono ?_;rintro e bM ⟨rfl,j,a⟩;have aD:=O j;have bf:=O (ap ax.out a);have aB:=O (ad.out.grown a (λe=>R (I e)));have bn:=O (aK.out.grown a (λe=>ao (I e)));have ab:=O (K.out.grown a (λe=>af (I e)));have bl:=O (aI.out.grown a (λk e=>by injection e with e;omega));clear o z w;have o:=aB.out.cell;have z:=ab.out.cell;have w:=ab.out.frozen;clear j a ah)|(go_at_call 101;refine(jR g _ en _ aD.out ai).mono ?_;rintro e A ⟨rfl,j,a⟩;have bz:=O (ap bf.out a);have aA:=O (aB.out.grown a (λe=>R (I e)));have cc:=O (bn.out.grown a (λe=>ao (I e)));have aH:=O (ab.out.grown a (λe=>af (I e)));have bJ:=O (bl.out.grown a (λk e=>by injection e with e;omega));have G:=Z A (.cells #[.string (J (cO r.tail).t),.slice none 0 0,.slice none 0 0] 59);have bI:=O (G.grownBy (some g));have bK:=O (aw A 59 #[.string (J (cO r.tail).t),.slice none 0 0,.slice none 0 0]);have a2:=O (j.ext G);have bx:=O (ap bz.out (G.grownBy (some g)));have ce:=aH.out.lt;have bp:A.heap.size≠g:=Qa;have ci:g≠A.heap.size:=Qa;clear o z w;have o:=(aA.out.ext G).cell;clear j a G aD)|(go_at_call 100;refine(eV g _ en kV _ a2.out hlp).mono ?_;rintro e a5 ⟨rfl,j,a⟩;have bt:=O j;have bq:=O (ap bI.out a);have b4:=O (ap bx.out a);have aS:=O (bK.out.grown a (λe=>bp (I e)));have aQ:=O (aA.out.grown bq.out (λe=>R (I e)));clear o;have o:=aQ.out.cell;have bv:=O (mZ k a5.heap.size g A.heap.size M.heap.size (cO r.tail).t r.tail.tail.tail en a5 bt.out aQ.out aS.out (ak _) Qa Qa Qa aS.out.lt aQ.out.lt cj Qa);clear j a a2)|(go_at_call 102;refine bv.out.mono ?_;intro e aE ag;rw[aN]at ag;obtain⟨a1,rfl⟩:=ag;unfold bh;have cF:=aS.out.lt;have bd:=O (kD b4.out a1 Qa Qa);clear a1));exact⟨rfl,mw aC.out bd.out⟩
     |ok p=>
      obtain⟨ps,q⟩:=p;have dC:=AJ aN;have cM:4*q.length+1<=k:=Qa
      cases X:dn k q with
      |error p=>
       obtain⟨b5,b1⟩:=p;have aC:=O (show de av ⟨[],[]⟩ l=.error (b5,b1)from by rw[b2.out];unfold jz;rw[bY ai,then_ok,cW hlp,then_ok,aN,then_ok,X];rfl);go_wp2_with (first|(go_at_call 98;refine(cQ g _ en lz _ ar.out).mono ?_;rw[hv];simp only[aT,if_false];rintro e aL ⟨rfl,j,a⟩;have ah:=O j;have ax:=O (ap bm.out a);have ad:=O (bj.out.grown a (λe=>R (I e)));have aK:=O (a3.out.grown a (λe=>ao (I e)));have K:=O (bc.out.grown a (λe=>af (I e)));have aI:=O (bk.out.grown a (λk e=>by injection e with e;omega));clear o z w ba;have o:=ad.out.cell;have z:=K.out.cell;have w:=K.out.frozen;clear j a ar)|(go_at_call 100;refine(eV g _ en jO _ ah.out hfu).mono ?_;rintro e bM ⟨rfl,j,a⟩;have aD:=O j;have bf:=O (ap ax.out a);have aB:=O (ad.out.grown a (λe=>R (I e)));have bn:=O (aK.out.grown a (λe=>ao (I e)));have ab:=O (K.out.grown a (λe=>af (I e)));have bl:=O (aI.out.grown a (λk e=>by injection e with e;omega));clear o z w;have o:=aB.out.cell;have z:=ab.out.cell;have w:=ab.out.frozen;clear j a ah)|(go_at_call 101;refine(jR g _ en _ aD.out ai).mono ?_;rintro e A ⟨rfl,j,a⟩;have bz:=O (ap bf.out a);have aA:=O (aB.out.grown a (λe=>R (I e)));have cc:=O (bn.out.grown a (λe=>ao (I e)));have aH:=O (ab.out.grown a (λe=>af (I e)));have bJ:=O (bl.out.grown a (λk e=>by injection e with e;omega));have G:=Z A (.cells #[.string (J (cO r.tail).t),.slice none 0 0,.slice none 0 0] 59);have bI:=O (G.grownBy (some g));have bK:=O (aw A 59 #[.string (J (cO r.tail).t),.slice none 0 0,.slice none 0 0]);have a2:=O (j.ext G);have bx:=O (ap bz.out (G.grownBy (some g)));have ce:=aH.out.lt;have bp:A.heap.size≠g:=Qa;have ci:g≠A.heap.size:=Qa;clear o z w;have o:=(aA.out.ext G).cell;clear j a G aD)|(go_at_call 100;refine(eV g _ en kV _ a2.out hlp).mono ?_;rintro e a5 ⟨rfl,j,a⟩;have bt:=O j;have bq:=O (ap bI.out a);have b4:=O (ap bx.out a);have aS:=O (bK.out.grown a (λe=>bp (I e)));have aQ:=O (aA.out.grown bq.out (λe=>R (I e)));clear o;have o:=aQ.out.cell;have bv:=O (mZ k a5.heap.size g A.heap.size M.heap.size (cO r.tail).t r.tail.tail.tail en a5 bt.out aQ.out aS.out (ak _) Qa Qa Qa aS.out.lt aQ.out.lt cj Qa);clear j a a2)|(go_at_call 102;refine bv.out.mono ?_;intro e aE ag;rw[aN]at ag;obtain⟨a1,rfl,aX,C,i,bB,bW,bi⟩:=ag;have cF:=aS.out.lt;have ca:=O (kD bq.out a1 (ak _) Qa);have cA:=O (kD b4.out a1 Qa Qa);have cC:=O bW;have cb:=O aX;have c2:=O (bi.mono (Q:=λb=>A.heap.size<b) (λb X _=>by omega));have cq:=O (aA.out.grown ca.out (λe=>R (I e)));clear o;have o:=cq.out.cell;clear a1 aX bW bi bt bv)|(go_at_call 104;refine(rA cK _ en _ g cb.out cM).mono ?_;intro e a4 ag;rw[X]at ag;obtain⟨ac,rfl⟩:=ag;unfold bh;have bd:=O (ap cA.out ac);clear ac));exact⟨rfl,mw aC.out bd.out⟩
      |ok p=>
       obtain⟨b8,b5⟩:=p;have dG:=(oX k).1 _ _ _ X;have cu:=O (show de k ⟨vs,al.map (·.c)++[⟨(cO r.tail).t,ps,b8⟩]⟩ b5=de av ⟨[],[]⟩ l from by rw[b2.out];unfold jz;rw[bY ai,then_ok,cW hlp,then_ok,aN,then_ok,X];rfl);have cv:=ar;go_wp2_with (first|(go_at_call 98;refine(cQ g _ en lz _ ar.out).mono ?_;rw[hv];simp only[aT,if_false];rintro e aL ⟨rfl,j,a⟩;have ah:=O j;have ax:=O (ap bm.out a);have ad:=O (bj.out.grown a (λe=>R (I e)));have aK:=O (a3.out.grown a (λe=>ao (I e)));have K:=O (bc.out.grown a (λe=>af (I e)));have aI:=O (bk.out.grown a (λk e=>by injection e with e;omega));clear o z w ba;have o:=ad.out.cell;have z:=K.out.cell;have w:=K.out.frozen;clear j a ar)|(go_at_call 100;refine(eV g _ en jO _ ah.out hfu).mono ?_;rintro e bM ⟨rfl,j,a⟩;have aD:=O j;have bf:=O (ap ax.out a);have aB:=O (ad.out.grown a (λe=>R (I e)));have bn:=O (aK.out.grown a (λe=>ao (I e)));have ab:=O (K.out.grown a (λe=>af (I e)));have bl:=O (aI.out.grown a (λk e=>by injection e with e;omega));clear o z w;have o:=aB.out.cell;have z:=ab.out.cell;have w:=ab.out.frozen;clear j a ah)|(go_at_call 101;refine(jR g _ en _ aD.out ai).mono ?_;rintro e A ⟨rfl,j,a⟩;have bz:=O (ap bf.out a);have aA:=O (aB.out.grown a (λe=>R (I e)));have cc:=O (bn.out.grown a (λe=>ao (I e)));have aH:=O (ab.out.grown a (λe=>af (I e)));have bJ:=O (bl.out.grown a (λk e=>by injection e with e;omega));have G:=Z A (.cells #[.string (J (cO r.tail).t),.slice none 0 0,.slice none 0 0] 59);have bI:=O (G.grownBy (some g));have bK:=O (aw A 59 #[.string (J (cO r.tail).t),.slice none 0 0,.slice none 0 0]);have a2:=O (j.ext G);have bx:=O (ap bz.out (G.grownBy (some g)));have ce:=aH.out.lt;have bp:A.heap.size≠g:=Qa;have ci:g≠A.heap.size:=Qa;clear o z w;have o:=(aA.out.ext G).cell;clear j a G aD)|(go_at_call 100;refine(eV g _ en kV _ a2.out hlp).mono ?_;rintro e a5 ⟨rfl,j,a⟩;have bt:=O j;have bq:=O (ap bI.out a);have b4:=O (ap bx.out a);have aS:=O (bK.out.grown a (λe=>bp (I e)));have aQ:=O (aA.out.grown bq.out (λe=>R (I e)));clear o;have o:=aQ.out.cell;have bv:=O (mZ k a5.heap.size g A.heap.size M.heap.size (cO r.tail).t r.tail.tail.tail en a5 bt.out aQ.out aS.out (ak _) Qa Qa Qa aS.out.lt aQ.out.lt cj Qa);clear j a a2)|(go_at_call 102;refine bv.out.mono ?_;intro e aE ag;rw[aN]at ag;obtain⟨a1,rfl,aX,C,i,bB,bW,bi⟩:=ag;have cF:=aS.out.lt;have ca:=O (kD bq.out a1 (ak _) Qa);have cA:=O (kD b4.out a1 Qa Qa);have cC:=O bW;have cb:=O aX;have c2:=O (bi.mono (Q:=λb=>A.heap.size<b) (λb X _=>by omega));have cq:=O (aA.out.grown ca.out (λe=>R (I e)));clear o;have o:=cq.out.cell;clear a1 aX bW bi bt bv)|(go_at_call 104;refine(rA cK _ en _ g cb.out cM).mono ?_;intro e a4 ag;rw[X]at ag;obtain⟨ac,D,aW,aV,rfl,bi,aX⟩:=ag;have cE:=cC.out.lt;have du:=ac.size;have di:=O (ap ca.out ac);have dm:=O (ap cA.out ac);have cB:=O (cC.out.grown ac (λe=>bp (I e)));have an:=eF a4 A.heap.size 2 (.slice D aW aV);have b9:=O (d8 di.out an (ak _));have be:=O (d8 dm.out an Qa);have ck:=cB.out.set 2 (.slice D aW aV);simp only[br,cg,cw]at ck;have dT:=O ck;have df:=O (FV.ok.keep (p:=⟨⟨(cO r.tail).t,ps,b8⟩,.slice C i bB,.slice D aW aV⟩) (P:=λb=>A.heap.size<b) (w:=a4) ⟨c2.out.keep (.of_grown ac λb X e=>by injection e with e;omega) (λ_ X _=>X),bi.mono (λb X _=>by omega)⟩ (.of_grown an λb X e=>by injection e with e;omega) (λ_ X _=>X));have cx:=O (aX.grown an (λk e=>by injection e with e;omega));have bu:=O (bJ.out.grown b9.out (λk e=>by injection e with e;omega));have bH:=O (aH.out.grown b9.out (λe=>af (I e)));have dO:=cB.out.cell;have dN:=cB.out.frozen;have z:=bH.out.cell;have w:=bH.out.frozen;clear ac an ck bi aX cb)|(at_builtin;have G:=Z (a4.setCell ⟨A.heap.size,2,none⟩ (.slice D aW aV)) (.cells #[.string (J (cO r.tail).t),.slice C i bB,.slice D aW aV] 59);have bO:=World.ownsRow.lt bu.out.2.1;have c6:=World.ownsRow.lt bu.out.1;have ay:=λk ai=>(bO k ai).1;have bE:=bu.out.grown (G.grownBy none) (λk e=>by cases e);have cJ: ∀k,Value.ownBlock (.slice B m d)=some k->k<A.heap.size:=(λk ai=>(World.ownsRow.lt bJ.out.2.1 k ai).2);have cI: ∀k,Value.ownBlock (.slice bo n c)=some k->k<A.heap.size:=(λk ai=>(World.ownsRow.lt bJ.out.1 k ai).2);have cP:=df.out.keep (.of_ext G) (Q:=λb=>M.heap.size+3<=b/\some b≠Value.ownBlock (.slice bo n c)/\some b≠Value.ownBlock (.slice B m d)) (λb X _=>⟨by omega,λe=>by have:=cI b e.symm;omega,λe=>by have:=cJ b e.symm;omega⟩);have cn:=aw (a4.setCell ⟨A.heap.size,2,none⟩ (.slice D aW aV)) 59 #[.string (J (cO r.tail).t),.slice C i bB,.slice D aW aV];rw[show(a4.setCell ⟨A.heap.size,2,none⟩ (.slice D aW aV)).heap.size=a4.heap.size from(by simp[World.setCell])]at cn;have aP:=ap be.out (G.grownBy (some g));have dr:=aP.size;refine eA Ij rfl _ _ rfl (M.heap.size+3) _ m (ij al) rfl (by have:=bE.2.1;rw[b7]at this;exact this) _ (t8 ⟨⟨(cO r.tail).t,ps,b8⟩,.slice C i bB,.slice D aW aV⟩) rfl cn rfl (by intro u bN;simp only[t8,ew,dw,or_false]at bN;rcases bN with rfl|rfl|rfl<;>rfl) Qa Qc (by have:=bH.out.lt;rw[World.size_alloc];omega) ?_;intro bA cap' bL bQ V bP;have dk:=O (bE.snocF cP b7 bQ V bP);have bb:=(bH.out.ext G).grown V (λe=>by have:=ay _ e.symm;omega);have bU:=((aA.out.grown b9.out (λe=>R (I e))).ext G).grown V (λe=>by have:=ay _ e.symm;omega);have b0:=((cc.out.grown b9.out (λe=>ao (I e))).ext G).grown V (λe=>by have:=ay _ e.symm;omega);have bZ:=(cx.out.ext G).grown V (λk e=>by have:=ay k e;omega);have dl:=O (show M.grownBy bL (some g)from⟨V.os.trans aP.os,V.tape.trans aP.tape,V.output.trans aP.output,aR aP.size V.size,λi bS ch=>(V.block i (aF bS aP.size) (λe=>by have:=ay i e.symm;omega)).trans (aP.block i bS ch)⟩);have dh:=O bb;have dc:=O bU;have dp:=O b0;have dj:=O bZ;clear z w;have z:=bb.cell;have w:=bb.frozen;clear bQ V bP G bO c6 ay bE cJ cI cP cn aP bb bU b0 bZ));have an:=eF bL (M.heap.size+2) 1 (.slice (some ⟨bA,0,none⟩) (m+1) cap');have bC:=dh.out.set 1 (.slice (some ⟨bA,0,none⟩) (m+1) cap');simp only[br,cg,cw]at bC;have cy:=O (dk.out.grown an (λk e=>by injection e with e;omega));have b3:=O (dj.out.grown an (λk e=>by injection e with e;omega));have cp:=O (dc.out.grown an (λe=>by injection e with e;omega));have cD:=O (dp.out.grown an (λe=>by injection e with e;omega));have cz:=O (d8 dl.out an Qa);have cs:=O bC;go_roundw
       case rel=>exact⟨k,vs,al++[⟨⟨(cO r.tail).t,ps,b8⟩,.slice C i bB,.slice D aW aV⟩],b5,bo,n,c,some ⟨bA,0,none⟩,m+1,cap',by omega,by omega,b6,by simp[b7],by omega,O (by simpa using cu.out),b3,cp,cD,cs,cy,cz⟩
       case measure=>rw[cv.out.tokN,b3.out.tokN];omega
def jE (tv tf:TypeId) (Q:Nat->Prop) (w:World) (base:Nat) (vv fv:Value) (vs:List Vr) (fs:List FV):Prop:=
 w.ownsRow base tv 2 vv vs.length (eB vs)/\w.ownsRow base tf 3 fv fs.length (ij fs)/\(∀k,vv.ownBlock=some k->fv.ownBlock≠some k)/\ ∀p,p∈fs->p.ok w (λb=>Q b/\some b≠vv.ownBlock/\some b≠fv.ownBlock)
theorem jE.nil_ (h j:TypeId) (Q:Nat->Prop) (a:World) (base:Nat):jE h j Q a base (.slice none 0 0) (.slice none 0 0) [] []:=⟨World.ownsRow_nil _ _ _ _,World.ownsRow_nil _ _ _ _,λk w=>(by cases w),λp o=>(by cases o)⟩
theorem jE.keepW {G K:TypeId} {Q:Nat->Prop} {a w':World} {base:Nat} {A M:Value} {vs:List Vr} {O:List FV} (h:jE G K Q a base A M vs O) (R:a.heap.size<=w'.heap.size) (j: ∀b,(base<=b\/Q b)->b<a.heap.size->w'.heap[b]? =a.heap[b]?):jE G K Q w' base A M vs O:=
 ⟨gH h.1 (λb z w _=>j b (.inl z) w),gH h.2.1 (λb z w _=>j b (.inl z) w),h.2.2.1,λp V=>(h.2.2.2 p V).keep ⟨R,λb o X=>j b (.inr o.1) X⟩ (λb o _=>o)⟩
theorem jE.ext {j o:TypeId} {Q:Nat->Prop} {a w':World} {base:Nat} {h z:Value} {vs:List Vr} {A:List FV} (K:jE j o Q a base h z vs A) (w:az a w'):jE j o Q w' base h z vs A:=K.keepW w.size λb _ G=>w.obj G
theorem jE.snocV {z G:TypeId} {Q:Nat->Prop} {o w':World} {base:Nat} {w R:Value} {vs:List Vr} {V:List FV} {v:Vr} {h n X:Nat} (ai:jE z G Q o base w R vs V) (ag:vs.length=n) (ae:w'.ownsRow base z 2 (.slice (some ⟨h,0,none⟩) (n+1) X) (n+1) (eB vs++nN v))
  (K:o.grownBy w' w.ownBlock) (a:some h=w.ownBlock\/o.heap.size<=h):jE z G Q w' base (.slice (some ⟨h,0,none⟩) (n+1) X) R (vs++[v]) V:=by
 subst ag;obtain⟨ak,O,M,ah⟩:=ai;have af:=World.ownsRow.lt O;refine⟨by rw[ac,nT];simpa[eB]using ae,gH O (λb _ j ab=>K.block b j (λe=>M b e.symm ab)),λk A e=> ?_,λp ad=>(ah p ad).keep (.of_grown K λb j=>j.2.1) λb j aj=>⟨j.1,λe=> ?_,j.2.2⟩⟩
 ·have A:h=k:=I A;subst A;rcases a with a|a
  ·exact M h a.symm e
  ·have:=(af h e).2;omega
 ·have e:b=h:=I e;subst e;rcases a with a|a
  ·exact j.2.1 a
  ·omega
theorem jE.snocF {O K:TypeId} {Q:Nat->Prop} {A w':World} {base:Nat} {w G:Value} {vs:List Vr} {z:List FV} {p:FV} {h n M:Nat} (al:jE O K Q A base w G vs z) (af:p.ok w' (λb=>Q b/\some b≠w.ownBlock/\b≠h)) (ai:z.length=n) (ag:w'.ownsRow base K 3 (.slice (some ⟨h,0,none⟩) (n+1) M) (n+1) (ij z++t8 p))
  (V:A.grownBy w' G.ownBlock) (j:some h=G.ownBlock\/A.heap.size<=h):jE O K Q w' base w (.slice (some ⟨h,0,none⟩) (n+1) M) vs (z++[p]):=by
 subst ai;obtain⟨ab,an,X,aj⟩:=al;have ah:=World.ownsRow.lt ab
 have ae: ∀b,(Q b/\some b≠w.ownBlock/\some b≠G.ownBlock)->b<A.heap.size->(Q b/\some b≠w.ownBlock/\some b≠Value.ownBlock (.slice (some ⟨h,0,none⟩) (z.length+1) M)):=λb a J=>⟨a.1,a.2.1,λe=>by
  have e:b=h:=I e;subst e;rcases j with j|j
  ·exact a.2.2 j
  ·omega⟩
 refine⟨gH ab (λb _ a ad=>V.block b a (λe=>X b ad e.symm)),by rw[ac,rn];simpa[ij]using ag,λk R e=> ?_,λq o=> ?_⟩
 ·have e:h=k:=I e;subst e;rcases j with j|j
  ·exact X h R j.symm
  ·have:=(ah h R).2;omega
 ·rcases List.mem_append.1 o with o|o
  ·exact(aj q o).keep (.of_grown V λb a=>a.2.2) ae
  ·rw[cP]at o;subst o;exact af.keep (w':=w') ⟨ak _,λ_ _ _=>rfl⟩ (λb a _=>⟨a.1,a.2.1,λe=>a.2.2 (I e)⟩)
theorem jE.rd {R V:TypeId} {Q:Nat->Prop} {o:World} {base:Nat} {K ab:Value} {vs:List Vr} {a:List FV} (O:jE R V Q o base K ab vs a) (I: ∀b,base<=b->Q b):ik o Q K vs/\jl o Q ab (a.map (·.c)):=by
 obtain⟨ae,ad,_,ac⟩:=O;constructor
 ·rcases ae.2 with⟨rfl,M⟩|⟨g,cap,cur,rfl,A,hg,hnc,hcm,hcs,ht⟩
  ·have:vs=[]:=ax M;subst this;exact⟨none,0,rfl,.inl rfl⟩
  ·have w: ∀h y,(eB vs)[h]? =some y->o.cell? ⟨g,h,none⟩=some y:=λh y j=>by
    rw[cell_of_row o g h cur R (0,0) hg];rw[<-ht,bL]at j;split at j
    ·simpa using j
    ·cases j
   exact⟨_,cap,rfl,.inr ⟨hnc,hcm,g,0,rfl,I g A,(Array.getElem?_eq_some_iff.1 hg).1,λi G=>by
    rw[aG]
    exact⟨w _ _ (il vs i G 0 Qa),w _ _ (il vs i G 1 Qa)⟩⟩⟩
 ·rcases ad.2 with⟨rfl,M⟩|⟨g,cap,cur,rfl,A,hg,hnc,hcm,hcs,ht⟩
  ·have:a=[]:=ax M;subst this;exact⟨none,0,rfl,.inl rfl⟩
  ·have w: ∀h y,(ij a)[h]? =some y->o.cell? ⟨g,h,none⟩=some y:=λh y j=>by
    rw[cell_of_row o g h cur V (0,0) hg];rw[<-ht,bL]at j;split at j
    ·simpa using j
    ·cases j
   refine⟨some ⟨g,0,none⟩,cap,by simp,.inr ⟨by simpa using hnc,hcm,g,0,rfl,I g A,(Array.getElem?_eq_some_iff.1 hg).1,λi=>if O:i<a.length then a[i].p else .slice none 0 0,λi=>if O:i<a.length then a[i].b else .slice none 0 0,λi G=> ?_⟩⟩;have z:i<a.length:=by simpa using G
   have af:(a.map (·.c))[i]=a[i].c:=Qd
   have X:=(ac a[i] (ay z)).keep (P:=λb=>Q b/\some b≠K.ownBlock/\some b≠Value.ownBlock (.slice (some ⟨g,0,none⟩) a.length cap)) (w':=o) ⟨ak _,λ_ _ _=>rfl⟩ (Q:=Q) (λb A _=>A.1);rw[af];simp only[aG,dif_pos z];exact⟨w _ _ (ir a i z 0 Qa),w _ _ (ir a i z 1 Qa),w _ _ (ir a i z 2 Qa),X.1,X.2⟩
theorem rU (v:Vr): ∀u∈nN v,u.oneCell'=true:=by
 intro u a;simp only[nN,ew,dw,or_false]at a;rcases a with rfl|rfl<;>rfl
theorem DM (f:Fc) (h B:Option Addr) (n m c d:Nat): ∀u∈t8 ⟨f,.slice h n c,.slice B m d⟩,u.oneCell'=true:=by
 intro u a;simp only[t8,ew,dw,or_false]at a;rcases a with rfl|rfl|rfl<;>rfl
structure PO (ts td:TypeId) (w:World) (s0 s1 vv fv:Value) (W:World):Prop where
 e:az w W
 bs:aU W w.heap.size ts #[s0,s1]
 bz:aU W (w.heap.size+1) td #[.slice none 0 0,.slice none 0 0]
 bo:aU W (w.heap.size+1+1) td #[vv,fv]
section
variable {ts td:TypeId} {w W W':World} {s0 s1 vv fv:Value}
theorem E6 (ts td:TypeId) (w:World) (s0 s1:Value):PO ts td w s0 s1 (.slice none 0 0) (.slice none 0 0) (((w.alloc (.cells #[s0,s1] ts)).alloc (.cells #[.slice none 0 0,.slice none 0 0] td)).alloc (.cells #[.slice none 0 0,.slice none 0 0] td)):=by
 refine⟨((Z w _).alloc' _).alloc' _,((aw w _ _).alloc _).alloc _,?_,?_⟩
 ·have:=(aw (w.alloc (.cells #[s0,s1] ts)) td #[.slice none 0 0,.slice none 0 0]).alloc (.cells #[.slice none 0 0,.slice none 0 0] td);rwa [World.size_alloc]at this
 ·have:=aw ((w.alloc (.cells #[s0,s1] ts)).alloc (.cells #[.slice none 0 0,.slice none 0 0] td)) td #[.slice none 0 0,.slice none 0 0];rwa [World.size_alloc,World.size_alloc]at this
theorem PO.lt (a:PO ts td w s0 s1 vv fv W):w.heap.size+1+1<W.heap.size:=a.bo.lt
theorem PO.ex (h:PO ts td w s0 s1 vv fv W) (a:az W W'):PO ts td w s0 s1 vv fv W':=⟨h.e.trans a,h.bs.ext a,h.bz.ext a,h.bo.ext a⟩
theorem PO.grown {row:Option Nat} (j:PO ts td w s0 s1 vv fv W) (h:W.grownBy W' row) (a: ∀k,row=some k->w.heap.size+3<=k):PO ts td w s0 s1 vv fv W':=
 ⟨j.e.grown h (λk e=>by have:=a k e;omega),j.bs.grown h (λe=>by have:=a _ e.symm;omega),j.bz.grown h (λe=>by have:=a _ e.symm;omega),j.bo.grown h (λe=>by have:=a _ e.symm;omega)⟩
theorem PO.putV (a:PO ts td w s0 s1 vv fv W) (q:Value):PO ts td w s0 s1 q fv (W.setCell ⟨w.heap.size+1+1,0,none⟩ q):=by
 refine⟨a.e.set (by show w.heap.size<=w.heap.size+1+1;omega) _,a.bs.far (p:=⟨w.heap.size+1+1,0,none⟩) (by show _≠w.heap.size+1+1;omega) _,a.bz.far (p:=⟨w.heap.size+1+1,0,none⟩) (by show _≠w.heap.size+1+1;omega) _,?_⟩;have:=a.bo.set 0 q;simpa using this
theorem PO.putF (a:PO ts td w s0 s1 vv fv W) (q:Value):PO ts td w s0 s1 vv q (W.setCell ⟨w.heap.size+1+1,1,none⟩ q):=by
 refine⟨a.e.set (by show w.heap.size<=w.heap.size+1+1;omega) _,a.bs.far (p:=⟨w.heap.size+1+1,1,none⟩) (by show _≠w.heap.size+1+1;omega) _,a.bz.far (p:=⟨w.heap.size+1+1,1,none⟩) (by show _≠w.heap.size+1+1;omega) _,?_⟩;have:=a.bo.set 1 q;simpa using this
end
theorem wO {a:World} {P:Nat->Prop} {A:Option Addr} {n c:Nat} {ls:List Fc} (j:jl a P (.slice A n c) ls) (i:Nat) (z:i<ls.length):
  ∃b h o w,A=some ⟨b,h,none⟩/\b<a.heap.size/\a.cell? ⟨b,h+i*3,none⟩=some (.string (J ls[i].nm))/\a.cell? ⟨b,h+i*3+1,none⟩=some o/\a.cell? ⟨b,h+i*3+2,none⟩=some w/\mQ a P o ls[i].ps/\db a P w ls[i].body:=by
 obtain⟨ad,ac,V,j⟩:=j;injection V with X ab I;rcases j with j|⟨_,_,b,h,ha,_,hb,o,w,hc⟩
 ·subst j;simp at z
 ·obtain⟨R,O,M,K,G⟩:=hc i z;exact⟨b,h,o i,w i,by rw[X];exact ha,hb,R,O,M,K,G⟩
theorem CO {j:World} {P:Nat->Prop} {w:Option Addr} {n c:Nat} {ls:List Vr} (h:ik j P (.slice w n c) ls) (i:Nat) (o:i<ls.length):
  ∃b a,w=some ⟨b,a,none⟩/\b<j.heap.size/\j.cell? ⟨b,a+i*2,none⟩=some (.string (J ls[i].nm))/\j.cell? ⟨b,a+i*2+1,none⟩=some (.int i64 ls[i].sz):=by
 obtain⟨O,M,z,h⟩:=h;injection z with A K G;rcases h with h|⟨_,_,b,a,ha,_,hb,hc⟩
 ·subst h;simp at o
 ·exact⟨b,a,by rw[A];exact ha,hb,(hc i o).1,(hc i o).2⟩
def QO (w:World) (P:Nat->Prop) (b:Nat):Prop:=(P b/\b<w.heap.size)\/w.heap.size+3<=b
theorem jE.far {o w:TypeId} {P:Nat->Prop} {a W:World} {j z:Value} {vs:List Vr} {A:List FV} {b i:Nat} (G:jE o w (QO a P) W (a.heap.size+3) j z vs A) (O:a.heap.size<=b) (M:b<a.heap.size+3) (v:Value):jE o w (QO a P) (W.setCell ⟨b,i,none⟩ v) (a.heap.size+3) j z vs A:=
 G.keepW (by simp[World.setCell]) λk h K=>Below.heap_setCell W ⟨b,i,none⟩ v k (by
  show k≠b
  rcases h with h|h|h<;>omega)
theorem AX {P:Nat->Prop} {o b c:World} (a:cR P o b) (k:cR P b c):cR P o c:=⟨aR a.1 k.1,λx j h=>(k.2 x j (aF h a.1)).trans (a.2 x j h)⟩
theorem Aj {P:Nat->Prop} {w W:World} {b i:Nat} (v:Value) (j:w.heap.size<=b) (h:b<w.heap.size+3):cR (QO w P) W (W.setCell ⟨b,i,none⟩ v):=
 ⟨by simp[World.setCell],λk a _=>Below.heap_setCell W ⟨b,i,none⟩ v k (by
  show k≠b
  rcases a with a|a<;>omega)⟩
end
end Go.Proofs.YtddomeddabfinaaGreatDoor
