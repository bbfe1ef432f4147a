/- Parts of the proof. -/
import Derived.Test.YtddomeddabfinaaGreatDoorTt00
import Derived.BigRegion
import Derived.Test.YtddomeddabfinaaGreatDoorTt24
import Derived.Test.YtddomeddabfinaaGreatDoorTt16
import Derived.Test.YtddomeddabfinaaGreatDoorTt22
set_option maxRecDepth 100000
set_option maxHeartbeats 8000000
set_option linter.unusedVariables false
set_option linter.unusedSimpArgs false
set_option linter.unusedSectionVars false
namespace Go.Proofs.YtddomeddabfinaaGreatDoor
open IntKind(i64)
open Go.Proofs.Tryz
open Go.RowKit
structure PW (w:World) (x0 x1 y z:Value) (W:World):Prop where
 e:az w W
 b0:aU W w.heap.size 34 #[x0,x1]
 b1:aU W (w.heap.size+1) 3 #[y]
 b2:aU W (w.heap.size+1+1) 28 #[z]
theorem E4 (a:World) (o j y h:Value):PW a o j y h (((a.alloc (.cells #[o,j] 34)).alloc (.cells #[y] 3)).alloc (.cells #[h] 28)):=by
 refine⟨((Z a _).alloc' _).alloc' _,((aw a _ _).alloc _).alloc _,?_,?_⟩
 ·have:=(aw (a.alloc (.cells #[o,j] 34)) 3 #[y]).alloc (.cells #[h] 28);rwa [World.size_alloc]at this
 ·have:=aw ((a.alloc (.cells #[o,j] 34)).alloc (.cells #[y] 3)) 28 #[h];rwa [World.size_alloc,World.size_alloc]at this
section
variable {w W W':World} {x0 x1 y z:Value}
theorem PW.ex (h:PW w x0 x1 y z W) (a:az W W'):PW w x0 x1 y z W':=⟨h.e.trans a,h.b0.ext a,h.b1.ext a,h.b2.ext a⟩
theorem PW.lt (a:PW w x0 x1 y z W):w.heap.size+1+1<W.heap.size:=a.b2.lt
theorem PW.grown {g:Nat} (h:PW w x0 x1 y z W) (a:W.grownBy W' (some g)) (j:w.heap.size+1+1<g):PW w x0 x1 y z W':=
 ⟨h.e.grown a (λk e=>by injection e with e;omega),h.b0.grown a (λe=>by injection e with e;omega),h.b1.grown a (λe=>by injection e with e;omega),h.b2.grown a (λe=>by injection e with e;omega)⟩
theorem PW.drew (a:PW w x0 x1 y z W):PW w x0 x1 y z W.drew:=⟨a.e.drew,a.b0.drew,a.b1.drew,a.b2.drew⟩
theorem PW.put0 (a:PW w x0 x1 y z W) (j h:Value):PW w j h y z ((W.setCell ⟨w.heap.size,0,none⟩ j).setCell ⟨w.heap.size,1,none⟩ h):=by
 refine⟨(a.e.set (ak _) _).set (ak _) _,?_,(a.b1.far (p:=⟨w.heap.size,0,none⟩) (by show _≠w.heap.size;omega) _).far (p:=⟨w.heap.size,1,none⟩) (by show _≠w.heap.size;omega) _,(a.b2.far (p:=⟨w.heap.size,0,none⟩) (by show _≠w.heap.size;omega) _).far (p:=⟨w.heap.size,1,none⟩) (by show _≠w.heap.size;omega) _⟩;have:=(a.b0.set 0 j).set 1 h;simpa using this
theorem PW.put1 (a:PW w x0 x1 y z W) (q:Value):PW w x0 x1 q z (W.setCell ⟨w.heap.size+1,0,none⟩ q):=by
 refine⟨a.e.set (by show w.heap.size<=w.heap.size+1;omega) _,a.b0.far (p:=⟨w.heap.size+1,0,none⟩) (by show _≠w.heap.size+1;omega) _,?_,a.b2.far (p:=⟨w.heap.size+1,0,none⟩) (by show _≠w.heap.size+1;omega) _⟩;have:=a.b1.set 0 q;simpa using this
theorem PW.put2 (a:PW w x0 x1 y z W) (q:Value):PW w x0 x1 y q (W.setCell ⟨w.heap.size+1+1,0,none⟩ q):=by
 refine⟨a.e.set (by show w.heap.size<=w.heap.size+1+1;omega) _,a.b0.far (p:=⟨w.heap.size+1+1,0,none⟩) (by show _≠w.heap.size+1+1;omega) _,a.b1.far (p:=⟨w.heap.size+1+1,0,none⟩) (by show _≠w.heap.size+1+1;omega) _,?_⟩;have:=a.b2.set 0 q;simpa using this
end
theorem wN {w W:World} {b i:Nat} (v:Value):cR (λk=>k≠b) W (W.setCell ⟨b,i,none⟩ v):=⟨by simp[World.setCell],λk a _=>Below.heap_setCell W ⟨b,i,none⟩ v k a⟩
theorem xB.keepP {o w':World} {P:Nat->Prop} {j:Option Addr} {c:Nat} {l:List bT} (h:xB o j c l) (w:cR P o w') (G: ∀b off,j=some ⟨b,off,none⟩->l≠ []->P b):xB w' j c l:=by
 refine⟨h.le,h.max,?_⟩;by_cases hl:l=[]
 ·exact .inl hl
 ·rcases h.rd with K|⟨b,off,ha,hlt,hc⟩
  ·exact .inl K
  ·have a:=λz=>w.cell z (G b off ha hl) hlt;exact .inr ⟨b,off,ha,aF hlt w.size,λi A=>let⟨q0,q1,q2,q3⟩:=hc i A;⟨(a _).trans q0,(a _).trans q1,(a _).trans q2,(a _).trans q3⟩⟩
theorem vx {h W:World} {R O y M a b:Value} {base:Nat} {w:Option Addr} {c:Nat} {j:List bT} (z:Int) (ae:PW h R O y M W) (K:iR W base 206 (.slice w j.length c) j) (ad:h.heap.size+3<=base):
  PA (((W.setCell ⟨h.heap.size+1,0,none⟩ a).setCell ⟨h.heap.size+1+1,0,none⟩ b).alloc (.cells #[.slice w j.length c,.int i64 z] 155)) W.heap.size j z:=by
 have G:=K.tks.2;have ab: ∀k,(Value.slice w j.length c).ownBlock=some k->base<=k:=λk X=>(World.ownsRow.lt K k X).1;have A: ∀b off,w=some ⟨b,off,none⟩->j≠ []->b≠h.heap.size+1/\b≠h.heap.size+1+1:=λb off e o=>by
  subst e;have:=ab b rfl;omega
 have V:(((W.setCell ⟨h.heap.size+1,0,none⟩ a).setCell ⟨h.heap.size+1+1,0,none⟩ b)).heap.size=W.heap.size:=by simp[World.setCell]
 have I:=(G.keepP (wN (w:=h) (b:=h.heap.size+1) (i:=0) a) (λb off e o=>(A b off e o).1)).keepP (wN (w:=h) (b:=h.heap.size+1+1) (i:=0) b) (λb off e o=>(A b off e o).2);refine⟨w,c,?_,I.ext (Z _ _),λb off e o=> ?_⟩
 ·have:=aw ((W.setCell ⟨h.heap.size+1,0,none⟩ a).setCell ⟨h.heap.size+1+1,0,none⟩ b) 155 #[.slice w j.length c,.int i64 z];rwa [V]at this
 ·rcases G.rd with ac|⟨b',off',ha,hlt,_⟩
  ·exact absurd ac o
  ·rw[e]at ha;injection ha with ha;injection ha with ha;omega
theorem dN {a w':World} (j:dP a a.heap.size) (h:az a w'):dP w' w'.heap.size:=⟨(j.fb (be h (ak _))).1,aF j.2 h.size⟩
theorem oe {a W:World} {b i:Nat} (v:Value) (j:b<=a.heap.size+1+1):cR (λb=>a.heap.size+1+1<b) W (W.setCell ⟨b,i,none⟩ v):=
 ⟨by simp[World.setCell],λk h _=>Below.heap_setCell W ⟨b,i,none⟩ v k (by show k≠b;omega)⟩
theorem sE {a W:World} (h b:Value):cR (λb=>a.heap.size+1+1<b) W ((W.setCell ⟨a.heap.size,0,none⟩ h).setCell ⟨a.heap.size,1,none⟩ b):=
 fH (oe h Qa) (oe b Qa)
theorem AY {a W:World} (h b c d:Value):cR (λb=>a.heap.size+1+1<b) W ((((W.setCell ⟨a.heap.size,0,none⟩ h).setCell ⟨a.heap.size,1,none⟩ b).setCell ⟨a.heap.size+1,0,none⟩ c).setCell ⟨a.heap.size+1+1,0,none⟩ d):=
 fH (fH (fH (oe h Qa) (oe b Qa)) (oe c Qa)) (oe d Qa)
def B7 (w:World) (r:Pg×Int×Int) (e:Ending) (w':World):Prop:=
 az w w'/\ ∃A n c B m d,e=.returned (.tuple #[.agg #[.slice A n c,.slice B m d],.int i64 r.2.1,.int i64 r.2.2])/\ik w' (λb=>w.heap.size<=b) (.slice A n c) r.1.vs/\jl w' (λb=>w.heap.size<=b) (.slice B m d) r.1.fs
theorem n_ {a w':World} {h en:Int} (j:az a w'):B7 a (lS,h,en) (.returned (.tuple #[.agg #[.slice none 0 0,.slice none 0 0],.int i64 h,.int i64 en])) w':=
 ⟨j,none,0,0,none,0,0,rfl,⟨none,0,rfl,.inl rfl⟩,⟨none,0,rfl,.inl rfl⟩⟩
theorem yr (s:List UInt8) (j:World) (a4:EZ j) (a6:dP j j.heap.size):Calls prog 32 #[.string (J s)] j (B7 j (lQ s)):=by
 have bl: ∀(fn:Fn) (first a8:Array Value) (j:World),(Instr.makeFunc fn first a8).run prog j=.ok (.func fn first a8) j:=λ_ _ _ _=>rfl;obtain⟨⟨z,I,en⟩,aL⟩: ∃bg,gG s=bg:=⟨_,rfl⟩
 have be:(J s).size=s.length:=bm s;have R:=O (E4 j (.slice none 0 0) (.slice none 0 0) (.int i64 0) (.int i64 0))
 have ap:=O (show ∀W,EZ W->Calls prog 58 #[.string (J s)] W (λe w'=> ∃K c,e=.returned (.tuple #[.slice K z.length c,.int i64 I,.int i64 en])/\iR w' W.heap.size 206 (.slice K z.length c) z/\az W w')from
  λW bf=>by
   have:=uI s W bf;rw[aL]at this
   exact this.mono (λe w' ⟨⟨K,c,aT,aS⟩,a1⟩=>⟨K,c,aT,aS,a1⟩))
 have ao:=O a4;have aU:=O a6;clear a4 a6;by_cases hen:en=0
 ·subst hen;have aN:=O (show lQ s=vw s.length z by unfold lQ;rw[aL];rfl);have aO:=Cn s;rw[aL]at aO;have aO:z.length<=4000/\dR z<=12000:=aO;have aX:=O aO;clear aL aO;generalize s.length=V at*;generalize aK:de (4*z.length+8) lS z=X;have a2:=O aK
  cases X with
  |error qn=>
   obtain⟨q,n⟩:=qn;have aq:=O (show lQ s=(lS,Gz (V:Int) q,n) by rw[aN.out,vw,aK]);clear aK aN;go_enter_defers func32,ntmps32;go_wp2_with (first|(go_at_call 58;refine(ap.out _ (ao.out.ext R.out.e)).mono ?_;rintro e aV ⟨K,c,rfl,ah,A⟩;have o:=O (R.out.ex A);have aD:=o.out.b1.cell;have av:=o.out.b1.frozen;have aC:=o.out.b2.cell;have au:=o.out.b2.frozen;have ar:=O (vx (a:=.int i64 I) (b:=.int i64 0) (V:Int) o.out ah (by have:=R.out.lt;omega));have ai:=O (((o.out.put1 (.int i64 I)).put2 (.int i64 0)).ex (Z _ (.cells #[.slice K z.length c,.int i64 V] 155)));have aP:=o.out.lt;clear A ah ap ao R o)|(go_at_call 60;refine(pN (4*z.length+8) (by have:=aX.out.1;omega) z (V:Int) _ _ ar.out Qa).mono ?_;intro e aY al;rw[show de (4*z.length+8) ⟨[],[]⟩ z=_ from a2.out]at al;obtain⟨an,ax⟩:=al;have ax:e=.panicked [{v:=.iface 151 (.agg #[.int i64 (Gz (V:Int) q),.int i64 n]),recovered:=false}]:=ax;subst ax;have G:=O (ai.out.grown an aP);clear an ar ai));refine leaves_cons (f:=59) (args:= #[.pointer (some ⟨j.heap.size,0,none⟩),.pointer (some ⟨j.heap.size+1,0,none⟩),.pointer (some ⟨j.heap.size+1+1,0,none⟩)]) Qd Qk ?_;refine(ul j aY j.heap.size (j.heap.size+1) (j.heap.size+1+1) _ _ _ _ _ _ _ G.out.e G.out.b0 G.out.b1 G.out.b2 Qa Qa Qa Qa Qa Qa).mono ?_;rintro e a3 bd ⟨rfl,rfl,A,a7,aT,aS⟩;have aB:=a7.cell;have aA:=aT.cell;have ay:=aS.cell;refine(show Leaves _ _ _ _ [] .returning bd from ?_);refine⟨.tuple #[.agg #[.slice none 0 0,.slice none 0 0],.int i64 (Gz (V:Int) q),.int i64 n],?_,by rw[aq.out];exact n_ A⟩;simp[results,results32,go_sem,aB,aA,ay]
  |ok pr=>
   obtain⟨p,r⟩:=pr;have a5:jo p<=6000000:=by
    have:=(vh _ _ _ _ _ aK).1;have a7:jo lS=0:=rfl;have:=aX.out.2;omega
   generalize aZ:gx p=ok
   have aW:=O (show ∀(P:Nat->Prop) (W:World) (K B:Option Addr) (n c m d:Nat),ik W P (.slice K n c) p.vs->jl W P (.slice B m d) p.fs->dP W W.heap.size->Calls prog 35 #[.agg #[.slice K n c,.slice B m d]] W λe w'=>e=.returned (.bool ok)/\az W w' from
    λP W K B n c m d aT aS a1=>aZ▸rV p a5 P W K B n c m d aT aS a1)
   have aq:=O (show lQ s=if ok then(p,0,0)else(lS,0,6) by rw[aN.out,vw,aK];simp only[aZ]);clear aK aN aZ a5
   cases ok with
   |true=>
    have aq:=O (show lQ s=(p,0,0)from aq.out);go_enter_defers func32,ntmps32;go_wp2_with (first|(go_at_call 58;refine(ap.out _ (ao.out.ext R.out.e)).mono ?_;rintro e aV ⟨K,c,rfl,ah,A⟩;have o:=O (R.out.ex A);have aD:=o.out.b1.cell;have av:=o.out.b1.frozen;have aC:=o.out.b2.cell;have au:=o.out.b2.frozen;have ar:=O (vx (a:=.int i64 I) (b:=.int i64 0) (V:Int) o.out ah (by have:=R.out.lt;omega));have ai:=O (((o.out.put1 (.int i64 I)).put2 (.int i64 0)).ex (Z _ (.cells #[.slice K z.length c,.int i64 V] 155)));have aP:=o.out.lt;clear A ah ap ao R o)|(go_at_call 60;refine(pN (4*z.length+8) (by have:=aX.out.1;omega) z (V:Int) _ _ ar.out Qa).mono ?_;intro e aY al;rw[show de (4*z.length+8) ⟨[],[]⟩ z=_ from a2.out]at al;obtain⟨an,ag,ab,ae,af,ac,ad,ax,aQ,aR⟩:=al;subst ax;have G:=O (ai.out.grown an aP);have aw:=ai.out.lt;have aE:=O (G.out.put0 (.slice ag ab ae) (.slice af ac ad));have aH:=O ((aQ.keep (Q:=λb=>j.heap.size+1+1<b) ⟨ak _,λ_ _ _=>rfl⟩ (λb w _=>aF aw w)).keep (Q:=λb=>j.heap.size+1+1<b) (sE (.slice ag ab ae) (.slice af ac ad)) (λ_ w _=>w));have aI:=O ((aR.keep (Q:=λb=>j.heap.size+1+1<b) ⟨ak _,λ_ _ _=>rfl⟩ (λb w _=>aF aw w)).keep (Q:=λb=>j.heap.size+1+1<b) (sE (.slice ag ab ae) (.slice af ac ad)) (λ_ w _=>w));have aM:=G.out.b0.cell;have aJ:=G.out.b0.frozen;clear an ar ai aQ aR aw G)|(go_at_call 35;refine(aW.out _ _ _ _ _ _ _ _ aH.out aI.out (dN aU.out aE.out.e)).mono ?_;rintro e bc ⟨rfl,A⟩;clear aM aJ;have M:=O (aE.out.ex A);have a9:=O (aH.out.keep (.of_ext A) (Q:=λb=>j.heap.size+1+1<b) (λ_ w _=>w));have ba:=O (aI.out.keep (.of_ext A) (Q:=λb=>j.heap.size+1+1<b) (λ_ w _=>w));have aM:=M.out.b0.cell;have aJ:=M.out.b0.frozen;have aD:=M.out.b1.cell;have av:=M.out.b1.frozen;have aC:=M.out.b2.cell;have au:=M.out.b2.frozen;clear A aH aI aE aW aU));have aj:=O (((M.out.put0 (.slice ag ab ae) (.slice af ac ad)).put1 (.int i64 0)).put2 (.int i64 0));have bh:=O (a9.out.keep (Q:=λb=>j.heap.size<=b) (AY (.slice ag ab ae) (.slice af ac ad) (.int i64 0) (.int i64 0)) (λb w _=>by omega));have bi:=O (ba.out.keep (Q:=λb=>j.heap.size<=b) (AY (.slice ag ab ae) (.slice af ac ad) (.int i64 0) (.int i64 0)) (λb w _=>by omega));refine leaves_cons (f:=59) (args:= #[.pointer (some ⟨j.heap.size,0,none⟩),.pointer (some ⟨j.heap.size+1,0,none⟩),.pointer (some ⟨j.heap.size+1+1,0,none⟩)]) Qd Qk ?_;refine(qc _ _ _ _).mono ?_;rintro e a3 bb ⟨rfl,rfl,rfl⟩;have aB:=aj.out.b0.cell;have aA:=aj.out.b1.cell;have ay:=aj.out.b2.cell;refine(show Leaves _ _ _ _ [] .returning _ from ?_);refine⟨.tuple #[.agg #[.slice ag ab ae,.slice af ac ad],.int i64 0,.int i64 0],?_,by rw[aq.out];exact⟨aj.out.e,_,_,_,_,_,_,rfl,bh.out,bi.out⟩⟩;simp[results,results32,go_sem,aB,aA,ay]
   |false=>
    have aq:=O (show lQ s=(lS,0,6)from aq.out);go_enter_defers func32,ntmps32;go_wp2_with (first|(go_at_call 58;refine(ap.out _ (ao.out.ext R.out.e)).mono ?_;rintro e aV ⟨K,c,rfl,ah,A⟩;have o:=O (R.out.ex A);have aD:=o.out.b1.cell;have av:=o.out.b1.frozen;have aC:=o.out.b2.cell;have au:=o.out.b2.frozen;have ar:=O (vx (a:=.int i64 I) (b:=.int i64 0) (V:Int) o.out ah (by have:=R.out.lt;omega));have ai:=O (((o.out.put1 (.int i64 I)).put2 (.int i64 0)).ex (Z _ (.cells #[.slice K z.length c,.int i64 V] 155)));have aP:=o.out.lt;clear A ah ap ao R o)|(go_at_call 60;refine(pN (4*z.length+8) (by have:=aX.out.1;omega) z (V:Int) _ _ ar.out Qa).mono ?_;intro e aY al;rw[show de (4*z.length+8) ⟨[],[]⟩ z=_ from a2.out]at al;obtain⟨an,ag,ab,ae,af,ac,ad,ax,aQ,aR⟩:=al;subst ax;have G:=O (ai.out.grown an aP);have aw:=ai.out.lt;have aE:=O (G.out.put0 (.slice ag ab ae) (.slice af ac ad));have aH:=O ((aQ.keep (Q:=λb=>j.heap.size+1+1<b) ⟨ak _,λ_ _ _=>rfl⟩ (λb w _=>aF aw w)).keep (Q:=λb=>j.heap.size+1+1<b) (sE (.slice ag ab ae) (.slice af ac ad)) (λ_ w _=>w));have aI:=O ((aR.keep (Q:=λb=>j.heap.size+1+1<b) ⟨ak _,λ_ _ _=>rfl⟩ (λb w _=>aF aw w)).keep (Q:=λb=>j.heap.size+1+1<b) (sE (.slice ag ab ae) (.slice af ac ad)) (λ_ w _=>w));have aM:=G.out.b0.cell;have aJ:=G.out.b0.frozen;clear an ar ai aQ aR aw G)|(go_at_call 35;refine(aW.out _ _ _ _ _ _ _ _ aH.out aI.out (dN aU.out aE.out.e)).mono ?_;rintro e bc ⟨rfl,A⟩;clear aM aJ;have M:=O (aE.out.ex A);have a9:=O (aH.out.keep (.of_ext A) (Q:=λb=>j.heap.size+1+1<b) (λ_ w _=>w));have ba:=O (aI.out.keep (.of_ext A) (Q:=λb=>j.heap.size+1+1<b) (λ_ w _=>w));have aM:=M.out.b0.cell;have aJ:=M.out.b0.frozen;have aD:=M.out.b1.cell;have av:=M.out.b1.frozen;have aC:=M.out.b2.cell;have au:=M.out.b2.frozen;clear A aH aI aE aW aU));have aj:=O (((M.out.put0 (.slice none 0 0) (.slice none 0 0)).put1 (.int i64 0)).put2 (.int i64 6));refine leaves_cons (f:=59) (args:= #[.pointer (some ⟨j.heap.size,0,none⟩),.pointer (some ⟨j.heap.size+1,0,none⟩),.pointer (some ⟨j.heap.size+1+1,0,none⟩)]) Qd Qk ?_;refine(qc _ _ _ _).mono ?_;rintro e a3 bb ⟨rfl,rfl,rfl⟩;have aB:=aj.out.b0.cell;have aA:=aj.out.b1.cell;have ay:=aj.out.b2.cell;refine(show Leaves _ _ _ _ [] .returning _ from ?_);refine⟨.tuple #[.agg #[.slice none 0 0,.slice none 0 0],.int i64 0,.int i64 6],?_,by rw[aq.out];exact n_ aj.out.e⟩;simp[results,results32,go_sem,aB,aA,ay]
 ·have bk:(en !=0)=true:=by simp[bne,hen]
  have bn:(en==0)=false:=by simp[hen]
  have aN:=O (show lQ s=(lS,I,en) by unfold lQ;rw[aL];exact if_neg hen);clear aL hen be;go_enter_defers func32,ntmps32;go_wp2_with (go_at_call 58;refine(ap.out _ (ao.out.ext R.out.e)).mono ?_;rintro e aV ⟨K,c,rfl,ah,A⟩;have o:=O (R.out.ex A);have aD:=o.out.b1.cell;have av:=o.out.b1.frozen;have aC:=o.out.b2.cell;have au:=o.out.b2.frozen;clear A ah ap ao aU R);have aG:=O ((o.out.put1 (.int i64 I)).put2 (.int i64 en));clear aD av aC au o;generalize (aV.setCell ⟨j.heap.size+1,0,none⟩ (.int i64 I)).setCell ⟨j.heap.size+1+1,0,none⟩ (.int i64 en)=bj at*;have aM:=aG.out.b0.cell;have aD:=aG.out.b1.cell;have aC:=aG.out.b2.cell;have aJ:=aG.out.b0.frozen;have av:=aG.out.b1.frozen;have au:=aG.out.b2.frozen;go_region;have G:=O ((((aG.out.put0 (.slice none 0 0) (.slice none 0 0)).put1 (.int i64 I)).put2 (.int i64 en)).drew);go_wp2_with fail;have aB:=G.out.b0.cell;have aA:=G.out.b1.cell;have ay:=G.out.b2.cell;refine⟨.tuple #[.agg #[.slice none 0 0,.slice none 0 0],.int i64 I,.int i64 en],?_,by rw[aN.out];exact n_ G.out.e⟩;simp[results,results32,go_sem,aB,aA,ay]
end Go.Proofs.YtddomeddabfinaaGreatDoor
