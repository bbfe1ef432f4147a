/- Parts of the proof. -/
import Derived.Test.YtddomeddabfinaaGreatDoorTt00
import Derived.SizedLaws
import Derived.Lib.SmallJoins
import Derived.Laws.IdiomArrays
import Derived.Test.YtddomeddabfinaaGreatDoorTt35
set_option maxRecDepth 100000
set_option maxHeartbeats 8000000
set_option linter.unusedVariables false
set_option linter.unusedSimpArgs false
set_option linter.unusedSectionVars false
namespace Go.Proofs.YtddomeddabfinaaGreatDoor
open Go.Proofs.Tryz
open Go.ChangeShapes Go.WideShapes Go.ChangeAt Go.RowKit
section
variable {H:Type} {enc:TypeId×Value->H} {P:Program} {W:World}
theorem qC {t e:TypeId} (A:P.underlying t=some (.slice e)) (ad:P.underlying e=some (.int .u8)) (af:P.cellsOf e=1) (ah:P.bytesOf e=1) {base n:Nat} {ae:Bool} {c:Value} {y:DataW H×List MemPlace}
  (o:DataW.trod enc P W base (λ_=>true) ae n t [c]=some y): ∃O w l,c=.slice O (List.length (α:=UInt8) l) w/\Sl W O w l/\((y.1.weights P t).all (· <=reachBytes)=true->w<=reachBytes):=by
 rcases open_ints A ad af o with⟨a,z⟩|⟨x,len0,cap0,zs,a,_,hl,hm,hz,z,hcell,hwz⟩
 ·injection a with a;exact⟨none,0,[],a,kC W,λ_=>by simp[reachBytes]⟩
 ·injection a with a;rw[if_pos rfl]at hz;have h:((zs.take len0).map λn=>UInt8.ofNat n.toNat).length=len0:=Qh
  refine⟨some x,cap0,(zs.take len0).map λn=>UInt8.ofNat n.toNat,by rw[h];exact a,⟨by rw[h];exact hl,hm,(λo=>by cases o),?_⟩,λj=> ?_⟩
  ·by_cases h0:len0=0
   ·left;apply ax;rw[h,h0]
   ·right;obtain⟨b,off,R⟩:=x;have K:=hcell 0 Qa;have I:R=none:=by simpa[Addr.add]using World.cell?_spot K
    subst I;refine⟨b,off,rfl,?_,λi ab=> ?_⟩
    ·have:=World.block_lt_of_cell? _ _ K;simpa[Addr.add]using this
    ·rw[h]at ab;have M:=hcell i Qa;rw[Addr.add_lit]at M;rw[M];have G:i<zs.length:=Qa
     have ac:zs.getD i 0=zs[i]:=by simp[List.getD,G]
     rw[ac];have X:=hwz _ (ay G);have ai:=bounds_u8 (n:=zs[i]) X;simp only[List.getElem_map,gW];rw[fM]
     congr 2
     omega
  ·have V:y.1=.slice (lits .u8 (zs.take len0)) (lits .u8 (zs.drop len0)):=by rw[z]
   rw[V]at j;simp only[DataW.weights,A,dV,ag,decide_eq_true_eq]at j;have:=j.1;rw[ah]at this;simp only[lits,eQ,bN,bD]at this;omega
theorem iO {t:TypeId} {k:IntKind} (o:P.underlying t=some (.int k)) {base n:Nat} {j:Nat->Bool} {w:Bool} {c:Value} {y:DataW H×List MemPlace}
  (A:DataW.trod enc P W base j w n t [c]=some y): ∃a,c=.int k a/\(Lit.int k a).wf=true:=by
 obtain⟨a,h,G,z⟩:=DataW.trod_int o A;injection h with h;exact⟨a,h,z⟩
end
end Go.Proofs.YtddomeddabfinaaGreatDoor
