/-
  Parts of the proof: OpenB.
-/
import Derived.Test.YtddomeddabfinaaGreatDoorTp00
import Derived.SizedLaws
import Derived.Lib.SmallJoins
import Derived.Laws.IdiomArrays
import Derived.Test.YtddomeddabfinaaGreatDoorTp35
set_option maxRecDepth 100000
set_option maxHeartbeats 8000000
set_option linter.unusedVariables false
set_option linter.unusedSimpArgs false
set_option linter.unusedSectionVars false
namespace Go.Proofs.YtddomeddabfinaaGreatDoor
open Go.Proofs.Tryz
open Go.ChangeShapes Go.WideShapes Go.ChangeAt Go.RowKit
section
variable {H:Type} {enc:TypeId×Value->H} {P:Program} {W:World}
theorem pd {t e:TypeId} (ht:P.underlying t=some (.slice e)) (he:P.underlying e=some (.int .u8)) (hc:P.cellsOf e=1) (hb:P.bytesOf e=1) {base n:Nat} {hd:Bool} {c:Value} {y:DataW H×List MemPlace}
  (h:DataW.trod enc P W base (fun _=>true) hd n t [c]=some y): ∃A cap l,c= .slice A (List.length (α:=UInt8) l) cap/\Sl W A cap l/\((y.1.weights P t).all (· <=reachBytes)=true->cap<=reachBytes):=by
 rcases open_ints ht he hc h with⟨hcs,hx⟩|⟨x,len0,cap0,zs,hcs,_,hl,hm,hz,hx,hcell,hwz⟩
 ·injection hcs with hcs;exact⟨none,0,[],hcs,kO W,fun _=>by simp[reachBytes]⟩
 ·injection hcs with hcs;rw[if_pos rfl]at hz;have hlen:((zs.take len0).map fun n=>UInt8.ofNat n.toNat).length=len0:=by simp;omega
  refine⟨some x,cap0,(zs.take len0).map fun n=>UInt8.ofNat n.toNat,by rw[hlen];exact hcs,⟨by rw[hlen];exact hl,hm,(fun h=>by cases h),?_⟩,fun hw=> ?_⟩
  ·by_cases h0:len0=0
   ·left;apply aE;rw[hlen,h0]
   ·right;obtain⟨b,off,spot⟩:=x;have hc0:=hcell 0 (by omega);have hspot:spot=none:=by simpa[Addr.add]using World.cell?_spot hc0
    subst hspot;refine⟨b,off,rfl,?_,fun i hi=> ?_⟩
    ·have:=World.block_lt_of_cell? _ _ hc0;simpa[Addr.add]using this
    ·rw[hlen]at hi;have h1:=hcell i (by omega);rw[Addr.add_lit]at h1;rw[h1];have hiz:i<zs.length:=by omega
     have hg:zs.getD i 0=zs[i]:=by simp[List.getD,hiz]
     rw[hg];have hwf:=hwz _ (aq hiz);have hbd:=bounds_u8 (n:=zs[i]) hwf;simp only[List.getElem_map,eW];rw[fT]
     congr 2
     omega
  ·have hy:y.1= .slice (lits .u8 (zs.take len0)) (lits .u8 (zs.drop len0)):=by rw[hx]
   rw[hy]at hw;simp only[DataW.weights,ht,List.all_cons,ak,decide_eq_true_eq]at hw;have:=hw.1;rw[hb]at this;simp only[lits,eS,bm,bw]at this;omega
theorem gK {t:TypeId} {k:IntKind} (ht:P.underlying t=some (.int k)) {base n:Nat} {sp:Nat->Bool} {hd:Bool} {c:Value} {y:DataW H×List MemPlace}
  (h:DataW.trod enc P W base sp hd n t [c]=some y): ∃z,c= .int k z/\(Lit.int k z).wf=true:=by
 obtain⟨z,h1,h2,h3⟩:=DataW.trod_int ht h;injection h1 with h1;exact⟨z,h1,h3⟩
end
end Go.Proofs.YtddomeddabfinaaGreatDoor
