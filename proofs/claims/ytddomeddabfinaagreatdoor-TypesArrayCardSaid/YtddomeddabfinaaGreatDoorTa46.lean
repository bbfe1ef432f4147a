/-
  Parts of the proof: Open.
-/
import Derived.Test.YtddomeddabfinaaGreatDoorTa00
import Derived.ProofKit
import Derived.OpenShut
import Derived.ShutString
import Derived.ChangeOld
import Derived.Below
import Derived.Test.YtddomeddabfinaaGreatDoorRows
import Derived.Test.YtddomeddabfinaaGreatDoorTa03
set_option maxRecDepth 100000
set_option maxHeartbeats 8000000
set_option linter.unusedVariables false
set_option linter.unusedSimpArgs false
set_option linter.unusedSectionVars false
namespace Go.Proofs.YtddomeddabfinaaGreatDoor
open Go.Proofs.Tryz
open Go.ChangeShapes Go.WideShapes Go.ChangeAt Go.RowKit
theorem own:ownKnob prog.godebug=none:=by kernel_rfl
theorem laidOut:laidOutB prog=true:=by kernel_rfl
theorem vO {n:Int} (h:(Lit.int .u8 n).wf=true):((UInt8.ofNat n.toNat).toNat:Int)=n:=by
 have:=bounds_u8 h;rw[fI];omega
section
variable {H:Type} {enc:TypeId×Value->H} {P:Program} {W:World}
theorem sh {t e:TypeId} (ht:P.underlying t=some (.slice e)) (he:P.underlying e=some (.int .u8)) (hc:P.cellsOf e=1) {r:Reach} {b0 base:Nat} {sp:Nat->Bool} {hd:Bool} {v:Value} {d:DataW H} {p:List MemPlace}
  (hok:Value.okWide P W r b0 t v) (h:DataW.Trod enc P W base sp hd t v d p): ∃A cap l,v= .slice A (List.length (α:=UInt8) l) cap/\Sl W A cap l:=by
 obtain⟨a0,len0,cap0,rfl⟩:=okWide_slice ht hok;obtain⟨fuel,hf⟩:=h;rcases open_ints ht he hc hf with⟨hcs,_⟩|⟨x,l,c,zs,hcs,_,hl,hm,hz,_,hcell,hwz⟩
 ·simp[Value.cells]at hcs;obtain⟨rfl,rfl,rfl⟩:=hcs;exact⟨none,0,[],rfl,kf W⟩
 ·simp[Value.cells]at hcs;obtain⟨rfl,rfl,rfl⟩:=hcs;have hz1:len0<=zs.length:=by rw[hz];split<;>omega
  have hlen:((zs.take len0).map fun n=>UInt8.ofNat n.toNat).length=len0:=by simp;omega
  refine⟨some x,cap0,(zs.take len0).map fun n=>UInt8.ofNat n.toNat,by rw[hlen],⟨by rw[hlen];exact hl,hm,(fun h=>by cases h),?_⟩⟩;by_cases h0:len0=0
  ·left;apply aH;rw[hlen,h0]
  ·right;obtain⟨b,off,spot⟩:=x;have hc0:=hcell 0 (by omega);have hspot:spot=none:=by simpa[Addr.add]using World.cell?_spot hc0
   subst hspot;refine⟨b,off,rfl,?_,fun i hi=> ?_⟩
   ·have:=World.block_lt_of_cell? _ _ hc0;simpa[Addr.add]using this
   ·rw[hlen]at hi;have:=hcell i (by omega);rw[Addr.add_lit]at this;rw[this];have hget:zs.getD i 0=zs[i]:=by simp[List.getD,show i<zs.length from by omega]
    simp only[List.getElem_map,eO];rw[vO (hwz _ (ap (show i<zs.length by omega))),hget]
end
end Go.Proofs.YtddomeddabfinaaGreatDoor
