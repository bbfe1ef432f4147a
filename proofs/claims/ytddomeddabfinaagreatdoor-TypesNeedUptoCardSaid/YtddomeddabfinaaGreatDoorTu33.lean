/-
  Parts of the proof: OpenC EqP.
-/
import Derived.Deep.Fields
import Derived.ChangeSame
import Derived.Deep.Slices
import Derived.Test.YtddomeddabfinaaGreatDoorTu32
import Derived.Test.YtddomeddabfinaaGreatDoorTu00
set_option maxRecDepth 100000
set_option maxHeartbeats 8000000
set_option linter.unusedVariables false
set_option linter.unusedSimpArgs false
set_option linter.unusedSectionVars false
namespace Go.Proofs.YtddomeddabfinaaGreatDoor
open Go.Proofs.Tryz
section
open Go.Joins Go.ChangeShapes Go.WideShapes Go.ChangeAt Go.RowKit Go.Deep
section
variable {H:Type} {enc:TypeId×Value->H} {P:Program} {W:World}
theorem th {r:Reach} {b0 base:Nat} {sp:Nat->Bool} {hd:Bool} {t:TypeId} {f0 f1:Field} {v:Value} {d:DataW H} {p:List MemPlace} (hs:P.underlying t=some (.struct #[f0,f1])) (hone:oneCellFields P #[f0,f1]=true) (hC:P.cellsOf t=2)
  (hv:Value.okWide P W r b0 t v) (h:DataW.Trod enc P W base sp hd t v d p):
  ∃(v0 v1:Value) (y0 y1:DataW H×List MemPlace) (n:Nat),v= .agg #[v0,v1]/\d= .agg [y0.1,y1.1]/\p=y0.2++y1.2/\DataW.trod enc P W base sp hd n f0.type [v0]=some y0/\DataW.trod enc P W base sp hd n f1.type [v1]=some y1:=by
 obtain⟨cs,rfl,hsz⟩:=okWide_struct hs hv;obtain⟨l⟩:=cs
 match l,hsz.trans hC with
 | [c0,c1],_=>
  obtain⟨fuel,hf⟩:=h;obtain⟨xs,n,_,hx,_,hlen,hg⟩:=DataW.trod_struct hs hf;obtain⟨o0,k0⟩:=hone_of hone 0 f0 rfl;obtain⟨o1,k1⟩:=hone_of hone 1 f1 rfl
  match xs,hlen with
  | [y0,y1],_=>
   simp only[Prod.mk.injEq]at hx;exact⟨c0,c1,y0,y1,n,rfl,by simpa using hx.1,by simpa using hx.2,by simpa[Value.cells,o0,k0]using hg 0 f0 rfl,by simpa[Value.cells,o1,k1]using hg 1 f1 rfl⟩
end
end
section
end
end Go.Proofs.YtddomeddabfinaaGreatDoor
