/- Parts of the proof. -/
import Derived.Deep.Fields
import Derived.ChangeSame
import Derived.Deep.Slices
import Derived.Test.YtddomeddabfinaaGreatDoorTt36
import Derived.Test.YtddomeddabfinaaGreatDoorTt00
set_option maxRecDepth 100000
set_option maxHeartbeats 8000000
set_option linter.unusedVariables false
set_option linter.unusedSimpArgs false
set_option linter.unusedSectionVars false
namespace Go.Proofs.YtddomeddabfinaaGreatDoor
open Go.Proofs.Tryz
section
open Go.Joins Go.ChangeShapes Go.WideShapes Go.ChangeAt Go.RowKit Go.Deep
section
variable {H:Type} {enc:TypeId×Value->H} {P:Program} {W:World}
theorem yB {r:Reach} {aj base:Nat} {w:Nat->Bool} {A:Bool} {t:TypeId} {o j:Field} {v:Value} {d:DataW H} {p:List MemPlace} (M:P.underlying t=some (.struct #[o,j])) (O:oneCellFields P #[o,j]=true) (ag:P.cellsOf t=2)
  (ac:Value.okWide P W r aj t v) (ah:DataW.Trod enc P W base w A t v d p):
  ∃(K G:Value) (h a:DataW H×List MemPlace) (n:Nat),v=.agg #[K,G]/\d=.agg [h.1,a.1]/\p=h.2++a.2/\DataW.trod enc P W base w A n o.type [K]=some h/\DataW.trod enc P W base w A n j.type [G]=some a:=by
 obtain⟨ai,rfl,ad⟩:=okWide_struct M ac;obtain⟨l⟩:=ai
 match l,ad.trans ag with
 | [c0,c1],_=>
  obtain⟨ak,af⟩:=ah;obtain⟨xs,n,_,z,_,ae,R⟩:=DataW.trod_struct M af;obtain⟨X,ab⟩:=hone_of O 0 o rfl;obtain⟨V,I⟩:=hone_of O 1 j rfl
  match xs,ae with
  | [h,a],_=>
   simp only[Prod.mk.injEq]at z;exact⟨c0,c1,h,a,n,rfl,by simpa using z.1,by simpa using z.2,by simpa[Value.cells,X,ab]using R 0 o rfl,by simpa[Value.cells,V,I]using R 1 j rfl⟩
end
end
section
end
end Go.Proofs.YtddomeddabfinaaGreatDoor
