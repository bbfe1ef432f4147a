/- Parts of the proof. -/
import Derived.Test.YtoedmpgicdekmaaGreatDoorCl00
import Derived.Test.YtoedmpgicdekmaaGreatDoorCl43
set_option maxRecDepth 100000
set_option maxHeartbeats 8000000
set_option linter.unusedVariables false
set_option linter.unusedSimpArgs false
set_option linter.unusedSectionVars false
namespace Go.Proofs.YtoedmpgicdekmaaGreatDoor
open Go.Proofs.Tryz
section
open Go.RowKit
theorem Ew:df ⟨ji,[],4,0⟩ [(14,[])] 20000=(⟨1,0,105,0,0,[],1⟩,0):=Qb
theorem Ev:df ⟨ji,[],4,0⟩ [(15,[])] 20000=(⟨1,0,120,0,0,[],1⟩,0):=Qb
theorem Eu:df ⟨ji,[],4,0⟩ [(16,[])] 20000=(⟨1,0,136,0,0,[],1⟩,0):=Qb
theorem Et:df ⟨ji,[],4,0⟩ [(17,[])] 20000=(⟨1,0,153,0,0,[],1⟩,0):=Qb
theorem Es:df ⟨ji,[],4,0⟩ [(18,[])] 20000=(⟨1,0,171,0,0,[],1⟩,0):=Qb
theorem Ep:df ⟨ji,[],4,0⟩ [(19,[])] 20000=(⟨1,0,190,0,0,[],1⟩,0):=Qb
theorem Eo:df ⟨ji,[],4,0⟩ [(20,[])] 20000=(⟨1,0,210,0,0,[],1⟩,0):=Qb
end
end Go.Proofs.YtoedmpgicdekmaaGreatDoor
