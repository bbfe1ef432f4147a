/- Parts of the proof. -/
import Derived.Test.YtoedmpgicdekmaaGreatDoorCl00
import Derived.Test.YtoedmpgicdekmaaGreatDoorCl43
set_option maxRecDepth 100000
set_option maxHeartbeats 8000000
set_option linter.unusedVariables false
set_option linter.unusedSimpArgs false
set_option linter.unusedSectionVars false
namespace Go.Proofs.YtoedmpgicdekmaaGreatDoor
open Go.Proofs.Tryz
open Go.RowKit
theorem Gw:df ⟨jh,[],0,0⟩ [(0,[])] 20000=(⟨1,0,0,0,0,[],1⟩,0):=Qb
theorem Gv:df ⟨jh,[],0,0⟩ [(1,[])] 20000=(⟨1,0,1,0,0,[],1⟩,0):=Qb
theorem Gu:df ⟨jh,[],0,0⟩ [(2,[])] 20000=(⟨1,0,3,0,0,[],1⟩,0):=Qb
theorem Gt:df ⟨jh,[],0,0⟩ [(3,[])] 20000=(⟨1,0,6,0,0,[],1⟩,0):=Qb
theorem Gs:df ⟨jh,[],0,0⟩ [(4,[])] 20000=(⟨1,0,10,0,0,[],1⟩,0):=Qb
theorem Gr:df ⟨jh,[],0,0⟩ [(5,[])] 20000=(⟨1,0,15,0,0,[],1⟩,0):=Qb
theorem Gq:df ⟨jh,[],0,0⟩ [(6,[])] 20000=(⟨1,0,21,0,0,[],1⟩,0):=Qb
theorem Gp:df ⟨jh,[],0,0⟩ [(7,[])] 20000=(⟨1,0,28,0,0,[],1⟩,0):=Qb
theorem Gn:df ⟨jh,[],0,0⟩ [(8,[])] 20000=(⟨1,0,36,0,0,[],1⟩,0):=Qb
theorem Gm:df ⟨jh,[],0,0⟩ [(9,[])] 20000=(⟨1,0,45,0,0,[],1⟩,0):=Qb
theorem Ek:df ⟨jh,[],0,0⟩ [(10,[])] 20000=(⟨1,0,55,0,0,[],1⟩,0):=Qb
theorem Ej:df ⟨jh,[],0,0⟩ [(11,[])] 20000=(⟨1,0,66,0,0,[],1⟩,0):=Qb
theorem Ei:df ⟨jh,[],0,0⟩ [(12,[])] 20000=(⟨1,0,78,0,0,[],1⟩,0):=Qb
theorem Eh:df ⟨jh,[],0,0⟩ [(13,[])] 20000=(⟨1,0,91,0,0,[],1⟩,0):=Qb
end Go.Proofs.YtoedmpgicdekmaaGreatDoor
