/-
  Contracts of Go's library over this seat's numbers, as the shelf's own command lays them.
-/

import Derived.Shelf.Unicode.IsSpaceAny
import Derived.Test.YtfjddphjjhhjpaaDoorProg
namespace Go.Proofs
open Go.Shelf
def Tryd.lays199_ren : Go.Shelf.Ren := ⟨fun | 199 => 57 | 261 => 63 | 311 => 75 | 312 => 76 | n => n, fun | 21 => 21 | 4 => 4 | 51 => 112 | 141 => 114 | 0 => 0 | 196 => 132 | 193 => 129 | 3 => 3 | 198 => 135 | 49 => 133 | 194 => 130 | 201 => 138 | 226 => 152 | 46 => 144 | 227 => 153 | n => n, fun | 6 => 1 | n => n⟩
theorem Tryd.lays199 : Go.Proofs.Lays.n199 Tryd.prog Tryd.lays199_ren := {
  mixed := by kernel_rfl
  f199 := Tryd.func57.trans (congrArg some (by kernel_rfl))
  f261 := Tryd.func63.trans (congrArg some (by kernel_rfl))
  f311 := Tryd.func75.trans (congrArg some (by kernel_rfl))
  f312 := Tryd.func76.trans (congrArg some (by kernel_rfl))
  t0 := Tryd.underlying0
  a0 := Tryd.isAgg0
  z0 := Tryd.sizeOf0
  v0 := Tryd.zeroValue0
  t3 := Tryd.underlying3
  a3 := Tryd.isAgg3
  z3 := Tryd.sizeOf3
  v3 := Tryd.zeroValue3
  t4 := Tryd.underlying4
  a4 := Tryd.isAgg4
  z4 := Tryd.sizeOf4
  v4 := Tryd.zeroValue4
  t21 := Tryd.underlying21
  a21 := Tryd.isAgg21
  z21 := Tryd.sizeOf21
  v21 := Tryd.zeroValue21
  t46 := Tryd.underlying144
  a46 := Tryd.isAgg144
  z46 := Tryd.sizeOf144
  v46 := Tryd.zeroValue144
  t49 := Tryd.underlying133
  a49 := Tryd.isAgg133
  z49 := Tryd.sizeOf133
  v49 := Tryd.zeroValue133
  t51 := Tryd.underlying112
  a51 := Tryd.isAgg112
  z51 := Tryd.sizeOf112
  v51 := Tryd.zeroValue112
  t141 := Tryd.underlying114
  a141 := Tryd.isAgg114
  z141 := Tryd.sizeOf114
  v141 := Tryd.zeroValue114
  t193 := Tryd.underlying129
  a193 := Tryd.isAgg129
  z193 := Tryd.sizeOf129
  v193 := Tryd.zeroValue129
  t194 := Tryd.underlying130
  a194 := Tryd.isAgg130
  z194 := Tryd.sizeOf130
  v194 := Tryd.zeroValue130
  t196 := Tryd.underlying132
  a196 := Tryd.isAgg132
  z196 := Tryd.sizeOf132
  v196 := Tryd.zeroValue132
  t198 := Tryd.underlying135
  a198 := Tryd.isAgg135
  z198 := Tryd.sizeOf135
  v198 := Tryd.zeroValue135
  t201 := Tryd.underlying138
  a201 := Tryd.isAgg138
  z201 := Tryd.sizeOf138
  v201 := Tryd.zeroValue138
  t226 := Tryd.underlying152
  a226 := Tryd.isAgg152
  z226 := Tryd.sizeOf152
  v226 := Tryd.zeroValue152
  t227 := Tryd.underlying153
  a227 := Tryd.isAgg153
  z227 := Tryd.sizeOf153
  v227 := Tryd.zeroValue153
  g6 := by kernel_rfl }
end Go.Proofs
