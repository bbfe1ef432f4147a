/- Parts of the proof. -/
import Derived.Test.YtoedmpgicdekmaaGreatDoorCl00
import Derived.Shelf.Strings.Repeat
import Derived.Test.YtoedmpgicdekmaaGreatDoorProg
set_option maxRecDepth 100000
set_option maxHeartbeats 8000000
set_option linter.unusedVariables false
set_option linter.unusedSimpArgs false
set_option linter.unusedSectionVars false
namespace Go.Proofs
open Go.Proofs.Tryz
open Go.Shelf
def Tryz.lays105_ren:Go.Shelf.Ren:=⟨fun|105=>173|212=>214|99=>150|165=>172|166=>118|170=>215|169=>122|263=>239|264=>240|206=>199|240=>170|241=>213|276=>211|277=>238|n=>n,fun|9=>9|3=>3|4=>4|20=>20|0=>0|46=>196|109=>291|5=>5|72=>215|76=>220|51=>248|146=>309|53=>195|148=>311|70=>213|37=>36|75=>219|127=>268|164=>288|80=>192|n=>n,fun|n=>n⟩
theorem Tryz.lays105:Go.Proofs.Lays.n105 prog Tryz.lays105_ren:={
 mixed:=by kernel_rfl
 f99:=func150.trans (congrArg some (by kernel_rfl))
 f105:=func173.trans (congrArg some (by kernel_rfl))
 f165:=func172.trans (congrArg some (by kernel_rfl))
 f166:=func118.trans (congrArg some (by kernel_rfl))
 f169:=func122.trans (congrArg some (by kernel_rfl))
 f170:=func215.trans (congrArg some (by kernel_rfl))
 f206:=func199.trans (congrArg some (by kernel_rfl))
 f212:=func214.trans (congrArg some (by kernel_rfl))
 f240:=func170.trans (congrArg some (by kernel_rfl))
 f241:=func213.trans (congrArg some (by kernel_rfl))
 f263:=func239.trans (congrArg some (by kernel_rfl))
 f264:=func240.trans (congrArg some (by kernel_rfl))
 f276:=func211.trans (congrArg some (by kernel_rfl))
 f277:=func238.trans (congrArg some (by kernel_rfl))
 t0:=underlying0
 a0:=Tryz.isAgg0
 z0:=Tryz.sizeOf0
 v0:=Tryz.zeroValue0
 t3:=underlying3
 a3:=Tryz.isAgg3
 z3:=Tryz.sizeOf3
 v3:=Tryz.zeroValue3
 t4:=underlying4
 a4:=Tryz.isAgg4
 z4:=Tryz.sizeOf4
 v4:=Tryz.zeroValue4
 t5:=underlying5
 a5:=Tryz.isAgg5
 z5:=Tryz.sizeOf5
 v5:=Tryz.zeroValue5
 t9:=underlying9
 a9:=Tryz.isAgg9
 z9:=Tryz.sizeOf9
 v9:=Tryz.zeroValue9
 t20:=underlying20
 a20:=Tryz.isAgg20
 z20:=Tryz.sizeOf20
 v20:=Tryz.zeroValue20
 t37:=underlying36
 a37:=Tryz.isAgg36
 z37:=Tryz.sizeOf36
 v37:=Tryz.zeroValue36
 t46:=underlying196
 a46:=Tryz.isAgg196
 z46:=Tryz.sizeOf196
 v46:=Tryz.zeroValue196
 t51:=underlying248
 a51:=Tryz.isAgg248
 z51:=Tryz.sizeOf248
 v51:=Tryz.zeroValue248
 t53:=underlying195
 a53:=Tryz.isAgg195
 z53:=Tryz.sizeOf195
 v53:=Tryz.zeroValue195
 t70:=underlying213
 a70:=Tryz.isAgg213
 z70:=Tryz.sizeOf213
 v70:=Tryz.zeroValue213
 t72:=underlying215
 a72:=Tryz.isAgg215
 z72:=Tryz.sizeOf215
 v72:=Tryz.zeroValue215
 t75:=underlying219
 a75:=Tryz.isAgg219
 z75:=Tryz.sizeOf219
 v75:=Tryz.zeroValue219
 t76:=underlying220
 a76:=Tryz.isAgg220
 z76:=Tryz.sizeOf220
 v76:=Tryz.zeroValue220
 t109:=underlying291
 a109:=Tryz.isAgg291
 z109:=Tryz.sizeOf291
 v109:=Tryz.zeroValue291
 t127:=underlying268
 a127:=Tryz.isAgg268
 z127:=Tryz.sizeOf268
 v127:=Tryz.zeroValue268
 t146:=underlying309
 a146:=Tryz.isAgg309
 z146:=Tryz.sizeOf309
 v146:=Tryz.zeroValue309
 t148:=underlying311
 a148:=Tryz.isAgg311
 z148:=Tryz.sizeOf311
 v148:=Tryz.zeroValue311
 t164:=underlying288
 a164:=Tryz.isAgg288
 z164:=Tryz.sizeOf288
 v164:=Tryz.zeroValue288}
theorem Tryz.Builder_Extra_105:Builder.Extra prog Tryz.lays105_ren:={
 sizeBuilder:=by kernel_rfl
 liesBuilder:=by kernel_rfl
 t5:=underlying5
 a5:=Tryz.isAgg5
 z5:=Tryz.sizeOf5
 v5:=Tryz.zeroValue5
 infoByte:=by kernel_rfl
 cellsByte:=by kernel_rfl
 sizeByte:=by kernel_rfl
 neB5:=by decide}
open Go.RowKit Go.Lib in
theorem Tryz.strings_Repeat (s:ByteArray) (c:Nat) (a:World) (h:c<=9223372036854775807) (d:s.size*c<=140737488355328):
  Calls prog 173 #[.string s, .int .i64 c] a λe w'=>e= .returned (.string ⟨(Lib.repeatL s.data.toList c).toArray⟩)/\Below a.heap.size a w':=Any.strings_Repeat Tryz.lays105 Tryz.Builder_Extra_105 s c a h d
end Go.Proofs
