/- Parts of the proof. -/
import Derived.Test.YtddomeddabfinaaGreatDoorTt00
import Derived.Shelf.Strings.Repeat
import Derived.Test.YtddomeddabfinaaGreatDoorProg
set_option maxRecDepth 100000
set_option maxHeartbeats 8000000
set_option linter.unusedVariables false
set_option linter.unusedSimpArgs false
set_option linter.unusedSectionVars false
namespace Go.Proofs
open Go.Proofs.Tryz
open Go.Shelf
def Tryz.lays105_ren:Go.Shelf.Ren:=⟨fun|105=>135|212=>173|99=>138|165=>134|166=>91|170=>174|169=>95|263=>199|264=>200|206=>178|240=>132|241=>172|276=>170|277=>198|n=>n,fun|9=>9|3=>3|4=>4|20=>20|0=>0|46=>165|109=>258|5=>5|72=>193|76=>198|51=>279|146=>280|53=>273|148=>282|70=>191|37=>40|75=>197|127=>236|164=>255|80=>203|n=>n,fun|n=>n⟩
theorem Tryz.lays105:Go.Proofs.Lays.n105 prog Tryz.lays105_ren:={
 mixed:=by kernel_rfl
 f99:=func138.trans (congrArg some (by kernel_rfl))
 f105:=func135.trans (congrArg some (by kernel_rfl))
 f165:=func134.trans (congrArg some (by kernel_rfl))
 f166:=func91.trans (congrArg some (by kernel_rfl))
 f169:=func95.trans (congrArg some (by kernel_rfl))
 f170:=func174.trans (congrArg some (by kernel_rfl))
 f206:=func178.trans (congrArg some (by kernel_rfl))
 f212:=func173.trans (congrArg some (by kernel_rfl))
 f240:=func132.trans (congrArg some (by kernel_rfl))
 f241:=func172.trans (congrArg some (by kernel_rfl))
 f263:=func199.trans (congrArg some (by kernel_rfl))
 f264:=func200.trans (congrArg some (by kernel_rfl))
 f276:=func170.trans (congrArg some (by kernel_rfl))
 f277:=func198.trans (congrArg some (by kernel_rfl))
 t0:=underlying0
 a0:=Tryz.isAgg0
 z0:=Tryz.sizeOf0
 v0:=Tryz.zeroValue0
 t3:=underlying3
 a3:=Tryz.isAgg3
 z3:=Tryz.sizeOf3
 v3:=Tryz.zeroValue3
 t4:=underlying4
 a4:=Tryz.isAgg4
 z4:=Tryz.sizeOf4
 v4:=Tryz.zeroValue4
 t5:=underlying5
 a5:=Tryz.isAgg5
 z5:=Tryz.sizeOf5
 v5:=Tryz.zeroValue5
 t9:=underlying9
 a9:=Tryz.isAgg9
 z9:=Tryz.sizeOf9
 v9:=Tryz.zeroValue9
 t20:=underlying20
 a20:=Tryz.isAgg20
 z20:=Tryz.sizeOf20
 v20:=Tryz.zeroValue20
 t37:=underlying40
 a37:=Tryz.isAgg40
 z37:=Tryz.sizeOf40
 v37:=Tryz.zeroValue40
 t46:=underlying165
 a46:=Tryz.isAgg165
 z46:=Tryz.sizeOf165
 v46:=Tryz.zeroValue165
 t51:=underlying279
 a51:=Tryz.isAgg279
 z51:=Tryz.sizeOf279
 v51:=Tryz.zeroValue279
 t53:=underlying273
 a53:=Tryz.isAgg273
 z53:=Tryz.sizeOf273
 v53:=Tryz.zeroValue273
 t70:=underlying191
 a70:=Tryz.isAgg191
 z70:=Tryz.sizeOf191
 v70:=Tryz.zeroValue191
 t72:=underlying193
 a72:=Tryz.isAgg193
 z72:=Tryz.sizeOf193
 v72:=Tryz.zeroValue193
 t75:=underlying197
 a75:=Tryz.isAgg197
 z75:=Tryz.sizeOf197
 v75:=Tryz.zeroValue197
 t76:=underlying198
 a76:=Tryz.isAgg198
 z76:=Tryz.sizeOf198
 v76:=Tryz.zeroValue198
 t109:=underlying258
 a109:=Tryz.isAgg258
 z109:=Tryz.sizeOf258
 v109:=Tryz.zeroValue258
 t127:=underlying236
 a127:=Tryz.isAgg236
 z127:=Tryz.sizeOf236
 v127:=Tryz.zeroValue236
 t146:=underlying280
 a146:=Tryz.isAgg280
 z146:=Tryz.sizeOf280
 v146:=Tryz.zeroValue280
 t148:=underlying282
 a148:=Tryz.isAgg282
 z148:=Tryz.sizeOf282
 v148:=Tryz.zeroValue282
 t164:=underlying255
 a164:=Tryz.isAgg255
 z164:=Tryz.sizeOf255
 v164:=Tryz.zeroValue255}
theorem Tryz.Builder_Extra_105:Builder.Extra prog Tryz.lays105_ren:={
 sizeBuilder:=by kernel_rfl
 liesBuilder:=by kernel_rfl
 t5:=underlying5
 a5:=Tryz.isAgg5
 z5:=Tryz.sizeOf5
 v5:=Tryz.zeroValue5
 infoByte:=by kernel_rfl
 cellsByte:=by kernel_rfl
 sizeByte:=by kernel_rfl
 neB5:=by decide}
open Go.RowKit Go.Lib in
theorem Tryz.strings_Repeat (s:ByteArray) (c:Nat) (a:World) (j:c<=9223372036854775807) (h:s.size*c<=140737488355328):
  Calls prog 135 #[.string s,.int .i64 c] a λe w'=>e=.returned (.string ⟨(Lib.repeatL s.data.toList c).toArray⟩)/\Below a.heap.size a w':=Any.strings_Repeat Tryz.lays105 Tryz.Builder_Extra_105 s c a j h
end Go.Proofs
