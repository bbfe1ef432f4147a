/-
  Parts of the proof: ShelfRep.
-/
import Derived.Test.YtelplgkppalmfaaGreatDoorPs00
import Derived.Shelf.Strings.Repeat
import Derived.Test.YtelplgkppalmfaaGreatDoorProg
set_option maxRecDepth 100000
set_option maxHeartbeats 8000000
set_option linter.unusedVariables false
set_option linter.unusedSimpArgs false
namespace Go.Proofs
open Go.Proofs.Tryz
open Go.Shelf
def Tryz.lays105_ren:Go.Shelf.Ren:=⟨fun|105=>129|212=>149|99=>108|165=>128|166=>85|170=>150|169=>89|263=>164|264=>165|206=>136|240=>126|241=>148|276=>146|277=>163|n=>n,fun|9=>9|3=>3|4=>4|20=>20|0=>0|46=>185|109=>186|5=>5|72=>139|76=>144|51=>200|146=>201|53=>194|148=>203|70=>137|37=>56|75=>143|127=>173|164=>182|80=>121|n=>n,fun|n=>n⟩
theorem Tryz.lays105:Go.Proofs.Lays.n105 prog Tryz.lays105_ren:={
 mixed:=by kernel_rfl
 f99:=func108.trans (congrArg some (by kernel_rfl))
 f105:=func129.trans (congrArg some (by kernel_rfl))
 f165:=func128.trans (congrArg some (by kernel_rfl))
 f166:=func85.trans (congrArg some (by kernel_rfl))
 f169:=func89.trans (congrArg some (by kernel_rfl))
 f170:=func150.trans (congrArg some (by kernel_rfl))
 f206:=func136.trans (congrArg some (by kernel_rfl))
 f212:=func149.trans (congrArg some (by kernel_rfl))
 f240:=func126.trans (congrArg some (by kernel_rfl))
 f241:=func148.trans (congrArg some (by kernel_rfl))
 f263:=func164.trans (congrArg some (by kernel_rfl))
 f264:=func165.trans (congrArg some (by kernel_rfl))
 f276:=func146.trans (congrArg some (by kernel_rfl))
 f277:=func163.trans (congrArg some (by kernel_rfl))
 t0:=underlying0
 a0:=Tryz.isAgg0
 z0:=Tryz.sizeOf0
 v0:=Tryz.zeroValue0
 t3:=underlying3
 a3:=Tryz.isAgg3
 z3:=Tryz.sizeOf3
 v3:=Tryz.zeroValue3
 t4:=underlying4
 a4:=Tryz.isAgg4
 z4:=Tryz.sizeOf4
 v4:=Tryz.zeroValue4
 t5:=underlying5
 a5:=Tryz.isAgg5
 z5:=Tryz.sizeOf5
 v5:=Tryz.zeroValue5
 t9:=underlying9
 a9:=Tryz.isAgg9
 z9:=Tryz.sizeOf9
 v9:=Tryz.zeroValue9
 t20:=underlying20
 a20:=Tryz.isAgg20
 z20:=Tryz.sizeOf20
 v20:=Tryz.zeroValue20
 t37:=underlying56
 a37:=Tryz.isAgg56
 z37:=Tryz.sizeOf56
 v37:=Tryz.zeroValue56
 t46:=underlying185
 a46:=Tryz.isAgg185
 z46:=Tryz.sizeOf185
 v46:=Tryz.zeroValue185
 t51:=underlying200
 a51:=Tryz.isAgg200
 z51:=Tryz.sizeOf200
 v51:=Tryz.zeroValue200
 t53:=underlying194
 a53:=Tryz.isAgg194
 z53:=Tryz.sizeOf194
 v53:=Tryz.zeroValue194
 t70:=underlying137
 a70:=Tryz.isAgg137
 z70:=Tryz.sizeOf137
 v70:=Tryz.zeroValue137
 t72:=underlying139
 a72:=Tryz.isAgg139
 z72:=Tryz.sizeOf139
 v72:=Tryz.zeroValue139
 t75:=underlying143
 a75:=Tryz.isAgg143
 z75:=Tryz.sizeOf143
 v75:=Tryz.zeroValue143
 t76:=underlying144
 a76:=Tryz.isAgg144
 z76:=Tryz.sizeOf144
 v76:=Tryz.zeroValue144
 t109:=underlying186
 a109:=Tryz.isAgg186
 z109:=Tryz.sizeOf186
 v109:=Tryz.zeroValue186
 t127:=underlying173
 a127:=Tryz.isAgg173
 z127:=Tryz.sizeOf173
 v127:=Tryz.zeroValue173
 t146:=underlying201
 a146:=Tryz.isAgg201
 z146:=Tryz.sizeOf201
 v146:=Tryz.zeroValue201
 t148:=underlying203
 a148:=Tryz.isAgg203
 z148:=Tryz.sizeOf203
 v148:=Tryz.zeroValue203
 t164:=underlying182
 a164:=Tryz.isAgg182
 z164:=Tryz.sizeOf182
 v164:=Tryz.zeroValue182}
theorem Tryz.Builder_Extra_105:Builder.Extra prog Tryz.lays105_ren:={
 sizeBuilder:=by kernel_rfl
 liesBuilder:=by kernel_rfl
 t5:=underlying5
 a5:=Tryz.isAgg5
 z5:=Tryz.sizeOf5
 v5:=Tryz.zeroValue5
 infoByte:=by kernel_rfl
 cellsByte:=by kernel_rfl
 sizeByte:=by kernel_rfl
 neB5:=by decide}
open Go.RowKit Go.Lib in
theorem Tryz.strings_Repeat (s:ByteArray) (c:Nat) (w:World) (hc:c<=9223372036854775807) (hlen:s.size*c<=140737488355328):
  Calls prog 129 #[.string s, .int .i64 c] w fun e w'=>e= .returned (.string ⟨(Lib.repeatL s.data.toList c).toArray⟩)/\Below w.heap.size w w':=Any.strings_Repeat Tryz.lays105 Tryz.Builder_Extra_105 s c w hc hlen
end Go.Proofs
