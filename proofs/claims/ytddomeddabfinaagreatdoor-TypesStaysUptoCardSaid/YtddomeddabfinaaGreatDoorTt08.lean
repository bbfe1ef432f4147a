/- Parts of the proof. -/
import Derived.Test.YtddomeddabfinaaGreatDoorTt00
import Derived.Shelf.Strings.Builder1
import Derived.Shelf.Strings.BuilderK
import Derived.Test.YtddomeddabfinaaGreatDoorProg
set_option maxRecDepth 100000
set_option maxHeartbeats 8000000
set_option linter.unusedVariables false
set_option linter.unusedSimpArgs false
set_option linter.unusedSectionVars false
namespace Go.Proofs
open Go.Proofs.Tryz
open Go.Shelf
def Tryz.lays167_ren:Go.Shelf.Ren:=⟨fun|167=>227|240=>132|276=>170|n=>n,fun|0=>0|4=>4|5=>5|9=>9|20=>20|37=>40|70=>191|72=>193|75=>197|164=>255|80=>203|n=>n,fun|n=>n⟩
theorem Tryz.lays167:Go.Proofs.Lays.n167 prog Tryz.lays167_ren:={
 mixed:=by kernel_rfl
 f167:=func227.trans (congrArg some (by kernel_rfl))
 f240:=func132.trans (congrArg some (by kernel_rfl))
 f276:=func170.trans (congrArg some (by kernel_rfl))
 t0:=underlying0
 a0:=Tryz.isAgg0
 z0:=Tryz.sizeOf0
 v0:=Tryz.zeroValue0
 t4:=underlying4
 a4:=Tryz.isAgg4
 z4:=Tryz.sizeOf4
 v4:=Tryz.zeroValue4
 t5:=underlying5
 a5:=Tryz.isAgg5
 z5:=Tryz.sizeOf5
 v5:=Tryz.zeroValue5
 t9:=underlying9
 a9:=Tryz.isAgg9
 z9:=Tryz.sizeOf9
 v9:=Tryz.zeroValue9
 t20:=underlying20
 a20:=Tryz.isAgg20
 z20:=Tryz.sizeOf20
 v20:=Tryz.zeroValue20
 t37:=underlying40
 a37:=Tryz.isAgg40
 z37:=Tryz.sizeOf40
 v37:=Tryz.zeroValue40
 t70:=underlying191
 a70:=Tryz.isAgg191
 z70:=Tryz.sizeOf191
 v70:=Tryz.zeroValue191
 t72:=underlying193
 a72:=Tryz.isAgg193
 z72:=Tryz.sizeOf193
 v72:=Tryz.zeroValue193
 t75:=underlying197
 a75:=Tryz.isAgg197
 z75:=Tryz.sizeOf197
 v75:=Tryz.zeroValue197
 t164:=underlying255
 a164:=Tryz.isAgg255
 z164:=Tryz.sizeOf255
 v164:=Tryz.zeroValue255}
theorem Tryz.Builder_Extra_167:Builder.Extra prog Tryz.lays167_ren:={
 sizeBuilder:=by kernel_rfl
 liesBuilder:=by kernel_rfl
 t5:=underlying5
 a5:=Tryz.isAgg5
 z5:=Tryz.sizeOf5
 v5:=Tryz.zeroValue5
 infoByte:=by kernel_rfl
 cellsByte:=by kernel_rfl
 sizeByte:=by kernel_rfl
 neB5:=by decide}
def Tryz.lays169_ren:Go.Shelf.Ren:=⟨fun|169=>95|n=>n,fun|0=>0|3=>3|9=>9|37=>40|70=>191|72=>193|127=>236|5=>5|n=>n,fun|n=>n⟩
theorem Tryz.lays169:Go.Proofs.Lays.n169 prog Tryz.lays169_ren:={
 mixed:=by kernel_rfl
 f169:=func95.trans (congrArg some (by kernel_rfl))
 t0:=underlying0
 a0:=Tryz.isAgg0
 z0:=Tryz.sizeOf0
 v0:=Tryz.zeroValue0
 t3:=underlying3
 a3:=Tryz.isAgg3
 z3:=Tryz.sizeOf3
 v3:=Tryz.zeroValue3
 t9:=underlying9
 a9:=Tryz.isAgg9
 z9:=Tryz.sizeOf9
 v9:=Tryz.zeroValue9
 t37:=underlying40
 a37:=Tryz.isAgg40
 z37:=Tryz.sizeOf40
 v37:=Tryz.zeroValue40
 t70:=underlying191
 a70:=Tryz.isAgg191
 z70:=Tryz.sizeOf191
 v70:=Tryz.zeroValue191
 t72:=underlying193
 a72:=Tryz.isAgg193
 z72:=Tryz.sizeOf193
 v72:=Tryz.zeroValue193
 t127:=underlying236
 a127:=Tryz.isAgg236
 z127:=Tryz.sizeOf236
 v127:=Tryz.zeroValue236}
theorem Tryz.Builder_Extra_169:Builder.Extra prog Tryz.lays169_ren:={
 sizeBuilder:=by kernel_rfl
 liesBuilder:=by kernel_rfl
 t5:=underlying5
 a5:=Tryz.isAgg5
 z5:=Tryz.sizeOf5
 v5:=Tryz.zeroValue5
 infoByte:=by kernel_rfl
 cellsByte:=by kernel_rfl
 sizeByte:=by kernel_rfl
 neB5:=by decide}
open Go.RowKit in
theorem Tryz.Builder_WriteByte (B b:Nat) (bs:List Value) (c:Int) (a:World) (o:Lib.IsBuilder 193 5 B b bs a) (h:bs.length+1<=140737488355328) (j:B<=a.heap.size):
  Calls prog 227 #[.pointer (some ⟨b,0,none⟩),.int .u8 c] a λe w'=>e=.returned .nilIface/\(Lib.BuilderAt 193 5 B b (.pointer (some ⟨b,0,none⟩)) (bs++[.int .u8 c]) w'/\Below B a w'):=Any.Builder_WriteByte Tryz.lays167 Tryz.Builder_Extra_167 B b bs c a o h j
open Go.RowKit in
theorem Tryz.Builder_String_any (B b:Nat) (l:List UInt8) (a:World) (j:Lib.IsBuilder 193 5 B b (Lib.byteCells l) a) (h:B<=a.heap.size):
  Calls prog 95 #[.pointer (some ⟨b,0,none⟩)] a λe w'=>e=.returned (.string ⟨l.toArray⟩)/\Below B a w':=Any.Builder_String_any Tryz.lays169 Tryz.Builder_Extra_169 B b l a j h
end Go.Proofs
