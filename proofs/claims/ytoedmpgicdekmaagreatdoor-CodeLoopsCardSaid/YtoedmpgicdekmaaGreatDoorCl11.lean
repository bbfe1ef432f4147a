/- Parts of the proof. -/
import Derived.Test.YtoedmpgicdekmaaGreatDoorCl00
import Derived.Shelf.Strings.OnBuilder
import Derived.Shelf.Strconv.Itoa3
import Derived.Test.YtoedmpgicdekmaaGreatDoorProg
set_option maxRecDepth 100000
set_option maxHeartbeats 8000000
set_option linter.unusedVariables false
set_option linter.unusedSimpArgs false
set_option linter.unusedSectionVars false
namespace Go.Proofs
open Go.Proofs.Tryz
open Go.Shelf
def Tryz.lays156_ren:Go.Shelf.Ren:=⟨fun|156=>120|165=>172|166=>118|169=>122|240=>170|241=>213|276=>211|277=>238|n=>n,fun|31=>58|9=>9|3=>3|4=>4|0=>0|20=>20|72=>215|76=>220|70=>213|37=>36|75=>219|127=>268|164=>288|5=>5|80=>192|n=>n,fun|n=>n⟩
theorem Tryz.lays156:Go.Proofs.Lays.n156 prog Tryz.lays156_ren:={
 mixed:=by kernel_rfl
 f156:=func120.trans (congrArg some (by kernel_rfl))
 f165:=func172.trans (congrArg some (by kernel_rfl))
 f166:=func118.trans (congrArg some (by kernel_rfl))
 f169:=func122.trans (congrArg some (by kernel_rfl))
 f240:=func170.trans (congrArg some (by kernel_rfl))
 f241:=func213.trans (congrArg some (by kernel_rfl))
 f276:=func211.trans (congrArg some (by kernel_rfl))
 f277:=func238.trans (congrArg some (by kernel_rfl))
 t0:=underlying0
 a0:=Tryz.isAgg0
 z0:=Tryz.sizeOf0
 v0:=Tryz.zeroValue0
 t3:=underlying3
 a3:=Tryz.isAgg3
 z3:=Tryz.sizeOf3
 v3:=Tryz.zeroValue3
 t4:=underlying4
 a4:=Tryz.isAgg4
 z4:=Tryz.sizeOf4
 v4:=Tryz.zeroValue4
 t9:=underlying9
 a9:=Tryz.isAgg9
 z9:=Tryz.sizeOf9
 v9:=Tryz.zeroValue9
 t20:=underlying20
 a20:=Tryz.isAgg20
 z20:=Tryz.sizeOf20
 v20:=Tryz.zeroValue20
 t31:=underlying58
 a31:=Tryz.isAgg58
 z31:=Tryz.sizeOf58
 v31:=Tryz.zeroValue58
 t37:=underlying36
 a37:=Tryz.isAgg36
 z37:=Tryz.sizeOf36
 v37:=Tryz.zeroValue36
 t70:=underlying213
 a70:=Tryz.isAgg213
 z70:=Tryz.sizeOf213
 v70:=Tryz.zeroValue213
 t72:=underlying215
 a72:=Tryz.isAgg215
 z72:=Tryz.sizeOf215
 v72:=Tryz.zeroValue215
 t75:=underlying219
 a75:=Tryz.isAgg219
 z75:=Tryz.sizeOf219
 v75:=Tryz.zeroValue219
 t76:=underlying220
 a76:=Tryz.isAgg220
 z76:=Tryz.sizeOf220
 v76:=Tryz.zeroValue220
 t127:=underlying268
 a127:=Tryz.isAgg268
 z127:=Tryz.sizeOf268
 v127:=Tryz.zeroValue268
 t164:=underlying288
 a164:=Tryz.isAgg288
 z164:=Tryz.sizeOf288
 v164:=Tryz.zeroValue288}
theorem Tryz.Builder_Extra_156:Builder.Extra prog Tryz.lays156_ren:={
 sizeBuilder:=by kernel_rfl
 liesBuilder:=by kernel_rfl
 t5:=underlying5
 a5:=Tryz.isAgg5
 z5:=Tryz.sizeOf5
 v5:=Tryz.zeroValue5
 infoByte:=by kernel_rfl
 cellsByte:=by kernel_rfl
 sizeByte:=by kernel_rfl
 neB5:=by decide}
open Go.RowKit in
theorem Tryz.strings_Join (h o c:Nat) (xs:List ByteArray) (d:ByteArray) (a:World) (w: ∀(j:Nat) x,xs[j]? =some x->a.cell? ⟨h,o+j,none⟩=some (.string x)) (z:h<a.heap.size) (A:xs.length<=140737488355328) (y:xs.length<=c) (u:(Lib.join (xs.map (·.data.toList)) d.data.toList).length<=140737488355328):
  Calls prog 120 #[.slice (some ⟨h,o,none⟩) xs.length c, .string d] a λe w'=>e= .returned (.string ⟨(Lib.join (xs.map (·.data.toList)) d.data.toList).toArray⟩)/\Below a.heap.size a w':=Any.strings_Join Tryz.lays156 Tryz.Builder_Extra_156 h o c xs d a w z A y u
open Go.RowKit in
theorem Tryz.strings_Join_none (h:Option Addr) (c:Nat) (d:ByteArray) (a:World):
  Calls prog 120 #[.slice h 0 c, .string d] a λe w'=>e= .returned (.string ⟨#[]⟩)/\w'=a:=Any.strings_Join_none Tryz.lays156 Tryz.Builder_Extra_156 h c d a
def Tryz.laysM171_ren:Go.Shelf.Ren:=⟨fun|171=>119|243=>171|246=>212|283=>234|284=>235|285=>236|286=>237|129=>251|317=>250|318=>252|319=>253|320=>254|337=>263|338=>264|n=>n,fun|3=>3|9=>9|2=>2|4=>4|171=>304|0=>0|53=>195|37=>36|5=>5|173=>307|212=>322|51=>248|20=>20|213=>323|46=>196|232=>339|233=>340|n=>n,fun|17=>3|18=>6|19=>7|n=>n⟩
theorem Tryz.laysM171:Go.Proofs.LaysM.n171 prog Tryz.laysM171_ren:={
 mixed:=by kernel_rfl
 f129:=func251.trans (congrArg some (by kernel_rfl))
 f171:=func119.trans (congrArg some (by kernel_rfl))
 f243:=func171.trans (congrArg some (by kernel_rfl))
 f246:=func212.trans (congrArg some (by kernel_rfl))
 f283:=func234.trans (congrArg some (by kernel_rfl))
 f284:=func235.trans (congrArg some (by kernel_rfl))
 f285:=func236.trans (congrArg some (by kernel_rfl))
 f286:=func237.trans (congrArg some (by kernel_rfl))
 f317:=func250.trans (congrArg some (by kernel_rfl))
 f318:=func252.trans (congrArg some (by kernel_rfl))
 f319:=func253.trans (congrArg some (by kernel_rfl))
 f320:=func254.trans (congrArg some (by kernel_rfl))
 f337:=func263.trans (congrArg some (by kernel_rfl))
 f338:=func264.trans (congrArg some (by kernel_rfl))
 t0:=underlying0
 a0:=Tryz.isAgg0
 z0:=Tryz.sizeOf0
 v0:=Tryz.zeroValue0
 t2:=underlying2
 a2:=Tryz.isAgg2
 z2:=Tryz.sizeOf2
 v2:=Tryz.zeroValue2
 t3:=underlying3
 a3:=Tryz.isAgg3
 z3:=Tryz.sizeOf3
 v3:=Tryz.zeroValue3
 t4:=underlying4
 a4:=Tryz.isAgg4
 z4:=Tryz.sizeOf4
 v4:=Tryz.zeroValue4
 t5:=underlying5
 a5:=Tryz.isAgg5
 z5:=Tryz.sizeOf5
 v5:=Tryz.zeroValue5
 t9:=underlying9
 a9:=Tryz.isAgg9
 z9:=Tryz.sizeOf9
 v9:=Tryz.zeroValue9
 t20:=underlying20
 a20:=Tryz.isAgg20
 z20:=Tryz.sizeOf20
 v20:=Tryz.zeroValue20
 t37:=underlying36
 a37:=Tryz.isAgg36
 z37:=Tryz.sizeOf36
 v37:=Tryz.zeroValue36
 t46:=underlying196
 a46:=Tryz.isAgg196
 z46:=Tryz.sizeOf196
 v46:=Tryz.zeroValue196
 t51:=underlying248
 a51:=Tryz.isAgg248
 z51:=Tryz.sizeOf248
 v51:=Tryz.zeroValue248
 t53:=underlying195
 a53:=Tryz.isAgg195
 z53:=Tryz.sizeOf195
 v53:=Tryz.zeroValue195
 t171:=underlying304
 a171:=Tryz.isAgg304
 z171:=Tryz.sizeOf304
 v171:=Tryz.zeroValue304
 t173:=underlying307
 a173:=Tryz.isAgg307
 z173:=Tryz.sizeOf307
 v173:=Tryz.zeroValue307
 t212:=underlying322
 a212:=Tryz.isAgg322
 z212:=Tryz.sizeOf322
 v212:=Tryz.zeroValue322
 t213:=underlying323
 a213:=Tryz.isAgg323
 z213:=Tryz.sizeOf323
 t232:=underlying339
 a232:=Tryz.isAgg339
 z232:=Tryz.sizeOf339
 v232:=Tryz.zeroValue339
 t233:=underlying340
 a233:=Tryz.isAgg340
 z233:=Tryz.sizeOf340
 v233:=Tryz.zeroValue340
 g17:=by kernel_rfl
 g18:=by kernel_rfl
 g19:=by kernel_rfl
 i0:=by kernel_rfl
 i2:=by kernel_rfl
 i3:=by kernel_rfl
 i4:=by kernel_rfl
 i5:=by kernel_rfl
 i9:=by kernel_rfl
 i20:=by kernel_rfl
 i37:=by kernel_rfl
 i46:=by kernel_rfl
 i51:=by kernel_rfl
 i53:=by kernel_rfl
 i171:=by kernel_rfl
 i173:=by kernel_rfl
 i212:=by kernel_rfl
 i232:=by kernel_rfl
 i233:=by kernel_rfl
 m17:=by kernel_rfl
 m18:=by kernel_rfl
 m19:=by kernel_rfl}
open Go.RowKit Go.Sort Go.Lib in
theorem Tryz.strconv_Itoa (n:Int) (u: -9223372036854775808<=n) (o:n<=9223372036854775807) (a:World) (h:Lib.TabIs prog a "internal/strconv.uint64pow10" .u64 Lib.pow10Tab):
  Calls prog 119 #[.int .i64 n] a λe w'=>e= .returned (.string ⟨(Lib.itoa n).toArray⟩)/\ ∃k d,w'=grow (a.drewN k) d:=Any.strconv_Itoa Tryz.laysM171 n u o a h
end Go.Proofs
