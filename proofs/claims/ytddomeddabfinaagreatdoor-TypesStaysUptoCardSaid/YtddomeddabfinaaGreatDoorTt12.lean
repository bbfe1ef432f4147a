/- Parts of the proof. -/
import Derived.Test.YtddomeddabfinaaGreatDoorTt00
import Derived.Shelf.Strings.OnBuilder
import Derived.Shelf.Strconv.Itoa3
import Derived.Test.YtddomeddabfinaaGreatDoorProg
set_option maxRecDepth 100000
set_option maxHeartbeats 8000000
set_option linter.unusedVariables false
set_option linter.unusedSimpArgs false
set_option linter.unusedSectionVars false
namespace Go.Proofs
open Go.Proofs.Tryz
open Go.Shelf
def Tryz.lays156_ren:Go.Shelf.Ren:=⟨fun|156=>93|165=>134|166=>91|169=>95|240=>132|241=>172|276=>170|277=>198|n=>n,fun|31=>56|9=>9|3=>3|4=>4|0=>0|20=>20|72=>193|76=>198|70=>191|37=>40|75=>197|127=>236|164=>255|5=>5|80=>203|n=>n,fun|n=>n⟩
theorem Tryz.lays156:Go.Proofs.Lays.n156 prog Tryz.lays156_ren:={
 mixed:=by kernel_rfl
 f156:=func93.trans (congrArg some (by kernel_rfl))
 f165:=func134.trans (congrArg some (by kernel_rfl))
 f166:=func91.trans (congrArg some (by kernel_rfl))
 f169:=func95.trans (congrArg some (by kernel_rfl))
 f240:=func132.trans (congrArg some (by kernel_rfl))
 f241:=func172.trans (congrArg some (by kernel_rfl))
 f276:=func170.trans (congrArg some (by kernel_rfl))
 f277:=func198.trans (congrArg some (by kernel_rfl))
 t0:=underlying0
 a0:=Tryz.isAgg0
 z0:=Tryz.sizeOf0
 v0:=Tryz.zeroValue0
 t3:=underlying3
 a3:=Tryz.isAgg3
 z3:=Tryz.sizeOf3
 v3:=Tryz.zeroValue3
 t4:=underlying4
 a4:=Tryz.isAgg4
 z4:=Tryz.sizeOf4
 v4:=Tryz.zeroValue4
 t9:=underlying9
 a9:=Tryz.isAgg9
 z9:=Tryz.sizeOf9
 v9:=Tryz.zeroValue9
 t20:=underlying20
 a20:=Tryz.isAgg20
 z20:=Tryz.sizeOf20
 v20:=Tryz.zeroValue20
 t31:=underlying56
 a31:=Tryz.isAgg56
 z31:=Tryz.sizeOf56
 v31:=Tryz.zeroValue56
 t37:=underlying40
 a37:=Tryz.isAgg40
 z37:=Tryz.sizeOf40
 v37:=Tryz.zeroValue40
 t70:=underlying191
 a70:=Tryz.isAgg191
 z70:=Tryz.sizeOf191
 v70:=Tryz.zeroValue191
 t72:=underlying193
 a72:=Tryz.isAgg193
 z72:=Tryz.sizeOf193
 v72:=Tryz.zeroValue193
 t75:=underlying197
 a75:=Tryz.isAgg197
 z75:=Tryz.sizeOf197
 v75:=Tryz.zeroValue197
 t76:=underlying198
 a76:=Tryz.isAgg198
 z76:=Tryz.sizeOf198
 v76:=Tryz.zeroValue198
 t127:=underlying236
 a127:=Tryz.isAgg236
 z127:=Tryz.sizeOf236
 v127:=Tryz.zeroValue236
 t164:=underlying255
 a164:=Tryz.isAgg255
 z164:=Tryz.sizeOf255
 v164:=Tryz.zeroValue255}
theorem Tryz.Builder_Extra_156:Builder.Extra prog Tryz.lays156_ren:={
 sizeBuilder:=by kernel_rfl
 liesBuilder:=by kernel_rfl
 t5:=underlying5
 a5:=Tryz.isAgg5
 z5:=Tryz.sizeOf5
 v5:=Tryz.zeroValue5
 infoByte:=by kernel_rfl
 cellsByte:=by kernel_rfl
 sizeByte:=by kernel_rfl
 neB5:=by decide}
open Go.RowKit in
theorem Tryz.strings_Join (j o c:Nat) (xs:List ByteArray) (h:ByteArray) (a:World) (A: ∀(w:Nat) x,xs[w]? =some x->a.cell? ⟨j,o+w,none⟩=some (.string x)) (K:j<a.heap.size) (M:xs.length<=140737488355328) (G:xs.length<=c) (z:(Lib.join (xs.map (·.data.toList)) h.data.toList).length<=140737488355328):
  Calls prog 93 #[.slice (some ⟨j,o,none⟩) xs.length c,.string h] a λe w'=>e=.returned (.string ⟨(Lib.join (xs.map (·.data.toList)) h.data.toList).toArray⟩)/\Below a.heap.size a w':=Any.strings_Join Tryz.lays156 Tryz.Builder_Extra_156 j o c xs h a A K M G z
open Go.RowKit in
theorem Tryz.strings_Join_none (j:Option Addr) (c:Nat) (h:ByteArray) (a:World):
  Calls prog 93 #[.slice j 0 c,.string h] a λe w'=>e=.returned (.string ⟨#[]⟩)/\w'=a:=Any.strings_Join_none Tryz.lays156 Tryz.Builder_Extra_156 j c h a
def Tryz.laysM171_ren:Go.Shelf.Ren:=⟨fun|171=>92|243=>133|246=>171|283=>194|284=>195|285=>196|286=>197|129=>211|317=>210|318=>212|319=>213|320=>214|337=>225|338=>226|n=>n,fun|3=>3|9=>9|2=>2|4=>4|171=>272|0=>0|53=>273|37=>40|5=>5|173=>276|212=>290|51=>279|20=>20|213=>291|46=>165|232=>308|233=>309|n=>n,fun|17=>2|18=>6|19=>7|n=>n⟩
theorem Tryz.laysM171:Go.Proofs.LaysM.n171 prog Tryz.laysM171_ren:={
 mixed:=by kernel_rfl
 f129:=func211.trans (congrArg some (by kernel_rfl))
 f171:=func92.trans (congrArg some (by kernel_rfl))
 f243:=func133.trans (congrArg some (by kernel_rfl))
 f246:=func171.trans (congrArg some (by kernel_rfl))
 f283:=func194.trans (congrArg some (by kernel_rfl))
 f284:=func195.trans (congrArg some (by kernel_rfl))
 f285:=func196.trans (congrArg some (by kernel_rfl))
 f286:=func197.trans (congrArg some (by kernel_rfl))
 f317:=func210.trans (congrArg some (by kernel_rfl))
 f318:=func212.trans (congrArg some (by kernel_rfl))
 f319:=func213.trans (congrArg some (by kernel_rfl))
 f320:=func214.trans (congrArg some (by kernel_rfl))
 f337:=func225.trans (congrArg some (by kernel_rfl))
 f338:=func226.trans (congrArg some (by kernel_rfl))
 t0:=underlying0
 a0:=Tryz.isAgg0
 z0:=Tryz.sizeOf0
 v0:=Tryz.zeroValue0
 t2:=underlying2
 a2:=Tryz.isAgg2
 z2:=Tryz.sizeOf2
 v2:=Tryz.zeroValue2
 t3:=underlying3
 a3:=Tryz.isAgg3
 z3:=Tryz.sizeOf3
 v3:=Tryz.zeroValue3
 t4:=underlying4
 a4:=Tryz.isAgg4
 z4:=Tryz.sizeOf4
 v4:=Tryz.zeroValue4
 t5:=underlying5
 a5:=Tryz.isAgg5
 z5:=Tryz.sizeOf5
 v5:=Tryz.zeroValue5
 t9:=underlying9
 a9:=Tryz.isAgg9
 z9:=Tryz.sizeOf9
 v9:=Tryz.zeroValue9
 t20:=underlying20
 a20:=Tryz.isAgg20
 z20:=Tryz.sizeOf20
 v20:=Tryz.zeroValue20
 t37:=underlying40
 a37:=Tryz.isAgg40
 z37:=Tryz.sizeOf40
 v37:=Tryz.zeroValue40
 t46:=underlying165
 a46:=Tryz.isAgg165
 z46:=Tryz.sizeOf165
 v46:=Tryz.zeroValue165
 t51:=underlying279
 a51:=Tryz.isAgg279
 z51:=Tryz.sizeOf279
 v51:=Tryz.zeroValue279
 t53:=underlying273
 a53:=Tryz.isAgg273
 z53:=Tryz.sizeOf273
 v53:=Tryz.zeroValue273
 t171:=underlying272
 a171:=Tryz.isAgg272
 z171:=Tryz.sizeOf272
 v171:=Tryz.zeroValue272
 t173:=underlying276
 a173:=Tryz.isAgg276
 z173:=Tryz.sizeOf276
 v173:=Tryz.zeroValue276
 t212:=underlying290
 a212:=Tryz.isAgg290
 z212:=Tryz.sizeOf290
 v212:=Tryz.zeroValue290
 t213:=underlying291
 a213:=Tryz.isAgg291
 z213:=Tryz.sizeOf291
 t232:=underlying308
 a232:=Tryz.isAgg308
 z232:=Tryz.sizeOf308
 v232:=Tryz.zeroValue308
 t233:=underlying309
 a233:=Tryz.isAgg309
 z233:=Tryz.sizeOf309
 v233:=Tryz.zeroValue309
 g17:=by kernel_rfl
 g18:=by kernel_rfl
 g19:=by kernel_rfl
 i0:=by kernel_rfl
 i2:=by kernel_rfl
 i3:=by kernel_rfl
 i4:=by kernel_rfl
 i5:=by kernel_rfl
 i9:=by kernel_rfl
 i20:=by kernel_rfl
 i37:=by kernel_rfl
 i46:=by kernel_rfl
 i51:=by kernel_rfl
 i53:=by kernel_rfl
 i171:=by kernel_rfl
 i173:=by kernel_rfl
 i212:=by kernel_rfl
 i232:=by kernel_rfl
 i233:=by kernel_rfl
 m17:=by kernel_rfl
 m18:=by kernel_rfl
 m19:=by kernel_rfl}
open Go.RowKit Go.Sort Go.Lib in
theorem Tryz.strconv_Itoa (n:Int) (w: -9223372036854775808<=n) (o:n<=9223372036854775807) (a:World) (j:Lib.TabIs prog a "internal/strconv.uint64pow10" .u64 Lib.pow10Tab):
  Calls prog 92 #[.int .i64 n] a λe w'=>e=.returned (.string ⟨(Lib.itoa n).toArray⟩)/\ ∃k h,w'=grow (a.drewN k) h:=Any.strconv_Itoa Tryz.laysM171 n w o a j
end Go.Proofs
