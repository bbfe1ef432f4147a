/- Parts of the proof. -/
import Derived.Test.YtddomeddabfinaaGreatDoorTt00
import Derived.Shelf.Small.Strs
import Derived.Shelf.Strconv.AtoiAll
import Derived.Shelf.Strings.Prefix
import Derived.Test.YtddomeddabfinaaGreatDoorProg
set_option maxRecDepth 100000
set_option maxHeartbeats 8000000
set_option linter.unusedVariables false
set_option linter.unusedSimpArgs false
set_option linter.unusedSectionVars false
namespace Go.Proofs
open Go.Proofs.Tryz
open Go.Shelf
def Tryz.lays137_ren:Go.Shelf.Ren:=⟨fun|137=>137|217=>177|266=>202|n=>n,fun|9=>9|5=>5|3=>3|n=>n,fun|n=>n⟩
theorem Tryz.lays137:Go.Proofs.Lays.n137 prog Tryz.lays137_ren:={
 mixed:=by kernel_rfl
 f137:=func137.trans (congrArg some (by kernel_rfl))
 f217:=func177.trans (congrArg some (by kernel_rfl))
 f266:=func202.trans (congrArg some (by kernel_rfl))
 t3:=underlying3
 a3:=Tryz.isAgg3
 z3:=Tryz.sizeOf3
 v3:=Tryz.zeroValue3
 t5:=underlying5
 a5:=Tryz.isAgg5
 z5:=Tryz.sizeOf5
 v5:=Tryz.zeroValue5
 t9:=underlying9
 a9:=Tryz.isAgg9
 z9:=Tryz.sizeOf9
 v9:=Tryz.zeroValue9}
open Go.RowKit in
theorem Tryz.strings_IndexByte (s:ByteArray) (c:Int) (a:World):
  Calls prog 137 #[.string s,.int .u8 c] a λe w'=>e=.returned (.int .i64 (Lib.indexByte s.data.toList c.toNat.toUInt8))/\w'=a:=Any.strings_IndexByte Tryz.lays137 s c a
def Tryz.lays99_ren:Go.Shelf.Ren:=⟨fun|99=>138|206=>178|n=>n,fun|9=>9|4=>4|3=>3|n=>n,fun|n=>n⟩
theorem Tryz.lays99:Go.Proofs.Lays.n99 prog Tryz.lays99_ren:={
 mixed:=by kernel_rfl
 f99:=func138.trans (congrArg some (by kernel_rfl))
 f206:=func178.trans (congrArg some (by kernel_rfl))
 t3:=underlying3
 a3:=Tryz.isAgg3
 z3:=Tryz.sizeOf3
 v3:=Tryz.zeroValue3
 t4:=underlying4
 a4:=Tryz.isAgg4
 z4:=Tryz.sizeOf4
 v4:=Tryz.zeroValue4
 t9:=underlying9
 a9:=Tryz.isAgg9
 z9:=Tryz.sizeOf9
 v9:=Tryz.zeroValue9}
open Go.RowKit Go.Lib in
theorem Tryz.strings_HasPrefix (s p:ByteArray) (a:World):
  Calls prog 138 #[.string s,.string p] a λe w'=>e=.returned (.bool (Lib.hasPrefix s.data.toList p.data.toList))/\w'=a:=Any.strings_HasPrefix Tryz.lays99 s p a
def Tryz.laysC172_ren:Go.Shelf.Ren:=⟨fun|172=>180|244=>203|245=>204|247=>218|279=>219|280=>220|281=>221|282=>222|287=>228|316=>229|171=>92|205=>230|321=>231|322=>232|243=>133|246=>171|283=>194|284=>195|285=>196|286=>197|129=>211|317=>210|318=>212|319=>213|320=>214|337=>225|338=>226|n=>n,fun|9=>9|3=>3|75=>197|76=>198|4=>4|5=>5|167=>295|37=>40|0=>0|85=>296|2=>2|168=>298|53=>273|175=>303|46=>165|210=>306|127=>236|145=>313|143=>311|21=>21|171=>272|173=>276|212=>290|51=>279|20=>20|213=>291|232=>308|233=>309|80=>203|n=>n,fun|15=>4|16=>5|17=>2|18=>6|19=>7|n=>n⟩
theorem Tryz.laysC172:Go.Proofs.LaysC.n172 prog Tryz.laysC172_ren:={
 mixed:=by kernel_rfl
 f129:=func211.trans (congrArg some (by kernel_rfl))
 f171:=func92.trans (congrArg some (by kernel_rfl))
 f172:=func180.trans (congrArg some (by kernel_rfl))
 f205:=func230.trans (congrArg some (by kernel_rfl))
 f243:=func133.trans (congrArg some (by kernel_rfl))
 f244:=func203.trans (congrArg some (by kernel_rfl))
 f245:=func204.trans (congrArg some (by kernel_rfl))
 f246:=func171.trans (congrArg some (by kernel_rfl))
 f247:=func218.trans (congrArg some (by kernel_rfl))
 f279:=func219.trans (congrArg some (by kernel_rfl))
 f280:=func220.trans (congrArg some (by kernel_rfl))
 f281:=func221.trans (congrArg some (by kernel_rfl))
 f282:=func222.trans (congrArg some (by kernel_rfl))
 f283:=func194.trans (congrArg some (by kernel_rfl))
 f284:=func195.trans (congrArg some (by kernel_rfl))
 f285:=func196.trans (congrArg some (by kernel_rfl))
 f286:=func197.trans (congrArg some (by kernel_rfl))
 f287:=func228.trans (congrArg some (by kernel_rfl))
 f316:=func229.trans (congrArg some (by kernel_rfl))
 f317:=func210.trans (congrArg some (by kernel_rfl))
 f318:=func212.trans (congrArg some (by kernel_rfl))
 f319:=func213.trans (congrArg some (by kernel_rfl))
 f320:=func214.trans (congrArg some (by kernel_rfl))
 f321:=func231.trans (congrArg some (by kernel_rfl))
 f322:=func232.trans (congrArg some (by kernel_rfl))
 f337:=func225.trans (congrArg some (by kernel_rfl))
 f338:=func226.trans (congrArg some (by kernel_rfl))
 t0:=underlying0
 a0:=Tryz.isAgg0
 z0:=Tryz.sizeOf0
 v0:=Tryz.zeroValue0
 t2:=underlying2
 a2:=Tryz.isAgg2
 z2:=Tryz.sizeOf2
 v2:=Tryz.zeroValue2
 t3:=underlying3
 a3:=Tryz.isAgg3
 z3:=Tryz.sizeOf3
 v3:=Tryz.zeroValue3
 t4:=underlying4
 a4:=Tryz.isAgg4
 z4:=Tryz.sizeOf4
 v4:=Tryz.zeroValue4
 t5:=underlying5
 a5:=Tryz.isAgg5
 z5:=Tryz.sizeOf5
 v5:=Tryz.zeroValue5
 t9:=underlying9
 a9:=Tryz.isAgg9
 z9:=Tryz.sizeOf9
 v9:=Tryz.zeroValue9
 t20:=underlying20
 a20:=Tryz.isAgg20
 z20:=Tryz.sizeOf20
 v20:=Tryz.zeroValue20
 t21:=underlying21
 a21:=Tryz.isAgg21
 z21:=Tryz.sizeOf21
 v21:=Tryz.zeroValue21
 t37:=underlying40
 a37:=Tryz.isAgg40
 z37:=Tryz.sizeOf40
 v37:=Tryz.zeroValue40
 t46:=underlying165
 a46:=Tryz.isAgg165
 z46:=Tryz.sizeOf165
 v46:=Tryz.zeroValue165
 t51:=underlying279
 a51:=Tryz.isAgg279
 z51:=Tryz.sizeOf279
 v51:=Tryz.zeroValue279
 t53:=underlying273
 a53:=Tryz.isAgg273
 z53:=Tryz.sizeOf273
 v53:=Tryz.zeroValue273
 t75:=underlying197
 a75:=Tryz.isAgg197
 z75:=Tryz.sizeOf197
 v75:=Tryz.zeroValue197
 t76:=underlying198
 a76:=Tryz.isAgg198
 z76:=Tryz.sizeOf198
 v76:=Tryz.zeroValue198
 t85:=underlying296
 a85:=Tryz.isAgg296
 z85:=Tryz.sizeOf296
 v85:=Tryz.zeroValue296
 t127:=underlying236
 a127:=Tryz.isAgg236
 z127:=Tryz.sizeOf236
 v127:=Tryz.zeroValue236
 t143:=underlying311
 a143:=Tryz.isAgg311
 z143:=Tryz.sizeOf311
 v143:=Tryz.zeroValue311
 t145:=underlying313
 a145:=Tryz.isAgg313
 z145:=Tryz.sizeOf313
 v145:=Tryz.zeroValue313
 t167:=underlying295
 a167:=Tryz.isAgg295
 z167:=Tryz.sizeOf295
 v167:=Tryz.zeroValue295
 t168:=underlying298
 a168:=Tryz.isAgg298
 z168:=Tryz.sizeOf298
 v168:=Tryz.zeroValue298
 t171:=underlying272
 a171:=Tryz.isAgg272
 z171:=Tryz.sizeOf272
 v171:=Tryz.zeroValue272
 t173:=underlying276
 a173:=Tryz.isAgg276
 z173:=Tryz.sizeOf276
 v173:=Tryz.zeroValue276
 t175:=underlying303
 a175:=Tryz.isAgg303
 z175:=Tryz.sizeOf303
 v175:=Tryz.zeroValue303
 t210:=underlying306
 a210:=Tryz.isAgg306
 z210:=Tryz.sizeOf306
 v210:=Tryz.zeroValue306
 t212:=underlying290
 a212:=Tryz.isAgg290
 z212:=Tryz.sizeOf290
 v212:=Tryz.zeroValue290
 t213:=underlying291
 a213:=Tryz.isAgg291
 z213:=Tryz.sizeOf291
 t232:=underlying308
 a232:=Tryz.isAgg308
 z232:=Tryz.sizeOf308
 v232:=Tryz.zeroValue308
 t233:=underlying309
 a233:=Tryz.isAgg309
 z233:=Tryz.sizeOf309
 v233:=Tryz.zeroValue309
 g15:=by kernel_rfl
 g16:=by kernel_rfl
 g17:=by kernel_rfl
 g18:=by kernel_rfl
 g19:=by kernel_rfl
 t80:=underlying203
 a80:=Tryz.isAgg203
 z80:=Tryz.sizeOf203
 v80:=Tryz.zeroValue203
 i0:=by kernel_rfl
 i2:=by kernel_rfl
 i3:=by kernel_rfl
 i4:=by kernel_rfl
 i5:=by kernel_rfl
 i9:=by kernel_rfl
 i20:=by kernel_rfl
 i21:=by kernel_rfl
 i37:=by kernel_rfl
 i46:=by kernel_rfl
 i51:=by kernel_rfl
 i53:=by kernel_rfl
 i75:=by kernel_rfl
 i76:=by kernel_rfl
 i80:=by kernel_rfl
 i85:=by kernel_rfl
 i127:=by kernel_rfl
 i143:=by kernel_rfl
 i145:=by kernel_rfl
 i167:=by kernel_rfl
 i168:=by kernel_rfl
 i171:=by kernel_rfl
 i173:=by kernel_rfl
 i175:=by kernel_rfl
 i210:=by kernel_rfl
 i212:=by kernel_rfl
 i232:=by kernel_rfl
 i233:=by kernel_rfl
 m15:=by kernel_rfl
 m16:=by kernel_rfl
 m17:=by kernel_rfl
 m18:=by kernel_rfl
 m19:=by kernel_rfl
 c0:=by kernel_rfl
 c2:=by kernel_rfl
 c3:=by kernel_rfl
 c4:=by kernel_rfl
 c5:=by kernel_rfl
 c9:=by kernel_rfl
 c20:=by kernel_rfl
 c21:=by kernel_rfl
 c37:=by kernel_rfl
 c46:=by kernel_rfl
 c51:=by kernel_rfl
 c53:=by kernel_rfl
 c75:=by kernel_rfl
 c76:=by kernel_rfl
 c80:=by kernel_rfl
 c85:=by kernel_rfl
 c127:=by kernel_rfl
 c143:=by kernel_rfl
 c145:=by kernel_rfl
 c167:=by kernel_rfl
 c168:=by kernel_rfl
 c171:=by kernel_rfl
 c173:=by kernel_rfl
 c175:=by kernel_rfl
 c210:=by kernel_rfl
 c212:=by kernel_rfl
 c213:=by kernel_rfl
 c232:=by kernel_rfl
 c233:=by kernel_rfl}
open Go.RowKit in
theorem Tryz.strconv_Atoi_ok (s:ByteArray) (h:s.size<=9223372036854775806) (v:Int) (j:Lib.atoiAll s.data.toList=.ok v) (a:World):
  Calls prog 180 #[.string s] a λe w'=>e=.returned (.tuple #[.int .i64 v,.nilIface])/\(w'=a\/ ∃t,w'=Lib.bytesWorld a 5 t):=Any.strconv_Atoi_ok Tryz.laysC172 s h v j a
open Go.RowKit in
theorem Tryz.strconv_Atoi_range (s:ByteArray) (w:s.size<=281474976710656) (A:Lib.atoiAll s.data.toList=.range) (ev:Value) (a:World) (o:a.cell? ⟨5,0,none⟩=some ev) (z:ev=.nilIface\/ ∃h j,ev=.iface h j):
  Calls prog 180 #[.string s] a λe w'=> ∃N,e=.returned (.tuple #[.int .i64 (Lib.atoiSat s.data.toList),.iface 298 (.pointer (some ⟨N,0,none⟩))])/\a.heap.size<=N/\w'.heap[N]? =some (.cells #[.string ⟨#[65,116,111,105]⟩,.string s,ev] 306 (0,0))/\Below a.heap.size a w':=Any.strconv_Atoi_range Tryz.laysC172 s w A ev a o z
end Go.Proofs
