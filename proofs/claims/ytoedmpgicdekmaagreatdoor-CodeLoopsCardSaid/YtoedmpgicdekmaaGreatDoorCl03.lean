/- Parts of the proof. -/
import Derived.Test.YtoedmpgicdekmaaGreatDoorCl00
import Derived.Shelf.Small.Strs
import Derived.Shelf.Strconv.AtoiAll
import Derived.Shelf.Strings.Prefix
import Derived.Test.YtoedmpgicdekmaaGreatDoorProg
set_option maxRecDepth 100000
set_option maxHeartbeats 8000000
set_option linter.unusedVariables false
set_option linter.unusedSimpArgs false
set_option linter.unusedSectionVars false
namespace Go.Proofs
open Go.Proofs.Tryz
open Go.Shelf
def Tryz.lays137_ren:Go.Shelf.Ren:=⟨fun|137=>149|217=>198|266=>226|n=>n,fun|9=>9|5=>5|3=>3|n=>n,fun|n=>n⟩
theorem Tryz.lays137:Go.Proofs.Lays.n137 prog Tryz.lays137_ren:={
 mixed:=by kernel_rfl
 f137:=func149.trans (congrArg some (by kernel_rfl))
 f217:=func198.trans (congrArg some (by kernel_rfl))
 f266:=func226.trans (congrArg some (by kernel_rfl))
 t3:=underlying3
 a3:=Tryz.isAgg3
 z3:=Tryz.sizeOf3
 v3:=Tryz.zeroValue3
 t5:=underlying5
 a5:=Tryz.isAgg5
 z5:=Tryz.sizeOf5
 v5:=Tryz.zeroValue5
 t9:=underlying9
 a9:=Tryz.isAgg9
 z9:=Tryz.sizeOf9
 v9:=Tryz.zeroValue9}
open Go.RowKit in
theorem Tryz.strings_IndexByte (s:ByteArray) (c:Int) (a:World):
  Calls prog 149 #[.string s, .int .u8 c] a λe w'=>e= .returned (.int .i64 (Lib.indexByte s.data.toList c.toNat.toUInt8))/\w'=a:=Any.strings_IndexByte Tryz.lays137 s c a
def Tryz.lays99_ren:Go.Shelf.Ren:=⟨fun|99=>150|206=>199|n=>n,fun|9=>9|4=>4|3=>3|n=>n,fun|n=>n⟩
theorem Tryz.lays99:Go.Proofs.Lays.n99 prog Tryz.lays99_ren:={
 mixed:=by kernel_rfl
 f99:=func150.trans (congrArg some (by kernel_rfl))
 f206:=func199.trans (congrArg some (by kernel_rfl))
 t3:=underlying3
 a3:=Tryz.isAgg3
 z3:=Tryz.sizeOf3
 v3:=Tryz.zeroValue3
 t4:=underlying4
 a4:=Tryz.isAgg4
 z4:=Tryz.sizeOf4
 v4:=Tryz.zeroValue4
 t9:=underlying9
 a9:=Tryz.isAgg9
 z9:=Tryz.sizeOf9
 v9:=Tryz.zeroValue9}
open Go.RowKit Go.Lib in
theorem Tryz.strings_HasPrefix (s p:ByteArray) (a:World):
  Calls prog 150 #[.string s, .string p] a λe w'=>e= .returned (.bool (Lib.hasPrefix s.data.toList p.data.toList))/\w'=a:=Any.strings_HasPrefix Tryz.lays99 s p a
def Tryz.laysC172_ren:Go.Shelf.Ren:=⟨fun|172=>201|244=>227|245=>228|247=>243|279=>244|280=>245|281=>246|282=>247|287=>260|316=>261|171=>119|205=>262|321=>267|322=>268|243=>171|246=>212|283=>234|284=>235|285=>236|286=>237|129=>251|317=>250|318=>252|319=>253|320=>254|337=>263|338=>264|n=>n,fun|9=>9|3=>3|75=>219|76=>220|4=>4|5=>5|167=>314|37=>36|0=>0|85=>315|2=>2|168=>317|53=>195|175=>328|46=>196|210=>331|127=>268|145=>338|143=>336|21=>21|171=>304|173=>307|212=>322|51=>248|20=>20|213=>323|232=>339|233=>340|80=>192|n=>n,fun|15=>4|16=>5|17=>3|18=>6|19=>7|n=>n⟩
theorem Tryz.laysC172:Go.Proofs.LaysC.n172 prog Tryz.laysC172_ren:={
 mixed:=by kernel_rfl
 f129:=func251.trans (congrArg some (by kernel_rfl))
 f171:=func119.trans (congrArg some (by kernel_rfl))
 f172:=func201.trans (congrArg some (by kernel_rfl))
 f205:=func262.trans (congrArg some (by kernel_rfl))
 f243:=func171.trans (congrArg some (by kernel_rfl))
 f244:=func227.trans (congrArg some (by kernel_rfl))
 f245:=func228.trans (congrArg some (by kernel_rfl))
 f246:=func212.trans (congrArg some (by kernel_rfl))
 f247:=func243.trans (congrArg some (by kernel_rfl))
 f279:=func244.trans (congrArg some (by kernel_rfl))
 f280:=func245.trans (congrArg some (by kernel_rfl))
 f281:=func246.trans (congrArg some (by kernel_rfl))
 f282:=func247.trans (congrArg some (by kernel_rfl))
 f283:=func234.trans (congrArg some (by kernel_rfl))
 f284:=func235.trans (congrArg some (by kernel_rfl))
 f285:=func236.trans (congrArg some (by kernel_rfl))
 f286:=func237.trans (congrArg some (by kernel_rfl))
 f287:=func260.trans (congrArg some (by kernel_rfl))
 f316:=func261.trans (congrArg some (by kernel_rfl))
 f317:=func250.trans (congrArg some (by kernel_rfl))
 f318:=func252.trans (congrArg some (by kernel_rfl))
 f319:=func253.trans (congrArg some (by kernel_rfl))
 f320:=func254.trans (congrArg some (by kernel_rfl))
 f321:=func267.trans (congrArg some (by kernel_rfl))
 f322:=func268.trans (congrArg some (by kernel_rfl))
 f337:=func263.trans (congrArg some (by kernel_rfl))
 f338:=func264.trans (congrArg some (by kernel_rfl))
 t0:=underlying0
 a0:=Tryz.isAgg0
 z0:=Tryz.sizeOf0
 v0:=Tryz.zeroValue0
 t2:=underlying2
 a2:=Tryz.isAgg2
 z2:=Tryz.sizeOf2
 v2:=Tryz.zeroValue2
 t3:=underlying3
 a3:=Tryz.isAgg3
 z3:=Tryz.sizeOf3
 v3:=Tryz.zeroValue3
 t4:=underlying4
 a4:=Tryz.isAgg4
 z4:=Tryz.sizeOf4
 v4:=Tryz.zeroValue4
 t5:=underlying5
 a5:=Tryz.isAgg5
 z5:=Tryz.sizeOf5
 v5:=Tryz.zeroValue5
 t9:=underlying9
 a9:=Tryz.isAgg9
 z9:=Tryz.sizeOf9
 v9:=Tryz.zeroValue9
 t20:=underlying20
 a20:=Tryz.isAgg20
 z20:=Tryz.sizeOf20
 v20:=Tryz.zeroValue20
 t21:=underlying21
 a21:=Tryz.isAgg21
 z21:=Tryz.sizeOf21
 v21:=Tryz.zeroValue21
 t37:=underlying36
 a37:=Tryz.isAgg36
 z37:=Tryz.sizeOf36
 v37:=Tryz.zeroValue36
 t46:=underlying196
 a46:=Tryz.isAgg196
 z46:=Tryz.sizeOf196
 v46:=Tryz.zeroValue196
 t51:=underlying248
 a51:=Tryz.isAgg248
 z51:=Tryz.sizeOf248
 v51:=Tryz.zeroValue248
 t53:=underlying195
 a53:=Tryz.isAgg195
 z53:=Tryz.sizeOf195
 v53:=Tryz.zeroValue195
 t75:=underlying219
 a75:=Tryz.isAgg219
 z75:=Tryz.sizeOf219
 v75:=Tryz.zeroValue219
 t76:=underlying220
 a76:=Tryz.isAgg220
 z76:=Tryz.sizeOf220
 v76:=Tryz.zeroValue220
 t85:=underlying315
 a85:=Tryz.isAgg315
 z85:=Tryz.sizeOf315
 v85:=Tryz.zeroValue315
 t127:=underlying268
 a127:=Tryz.isAgg268
 z127:=Tryz.sizeOf268
 v127:=Tryz.zeroValue268
 t143:=underlying336
 a143:=Tryz.isAgg336
 z143:=Tryz.sizeOf336
 v143:=Tryz.zeroValue336
 t145:=underlying338
 a145:=Tryz.isAgg338
 z145:=Tryz.sizeOf338
 v145:=Tryz.zeroValue338
 t167:=underlying314
 a167:=Tryz.isAgg314
 z167:=Tryz.sizeOf314
 v167:=Tryz.zeroValue314
 t168:=underlying317
 a168:=Tryz.isAgg317
 z168:=Tryz.sizeOf317
 v168:=Tryz.zeroValue317
 t171:=underlying304
 a171:=Tryz.isAgg304
 z171:=Tryz.sizeOf304
 v171:=Tryz.zeroValue304
 t173:=underlying307
 a173:=Tryz.isAgg307
 z173:=Tryz.sizeOf307
 v173:=Tryz.zeroValue307
 t175:=underlying328
 a175:=Tryz.isAgg328
 z175:=Tryz.sizeOf328
 v175:=Tryz.zeroValue328
 t210:=underlying331
 a210:=Tryz.isAgg331
 z210:=Tryz.sizeOf331
 v210:=Tryz.zeroValue331
 t212:=underlying322
 a212:=Tryz.isAgg322
 z212:=Tryz.sizeOf322
 v212:=Tryz.zeroValue322
 t213:=underlying323
 a213:=Tryz.isAgg323
 z213:=Tryz.sizeOf323
 t232:=underlying339
 a232:=Tryz.isAgg339
 z232:=Tryz.sizeOf339
 v232:=Tryz.zeroValue339
 t233:=underlying340
 a233:=Tryz.isAgg340
 z233:=Tryz.sizeOf340
 v233:=Tryz.zeroValue340
 g15:=by kernel_rfl
 g16:=by kernel_rfl
 g17:=by kernel_rfl
 g18:=by kernel_rfl
 g19:=by kernel_rfl
 t80:=underlying192
 a80:=Tryz.isAgg192
 z80:=Tryz.sizeOf192
 v80:=Tryz.zeroValue192
 i0:=by kernel_rfl
 i2:=by kernel_rfl
 i3:=by kernel_rfl
 i4:=by kernel_rfl
 i5:=by kernel_rfl
 i9:=by kernel_rfl
 i20:=by kernel_rfl
 i21:=by kernel_rfl
 i37:=by kernel_rfl
 i46:=by kernel_rfl
 i51:=by kernel_rfl
 i53:=by kernel_rfl
 i75:=by kernel_rfl
 i76:=by kernel_rfl
 i80:=by kernel_rfl
 i85:=by kernel_rfl
 i127:=by kernel_rfl
 i143:=by kernel_rfl
 i145:=by kernel_rfl
 i167:=by kernel_rfl
 i168:=by kernel_rfl
 i171:=by kernel_rfl
 i173:=by kernel_rfl
 i175:=by kernel_rfl
 i210:=by kernel_rfl
 i212:=by kernel_rfl
 i232:=by kernel_rfl
 i233:=by kernel_rfl
 m15:=by kernel_rfl
 m16:=by kernel_rfl
 m17:=by kernel_rfl
 m18:=by kernel_rfl
 m19:=by kernel_rfl
 c0:=by kernel_rfl
 c2:=by kernel_rfl
 c3:=by kernel_rfl
 c4:=by kernel_rfl
 c5:=by kernel_rfl
 c9:=by kernel_rfl
 c20:=by kernel_rfl
 c21:=by kernel_rfl
 c37:=by kernel_rfl
 c46:=by kernel_rfl
 c51:=by kernel_rfl
 c53:=by kernel_rfl
 c75:=by kernel_rfl
 c76:=by kernel_rfl
 c80:=by kernel_rfl
 c85:=by kernel_rfl
 c127:=by kernel_rfl
 c143:=by kernel_rfl
 c145:=by kernel_rfl
 c167:=by kernel_rfl
 c168:=by kernel_rfl
 c171:=by kernel_rfl
 c173:=by kernel_rfl
 c175:=by kernel_rfl
 c210:=by kernel_rfl
 c212:=by kernel_rfl
 c213:=by kernel_rfl
 c232:=by kernel_rfl
 c233:=by kernel_rfl}
open Go.RowKit in
theorem Tryz.strconv_Atoi_ok (s:ByteArray) (d:s.size<=9223372036854775806) (v:Int) (h:Lib.atoiAll s.data.toList= .ok v) (a:World):
  Calls prog 201 #[.string s] a λe w'=>e= .returned (.tuple #[.int .i64 v, .nilIface])/\(w'=a\/ ∃t,w'=Lib.bytesWorld a 5 t):=Any.strconv_Atoi_ok Tryz.laysC172 s d v h a
open Go.RowKit in
theorem Tryz.strconv_Atoi_range (s:ByteArray) (w:s.size<=281474976710656) (z:Lib.atoiAll s.data.toList= .range) (d:Value) (a:World) (u:a.cell? ⟨5,0,none⟩=some d) (y:d= .nilIface\/ ∃h o,d= .iface h o):
  Calls prog 201 #[.string s] a λe w'=> ∃N,e= .returned (.tuple #[.int .i64 (Lib.atoiSat s.data.toList), .iface 317 (.pointer (some ⟨N,0,none⟩))])/\a.heap.size<=N/\w'.heap[N]? =some (.cells #[.string ⟨#[65,116,111,105]⟩, .string s,d] 331 (0,0))/\Below a.heap.size a w':=Any.strconv_Atoi_range Tryz.laysC172 s w z d a u y
end Go.Proofs
