/-
  Parts of the proof: ShelfLex.
-/
import Derived.Test.YtelplgkppalmfaaGreatDoorPs00
import Derived.Shelf.Small.Strs
import Derived.Shelf.Strconv.AtoiAll
import Derived.Shelf.Strings.Prefix
import Derived.Test.YtelplgkppalmfaaGreatDoorProg
set_option maxRecDepth 100000
set_option maxHeartbeats 8000000
set_option linter.unusedVariables false
set_option linter.unusedSimpArgs false
namespace Go.Proofs
open Go.Proofs.Tryz
open Go.Shelf
def Tryz.lays137_ren:Go.Shelf.Ren:=⟨fun|137=>107|217=>135|266=>153|n=>n,fun|9=>9|5=>5|3=>3|n=>n,fun|n=>n⟩
theorem Tryz.lays137:Go.Proofs.Lays.n137 prog Tryz.lays137_ren:={
 mixed:=by kernel_rfl
 f137:=func107.trans (congrArg some (by kernel_rfl))
 f217:=func135.trans (congrArg some (by kernel_rfl))
 f266:=func153.trans (congrArg some (by kernel_rfl))
 t3:=underlying3
 a3:=Tryz.isAgg3
 z3:=Tryz.sizeOf3
 v3:=Tryz.zeroValue3
 t5:=underlying5
 a5:=Tryz.isAgg5
 z5:=Tryz.sizeOf5
 v5:=Tryz.zeroValue5
 t9:=underlying9
 a9:=Tryz.isAgg9
 z9:=Tryz.sizeOf9
 v9:=Tryz.zeroValue9}
open Go.RowKit in
theorem Tryz.strings_IndexByte (s:ByteArray) (c:Int) (w:World):
  Calls prog 107 #[.string s, .int .u8 c] w fun e w'=>e= .returned (.int .i64 (Lib.indexByte s.data.toList c.toNat.toUInt8))/\w'=w:=Any.strings_IndexByte Tryz.lays137 s c w
def Tryz.lays99_ren:Go.Shelf.Ren:=⟨fun|99=>108|206=>136|n=>n,fun|9=>9|4=>4|3=>3|n=>n,fun|n=>n⟩
theorem Tryz.lays99:Go.Proofs.Lays.n99 prog Tryz.lays99_ren:={
 mixed:=by kernel_rfl
 f99:=func108.trans (congrArg some (by kernel_rfl))
 f206:=func136.trans (congrArg some (by kernel_rfl))
 t3:=underlying3
 a3:=Tryz.isAgg3
 z3:=Tryz.sizeOf3
 v3:=Tryz.zeroValue3
 t4:=underlying4
 a4:=Tryz.isAgg4
 z4:=Tryz.sizeOf4
 v4:=Tryz.zeroValue4
 t9:=underlying9
 a9:=Tryz.isAgg9
 z9:=Tryz.sizeOf9
 v9:=Tryz.zeroValue9}
open Go.RowKit Go.Lib in
theorem Tryz.strings_HasPrefix (s p:ByteArray) (w:World):
  Calls prog 108 #[.string s, .string p] w fun e w'=>e= .returned (.bool (Lib.hasPrefix s.data.toList p.data.toList))/\w'=w:=Any.strings_HasPrefix Tryz.lays99 s p w
def Tryz.laysC172_ren:Go.Shelf.Ren:=⟨fun|172=>138|244=>154|245=>155|247=>167|279=>168|280=>169|281=>170|282=>171|287=>182|316=>183|171=>86|205=>184|321=>188|322=>189|243=>127|246=>147|283=>159|284=>160|285=>161|286=>162|129=>175|317=>174|318=>176|319=>177|320=>178|337=>185|338=>186|n=>n,fun|9=>9|3=>3|75=>143|76=>144|4=>4|5=>5|167=>206|37=>56|0=>0|85=>207|2=>2|168=>209|53=>194|175=>220|46=>185|210=>223|127=>173|145=>230|143=>228|21=>21|171=>193|173=>197|212=>215|51=>200|20=>20|213=>216|232=>231|233=>232|80=>121|n=>n,fun|15=>2|16=>3|17=>1|18=>4|19=>5|n=>n⟩
theorem Tryz.laysC172:Go.Proofs.LaysC.n172 prog Tryz.laysC172_ren:={
 mixed:=by kernel_rfl
 f129:=func175.trans (congrArg some (by kernel_rfl))
 f171:=func86.trans (congrArg some (by kernel_rfl))
 f172:=func138.trans (congrArg some (by kernel_rfl))
 f205:=func184.trans (congrArg some (by kernel_rfl))
 f243:=func127.trans (congrArg some (by kernel_rfl))
 f244:=func154.trans (congrArg some (by kernel_rfl))
 f245:=func155.trans (congrArg some (by kernel_rfl))
 f246:=func147.trans (congrArg some (by kernel_rfl))
 f247:=func167.trans (congrArg some (by kernel_rfl))
 f279:=func168.trans (congrArg some (by kernel_rfl))
 f280:=func169.trans (congrArg some (by kernel_rfl))
 f281:=func170.trans (congrArg some (by kernel_rfl))
 f282:=func171.trans (congrArg some (by kernel_rfl))
 f283:=func159.trans (congrArg some (by kernel_rfl))
 f284:=func160.trans (congrArg some (by kernel_rfl))
 f285:=func161.trans (congrArg some (by kernel_rfl))
 f286:=func162.trans (congrArg some (by kernel_rfl))
 f287:=func182.trans (congrArg some (by kernel_rfl))
 f316:=func183.trans (congrArg some (by kernel_rfl))
 f317:=func174.trans (congrArg some (by kernel_rfl))
 f318:=func176.trans (congrArg some (by kernel_rfl))
 f319:=func177.trans (congrArg some (by kernel_rfl))
 f320:=func178.trans (congrArg some (by kernel_rfl))
 f321:=func188.trans (congrArg some (by kernel_rfl))
 f322:=func189.trans (congrArg some (by kernel_rfl))
 f337:=func185.trans (congrArg some (by kernel_rfl))
 f338:=func186.trans (congrArg some (by kernel_rfl))
 t0:=underlying0
 a0:=Tryz.isAgg0
 z0:=Tryz.sizeOf0
 v0:=Tryz.zeroValue0
 t2:=underlying2
 a2:=Tryz.isAgg2
 z2:=Tryz.sizeOf2
 v2:=Tryz.zeroValue2
 t3:=underlying3
 a3:=Tryz.isAgg3
 z3:=Tryz.sizeOf3
 v3:=Tryz.zeroValue3
 t4:=underlying4
 a4:=Tryz.isAgg4
 z4:=Tryz.sizeOf4
 v4:=Tryz.zeroValue4
 t5:=underlying5
 a5:=Tryz.isAgg5
 z5:=Tryz.sizeOf5
 v5:=Tryz.zeroValue5
 t9:=underlying9
 a9:=Tryz.isAgg9
 z9:=Tryz.sizeOf9
 v9:=Tryz.zeroValue9
 t20:=underlying20
 a20:=Tryz.isAgg20
 z20:=Tryz.sizeOf20
 v20:=Tryz.zeroValue20
 t21:=underlying21
 a21:=Tryz.isAgg21
 z21:=Tryz.sizeOf21
 v21:=Tryz.zeroValue21
 t37:=underlying56
 a37:=Tryz.isAgg56
 z37:=Tryz.sizeOf56
 v37:=Tryz.zeroValue56
 t46:=underlying185
 a46:=Tryz.isAgg185
 z46:=Tryz.sizeOf185
 v46:=Tryz.zeroValue185
 t51:=underlying200
 a51:=Tryz.isAgg200
 z51:=Tryz.sizeOf200
 v51:=Tryz.zeroValue200
 t53:=underlying194
 a53:=Tryz.isAgg194
 z53:=Tryz.sizeOf194
 v53:=Tryz.zeroValue194
 t75:=underlying143
 a75:=Tryz.isAgg143
 z75:=Tryz.sizeOf143
 v75:=Tryz.zeroValue143
 t76:=underlying144
 a76:=Tryz.isAgg144
 z76:=Tryz.sizeOf144
 v76:=Tryz.zeroValue144
 t85:=underlying207
 a85:=Tryz.isAgg207
 z85:=Tryz.sizeOf207
 v85:=Tryz.zeroValue207
 t127:=underlying173
 a127:=Tryz.isAgg173
 z127:=Tryz.sizeOf173
 v127:=Tryz.zeroValue173
 t143:=underlying228
 a143:=Tryz.isAgg228
 z143:=Tryz.sizeOf228
 v143:=Tryz.zeroValue228
 t145:=underlying230
 a145:=Tryz.isAgg230
 z145:=Tryz.sizeOf230
 v145:=Tryz.zeroValue230
 t167:=underlying206
 a167:=Tryz.isAgg206
 z167:=Tryz.sizeOf206
 v167:=Tryz.zeroValue206
 t168:=underlying209
 a168:=Tryz.isAgg209
 z168:=Tryz.sizeOf209
 v168:=Tryz.zeroValue209
 t171:=underlying193
 a171:=Tryz.isAgg193
 z171:=Tryz.sizeOf193
 v171:=Tryz.zeroValue193
 t173:=underlying197
 a173:=Tryz.isAgg197
 z173:=Tryz.sizeOf197
 v173:=Tryz.zeroValue197
 t175:=underlying220
 a175:=Tryz.isAgg220
 z175:=Tryz.sizeOf220
 v175:=Tryz.zeroValue220
 t210:=underlying223
 a210:=Tryz.isAgg223
 z210:=Tryz.sizeOf223
 v210:=Tryz.zeroValue223
 t212:=underlying215
 a212:=Tryz.isAgg215
 z212:=Tryz.sizeOf215
 v212:=Tryz.zeroValue215
 t213:=underlying216
 a213:=Tryz.isAgg216
 z213:=Tryz.sizeOf216
 t232:=underlying231
 a232:=Tryz.isAgg231
 z232:=Tryz.sizeOf231
 v232:=Tryz.zeroValue231
 t233:=underlying232
 a233:=Tryz.isAgg232
 z233:=Tryz.sizeOf232
 v233:=Tryz.zeroValue232
 g15:=by kernel_rfl
 g16:=by kernel_rfl
 g17:=by kernel_rfl
 g18:=by kernel_rfl
 g19:=by kernel_rfl
 t80:=underlying121
 a80:=Tryz.isAgg121
 z80:=Tryz.sizeOf121
 v80:=Tryz.zeroValue121
 i0:=by kernel_rfl
 i2:=by kernel_rfl
 i3:=by kernel_rfl
 i4:=by kernel_rfl
 i5:=by kernel_rfl
 i9:=by kernel_rfl
 i20:=by kernel_rfl
 i21:=by kernel_rfl
 i37:=by kernel_rfl
 i46:=by kernel_rfl
 i51:=by kernel_rfl
 i53:=by kernel_rfl
 i75:=by kernel_rfl
 i76:=by kernel_rfl
 i80:=by kernel_rfl
 i85:=by kernel_rfl
 i127:=by kernel_rfl
 i143:=by kernel_rfl
 i145:=by kernel_rfl
 i167:=by kernel_rfl
 i168:=by kernel_rfl
 i171:=by kernel_rfl
 i173:=by kernel_rfl
 i175:=by kernel_rfl
 i210:=by kernel_rfl
 i212:=by kernel_rfl
 i232:=by kernel_rfl
 i233:=by kernel_rfl
 m15:=by kernel_rfl
 m16:=by kernel_rfl
 m17:=by kernel_rfl
 m18:=by kernel_rfl
 m19:=by kernel_rfl
 c0:=by kernel_rfl
 c2:=by kernel_rfl
 c3:=by kernel_rfl
 c4:=by kernel_rfl
 c5:=by kernel_rfl
 c9:=by kernel_rfl
 c20:=by kernel_rfl
 c21:=by kernel_rfl
 c37:=by kernel_rfl
 c46:=by kernel_rfl
 c51:=by kernel_rfl
 c53:=by kernel_rfl
 c75:=by kernel_rfl
 c76:=by kernel_rfl
 c80:=by kernel_rfl
 c85:=by kernel_rfl
 c127:=by kernel_rfl
 c143:=by kernel_rfl
 c145:=by kernel_rfl
 c167:=by kernel_rfl
 c168:=by kernel_rfl
 c171:=by kernel_rfl
 c173:=by kernel_rfl
 c175:=by kernel_rfl
 c210:=by kernel_rfl
 c212:=by kernel_rfl
 c213:=by kernel_rfl
 c232:=by kernel_rfl
 c233:=by kernel_rfl}
open Go.RowKit in
theorem Tryz.strconv_Atoi_ok (s:ByteArray) (hmax:s.size<=9223372036854775806) (v:Int) (h:Lib.atoiAll s.data.toList= .ok v) (w:World):
  Calls prog 138 #[.string s] w fun e w'=>e= .returned (.tuple #[.int .i64 v, .nilIface])/\(w'=w\/ ∃t,w'=Lib.bytesWorld w 5 t):=Any.strconv_Atoi_ok Tryz.laysC172 s hmax v h w
open Go.RowKit in
theorem Tryz.strconv_Atoi_range (s:ByteArray) (hlim:s.size<=281474976710656) (h:Lib.atoiAll s.data.toList= .range) (ev:Value) (w:World) (hv:w.cell? ⟨3,0,none⟩=some ev) (hev:ev= .nilIface\/ ∃te pe,ev= .iface te pe):
  Calls prog 138 #[.string s] w fun e w'=> ∃N,e= .returned (.tuple #[.int .i64 (Lib.atoiSat s.data.toList), .iface 209 (.pointer (some ⟨N,0,none⟩))])/\w.heap.size<=N/\w'.heap[N]? =some (.cells #[.string ⟨#[65,116,111,105]⟩, .string s,ev] 223 (0,0))/\Below w.heap.size w w':=Any.strconv_Atoi_range Tryz.laysC172 s hlim h ev w hv hev
end Go.Proofs
