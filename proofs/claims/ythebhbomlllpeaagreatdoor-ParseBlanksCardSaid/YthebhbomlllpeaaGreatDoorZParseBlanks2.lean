/-
  ParseBlanks: what the proof needs, put together by a program of this session (shake.py), part 2.
-/
import Derived.Test.YthebhbomlllpeaaGreatDoorZParseBlanks1
set_option linter.unusedVariables false
set_option linter.unusedSimpArgs false
namespace Go.Proofs
open Go.Shelf
open Go.RowKit in
open Go.RowKit in
open Go.RowKit in
open Go.RowKit in
open Go.RowKit in
open Go.RowKit in
open Go.RowKit in
open Go.RowKit in
def Tryz.lays137_ren:Go.Shelf.Ren:=⟨fun|137=>96|217=>122|266=>151|n=>n,fun|9=>9|5=>5|3=>3|n=>n,fun|n=>n⟩
theorem Tryz.lays137 : Go.Proofs.Lays.n137 Tryz.prog Tryz.lays137_ren := {
 mixed:=by kernel_rfl
 f137:=Tryz.func96.trans (congrArg some (by kernel_rfl))
 f217:=Tryz.func122.trans (congrArg some (by kernel_rfl))
 f266:=Tryz.func151.trans (congrArg some (by kernel_rfl))
 t3:=Tryz.underlying3
 a3:=Tryz.isAgg3
 z3:=Tryz.sizeOf3
 v3:=Tryz.zeroValue3
 t5:=Tryz.underlying5
 a5:=Tryz.isAgg5
 z5:=Tryz.sizeOf5
 v5:=Tryz.zeroValue5
 t9:=Tryz.underlying9
 a9:=Tryz.isAgg9
 z9:=Tryz.sizeOf9
 v9:=Tryz.zeroValue9 }
open Go.RowKit in
theorem Tryz.strings_IndexByte (s:ByteArray) (c:Int) (w:World) :
 Calls Tryz.prog 96 #[.string s,.int .u8 c] w fun e w'=>e=.returned (.int .i64 (Lib.indexByte s.data.toList c.toNat.toUInt8))∧w'=w:=Any.strings_IndexByte Tryz.lays137 s c w
open Go.RowKit in
def Tryz.lays103_ren:Go.Shelf.Ren:=⟨fun|103=>152|210=>166|206=>155|n=>n,fun|9=>9|4=>4|24=>74|3=>3|n=>n,fun|n=>n⟩
theorem Tryz.lays103 : Go.Proofs.Lays.n103 Tryz.prog Tryz.lays103_ren := {
 mixed:=by kernel_rfl
 f103:=Tryz.func152.trans (congrArg some (by kernel_rfl))
 f206:=Tryz.func155.trans (congrArg some (by kernel_rfl))
 f210:=Tryz.func166.trans (congrArg some (by kernel_rfl))
 t3:=Tryz.underlying3
 a3:=Tryz.isAgg3
 z3:=Tryz.sizeOf3
 v3:=Tryz.zeroValue3
 t4:=Tryz.underlying4
 a4:=Tryz.isAgg4
 z4:=Tryz.sizeOf4
 v4:=Tryz.zeroValue4
 t9:=Tryz.underlying9
 a9:=Tryz.isAgg9
 z9:=Tryz.sizeOf9
 v9:=Tryz.zeroValue9
 t24:=Tryz.underlying74
 a24:=Tryz.isAgg74
 z24:=Tryz.sizeOf74
 v24:=Tryz.zeroValue74 }
open Go.RowKit in
theorem Tryz.strings_CutPrefix (s p:ByteArray) (w:World) :
 Calls Tryz.prog 152 #[.string s,.string p] w fun e w'=>e=.returned (.tuple #[.string ⟨(Lib.trimPrefix s.data.toList p.data.toList).toArray⟩,.bool (Lib.hasPrefix s.data.toList p.data.toList)])∧w'=w:=Any.strings_CutPrefix Tryz.lays103 s p w
open Go.RowKit in
open Go.RowKit in
open Go.RowKit in
open Go.RowKit in
open Go.RowKit in
open Go.RowKit in
open Go.RowKit in
open Go.RowKit in
open Go.RowKit in
open Go.Lib in
open Go.Lib in
open Go.Lib in
open Go.Lib in
open Go.RowKit Go.Sort Go.Lib in
open Go.RowKit Go.Sort Go.Lib in
open Go.RowKit Go.Sort Go.Lib in
open Go.RowKit Go.Sort Go.Lib in
open Go.RowKit Go.Sort Go.Lib in
open Go.RowKit Go.Sort Go.Lib in
open Go.RowKit Go.Sort Go.Lib in
def Tryz.laysM173_ren:Go.Shelf.Ren:=⟨fun|173=>139|246=>159|283=>170|284=>171|285=>172|286=>173|129=>183|317=>182|318=>184|319=>185|320=>186|337=>190|338=>191|n=>n,fun|2=>2|3=>3|9=>9|4=>4|171=>185|0=>0|53=>161|37=>145|5=>5|173=>188|212=>202|51=>190|20=>20|213=>203|46=>178|232=>212|233=>213|n=>n,fun|17=>1|18=>4|19=>5|n=>n⟩
theorem Tryz.laysM173 : Go.Proofs.LaysM.n173 Tryz.prog Tryz.laysM173_ren := {
 mixed:=by kernel_rfl
 f129:=Tryz.func183.trans (congrArg some (by kernel_rfl))
 f173:=Tryz.func139.trans (congrArg some (by kernel_rfl))
 f246:=Tryz.func159.trans (congrArg some (by kernel_rfl))
 f283:=Tryz.func170.trans (congrArg some (by kernel_rfl))
 f284:=Tryz.func171.trans (congrArg some (by kernel_rfl))
 f285:=Tryz.func172.trans (congrArg some (by kernel_rfl))
 f286:=Tryz.func173.trans (congrArg some (by kernel_rfl))
 f317:=Tryz.func182.trans (congrArg some (by kernel_rfl))
 f318:=Tryz.func184.trans (congrArg some (by kernel_rfl))
 f319:=Tryz.func185.trans (congrArg some (by kernel_rfl))
 f320:=Tryz.func186.trans (congrArg some (by kernel_rfl))
 f337:=Tryz.func190.trans (congrArg some (by kernel_rfl))
 f338:=Tryz.func191.trans (congrArg some (by kernel_rfl))
 t0:=Tryz.underlying0
 a0:=Tryz.isAgg0
 z0:=Tryz.sizeOf0
 v0:=Tryz.zeroValue0
 t2:=Tryz.underlying2
 a2:=Tryz.isAgg2
 z2:=Tryz.sizeOf2
 v2:=Tryz.zeroValue2
 t3:=Tryz.underlying3
 a3:=Tryz.isAgg3
 z3:=Tryz.sizeOf3
 v3:=Tryz.zeroValue3
 t4:=Tryz.underlying4
 a4:=Tryz.isAgg4
 z4:=Tryz.sizeOf4
 v4:=Tryz.zeroValue4
 t5:=Tryz.underlying5
 a5:=Tryz.isAgg5
 z5:=Tryz.sizeOf5
 v5:=Tryz.zeroValue5
 t9:=Tryz.underlying9
 a9:=Tryz.isAgg9
 z9:=Tryz.sizeOf9
 v9:=Tryz.zeroValue9
 t20:=Tryz.underlying20
 a20:=Tryz.isAgg20
 z20:=Tryz.sizeOf20
 v20:=Tryz.zeroValue20
 t37:=Tryz.underlying145
 a37:=Tryz.isAgg145
 z37:=Tryz.sizeOf145
 v37:=Tryz.zeroValue145
 t46:=Tryz.underlying178
 a46:=Tryz.isAgg178
 z46:=Tryz.sizeOf178
 v46:=Tryz.zeroValue178
 t51:=Tryz.underlying190
 a51:=Tryz.isAgg190
 z51:=Tryz.sizeOf190
 v51:=Tryz.zeroValue190
 t53:=Tryz.underlying161
 a53:=Tryz.isAgg161
 z53:=Tryz.sizeOf161
 v53:=Tryz.zeroValue161
 t171:=Tryz.underlying185
 a171:=Tryz.isAgg185
 z171:=Tryz.sizeOf185
 v171:=Tryz.zeroValue185
 t173:=Tryz.underlying188
 a173:=Tryz.isAgg188
 z173:=Tryz.sizeOf188
 v173:=Tryz.zeroValue188
 t212:=Tryz.underlying202
 a212:=Tryz.isAgg202
 z212:=Tryz.sizeOf202
 v212:=Tryz.zeroValue202
 t213:=Tryz.underlying203
 a213:=Tryz.isAgg203
 z213:=Tryz.sizeOf203
 t232:=Tryz.underlying212
 a232:=Tryz.isAgg212
 z232:=Tryz.sizeOf212
 v232:=Tryz.zeroValue212
 t233:=Tryz.underlying213
 a233:=Tryz.isAgg213
 z233:=Tryz.sizeOf213
 v233:=Tryz.zeroValue213
 g17:=by kernel_rfl
 g18:=by kernel_rfl
 g19:=by kernel_rfl
 i0:=by kernel_rfl
 i2:=by kernel_rfl
 i3:=by kernel_rfl
 i4:=by kernel_rfl
 i5:=by kernel_rfl
 i9:=by kernel_rfl
 i20:=by kernel_rfl
 i37:=by kernel_rfl
 i46:=by kernel_rfl
 i51:=by kernel_rfl
 i53:=by kernel_rfl
 i171:=by kernel_rfl
 i173:=by kernel_rfl
 i212:=by kernel_rfl
 i232:=by kernel_rfl
 i233:=by kernel_rfl
 m17:=by kernel_rfl
 m18:=by kernel_rfl
 m19:=by kernel_rfl }
open Go.RowKit Go.Sort Go.Lib in
theorem Tryz.strconv_FormatInt_10 (n : Int) (h0 : -9223372036854775808 ≤ n) (h1 : n ≤ 9223372036854775807) (w : World) (htab : Lib.TabIs Tryz.prog w "internal/strconv.uint64pow10" .u64 Lib.pow10Tab) :
 Calls Tryz.prog 139 #[.int .i64 n,.int .i64 10] w fun e w'=>e=.returned (.string ⟨(Lib.itoa n).toArray⟩)∧∃k os,w'=grow (w.drewN k) os:=Any.strconv_FormatInt_10 Tryz.laysM173 n h0 h1 w htab
open Go.RowKit Go.Sort Go.Lib in
open Go.RowKit in
open Go.RowKit in
open Go.RowKit in
def Tryz.laysC245_ren:Go.Shelf.Ren:=⟨fun|245=>168|279=>178|280=>179|281=>180|282=>181|316=>187|171=>189|205=>188|243=>192|246=>159|283=>170|284=>171|285=>172|286=>173|129=>183|317=>182|318=>184|319=>185|320=>186|337=>190|338=>191|n=>n,fun|9=>9|3=>3|75=>150|167=>195|4=>4|168=>197|210=>206|37=>145|0=>0|127=>167|145=>211|143=>209|2=>2|171=>185|53=>161|5=>5|173=>188|212=>202|51=>190|20=>20|213=>203|46=>178|232=>212|233=>213|80=>132|n=>n,fun|15=>2|16=>3|17=>1|18=>4|19=>5|n=>n⟩
theorem Tryz.laysC245 : Go.Proofs.LaysC.n245 Tryz.prog Tryz.laysC245_ren := {
 mixed:=by kernel_rfl
 f129:=Tryz.func183.trans (congrArg some (by kernel_rfl))
 f171:=Tryz.func189.trans (congrArg some (by kernel_rfl))
 f205:=Tryz.func188.trans (congrArg some (by kernel_rfl))
 f243:=Tryz.func192.trans (congrArg some (by kernel_rfl))
 f245:=Tryz.func168.trans (congrArg some (by kernel_rfl))
 f246:=Tryz.func159.trans (congrArg some (by kernel_rfl))
 f279:=Tryz.func178.trans (congrArg some (by kernel_rfl))
 f280:=Tryz.func179.trans (congrArg some (by kernel_rfl))
 f281:=Tryz.func180.trans (congrArg some (by kernel_rfl))
 f282:=Tryz.func181.trans (congrArg some (by kernel_rfl))
 f283:=Tryz.func170.trans (congrArg some (by kernel_rfl))
 f284:=Tryz.func171.trans (congrArg some (by kernel_rfl))
 f285:=Tryz.func172.trans (congrArg some (by kernel_rfl))
 f286:=Tryz.func173.trans (congrArg some (by kernel_rfl))
 f316:=Tryz.func187.trans (congrArg some (by kernel_rfl))
 f317:=Tryz.func182.trans (congrArg some (by kernel_rfl))
 f318:=Tryz.func184.trans (congrArg some (by kernel_rfl))
 f319:=Tryz.func185.trans (congrArg some (by kernel_rfl))
 f320:=Tryz.func186.trans (congrArg some (by kernel_rfl))
 f337:=Tryz.func190.trans (congrArg some (by kernel_rfl))
 f338:=Tryz.func191.trans (congrArg some (by kernel_rfl))
 t0:=Tryz.underlying0
 a0:=Tryz.isAgg0
 z0:=Tryz.sizeOf0
 v0:=Tryz.zeroValue0
 t2:=Tryz.underlying2
 a2:=Tryz.isAgg2
 z2:=Tryz.sizeOf2
 v2:=Tryz.zeroValue2
 t3:=Tryz.underlying3
 a3:=Tryz.isAgg3
 z3:=Tryz.sizeOf3
 v3:=Tryz.zeroValue3
 t4:=Tryz.underlying4
 a4:=Tryz.isAgg4
 z4:=Tryz.sizeOf4
 v4:=Tryz.zeroValue4
 t5:=Tryz.underlying5
 a5:=Tryz.isAgg5
 z5:=Tryz.sizeOf5
 v5:=Tryz.zeroValue5
 t9:=Tryz.underlying9
 a9:=Tryz.isAgg9
 z9:=Tryz.sizeOf9
 v9:=Tryz.zeroValue9
 t20:=Tryz.underlying20
 a20:=Tryz.isAgg20
 z20:=Tryz.sizeOf20
 v20:=Tryz.zeroValue20
 t37:=Tryz.underlying145
 a37:=Tryz.isAgg145
 z37:=Tryz.sizeOf145
 v37:=Tryz.zeroValue145
 t46:=Tryz.underlying178
 a46:=Tryz.isAgg178
 z46:=Tryz.sizeOf178
 v46:=Tryz.zeroValue178
 t51:=Tryz.underlying190
 a51:=Tryz.isAgg190
 z51:=Tryz.sizeOf190
 v51:=Tryz.zeroValue190
 t53:=Tryz.underlying161
 a53:=Tryz.isAgg161
 z53:=Tryz.sizeOf161
 v53:=Tryz.zeroValue161
 t75:=Tryz.underlying150
 a75:=Tryz.isAgg150
 z75:=Tryz.sizeOf150
 v75:=Tryz.zeroValue150
 t127:=Tryz.underlying167
 a127:=Tryz.isAgg167
 z127:=Tryz.sizeOf167
 v127:=Tryz.zeroValue167
 t143:=Tryz.underlying209
 a143:=Tryz.isAgg209
 z143:=Tryz.sizeOf209
 v143:=Tryz.zeroValue209
 t145:=Tryz.underlying211
 a145:=Tryz.isAgg211
 z145:=Tryz.sizeOf211
 v145:=Tryz.zeroValue211
 t167:=Tryz.underlying195
 a167:=Tryz.isAgg195
 z167:=Tryz.sizeOf195
 v167:=Tryz.zeroValue195
 t168:=Tryz.underlying197
 a168:=Tryz.isAgg197
 z168:=Tryz.sizeOf197
 v168:=Tryz.zeroValue197
 t171:=Tryz.underlying185
 a171:=Tryz.isAgg185
 z171:=Tryz.sizeOf185
 v171:=Tryz.zeroValue185
 t173:=Tryz.underlying188
 a173:=Tryz.isAgg188
 z173:=Tryz.sizeOf188
 v173:=Tryz.zeroValue188
 t210:=Tryz.underlying206
 a210:=Tryz.isAgg206
 z210:=Tryz.sizeOf206
 v210:=Tryz.zeroValue206
 t212:=Tryz.underlying202
 a212:=Tryz.isAgg202
 z212:=Tryz.sizeOf202
 v212:=Tryz.zeroValue202
 t213:=Tryz.underlying203
 a213:=Tryz.isAgg203
 z213:=Tryz.sizeOf203
 t232:=Tryz.underlying212
 a232:=Tryz.isAgg212
 z232:=Tryz.sizeOf212
 v232:=Tryz.zeroValue212
 t233:=Tryz.underlying213
 a233:=Tryz.isAgg213
 z233:=Tryz.sizeOf213
 v233:=Tryz.zeroValue213
 g15:=by kernel_rfl
 g16:=by kernel_rfl
 g17:=by kernel_rfl
 g18:=by kernel_rfl
 g19:=by kernel_rfl
 t80:=Tryz.underlying132
 a80:=Tryz.isAgg132
 z80:=Tryz.sizeOf132
 v80:=Tryz.zeroValue132
 i0:=by kernel_rfl
 i2:=by kernel_rfl
 i3:=by kernel_rfl
 i4:=by kernel_rfl
 i5:=by kernel_rfl
 i9:=by kernel_rfl
 i20:=by kernel_rfl
 i37:=by kernel_rfl
 i46:=by kernel_rfl
 i51:=by kernel_rfl
 i53:=by kernel_rfl
 i75:=by kernel_rfl
 i80:=by kernel_rfl
 i127:=by kernel_rfl
 i143:=by kernel_rfl
 i145:=by kernel_rfl
 i167:=by kernel_rfl
 i168:=by kernel_rfl
 i171:=by kernel_rfl
 i173:=by kernel_rfl
 i210:=by kernel_rfl
 i212:=by kernel_rfl
 i232:=by kernel_rfl
 i233:=by kernel_rfl
 m15:=by kernel_rfl
 m16:=by kernel_rfl
 m17:=by kernel_rfl
 m18:=by kernel_rfl
 m19:=by kernel_rfl
 c0:=by kernel_rfl
 c2:=by kernel_rfl
 c3:=by kernel_rfl
 c4:=by kernel_rfl
 c5:=by kernel_rfl
 c9:=by kernel_rfl
 c20:=by kernel_rfl
 c37:=by kernel_rfl
 c46:=by kernel_rfl
 c51:=by kernel_rfl
 c53:=by kernel_rfl
 c75:=by kernel_rfl
 c80:=by kernel_rfl
 c127:=by kernel_rfl
 c143:=by kernel_rfl
 c145:=by kernel_rfl
 c167:=by kernel_rfl
 c168:=by kernel_rfl
 c171:=by kernel_rfl
 c173:=by kernel_rfl
 c210:=by kernel_rfl
 c212:=by kernel_rfl
 c213:=by kernel_rfl
 c232:=by kernel_rfl
 c233:=by kernel_rfl }
open Go.RowKit in
theorem Tryz.strconv_toError_syntax (fn s:ByteArray) (base bits:Int) (ev:Value) (w:World) (hlim:s.size≤281474976710656) (hv:w.cell? ⟨2,0,none⟩=some ev) (hev:ev=.nilIface∨∃te pe,ev=.iface te pe) :
 Calls Tryz.prog 168 #[.string fn,.string s,.int .i64 base,.int .i64 bits,.iface 195 (.int .i64 2)] w fun e w'=>∃N,e=.returned (.iface 197 (.pointer (some ⟨N,0,none⟩)))∧w.heap.size≤N∧w'.heap[N]?=some (.cells #[.string fn,.string s,ev] 206 (0,0))∧Below w.heap.size w w':=Any.strconv_toError_syntax Tryz.laysC245 fn s base bits ev w hlim hv hev
def Tryz.lays321_ren:Go.Shelf.Ren:=⟨fun|321=>176|n=>n,fun|5=>5|n=>n,fun|n=>n⟩
theorem Tryz.lays321 : Go.Proofs.Lays.n321 Tryz.prog Tryz.lays321_ren := {
 mixed:=by kernel_rfl
 f321:=Tryz.func176.trans (congrArg some (by kernel_rfl))
 t5:=Tryz.underlying5
 a5:=Tryz.isAgg5
 z5:=Tryz.sizeOf5
 v5:=Tryz.zeroValue5 }
open Go.RowKit in
theorem Tryz.internal_strconv_lower (c:Int) (w:World) :
 Calls Tryz.prog 176 #[.int .u8 c] w fun e w'=>e=.returned (.int .u8 (bits .or .u8 c 32))∧w'=w:=Any.internal_strconv_lower Tryz.lays321 c w
def Tryz.lays287_ren:Go.Shelf.Ren:=⟨fun|287=>167|321=>176|322=>177|n=>n,fun|9=>9|3=>3|53=>161|75=>150|4=>4|167=>195|5=>5|46=>178|37=>145|0=>0|21=>21|80=>132|n=>n,fun|n=>n⟩
theorem Tryz.lays287 : Go.Proofs.Lays.n287 Tryz.prog Tryz.lays287_ren := {
 mixed:=by kernel_rfl
 f287:=Tryz.func167.trans (congrArg some (by kernel_rfl))
 f321:=Tryz.func176.trans (congrArg some (by kernel_rfl))
 f322:=Tryz.func177.trans (congrArg some (by kernel_rfl))
 t0:=Tryz.underlying0
 a0:=Tryz.isAgg0
 z0:=Tryz.sizeOf0
 v0:=Tryz.zeroValue0
 t3:=Tryz.underlying3
 a3:=Tryz.isAgg3
 z3:=Tryz.sizeOf3
 v3:=Tryz.zeroValue3
 t4:=Tryz.underlying4
 a4:=Tryz.isAgg4
 z4:=Tryz.sizeOf4
 v4:=Tryz.zeroValue4
 t5:=Tryz.underlying5
 a5:=Tryz.isAgg5
 z5:=Tryz.sizeOf5
 v5:=Tryz.zeroValue5
 t9:=Tryz.underlying9
 a9:=Tryz.isAgg9
 z9:=Tryz.sizeOf9
 v9:=Tryz.zeroValue9
 t21:=Tryz.underlying21
 a21:=Tryz.isAgg21
 z21:=Tryz.sizeOf21
 v21:=Tryz.zeroValue21
 t37:=Tryz.underlying145
 a37:=Tryz.isAgg145
 z37:=Tryz.sizeOf145
 v37:=Tryz.zeroValue145
 t46:=Tryz.underlying178
 a46:=Tryz.isAgg178
 z46:=Tryz.sizeOf178
 v46:=Tryz.zeroValue178
 t53:=Tryz.underlying161
 a53:=Tryz.isAgg161
 z53:=Tryz.sizeOf161
 v53:=Tryz.zeroValue161
 t75:=Tryz.underlying150
 a75:=Tryz.isAgg150
 z75:=Tryz.sizeOf150
 v75:=Tryz.zeroValue150
 t167:=Tryz.underlying195
 a167:=Tryz.isAgg195
 z167:=Tryz.sizeOf195
 v167:=Tryz.zeroValue195 }
open Go.RowKit in
open Go.RowKit in
open Go.RowKit in
open Go.RowKit in
open Go.RowKit in
open Go.RowKit in
theorem Tryz.strconv_toError_range (fn s:ByteArray) (base bits:Int) (ev:Value) (w:World) (hlim:s.size≤281474976710656) (hv:w.cell? ⟨3,0,none⟩=some ev) (hev:ev=.nilIface∨∃te pe,ev=.iface te pe) :
 Calls Tryz.prog 168 #[.string fn,.string s,.int .i64 base,.int .i64 bits,.iface 195 (.int .i64 1)] w fun e w'=>∃N,e=.returned (.iface 197 (.pointer (some ⟨N,0,none⟩)))∧w.heap.size≤N∧w'.heap[N]?=some (.cells #[.string fn,.string s,ev] 206 (0,0))∧Below w.heap.size w w':=Any.strconv_toError_range Tryz.laysC245 fn s base bits ev w hlim hv hev
open Go.RowKit in
theorem Tryz.internal_strconv_ParseUint_empty (base bits:Int) (w:World) :
 Calls Tryz.prog 167 #[.string ⟨#[]⟩,.int .i64 base,.int .i64 bits] w fun e w'=>e=.returned (.tuple #[.int .u64 0,.iface 195 (.int .i64 2)])∧w'=w:=Any.internal_strconv_ParseUint_empty Tryz.lays287 base bits w
open Go.RowKit in
open Go.RowKit in
open Go.RowKit in
open Go.RowKit in
open Go.RowKit in
open Go.RowKit in
open Go.RowKit in
open Go.RowKit in
open Go.RowKit in
open Go.RowKit in
open Go.RowKit in
open Go.RowKit in
open Go.RowKit in
open Go.RowKit in
open Go.RowKit in
open Go.RowKit in
open Go.RowKit in
open Go.RowKit in
def Tryz.laysC174_ren:Go.Shelf.Ren:=⟨fun|174=>154|247=>169|245=>168|287=>167|279=>178|280=>179|281=>180|282=>181|321=>176|322=>177|316=>187|171=>189|205=>188|243=>192|246=>159|283=>170|284=>171|285=>172|286=>173|129=>183|317=>182|318=>184|319=>185|320=>186|337=>190|338=>191|n=>n,fun|9=>9|3=>3|2=>2|75=>150|85=>175|4=>4|167=>195|5=>5|53=>161|175=>173|46=>178|168=>197|37=>145|0=>0|210=>206|21=>21|127=>167|145=>211|143=>209|171=>185|173=>188|212=>202|51=>190|20=>20|213=>203|232=>212|233=>213|80=>132|n=>n,fun|15=>2|16=>3|17=>1|18=>4|19=>5|n=>n⟩
theorem Tryz.laysC174 : Go.Proofs.LaysC.n174 Tryz.prog Tryz.laysC174_ren := {
 mixed:=by kernel_rfl
 f129:=Tryz.func183.trans (congrArg some (by kernel_rfl))
 f171:=Tryz.func189.trans (congrArg some (by kernel_rfl))
 f174:=Tryz.func154.trans (congrArg some (by kernel_rfl))
 f205:=Tryz.func188.trans (congrArg some (by kernel_rfl))
 f243:=Tryz.func192.trans (congrArg some (by kernel_rfl))
 f245:=Tryz.func168.trans (congrArg some (by kernel_rfl))
 f246:=Tryz.func159.trans (congrArg some (by kernel_rfl))
 f247:=Tryz.func169.trans (congrArg some (by kernel_rfl))
 f279:=Tryz.func178.trans (congrArg some (by kernel_rfl))
 f280:=Tryz.func179.trans (congrArg some (by kernel_rfl))
 f281:=Tryz.func180.trans (congrArg some (by kernel_rfl))
 f282:=Tryz.func181.trans (congrArg some (by kernel_rfl))
 f283:=Tryz.func170.trans (congrArg some (by kernel_rfl))
 f284:=Tryz.func171.trans (congrArg some (by kernel_rfl))
 f285:=Tryz.func172.trans (congrArg some (by kernel_rfl))
 f286:=Tryz.func173.trans (congrArg some (by kernel_rfl))
 f287:=Tryz.func167.trans (congrArg some (by kernel_rfl))
 f316:=Tryz.func187.trans (congrArg some (by kernel_rfl))
 f317:=Tryz.func182.trans (congrArg some (by kernel_rfl))
 f318:=Tryz.func184.trans (congrArg some (by kernel_rfl))
 f319:=Tryz.func185.trans (congrArg some (by kernel_rfl))
 f320:=Tryz.func186.trans (congrArg some (by kernel_rfl))
 f321:=Tryz.func176.trans (congrArg some (by kernel_rfl))
 f322:=Tryz.func177.trans (congrArg some (by kernel_rfl))
 f337:=Tryz.func190.trans (congrArg some (by kernel_rfl))
 f338:=Tryz.func191.trans (congrArg some (by kernel_rfl))
 t0:=Tryz.underlying0
 a0:=Tryz.isAgg0
 z0:=Tryz.sizeOf0
 v0:=Tryz.zeroValue0
 t2:=Tryz.underlying2
 a2:=Tryz.isAgg2
 z2:=Tryz.sizeOf2
 v2:=Tryz.zeroValue2
 t3:=Tryz.underlying3
 a3:=Tryz.isAgg3
 z3:=Tryz.sizeOf3
 v3:=Tryz.zeroValue3
 t4:=Tryz.underlying4
 a4:=Tryz.isAgg4
 z4:=Tryz.sizeOf4
 v4:=Tryz.zeroValue4
 t5:=Tryz.underlying5
 a5:=Tryz.isAgg5
 z5:=Tryz.sizeOf5
 v5:=Tryz.zeroValue5
 t9:=Tryz.underlying9
 a9:=Tryz.isAgg9
 z9:=Tryz.sizeOf9
 v9:=Tryz.zeroValue9
 t20:=Tryz.underlying20
 a20:=Tryz.isAgg20
 z20:=Tryz.sizeOf20
 v20:=Tryz.zeroValue20
 t21:=Tryz.underlying21
 a21:=Tryz.isAgg21
 z21:=Tryz.sizeOf21
 v21:=Tryz.zeroValue21
 t37:=Tryz.underlying145
 a37:=Tryz.isAgg145
 z37:=Tryz.sizeOf145
 v37:=Tryz.zeroValue145
 t46:=Tryz.underlying178
 a46:=Tryz.isAgg178
 z46:=Tryz.sizeOf178
 v46:=Tryz.zeroValue178
 t51:=Tryz.underlying190
 a51:=Tryz.isAgg190
 z51:=Tryz.sizeOf190
 v51:=Tryz.zeroValue190
 t53:=Tryz.underlying161
 a53:=Tryz.isAgg161
 z53:=Tryz.sizeOf161
 v53:=Tryz.zeroValue161
 t75:=Tryz.underlying150
 a75:=Tryz.isAgg150
 z75:=Tryz.sizeOf150
 v75:=Tryz.zeroValue150
 t85:=Tryz.underlying175
 a85:=Tryz.isAgg175
 z85:=Tryz.sizeOf175
 v85:=Tryz.zeroValue175
 t127:=Tryz.underlying167
 a127:=Tryz.isAgg167
 z127:=Tryz.sizeOf167
 v127:=Tryz.zeroValue167
 t143:=Tryz.underlying209
 a143:=Tryz.isAgg209
 z143:=Tryz.sizeOf209
 v143:=Tryz.zeroValue209
 t145:=Tryz.underlying211
 a145:=Tryz.isAgg211
 z145:=Tryz.sizeOf211
 v145:=Tryz.zeroValue211
 t167:=Tryz.underlying195
 a167:=Tryz.isAgg195
 z167:=Tryz.sizeOf195
 v167:=Tryz.zeroValue195
 t168:=Tryz.underlying197
 a168:=Tryz.isAgg197
 z168:=Tryz.sizeOf197
 v168:=Tryz.zeroValue197
 t171:=Tryz.underlying185
 a171:=Tryz.isAgg185
 z171:=Tryz.sizeOf185
 v171:=Tryz.zeroValue185
 t173:=Tryz.underlying188
 a173:=Tryz.isAgg188
 z173:=Tryz.sizeOf188
 v173:=Tryz.zeroValue188
 t175:=Tryz.underlying173
 a175:=Tryz.isAgg173
 z175:=Tryz.sizeOf173
 v175:=Tryz.zeroValue173
 t210:=Tryz.underlying206
 a210:=Tryz.isAgg206
 z210:=Tryz.sizeOf206
 v210:=Tryz.zeroValue206
 t212:=Tryz.underlying202
 a212:=Tryz.isAgg202
 z212:=Tryz.sizeOf202
 v212:=Tryz.zeroValue202
 t213:=Tryz.underlying203
 a213:=Tryz.isAgg203
 z213:=Tryz.sizeOf203
 t232:=Tryz.underlying212
 a232:=Tryz.isAgg212
 z232:=Tryz.sizeOf212
 v232:=Tryz.zeroValue212
 t233:=Tryz.underlying213
 a233:=Tryz.isAgg213
 z233:=Tryz.sizeOf213
 v233:=Tryz.zeroValue213
 g15:=by kernel_rfl
 g16:=by kernel_rfl
 g17:=by kernel_rfl
 g18:=by kernel_rfl
 g19:=by kernel_rfl
 t80:=Tryz.underlying132
 a80:=Tryz.isAgg132
 z80:=Tryz.sizeOf132
 v80:=Tryz.zeroValue132
 i0:=by kernel_rfl
 i2:=by kernel_rfl
 i3:=by kernel_rfl
 i4:=by kernel_rfl
 i5:=by kernel_rfl
 i9:=by kernel_rfl
 i20:=by kernel_rfl
 i21:=by kernel_rfl
 i37:=by kernel_rfl
 i46:=by kernel_rfl
 i51:=by kernel_rfl
 i53:=by kernel_rfl
 i75:=by kernel_rfl
 i80:=by kernel_rfl
 i85:=by kernel_rfl
 i127:=by kernel_rfl
 i143:=by kernel_rfl
 i145:=by kernel_rfl
 i167:=by kernel_rfl
 i168:=by kernel_rfl
 i171:=by kernel_rfl
 i173:=by kernel_rfl
 i175:=by kernel_rfl
 i210:=by kernel_rfl
 i212:=by kernel_rfl
 i232:=by kernel_rfl
 i233:=by kernel_rfl
 m15:=by kernel_rfl
 m16:=by kernel_rfl
 m17:=by kernel_rfl
 m18:=by kernel_rfl
 m19:=by kernel_rfl
 c0:=by kernel_rfl
 c2:=by kernel_rfl
 c3:=by kernel_rfl
 c4:=by kernel_rfl
 c5:=by kernel_rfl
 c9:=by kernel_rfl
 c20:=by kernel_rfl
 c21:=by kernel_rfl
 c37:=by kernel_rfl
 c46:=by kernel_rfl
 c51:=by kernel_rfl
 c53:=by kernel_rfl
 c75:=by kernel_rfl
 c80:=by kernel_rfl
 c85:=by kernel_rfl
 c127:=by kernel_rfl
 c143:=by kernel_rfl
 c145:=by kernel_rfl
 c167:=by kernel_rfl
 c168:=by kernel_rfl
 c171:=by kernel_rfl
 c173:=by kernel_rfl
 c175:=by kernel_rfl
 c210:=by kernel_rfl
 c212:=by kernel_rfl
 c213:=by kernel_rfl
 c232:=by kernel_rfl
 c233:=by kernel_rfl }
open Go.RowKit in
open Go.RowKit in
open Go.RowKit in
open Go.RowKit in
theorem Tryz.strconv_ParseInt_10_at64_ok (s:ByteArray) (hmax:s.size≤9223372036854775806) (v:Int) (h:Lib.parseIntB 64 s.data.toList=.ok v) (w:World) :
 Calls Tryz.prog 154 #[.string s,.int .i64 10,.int .i64 64] w fun e w'=>e=.returned (.tuple #[.int .i64 v,.nilIface])∧(w'=w∨∃t,w'=Lib.bytesWorld w 5 t):=Any.strconv_ParseInt_10_at64_ok Tryz.laysC174 s hmax v h w
open Go.RowKit in
open Go.RowKit in
open Go.RowKit in
open Go.RowKit in
open Go.RowKit in
open Go.RowKit in
open Go.RowKit in
open Go.RowKit in
open Go.RowKit in
open Go.RowKit in
open Go.RowKit in
open Go.RowKit in
open Go.RowKit in
open Go.RowKit in
theorem Tryz.strconv_ParseInt_10_at64_syntax_var (s : ByteArray) (hlim : s.size ≤ 281474976710656) (h : Lib.parseIntB 64 s.data.toList = .«syntax») (tp : TypeId) (p : Value) (w : World) (hvar : w.var? Tryz.prog "strconv.ErrSyntax" = some #[.iface tp p]) :
 Calls Tryz.prog 154 #[.string s,.int .i64 10,.int .i64 64] w fun e w'=>∃N,e=.returned (.tuple #[.int .i64 (0),.iface 197 (.pointer (some ⟨N,0,none⟩))])∧w.heap.size≤N∧w'.heap[N]?=some (.cells #[.string ⟨#[80,97,114,115,101,73,110,116]⟩,.string s,.iface tp p] 206 (0,0))∧Below w.heap.size w w':=Any.strconv_ParseInt_10_at64_syntax_var Tryz.laysC174 s hlim h tp p w hvar
open Go.RowKit in
theorem Tryz.strconv_ParseInt_10_at64_range_var (s : ByteArray) (hlim : s.size ≤ 281474976710656) (h : Lib.parseIntB 64 s.data.toList = .range) (tp : TypeId) (p : Value) (w : World) (hvar : w.var? Tryz.prog "strconv.ErrRange" = some #[.iface tp p]) :
 Calls Tryz.prog 154 #[.string s,.int .i64 10,.int .i64 64] w fun e w'=>∃N,e=.returned (.tuple #[.int .i64 (Lib.intSat 64 s.data.toList),.iface 197 (.pointer (some ⟨N,0,none⟩))])∧w.heap.size≤N∧w'.heap[N]?=some (.cells #[.string ⟨#[80,97,114,115,101,73,110,116]⟩,.string s,.iface tp p] 206 (0,0))∧Below w.heap.size w w':=Any.strconv_ParseInt_10_at64_range_var Tryz.laysC174 s hlim h tp p w hvar
open Go.RowKit in
open Go.RowKit in
open Go.RowKit in
open Go.RowKit in
open Go.RowKit in
open Go.RowKit in
open Go.RowKit in
open Go.RowKit in
open Go.RowKit in
open Go.RowKit in
open Go.RowKit in
open Go.RowKit in
open Go.RowKit in
open Go.RowKit in
open Go.RowKit in
open Go.RowKit in
open Go.RowKit in
open Go.RowKit in
open Go.RowKit in
open Go.RowKit in
open Go.RowKit in
open Go.RowKit in
open Go.RowKit in
open Go.RowKit in
open Go.RowKit in
open Go.RowKit in
open Go.RowKit in
open Go.RowKit in
open Go.RowKit in
open Go.RowKit in
open Go.RowKit in
open Go.RowKit Go.Lib in
def Tryz.lays206_ren:Go.Shelf.Ren:=⟨fun|206=>155|n=>n,fun|9=>9|4=>4|3=>3|n=>n,fun|n=>n⟩
open Go.RowKit Go.Lib in
def Tryz.lays99_ren:Go.Shelf.Ren:=⟨fun|99=>130|206=>155|n=>n,fun|9=>9|4=>4|3=>3|n=>n,fun|n=>n⟩
open Go.RowKit Go.Lib in
open Go.RowKit Go.Lib in
open Go.RowKit Go.Lib in
def Tryz.lays105_ren:Go.Shelf.Ren:=⟨fun|105=>141|212=>161|99=>130|165=>109|166=>110|170=>162|169=>111|263=>174|264=>175|206=>155|240=>144|241=>145|276=>163|277=>164|n=>n,fun|9=>9|3=>3|4=>4|20=>20|0=>0|46=>178|109=>179|5=>5|72=>147|76=>151|51=>190|146=>191|53=>161|148=>193|70=>144|37=>145|75=>150|127=>167|164=>181|80=>132|n=>n,fun|n=>n⟩
theorem Tryz.lays105 : Go.Proofs.Lays.n105 Tryz.prog Tryz.lays105_ren := {
 mixed:=by kernel_rfl
 f99:=Tryz.func130.trans (congrArg some (by kernel_rfl))
 f105:=Tryz.func141.trans (congrArg some (by kernel_rfl))
 f165:=Tryz.func109.trans (congrArg some (by kernel_rfl))
 f166:=Tryz.func110.trans (congrArg some (by kernel_rfl))
 f169:=Tryz.func111.trans (congrArg some (by kernel_rfl))
 f170:=Tryz.func162.trans (congrArg some (by kernel_rfl))
 f206:=Tryz.func155.trans (congrArg some (by kernel_rfl))
 f212:=Tryz.func161.trans (congrArg some (by kernel_rfl))
 f240:=Tryz.func144.trans (congrArg some (by kernel_rfl))
 f241:=Tryz.func145.trans (congrArg some (by kernel_rfl))
 f263:=Tryz.func174.trans (congrArg some (by kernel_rfl))
 f264:=Tryz.func175.trans (congrArg some (by kernel_rfl))
 f276:=Tryz.func163.trans (congrArg some (by kernel_rfl))
 f277:=Tryz.func164.trans (congrArg some (by kernel_rfl))
 t0:=Tryz.underlying0
 a0:=Tryz.isAgg0
 z0:=Tryz.sizeOf0
 v0:=Tryz.zeroValue0
 t3:=Tryz.underlying3
 a3:=Tryz.isAgg3
 z3:=Tryz.sizeOf3
 v3:=Tryz.zeroValue3
 t4:=Tryz.underlying4
 a4:=Tryz.isAgg4
 z4:=Tryz.sizeOf4
 v4:=Tryz.zeroValue4
 t5:=Tryz.underlying5
 a5:=Tryz.isAgg5
 z5:=Tryz.sizeOf5
 v5:=Tryz.zeroValue5
 t9:=Tryz.underlying9
 a9:=Tryz.isAgg9
 z9:=Tryz.sizeOf9
 v9:=Tryz.zeroValue9
 t20:=Tryz.underlying20
 a20:=Tryz.isAgg20
 z20:=Tryz.sizeOf20
 v20:=Tryz.zeroValue20
 t37:=Tryz.underlying145
 a37:=Tryz.isAgg145
 z37:=Tryz.sizeOf145
 v37:=Tryz.zeroValue145
 t46:=Tryz.underlying178
 a46:=Tryz.isAgg178
 z46:=Tryz.sizeOf178
 v46:=Tryz.zeroValue178
 t51:=Tryz.underlying190
 a51:=Tryz.isAgg190
 z51:=Tryz.sizeOf190
 v51:=Tryz.zeroValue190
 t53:=Tryz.underlying161
 a53:=Tryz.isAgg161
 z53:=Tryz.sizeOf161
 v53:=Tryz.zeroValue161
 t70:=Tryz.underlying144
 a70:=Tryz.isAgg144
 z70:=Tryz.sizeOf144
 v70:=Tryz.zeroValue144
 t72:=Tryz.underlying147
 a72:=Tryz.isAgg147
 z72:=Tryz.sizeOf147
 v72:=Tryz.zeroValue147
 t75:=Tryz.underlying150
 a75:=Tryz.isAgg150
 z75:=Tryz.sizeOf150
 v75:=Tryz.zeroValue150
 t76:=Tryz.underlying151
 a76:=Tryz.isAgg151
 z76:=Tryz.sizeOf151
 v76:=Tryz.zeroValue151
 t109:=Tryz.underlying179
 a109:=Tryz.isAgg179
 z109:=Tryz.sizeOf179
 v109:=Tryz.zeroValue179
 t127:=Tryz.underlying167
 a127:=Tryz.isAgg167
 z127:=Tryz.sizeOf167
 v127:=Tryz.zeroValue167
 t146:=Tryz.underlying191
 a146:=Tryz.isAgg191
 z146:=Tryz.sizeOf191
 v146:=Tryz.zeroValue191
 t148:=Tryz.underlying193
 a148:=Tryz.isAgg193
 z148:=Tryz.sizeOf193
 v148:=Tryz.zeroValue193
 t164:=Tryz.underlying181
 a164:=Tryz.isAgg181
 z164:=Tryz.sizeOf181
 v164:=Tryz.zeroValue181 }
theorem Tryz.Builder_Extra_105 : Builder.Extra Tryz.prog Tryz.lays105_ren := {
 sizeBuilder:=by kernel_rfl
 liesBuilder:=by kernel_rfl
 t5:=Tryz.underlying5
 a5:=Tryz.isAgg5
 z5:=Tryz.sizeOf5
 v5:=Tryz.zeroValue5
 infoByte:=by kernel_rfl
 cellsByte:=by kernel_rfl
 sizeByte:=by kernel_rfl
 neB5:=by decide }
open Go.RowKit Go.Lib in
open Go.RowKit Go.Lib in
open Go.RowKit Go.Lib in
open Go.RowKit Go.Lib in
open Go.RowKit Go.Lib in
open Go.RowKit Go.Lib in
open Go.RowKit Go.Lib in
theorem Tryz.strings_Repeat (s:ByteArray) (c:Nat) (w:World) (hc:c≤9223372036854775807) (hlen:s.size * c≤140737488355328) :
 Calls Tryz.prog 141 #[.string s,.int .i64 c] w fun e w'=>e=.returned (.string ⟨(Lib.repeatL s.data.toList c).toArray⟩)∧Below w.heap.size w w':=Any.strings_Repeat Tryz.lays105 Tryz.Builder_Extra_105 s c w hc hlen
end Go.Proofs
namespace Go.Proofs.YthebhbomlllpeaaGreatDoor.X
open Go.RowKit Go.Proofs.YthebhbomlllpeaaGreatDoorW.PrintWords Go.Proofs.YthebhbomlllpeaaGreatDoorW.PrintLast Go.Proofs.YthebhbomlllpeaaGreatDoorW.PrintMore
def lowN (c:Nat):Int:=bits .or .u8 (c:Int) 32
def hexd (c:Nat):Option Nat:=if 48≤c∧c≤57 then some (c - 48)else if 97≤lowN c∧lowN c≤102 then some ((lowN c).toNat - 87)else none
def z1z (acc:Nat):List UInt8→Lib.NumEnd Nat
 |[]=>.ok acc
 |c::r=>match hexd c.toNat with
  |none=>.syntax
  |some d=>if 1152921504606846976≤acc then .range else z1z (acc * 16+d) r
set_option maxHeartbeats 3200000 in
set_option maxRecDepth 100000 in
theorem z6g (t:ByteArray) (hne:t.size≠0) (hmax:t.size≤9223372036854775806) (w:World) :
 Calls Tryz.prog 167 #[.string t,.int .i64 16,.int .i64 64] w fun e w'=>e=.returned (Lib.uintTuple 195 (z1z 0 t.data.toList))∧w'=Lib.bytesWorld w 5 t:=by
 have hemp:t.toList.isEmpty=false:=by
  rw[←decide_eq_emptyBytes];exact decide_eq_false (fun h=>hne (by rw[h];rfl))
 have hcv:=Lib.run_convert_string_bytes (P:=Tryz.prog) w 9 145 5 t (u:=.string) Tryz.underlying9 Tryz.underlying145 Tryz.underlying5;have hB:∀j,j<t.size→(Lib.bytesWorld w 5 t).cell? ⟨w.heap.size,j,none⟩=some (.int .u8 (t.data.toList.getD j 0).toNat):=fun j hj=>Lib.bytesWorld_cell w 5 t j hj
 obtain⟨W1,hW1⟩:∃W1,W1=Lib.bytesWorld w 5 t:=⟨_,rfl⟩
 rw[←hW1]at hcv hB ⊢;clear hW1;obtain⟨bs,hL⟩:∃bs,bs=t.data.toList:=⟨_,rfl⟩
 have hLn:bs.length=t.size:=by rw[hL,Lib.size_eq]
 rw[←hL]at hB ⊢;clear hL;have hmv:IntKind.u64.wrap (IntKind.u64.wrap 18446744073709551616 - 1)=18446744073709551615:=by
  rw[IntKind.wrap_u64,IntKind.wrap_u64]
  decide
 go_enter Tryz.func167,Tryz.ntmps167;go_wp2
 go_loop [12,13,101] (fun vu vn vi=>∃(k acc:Nat) (a:Int),vu=.bool false∧vn=.int .u64 a∧vi=.int .i64 k∧k≤t.size∧Hid (a=(acc:Int)∧acc<18446744073709551616∧z1z 0 bs=z1z acc (bs.drop k)))
  (fun _ _ vi=>t.size - (intOf vi).toNat)
 case atStart=>exact⟨0,0,0,rfl,rfl,rfl,by omega,rfl,by omega,rfl⟩
 case round =>
  obtain⟨k,acc,a,rfl,rfl,rfl,hk,hh⟩:=hrel;obtain⟨ha,hacc,hdec⟩:=hh.out;clear hh;have a0:0≤a:=by omega
  have a1:a<18446744073709551616:=by omega
  by_cases hkn:k<t.size
  · have hc:=hB k hkn;have hdrop:bs.drop k=bs[k]'(by omega)::bs.drop (k+1):=List.drop_eq_getElem_cons (by omega);have hget:bs.getD k 0=bs[k]'(by omega):=by simp[List.getD,List.getElem?_eq_getElem (show k<bs.length by omega)]
    rw[hdrop]at hdec;rw[hget]at hc
    generalize bs[k]'(by omega)=c at hc hdec
    have hc256:c.toNat<256:=c.toNat_lt;clear hB hdrop hget
    by_cases hdig:48≤c.toNat∧c.toNat≤57
    · have hh:hexd c.toNat=some (c.toNat - 48):=by unfold hexd;rw[if_pos hdig]
      obtain⟨hd0,hd1⟩:=hdig
      by_cases hcut:1152921504606846976≤acc
      · have hF:z1z acc (c::bs.drop (k+1))=.range:=by simp only[z1z,hh];rw[if_pos hcut]
        rw[hF]at hdec;have icut:1152921504606846976≤a:=by omega
        clear hcut hacc hF ha hh;go_wp2
        go_ret2
        exact⟨rfl,rfl⟩
      · have hF:z1z acc (c::bs.drop (k+1))=z1z (acc * 16+(c.toNat - 48)) (bs.drop (k+1)):=by simp only[z1z,hh];rw[if_neg hcut]
        have HN:Hid (a * 16+((c.toNat:Int) - 48)=((acc * 16+(c.toNat - 48):Nat):Int)∧acc * 16+(c.toNat - 48)<18446744073709551616∧z1z 0 bs=z1z (acc * 16+(c.toNat - 48)) (bs.drop (k+1))):=Lib.hid ⟨by omega,by omega,hdec.trans hF⟩;have icut:a<1152921504606846976:=by omega
        have iov:a * 16+((c.toNat:Int) - 48)<18446744073709551616:=by omega
        clear hcut hacc hF hdec ha hh;go_wp2;refine⟨⟨k+1,acc * 16+(c.toNat - 48),a * 16+((c.toNat:Int) - 48),rfl,zA0z,zA0z,by omega,HN⟩,by simp[intOf];omega⟩
    · obtain⟨v,hv⟩:∃v:Int,v=bits .or .u8 (c.toNat:Int) 32:=⟨_,rfl⟩
      have hv0:0≤v:=hv ▸ bits_lo_u8 .or (c.toNat:Int) 32;have hv1:v≤255:=by have:=bits_hi_u8 .or (c.toNat:Int) 32;omega
      have hlow:lowN c.toNat=v:=hv.symm;have hlw:∀W,Calls Tryz.prog 176 #[.int .u8 (c.toNat:Int)] W fun e w'=>e=.returned (.int .u8 v)∧w'=W:=fun W=>hv ▸ Tryz.internal_strconv_lower (c.toNat:Int) W
      have h127:bits .or .u8 (95:Int) 32=127:=by decide
      have h95:c.toNat=95→v=127:=fun h=>by rw[hv,h];exact h127
      clear hv;have HLO:=z00.mk hlw;clear hlw;have hnd:¬(48≤(c.toNat:Int)∧(c.toNat:Int)≤57):=by omega
      by_cases hlet:97≤v∧v≤102
      · have hh:hexd c.toNat=some (v.toNat - 87):=by unfold hexd;rw[if_neg hdig,hlow,if_pos hlet]
        obtain⟨hl0,hl1⟩:=hlet
        by_cases hcut:1152921504606846976≤acc
        · have hF:z1z acc (c::bs.drop (k+1))=.range:=by simp only[z1z,hh];rw[if_pos hcut]
          rw[hF]at hdec;have icut:1152921504606846976≤a:=by omega
          clear hcut hacc hF ha hh hlow;have h95':¬c.toNat=95:=fun h=>by have:=h95 h;omega
          clear h95;rcases (by omega:(c.toNat:Int)<48∨(57<(c.toNat:Int)∧(c.toNat:Int)<95)∨95<(c.toNat:Int))with hq|⟨hq,hq'⟩|hq
          · go_wp2_with (go_at_call 176;refine(HLO.out _).mono ?_;rintro e w' ⟨rfl,rfl⟩)
            go_ret2
            exact⟨by(try rw[hdec]);rfl,rfl⟩
          · go_wp2_with (go_at_call 176;refine(HLO.out _).mono ?_;rintro e w' ⟨rfl,rfl⟩)
            go_ret2
            exact⟨by(try rw[hdec]);rfl,rfl⟩
          · go_wp2_with (go_at_call 176;refine(HLO.out _).mono ?_;rintro e w' ⟨rfl,rfl⟩)
            go_ret2
            exact⟨by(try rw[hdec]);rfl,rfl⟩
        · have hF:z1z acc (c::bs.drop (k+1))=z1z (acc * 16+(v.toNat - 87)) (bs.drop (k+1)):=by simp only[z1z,hh];rw[if_neg hcut]
          have HN:Hid (a * 16+(v - 87)=((acc * 16+(v.toNat - 87):Nat):Int)∧acc * 16+(v.toNat - 87)<18446744073709551616∧z1z 0 bs=z1z (acc * 16+(v.toNat - 87)) (bs.drop (k+1))):=Lib.hid ⟨by omega,by omega,hdec.trans hF⟩;have icut:a<1152921504606846976:=by omega
          have iov:a * 16+(v - 87)<18446744073709551616:=by omega
          clear hcut hacc hF hdec ha hh hlow;have h95':¬c.toNat=95:=fun h=>by have:=h95 h;omega
          clear h95;rcases (by omega:(c.toNat:Int)<48∨(57<(c.toNat:Int)∧(c.toNat:Int)<95)∨95<(c.toNat:Int))with hq|⟨hq,hq'⟩|hq
          · go_wp2_with (go_at_call 176;refine(HLO.out _).mono ?_;rintro e w' ⟨rfl,rfl⟩)
            refine⟨⟨k+1,acc * 16+(v.toNat - 87),a * 16+(v - 87),rfl,zA0z,zA0z,by omega,HN⟩,by simp[intOf];omega⟩
          · go_wp2_with (go_at_call 176;refine(HLO.out _).mono ?_;rintro e w' ⟨rfl,rfl⟩)
            refine⟨⟨k+1,acc * 16+(v.toNat - 87),a * 16+(v - 87),rfl,zA0z,zA0z,by omega,HN⟩,by simp[intOf];omega⟩
          · go_wp2_with (go_at_call 176;refine(HLO.out _).mono ?_;rintro e w' ⟨rfl,rfl⟩)
            refine⟨⟨k+1,acc * 16+(v.toNat - 87),a * 16+(v - 87),rfl,zA0z,zA0z,by omega,HN⟩,by simp[intOf];omega⟩
      · have hh:hexd c.toNat=none:=by unfold hexd;rw[if_neg hdig,hlow,if_neg hlet]
        have hF:z1z acc (c::bs.drop (k+1))=.syntax:=by simp only[z1z,hh]
        rw[hF]at hdec;clear hacc hF ha hh hlow
        by_cases hq:(c.toNat:Int)=95
        · rw[hq]at hc;clear h95 HLO;have HL95:z00 (∀W,Calls Tryz.prog 176 #[.int .u8 95] W fun e w'=>e=.returned (.int .u8 127)∧w'=W):=⟨fun W=>h127 ▸ Tryz.internal_strconv_lower 95 W⟩
          clear h127
          go_wp2_with (go_at_call 176;refine(HL95.out _).mono ?_;rintro e w' ⟨rfl,rfl⟩)
          all_goals go_ret2
          all_goals exact⟨by(try rw[hdec]);rfl,rfl⟩
        · rcases (by omega:(c.toNat:Int)<48∨(57<(c.toNat:Int)∧(c.toNat:Int)<95)∨95<(c.toNat:Int))with hq|⟨hq,hq'⟩|hq
          all_goals go_wp2_with (go_at_call 176;refine(HLO.out _).mono ?_;rintro e w' ⟨rfl,rfl⟩)
          all_goals go_ret2
          all_goals exact⟨by(try rw[hdec]);rfl,rfl⟩
  · have hkk:k=t.size:=by omega
    subst hkk;have hF:z1z acc (bs.drop t.size)=.ok acc:=by rw[List.drop_eq_nil_of_le (by omega)];rfl
    rw[hF]at hdec;subst ha;clear hacc hF a0 a1;go_wp2
    go_ret2
    exact⟨rfl,rfl⟩
end Go.Proofs.YthebhbomlllpeaaGreatDoor.X
namespace Go.Proofs.YthebhbomlllpeaaGreatDoor.X
open Go.RowKit Go.Proofs.YthebhbomlllpeaaGreatDoorW.PrintWords Go.Proofs.YthebhbomlllpeaaGreatDoorW.PrintLast Go.Proofs.YthebhbomlllpeaaGreatDoorW.PrintMore
attribute [local go_sem] z4g z4f z50 z4w z3s z3p z48 z4c
def z2e.f (a0:Int):Option (Bool):=if a0≥97 then(some (decide (a0≤122)))else(some false)
set_option maxHeartbeats 8000000 in
set_option maxRecDepth 100000 in
theorem z2e.calls (a0:Int) (r:Bool) (w:World) (h:z2e.f a0=some r) :
 Calls Tryz.prog 142 #[.int .u8 a0] w fun e w'=>e=.returned (.bool r)∧z0d w w':=by
 have H:(if a0≥97 then(some (decide (a0≤122)))else(some false))=some r:=h;clear h
 by_cases c2:a0≥97
 · rw[if_pos c2]at H;have c2b0:decide (97≤a0)=true:=decide_eq_true c2;clear c2;obtain rfl:=Option.some.inj H;go_enter Tryz.func142,Tryz.ntmps142;go_wp2
   go_ret
   exact⟨by first|rfl|(simp;done)|(simp[*];done),by repeat(first|exact z0d.refl _|apply z0d.step)⟩
 · rw[if_neg c2]at H;have c2b0:decide (97≤a0)=false:=decide_eq_false c2;clear c2;obtain rfl:=Option.some.inj H;go_enter Tryz.func142,Tryz.ntmps142;go_wp2
   go_ret
   exact⟨by first|rfl|(simp;done)|(simp[*];done),by repeat(first|exact z0d.refl _|apply z0d.step)⟩
def z43.f (a0:Int):Option (Bool):=(z2e.f a0).bind fun t101=>(if t101=true then(some true)else(if a0≥48 then(if a0≤57 then(some true)else(some (a0==95)))else(some (a0==95))))
set_option maxHeartbeats 8000000 in
set_option maxRecDepth 100000 in
theorem z43.calls (a0:Int) (r:Bool) (w:World) (h:z43.f a0=some r) :
 Calls Tryz.prog 143 #[.int .u8 a0] w fun e w'=>e=.returned (.bool r)∧z0d w w':=by
 have H:((z2e.f a0).bind fun t101=>(if t101=true then(some true)else(if a0≥48 then(if a0≤57 then(some true)else(some (a0==95)))else(some (a0==95)))))=some r:=h;clear h;replace H:=Option.bind_eq_some_iff.mp H;obtain⟨t101,A20,H⟩:=H;replace H:(if t101=true then(some true)else(if a0≥48 then(if a0≤57 then(some true)else(some (a0==95)))else(some (a0==95))))=some r:=H;have A2:=z00.mk A20;clear A20
 by_cases c3:t101=true
 · subst c3;have H1:(some true)=some r:=by rw[if_pos rfl]at H;exact H
   clear H;have H:=H1;clear H1;obtain rfl:=Option.some.inj H;go_enter Tryz.func143,Tryz.ntmps143
   go_wp2_with (first|((with_reducible refine z0t (f:=142) rfl ?_);refine z27 (some 4) rfl rfl Tryz.func142 (by kernel_rfl) rfl #[.int .u8 a0] rfl zA02 ?_;(with_reducible refine(z2e.calls a0 true _ A2.out).mono ?_);rintro e w' ⟨rfl,⟨nd,rfl⟩⟩;refine⟨_,rfl,?_⟩))
   go_ret
   exact⟨by first|rfl|(simp;done)|(simp[*];done),by repeat(first|exact z0d.refl _|apply z0d.step)⟩
 · replace c3:=Bool.eq_false_iff.mpr c3;subst c3;have H1:(if a0≥48 then(if a0≤57 then(some true)else(some (a0==95)))else(some (a0==95)))=some r:=by rw[if_neg (show ¬(false=true) by decide)]at H;exact H
   clear H;have H:=H1;clear H1
   by_cases c4:a0≥48
   · rw[if_pos c4]at H;have c4b0:decide (48≤a0)=true:=decide_eq_true c4;clear c4
     by_cases c5:a0≤57
     · rw[if_pos c5]at H;have c5b0:decide (a0≤57)=true:=decide_eq_true c5;clear c5;obtain rfl:=Option.some.inj H;go_enter Tryz.func143,Tryz.ntmps143
       go_wp2_with (first|((with_reducible refine z0t (f:=142) rfl ?_);refine z27 (some 4) rfl rfl Tryz.func142 (by kernel_rfl) rfl #[.int .u8 a0] rfl zA02 ?_;(with_reducible refine(z2e.calls a0 false _ A2.out).mono ?_);rintro e w' ⟨rfl,⟨nd,rfl⟩⟩;refine⟨_,rfl,?_⟩))
       go_ret
       exact⟨by first|rfl|(simp;done)|(simp[*];done),by repeat(first|exact z0d.refl _|apply z0d.step)⟩
     · rw[if_neg c5]at H;have c5b0:decide (a0≤57)=false:=decide_eq_false c5;clear c5;obtain rfl:=Option.some.inj H;go_enter Tryz.func143,Tryz.ntmps143
       go_wp2_with (first|((with_reducible refine z0t (f:=142) rfl ?_);refine z27 (some 4) rfl rfl Tryz.func142 (by kernel_rfl) rfl #[.int .u8 a0] rfl zA02 ?_;(with_reducible refine(z2e.calls a0 false _ A2.out).mono ?_);rintro e w' ⟨rfl,⟨nd,rfl⟩⟩;refine⟨_,rfl,?_⟩))
       go_ret
       exact⟨by first|rfl|(simp;done)|(simp[*];done),by repeat(first|exact z0d.refl _|apply z0d.step)⟩
   · rw[if_neg c4]at H;have c4b0:decide (48≤a0)=false:=decide_eq_false c4;clear c4;obtain rfl:=Option.some.inj H;go_enter Tryz.func143,Tryz.ntmps143
     go_wp2_with (first|((with_reducible refine z0t (f:=142) rfl ?_);refine z27 (some 4) rfl rfl Tryz.func142 (by kernel_rfl) rfl #[.int .u8 a0] rfl zA02 ?_;(with_reducible refine(z2e.calls a0 false _ A2.out).mono ?_);rintro e w' ⟨rfl,⟨nd,rfl⟩⟩;refine⟨_,rfl,?_⟩))
     go_ret
     exact⟨by first|rfl|(simp;done)|(simp[*];done),by repeat(first|exact z0d.refl _|apply z0d.step)⟩
mutual
def z15.j0:Nat→ByteArray→Bool→Option (Bool)
 |0,_,_=>none
 |k+1,x0,x17=>if x17=true then(some false)else(z15.l0 k x0 true (x0.size:Int) 0)
def z15.l0:Nat→ByteArray→Bool→Int→Int→Option (Bool)
 |0,_,_,_,_=>none
 |k+1,x0,x3,x19,x20=>if x20<x19 then(if 0≤x20 then(if x20<(x0.size:Int)then((z43.f (bt x0 x20)).bind fun t103=>(if t103=true then(z15.l0 k x0 t103 x19 (wrap64 (x20+1)))else(some t103)))else(none))else(none))else(some x3)
end
def z15.f (k:Nat) (a0:ByteArray):Option (Bool):=if a0.toList=([]:List UInt8)then(z15.j0 k a0 true)else(if(a0.size:Int)>40 then(z15.j0 k a0 true)else(if 0<(a0.size:Int)then((z2e.f (bt a0 0)).bind fun t102=>(z15.j0 k a0 (!t102)))else(none)))
set_option maxHeartbeats 8000000 in
set_option maxRecDepth 100000 in
theorem z15.calls (k:Nat) (a0:ByteArray) (r:Bool) (w:World) (h:z15.f k a0=some r) :
 Calls Tryz.prog 108 #[.string a0] w fun e w'=>e=.returned (.bool r)∧z0d w w':=by
 have H:(if a0.toList=([]:List UInt8)then(z15.j0 k a0 true)else(if(a0.size:Int)>40 then(z15.j0 k a0 true)else(if 0<(a0.size:Int)then((z2e.f (bt a0 0)).bind fun t102=>(z15.j0 k a0 (!t102)))else(none))))=some r:=h;clear h;have HC2:=z00.mk H;clear H;go_enter Tryz.func108,Tryz.ntmps108;go_wp2
 (try go_step3)
 go_upto_region 1 with (fail)
 go_cut [17] (fun v17 wc=>∃(kq:Nat) (x17_1:Bool),v17=.bool x17_1∧z00 (z15.j0 kq a0 x17_1=some r)∧z00 (kq≤k)∧z0d w wc)
 case first =>
  have H:=HC2.out;clear HC2
  by_cases c3:a0.toList=([]:List UInt8)
  · rw[if_pos c3]at H;have c3b0:(a0.toList==([]:List UInt8))=true:=beq_iff_eq.mpr c3;have c3b1:(a0.toList !=([]:List UInt8))=false:=bne_eq_false_iff_eq.mpr c3;clear c3
    (first|rw[c3b0]|(simp only[i64_w,i32_w];rw[c3b0])|skip)
    have H':=z00.mk H;clear H;go_wp2
    (try(go_step3;go_wp2))
    go_meet
    case rel=>exact⟨_,(true),zA06,H',⟨zA0m⟩,by repeat(first|exact z0d.refl _|apply z0d.step)⟩
  · rw[if_neg c3]at H;have c3b0:(a0.toList==([]:List UInt8))=false:=beq_eq_false_iff_ne.mpr c3;have c3b1:(a0.toList !=([]:List UInt8))=true:=bne_iff_ne.mpr c3
    (first|rw[c3b0]|(simp only[i64_w,i32_w];rw[c3b0])|skip)
    by_cases c4:(a0.size:Int)>40
    · rw[if_pos c4]at H;have c4b0:decide (40<(a0.size:Int))=true:=decide_eq_true c4;have c4b1:decide (40<a0.size)=true:=decide_eq_true (by omega);clear c4;have H':=z00.mk H;clear H;go_wp2
      (try(go_step3;go_wp2))
      go_meet
      case rel=>exact⟨_,(true),zA06,H',⟨zA0m⟩,by repeat(first|exact z0d.refl _|apply z0d.step)⟩
    · rw[if_neg c4]at H;have c4b0:decide (40<(a0.size:Int))=false:=decide_eq_false c4;have c4b1:decide (40<a0.size)=false:=decide_eq_false (by omega);clear c4
      by_cases c5:0<(a0.size:Int)
      · rw[if_pos c5]at H;have c5b0:decide (0<(a0.size:Int))=true:=decide_eq_true c5;have c5b1:decide (0<a0.size)=true:=decide_eq_true (by omega);clear c5;replace H:=Option.bind_eq_some_iff.mp H;obtain⟨t102,A70,H⟩:=H;replace H:(z15.j0 k a0 (!t102))=some r:=H;have A7:=z00.mk A70;clear A70;have H':=z00.mk H;clear H;have p6:0≤(0:Int):=(by omega)
        have q6:0<a0.size:=zA0g;have hx6:∀h:0<a0.size,((a0[0]'h).toNat:Int)=bt a0 0:=bt_at a0 0;clear p6;have qi6:(0<(a0.size:Int))=True:=eq_true (of_decide_eq_true zA01);replace q6:=eq_true q6
        go_wp2_with (first|(go_at_call 142;(with_reducible refine(z2e.calls (bt a0 0) t102 _ A7.out).mono ?_);rintro e w' ⟨rfl,⟨nd,rfl⟩⟩))
        (try(go_step3;go_wp2))
        go_meet
        case rel=>exact⟨_,(!t102),zA06,H',⟨zA0m⟩,by repeat(first|exact z0d.refl _|apply z0d.step)⟩
      · rw[if_neg c5]at H;exact absurd H (by simp)
 case rest =>
  clear HC2;(try clear c1);(try clear p2);(try clear c3);(try clear c3b0);(try clear c3b1);(try clear c4);(try clear c4b0);(try clear c4b1);(try clear c5);(try clear c5b0);(try clear c5b1);(try clear p6);(try clear q6);(try clear hx6);(try clear qi6);(try clear p6);(try clear q6);obtain⟨kq,x17_1,rfl,HA,HJ1,⟨mc1,rfl⟩⟩:=hcut
  cases kq with
  |zero=>exact absurd HA.out (by simp[z15.j0])
  |succ kj1 =>
   have H:=HA.out;clear HA;simp only[z15.j0]at H
   by_cases c8:x17_1=true
   · subst c8;have H1:(some false)=some r:=by rw[if_pos rfl]at H;exact H
     clear H;have H:=H1;clear H1;obtain rfl:=Option.some.inj H;go_wp2
     (try(go_step3;go_wp2))
     (try rw[Exit.noGoto_ret])
     go_ret
     exact⟨by first|rfl|(simp;done)|(simp[*];done),by repeat(first|exact z0d.refl _|apply z0d.step)⟩
   · replace c8:=Bool.eq_false_iff.mpr c8;subst c8;have H1:(z15.l0 kj1 a0 true (a0.size:Int) 0)=some r:=by rw[if_neg (show ¬(false=true) by decide)]at H;exact H
     clear H;have H:=H1;clear H1;have H':=z00.mk H;clear H;go_wp2
     (try(go_step3;go_wp2))
     go_loopg [3,20] kj1 (fun kq v3 v20 w'=>∃(x3_2:Bool) (x20_2:Int),v3=.bool x3_2∧v20=.int .i64 x20_2∧z00 (z15.l0 kq a0 x3_2 (a0.size:Int) x20_2=some r)∧z00 (kq≤kj1)∧z0d w w')
     case atStart=>exact⟨(true),(0),zA06,zA06,H',⟨Nat.le_refl _⟩,by repeat(first|exact z0d.refl _|apply z0d.step)⟩
     case round =>
      clear H';(try clear c1);(try clear p2);(try clear c3);(try clear c3b0);(try clear c3b1);(try clear c4);(try clear c4b0);(try clear c4b1);(try clear c5);(try clear c5b0);(try clear c5b1);(try clear p6);(try clear q6);(try clear hx6);(try clear qi6);(try clear c8);(try clear p2);(try clear p6);(try clear q6);obtain⟨x3_2,x20_2,rfl,rfl,HA,HK2,⟨m2,rfl⟩⟩:=hrel
      cases gk with
      |zero=>exact absurd HA.out (by simp[z15.l0])
      |succ k2 =>
       have H:=HA.out;clear HA;simp only[z15.l0]at H
       by_cases c9:x20_2<(a0.size:Int)
       · rw[if_pos c9]at H;have c9b0:decide (x20_2<(a0.size:Int))=true:=decide_eq_true c9;clear c9
         by_cases c10:0≤x20_2
         · rw[if_pos c10]at H;have c10b0:decide (0≤x20_2)=true:=decide_eq_true c10;clear c10
           by_cases c11:x20_2<(a0.size:Int)
           · rw[if_pos c11]at H;have c11b0:decide (x20_2<(a0.size:Int))=true:=decide_eq_true c11;clear c11;replace H:=Option.bind_eq_some_iff.mp H;obtain⟨t103,A130,H⟩:=H;replace H:(if t103=true then(z15.l0 k2 a0 t103 (a0.size:Int) (wrap64 (x20_2+1)))else(some t103))=some r:=H;have A13:=z00.mk A130;clear A130
             by_cases c14:t103=true
             · subst c14;have H1:(z15.l0 k2 a0 true (a0.size:Int) (wrap64 (x20_2+1)))=some r:=by rw[if_pos rfl]at H;exact H
               clear H;have H:=H1;clear H1;have H':=z00.mk H;clear H;have p12:0≤(x20_2:Int):=of_decide_eq_true zA01;have q12:x20_2<(a0.size:Int):=of_decide_eq_true zA01;have hx12:=bt_at a0 x20_2;replace p12:=eq_true p12;replace q12:=eq_true q12
               go_wp2_with (first|((with_reducible refine z0t (f:=143) rfl ?_);refine z27 (some 26) rfl rfl Tryz.func143 (by kernel_rfl) rfl #[.int .u8 (bt a0 x20_2)] rfl zA02 ?_;(with_reducible refine(z43.calls (bt a0 x20_2) true _ A13.out).mono ?_);rintro e w' ⟨rfl,⟨nd,rfl⟩⟩;refine⟨_,rfl,?_⟩))
               (try(go_step3;go_wp2))
               go_roundg k2
               case measure=>have:=HJ1.out;have:=HK2.out;omega
               case rel=>exact⟨(true),(wrap64 (x20_2+1)),zA06,zA06,H',⟨by have:=HJ1.out;have:=HK2.out;omega⟩,by repeat(first|exact z0d.refl _|apply z0d.step)⟩
             · replace c14:=Bool.eq_false_iff.mpr c14;subst c14;have H1:(some false)=some r:=by rw[if_neg (show ¬(false=true) by decide)]at H;exact H
               clear H;have H:=H1;clear H1;obtain rfl:=Option.some.inj H;have p12:0≤(x20_2:Int):=of_decide_eq_true zA01;have q12:x20_2<(a0.size:Int):=of_decide_eq_true zA01;have hx12:=bt_at a0 x20_2;replace p12:=eq_true p12;replace q12:=eq_true q12
               go_wp2_with (first|((with_reducible refine z0t (f:=143) rfl ?_);refine z27 (some 26) rfl rfl Tryz.func143 (by kernel_rfl) rfl #[.int .u8 (bt a0 x20_2)] rfl zA02 ?_;(with_reducible refine(z43.calls (bt a0 x20_2) false _ A13.out).mono ?_);rintro e w' ⟨rfl,⟨nd,rfl⟩⟩;refine⟨_,rfl,?_⟩))
               (try(go_step3;go_wp2))
               (try rw[Exit.noGoto_ret])
               go_ret
               exact⟨by first|rfl|(simp;done)|(simp[*];done),by repeat(first|exact z0d.refl _|apply z0d.step)⟩
           · rw[if_neg c11]at H;exact absurd H (by simp)
         · rw[if_neg c10]at H;exact absurd H (by simp)
       · rw[if_neg c9]at H;have c9b0:decide (x20_2<(a0.size:Int))=false:=decide_eq_false c9;clear c9;obtain rfl:=Option.some.inj H;go_wp2
         (try(go_step3;go_wp2))
         (try rw[Exit.noGoto_ret])
         go_ret
         exact⟨by first|rfl|(simp;done)|(simp[*];done),by repeat(first|exact z0d.refl _|apply z0d.step)⟩
def flo_Right.f (a0:Int):Option (Bool):=if a0=9221120237041090561 then(some true)else(if a0≥(-9218868437227405313)then(some (decide (a0≤9218868437227405312)))else(some false))
set_option maxHeartbeats 8000000 in
set_option maxRecDepth 100000 in
theorem flo_Right.calls (a0:Int) (r:Bool) (w:World) (h:flo_Right.f a0=some r) :
 Calls Tryz.prog 158 #[.int .i64 a0] w fun e w'=>e=.returned (.bool r)∧z0d w w':=by
 have H:(if a0=9221120237041090561 then(some true)else(if a0≥(-9218868437227405313)then(some (decide (a0≤9218868437227405312)))else(some false)))=some r:=h;clear h
 by_cases c2:a0=9221120237041090561
 · rw[if_pos c2]at H;have c2b0:(a0==9221120237041090561)=true:=beq_iff_eq.mpr c2;have c2b1:(a0 !=9221120237041090561)=false:=bne_eq_false_iff_eq.mpr c2;clear c2;obtain rfl:=Option.some.inj H;go_enter Tryz.func158,Tryz.ntmps158;go_wp2
   go_ret
   exact⟨by first|rfl|(simp;done)|(simp[*];done),by repeat(first|exact z0d.refl _|apply z0d.step)⟩
 · rw[if_neg c2]at H;have c2b0:(a0==9221120237041090561)=false:=beq_eq_false_iff_ne.mpr c2;have c2b1:(a0 !=9221120237041090561)=true:=bne_iff_ne.mpr c2
   by_cases c3:a0≥(-9218868437227405313)
   · rw[if_pos c3]at H;have c3b0:decide ((-9218868437227405313)≤a0)=true:=decide_eq_true c3;clear c3;obtain rfl:=Option.some.inj H;go_enter Tryz.func158,Tryz.ntmps158;go_wp2
     go_ret
     exact⟨by first|rfl|(simp;done)|(simp[*];done),by repeat(first|exact z0d.refl _|apply z0d.step)⟩
   · rw[if_neg c3]at H;have c3b0:decide ((-9218868437227405313)≤a0)=false:=decide_eq_false c3;clear c3;obtain rfl:=Option.some.inj H;go_enter Tryz.func158,Tryz.ntmps158;go_wp2
     go_ret
     exact⟨by first|rfl|(simp;done)|(simp[*];done),by repeat(first|exact z0d.refl _|apply z0d.step)⟩
def z4x.f (k:Nat) (a0_0:Int) (a0_1:Int) (a0_2:ByteArray):Option (Bool):=if a0_0=1 then(some (a0_2.toList==([]:List UInt8)))else(if a0_0=2 then(if a0_2.toList=([]:List UInt8)then((flo_Right.f a0_1).bind fun t105=>(some t105))else(some false))else(if a0_0=3 then(if a0_1=0 then((z15.f k a0_2).bind fun t106=>(some t106))else(some false))else(some false)))
set_option maxHeartbeats 8000000 in
set_option maxRecDepth 100000 in
theorem z4x.calls (k:Nat) (a0_0:Int) (a0_1:Int) (a0_2:ByteArray) (r:Bool) (w:World) (h:z4x.f k a0_0 a0_1 a0_2=some r) :
 Calls Tryz.prog 138 #[.agg #[.int .i64 a0_0,.int .i64 a0_1,.string a0_2]] w fun e w'=>e=.returned (.bool r)∧Below w.heap.size w w':=by
 have hu58:=Tryz.underlying58;have HB:=z00.mk (Below.refl w.heap.size w);have H:(if a0_0=1 then(some (a0_2.toList==([]:List UInt8)))else(if a0_0=2 then(if a0_2.toList=([]:List UInt8)then((flo_Right.f a0_1).bind fun t105=>(some t105))else(some false))else(if a0_0=3 then(if a0_1=0 then((z15.f k a0_2).bind fun t106=>(some t106))else(some false))else(some false))))=some r:=h;clear h
 by_cases c2:a0_0=1
 · rw[if_pos c2]at H;have c2b0:(a0_0==1)=true:=beq_iff_eq.mpr c2;have c2b1:(a0_0 !=1)=false:=bne_eq_false_iff_eq.mpr c2;clear c2;obtain rfl:=Option.some.inj H;go_enter Tryz.func138,Tryz.ntmps138
   go_wp2_with (first|((with_reducible refine z19 (N:=1) rfl ?_);refine z17 ?hg (N:=1) ?hd (cs:=#[.int .i64 a0_0,.int .i64 a0_1,.string a0_2]) (t:=58) ?hr ?_;(case hd=>rfl);(case hg=>rfl);(case hr=>first|(go_simp;done)|(go_simp;rfl));intro gb104 hg w3 hbox hb;have n0_:=z00.mk (z0g zA00 hb);have n1_:=z00.mk (hbox);have n2_:=z00.mk ((by rw[hg];exact(z0j zA00):w.heap.size≤gb104));have n3_:=z00.mk ((by rw[hg];exact(z0j zA00):w.heap.size≤gb104));clear HB;have HB:=n0_;have BK104:=n1_;have GW104:=n2_;have GE104:=n3_;clear n0_ n1_ n2_ n3_;clear hb hbox hg;have hcz4_0:w3.cell? ⟨gb104,0,none⟩=some (.int .i64 a0_0):=(z01 BK104.out 0).trans rfl;have hcz4_1:w3.cell? ⟨gb104,1,none⟩=some (.int .i64 a0_1):=(z01 BK104.out 1).trans rfl;have hcz4_2:w3.cell? ⟨gb104,2,none⟩=some (.string a0_2):=(z01 BK104.out 2).trans rfl;have hfz4_0:=z03 BK104.out 0;have hfz4_1:=z03 BK104.out 1;have hfz4_2:=z03 BK104.out 2))
   go_ret
   exact⟨by first|rfl|(simp[z0q,z0p] <;> rfl)|(simp[*,z0q,z0p] <;> rfl),by repeat(first|(with_reducible first|exact HB.out|apply z04|apply z02|apply z05|refine z08 ?_ GE104.out)|exact HB.out)⟩
 · rw[if_neg c2]at H;have c2b0:(a0_0==1)=false:=beq_eq_false_iff_ne.mpr c2;have c2b1:(a0_0 !=1)=true:=bne_iff_ne.mpr c2
   by_cases c5:a0_0=2
   · rw[if_pos c5]at H;have c5b0:(a0_0==2)=true:=beq_iff_eq.mpr c5;have c5b1:(a0_0 !=2)=false:=bne_eq_false_iff_eq.mpr c5;clear c5
     by_cases c6:a0_2.toList=([]:List UInt8)
     · rw[if_pos c6]at H;have c6b0:(a0_2.toList==([]:List UInt8))=true:=beq_iff_eq.mpr c6;have c6b1:(a0_2.toList !=([]:List UInt8))=false:=bne_eq_false_iff_eq.mpr c6;clear c6;replace H:=Option.bind_eq_some_iff.mp H;obtain⟨t105,A70,H⟩:=H;replace H:(some t105)=some r:=H;have A7:=z00.mk A70;clear A70;obtain rfl:=Option.some.inj H;go_enter Tryz.func138,Tryz.ntmps138
       go_wp2_with (first|((with_reducible refine z19 (N:=1) rfl ?_);refine z17 ?hg (N:=1) ?hd (cs:=#[.int .i64 a0_0,.int .i64 a0_1,.string a0_2]) (t:=58) ?hr ?_;(case hd=>rfl);(case hg=>rfl);(case hr=>first|(go_simp;done)|(go_simp;rfl));intro gb104 hg w8 hbox hb;have n0_:=z00.mk (z0g zA00 hb);have n1_:=z00.mk (hbox);have n2_:=z00.mk ((by rw[hg];exact(z0j zA00):w.heap.size≤gb104));have n3_:=z00.mk ((by rw[hg];exact(z0j zA00):w.heap.size≤gb104));clear HB;have HB:=n0_;have BK104:=n1_;have GW104:=n2_;have GE104:=n3_;clear n0_ n1_ n2_ n3_;clear hb hbox hg;have hcz9_0:w8.cell? ⟨gb104,0,none⟩=some (.int .i64 a0_0):=(z01 BK104.out 0).trans rfl;have hcz9_1:w8.cell? ⟨gb104,1,none⟩=some (.int .i64 a0_1):=(z01 BK104.out 1).trans rfl;have hcz9_2:w8.cell? ⟨gb104,2,none⟩=some (.string a0_2):=(z01 BK104.out 2).trans rfl;have hfz9_0:=z03 BK104.out 0;have hfz9_1:=z03 BK104.out 1;have hfz9_2:=z03 BK104.out 2)|(go_at_call 158;(with_reducible refine(flo_Right.calls a0_1 t105 _ A7.out).mono ?_);rintro e w' ⟨rfl,⟨nd,rfl⟩⟩))
       go_ret
       exact⟨by first|rfl|(simp[z0q,z0p] <;> rfl)|(simp[*,z0q,z0p] <;> rfl),by repeat(first|(with_reducible first|exact HB.out|apply z04|apply z02|apply z05|refine z08 ?_ GE104.out)|exact HB.out)⟩
     · rw[if_neg c6]at H;have c6b0:(a0_2.toList==([]:List UInt8))=false:=beq_eq_false_iff_ne.mpr c6;have c6b1:(a0_2.toList !=([]:List UInt8))=true:=bne_iff_ne.mpr c6;obtain rfl:=Option.some.inj H;go_enter Tryz.func138,Tryz.ntmps138
       go_wp2_with (first|((with_reducible refine z19 (N:=1) rfl ?_);refine z17 ?hg (N:=1) ?hd (cs:=#[.int .i64 a0_0,.int .i64 a0_1,.string a0_2]) (t:=58) ?hr ?_;(case hd=>rfl);(case hg=>rfl);(case hr=>first|(go_simp;done)|(go_simp;rfl));intro gb104 hg w10 hbox hb;have n0_:=z00.mk (z0g zA00 hb);have n1_:=z00.mk (hbox);have n2_:=z00.mk ((by rw[hg];exact(z0j zA00):w.heap.size≤gb104));have n3_:=z00.mk ((by rw[hg];exact(z0j zA00):w.heap.size≤gb104));clear HB;have HB:=n0_;have BK104:=n1_;have GW104:=n2_;have GE104:=n3_;clear n0_ n1_ n2_ n3_;clear hb hbox hg;have hcz11_0:w10.cell? ⟨gb104,0,none⟩=some (.int .i64 a0_0):=(z01 BK104.out 0).trans rfl;have hcz11_1:w10.cell? ⟨gb104,1,none⟩=some (.int .i64 a0_1):=(z01 BK104.out 1).trans rfl;have hcz11_2:w10.cell? ⟨gb104,2,none⟩=some (.string a0_2):=(z01 BK104.out 2).trans rfl;have hfz11_0:=z03 BK104.out 0;have hfz11_1:=z03 BK104.out 1;have hfz11_2:=z03 BK104.out 2))
       go_ret
       exact⟨by first|rfl|(simp[z0q,z0p] <;> rfl)|(simp[*,z0q,z0p] <;> rfl),by repeat(first|(with_reducible first|exact HB.out|apply z04|apply z02|apply z05|refine z08 ?_ GE104.out)|exact HB.out)⟩
   · rw[if_neg c5]at H;have c5b0:(a0_0==2)=false:=beq_eq_false_iff_ne.mpr c5;have c5b1:(a0_0 !=2)=true:=bne_iff_ne.mpr c5
     by_cases c12:a0_0=3
     · rw[if_pos c12]at H;have c12b0:(a0_0==3)=true:=beq_iff_eq.mpr c12;have c12b1:(a0_0 !=3)=false:=bne_eq_false_iff_eq.mpr c12;clear c12
       by_cases c13:a0_1=0
       · rw[if_pos c13]at H;have c13b0:(a0_1==0)=true:=beq_iff_eq.mpr c13;have c13b1:(a0_1 !=0)=false:=bne_eq_false_iff_eq.mpr c13;clear c13;replace H:=Option.bind_eq_some_iff.mp H;obtain⟨t106,A140,H⟩:=H;replace H:(some t106)=some r:=H;have A14:=z00.mk A140;clear A140;obtain rfl:=Option.some.inj H;go_enter Tryz.func138,Tryz.ntmps138
         go_wp2_with (first|((with_reducible refine z19 (N:=1) rfl ?_);refine z17 ?hg (N:=1) ?hd (cs:=#[.int .i64 a0_0,.int .i64 a0_1,.string a0_2]) (t:=58) ?hr ?_;(case hd=>rfl);(case hg=>rfl);(case hr=>first|(go_simp;done)|(go_simp;rfl));intro gb104 hg w15 hbox hb;have n0_:=z00.mk (z0g zA00 hb);have n1_:=z00.mk (hbox);have n2_:=z00.mk ((by rw[hg];exact(z0j zA00):w.heap.size≤gb104));have n3_:=z00.mk ((by rw[hg];exact(z0j zA00):w.heap.size≤gb104));clear HB;have HB:=n0_;have BK104:=n1_;have GW104:=n2_;have GE104:=n3_;clear n0_ n1_ n2_ n3_;clear hb hbox hg;have hcz16_0:w15.cell? ⟨gb104,0,none⟩=some (.int .i64 a0_0):=(z01 BK104.out 0).trans rfl;have hcz16_1:w15.cell? ⟨gb104,1,none⟩=some (.int .i64 a0_1):=(z01 BK104.out 1).trans rfl;have hcz16_2:w15.cell? ⟨gb104,2,none⟩=some (.string a0_2):=(z01 BK104.out 2).trans rfl;have hfz16_0:=z03 BK104.out 0;have hfz16_1:=z03 BK104.out 1;have hfz16_2:=z03 BK104.out 2)|(go_at_call 108;(with_reducible refine(z15.calls k a0_2 t106 _ A14.out).mono ?_);rintro e w' ⟨rfl,⟨nd,rfl⟩⟩))
         go_ret
         exact⟨by first|rfl|(simp[z0q,z0p] <;> rfl)|(simp[*,z0q,z0p] <;> rfl),by repeat(first|(with_reducible first|exact HB.out|apply z04|apply z02|apply z05|refine z08 ?_ GE104.out)|exact HB.out)⟩
       · rw[if_neg c13]at H;have c13b0:(a0_1==0)=false:=beq_eq_false_iff_ne.mpr c13;have c13b1:(a0_1 !=0)=true:=bne_iff_ne.mpr c13;obtain rfl:=Option.some.inj H;go_enter Tryz.func138,Tryz.ntmps138
         go_wp2_with (first|((with_reducible refine z19 (N:=1) rfl ?_);refine z17 ?hg (N:=1) ?hd (cs:=#[.int .i64 a0_0,.int .i64 a0_1,.string a0_2]) (t:=58) ?hr ?_;(case hd=>rfl);(case hg=>rfl);(case hr=>first|(go_simp;done)|(go_simp;rfl));intro gb104 hg w17 hbox hb;have n0_:=z00.mk (z0g zA00 hb);have n1_:=z00.mk (hbox);have n2_:=z00.mk ((by rw[hg];exact(z0j zA00):w.heap.size≤gb104));have n3_:=z00.mk ((by rw[hg];exact(z0j zA00):w.heap.size≤gb104));clear HB;have HB:=n0_;have BK104:=n1_;have GW104:=n2_;have GE104:=n3_;clear n0_ n1_ n2_ n3_;clear hb hbox hg;have hcz18_0:w17.cell? ⟨gb104,0,none⟩=some (.int .i64 a0_0):=(z01 BK104.out 0).trans rfl;have hcz18_1:w17.cell? ⟨gb104,1,none⟩=some (.int .i64 a0_1):=(z01 BK104.out 1).trans rfl;have hcz18_2:w17.cell? ⟨gb104,2,none⟩=some (.string a0_2):=(z01 BK104.out 2).trans rfl;have hfz18_0:=z03 BK104.out 0;have hfz18_1:=z03 BK104.out 1;have hfz18_2:=z03 BK104.out 2))
         go_ret
         exact⟨by first|rfl|(simp[z0q,z0p] <;> rfl)|(simp[*,z0q,z0p] <;> rfl),by repeat(first|(with_reducible first|exact HB.out|apply z04|apply z02|apply z05|refine z08 ?_ GE104.out)|exact HB.out)⟩
     · rw[if_neg c12]at H;have c12b0:(a0_0==3)=false:=beq_eq_false_iff_ne.mpr c12;have c12b1:(a0_0 !=3)=true:=bne_iff_ne.mpr c12;obtain rfl:=Option.some.inj H;go_enter Tryz.func138,Tryz.ntmps138
       go_wp2_with (first|((with_reducible refine z19 (N:=1) rfl ?_);refine z17 ?hg (N:=1) ?hd (cs:=#[.int .i64 a0_0,.int .i64 a0_1,.string a0_2]) (t:=58) ?hr ?_;(case hd=>rfl);(case hg=>rfl);(case hr=>first|(go_simp;done)|(go_simp;rfl));intro gb104 hg w19 hbox hb;have n0_:=z00.mk (z0g zA00 hb);have n1_:=z00.mk (hbox);have n2_:=z00.mk ((by rw[hg];exact(z0j zA00):w.heap.size≤gb104));have n3_:=z00.mk ((by rw[hg];exact(z0j zA00):w.heap.size≤gb104));clear HB;have HB:=n0_;have BK104:=n1_;have GW104:=n2_;have GE104:=n3_;clear n0_ n1_ n2_ n3_;clear hb hbox hg;have hcz20_0:w19.cell? ⟨gb104,0,none⟩=some (.int .i64 a0_0):=(z01 BK104.out 0).trans rfl;have hcz20_1:w19.cell? ⟨gb104,1,none⟩=some (.int .i64 a0_1):=(z01 BK104.out 1).trans rfl;have hcz20_2:w19.cell? ⟨gb104,2,none⟩=some (.string a0_2):=(z01 BK104.out 2).trans rfl;have hfz20_0:=z03 BK104.out 0;have hfz20_1:=z03 BK104.out 1;have hfz20_2:=z03 BK104.out 2))
       go_ret
       exact⟨by first|rfl|(simp[z0q,z0p] <;> rfl)|(simp[*,z0q,z0p] <;> rfl),by repeat(first|(with_reducible first|exact HB.out|apply z04|apply z02|apply z05|refine z08 ?_ GE104.out)|exact HB.out)⟩
def z1j.f (a0:Int):Option (Bool):=if a0≥97 then(some (decide (a0≤122)))else(some false)
set_option maxHeartbeats 8000000 in
set_option maxRecDepth 100000 in
theorem z1j.calls (a0:Int) (r:Bool) (w:World) (h:z1j.f a0=some r) :
 Calls Tryz.prog 123 #[.int .u8 a0] w fun e w'=>e=.returned (.bool r)∧z0d w w':=by
 have H:(if a0≥97 then(some (decide (a0≤122)))else(some false))=some r:=h;clear h
 by_cases c2:a0≥97
 · rw[if_pos c2]at H;have c2b0:decide (97≤a0)=true:=decide_eq_true c2;clear c2;obtain rfl:=Option.some.inj H;go_enter Tryz.func123,Tryz.ntmps123;go_wp2
   go_ret
   exact⟨by first|rfl|(simp;done)|(simp[*];done),by repeat(first|exact z0d.refl _|apply z0d.step)⟩
 · rw[if_neg c2]at H;have c2b0:decide (97≤a0)=false:=decide_eq_false c2;clear c2;obtain rfl:=Option.some.inj H;go_enter Tryz.func123,Tryz.ntmps123;go_wp2
   go_ret
   exact⟨by first|rfl|(simp;done)|(simp[*];done),by repeat(first|exact z0d.refl _|apply z0d.step)⟩
def z1f.f (a0:Int):Option (Bool):=if a0≥48 then(some (decide (a0≤57)))else(some false)
set_option maxHeartbeats 8000000 in
set_option maxRecDepth 100000 in
theorem z1f.calls (a0:Int) (r:Bool) (w:World) (h:z1f.f a0=some r) :
 Calls Tryz.prog 128 #[.int .u8 a0] w fun e w'=>e=.returned (.bool r)∧z0d w w':=by
 have H:(if a0≥48 then(some (decide (a0≤57)))else(some false))=some r:=h;clear h
 by_cases c2:a0≥48
 · rw[if_pos c2]at H;have c2b0:decide (48≤a0)=true:=decide_eq_true c2;clear c2;obtain rfl:=Option.some.inj H;go_enter Tryz.func128,Tryz.ntmps128;go_wp2
   go_ret
   exact⟨by first|rfl|(simp;done)|(simp[*];done),by repeat(first|exact z0d.refl _|apply z0d.step)⟩
 · rw[if_neg c2]at H;have c2b0:decide (48≤a0)=false:=decide_eq_false c2;clear c2;obtain rfl:=Option.some.inj H;go_enter Tryz.func128,Tryz.ntmps128;go_wp2
   go_ret
   exact⟨by first|rfl|(simp;done)|(simp[*];done),by repeat(first|exact z0d.refl _|apply z0d.step)⟩
def z5s.f (a0:Int):Option (Bool):=(z1j.f a0).bind fun t107=>(if t107=true then(some true)else((z1f.f a0).bind fun t108=>(if t108=true then(some true)else(some (a0==95)))))
set_option maxHeartbeats 8000000 in
set_option maxRecDepth 100000 in
theorem z5s.calls (a0:Int) (r:Bool) (w:World) (h:z5s.f a0=some r) :
 Calls Tryz.prog 125 #[.int .u8 a0] w fun e w'=>e=.returned (.bool r)∧z0d w w':=by
 have H:((z1j.f a0).bind fun t107=>(if t107=true then(some true)else((z1f.f a0).bind fun t108=>(if t108=true then(some true)else(some (a0==95))))))=some r:=h;clear h;replace H:=Option.bind_eq_some_iff.mp H;obtain⟨t107,A20,H⟩:=H;replace H:(if t107=true then(some true)else((z1f.f a0).bind fun t108=>(if t108=true then(some true)else(some (a0==95)))))=some r:=H;have A2:=z00.mk A20;clear A20
 by_cases c3:t107=true
 · subst c3;have H1:(some true)=some r:=by rw[if_pos rfl]at H;exact H
   clear H;have H:=H1;clear H1;obtain rfl:=Option.some.inj H;go_enter Tryz.func125,Tryz.ntmps125
   go_wp2_with (first|((with_reducible refine z0t (f:=123) rfl ?_);refine z27 (some 4) rfl rfl Tryz.func123 (by kernel_rfl) rfl #[.int .u8 a0] rfl zA02 ?_;(with_reducible refine(z1j.calls a0 true _ A2.out).mono ?_);rintro e w' ⟨rfl,⟨nd,rfl⟩⟩;refine⟨_,rfl,?_⟩))
   go_ret
   exact⟨by first|rfl|(simp;done)|(simp[*];done),by repeat(first|exact z0d.refl _|apply z0d.step)⟩
 · replace c3:=Bool.eq_false_iff.mpr c3;subst c3;have H1:((z1f.f a0).bind fun t108=>(if t108=true then(some true)else(some (a0==95))))=some r:=by rw[if_neg (show ¬(false=true) by decide)]at H;exact H
   clear H;have H:=H1;clear H1;replace H:=Option.bind_eq_some_iff.mp H;obtain⟨t108,A40,H⟩:=H;replace H:(if t108=true then(some true)else(some (a0==95)))=some r:=H;have A4:=z00.mk A40;clear A40
   by_cases c5:t108=true
   · subst c5;have H1:(some true)=some r:=by rw[if_pos rfl]at H;exact H
     clear H;have H:=H1;clear H1;obtain rfl:=Option.some.inj H;go_enter Tryz.func125,Tryz.ntmps125
     go_wp2_with (first|((with_reducible refine z0t (f:=123) rfl ?_);refine z27 (some 4) rfl rfl Tryz.func123 (by kernel_rfl) rfl #[.int .u8 a0] rfl zA02 ?_;(with_reducible refine(z1j.calls a0 false _ A2.out).mono ?_);rintro e w' ⟨rfl,⟨nd,rfl⟩⟩;refine⟨_,rfl,?_⟩)|(go_at_call 128;(with_reducible refine(z1f.calls a0 true _ A4.out).mono ?_);rintro e w' ⟨rfl,⟨nd,rfl⟩⟩))
     go_ret
     exact⟨by first|rfl|(simp;done)|(simp[*];done),by repeat(first|exact z0d.refl _|apply z0d.step)⟩
   · replace c5:=Bool.eq_false_iff.mpr c5;subst c5;have H1:(some (a0==95))=some r:=by rw[if_neg (show ¬(false=true) by decide)]at H;exact H
     clear H;have H:=H1;clear H1;obtain rfl:=Option.some.inj H;go_enter Tryz.func125,Tryz.ntmps125
     go_wp2_with (first|((with_reducible refine z0t (f:=123) rfl ?_);refine z27 (some 4) rfl rfl Tryz.func123 (by kernel_rfl) rfl #[.int .u8 a0] rfl zA02 ?_;(with_reducible refine(z1j.calls a0 false _ A2.out).mono ?_);rintro e w' ⟨rfl,⟨nd,rfl⟩⟩;refine⟨_,rfl,?_⟩)|(go_at_call 128;(with_reducible refine(z1f.calls a0 false _ A4.out).mono ?_);rintro e w' ⟨rfl,⟨nd,rfl⟩⟩))
     go_ret
     exact⟨by first|rfl|(simp;done)|(simp[*];done),by repeat(first|exact z0d.refl _|apply z0d.step)⟩
def z1m.f (a0:Int):Option (Bool):=if a0≥65 then(some (decide (a0≤90)))else(some false)
set_option maxHeartbeats 8000000 in
set_option maxRecDepth 100000 in
theorem z1m.calls (a0:Int) (r:Bool) (w:World) (h:z1m.f a0=some r) :
 Calls Tryz.prog 126 #[.int .u8 a0] w fun e w'=>e=.returned (.bool r)∧z0d w w':=by
 have H:(if a0≥65 then(some (decide (a0≤90)))else(some false))=some r:=h;clear h
 by_cases c2:a0≥65
 · rw[if_pos c2]at H;have c2b0:decide (65≤a0)=true:=decide_eq_true c2;clear c2;obtain rfl:=Option.some.inj H;go_enter Tryz.func126,Tryz.ntmps126;go_wp2
   go_ret
   exact⟨by first|rfl|(simp;done)|(simp[*];done),by repeat(first|exact z0d.refl _|apply z0d.step)⟩
 · rw[if_neg c2]at H;have c2b0:decide (65≤a0)=false:=decide_eq_false c2;clear c2;obtain rfl:=Option.some.inj H;go_enter Tryz.func126,Tryz.ntmps126;go_wp2
   go_ret
   exact⟨by first|rfl|(simp;done)|(simp[*];done),by repeat(first|exact z0d.refl _|apply z0d.step)⟩
def z6z.f (a0:Int):Option (Bool):=(z5s.f a0).bind fun t109=>(if t109=true then(some true)else((z1m.f a0).bind fun t110=>(some t110)))
set_option maxHeartbeats 8000000 in
set_option maxRecDepth 100000 in
theorem z6z.calls (a0:Int) (r:Bool) (w:World) (h:z6z.f a0=some r) :
 Calls Tryz.prog 127 #[.int .u8 a0] w fun e w'=>e=.returned (.bool r)∧z0d w w':=by
 have H:((z5s.f a0).bind fun t109=>(if t109=true then(some true)else((z1m.f a0).bind fun t110=>(some t110))))=some r:=h;clear h;replace H:=Option.bind_eq_some_iff.mp H;obtain⟨t109,A20,H⟩:=H;replace H:(if t109=true then(some true)else((z1m.f a0).bind fun t110=>(some t110)))=some r:=H;have A2:=z00.mk A20;clear A20
 by_cases c3:t109=true
 · subst c3;have H1:(some true)=some r:=by rw[if_pos rfl]at H;exact H
   clear H;have H:=H1;clear H1;obtain rfl:=Option.some.inj H;go_enter Tryz.func127,Tryz.ntmps127
   go_wp2_with (first|((with_reducible refine z0t (f:=125) rfl ?_);refine z27 (some 4) rfl rfl Tryz.func125 (by kernel_rfl) rfl #[.int .u8 a0] rfl zA02 ?_;(with_reducible refine(z5s.calls a0 true _ A2.out).mono ?_);rintro e w' ⟨rfl,⟨nd,rfl⟩⟩;refine⟨_,rfl,?_⟩))
   go_ret
   exact⟨by first|rfl|(simp;done)|(simp[*];done),by repeat(first|exact z0d.refl _|apply z0d.step)⟩
 · replace c3:=Bool.eq_false_iff.mpr c3;subst c3;have H1:((z1m.f a0).bind fun t110=>(some t110))=some r:=by rw[if_neg (show ¬(false=true) by decide)]at H;exact H
   clear H;have H:=H1;clear H1;replace H:=Option.bind_eq_some_iff.mp H;obtain⟨t110,A40,H⟩:=H;replace H:(some t110)=some r:=H;have A4:=z00.mk A40;clear A40;obtain rfl:=Option.some.inj H;go_enter Tryz.func127,Tryz.ntmps127
   go_wp2_with (first|((with_reducible refine z0t (f:=125) rfl ?_);refine z27 (some 4) rfl rfl Tryz.func125 (by kernel_rfl) rfl #[.int .u8 a0] rfl zA02 ?_;(with_reducible refine(z5s.calls a0 false _ A2.out).mono ?_);rintro e w' ⟨rfl,⟨nd,rfl⟩⟩;refine⟨_,rfl,?_⟩)|(go_at_call 126;(with_reducible refine(z1m.calls a0 t110 _ A4.out).mono ?_);rintro e w' ⟨rfl,⟨nd,rfl⟩⟩))
   go_ret
   exact⟨by first|rfl|(simp;done)|(simp[*];done),by repeat(first|exact z0d.refl _|apply z0d.step)⟩
def z67.f (a0:ByteArray):Option (Bool):=if a0.toList=([110,111,116]:List UInt8)then(some true)else(if a0.toList=([105,115]:List UInt8)then(some true)else(if a0.toList=([112,108,117,115]:List UInt8)then(some true)else(if a0.toList=([109,105,110,117,115]:List UInt8)then(some true)else(if a0.toList=([116,105,109,101,115]:List UInt8)then(some true)else(if a0.toList=([119,97,108,107]:List UInt8)then(some true)else(if a0.toList=([99,111,117,110,116]:List UInt8)then(some true)else(if a0.toList=([115,117,109]:List UInt8)then(some true)else(if a0.toList=([109,105,110]:List UInt8)then(some true)else(if a0.toList=([109,97,120]:List UInt8)then(some true)else(if a0.toList=([109,101,97,110]:List UInt8)then(some true)else(some false)))))))))))
set_option maxHeartbeats 8000000 in
set_option maxRecDepth 100000 in
theorem z67.calls (a0:ByteArray) (r:Bool) (w:World) (h:z67.f a0=some r) :
 Calls Tryz.prog 85 #[.string a0] w fun e w'=>e=.returned (.bool r)∧z0d w w':=by
 have H:(if a0.toList=([110,111,116]:List UInt8)then(some true)else(if a0.toList=([105,115]:List UInt8)then(some true)else(if a0.toList=([112,108,117,115]:List UInt8)then(some true)else(if a0.toList=([109,105,110,117,115]:List UInt8)then(some true)else(if a0.toList=([116,105,109,101,115]:List UInt8)then(some true)else(if a0.toList=([119,97,108,107]:List UInt8)then(some true)else(if a0.toList=([99,111,117,110,116]:List UInt8)then(some true)else(if a0.toList=([115,117,109]:List UInt8)then(some true)else(if a0.toList=([109,105,110]:List UInt8)then(some true)else(if a0.toList=([109,97,120]:List UInt8)then(some true)else(if a0.toList=([109,101,97,110]:List UInt8)then(some true)else(some false))))))))))))=some r:=h;clear h
 by_cases c2:a0.toList=([110,111,116]:List UInt8)
 · rw[if_pos c2]at H;have c2b0:(a0.toList==([110,111,116]:List UInt8))=true:=beq_iff_eq.mpr c2;have c2b1:(a0.toList !=([110,111,116]:List UInt8))=false:=bne_eq_false_iff_eq.mpr c2;clear c2;obtain rfl:=Option.some.inj H;go_enter Tryz.func85,Tryz.ntmps85;go_wp2
   go_ret
   exact⟨by first|rfl|(simp;done)|(simp[*];done),by repeat(first|exact z0d.refl _|apply z0d.step)⟩
 · rw[if_neg c2]at H;have c2b0:(a0.toList==([110,111,116]:List UInt8))=false:=beq_eq_false_iff_ne.mpr c2;have c2b1:(a0.toList !=([110,111,116]:List UInt8))=true:=bne_iff_ne.mpr c2
   by_cases c3:a0.toList=([105,115]:List UInt8)
   · rw[if_pos c3]at H;have c3b0:(a0.toList==([105,115]:List UInt8))=true:=beq_iff_eq.mpr c3;have c3b1:(a0.toList !=([105,115]:List UInt8))=false:=bne_eq_false_iff_eq.mpr c3;clear c3;obtain rfl:=Option.some.inj H;go_enter Tryz.func85,Tryz.ntmps85;go_wp2
     go_ret
     exact⟨by first|rfl|(simp;done)|(simp[*];done),by repeat(first|exact z0d.refl _|apply z0d.step)⟩
   · rw[if_neg c3]at H;have c3b0:(a0.toList==([105,115]:List UInt8))=false:=beq_eq_false_iff_ne.mpr c3;have c3b1:(a0.toList !=([105,115]:List UInt8))=true:=bne_iff_ne.mpr c3
     by_cases c4:a0.toList=([112,108,117,115]:List UInt8)
     · rw[if_pos c4]at H;have c4b0:(a0.toList==([112,108,117,115]:List UInt8))=true:=beq_iff_eq.mpr c4;have c4b1:(a0.toList !=([112,108,117,115]:List UInt8))=false:=bne_eq_false_iff_eq.mpr c4;clear c4;obtain rfl:=Option.some.inj H;go_enter Tryz.func85,Tryz.ntmps85;go_wp2
       go_ret
       exact⟨by first|rfl|(simp;done)|(simp[*];done),by repeat(first|exact z0d.refl _|apply z0d.step)⟩
     · rw[if_neg c4]at H;have c4b0:(a0.toList==([112,108,117,115]:List UInt8))=false:=beq_eq_false_iff_ne.mpr c4;have c4b1:(a0.toList !=([112,108,117,115]:List UInt8))=true:=bne_iff_ne.mpr c4
       by_cases c5:a0.toList=([109,105,110,117,115]:List UInt8)
       · rw[if_pos c5]at H;have c5b0:(a0.toList==([109,105,110,117,115]:List UInt8))=true:=beq_iff_eq.mpr c5;have c5b1:(a0.toList !=([109,105,110,117,115]:List UInt8))=false:=bne_eq_false_iff_eq.mpr c5;clear c5;obtain rfl:=Option.some.inj H;go_enter Tryz.func85,Tryz.ntmps85;go_wp2
         go_ret
         exact⟨by first|rfl|(simp;done)|(simp[*];done),by repeat(first|exact z0d.refl _|apply z0d.step)⟩
       · rw[if_neg c5]at H;have c5b0:(a0.toList==([109,105,110,117,115]:List UInt8))=false:=beq_eq_false_iff_ne.mpr c5;have c5b1:(a0.toList !=([109,105,110,117,115]:List UInt8))=true:=bne_iff_ne.mpr c5
         by_cases c6:a0.toList=([116,105,109,101,115]:List UInt8)
         · rw[if_pos c6]at H;have c6b0:(a0.toList==([116,105,109,101,115]:List UInt8))=true:=beq_iff_eq.mpr c6;have c6b1:(a0.toList !=([116,105,109,101,115]:List UInt8))=false:=bne_eq_false_iff_eq.mpr c6;clear c6;obtain rfl:=Option.some.inj H;go_enter Tryz.func85,Tryz.ntmps85;go_wp2
           go_ret
           exact⟨by first|rfl|(simp;done)|(simp[*];done),by repeat(first|exact z0d.refl _|apply z0d.step)⟩
         · rw[if_neg c6]at H;have c6b0:(a0.toList==([116,105,109,101,115]:List UInt8))=false:=beq_eq_false_iff_ne.mpr c6;have c6b1:(a0.toList !=([116,105,109,101,115]:List UInt8))=true:=bne_iff_ne.mpr c6
           by_cases c7:a0.toList=([119,97,108,107]:List UInt8)
           · rw[if_pos c7]at H;have c7b0:(a0.toList==([119,97,108,107]:List UInt8))=true:=beq_iff_eq.mpr c7;have c7b1:(a0.toList !=([119,97,108,107]:List UInt8))=false:=bne_eq_false_iff_eq.mpr c7;clear c7;obtain rfl:=Option.some.inj H;go_enter Tryz.func85,Tryz.ntmps85;go_wp2
             go_ret
             exact⟨by first|rfl|(simp;done)|(simp[*];done),by repeat(first|exact z0d.refl _|apply z0d.step)⟩
           · rw[if_neg c7]at H;have c7b0:(a0.toList==([119,97,108,107]:List UInt8))=false:=beq_eq_false_iff_ne.mpr c7;have c7b1:(a0.toList !=([119,97,108,107]:List UInt8))=true:=bne_iff_ne.mpr c7
             by_cases c8:a0.toList=([99,111,117,110,116]:List UInt8)
             · rw[if_pos c8]at H;have c8b0:(a0.toList==([99,111,117,110,116]:List UInt8))=true:=beq_iff_eq.mpr c8;have c8b1:(a0.toList !=([99,111,117,110,116]:List UInt8))=false:=bne_eq_false_iff_eq.mpr c8;clear c8;obtain rfl:=Option.some.inj H;go_enter Tryz.func85,Tryz.ntmps85;go_wp2
               go_ret
               exact⟨by first|rfl|(simp;done)|(simp[*];done),by repeat(first|exact z0d.refl _|apply z0d.step)⟩
             · rw[if_neg c8]at H;have c8b0:(a0.toList==([99,111,117,110,116]:List UInt8))=false:=beq_eq_false_iff_ne.mpr c8;have c8b1:(a0.toList !=([99,111,117,110,116]:List UInt8))=true:=bne_iff_ne.mpr c8
               by_cases c9:a0.toList=([115,117,109]:List UInt8)
               · rw[if_pos c9]at H;have c9b0:(a0.toList==([115,117,109]:List UInt8))=true:=beq_iff_eq.mpr c9;have c9b1:(a0.toList !=([115,117,109]:List UInt8))=false:=bne_eq_false_iff_eq.mpr c9;clear c9;obtain rfl:=Option.some.inj H;go_enter Tryz.func85,Tryz.ntmps85;go_wp2
                 go_ret
                 exact⟨by first|rfl|(simp;done)|(simp[*];done),by repeat(first|exact z0d.refl _|apply z0d.step)⟩
               · rw[if_neg c9]at H;have c9b0:(a0.toList==([115,117,109]:List UInt8))=false:=beq_eq_false_iff_ne.mpr c9;have c9b1:(a0.toList !=([115,117,109]:List UInt8))=true:=bne_iff_ne.mpr c9
                 by_cases c10:a0.toList=([109,105,110]:List UInt8)
                 · rw[if_pos c10]at H;have c10b0:(a0.toList==([109,105,110]:List UInt8))=true:=beq_iff_eq.mpr c10;have c10b1:(a0.toList !=([109,105,110]:List UInt8))=false:=bne_eq_false_iff_eq.mpr c10;clear c10;obtain rfl:=Option.some.inj H;go_enter Tryz.func85,Tryz.ntmps85;go_wp2
                   go_ret
                   exact⟨by first|rfl|(simp;done)|(simp[*];done),by repeat(first|exact z0d.refl _|apply z0d.step)⟩
                 · rw[if_neg c10]at H;have c10b0:(a0.toList==([109,105,110]:List UInt8))=false:=beq_eq_false_iff_ne.mpr c10;have c10b1:(a0.toList !=([109,105,110]:List UInt8))=true:=bne_iff_ne.mpr c10
                   by_cases c11:a0.toList=([109,97,120]:List UInt8)
                   · rw[if_pos c11]at H;have c11b0:(a0.toList==([109,97,120]:List UInt8))=true:=beq_iff_eq.mpr c11;have c11b1:(a0.toList !=([109,97,120]:List UInt8))=false:=bne_eq_false_iff_eq.mpr c11;clear c11;obtain rfl:=Option.some.inj H;go_enter Tryz.func85,Tryz.ntmps85;go_wp2
                     go_ret
                     exact⟨by first|rfl|(simp;done)|(simp[*];done),by repeat(first|exact z0d.refl _|apply z0d.step)⟩
                   · rw[if_neg c11]at H;have c11b0:(a0.toList==([109,97,120]:List UInt8))=false:=beq_eq_false_iff_ne.mpr c11;have c11b1:(a0.toList !=([109,97,120]:List UInt8))=true:=bne_iff_ne.mpr c11
                     by_cases c12:a0.toList=([109,101,97,110]:List UInt8)
                     · rw[if_pos c12]at H;have c12b0:(a0.toList==([109,101,97,110]:List UInt8))=true:=beq_iff_eq.mpr c12;have c12b1:(a0.toList !=([109,101,97,110]:List UInt8))=false:=bne_eq_false_iff_eq.mpr c12;clear c12;obtain rfl:=Option.some.inj H;go_enter Tryz.func85,Tryz.ntmps85;go_wp2
                       go_ret
                       exact⟨by first|rfl|(simp;done)|(simp[*];done),by repeat(first|exact z0d.refl _|apply z0d.step)⟩
                     · rw[if_neg c12]at H;have c12b0:(a0.toList==([109,101,97,110]:List UInt8))=false:=beq_eq_false_iff_ne.mpr c12;have c12b1:(a0.toList !=([109,101,97,110]:List UInt8))=true:=bne_iff_ne.mpr c12;obtain rfl:=Option.some.inj H;go_enter Tryz.func85,Tryz.ntmps85;go_wp2
                       go_ret
                       exact⟨by first|rfl|(simp;done)|(simp[*];done),by repeat(first|exact z0d.refl _|apply z0d.step)⟩
end Go.Proofs.YthebhbomlllpeaaGreatDoor.X
namespace Go.Proofs.YthebhbomlllpeaaGreatDoor.X
open Go.RowKit Go.Proofs.YthebhbomlllpeaaGreatDoorW.PrintWords Go.Proofs.YthebhbomlllpeaaGreatDoorW.PrintLast Go.Proofs.YthebhbomlllpeaaGreatDoorW.PrintMore
def z3d.f (a0:Int) (a1:Int):Option ByteArray:=if a1=10∧-9223372036854775808≤a0∧a0≤9223372036854775807 then some ⟨(Lib.itoa a0).toArray⟩else none
theorem zej (w:World) (k:Nat) (os:Array Obj):Below w.heap.size w (Sort.grow (w.drewN k) os):=by
 have h:Below w.heap.size w (w.drewN k):=z02 (Below.refl _ _) k;refine⟨h.os,h.tape,h.output,?_,?_⟩
 · simp[Sort.grow,World.drewN]
 · intro i hi
   simp[Sort.grow,World.drewN,Array.getElem?_append,hi]
theorem z3d.calls (a0 a1:Int) (r:ByteArray) (w:World) (hLW:LaidW w) (h:z3d.f a0 a1=some r) :
 Calls Tryz.prog 139 #[.int .i64 a0,.int .i64 a1] w fun e w'=>e=.returned (.string r)∧Below w.heap.size w w':=by
 unfold z3d.f at h
 split at h
 · rename_i hc;obtain⟨rfl,h0,h1⟩:=hc;obtain rfl:=Option.some.inj h;refine(Tryz.strconv_FormatInt_10 a0 h0 h1 w hLW.t10).mono ?_;rintro e w' ⟨rfl,k,os,rfl⟩;exact⟨rfl,zej w k os⟩
 · cases h
def strings_Repeat.f (a0:ByteArray) (a1:Int):Option ByteArray:=if 0≤a1∧a1≤9223372036854775807∧a0.size * a1.toNat≤140737488355328 then some ⟨(Lib.repeatL a0.data.toList a1.toNat).toArray⟩else none
theorem strings_Repeat.calls (a0:ByteArray) (a1:Int) (r:ByteArray) (w:World) (h:strings_Repeat.f a0 a1=some r) :
 Calls Tryz.prog 141 #[.string a0,.int .i64 a1] w fun e w'=>e=.returned (.string r)∧Below w.heap.size w w':=by
 unfold strings_Repeat.f at h
 split at h
 · rename_i hc;obtain⟨h0,h1,h2⟩:=hc;obtain rfl:=Option.some.inj h;obtain⟨n,rfl⟩:=Int.eq_ofNat_of_zero_le h0;have h3:n≤9223372036854775807:=by omega
   have h4:((n:Int)).toNat=n:=Int.toNat_natCast n;rw[h4]at h2;refine(Tryz.strings_Repeat a0 n w h3 h2).mono ?_;rintro e w' ⟨rfl,hb⟩;exact⟨by simp only[h4],hb⟩
 · cases h
def okB (c:Int):Bool:=decide (97≤c∧c≤122)||(decide (48≤c∧c≤57)||decide (c=95))
def z5a (s:ByteArray):Nat→Int→Bool
 |0,_=>true
 |d+1,i=>okB (bt s i)&&z5a s d (i+1)
def nameB (s:ByteArray):Bool:=decide (1≤s.size∧s.size≤40)&&(decide (97≤bt s 0∧bt s 0≤122)&&z5a s s.size 0)
def z1g.f (a0:ByteArray):Option Bool:=some (nameB a0)
theorem okB_hi {c:Int} (h:128≤c):okB c=false:=by
 unfold okB
 simp
 omega
theorem z92 (s:ByteArray) (pos:Nat) (h:pos<s.size):1≤(Utf8.decode s pos).2:=by
 by_cases ha:(s[pos]'h).toNat<128
 · rw[decode_ascii s pos h ha];exact Nat.le_refl _
 · exact(decode_high s pos h (by omega)).2
theorem z5g (s:ByteArray) (pos:Nat) (h:pos<s.size):bt s (pos:Int)=((s[pos]'h).toNat:Int):=by
 have:=bt_at s (pos:Int) (by simpa using h)
 simpa using this.symm
theorem z7l (w:World) (s:ByteArray) (pos:Nat):Below w.heap.size w (w.iter s pos):=(Below.refl _ _).alloc (Nat.le_refl _) _
theorem z5x (s:ByteArray):∀(d:Nat) (i:Int),z5a s d i=true↔∀j:Nat,j<d→okB (bt s (i+j))=true
 |0,i=>by simp[z5a]
 |d+1,i=>by
  simp only[z5a,Bool.and_eq_true,z5x s d (i+1)]
  constructor
  · rintro⟨h0,h⟩ j hj
    cases j with
    |zero=>simpa using h0
    |succ j=>have:=h j (by omega);rwa [show i+1+(j:Int)=i+((j+1:Nat):Int) by omega]at this
  · intro h;refine⟨by simpa using h 0 (by omega),fun j hj=>?_⟩;have:=h (j+1) (by omega)
    rwa [show i+((j+1:Nat):Int)=i+1+(j:Int) by omega]at this
theorem zdk {s:ByteArray} {j:Nat} (hj:j<s.size) (h:okB (bt s j)=false):nameB s=false:=by
 cases hn:nameB s with
 |false=>rfl
 |true =>
  unfold nameB at hn;simp only[Bool.and_eq_true]at hn;have:=(z5x s s.size 0).1 hn.2.2 j hj;rw[show(0:Int)+(j:Int)=(j:Int) by omega,h]at this
  cases this
set_option maxHeartbeats 2000000 in
set_option maxRecDepth 1000000 in
theorem z9c (s:ByteArray) (w:World) (h:¬(1≤s.size∧s.size≤40∧97≤bt s 0∧bt s 0≤122)) :
 Calls Tryz.prog 99 #[.string s] w fun e w'=>e=.returned (.bool false)∧Below w.heap.size w w':=by
 by_cases h1:s.size<1
 · have e1:decide ((s.size:Int)<1)=true:=decide_eq_true (by omega);clear h h1;go_enter Tryz.func99,Tryz.ntmps99;go_wp2
   go_ret
   exact⟨rfl,Below.refl _ _⟩
 · have e1:decide ((s.size:Int)<1)=false:=decide_eq_false (by omega)
   by_cases h2:40<s.size
   · have e2:decide ((40:Int)<(s.size:Int))=true:=decide_eq_true (by omega);clear h h1 h2;go_enter Tryz.func99,Tryz.ntmps99;go_wp2
     go_ret
     exact⟨rfl,Below.refl _ _⟩
   · have e2:decide ((40:Int)<(s.size:Int))=false:=decide_eq_false (by omega);have hz:0<s.size:=by omega
     have hb:=z5g s 0 hz;rw[show((0:Nat):Int)=0 from rfl]at hb
     by_cases h3:(s[0].toNat:Int)<97
     · have e3:decide ((s[0].toNat:Int)<97)=true:=decide_eq_true h3;clear h h1 h2 h3 hb;go_enter Tryz.func99,Tryz.ntmps99;go_wp2
       go_ret
       exact⟨rfl,Below.refl _ _⟩
     · have e3:decide ((s[0].toNat:Int)<97)=false:=decide_eq_false h3;have e4:decide ((122:Int)<(s[0].toNat:Int))=true:=decide_eq_true (by omega);clear h h1 h2 h3 hb;go_enter Tryz.func99,Tryz.ntmps99;go_wp2
       go_ret
       exact⟨rfl,Below.refl _ _⟩
theorem zfo (w:World) (s:ByteArray) (pos:Nat) (hp:pos<s.size) (HA:z00 (∀j:Nat,j<pos→okB (bt s j)=true)) (hk:okB (bt s pos)=true) :
 ∃pos_1,w.iter s (pos+(Utf8.decode s pos).snd)=w.iter s pos_1∧pos_1≤s.size∧z00 (∀j:Nat,j<pos_1→okB (bt s j)=true):=by
 have hb:=z5g s pos hp;have hlt:(s[pos]'hp).toNat<128:=by
  rcases Nat.lt_or_ge (s[pos]'hp).toNat 128 with h|h
  · exact h
  · rw[hb,okB_hi (by omega)]at hk;cases hk
 refine⟨pos+1,by rw[decode_ascii s pos hp hlt],by omega,⟨fun j hj=>?_⟩⟩;rcases Nat.lt_or_ge j pos with h|h
 · exact HA.out j h
 · obtain rfl:j=pos:=by omega
   exact hk
set_option maxHeartbeats 4000000 in
set_option maxRecDepth 1000000 in
theorem za9 (s:ByteArray) (w:World) (h1:1≤s.size) (h2:s.size≤40) (h3:97≤bt s 0) (h4:bt s 0≤122) :
 Calls Tryz.prog 99 #[.string s] w fun e w'=>e=.returned (.bool (nameB s))∧Below w.heap.size w w':=by
 have hz:0<s.size:=by omega
 have hb:=z5g s 0 hz;rw[show((0:Nat):Int)=0 from rfl]at hb;have e1:decide ((s.size:Int)<1)=false:=decide_eq_false (by omega);have e2:decide ((40:Int)<(s.size:Int))=false:=decide_eq_false (by omega);have e3:decide ((s[0].toNat:Int)<97)=false:=decide_eq_false (by omega);have e4:decide ((122:Int)<(s[0].toNat:Int))=false:=decide_eq_false (by omega);clear hb;go_enter Tryz.func99,Tryz.ntmps99;go_wp2
 go_loopw [3] (fun v3 wr=>∃pos:Nat,wr=w.iter s pos∧pos≤s.size∧z00 (∀j:Nat,j<pos→okB (bt s j)=true)) (fun _ wr=>s.size - wr.iterPos w.heap.size)
 case atStart=>exact⟨0,rfl,by omega,⟨fun j hj=>by omega⟩⟩
 case round =>
  obtain⟨pos,rfl,hle,HA⟩:=hrel
  by_cases hp:pos<s.size
  · have hnx:∀ty,(Instr.next (.pointer (some ⟨w.heap.size,0,none⟩)) true ty).run Tryz.prog (w.iter s pos)=_:=fun ty=>run_next_any w s pos ty hp
    have hwd:=z92 s pos hp;have hby:=z5g s pos hp;clear e1 e2 e3 e4;have HB:=z00.mk hby;clear hby;go_wp2
    all_goals first
     | (have hk:okB (s[pos].toNat:Int)=true:=by
         clear hnx HA HB h1 h2 h3 h4
         (try simp only[Bool.not_eq_true',Bool.not_eq_false',decide_eq_true_eq,decide_eq_false_iff_not,beq_iff_eq,beq_eq_false_iff_ne,ne_eq]at *)
         unfold okB
         simp
         omega
        go_roundw
        case rel=>exact zfo w s pos hp HA (by rw[HB.out];exact hk)
        case measure=>simp;omega)
     | (have hk:okB (s[pos].toNat:Int)=false:=by
         clear hnx HA HB h1 h2 h3 h4
         (try simp only[Bool.not_eq_true',Bool.not_eq_false',decide_eq_true_eq,decide_eq_false_iff_not,beq_iff_eq,beq_eq_false_iff_ne,ne_eq]at *)
         unfold okB
         simp
         omega
        go_ret
        refine⟨?_,z7l w s _⟩;rw[zdk hp (by rw[HB.out];exact hk)]
        first|done|rfl)
  · clear e1 e2 e3 e4;have hnx:∀ty,(Instr.next (.pointer (some ⟨w.heap.size,0,none⟩)) true ty).run Tryz.prog (w.iter s pos)=_:=fun ty=>run_next_end w s pos ty hp
    go_wp2
    go_ret
    refine⟨?_,z7l w s pos⟩;have:nameB s=true:=by
     unfold nameB;simp only[Bool.and_eq_true,decide_eq_true_eq];exact⟨⟨h1,h2⟩,⟨h3,h4⟩,(z5x s s.size 0).2 fun j hj=>by rw[show(0:Int)+(j:Int)=(j:Int) by omega];exact HA.out j (by omega)⟩
    rw[this]
    first|done|rfl
theorem z1g.calls (a0:ByteArray) (r:Bool) (w:World) (h:z1g.f a0=some r) :
 Calls Tryz.prog 99 #[.string a0] w fun e w'=>e=.returned (.bool r)∧Below w.heap.size w w':=by
 obtain rfl:=Option.some.inj h
 by_cases hc:1≤a0.size∧a0.size≤40∧97≤bt a0 0∧bt a0 0≤122
 · exact za9 a0 w hc.1 hc.2.1 hc.2.2.1 hc.2.2.2
 · have:nameB a0=false:=by
    cases hn:nameB a0 with
    |false=>rfl
    |true =>
     unfold nameB at hn;simp only[Bool.and_eq_true,decide_eq_true_eq]at hn;exact absurd ⟨hn.1.1,hn.1.2,hn.2.1.1,hn.2.1.2⟩ hc
   rw[this];exact z9c a0 w hc

theorem z2d (s:ByteArray):s.toList=s.data.toList:=ByteArray.toList_eq s
theorem z2s (s:ByteArray):s.toList=([]:List UInt8)↔s.size=0:=by
 rw[z2d]
 constructor
 · intro h;have:=congrArg List.length h;simpa [z0n] using this
 · intro h;exact List.eq_nil_of_length_eq_zero (by rw[z0n];exact h)
theorem z65 (c:Int):z2e.f c=some (decide (97≤c∧c≤122)):=by
 unfold z2e.f
 by_cases h:c≥97
 · rw[if_pos h];congr 1;simp only[ge_iff_le]at h;simp[h]
 · rw[if_neg h];congr 1;simp;omega
theorem z9j (c:Int):z43.f c=some (okB c):=by
 unfold z43.f okB;rw[z65];simp only[Option.bind_some]
 by_cases h:97≤c∧c≤122
 · simp[h]
 · simp only[h,decide_false,Bool.false_or];rw[if_neg (by simp)]
   by_cases h1:c≥48
   · rw[if_pos h1]
     by_cases h2:c≤57
     · rw[if_pos h2];simp;omega
     · rw[if_neg h2];congr 1;rw[Bool.eq_iff_iff];simp;omega
   · rw[if_neg h1];congr 1;rw[Bool.eq_iff_iff];simp;omega
theorem zgb {i:Int} {n:Nat} (h0:0≤i) (h:i<(n:Int)) (hn:n≤140737488355328):wrap64 (i+1)=i+1:=by
 unfold wrap64;omega
theorem z5z (s:ByteArray) (hs:s.size≤40):∀(d k:Nat) (i:Int),0≤i→(s.size:Int) - i=d→d<k→z15.l0 k s true (s.size:Int) i=some (z5a s d i)
 |0,k,i,h0,hd,hk=>by
  obtain⟨k,rfl⟩:∃m,k=m+1:=⟨k - 1,by omega⟩
  simp only[z15.l0,z5a];rw[if_neg (by omega)]
 |d+1,k,i,h0,hd,hk=>by
  obtain⟨k,rfl⟩:∃m,k=m+1:=⟨k - 1,by omega⟩
  simp only[z15.l0,z5a];rw[if_pos (by omega),if_pos h0,if_pos (by omega),z9j];simp only[Option.bind_some]
  cases hb:okB (bt s i)with
  |true =>
   rw[if_pos rfl,zgb (n:=s.size) h0 (by omega) (by omega),z5z s hs d k (i+1) (by omega) (by omega) (by omega)]
   simp
  |false=>simp
theorem z5r (s:ByteArray) (k:Nat) (hk:42≤k):z15.f k s=some (nameB s):=by
 unfold z15.f nameB;obtain⟨k,rfl⟩:∃m,k=m+1:=⟨k - 1,by omega⟩
 by_cases h0:s.size=0
 · rw[if_pos ((z2s s).2 h0)]
   simp[z15.j0,h0]
 · rw[if_neg (fun h=>h0 ((z2s s).1 h))]
   by_cases h1:(s.size:Int)>40
   · rw[if_pos h1];have:¬(1≤s.size∧s.size≤40):=by omega
     simp[z15.j0,this]
   · rw[if_neg h1,if_pos (by omega),z65];simp only[Option.bind_some];have hc:1≤s.size∧s.size≤40:=by omega
     by_cases h2:97≤bt s 0∧bt s 0≤122
     · simp only[z15.j0,h2,hc,decide_true,Bool.not_true,Bool.true_and,and_self];rw[if_neg (by simp),z5z s (by omega) s.size k 0 (by omega) (by omega) (by omega)]
     · simp only[z15.j0,h2,decide_false,Bool.not_false,Bool.false_and,Bool.and_false,if_true]
def floB (n:Int):Bool:=decide (n=9221120237041090561)||(decide (-9218868437227405313≤n)&&decide (n≤9218868437227405312))
def z57 (k n:Int) (s:ByteArray):Bool :=
 if k=1 then decide (s.size=0)else if k=2 then decide (s.size=0)&&floB n else if k=3 then decide (n=0)&&nameB s else false
theorem zbv (n:Int):flo_Right.f n=some (floB n):=by
 unfold flo_Right.f floB
 by_cases h:n=9221120237041090561
 · rw[if_pos h];simp[h]
 · rw[if_neg h]
   by_cases h1:n≥-9218868437227405313
   · rw[if_pos h1];simp[h,h1]
   · rw[if_neg h1];congr 1;symm;simp[h];omega
theorem z9b (k:Nat) (hk:42≤k) (a b:Int) (s:ByteArray):z4x.f k a b s=some (z57 a b s):=by
 unfold z4x.f z57
 by_cases h1:a=1
 · rw[if_pos h1,if_pos h1]
   congr 1
   rw[Bool.eq_iff_iff,beq_iff_eq,decide_eq_true_iff,z2s]
 · rw[if_neg h1,if_neg h1]
   by_cases h2:a=2
   · rw[if_pos h2,if_pos h2]
     by_cases h3:s.size=0
     · rw[if_pos ((z2s s).2 h3),zbv];simp[h3]
     · rw[if_neg (fun h=>h3 ((z2s s).1 h))];simp[h3]
   · rw[if_neg h2,if_neg h2]
     by_cases h3:a=3
     · rw[if_pos h3,if_pos h3]
       by_cases h4:b=0
       · rw[if_pos h4,z5r s k hk];simp[h4]
       · rw[if_neg h4];simp[h4]
     · rw[if_neg h3,if_neg h3]

def hex16 (u:Nat):List UInt8:=List.replicate (16 - (hexL u).length) 48++hexL u
def textL (k n:Int) (s:ByteArray):List UInt8 :=
 if z57 k n s=true then(if k=1 then Lib.itoa n else if k=2 then 35::hex16 (IntKind.u64.wrap n).toNat else s.data.toList)else[]
theorem z8j (u:Nat):∀d:Nat,1≤d→u<16 ^ d→1≤(hexL u).length∧(hexL u).length≤d:=by
 intro d
 induction d generalizing u with
 |zero=>intro h;omega
 |succ d ih =>
  intro _ hu;rw[hexL]
  split
  · simp
  · rename_i h;have hd:1≤d:=by
     rcases Nat.eq_zero_or_pos d with rfl|h'
     · simp at hu;omega
     · exact h'
    have:=ih (u / 16) hd (by rw[Nat.pow_succ]at hu;omega)
    simp
    omega
theorem wrap_u64 (n:Int):0≤IntKind.u64.wrap n∧IntKind.u64.wrap n<18446744073709551616:=by
 rw[IntKind.wrap_u64];omega
def z3y.f (a0 a1:Int) (a2:ByteArray):Option ByteArray:=if -9223372036854775808≤a1∧a1≤9223372036854775807 then some ⟨(textL a0 a1 a2).toArray⟩else none
theorem zcp (c:UInt8) (n:Nat):Lib.repeatL [c] n=List.replicate n c:=by
 induction n with
 |zero=>rfl
 |succ n ih=>simp[Lib.repeatL,List.replicate_succ,ih]
theorem z7c {w w1:World} {o:Obj} (h:Below (w.alloc o).heap.size (w.alloc o) w1):Below w.heap.size w w1 :=
 z14 ((Below.refl w.heap.size w).alloc (Nat.le_refl _) o) (by simp) h
theorem z8g {w w1:World} {a b c:Value} {t:TypeId} (h:Below (w.alloc (.cells #[a,b,c] t)).heap.size (w.alloc (.cells #[a,b,c] t)) w1) :
 w1.cell? ⟨w.heap.size,0,none⟩=some a∧w1.cell? ⟨w.heap.size,1,none⟩=some b∧w1.cell? ⟨w.heap.size,2,none⟩=some c :=
 ⟨(h.cell (p:=⟨w.heap.size,0,none⟩) (by simp)).trans (by rw[World.cell?_alloc_new];rfl),(h.cell (p:=⟨w.heap.size,1,none⟩) (by simp)).trans (by rw[World.cell?_alloc_new];rfl),(h.cell (p:=⟨w.heap.size,2,none⟩) (by simp)).trans (by rw[World.cell?_alloc_new];rfl)⟩
set_option maxHeartbeats 1600000 in
set_option maxRecDepth 100000 in
theorem z3y.calls (a0 a1:Int) (a2:ByteArray) (r:ByteArray) (w:World) (hLW:LaidW w) (h:z3y.f a0 a1 a2=some r) :
 Calls Tryz.prog 106 #[.agg #[.int .i64 a0,.int .i64 a1,.string a2]] w fun e w'=>e=.returned (.string r)∧Below w.heap.size w w':=by
 unfold z3y.f at h
 split at h
 · rename_i hr;obtain rfl:=Option.some.inj h;clear h;have hR:=fun W=>z4x.calls 42 a0 a1 a2 (z57 a0 a1 a2) W (z9b 42 (Nat.le_refl _) a0 a1 a2)
   have HR:=z00.mk hR;clear hR
   cases hb:z57 a0 a1 a2 with
   |false =>
    have hT:textL a0 a1 a2=[]:=by unfold textL;rw[if_neg (by rw[hb];simp)]
    rw[hb]at HR;rw[hT];clear hT hb;go_enter Tryz.func106,Tryz.ntmps106
    go_wp2_with (go_at_call 138;refine(HR.out _).mono ?_;rintro e w1 ⟨rfl,hb1⟩)
    go_ret
    exact⟨rfl,z7c hb1⟩
   |true =>
    have hT:textL a0 a1 a2=(if a0=1 then Lib.itoa a1 else if a0=2 then 35::hex16 (IntKind.u64.wrap a1).toNat else a2.data.toList):=by unfold textL;rw[if_pos hb]
    rw[hb]at HR;rw[hT];clear hT
    by_cases k1:a0=1
    · subst k1;rw[if_pos rfl];have HF:=z00.mk (fun W h=>z3d.calls a1 10 ⟨(Lib.itoa a1).toArray⟩ W h (by unfold z3d.f;rw[if_pos ⟨rfl,hr.1,hr.2⟩]));clear hb;go_enter Tryz.func106,Tryz.ntmps106
      go_wp2_with (first
       |(go_at_call 138;refine(HR.out _).mono ?_;rintro e w1 ⟨rfl,hb1⟩;have HB1:=z00.mk (z7c hb1);have HC1:=z00.mk (z8g hb1);clear hb1;have hc0:=HC1.out.1;have hc1:=HC1.out.2.1;have hc2:=HC1.out.2.2;clear HC1)
       |(go_at_call 139;refine(HF.out _ (hLW.below HB1.out)).mono ?_;rintro e w2 ⟨rfl,hb2⟩;have HB2:=z00.mk (z14 HB1.out HB1.out.size hb2);clear hb2))
      go_ret
      exact⟨rfl,HB2.out⟩
    · rw[if_neg k1]
      by_cases k2:a0=2
      · subst k2;rw[if_pos rfl];obtain⟨hu0,hu1⟩:=wrap_u64 a1;obtain⟨u,hu⟩:=Int.eq_ofNat_of_zero_le hu0;have hu64:u<18446744073709551616:=by omega
        have hlen:=z8j u 16 (by omega) hu64;have HF:=z00.mk (fun W h=>z34.calls (IntKind.u64.wrap a1) 16 ⟨(hexL u).toArray⟩ W h (by unfold z34.f;rw[if_pos ⟨rfl,hu0,hu1⟩,hu,Int.toNat_natCast]));have HRP := z00.mk (fun W => strings_Repeat.calls ⟨#[48]⟩ (16 - ((hexL u).length : Int)) ⟨(List.replicate (16 - (hexL u).length) 48).toArray⟩ W (by
         unfold strings_Repeat.f;have e1:(16 - ((hexL u).length:Int)).toNat=16 - (hexL u).length:=by omega
         have e2:(⟨#[48]⟩:ByteArray).size=1:=rfl;rw[if_pos ⟨by omega,by omega,by rw[e1,e2];omega⟩,e1]
         congr 3
         exact zcp 48 _))
        have hfin:(⟨(35::hex16 (IntKind.u64.wrap a1).toNat).toArray⟩:ByteArray)=((⟨#[35]⟩:ByteArray)++⟨(List.replicate (16 - (hexL u).length) 48).toArray⟩)++⟨(hexL u).toArray⟩:=by
         rw[hu,Int.toNat_natCast];apply ByteArray.ext
         simp[hex16]
        have HFIN:=z00.mk hfin;have hs1:(⟨(hexL u).toArray⟩:ByteArray).size=(hexL u).length:=by simp[ByteArray.size]
        have hs2:(⟨(List.replicate (16 - (hexL u).length) 48).toArray⟩:ByteArray).size=16 - (hexL u).length:=by simp[ByteArray.size]
        clear hb hu hu0 hu1 hu64 hfin;go_enter Tryz.func106,Tryz.ntmps106
        go_wp2_with (first
         |(go_at_call 138;refine(HR.out _).mono ?_;rintro e w1 ⟨rfl,hb1⟩;have HB1:=z00.mk (z7c hb1);have HC1:=z00.mk (z8g hb1);clear hb1;have hc0:=HC1.out.1;have hc1:=HC1.out.2.1;have hc2:=HC1.out.2.2;clear HC1)
         |(go_at_call 140;refine(HF.out _ (hLW.below HB1.out)).mono ?_;rintro e w2 ⟨rfl,hb2⟩;have HB2:=z00.mk (z14 HB1.out HB1.out.size hb2);clear hb2)
         |(go_at_call 141;refine(HRP.out _).mono ?_;rintro e w3 ⟨rfl,hb3⟩;have HB3:=z00.mk (z14 HB2.out HB2.out.size hb3);clear hb3))
        go_ret
        exact⟨by rw[HFIN.out];rfl,HB3.out⟩
      · rw[if_neg k2];have k3:a0=3:=by
         unfold z57 at hb;rw[if_neg k1,if_neg k2]at hb
         split at hb
         · assumption
         · cases hb
        subst k3;clear hb k1 k2;go_enter Tryz.func106,Tryz.ntmps106
        go_wp2_with (go_at_call 138;refine(HR.out _).mono ?_;rintro e w1 ⟨rfl,hb1⟩;have HB1:=z00.mk (z7c hb1);have HC1:=z00.mk (z8g hb1);clear hb1;have hc0:=HC1.out.1;have hc1:=HC1.out.2.1;have hc2:=HC1.out.2.2;clear HC1)
        go_ret
        exact⟨by rw[show(⟨a2.data.toList.toArray⟩:ByteArray)=a2 from by apply ByteArray.ext;simp];rfl,HB1.out⟩
 · cases h

def num16 (l:List UInt8):Nat:=match (if l=[]then .syntax else z1z 0 l)with
 |.ok n=>n
 |.syntax=>0
 |.range=>18446744073709551615
def IsErr (v:Value):Prop:=∃tp p,v=.iface tp p
theorem cellSyn {w:World} (h:LaidW w):∃tp p,w.cell? ⟨2,0,none⟩=some (.iface tp p):=by
 obtain⟨tp,p,hv⟩:=h.eSyn;exact⟨tp,p,by have:=World.var?_cell gSyn hv 0;simpa using this⟩
theorem cellRan {w:World} (h:LaidW w):∃tp p,w.cell? ⟨3,0,none⟩=some (.iface tp p):=by
 obtain⟨tp,p,hv⟩:=h.eRan;exact⟨tp,p,by have:=World.var?_cell gRan hv 0;simpa using this⟩
theorem zaj {s:ByteArray} (h:s.size=0):s=⟨#[]⟩:=by
 obtain⟨⟨l⟩⟩:=s
 cases l with
 |nil=>rfl
 |cons _ _=>simp[ByteArray.size]at h
theorem z9f (s:ByteArray) (hs:s.size≤281474976710656) (w:World) :
 Calls Tryz.prog 167 #[.string s,.int .i64 16,.int .i64 64] w fun e w'=>e=.returned (Lib.uintTuple 195 (if s.data.toList=[]then .syntax else z1z 0 s.data.toList))∧Below w.heap.size w w':=by
 by_cases h0:s.size=0
 · obtain rfl:=zaj h0;refine(Tryz.internal_strconv_ParseUint_empty 16 64 w).mono ?_;rintro e w' ⟨rfl,rfl⟩;exact⟨rfl,Below.refl _ _⟩
 · refine(z6g s h0 (by omega) w).mono ?_;rintro e w' ⟨rfl,rfl⟩;rw[if_neg (fun h=>h0 (by rw[Lib.size_eq,h];rfl))];exact⟨rfl,Lib.bytesWorld_below _ _ _⟩
set_option maxHeartbeats 1600000 in
set_option maxRecDepth 100000 in
theorem zcq (s:ByteArray) (hs:s.size≤281474976710656) (w:World) (hLW:LaidW w) :
 Calls Tryz.prog 153 #[.string s,.int .i64 16,.int .i64 64] w fun e w'=>∃er,e=.returned (.tuple #[.int .u64 (num16 s.data.toList:Int),er])∧Below w.heap.size w w':=by
 have HU:=z00.mk (z9f s hs w);have HLW:=z00.mk hLW;have HS:=z00.mk hs;clear hLW hs;unfold num16
 cases hE:(if s.data.toList=[]then Lib.NumEnd.syntax else z1z 0 s.data.toList)with
 |ok n =>
  rw[hE]at HU;have HU':z00 (Calls Tryz.prog 167 #[.string s,.int .i64 16,.int .i64 64] w fun e w'=>e=.returned (.tuple #[.int .u64 (n:Int),.nilIface])∧Below w.heap.size w w'):=HU;clear HU hE;go_enter Tryz.func153,Tryz.ntmps153
  go_wp2_with fail
  refine HU'.out.mono ?_;rintro e w1 ⟨rfl,hb⟩;have HB:=z00.mk hb;clear hb;go_wp2
  go_ret2
  exact⟨_,rfl,HB.out⟩
 |«syntax» =>
  rw[hE]at HU;have HU':z00 (Calls Tryz.prog 167 #[.string s,.int .i64 16,.int .i64 64] w fun e w'=>e=.returned (.tuple #[.int .u64 0,.iface 195 (.int .i64 2)])∧Below w.heap.size w w'):=HU;clear HU hE;go_enter Tryz.func153,Tryz.ntmps153
  go_wp2_with fail
  refine HU'.out.mono ?_;rintro e w1 ⟨rfl,hb⟩;have HB:=z00.mk hb;clear hb
  go_wp2_with fail
  obtain⟨tp,p,hc⟩:=cellSyn (HLW.out.below HB.out);refine(Tryz.strconv_toError_syntax _ s 16 64 _ w1 HS.out hc (Or.inr ⟨tp,p,rfl⟩)).mono ?_;rintro e w2 ⟨N,rfl,-,-,hb⟩;have HB2:=z00.mk (z14 HB.out HB.out.size hb);clear hb;go_wp2
  go_ret2
  exact⟨_,rfl,HB2.out⟩
 |range =>
  rw[hE]at HU;have HU':z00 (Calls Tryz.prog 167 #[.string s,.int .i64 16,.int .i64 64] w fun e w'=>e=.returned (.tuple #[.int .u64 18446744073709551615,.iface 195 (.int .i64 1)])∧Below w.heap.size w w'):=HU;clear HU hE;go_enter Tryz.func153,Tryz.ntmps153
  go_wp2_with fail
  refine HU'.out.mono ?_;rintro e w1 ⟨rfl,hb⟩;have HB:=z00.mk hb;clear hb
  go_wp2_with fail
  obtain⟨tp,p,hc⟩:=cellRan (HLW.out.below HB.out);refine(Tryz.strconv_toError_range _ s 16 64 _ w1 HS.out hc (Or.inr ⟨tp,p,rfl⟩)).mono ?_;rintro e w2 ⟨N,rfl,-,-,hb⟩;have HB2:=z00.mk (z14 HB.out HB.out.size hb);clear hb;go_wp2
  go_ret2
  exact⟨_,rfl,HB2.out⟩
theorem zf5 (s:ByteArray) (hs:s.size≤281474976710656) (w:World) (hLW:LaidW w) :
 Calls Tryz.prog 154 #[.string s,.int .i64 10,.int .i64 64] w fun e w'=>∃n er,e=.returned (.tuple #[.int .i64 n,er])∧((∃v,Lib.parseIntB 64 s.data.toList=.ok v∧n=v∧er=.nilIface)∨((∀v,Lib.parseIntB 64 s.data.toList≠.ok v)∧IsErr er))∧Below w.heap.size w w':=by
 cases hE:Lib.parseIntB 64 s.data.toList with
 |ok v =>
  refine(Tryz.strconv_ParseInt_10_at64_ok s (by omega) v hE w).mono ?_;rintro e w' ⟨rfl,hw⟩;refine⟨_,_,rfl,Or.inl ⟨v,rfl,rfl,rfl⟩,?_⟩;rcases hw with rfl|⟨t,rfl⟩
  · exact Below.refl _ _
  · exact Lib.bytesWorld_below _ _ _
 |«syntax» =>
  obtain⟨tp,p,hv⟩:=hLW.eSyn;refine(Tryz.strconv_ParseInt_10_at64_syntax_var s hs hE tp p w hv).mono ?_;rintro e w' ⟨N,rfl,-,-,hb⟩;exact⟨_,_,rfl,Or.inr ⟨(fun v h=>by cases h),⟨_,_,rfl⟩⟩,hb⟩
 |range =>
  obtain⟨tp,p,hv⟩:=hLW.eRan;refine(Tryz.strconv_ParseInt_10_at64_range_var s hs hE tp p w hv).mono ?_;rintro e w' ⟨N,rfl,-,-,hb⟩;exact⟨_,_,rfl,Or.inr ⟨(fun v h=>by cases h),⟨_,_,rfl⟩⟩,hb⟩
def candR (t:ByteArray):Int × Int × ByteArray :=
 if Lib.hasPrefix t.data.toList [35]=true then(2,wrap64 (num16 (Lib.trimPrefix t.data.toList [35])),⟨#[]⟩)
 else match Lib.parseIntB 64 t.data.toList with
  |.ok n=>(1,n,⟨#[]⟩)
  |_=>(3,0,t)
def readR (t:ByteArray):Int × Int × ByteArray × Int :=
 if t.size=0∨textL (candR t).1 (candR t).2.1 (candR t).2.2≠t.data.toList then(0,0,⟨#[]⟩,2)else((candR t).1,(candR t).2.1,(candR t).2.2,0)
def z1r.f (a0:ByteArray):Option (Int × Int × ByteArray × Int):=if a0.size≤281474976710656 then some (readR a0)else none
theorem z74 (w:World) (a b:Obj):Below w.heap.size w ((w.alloc a).alloc b):=((Below.refl _ _).alloc (Nat.le_refl _) a).alloc (by simp) b
theorem two_1 (w:World) (a b:Array Value) (t u:TypeId):((w.alloc (.cells a t)).alloc (.cells b u)).heap[w.heap.size+1]?=some (.cells b u (0,0)):=by
 have:=z1h (w.alloc (.cells a t)) (.cells b u)
 rwa [show(w.alloc (.cells a t)).heap.size=w.heap.size+1 from Array.size_push ..]at this
theorem two_0 (w:World) (a b:Array Value) (t u:TypeId):((w.alloc (.cells a t)).alloc (.cells b u)).heap[w.heap.size]?=some (.cells a t (0,0)):=z06 (z1h w _) _
theorem trim_le (t:ByteArray):(⟨(Lib.trimPrefix t.data.toList [35]).toArray⟩:ByteArray).size≤t.size:=by
 rw[Lib.size_eq,Lib.size_eq t,List.toList_toArray];unfold Lib.trimPrefix
 split
 · rw[List.length_drop];omega
 · exact Nat.le_refl _
theorem int_ok (t:ByteArray) (hs:t.size≤281474976710656) (w:World) (n:Int) (hn:Lib.parseIntB 64 t.data.toList=.ok n) :
 Calls Tryz.prog 154 #[.string t,.int .i64 10,.int .i64 64] w fun e w'=>e=.returned (.tuple #[.int .i64 n,.nilIface])∧Below w.heap.size w w':=by
 refine(Tryz.strconv_ParseInt_10_at64_ok t (by omega) n hn w).mono ?_;rintro e w' ⟨rfl,hw⟩;refine⟨rfl,?_⟩;rcases hw with rfl|⟨t,rfl⟩
 · exact Below.refl _ _
 · exact Lib.bytesWorld_below _ _ _
theorem zgj (t:ByteArray) (hs:t.size≤281474976710656) (w:World) (hLW:LaidW w) (hn:∀n,Lib.parseIntB 64 t.data.toList≠.ok n) :
 Calls Tryz.prog 154 #[.string t,.int .i64 10,.int .i64 64] w fun e w'=>∃m tp p,e=.returned (.tuple #[.int .i64 m,.iface tp p])∧Below w.heap.size w w':=by
 refine(zf5 t hs w hLW).mono ?_;rintro e w' ⟨m,er,rfl,h|⟨h,tp,p,rfl⟩,hb⟩
 · obtain⟨v,hv,_⟩:=h;exact absurd hv (hn v)
 · exact⟨m,tp,p,rfl,hb⟩
set_option maxHeartbeats 1600000 in
set_option maxRecDepth 100000 in
theorem zgo (t:ByteArray) (hs:t.size≤281474976710656) (w:World) (hLW0:LaidW w) (hp:Lib.hasPrefix t.data.toList [35]=true) (h0:t.size≠0) :
 Calls Tryz.prog 129 #[.string t] w fun e w'=>e=.returned (.tuple #[.agg #[.int .i64 (readR t).1,.int .i64 (readR t).2.1,.string (readR t).2.2.1],.int .i64 (readR t).2.2.2])∧Below w.heap.size w w':=by
 have hemp:t.toList.isEmpty=false:=by
  rw[←decide_eq_emptyBytes];exact decide_eq_false (fun h=>h0 (by rw[h];rfl))
 have HLW:=z00.mk hLW0;clear hLW0;have hcut:=Tryz.strings_CutPrefix t ⟨#[35]⟩;rw[show(⟨#[35]⟩:ByteArray).data.toList=[35]from rfl,hp]at hcut;have HC:=z00.mk hcut;clear hcut;have hcand:candR t=(2,wrap64 (num16 (Lib.trimPrefix t.data.toList [35]):Int),⟨#[]⟩):=by unfold candR;rw[if_pos hp]
 have HR:z00 (-9223372036854775808≤wrap64 (num16 (Lib.trimPrefix t.data.toList [35]):Int)∧wrap64 (num16 (Lib.trimPrefix t.data.toList [35]):Int)≤9223372036854775807):=⟨by unfold wrap64;omega⟩
 clear hp;go_enter Tryz.func129,Tryz.ntmps129
 go_wp2_with fail
 refine(HC.out _).mono ?_;rintro e w1 ⟨rfl,rfl⟩
 go_wp2_with fail
 have HB0:=z00.mk (z74 w (.cells #[.int .i64 0,.int .i64 0,.string ⟨#[]⟩] 58) (.cells #[.int .i64 3,.int .i64 0,.string t] 58));have K00:=z00.mk (two_0 w #[.int .i64 0,.int .i64 0,.string ⟨#[]⟩] #[.int .i64 3,.int .i64 0,.string t] 58 58);have K01:=z00.mk (two_1 w #[.int .i64 0,.int .i64 0,.string ⟨#[]⟩] #[.int .i64 3,.int .i64 0,.string t] 58 58);refine(zcq _ (by have:=trim_le t;omega) _ ((HLW.out.alloc _).alloc _)).mono ?_;rintro e w1 ⟨er,rfl,hb1⟩;have K0:=z00.mk (z0h (g:=w.heap.size) K00.out hb1);have K1:=z00.mk (z0h (g:=w.heap.size+1) K01.out hb1);have HB:=z00.mk (z14 HB0.out HB0.out.size hb1);clear hb1 HB0 K00 K01;have hz0:w1.cell? ⟨w.heap.size+1,0,none⟩=some (.int .i64 3):=(z01 K1.out 0).trans rfl;have hz1:w1.cell? ⟨w.heap.size+1,1,none⟩=some (.int .i64 0):=(z01 K1.out 1).trans rfl;have hz2:w1.cell? ⟨w.heap.size+1,2,none⟩=some (.string t):=(z01 K1.out 2).trans rfl;have hzf0:=z03 K1.out 0;have hzf1:=z03 K1.out 1;have hzf2:=z03 K1.out 2
 go_wp2_with fail
 clear hz0 hz1 hz2 hzf0 hzf1 hzf2;have HBs:z00 (Below w.heap.size w (((w1.setCell ⟨w.heap.size+1,0,none⟩ (.int .i64 2)).setCell ⟨w.heap.size+1,1,none⟩ (.int .i64 (wrap64 (num16 (Lib.trimPrefix t.data.toList [35]):Int)))).setCell ⟨w.heap.size+1,2,none⟩ (.string ⟨#[]⟩))):=⟨z08 (z08 (z08 HB.out (by omega)) (by omega)) (by omega)⟩
 have K1s:z00 ((((w1.setCell ⟨w.heap.size+1,0,none⟩ (.int .i64 2)).setCell ⟨w.heap.size+1,1,none⟩ (.int .i64 (wrap64 (num16 (Lib.trimPrefix t.data.toList [35]):Int)))).setCell ⟨w.heap.size+1,2,none⟩ (.string ⟨#[]⟩)).heap[w.heap.size+1]?=some (.cells #[.int .i64 2,.int .i64 (wrap64 (num16 (Lib.trimPrefix t.data.toList [35]):Int)),.string ⟨#[]⟩] 58 (0,0))):=⟨z0l (cs:=#[.int .i64 2,.int .i64 (wrap64 (num16 (Lib.trimPrefix t.data.toList [35]):Int)),.string t]) (z0l (cs:=#[.int .i64 2,.int .i64 0,.string t]) (z0l (cs:=#[.int .i64 3,.int .i64 0,.string t]) K1.out 0 _ rfl) 1 _ rfl) 2 _ rfl⟩
 have K0s:z00 ((((w1.setCell ⟨w.heap.size+1,0,none⟩ (.int .i64 2)).setCell ⟨w.heap.size+1,1,none⟩ (.int .i64 (wrap64 (num16 (Lib.trimPrefix t.data.toList [35]):Int)))).setCell ⟨w.heap.size+1,2,none⟩ (.string ⟨#[]⟩)).heap[w.heap.size]?=some (.cells #[.int .i64 0,.int .i64 0,.string ⟨#[]⟩] 58 (0,0))):=⟨z0w (z0w (z0w K0.out zA0y _) zA0y _) zA0y _⟩
 have HLs:=HLW.out.below HBs.out;refine(z3y.calls (2) (wrap64 (num16 (Lib.trimPrefix t.data.toList [35]):Int)) (⟨#[]⟩) _ _ HLs (by unfold z3y.f;rw[if_pos HR.out])).mono ?_;rintro e w2 ⟨rfl,hb2⟩;have K0':=z00.mk (z0h (g:=w.heap.size) K0s.out hb2);have K1':=z00.mk (z0h (g:=w.heap.size+1) K1s.out hb2);have HB2:=z00.mk (z14 HBs.out HBs.out.size hb2);clear hb2 HBs K0s K1s HLs;have ha0:w2.cell? ⟨w.heap.size,0,none⟩=some (.int .i64 0):=(z01 K0'.out 0).trans rfl;have ha1:w2.cell? ⟨w.heap.size,1,none⟩=some (.int .i64 0):=(z01 K0'.out 1).trans rfl;have ha2:w2.cell? ⟨w.heap.size,2,none⟩=some (.string ⟨#[]⟩):=(z01 K0'.out 2).trans rfl;have haf0:=z03 K0'.out 0;have haf1:=z03 K0'.out 1;have haf2:=z03 K0'.out 2;have hb0:w2.cell? ⟨w.heap.size+1,0,none⟩=some (.int .i64 2):=(z01 K1'.out 0).trans rfl;have hb1:w2.cell? ⟨w.heap.size+1,1,none⟩=some (.int .i64 (wrap64 (num16 (Lib.trimPrefix t.data.toList [35]):Int))):=(z01 K1'.out 1).trans rfl;have hb2:w2.cell? ⟨w.heap.size+1,2,none⟩=some (.string ⟨#[]⟩):=(z01 K1'.out 2).trans rfl;have hbf0:=z03 K1'.out 0;have hbf1:=z03 K1'.out 1;have hbf2:=z03 K1'.out 2;have hn1:w.heap.size≠w.heap.size+1:=by omega
 have hn2:w.heap.size+1≠w.heap.size:=by omega
 by_cases hT:textL (2) (wrap64 (num16 (Lib.trimPrefix t.data.toList [35]):Int)) (⟨#[]⟩)=t.data.toList
 · have hR:readR t=(2,wrap64 (num16 (Lib.trimPrefix t.data.toList [35]):Int),⟨#[]⟩,0):=by unfold readR;rw[hcand,if_neg (by rintro(h|h);exact h0 h;exact h hT)]
   have hne:(textL (2) (wrap64 (num16 (Lib.trimPrefix t.data.toList [35]):Int)) (⟨#[]⟩)==t.toList)=true:=by rw[z2d,hT];simp
   go_wp2;refine bodyPost_ret (z1w rfl _ _ w.heap.size 58 #[.int .i64 2,.int .i64 (wrap64 (num16 (Lib.trimPrefix t.data.toList [35]):Int)),.string ⟨#[]⟩] (0,0) _ rfl (z0l (cs:=#[.int .i64 2,.int .i64 (wrap64 (num16 (Lib.trimPrefix t.data.toList [35]):Int)),.string ⟨#[]⟩]) (z0l (cs:=#[.int .i64 2,.int .i64 0,.string ⟨#[]⟩]) (z0l (cs:=#[.int .i64 0,.int .i64 0,.string ⟨#[]⟩]) K0'.out 0 _ rfl) 1 _ rfl) 2 _ rfl) Tryz.underlying58 rfl (by kernel_rfl)) rfl ?_;exact⟨(by rw[hR];try rfl),z08 (z08 (z08 HB2.out (Nat.le_refl _)) (Nat.le_refl _)) (Nat.le_refl _)⟩
 · have hR:readR t=(0,0,⟨#[]⟩,2):=by unfold readR;rw[hcand,if_pos (Or.inr hT)]
   have hne:(textL (2) (wrap64 (num16 (Lib.trimPrefix t.data.toList [35]):Int)) (⟨#[]⟩)==t.toList)=false:=by rw[z2d,beq_eq_false_iff_ne];exact hT
   go_wp2;refine bodyPost_ret (z1w rfl _ _ w.heap.size 58 #[.int .i64 0,.int .i64 0,.string ⟨#[]⟩] (0,0) _ rfl (z0l (cs:=#[.int .i64 0,.int .i64 0,.string ⟨#[]⟩]) (z0l (cs:=#[.int .i64 0,.int .i64 0,.string ⟨#[]⟩]) (z0l (cs:=#[.int .i64 0,.int .i64 0,.string ⟨#[]⟩]) K0'.out 0 _ rfl) 1 _ rfl) 2 _ rfl) Tryz.underlying58 rfl (by kernel_rfl)) rfl ?_;exact⟨(by rw[hR];try rfl),z08 (z08 (z08 HB2.out (Nat.le_refl _)) (Nat.le_refl _)) (Nat.le_refl _)⟩
set_option maxHeartbeats 1600000 in
set_option maxRecDepth 100000 in
theorem read_int (t:ByteArray) (hs:t.size≤281474976710656) (w:World) (hLW0:LaidW w) (hp:Lib.hasPrefix t.data.toList [35]=false) (n:Int) (hn:Lib.parseIntB 64 t.data.toList=.ok n) (h0:t.size≠0) :
 Calls Tryz.prog 129 #[.string t] w fun e w'=>e=.returned (.tuple #[.agg #[.int .i64 (readR t).1,.int .i64 (readR t).2.1,.string (readR t).2.2.1],.int .i64 (readR t).2.2.2])∧Below w.heap.size w w':=by
 have hemp:t.toList.isEmpty=false:=by
  rw[←decide_eq_emptyBytes];exact decide_eq_false (fun h=>h0 (by rw[h];rfl))
 have HLW:=z00.mk hLW0;clear hLW0;have hcut:=Tryz.strings_CutPrefix t ⟨#[35]⟩;rw[show(⟨#[35]⟩:ByteArray).data.toList=[35]from rfl,hp]at hcut;have HC:=z00.mk hcut;clear hcut;have hcand:candR t=(1,n,⟨#[]⟩):=by unfold candR;rw[if_neg (by simp[hp]),hn]
 have HR:z00 (-9223372036854775808≤n∧n≤9223372036854775807):=⟨by have:=Lib.parseIntB_bounds hn;have e:((2 ^ (64 - 1):Nat):Int)=9223372036854775808:=(by decide);rw[e]at this;omega⟩
 have HI:z00 (∀w,Calls Tryz.prog 154 #[.string t,.int .i64 10,.int .i64 64] w fun e w'=>e=.returned (.tuple #[.int .i64 n,.nilIface])∧Below w.heap.size w w'):=⟨fun w=>int_ok t hs w n hn⟩
 clear hp hn;go_enter Tryz.func129,Tryz.ntmps129
 go_wp2_with fail
 refine(HC.out _).mono ?_;rintro e w1 ⟨rfl,rfl⟩
 go_wp2_with fail
 have HB0:=z00.mk (z74 w (.cells #[.int .i64 0,.int .i64 0,.string ⟨#[]⟩] 58) (.cells #[.int .i64 3,.int .i64 0,.string t] 58));have K00:=z00.mk (two_0 w #[.int .i64 0,.int .i64 0,.string ⟨#[]⟩] #[.int .i64 3,.int .i64 0,.string t] 58 58);have K01:=z00.mk (two_1 w #[.int .i64 0,.int .i64 0,.string ⟨#[]⟩] #[.int .i64 3,.int .i64 0,.string t] 58 58);refine(HI.out _).mono ?_;rintro e w1 ⟨rfl,hb1⟩;have K0:=z00.mk (z0h (g:=w.heap.size) K00.out hb1);have K1:=z00.mk (z0h (g:=w.heap.size+1) K01.out hb1);have HB:=z00.mk (z14 HB0.out HB0.out.size hb1);clear hb1 HB0 K00 K01;have hz0:w1.cell? ⟨w.heap.size+1,0,none⟩=some (.int .i64 3):=(z01 K1.out 0).trans rfl;have hz1:w1.cell? ⟨w.heap.size+1,1,none⟩=some (.int .i64 0):=(z01 K1.out 1).trans rfl;have hz2:w1.cell? ⟨w.heap.size+1,2,none⟩=some (.string t):=(z01 K1.out 2).trans rfl;have hzf0:=z03 K1.out 0;have hzf1:=z03 K1.out 1;have hzf2:=z03 K1.out 2
 go_wp2_with fail
 clear hz0 hz1 hz2 hzf0 hzf1 hzf2;have HBs:z00 (Below w.heap.size w (((w1.setCell ⟨w.heap.size+1,0,none⟩ (.int .i64 1)).setCell ⟨w.heap.size+1,1,none⟩ (.int .i64 n)).setCell ⟨w.heap.size+1,2,none⟩ (.string ⟨#[]⟩))):=⟨z08 (z08 (z08 HB.out (by omega)) (by omega)) (by omega)⟩
 have K1s:z00 ((((w1.setCell ⟨w.heap.size+1,0,none⟩ (.int .i64 1)).setCell ⟨w.heap.size+1,1,none⟩ (.int .i64 n)).setCell ⟨w.heap.size+1,2,none⟩ (.string ⟨#[]⟩)).heap[w.heap.size+1]?=some (.cells #[.int .i64 1,.int .i64 n,.string ⟨#[]⟩] 58 (0,0))):=⟨z0l (cs:=#[.int .i64 1,.int .i64 n,.string t]) (z0l (cs:=#[.int .i64 1,.int .i64 0,.string t]) (z0l (cs:=#[.int .i64 3,.int .i64 0,.string t]) K1.out 0 _ rfl) 1 _ rfl) 2 _ rfl⟩
 have K0s:z00 ((((w1.setCell ⟨w.heap.size+1,0,none⟩ (.int .i64 1)).setCell ⟨w.heap.size+1,1,none⟩ (.int .i64 n)).setCell ⟨w.heap.size+1,2,none⟩ (.string ⟨#[]⟩)).heap[w.heap.size]?=some (.cells #[.int .i64 0,.int .i64 0,.string ⟨#[]⟩] 58 (0,0))):=⟨z0w (z0w (z0w K0.out zA0y _) zA0y _) zA0y _⟩
 have HLs:=HLW.out.below HBs.out;refine(z3y.calls (1) (n) (⟨#[]⟩) _ _ HLs (by unfold z3y.f;rw[if_pos HR.out])).mono ?_;rintro e w2 ⟨rfl,hb2⟩;have K0':=z00.mk (z0h (g:=w.heap.size) K0s.out hb2);have K1':=z00.mk (z0h (g:=w.heap.size+1) K1s.out hb2);have HB2:=z00.mk (z14 HBs.out HBs.out.size hb2);clear hb2 HBs K0s K1s HLs;have ha0:w2.cell? ⟨w.heap.size,0,none⟩=some (.int .i64 0):=(z01 K0'.out 0).trans rfl;have ha1:w2.cell? ⟨w.heap.size,1,none⟩=some (.int .i64 0):=(z01 K0'.out 1).trans rfl;have ha2:w2.cell? ⟨w.heap.size,2,none⟩=some (.string ⟨#[]⟩):=(z01 K0'.out 2).trans rfl;have haf0:=z03 K0'.out 0;have haf1:=z03 K0'.out 1;have haf2:=z03 K0'.out 2;have hb0:w2.cell? ⟨w.heap.size+1,0,none⟩=some (.int .i64 1):=(z01 K1'.out 0).trans rfl;have hb1:w2.cell? ⟨w.heap.size+1,1,none⟩=some (.int .i64 n):=(z01 K1'.out 1).trans rfl;have hb2:w2.cell? ⟨w.heap.size+1,2,none⟩=some (.string ⟨#[]⟩):=(z01 K1'.out 2).trans rfl;have hbf0:=z03 K1'.out 0;have hbf1:=z03 K1'.out 1;have hbf2:=z03 K1'.out 2;have hn1:w.heap.size≠w.heap.size+1:=by omega
 have hn2:w.heap.size+1≠w.heap.size:=by omega
 by_cases hT:textL (1) (n) (⟨#[]⟩)=t.data.toList
 · have hR:readR t=(1,n,⟨#[]⟩,0):=by unfold readR;rw[hcand,if_neg (by rintro(h|h);exact h0 h;exact h hT)]
   have hne:(textL (1) (n) (⟨#[]⟩)==t.toList)=true:=by rw[z2d,hT];simp
   go_wp2;refine bodyPost_ret (z1w rfl _ _ w.heap.size 58 #[.int .i64 1,.int .i64 n,.string ⟨#[]⟩] (0,0) _ rfl (z0l (cs:=#[.int .i64 1,.int .i64 n,.string ⟨#[]⟩]) (z0l (cs:=#[.int .i64 1,.int .i64 0,.string ⟨#[]⟩]) (z0l (cs:=#[.int .i64 0,.int .i64 0,.string ⟨#[]⟩]) K0'.out 0 _ rfl) 1 _ rfl) 2 _ rfl) Tryz.underlying58 rfl (by kernel_rfl)) rfl ?_;exact⟨(by rw[hR];try rfl),z08 (z08 (z08 HB2.out (Nat.le_refl _)) (Nat.le_refl _)) (Nat.le_refl _)⟩
 · have hR:readR t=(0,0,⟨#[]⟩,2):=by unfold readR;rw[hcand,if_pos (Or.inr hT)]
   have hne:(textL (1) (n) (⟨#[]⟩)==t.toList)=false:=by rw[z2d,beq_eq_false_iff_ne];exact hT
   go_wp2;refine bodyPost_ret (z1w rfl _ _ w.heap.size 58 #[.int .i64 0,.int .i64 0,.string ⟨#[]⟩] (0,0) _ rfl (z0l (cs:=#[.int .i64 0,.int .i64 0,.string ⟨#[]⟩]) (z0l (cs:=#[.int .i64 0,.int .i64 0,.string ⟨#[]⟩]) (z0l (cs:=#[.int .i64 0,.int .i64 0,.string ⟨#[]⟩]) K0'.out 0 _ rfl) 1 _ rfl) 2 _ rfl) Tryz.underlying58 rfl (by kernel_rfl)) rfl ?_;exact⟨(by rw[hR];try rfl),z08 (z08 (z08 HB2.out (Nat.le_refl _)) (Nat.le_refl _)) (Nat.le_refl _)⟩
set_option maxHeartbeats 1600000 in
set_option maxRecDepth 100000 in
theorem ze2 (t:ByteArray) (hs:t.size≤281474976710656) (w:World) (hLW0:LaidW w) (hp:Lib.hasPrefix t.data.toList [35]=false) (hn:∀n,Lib.parseIntB 64 t.data.toList≠.ok n) (h0:t.size≠0) :
 Calls Tryz.prog 129 #[.string t] w fun e w'=>e=.returned (.tuple #[.agg #[.int .i64 (readR t).1,.int .i64 (readR t).2.1,.string (readR t).2.2.1],.int .i64 (readR t).2.2.2])∧Below w.heap.size w w':=by
 have hemp:t.toList.isEmpty=false:=by
  rw[←decide_eq_emptyBytes];exact decide_eq_false (fun h=>h0 (by rw[h];rfl))
 have HLW:=z00.mk hLW0;clear hLW0;have hcut:=Tryz.strings_CutPrefix t ⟨#[35]⟩;rw[show(⟨#[35]⟩:ByteArray).data.toList=[35]from rfl,hp]at hcut;have HC:=z00.mk hcut;clear hcut;have hcand:candR t=(3,0,t):=by
  unfold candR;rw[if_neg (by simp[hp])]
  cases h:Lib.parseIntB 64 t.data.toList with
  |ok n=>exact absurd h (hn n)
  |«syntax»=>rfl
  |range=>rfl
 have HR:z00 (-9223372036854775808≤(0:Int)∧(0:Int)≤9223372036854775807):=⟨by omega⟩
 have HI:z00 (∀w,LaidW w→Calls Tryz.prog 154 #[.string t,.int .i64 10,.int .i64 64] w fun e w'=>∃m tp p,e=.returned (.tuple #[.int .i64 m,.iface tp p])∧Below w.heap.size w w'):=⟨fun w h=>zgj t hs w h hn⟩
 clear hp hn;go_enter Tryz.func129,Tryz.ntmps129
 go_wp2_with fail
 refine(HC.out _).mono ?_;rintro e w1 ⟨rfl,rfl⟩
 go_wp2_with fail
 have HB0:=z00.mk (z74 w (.cells #[.int .i64 0,.int .i64 0,.string ⟨#[]⟩] 58) (.cells #[.int .i64 3,.int .i64 0,.string t] 58));have K00:=z00.mk (two_0 w #[.int .i64 0,.int .i64 0,.string ⟨#[]⟩] #[.int .i64 3,.int .i64 0,.string t] 58 58);have K01:=z00.mk (two_1 w #[.int .i64 0,.int .i64 0,.string ⟨#[]⟩] #[.int .i64 3,.int .i64 0,.string t] 58 58);refine(HI.out _ ((HLW.out.alloc _).alloc _)).mono ?_;rintro e w1 ⟨m,tp,p,rfl,hb1⟩;have K0:=z00.mk (z0h (g:=w.heap.size) K00.out hb1);have K1:=z00.mk (z0h (g:=w.heap.size+1) K01.out hb1);have HB:=z00.mk (z14 HB0.out HB0.out.size hb1);clear hb1 HB0 K00 K01;have hz0:w1.cell? ⟨w.heap.size+1,0,none⟩=some (.int .i64 3):=(z01 K1.out 0).trans rfl;have hz1:w1.cell? ⟨w.heap.size+1,1,none⟩=some (.int .i64 0):=(z01 K1.out 1).trans rfl;have hz2:w1.cell? ⟨w.heap.size+1,2,none⟩=some (.string t):=(z01 K1.out 2).trans rfl;have hzf0:=z03 K1.out 0;have hzf1:=z03 K1.out 1;have hzf2:=z03 K1.out 2
 go_wp2_with fail
 clear hz0 hz1 hz2 hzf0 hzf1 hzf2;have HBs:=HB;have K1s:=K1;have K0s:=K0;have HLs:=HLW.out.below HBs.out;refine(z3y.calls (3) (0) (t) _ _ HLs (by unfold z3y.f;rw[if_pos HR.out])).mono ?_;rintro e w2 ⟨rfl,hb2⟩;have K0':=z00.mk (z0h (g:=w.heap.size) K0s.out hb2);have K1':=z00.mk (z0h (g:=w.heap.size+1) K1s.out hb2);have HB2:=z00.mk (z14 HBs.out HBs.out.size hb2);clear hb2 HBs K0s K1s HLs;have ha0:w2.cell? ⟨w.heap.size,0,none⟩=some (.int .i64 0):=(z01 K0'.out 0).trans rfl;have ha1:w2.cell? ⟨w.heap.size,1,none⟩=some (.int .i64 0):=(z01 K0'.out 1).trans rfl;have ha2:w2.cell? ⟨w.heap.size,2,none⟩=some (.string ⟨#[]⟩):=(z01 K0'.out 2).trans rfl;have haf0:=z03 K0'.out 0;have haf1:=z03 K0'.out 1;have haf2:=z03 K0'.out 2;have hb0:w2.cell? ⟨w.heap.size+1,0,none⟩=some (.int .i64 3):=(z01 K1'.out 0).trans rfl;have hb1:w2.cell? ⟨w.heap.size+1,1,none⟩=some (.int .i64 0):=(z01 K1'.out 1).trans rfl;have hb2:w2.cell? ⟨w.heap.size+1,2,none⟩=some (.string t):=(z01 K1'.out 2).trans rfl;have hbf0:=z03 K1'.out 0;have hbf1:=z03 K1'.out 1;have hbf2:=z03 K1'.out 2;have hn1:w.heap.size≠w.heap.size+1:=by omega
 have hn2:w.heap.size+1≠w.heap.size:=by omega
 by_cases hT:textL (3) (0) (t)=t.data.toList
 · have hR:readR t=(3,0,t,0):=by unfold readR;rw[hcand,if_neg (by rintro(h|h);exact h0 h;exact h hT)]
   have hne:(textL (3) (0) (t)==t.toList)=true:=by rw[z2d,hT];simp
   go_wp2;refine bodyPost_ret (z1w rfl _ _ w.heap.size 58 #[.int .i64 3,.int .i64 0,.string t] (0,0) _ rfl (z0l (cs:=#[.int .i64 3,.int .i64 0,.string ⟨#[]⟩]) (z0l (cs:=#[.int .i64 3,.int .i64 0,.string ⟨#[]⟩]) (z0l (cs:=#[.int .i64 0,.int .i64 0,.string ⟨#[]⟩]) K0'.out 0 _ rfl) 1 _ rfl) 2 _ rfl) Tryz.underlying58 rfl (by kernel_rfl)) rfl ?_;exact⟨(by rw[hR];try rfl),z08 (z08 (z08 HB2.out (Nat.le_refl _)) (Nat.le_refl _)) (Nat.le_refl _)⟩
 · have hR:readR t=(0,0,⟨#[]⟩,2):=by unfold readR;rw[hcand,if_pos (Or.inr hT)]
   have hne:(textL (3) (0) (t)==t.toList)=false:=by rw[z2d,beq_eq_false_iff_ne];exact hT
   go_wp2;refine bodyPost_ret (z1w rfl _ _ w.heap.size 58 #[.int .i64 0,.int .i64 0,.string ⟨#[]⟩] (0,0) _ rfl (z0l (cs:=#[.int .i64 0,.int .i64 0,.string ⟨#[]⟩]) (z0l (cs:=#[.int .i64 0,.int .i64 0,.string ⟨#[]⟩]) (z0l (cs:=#[.int .i64 0,.int .i64 0,.string ⟨#[]⟩]) K0'.out 0 _ rfl) 1 _ rfl) 2 _ rfl) Tryz.underlying58 rfl (by kernel_rfl)) rfl ?_;exact⟨(by rw[hR];try rfl),z08 (z08 (z08 HB2.out (Nat.le_refl _)) (Nat.le_refl _)) (Nat.le_refl _)⟩
theorem zd6:readR ⟨#[]⟩=(0,0,⟨#[]⟩,2):=by
 have h:(⟨#[]⟩:ByteArray).size=0:=rfl;unfold readR;rw[if_pos (Or.inl h)]
set_option maxHeartbeats 1600000 in
set_option maxRecDepth 100000 in
theorem zec (w:World) (hLW0:LaidW w) :
 Calls Tryz.prog 129 #[.string ⟨#[]⟩] w fun e w'=>e=.returned (.tuple #[.agg #[.int .i64 0,.int .i64 0,.string ⟨#[]⟩],.int .i64 2])∧Below w.heap.size w w':=by
 have HLW:=z00.mk hLW0;clear hLW0;have HC:z00 (∀w,Calls Tryz.prog 152 #[.string ⟨#[]⟩,.string ⟨#[35]⟩] w fun e w'=>e=.returned (.tuple #[.string ⟨#[]⟩,.bool false])∧w'=w):=⟨Tryz.strings_CutPrefix ⟨#[]⟩ ⟨#[35]⟩⟩
 have HI:z00 (∀w,LaidW w→Calls Tryz.prog 154 #[.string ⟨#[]⟩,.int .i64 10,.int .i64 64] w fun e w'=>∃m tp p,e=.returned (.tuple #[.int .i64 m,.iface tp p])∧Below w.heap.size w w'):=⟨fun w h=>zgj ⟨#[]⟩ (by decide) w h (fun n h=>by cases h)⟩
 have hemp:(⟨#[]⟩:ByteArray).toList.isEmpty=true:=by rw[z2d];rfl
 go_enter Tryz.func129,Tryz.ntmps129
 go_wp2_with fail
 refine(HC.out _).mono ?_;rintro e w1 ⟨rfl,rfl⟩
 go_wp2_with fail
 have HB0:=z00.mk (z74 w (.cells #[.int .i64 0,.int .i64 0,.string ⟨#[]⟩] 58) (.cells #[.int .i64 3,.int .i64 0,.string ⟨#[]⟩] 58));have K00:=z00.mk (two_0 w #[.int .i64 0,.int .i64 0,.string ⟨#[]⟩] #[.int .i64 3,.int .i64 0,.string ⟨#[]⟩] 58 58);have K01:=z00.mk (two_1 w #[.int .i64 0,.int .i64 0,.string ⟨#[]⟩] #[.int .i64 3,.int .i64 0,.string ⟨#[]⟩] 58 58);refine(HI.out _ ((HLW.out.alloc _).alloc _)).mono ?_;rintro e w1 ⟨m,tp,p,rfl,hb1⟩;have K0':=z00.mk (z0h (g:=w.heap.size) K00.out hb1);have K1:=z00.mk (z0h (g:=w.heap.size+1) K01.out hb1);have HB2:=z00.mk (z14 HB0.out HB0.out.size hb1);clear hb1 HB0 K00 K01;have hz0:w1.cell? ⟨w.heap.size+1,0,none⟩=some (.int .i64 3):=(z01 K1.out 0).trans rfl;have hz1:w1.cell? ⟨w.heap.size+1,1,none⟩=some (.int .i64 0):=(z01 K1.out 1).trans rfl;have hz2:w1.cell? ⟨w.heap.size+1,2,none⟩=some (.string ⟨#[]⟩):=(z01 K1.out 2).trans rfl;have ha0:w1.cell? ⟨w.heap.size,0,none⟩=some (.int .i64 0):=(z01 K0'.out 0).trans rfl;have ha1:w1.cell? ⟨w.heap.size,1,none⟩=some (.int .i64 0):=(z01 K0'.out 1).trans rfl;have ha2:w1.cell? ⟨w.heap.size,2,none⟩=some (.string ⟨#[]⟩):=(z01 K0'.out 2).trans rfl;have haf0:=z03 K0'.out 0;have haf1:=z03 K0'.out 1;have haf2:=z03 K0'.out 2;go_wp2;refine bodyPost_ret (z1w rfl _ _ w.heap.size 58 #[.int .i64 0,.int .i64 0,.string ⟨#[]⟩] (0,0) _ rfl (z0l (cs:=#[.int .i64 0,.int .i64 0,.string ⟨#[]⟩]) (z0l (cs:=#[.int .i64 0,.int .i64 0,.string ⟨#[]⟩]) (z0l (cs:=#[.int .i64 0,.int .i64 0,.string ⟨#[]⟩]) K0'.out 0 _ rfl) 1 _ rfl) 2 _ rfl) Tryz.underlying58 rfl (by kernel_rfl)) rfl ?_;exact⟨rfl,z08 (z08 (z08 HB2.out (Nat.le_refl _)) (Nat.le_refl _)) (Nat.le_refl _)⟩
theorem z1r.calls (a0:ByteArray) (r1:Int) (r2:Int) (r3:ByteArray) (r4:Int) (w:World) (hLW:LaidW w) (h:z1r.f a0=some (r1,r2,r3,r4)) :
 Calls Tryz.prog 129 #[.string a0] w fun e w'=>e=.returned (.tuple #[.agg #[.int .i64 r1,.int .i64 r2,.string r3],.int .i64 r4])∧Below w.heap.size w w':=by
 unfold z1r.f at h
 split at h
 · rename_i hs;have hR:=Option.some.inj h;have e1:(readR a0).1=r1:=by rw[hR]
   have e2:(readR a0).2.1=r2:=by rw[hR]
   have e3:(readR a0).2.2.1=r3:=by rw[hR]
   have e4:(readR a0).2.2.2=r4:=by rw[hR]
   rw[←e1,←e2,←e3,←e4];clear e1 e2 e3 e4 hR h
   by_cases h0:a0.size=0
   · obtain rfl:=zaj h0;rw[zd6];exact zec w hLW
   · cases hp:Lib.hasPrefix a0.data.toList [35]with
     |true=>exact zgo a0 hs w hLW hp h0
     |false =>
      cases hn:Lib.parseIntB 64 a0.data.toList with
      |ok n=>exact read_int a0 hs w hLW hp n hn h0
      |«syntax»=>exact ze2 a0 hs w hLW hp (fun n h=>by rw[hn]at h;cases h) h0
      |range=>exact ze2 a0 hs w hLW hp (fun n h=>by rw[hn]at h;cases h) h0
 · cases h

theorem z9u:∀(d u:Nat),u<10 ^ (d+1)→Lib.nDigits u≤d+1
 |0,u,h=>by rw[Lib.nDigits_small (by simpa using h)];exact Nat.le_refl _
 |d+1,u,h=>by
  by_cases h1:u<10
  · rw[Lib.nDigits_small h1];omega
  · rw[Lib.nDigits_big h1];have:=z9u d (u / 10) (by rw[Nat.pow_succ]at h;omega);omega
theorem zet (u:Nat) (h:u≤9223372036854775808):Lib.nDigits u≤20:=z9u 19 u (Nat.lt_of_le_of_lt h (by decide))
structure z5j (b:Nat) (l:Nat→List UInt8):Prop where
 two:2≤b
 most:b≤16
 one:∀u,u<b→l u=[hexc u]
 more:∀u,b≤u→l u=l (u / b)++[hexc (u % b)]
theorem zdd:z5j 10 Lib.decDigits where
 two:=by omega
 most:=by omega
 one u h:=by rw[Lib.decDigits,dif_pos h];unfold hexc;rw[if_pos h]
 more u h:=by
  rw[Lib.decDigits,dif_neg (by omega)];unfold hexc;rw[if_pos (Nat.mod_lt _ (by omega))]
theorem zd3:z5j 16 hexL where
 two:=by omega
 most:=by omega
 one u h:=by rw[hexL,dif_pos h]
 more u h:=by rw[hexL,dif_neg (by omega)]
theorem z77 (s:ByteArray):(⟨s.data.toList.toArray⟩:ByteArray)=s:=by cases s;rfl
theorem ba_eq {a b:ByteArray} (h:a.data.toList=b.data.toList):a=b:=ByteArray.ext (Array.toList_inj.1 h)

theorem z9v (d:Nat) (h:d<16):(hexc d).toNat=if d<10 then 48+d else 87+d:=by
 have:∀d:Fin 16,(hexc d.val).toNat=if d.val<10 then 48+d.val else 87+d.val:=by decide
 exact this ⟨d,h⟩
theorem zcd (d:Nat) (h:d<16):hexd (hexc d).toNat=some d:=by
 have:∀d:Fin 16,hexd (hexc d.val).toNat=some d.val:=by decide
 exact this ⟨d,h⟩
theorem z6l:∀(a b:List UInt8) (acc n:Nat),z1z acc a=.ok n→z1z acc (a++b)=z1z n b
 |[],b,acc,n,h=>by
  simp only[z1z,Lib.NumEnd.ok.injEq]at h;subst h;rfl
 |c::a,b,acc,n,h=>by
  simp only[z1z,List.cons_append]at h ⊢
  split at h
  · cases h
  · rename_i d hd
    split at h
    · cases h
    · rename_i hc;rw[if_neg hc];exact z6l a b _ n h
theorem zcj (u:Nat) (hu:u<18446744073709551616):z1z 0 (hexL u)=.ok u:=by
 induction u using Nat.strongRecOn with
 |_ u ih =>
  rw[hexL]
  split
  · rename_i h;simp only[z1z,zcd u h];rw[if_neg (by omega),Nat.zero_mul,Nat.zero_add]
  · rename_i h;rw[z6l _ _ 0 (u / 16) (ih (u / 16) (by omega) (by omega))];simp only[z1z,zcd (u % 16) (by omega)];rw[if_neg (by omega)]
    congr 1
    omega
theorem z6v:∀(n:Nat) (l:List UInt8),z1z 0 (List.replicate n 48++l)=z1z 0 l
 |0,l=>rfl
 |n+1,l=>by
  rw[List.replicate_succ,List.cons_append];have h0:hexd (48:UInt8).toNat=some 0:=by decide
  simp only[z1z,h0];rw[if_neg (by omega)];exact z6v n l
theorem hexL_ne (u:Nat):hexL u≠[]:=by
 rw[hexL];split <;> simp
theorem hex16_ne (u:Nat):hex16 u≠[]:=by
 unfold hex16;simp[hexL_ne]
theorem zcn (u:Nat) (hu:u<18446744073709551616):num16 (hex16 u)=u:=by
 unfold num16;rw[if_neg (hex16_ne u)];unfold hex16;rw[z6v,zcj u hu]
theorem z6s (d:Nat) (h:d<10):(UInt8.ofNat (48+d)).toNat=48+d:=by
 simp;omega
theorem z6o:∀(a b:List UInt8) (acc n:Nat),Lib.parseUint10 acc a=.ok n→Lib.parseUint10 acc (a++b)=Lib.parseUint10 n b
 |[],b,acc,n,h=>by
  simp only[Lib.parseUint10,Lib.NumEnd.ok.injEq]at h;subst h;rfl
 |c::a,b,acc,n,h=>by
  simp only[Lib.parseUint10,List.cons_append]at h ⊢
  split at h
  · rename_i hd;rw[if_pos hd]
    split at h
    · cases h
    · rename_i h1;rw[if_neg h1]
      split at h
      · cases h
      · rename_i h2;rw[if_neg h2];exact z6o a b _ n h
  · cases h
theorem z8x (u:Nat) (hu:u<18446744073709551616):Lib.parseUint10 0 (Lib.decDigits u)=.ok u:=by
 induction u using Nat.strongRecOn with
 |_ u ih =>
  rw[Lib.decDigits]
  split
  · rename_i h;simp only[Lib.parseUint10,z6s u h];rw[if_pos (by omega),if_neg (by omega),if_neg (by omega)]
    congr 1;omega
  · rename_i h;rw[z6o _ _ 0 (u / 10) (ih (u / 10) (by omega) (by omega))];simp only[Lib.parseUint10,z6s (u % 10) (by omega)];rw[if_pos (by omega),if_neg (by omega),if_neg (by omega)]
    congr 1;omega
theorem zbn (u:Nat):∀c ∈ Lib.decDigits u,48≤c.toNat∧c.toNat≤57:=by
 induction u using Nat.strongRecOn with
 |_ u ih =>
  intro c hc;rw[Lib.decDigits]at hc
  split at hc
  · rename_i h;simp only[List.mem_singleton]at hc;subst hc;rw[z6s u h];omega
  · rename_i h;rcases List.mem_append.1 hc with hc|hc
    · exact ih (u / 10) (by omega) c hc
    · simp only[List.mem_singleton]at hc;subst hc;rw[z6s (u % 10) (by omega)];omega
theorem zeb (u:Nat):Lib.decDigits u≠[]:=by
 rw[Lib.decDigits];split <;> simp
theorem z71 (n:Int) (h:-9223372036854775808≤n∧n≤9223372036854775807):Lib.parseIntB 64 (Lib.itoa n)=.ok n:=by
 rw[Lib.parseIntB_64];unfold Lib.itoa
 split
 · rename_i hn;have hm:Lib.parseMag (Lib.decDigits n.natAbs)=.ok n.natAbs:=by unfold Lib.parseMag;rw[if_neg (zeb _),z8x _ (by omega)]
   simp only[Lib.atoiAll];have e:(45:UInt8).toNat=45:=rfl;simp only[e,or_true,if_true,hm,not_true_eq_false,false_and,if_false,true_and];rw[if_neg (by omega)]
   congr 1;omega
 · rename_i hn;have hm:Lib.parseMag (Lib.decDigits n.toNat)=.ok n.toNat:=by unfold Lib.parseMag;rw[if_neg (zeb _),z8x _ (by omega)]
   cases hd:Lib.decDigits n.toNat with
   |nil=>exact absurd hd (zeb _)
   |cons c r =>
    have hc:=zbn n.toNat c (by rw[hd];exact List.mem_cons_self ..);rw[hd]at hm;simp only[Lib.atoiAll];have e1:¬c.toNat=43:=by omega
    have e2:¬c.toNat=45:=by omega
    have h1:¬9223372036854775808≤n.toNat:=by omega
    have h2:((n.toNat:Nat):Int)=n:=by omega
    simp only[e1,e2,or_self,if_false,hm,not_false_eq_true,true_and,false_and,h1,h2]
theorem z4i (x:Int):-9223372036854775808≤wrap64 x∧wrap64 x≤9223372036854775807:=by unfold wrap64;omega
def txt (k n:Int) (s:ByteArray):ByteArray:=⟨(textL k n s).toArray⟩
theorem za8 (c:UInt8) (l:List UInt8):bt ⟨(c::l).toArray⟩ 0=(c.toNat:Int):=by
 have:=z5g ⟨(c::l).toArray⟩ 0 (by simp[ByteArray.size]);exact this
theorem z7o (c:UInt8) (l:List UInt8):(⟨(c::l).toArray⟩:ByteArray).extract 1 (⟨(c::l).toArray⟩:ByteArray).size=⟨l.toArray⟩:=by
 apply ba_eq;rw[Lib.extract_data];have:(⟨(c::l).toArray⟩:ByteArray).size=l.length+1:=by simp[ByteArray.size]
 rw[this]
 simp
theorem z94 (n:Int) (h:-9223372036854775808≤n∧n≤9223372036854775807):wrap64 (IntKind.u64.wrap n)=n:=by
 rw[IntKind.wrap_u64];unfold wrap64;omega
theorem z8m {k n:Int} {s:ByteArray} (h:z57 k n s=true):(k=1∧s=⟨#[]⟩)∨(k=2∧s=⟨#[]⟩∧floB n=true)∨(k=3∧n=0∧nameB s=true):=by
 unfold z57 at h
 split at h
 · exact Or.inl ⟨by assumption,zaj (by simpa using h)⟩
 · split at h
   · simp only[Bool.and_eq_true,decide_eq_true_eq]at h;exact Or.inr (Or.inl ⟨by assumption,zaj h.1,h.2⟩)
   · split at h
     · simp only[Bool.and_eq_true,decide_eq_true_eq]at h;exact Or.inr (Or.inr ⟨by assumption,h.1,h.2⟩)
     · cases h
theorem zcc {s:ByteArray} (h:nameB s=true):∃c l,s.data.toList=c::l∧97≤c.toNat∧c.toNat≤122:=by
 unfold nameB at h;simp only[Bool.and_eq_true,decide_eq_true_eq]at h
 cases hl:s.data.toList with
 |nil =>
  have:s.size=0:=by rw[Lib.size_eq,hl];rfl
  omega
 |cons c l =>
  have hs:s=⟨(c::l).toArray⟩:=by rw[←hl,z77]
  rw[hs,za8]at h;exact⟨c,l,rfl,by omega,by omega⟩
theorem zbd (n:Int):∃c l,Lib.itoa n=c::l∧(c.toNat=45∧n<0∧l=Lib.decDigits n.natAbs∨48≤c.toNat∧c.toNat≤57∧0≤n∧c::l=Lib.decDigits n.toNat):=by
 unfold Lib.itoa
 split
 · exact⟨45,_,rfl,Or.inl ⟨rfl,by assumption,rfl⟩⟩
 · cases hd:Lib.decDigits n.toNat with
   |nil=>exact absurd hd (zeb _)
   |cons c l =>
    have hc:=zbn n.toNat c (by rw[hd];exact List.mem_cons_self ..);exact⟨c,l,rfl,Or.inr ⟨hc.1,hc.2,by omega,rfl⟩⟩
theorem zdu (c:UInt8) (l:List UInt8) (h:c.toNat≠35):Lib.hasPrefix (c::l) [35]=false:=by
 unfold Lib.hasPrefix;have:((35:UInt8)==c)=false:=by rw[beq_eq_false_iff_ne];rintro rfl;exact h rfl
 simp[List.isPrefixOf,this]
theorem zg3 (k n:Int) (s:ByteArray) (hr:z57 k n s=true) (hn:-9223372036854775808≤n∧n≤9223372036854775807) :
 candR (txt k n s)=(k,n,s)∧textL k n s≠[]:=by
 have ht:textL k n s=if k=1 then Lib.itoa n else if k=2 then 35::hex16 (IntKind.u64.wrap n).toNat else s.data.toList:=by unfold textL;rw[if_pos hr]
 unfold txt;rcases z8m hr with ⟨rfl,rfl⟩|⟨rfl,rfl,hf⟩|⟨rfl,rfl,hN⟩
 · rw[if_pos rfl]at ht;rw[ht];obtain⟨c,l,he,hc⟩:=zbd n;have hp:=z71 n hn;rw[he]at hp ⊢;refine⟨?_,by simp⟩
   · unfold candR;rw[if_neg (by rw[zdu c l (by omega)];simp)];simp only[hp]
 · rw[if_neg (by omega),if_pos rfl]at ht;rw[ht];have hw:=wrap_u64 n;obtain⟨u,hu⟩:∃u:Nat,IntKind.u64.wrap n=(u:Int):=⟨_,(Int.toNat_of_nonneg hw.1).symm⟩
   rw[hu,Int.toNat_natCast];have hu2:u<18446744073709551616:=by omega
   have hb:=z94 n hn;rw[hu]at hb;refine⟨?_,by simp⟩
   · unfold candR;have h1:Lib.hasPrefix (35::hex16 u) [35]=true:=by simp[Lib.hasPrefix,List.isPrefixOf]
     have h2:Lib.trimPrefix (35::hex16 u) [35]=hex16 u:=by unfold Lib.trimPrefix;rw[if_pos h1];rfl
     simp only[h1,if_true,h2,zcn u hu2,hb]
 · rw[if_neg (by omega),if_neg (by omega)]at ht;obtain⟨c,l,he,h1,h2⟩:=zcc hN;rw[ht,z77];have hs:s=⟨(c::l).toArray⟩:=by rw[←he,z77]
   refine⟨?_,by rw[he];simp⟩
   · unfold candR;rw[he,if_neg (by rw[zdu c l (by omega)];simp)];have hp:Lib.parseIntB 64 (c::l)=.syntax:=by
      rw[Lib.parseIntB_64];have e1:¬(c.toNat=43∨c.toNat=45):=by omega
      have hm:Lib.parseMag (c::l)=.syntax:=by
       unfold Lib.parseMag;rw[if_neg (by simp)];simp only[Lib.parseUint10];rw[if_neg (by omega)]
      simp only[Lib.atoiAll,e1,if_false,hm]
     rw[hp]
theorem zg1 (t:ByteArray):-9223372036854775808≤(candR t).2.1∧(candR t).2.1≤9223372036854775807:=by
 unfold candR
 split
 · exact z4i _
 · split
   · rename_i n h;have:=Lib.parseIntB_bounds h;have e:((2 ^ (64 - 1):Nat):Int)=9223372036854775808:=by decide
     rw[e]at this;show -9223372036854775808≤n∧n≤9223372036854775807;omega
   · show -9223372036854775808≤(0:Int)∧(0:Int)≤9223372036854775807;omega
theorem z9q {k n:Int} {s:ByteArray} (h:textL k n s≠[]):z57 k n s=true:=by
 unfold textL at h
 split at h
 · assumption
 · exact absurd rfl h
theorem data_ne {t:ByteArray} (h:t.size≠0):t.data.toList≠[]:=fun e=>h (by rw[Lib.size_eq,e];rfl)
theorem read_f (t:ByteArray) (h:t.size≤281474976710656):z1r.f t=some (readR t):=by unfold z1r.f;rw[if_pos h]
end Go.Proofs.YthebhbomlllpeaaGreatDoor.X
namespace Go.Proofs.YthebhbomlllpeaaGreatDoor.X
abbrev VlS:=S58
abbrev TmS:=S60
abbrev AtS:=S25
abbrev StS:=S69
abbrev LtS:=S62
abbrev RlS:=S33
abbrev PgS:=S27
abbrev TK:=Int × ByteArray
abbrev Prs (α:Type):=List TK→Except (Nat × Int) (α × List TK)
def noneV:VlS:=⟨0,0,⟨#[]⟩⟩
def noneT:TmS:=⟨⟨#[]⟩,noneV⟩
def noneA:AtS:=⟨⟨#[]⟩,[]⟩
def isT (t:TK) (k:Int) (s:List UInt8):Bool:=t.1==k&&t.2.data.toList==s
def mk0:List TK→List UInt8→Bool
 |[],_=>false
 |t::_,s=>isT t 4 s
def mk1 (l:List TK) (s:List UInt8):Bool:=mk0 (l.drop 1) s
def foldL (s:List UInt8):Int :=
 if s=[99,111,117,110,116]then 1 else if s=[115,117,109]then 2 else if s=[109,105,110]then 3 else if s=[109,97,120]then 4 else if s=[109,101,97,110]then 5 else 0
def z2n:List TK→Bool
 |[]=>false
 |t::_=>t.1==1||t.1==2||t.1==3
def predB (t:TK):Bool:=t.1==1&&!keyL t.2.data.toList
def predL:List TK→Bool
 |[]=>false
 |t::_=>predB t
def z28:Prs ByteArray
 |[]=>.error (0,2)
 |t::r=>if predB t then .ok (t.2,r)else .error (r.length+1,2)
def z4b:Prs TmS
 |[]=>.error (0,2)
 |t::r=>if t.1==2 then .ok (⟨t.2,noneV⟩,r)else .error (r.length+1,2)
def readV (s:ByteArray):VlS:=⟨(readR s).1,(readR s).2.1,(readR s).2.2.1⟩
def termP:Prs TmS
 |[]=>.error (0,2)
 |t::r=>if t.1==2 then .ok (⟨t.2,noneV⟩,r)else if t.1==1||t.1==3 then .ok (⟨⟨#[]⟩,readV t.2⟩,r)else .error (r.length+1,2)
def wantP (s:List UInt8):Prs Unit:=fun l=>if mk0 l s then .ok ((),l.drop 1)else .error (l.length,2)
def foldB:List TK→Bool
 |[]=>false
 |t::r=>t.1==1&&foldL t.2.data.toList !=0&&mk0 r [40]
def foldN:List TK→Int
 |[]=>0
 |t::_=>foldL t.2.data.toList
def bnd {α β:Type} (p:Except (Nat × Int) (α × List TK)) (f:α→List TK→Except (Nat × Int) β):Except (Nat × Int) β :=
 match p with
 |.error e=>.error e
 |.ok x=>f x.1 x.2
def argsP (head:Bool):Nat→List TmS→Prs (List TmS × Int)
 |0,_,l=>.error (l.length,2)
 |n+1,acc,l =>
  if n==0&&z2n l then .error (l.length,4)
  else if head&&foldB l then bnd (z4b (l.drop 2)) fun x r=>bnd (wantP [41] r) fun _ r=>.ok ((acc++[x],foldN l),r)
  else bnd (termP l) fun x r=>if mk0 r [44]then argsP head n (acc++[x]) (r.drop 1)else .ok ((acc++[x],0),r)
def atomP (head:Bool):Prs (AtS × Int):=fun l =>
 bnd (z28 l) fun p r =>
  if mk0 r [40]then bnd (argsP head 9 [] (r.drop 1)) fun a r=>bnd (wantP [41] r) fun _ r=>.ok ((⟨p,a.1⟩,a.2),r)
  else .ok ((⟨p,[]⟩,0),r)
def stepS (k:Int):StS:=⟨k,⟨#[]⟩⟩
def z1k:List TK→List StS × List TK
 |[]=>([],[])
 |t::r =>
  if isT t 4 [42]then(stepS 5::(z1k r).1,(z1k r).2)
  else if isT t 4 [43]then(stepS 6::(z1k r).1,(z1k r).2)
  else if isT t 4 [63]then(stepS 7::(z1k r).1,(z1k r).2)
  else([],t::r)
def rowL (s:List UInt8) (k:Int) (one:Prs (List StS)):Nat→List StS→Prs (List StS)
 |0,acc,l=>.ok (acc,l)
 |n+1,acc,l =>
  if mk0 l s then bnd (one (l.drop 1)) fun x r=>rowL s k one n (acc++x++[stepS k]) r
  else .ok (acc,l)
def rowP (s:List UInt8) (k:Int) (one:Prs (List StS)):Prs (List StS):=fun l=>bnd (one l) fun x r=>rowL s k one r.length x r
def pathW (part:Prs (List StS)):Prs (List StS):=rowP [124] 4 (rowP [47] 3 part)
def baseP (inner:Option (Prs (List StS))):Prs (List StS):=fun l =>
 if mk0 l [40]then
  match inner with
  |none=>.error (l.length,3)
  |some p=>bnd (p (l.drop 1)) fun x r=>bnd (wantP [41] r) fun _ r=>.ok (x,r)
 else if mk0 l [94]then bnd (z28 (l.drop 1)) fun p r=>.ok ([⟨2,p⟩],r)
 else bnd (z28 l) fun p r=>.ok ([⟨1,p⟩],r)
def partW (inner:Option (Prs (List StS))):Prs (List StS):=fun l=>bnd (baseP inner l) fun x r=>.ok (x++(z1k r).1,(z1k r).2)
def partP:Nat→Prs (List StS)
 |0=>partW none
 |d+1=>partW (some (pathW (partP d)))
def pathP (d:Nat):Prs (List StS):=pathW (partP d)
def zc2:Prs (List StS):=fun l=>bnd (pathP 32 l) fun x r=>if 100<x.length then .error (l.length,4)else .ok (x,r)
def z2q (l:List TK):Bool:=mk1 l [60]||(mk1 l [60,61]||(mk1 l [61]||mk1 l [33,61]))
def textL0:List TK→ByteArray
 |[]=>⟨#[]⟩
 |t::_=>t.2
def isL (l:List TK) (k:Int) (s:List UInt8):Bool :=
 match l with
 |[]=>false
 |t::_=>isT t k s
def kindL:List TK→Int
 |[]=>0
 |t::_=>t.1
def z4n (s:List UInt8):List UInt8:=if s=[112,108,117,115]then[43]else if s=[109,105,110,117,115]then[45]else if s=[116,105,109,101,115]then[42]else[]
def signP:Prs ByteArray
 |[]=>.error (0,2)
 |t::r=>if z4n t.2.data.toList=[]then .error (r.length+1,2)else .ok (⟨(z4n t.2.data.toList).toArray⟩,r)
def z5f:Prs LtS:=fun l=>bnd (termP l) fun a r=>bnd (termP (r.drop 1)) fun b r'=>.ok (⟨3,noneA,textL0 r,a,b,noneT,[]⟩,r')
def letP:Prs LtS:=fun l=>bnd (z4b l) fun a r=>bnd (termP (r.drop 1)) fun b r=>bnd (signP r) fun s r=>bnd (termP r) fun c r=>.ok (⟨4,noneA,s,a,b,c,[]⟩,r)
def walkP:Prs LtS:=fun l =>
 bnd (wantP [40] l) fun _ r=>bnd (termP r) fun a r=>bnd (wantP [44] r) fun _ r=>bnd (zc2 r) fun p r=>bnd (wantP [44] r) fun _ r=>bnd (termP r) fun b r=>bnd (wantP [41] r) fun _ r=>.ok (⟨5,noneA,⟨#[]⟩,a,b,noneT,p⟩,r)
def z4q (k:Int):Prs LtS:=fun l=>bnd (atomP false l) fun a r=>.ok (⟨k,a.1,⟨#[]⟩,noneT,noneT,noneT,[]⟩,r)
def z2c:Prs LtS:=fun l =>
 if z2n l&&z2q l then z5f l
 else if kindL l==2&&isL (l.drop 1) 1 [105,115]then letP l
 else if isL l 1 [110,111,116]then z4q 2 (l.drop 1)
 else if isL l 1 [119,97,108,107]then walkP (l.drop 1)
 else if predL l then z4q 1 l
 else bnd (termP l) fun _ r=>.error (r.length,2)
def bodyP:Nat→List LtS→Prs (List LtS)
 |0,_,l=>.error (l.length,2)
 |n+1,acc,l =>
  if n==0&&z2n l then .error (l.length,4)
  else bnd (z2c l) fun x r=>if mk0 r [44]then bodyP n (acc++[x]) (r.drop 1)else .ok (acc++[x],r)
def tailP:Prs (List LtS):=fun r=>if mk0 r [58,45]then bodyP 13 [] (r.drop 1)else .ok ([],r)
def ruleP:Prs RlS:=fun l=>bnd (atomP true l) fun h r=>bnd (tailP r) fun b r=>bnd (wantP [46] r) fun _ r=>.ok (⟨h.1,h.2,b⟩,r)
def z6k:Nat→List RlS→Prs (List RlS)
 |0,_,l=>.error (l.length,2)
 |n+1,acc,l =>
  if mk0 l [63,45]then .ok (acc,l.drop 1)
  else if n==0&&predL l then .error (l.length,4)
  else bnd (ruleP l) fun x r=>z6k n (acc++[x]) r
def z2j:Prs PgS:=fun l=>bnd (z6k 201 [] l) fun rs r=>bnd (atomP false r) fun q r=>bnd (wantP [46] r) fun _ r=>.ok (⟨rs,q.1⟩,r)
def allP {α:Type} (p:Prs α) (l:List TK):Except (Nat × Int) α :=
 match p l with
 |.error e=>.error e
 |.ok (x,[])=>.ok x
 |.ok (_,t::r)=>.error (r.length+1,2)

def Loc {α:Type} (m:Nat) (p:Prs α):Prop:=∀l x r,p l=.ok (x,r)→∃u,l=u++r∧m≤u.length∧∀r',r'.head?=r.head?→p (u++r')=.ok (x,r')
theorem Loc.le {α:Type} {m n:Nat} {p:Prs α} (h:Loc m p) (hn:n≤m):Loc n p:=fun l x r hp=>by
 obtain⟨u,e,hm,hu⟩:=h l x r hp;exact⟨u,e,Nat.le_trans hn hm,hu⟩
theorem z6d {α:Type} (u:List α) {r r':List α} (h:r'.head?=r.head?):(u++r').head?=(u++r).head?:=by
 cases u with
 |nil=>exact h
 |cons t u=>rfl
theorem ze4 {l l':List TK} (h:l'.head?=l.head?) (s:List UInt8):mk0 l' s=mk0 l s:=by
 cases l <;> cases l' <;> simp_all [mk0]
theorem zdv {l:List TK} {s:List UInt8} (h:mk0 l s=true):∃t r,l=t::r∧isT t 4 s=true:=by
 cases l with
 |nil=>cases h
 |cons t r=>exact⟨t,r,rfl,h⟩
theorem z79:Loc 1 z28:=fun l x r h=>by
 cases l with
 |nil=>cases h
 |cons t l =>
  simp only[z28]at h
  split at h
  · rename_i hp;injection h with h;injection h with e1 e2
    subst e1;subst e2;exact⟨[t],rfl,by simp,fun r' _=>by simp only[List.singleton_append,z28,hp,if_true]⟩
  · cases h
theorem loc_want (s:List UInt8):Loc 1 (wantP s):=fun l x r h=>by
 unfold wantP at h
 split at h
 · rename_i hm;obtain⟨t,l',rfl,ht⟩:=zdv hm;injection h with h;injection h with e1 e2
   refine⟨[t],by rw[←e2];rfl,by simp,fun r' _=>?_⟩;unfold wantP;rw[if_pos (by exact ht)];rfl
 · cases h
theorem z29 {α β:Type} {p:Except (Nat × Int) (α × List TK)} {f:α→List TK→Except (Nat × Int) β} {y:β} (h:bnd p f=.ok y):∃x r,p=.ok (x,r)∧f x r=.ok y:=by
 cases p with
 |error e=>cases h
 |ok q=>exact⟨q.1,q.2,rfl,h⟩
theorem z3q {α β:Type} {p:Except (Nat × Int) (α × List TK)} {f:α→List TK→Except (Nat × Int) β} {x:α} {r:List TK} (h:p=.ok (x,r)):bnd p f=f x r:=by rw[h];rfl
theorem z3e {α β:Type} {p:Except (Nat × Int) (α × List TK)} {f:α→List TK→Except (Nat × Int) β} {e:Nat × Int} (h:p=.error e):bnd p f=.error e:=by rw[h];rfl
theorem Loc.bind {α β:Type} {m n:Nat} {p:Prs α} {f:α→Prs β} (hp:Loc m p) (hf:∀x,Loc n (f x)):Loc (m+n) (fun l=>bnd (p l) f):=fun l y r h=>by
 obtain⟨x,r1,h1,h2⟩:=z29 h;obtain⟨u,e,hm,hu⟩:=hp l x r1 h1;obtain⟨v,e',hn,hv⟩:=hf x r1 y r h2;refine⟨u++v,by rw[e,e',List.append_assoc],by rw[List.length_append];omega,fun r' hr=>?_⟩;have:=hu (v++r') (by rw[e'];exact z6d v hr);simp only;rw[List.append_assoc,z3q this];exact hv r' hr
theorem Loc.bind' {α β:Type} {m:Nat} {p:Prs α} {f:α→Prs β} (hp:Loc m p) (hf:∀x,Loc 0 (f x)):Loc m (fun l=>bnd (p l) f):=Loc.bind hp hf
theorem Loc.pure {α:Type} (x:α):Loc 0 (fun l=>.ok (x,l)):=fun l y r h=>by
 injection h with h;injection h with e1 e2
 subst e1;subst e2;exact⟨[],rfl,Nat.le_refl _,fun r' _=>rfl⟩
theorem Loc.err {α:Type} (m:Nat) (f:List TK→Nat × Int):Loc m (fun l=>(.error (f l):Except (Nat × Int) (α × List TK))):=fun l x r h=>by cases h
theorem Loc.ite {α:Type} {m:Nat} {p q:Prs α} (b:List TK→Bool) (hb:∀l l',l'.head?=l.head?→b l'=b l) (hp:Loc m p) (hq:Loc m q):Loc m (fun l=>if b l then p l else q l):=fun l x r h=>by
 simp only at h
 split at h
 · rename_i hc;obtain⟨u,e,hm,hu⟩:=hp l x r h;refine⟨u,e,hm,fun r' hr=>?_⟩;simp only;rw[hb l (u++r') (by rw[e];exact z6d u hr),if_pos hc];exact hu r' hr
 · rename_i hc;obtain⟨u,e,hm,hu⟩:=hq l x r h;refine⟨u,e,hm,fun r' hr=>?_⟩;simp only;rw[hb l (u++r') (by rw[e];exact z6d u hr),if_neg hc];exact hu r' hr
theorem Loc.skip {α:Type} {m:Nat} {p:Prs α} (b:List TK→Bool) (hb:∀l l',l'.head?=l.head?→b l'=b l) (h0:b []=false) {q:Prs α} (hp:Loc m p) (hq:Loc (m+1) q):Loc (m+1) (fun l=>if b l then p (l.drop 1)else q l):=fun l x r h=>by
 simp only at h
 split at h
 · rename_i hc
   cases l with
   |nil=>rw[h0]at hc;cases hc
   |cons t l =>
    obtain⟨u,e,hm,hu⟩:=hp _ x r h;refine⟨t::u,by rw[List.cons_append,←e];rfl,by simp;omega,fun r' hr=>?_⟩;simp only;rw[hb (t::l) (t::u++r') rfl,if_pos hc];exact hu r' hr
 · rename_i hc;obtain⟨u,e,hm,hu⟩:=hq l x r h;refine⟨u,e,hm,fun r' hr=>?_⟩;simp only;rw[hb l (u++r') (by rw[e];exact z6d u hr),if_neg hc];exact hu r' hr
theorem zfb (s:List UInt8):∀l l':List TK,l'.head?=l.head?→mk0 l' s=mk0 l s:=fun l l' h=>ze4 h s
theorem zgs {t:TK}:(isT t 4 [42]=false∧isT t 4 [43]=false∧isT t 4 [63]=false)→∀r,z1k (t::r)=([],t::r):=fun h r=>by
 simp only[z1k,h.1,h.2.1,h.2.2,Bool.false_eq_true,if_false]
theorem zfg:Loc 0 (fun l=>.ok (z1k l)):=fun l=>by
 induction l with
 |nil =>
  intro x r h;injection h with h
  have e1:x=[]:=(congrArg Prod.fst h).symm;have e2:r=[]:=(congrArg Prod.snd h).symm;subst e1;subst e2;refine⟨[],rfl,Nat.le_refl _,fun r' hr=>?_⟩
  cases r' with
  |nil=>rfl
  |cons t r'=>cases hr
 |cons t l ih =>
  intro x r h;injection h with h
  simp only[z1k]at h;have go:∀(k:Int) (s:List UInt8),isT t 4 s=true→(∀l',z1k (t::l')=(stepS k::(z1k l').1,(z1k l').2))→(stepS k::(z1k l).1,(z1k l).2)=(x,r) →
   ∃u,t::l=u++r∧0≤u.length∧∀r',r'.head?=r.head?→(Except.ok (z1k (u++r')):Except (Nat × Int) (List StS × List TK))=.ok (x,r'):=by
   intro k s hs hall he;injection he with e1 e2
   obtain⟨u,e,_,hu⟩:=ih (z1k l).1 (z1k l).2 rfl;subst e1;subst e2;refine⟨t::u,by rw[List.cons_append,←e],Nat.zero_le _,fun r' hr=>?_⟩;have:=hu r' hr;injection this with this
   rw[List.cons_append,hall,this]
  by_cases h1:isT t 4 [42]=true
  · rw[if_pos h1]at h;exact go 5 _ h1 (fun l'=>by simp only[z1k,h1,if_true]) h
  · rw[if_neg h1]at h
    by_cases h2:isT t 4 [43]=true
    · rw[if_pos h2]at h;exact go 6 _ h2 (fun l'=>by simp only[z1k];rw[if_neg h1,if_pos h2]) h
    · rw[if_neg h2]at h
      by_cases h3:isT t 4 [63]=true
      · rw[if_pos h3]at h;exact go 7 _ h3 (fun l'=>by simp only[z1k];rw[if_neg h1,if_neg h2,if_pos h3]) h
      · rw[if_neg h3]at h;injection h with e1 e2
        subst e1;subst e2;refine⟨[],rfl,Nat.le_refl _,fun r' hr=>?_⟩
        cases r' with
        |nil=>cases hr
        |cons t' r' =>
         obtain rfl:t'=t:=by simpa using hr
         simp only[List.nil_append,z1k];rw[if_neg h1,if_neg h2,if_neg h3]
theorem zdw {s:List UInt8} {k:Int} {one:Prs (List StS)} (h1:Loc 0 one):∀(n:Nat) (acc:List StS) (l:List TK) (x:List StS) (r:List TK),l.length≤n→rowL s k one n acc l=.ok (x,r) →
 ∃u,l=u++r∧∀r',r'.head?=r.head?→∀m,(u++r').length≤m→rowL s k one m acc (u++r')=.ok (x,r')
 |0,acc,l,x,r,hn,h=>by
  obtain rfl:l=[]:=List.length_eq_zero_iff.1 (by omega);simp only[rowL]at h;injection h with h;injection h with e1 e2
  subst e1;subst e2;refine⟨[],rfl,fun r' hr m hm=>?_⟩
  cases r' with
  |cons t r'=>cases hr
  |nil=>cases m <;> simp[rowL,mk0]
 |n+1,acc,l,x,r,hn,h=>by
  simp only[rowL]at h
  split at h
  · rename_i hk;obtain⟨t,l',rfl,ht⟩:=zdv hk;have hd:(t::l').drop 1=l':=rfl;rw[hd]at h;obtain⟨y,r1,ho,h⟩:=z29 h;obtain⟨u,e,_,hu⟩:=h1 l' y r1 ho;simp only[List.length_cons]at hn;obtain ⟨v, e2, hv⟩ := zdw h1 n _ r1 x r (by
     have:r1.length≤l'.length:=by rw[e,List.length_append];omega
     omega) h
    refine⟨t::(u++v),by rw[e,e2,List.cons_append,List.append_assoc],fun r' hr m hm=>?_⟩;obtain⟨m,rfl⟩:∃j,m=j+1:=⟨m - 1,by simp at hm;omega⟩
    simp only[List.cons_append,rowL];have hk2:mk0 (t::(u++v++r')) s=true:=ht;rw[hk2,if_pos rfl];have hd2:(t::(u++v++r')).drop 1=u++(v++r'):=by rw[←List.append_assoc];rfl
    rw[hd2,z3q (hu (v++r') (by rw[e2];exact z6d v hr))];exact hv r' hr m (by simp only[List.length_append,List.length_cons]at hm ⊢;omega)
  · rename_i hk;injection h with h;injection h with e1 e2
    subst e1;subst e2;refine⟨[],rfl,fun r' hr m hm=>?_⟩;have hk2:¬mk0 r' s=true:=by rw[ze4 hr];exact hk
    cases m with
    |zero=>rfl
    |succ m=>simp only[List.nil_append,rowL];rw[if_neg hk2]
theorem zdh {s:List UInt8} {k:Int} {one:Prs (List StS)} {m:Nat} (h1:Loc m one):Loc m (rowP s k one):=fun l x r h=>by
 have h0:=h1.le (Nat.zero_le _);unfold rowP at h;obtain⟨y,r1,ho,h⟩:=z29 h;obtain⟨u,e,hm,hu⟩:=h1 l y r1 ho;obtain⟨v,e2,hv⟩:=zdw h0 _ _ _ _ _ (Nat.le_refl _) h;refine⟨u++v,by rw[e,e2,List.append_assoc],by rw[List.length_append];omega,fun r' hr=>?_⟩;unfold rowP;rw[List.append_assoc,z3q (hu (v++r') (by rw[e2];exact z6d v hr))];exact hv r' hr _ (Nat.le_refl _)
theorem zge {part:Prs (List StS)} {m:Nat} (h:Loc m part):Loc m (pathW part):=zdh (zdh h)
theorem loc_base (inner:Option (Prs (List StS))) (h:∀p,inner=some p→Loc 0 p):Loc 1 (baseP inner):=by
 have hB:Loc 1 (fun l=>if mk0 l [94]then bnd (z28 (l.drop 1)) fun p r=>.ok ([⟨2,p⟩],r)else bnd (z28 l) fun p r=>.ok ([⟨1,p⟩],r):Prs (List StS)) :=
  Loc.skip (fun l=>mk0 l [94]) (zfb [94]) rfl (p:=fun l=>bnd (z28 l) fun p r=>.ok ([(⟨2,p⟩:StS)],r)) ((Loc.bind' z79 (fun p=>Loc.pure _)).le (Nat.zero_le _)) (Loc.bind' z79 (fun p=>Loc.pure _))
 cases inner with
 |none=>exact Loc.ite (fun l=>mk0 l [40]) (zfb [40]) (Loc.err 1 (fun l=>(l.length,3))) hB
 |some q =>
  exact Loc.skip (fun l=>mk0 l [40]) (zfb [40]) rfl (p:=fun l=>bnd (q l) fun x r=>bnd (wantP [41] r) fun _ r=>.ok (x,r)) ((Loc.bind (h q rfl) (fun x=>Loc.bind' (loc_want [41]) (fun _=>Loc.pure _))).le (Nat.zero_le _)) hB
theorem zc8 (inner:Option (Prs (List StS))) (h:∀p,inner=some p→Loc 0 p):Loc 1 (partW inner) :=
 Loc.bind' (loc_base inner h) (fun x=>Loc.bind' (p:=fun l=>.ok (z1k l)) (f:=fun y r=>.ok (x++y,r)) zfg (fun y=>Loc.pure _))
theorem zai:∀d,Loc 1 (partP d)
 |0=>zc8 none (fun p h=>by cases h)
 |d+1=>zc8 _ (fun p h=>by injection h with h;subst h;exact(zge (zai d)).le (Nat.zero_le _))

def Gives {α:Type} (Q:TK→Prop) (P:α→Prop) (p:Prs α):Prop:=∀l x r,(∀t ∈ l,Q t)→p l=.ok (x,r)→P x∧∀t ∈ r,Q t
theorem whole_of {l:List TK} {x:List StS} {r:List TK} (h:zc2 l=.ok (x,r)):pathP 32 l=.ok (x,r)∧x.length≤100:=by
 unfold zc2 at h;obtain⟨y,r1,ho,h⟩:=z29 h
 split at h
 · cases h
 · rename_i hl;injection h with h;injection h with e1 e2
   subst e1;subst e2;exact⟨ho,by omega⟩
def deep1 (om:Nat × Nat) (s:List UInt8):Nat × Nat :=
 let o:=if s=[40]then om.1+1 else if s=[41]then om.1 - 1 else om.1
 (o,max om.2 o)
def deepF (om:Nat × Nat) (l:List (List UInt8)):Nat × Nat:=l.foldl deep1 om
def Deep (d:Nat) (u:List (List UInt8)):Prop:=∀o m,o≤m→∃m',deepF (o,m) u=(o,m')∧m≤m'∧m'≤max m (o+d)
def txts (l:List TK):List (List UInt8):=l.map fun t=>t.2.data.toList
end Go.Proofs.YthebhbomlllpeaaGreatDoor.X
