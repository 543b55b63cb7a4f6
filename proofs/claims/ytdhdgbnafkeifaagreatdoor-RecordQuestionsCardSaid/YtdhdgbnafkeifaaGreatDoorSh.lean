import Derived.Test.YtdhdgbnafkeifaaGreatDoorHw
import Derived.Shelf.LaysC
import Derived.Shelf.LaysM
import Derived.Shelf.Slices.In.SortNone
import Derived.Shelf.Small.Strs
import Derived.Shelf.Small.Utf8
import Derived.Shelf.Sort.Plain
import Derived.Shelf.Strconv.Atoi
import Derived.Shelf.Strconv.AtoiAll
import Derived.Shelf.Strconv.AtoiErrFast
import Derived.Shelf.Strconv.AtoiFail
import Derived.Shelf.Strconv.AtoiInnerAll
import Derived.Shelf.Strconv.AtoiLong
import Derived.Shelf.Strconv.Clone
import Derived.Shelf.Strconv.Itoa0
import Derived.Shelf.Strconv.Itoa1
import Derived.Shelf.Strconv.Itoa2
import Derived.Shelf.Strconv.Itoa3
import Derived.Shelf.Strconv.Lower
import Derived.Shelf.Strconv.ParseInt10
import Derived.Shelf.Strconv.ParseIntEmpty
import Derived.Shelf.Strconv.ParseUint10
import Derived.Shelf.Strconv.ParseUint10Any
import Derived.Shelf.Strconv.ParseUint10Empty
import Derived.Shelf.Strconv.RangeError
import Derived.Shelf.Strconv.SyntaxError
import Derived.Shelf.Strconv.ToError
import Derived.Shelf.Strconv.ToErrorRange
import Derived.Shelf.Strings.AsciiSet
import Derived.Shelf.Strings.Builder1
import Derived.Shelf.Strings.Builder2
import Derived.Shelf.Strings.Count
import Derived.Shelf.Strings.Cut
import Derived.Shelf.Strings.IndexAny
import Derived.Shelf.Strings.IndexAnyAll
import Derived.Shelf.Strings.OnBuilder
import Derived.Shelf.Strings.Runes
import Derived.Shelf.Strings.Shaped
import Derived.Shelf.Unicode.DecodeSlow
import Derived.Test.YtdhdgbnafkeifaaGreatDoorProg
namespace Go.Proofs
open Tryz
open Go.Shelf
def Tryz.oN:Go.Shelf.Ren:=⟨fun|156=>94|165=>127|166=>128|169=>129|240=>181|241=>182|276=>247|277=>248|n=>n,fun|31=>83|9=>9|3=>3|4=>4|0=>0|20=>20|72=>233|76=>229|70=>231|37=>195|75=>228|127=>280|164=>346|5=>5|80=>235|n=>n,fun|n=>n⟩
theorem Tryz.yV:Go.Proofs.Lays.n156 prog oN:={
 mixed:=by kernel_rfl
 f156:=func94.trans (congrArg some (by kernel_rfl))
 f165:=func127.trans (congrArg some (by kernel_rfl))
 f166:=func128.trans (congrArg some (by kernel_rfl))
 f169:=func129.trans (congrArg some (by kernel_rfl))
 f240:=func181.trans (congrArg some (by kernel_rfl))
 f241:=func182.trans (congrArg some (by kernel_rfl))
 f276:=func247.trans (congrArg some (by kernel_rfl))
 f277:=func248.trans (congrArg some (by kernel_rfl))
 t0:=underlying0
 a0:=isAgg0
 z0:=sizeOf0
 v0:=zeroValue0
 t3:=underlying3
 a3:=isAgg3
 z3:=sizeOf3
 v3:=zeroValue3
 t4:=underlying4
 a4:=isAgg4
 z4:=sizeOf4
 v4:=zeroValue4
 t9:=underlying9
 a9:=isAgg9
 z9:=sizeOf9
 v9:=zeroValue9
 t20:=underlying20
 a20:=isAgg20
 z20:=sizeOf20
 v20:=zeroValue20
 t31:=underlying83
 a31:=isAgg83
 z31:=sizeOf83
 v31:=zeroValue83
 t37:=underlying195
 a37:=isAgg195
 z37:=sizeOf195
 v37:=zeroValue195
 t70:=underlying231
 a70:=isAgg231
 z70:=sizeOf231
 v70:=zeroValue231
 t72:=underlying233
 a72:=isAgg233
 z72:=sizeOf233
 v72:=zeroValue233
 t75:=underlying228
 a75:=isAgg228
 z75:=sizeOf228
 v75:=zeroValue228
 t76:=underlying229
 a76:=isAgg229
 z76:=sizeOf229
 v76:=zeroValue229
 t127:=underlying280
 a127:=isAgg280
 z127:=sizeOf280
 v127:=zeroValue280
 t164:=underlying346
 a164:=isAgg346
 z164:=sizeOf346
 v164:=zeroValue346}
theorem Tryz.iu:Builder.Extra prog oN:={
 sizeBuilder:=by kernel_rfl
 liesBuilder:=by kernel_rfl
 t5:=underlying5
 a5:=isAgg5
 z5:=sizeOf5
 v5:=zeroValue5
 infoByte:=by kernel_rfl
 cellsByte:=by kernel_rfl
 sizeByte:=by kernel_rfl
 neB5:=by decide}
open Go.RowKit in
theorem Tryz.strings_Join_none(a:Option Addr)(c:Nat)(sep:ByteArray)(w:World):
 Calls prog 94 #[.slice a 0 c,.string sep] w fun e b=>e=.returned (.string ⟨#[]⟩)∧b=w:=Any.strings_Join_none yV iu a c sep w
open Go.RowKit in
theorem Tryz.strings_Join(d o c:Nat)(xs:List ByteArray)(sep:ByteArray)(w:World)(a:∀(j:Nat) x,xs[j]?=some x→w.cell? ⟨d,o+j,none⟩=some (.string x))(f:d<w.heap.size)(h:xs.length≤140737488355328)(b:xs.length≤c)(hlen:(Lib.join (xs.map (·.data.toList)) sep.data.toList).length≤140737488355328):
 Calls prog 94 #[.slice (some ⟨d,o,none⟩) xs.length c,.string sep] w fun e g=>e=.returned (.string ⟨(Lib.join (xs.map (·.data.toList)) sep.data.toList).toArray⟩)∧Below w.heap.size w g:=Any.strings_Join yV iu d o c xs sep w a f h b hlen
def Tryz.ur:Go.Shelf.Ren:=⟨fun|171=>124|243=>177|246=>237|283=>288|284=>289|285=>290|286=>291|129=>141|317=>335|318=>336|319=>337|320=>338|337=>367|338=>368|n=>n,fun|3=>3|9=>9|2=>2|4=>4|171=>402|0=>0|53=>250|37=>195|5=>5|173=>404|212=>452|51=>248|20=>20|213=>453|46=>199|232=>488|233=>489|n=>n,fun|17=>3|18=>7|19=>8|n=>n⟩
theorem Tryz.Cr:Go.Proofs.LaysM.n171 prog ur:={
 mixed:=by kernel_rfl
 f129:=func141.trans (congrArg some (by kernel_rfl))
 f171:=func124.trans (congrArg some (by kernel_rfl))
 f243:=func177.trans (congrArg some (by kernel_rfl))
 f246:=func237.trans (congrArg some (by kernel_rfl))
 f283:=func288.trans (congrArg some (by kernel_rfl))
 f284:=func289.trans (congrArg some (by kernel_rfl))
 f285:=func290.trans (congrArg some (by kernel_rfl))
 f286:=func291.trans (congrArg some (by kernel_rfl))
 f317:=func335.trans (congrArg some (by kernel_rfl))
 f318:=func336.trans (congrArg some (by kernel_rfl))
 f319:=func337.trans (congrArg some (by kernel_rfl))
 f320:=func338.trans (congrArg some (by kernel_rfl))
 f337:=func367.trans (congrArg some (by kernel_rfl))
 f338:=func368.trans (congrArg some (by kernel_rfl))
 t0:=underlying0
 a0:=isAgg0
 z0:=sizeOf0
 v0:=zeroValue0
 t2:=underlying2
 a2:=isAgg2
 z2:=sizeOf2
 v2:=zeroValue2
 t3:=underlying3
 a3:=isAgg3
 z3:=sizeOf3
 v3:=zeroValue3
 t4:=underlying4
 a4:=isAgg4
 z4:=sizeOf4
 v4:=zeroValue4
 t5:=underlying5
 a5:=isAgg5
 z5:=sizeOf5
 v5:=zeroValue5
 t9:=underlying9
 a9:=isAgg9
 z9:=sizeOf9
 v9:=zeroValue9
 t20:=underlying20
 a20:=isAgg20
 z20:=sizeOf20
 v20:=zeroValue20
 t37:=underlying195
 a37:=isAgg195
 z37:=sizeOf195
 v37:=zeroValue195
 t46:=underlying199
 a46:=isAgg199
 z46:=sizeOf199
 v46:=zeroValue199
 t51:=underlying248
 a51:=isAgg248
 z51:=sizeOf248
 v51:=zeroValue248
 t53:=underlying250
 a53:=isAgg250
 z53:=sizeOf250
 v53:=zeroValue250
 t171:=underlying402
 a171:=isAgg402
 z171:=sizeOf402
 v171:=zeroValue402
 t173:=underlying404
 a173:=isAgg404
 z173:=sizeOf404
 v173:=zeroValue404
 t212:=underlying452
 a212:=isAgg452
 z212:=sizeOf452
 v212:=zeroValue452
 t213:=underlying453
 a213:=isAgg453
 z213:=sizeOf453
 t232:=underlying488
 a232:=isAgg488
 z232:=sizeOf488
 v232:=zeroValue488
 t233:=underlying489
 a233:=isAgg489
 z233:=sizeOf489
 v233:=zeroValue489
 g17:=by kernel_rfl
 g18:=by kernel_rfl
 g19:=by kernel_rfl
 i0:=by kernel_rfl
 i2:=by kernel_rfl
 i3:=by kernel_rfl
 i4:=by kernel_rfl
 i5:=by kernel_rfl
 i9:=by kernel_rfl
 i20:=by kernel_rfl
 i37:=by kernel_rfl
 i46:=by kernel_rfl
 i51:=by kernel_rfl
 i53:=by kernel_rfl
 i171:=by kernel_rfl
 i173:=by kernel_rfl
 i212:=by kernel_rfl
 i232:=by kernel_rfl
 i233:=by kernel_rfl
 m17:=by kernel_rfl
 m18:=by kernel_rfl
 m19:=by kernel_rfl}
open Go.RowKit Go.Sort Go.Lib in
theorem Tryz.strconv_Itoa (n : Int) (h0 : -9223372036854775808 ≤ n) (c : n ≤ 9223372036854775807) (w : World) (a : Lib.TabIs prog w "internal/strconv.uint64pow10" .u64 Lib.pow10Tab) :
 Calls prog 124 #[.int .i64 n] w fun e b=>e=.returned (.string ⟨(Lib.itoa n).toArray⟩)∧∃k os,b=grow (w.drewN k) os:=Any.strconv_Itoa Cr n h0 c w a
def Tryz.uu:Go.Shelf.Ren:=⟨fun|172=>126|244=>179|245=>180|247=>242|279=>243|280=>244|281=>245|282=>246|287=>294|316=>295|171=>124|205=>296|321=>339|322=>340|243=>177|246=>237|283=>288|284=>289|285=>290|286=>291|129=>141|317=>335|318=>336|319=>337|320=>338|337=>367|338=>368|n=>n,fun|9=>9|3=>3|75=>228|76=>229|4=>4|5=>5|167=>340|37=>195|0=>0|85=>341|2=>2|168=>343|53=>250|175=>408|46=>199|210=>412|127=>280|145=>457|143=>455|21=>21|171=>402|173=>404|212=>452|51=>248|20=>20|213=>453|232=>488|233=>489|80=>235|n=>n,fun|15=>1|16=>2|17=>3|18=>7|19=>8|n=>n⟩
theorem Tryz.qE:Go.Proofs.LaysC.n172 prog uu:={
 mixed:=by kernel_rfl
 f129:=func141.trans (congrArg some (by kernel_rfl))
 f171:=func124.trans (congrArg some (by kernel_rfl))
 f172:=func126.trans (congrArg some (by kernel_rfl))
 f205:=func296.trans (congrArg some (by kernel_rfl))
 f243:=func177.trans (congrArg some (by kernel_rfl))
 f244:=func179.trans (congrArg some (by kernel_rfl))
 f245:=func180.trans (congrArg some (by kernel_rfl))
 f246:=func237.trans (congrArg some (by kernel_rfl))
 f247:=func242.trans (congrArg some (by kernel_rfl))
 f279:=func243.trans (congrArg some (by kernel_rfl))
 f280:=func244.trans (congrArg some (by kernel_rfl))
 f281:=func245.trans (congrArg some (by kernel_rfl))
 f282:=func246.trans (congrArg some (by kernel_rfl))
 f283:=func288.trans (congrArg some (by kernel_rfl))
 f284:=func289.trans (congrArg some (by kernel_rfl))
 f285:=func290.trans (congrArg some (by kernel_rfl))
 f286:=func291.trans (congrArg some (by kernel_rfl))
 f287:=func294.trans (congrArg some (by kernel_rfl))
 f316:=func295.trans (congrArg some (by kernel_rfl))
 f317:=func335.trans (congrArg some (by kernel_rfl))
 f318:=func336.trans (congrArg some (by kernel_rfl))
 f319:=func337.trans (congrArg some (by kernel_rfl))
 f320:=func338.trans (congrArg some (by kernel_rfl))
 f321:=func339.trans (congrArg some (by kernel_rfl))
 f322:=func340.trans (congrArg some (by kernel_rfl))
 f337:=func367.trans (congrArg some (by kernel_rfl))
 f338:=func368.trans (congrArg some (by kernel_rfl))
 t0:=underlying0
 a0:=isAgg0
 z0:=sizeOf0
 v0:=zeroValue0
 t2:=underlying2
 a2:=isAgg2
 z2:=sizeOf2
 v2:=zeroValue2
 t3:=underlying3
 a3:=isAgg3
 z3:=sizeOf3
 v3:=zeroValue3
 t4:=underlying4
 a4:=isAgg4
 z4:=sizeOf4
 v4:=zeroValue4
 t5:=underlying5
 a5:=isAgg5
 z5:=sizeOf5
 v5:=zeroValue5
 t9:=underlying9
 a9:=isAgg9
 z9:=sizeOf9
 v9:=zeroValue9
 t20:=underlying20
 a20:=isAgg20
 z20:=sizeOf20
 v20:=zeroValue20
 t21:=underlying21
 a21:=isAgg21
 z21:=sizeOf21
 v21:=zeroValue21
 t37:=underlying195
 a37:=isAgg195
 z37:=sizeOf195
 v37:=zeroValue195
 t46:=underlying199
 a46:=isAgg199
 z46:=sizeOf199
 v46:=zeroValue199
 t51:=underlying248
 a51:=isAgg248
 z51:=sizeOf248
 v51:=zeroValue248
 t53:=underlying250
 a53:=isAgg250
 z53:=sizeOf250
 v53:=zeroValue250
 t75:=underlying228
 a75:=isAgg228
 z75:=sizeOf228
 v75:=zeroValue228
 t76:=underlying229
 a76:=isAgg229
 z76:=sizeOf229
 v76:=zeroValue229
 t85:=underlying341
 a85:=isAgg341
 z85:=sizeOf341
 v85:=zeroValue341
 t127:=underlying280
 a127:=isAgg280
 z127:=sizeOf280
 v127:=zeroValue280
 t143:=underlying455
 a143:=isAgg455
 z143:=sizeOf455
 v143:=zeroValue455
 t145:=underlying457
 a145:=isAgg457
 z145:=sizeOf457
 v145:=zeroValue457
 t167:=underlying340
 a167:=isAgg340
 z167:=sizeOf340
 v167:=zeroValue340
 t168:=underlying343
 a168:=isAgg343
 z168:=sizeOf343
 v168:=zeroValue343
 t171:=underlying402
 a171:=isAgg402
 z171:=sizeOf402
 v171:=zeroValue402
 t173:=underlying404
 a173:=isAgg404
 z173:=sizeOf404
 v173:=zeroValue404
 t175:=underlying408
 a175:=isAgg408
 z175:=sizeOf408
 v175:=zeroValue408
 t210:=underlying412
 a210:=isAgg412
 z210:=sizeOf412
 v210:=zeroValue412
 t212:=underlying452
 a212:=isAgg452
 z212:=sizeOf452
 v212:=zeroValue452
 t213:=underlying453
 a213:=isAgg453
 z213:=sizeOf453
 t232:=underlying488
 a232:=isAgg488
 z232:=sizeOf488
 v232:=zeroValue488
 t233:=underlying489
 a233:=isAgg489
 z233:=sizeOf489
 v233:=zeroValue489
 g15:=by kernel_rfl
 g16:=by kernel_rfl
 g17:=by kernel_rfl
 g18:=by kernel_rfl
 g19:=by kernel_rfl
 t80:=underlying235
 a80:=isAgg235
 z80:=sizeOf235
 v80:=zeroValue235
 i0:=by kernel_rfl
 i2:=by kernel_rfl
 i3:=by kernel_rfl
 i4:=by kernel_rfl
 i5:=by kernel_rfl
 i9:=by kernel_rfl
 i20:=by kernel_rfl
 i21:=by kernel_rfl
 i37:=by kernel_rfl
 i46:=by kernel_rfl
 i51:=by kernel_rfl
 i53:=by kernel_rfl
 i75:=by kernel_rfl
 i76:=by kernel_rfl
 i80:=by kernel_rfl
 i85:=by kernel_rfl
 i127:=by kernel_rfl
 i143:=by kernel_rfl
 i145:=by kernel_rfl
 i167:=by kernel_rfl
 i168:=by kernel_rfl
 i171:=by kernel_rfl
 i173:=by kernel_rfl
 i175:=by kernel_rfl
 i210:=by kernel_rfl
 i212:=by kernel_rfl
 i232:=by kernel_rfl
 i233:=by kernel_rfl
 m15:=by kernel_rfl
 m16:=by kernel_rfl
 m17:=by kernel_rfl
 m18:=by kernel_rfl
 m19:=by kernel_rfl
 c0:=by kernel_rfl
 c2:=by kernel_rfl
 c3:=by kernel_rfl
 c4:=by kernel_rfl
 c5:=by kernel_rfl
 c9:=by kernel_rfl
 c20:=by kernel_rfl
 c21:=by kernel_rfl
 c37:=by kernel_rfl
 c46:=by kernel_rfl
 c51:=by kernel_rfl
 c53:=by kernel_rfl
 c75:=by kernel_rfl
 c76:=by kernel_rfl
 c80:=by kernel_rfl
 c85:=by kernel_rfl
 c127:=by kernel_rfl
 c143:=by kernel_rfl
 c145:=by kernel_rfl
 c167:=by kernel_rfl
 c168:=by kernel_rfl
 c171:=by kernel_rfl
 c173:=by kernel_rfl
 c175:=by kernel_rfl
 c210:=by kernel_rfl
 c212:=by kernel_rfl
 c213:=by kernel_rfl
 c232:=by kernel_rfl
 c233:=by kernel_rfl}
open Go.RowKit in
theorem Tryz.strconv_Atoi_ok(s:ByteArray)(a:s.size≤9223372036854775806)(v:Int)(h:Lib.atoiAll s.data.toList=.ok v)(w:World):
 Calls prog 126 #[.string s] w fun e b=>e=.returned (.tuple #[.int .i64 v,.nilIface])∧(b=w∨∃t,b=Lib.bytesWorld w 5 t):=Any.strconv_Atoi_ok qE s a v h w
open Go.RowKit in
theorem Tryz.strconv_Atoi_syntax(s:ByteArray)(a:s.size≤281474976710656)(h:Lib.atoiAll s.data.toList=Lib.NumEnd.syntax)(b:Value)(w:World)(i:w.cell? ⟨1,0,none⟩=some b)(c:b=.nilIface∨∃f g,b=.iface f g):
 Calls prog 126 #[.string s] w fun e d=>∃N,e=.returned (.tuple #[.int .i64 (0),.iface 343 (.pointer (some ⟨N,0,none⟩))])∧w.heap.size≤N∧d.heap[N]?=some (.cells #[.string ⟨#[65,116,111,105]⟩,.string s,b] 412 (0,0))∧Below w.heap.size w d:=Any.strconv_Atoi_syntax qE s a h b w i c
open Go.RowKit in
theorem Tryz.strconv_Atoi_range(s:ByteArray)(a:s.size≤281474976710656)(h:Lib.atoiAll s.data.toList=.range)(b:Value)(w:World)(i:w.cell? ⟨2,0,none⟩=some b)(c:b=.nilIface∨∃f g,b=.iface f g):
 Calls prog 126 #[.string s] w fun e d=>∃N,e=.returned (.tuple #[.int .i64 (Lib.atoiSat s.data.toList),.iface 343 (.pointer (some ⟨N,0,none⟩))])∧w.heap.size≤N∧d.heap[N]?=some (.cells #[.string ⟨#[65,116,111,105]⟩,.string s,b] 412 (0,0))∧Below w.heap.size w d:=Any.strconv_Atoi_range qE s a h b w i c
def Tryz.wg:Go.Shelf.Ren:=⟨fun|189=>83|125=>107|257=>106|128=>140|129=>141|294=>131|295=>132|296=>133|297=>134|298=>135|299=>136|216=>137|300=>138|301=>139|328=>184|329=>185|330=>186|331=>187|332=>188|215=>189|343=>249|n=>n,fun|28=>49|3=>3|46=>199|0=>0|51=>248|53=>250|4=>4|183=>241|182=>240|131=>160|5=>5|9=>9|218=>282|222=>146|228=>349|229=>176|n=>n,fun|n=>n⟩
theorem Tryz.yW:Go.Proofs.Lays.n189 prog wg:={
 mixed:=by kernel_rfl
 f125:=func107.trans (congrArg some (by kernel_rfl))
 f128:=func140.trans (congrArg some (by kernel_rfl))
 f129:=func141.trans (congrArg some (by kernel_rfl))
 f189:=func83.trans (congrArg some (by kernel_rfl))
 f215:=func189.trans (congrArg some (by kernel_rfl))
 f216:=func137.trans (congrArg some (by kernel_rfl))
 f257:=func106.trans (congrArg some (by kernel_rfl))
 f294:=func131.trans (congrArg some (by kernel_rfl))
 f295:=func132.trans (congrArg some (by kernel_rfl))
 f296:=func133.trans (congrArg some (by kernel_rfl))
 f297:=func134.trans (congrArg some (by kernel_rfl))
 f298:=func135.trans (congrArg some (by kernel_rfl))
 f299:=func136.trans (congrArg some (by kernel_rfl))
 f300:=func138.trans (congrArg some (by kernel_rfl))
 f301:=func139.trans (congrArg some (by kernel_rfl))
 f328:=func184.trans (congrArg some (by kernel_rfl))
 f329:=func185.trans (congrArg some (by kernel_rfl))
 f330:=func186.trans (congrArg some (by kernel_rfl))
 f331:=func187.trans (congrArg some (by kernel_rfl))
 f332:=func188.trans (congrArg some (by kernel_rfl))
 f343:=func249.trans (congrArg some (by kernel_rfl))
 t0:=underlying0
 a0:=isAgg0
 z0:=sizeOf0
 v0:=zeroValue0
 t3:=underlying3
 a3:=isAgg3
 z3:=sizeOf3
 v3:=zeroValue3
 t4:=underlying4
 a4:=isAgg4
 z4:=sizeOf4
 v4:=zeroValue4
 t5:=underlying5
 a5:=isAgg5
 z5:=sizeOf5
 v5:=zeroValue5
 t9:=underlying9
 a9:=isAgg9
 z9:=sizeOf9
 v9:=zeroValue9
 t28:=underlying49
 a28:=isAgg49
 z28:=sizeOf49
 v28:=zeroValue49
 t46:=underlying199
 a46:=isAgg199
 z46:=sizeOf199
 v46:=zeroValue199
 t51:=underlying248
 a51:=isAgg248
 z51:=sizeOf248
 v51:=zeroValue248
 t53:=underlying250
 a53:=isAgg250
 z53:=sizeOf250
 v53:=zeroValue250
 t131:=underlying160
 a131:=isAgg160
 z131:=sizeOf160
 v131:=zeroValue160
 t182:=underlying240
 a182:=isAgg240
 z182:=sizeOf240
 v182:=zeroValue240
 t183:=underlying241
 a183:=isAgg241
 z183:=sizeOf241
 v183:=zeroValue241
 t218:=underlying282
 a218:=isAgg282
 z218:=sizeOf282
 v218:=zeroValue282
 t222:=underlying146
 a222:=isAgg146
 z222:=sizeOf146
 v222:=zeroValue146
 t228:=underlying349
 a228:=isAgg349
 z228:=sizeOf349
 v228:=zeroValue349
 t229:=underlying176
 a229:=isAgg176
 z229:=sizeOf176
 v229:=zeroValue176}
open Go.Sort Go.RowKit in
theorem Tryz.slices_Sort_int(blk off cap:Nat)(zs:List Int)(w:World)(d:Holds (Value.int .i64) w blk off zs.toArray)(a:blk<w.heap.size)(b:zs.length<4611686018427387904):
 Calls prog 83 #[.slice (some ⟨blk,off,none⟩) zs.length cap] w fun e c=>
  e=.returned (.tuple #[])∧∃n os,c=grow (putRow (Value.int .i64) (Sort.ahead w n) blk off (zs.mergeSort fun x y=>decide (x≤y)).toArray) os:=Any.slices_Sort_int yW blk off cap zs w d a b
def Tryz.lays153_ren:Go.Shelf.Ren:=⟨fun|153=>377|152=>382|226=>383|227=>384|228=>385|137=>386|119=>387|224=>240|225=>239|217=>238|266=>292|n=>n,fun|9=>9|3=>3|4=>4|5=>5|21=>21|117=>493|116=>492|0=>0|46=>199|124=>496|n=>n,fun|n=>n⟩
theorem Tryz.EG:Go.Proofs.Lays.n153 prog lays153_ren:={
 mixed:=by kernel_rfl
 f119:=func387.trans (congrArg some (by kernel_rfl))
 f137:=func386.trans (congrArg some (by kernel_rfl))
 f152:=func382.trans (congrArg some (by kernel_rfl))
 f153:=func377.trans (congrArg some (by kernel_rfl))
 f217:=func238.trans (congrArg some (by kernel_rfl))
 f224:=func240.trans (congrArg some (by kernel_rfl))
 f225:=func239.trans (congrArg some (by kernel_rfl))
 f226:=func383.trans (congrArg some (by kernel_rfl))
 f227:=func384.trans (congrArg some (by kernel_rfl))
 f228:=func385.trans (congrArg some (by kernel_rfl))
 f266:=func292.trans (congrArg some (by kernel_rfl))
 t0:=underlying0
 a0:=isAgg0
 z0:=sizeOf0
 v0:=zeroValue0
 t3:=underlying3
 a3:=isAgg3
 z3:=sizeOf3
 v3:=zeroValue3
 t4:=underlying4
 a4:=isAgg4
 z4:=sizeOf4
 v4:=zeroValue4
 t5:=underlying5
 a5:=isAgg5
 z5:=sizeOf5
 v5:=zeroValue5
 t9:=underlying9
 a9:=isAgg9
 z9:=sizeOf9
 v9:=zeroValue9
 t21:=underlying21
 a21:=isAgg21
 z21:=sizeOf21
 v21:=zeroValue21
 t46:=underlying199
 a46:=isAgg199
 z46:=sizeOf199
 v46:=zeroValue199
 t116:=underlying492
 a116:=isAgg492
 z116:=sizeOf492
 t117:=underlying493
 a117:=isAgg493
 z117:=sizeOf493
 v117:=zeroValue493
 t124:=underlying496
 a124:=isAgg496
 z124:=sizeOf496
 v124:=zeroValue496}
open Go.RowKit Go.Lib in
theorem Tryz.strings_IndexAny_laid(s a:ByteArray)(w:World)(g:s.size<4294967281)(c:a.size<4294967281)(has:∀(j:Nat) b,s.data.toList[j]?=some b→b.toNat<128)(d:∀(j:Nat) b,a.data.toList[j]?=some b→b.toNat<128):
 Calls prog 377 #[.string s,.string a] w fun e f=>e=.returned (.int .i64 (Lib.indexAny s.data.toList a.data.toList))∧Below w.heap.size w f:=Any.strings_IndexAny_laid EG (by kernel_rfl) s a w g c has d
open Go.RowKit Go.Sort in
theorem Tryz.slices_Sort_int_none(p:Option Addr)(cap:Nat)(w:World):
 Calls prog 83 #[.slice p 0 cap] w fun e a=>e=.returned (.tuple #[])∧a=w:=Any.slices_Sort_int_none yW p cap w
