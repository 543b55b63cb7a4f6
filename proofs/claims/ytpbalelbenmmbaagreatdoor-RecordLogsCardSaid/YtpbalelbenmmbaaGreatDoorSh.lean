import Derived.Test.YtpbalelbenmmbaaGreatDoorHw
import Derived.Shelf.LaysC
import Derived.Shelf.LaysM
import Derived.Shelf.Slices.In.SortNone
import Derived.Shelf.Small.Strs
import Derived.Shelf.Small.Utf8
import Derived.Shelf.Sort.Plain
import Derived.Shelf.Strconv.Atoi
import Derived.Shelf.Strconv.AtoiAll
import Derived.Shelf.Strconv.AtoiErrFast
import Derived.Shelf.Strconv.AtoiFail
import Derived.Shelf.Strconv.AtoiInnerAll
import Derived.Shelf.Strconv.AtoiLong
import Derived.Shelf.Strconv.Clone
import Derived.Shelf.Strconv.Itoa0
import Derived.Shelf.Strconv.Itoa1
import Derived.Shelf.Strconv.Itoa2
import Derived.Shelf.Strconv.Itoa3
import Derived.Shelf.Strconv.Lower
import Derived.Shelf.Strconv.ParseInt10
import Derived.Shelf.Strconv.ParseIntEmpty
import Derived.Shelf.Strconv.ParseUint10
import Derived.Shelf.Strconv.ParseUint10Any
import Derived.Shelf.Strconv.ParseUint10Empty
import Derived.Shelf.Strconv.RangeError
import Derived.Shelf.Strconv.SyntaxError
import Derived.Shelf.Strconv.ToError
import Derived.Shelf.Strconv.ToErrorRange
import Derived.Shelf.Strings.AsciiSet
import Derived.Shelf.Strings.Builder1
import Derived.Shelf.Strings.Builder2
import Derived.Shelf.Strings.Count
import Derived.Shelf.Strings.Cut
import Derived.Shelf.Strings.IndexAny
import Derived.Shelf.Strings.IndexAnyAll
import Derived.Shelf.Strings.OnBuilder
import Derived.Shelf.Strings.Runes
import Derived.Shelf.Strings.Shaped
import Derived.Shelf.Unicode.DecodeSlow
import Derived.Test.YtpbalelbenmmbaaGreatDoorProg
namespace Go.Proofs
open Go.Shelf
def Tryz.oN:Go.Shelf.Ren:=⟨fun|156=>96|165=>156|166=>157|169=>158|240=>216|241=>217|276=>268|277=>269|n=>n,fun|31=>103|9=>9|3=>3|4=>4|0=>0|20=>20|72=>249|76=>245|70=>247|37=>230|75=>244|127=>313|164=>378|5=>5|80=>251|n=>n,fun|n=>n⟩
theorem Tryz.yV:Go.Proofs.Lays.n156 Tryz.prog Tryz.oN:={
 mixed:=by kernel_rfl
 f156:=Tryz.func96.trans (congrArg some (by kernel_rfl))
 f165:=Tryz.func156.trans (congrArg some (by kernel_rfl))
 f166:=Tryz.func157.trans (congrArg some (by kernel_rfl))
 f169:=Tryz.func158.trans (congrArg some (by kernel_rfl))
 f240:=Tryz.func216.trans (congrArg some (by kernel_rfl))
 f241:=Tryz.func217.trans (congrArg some (by kernel_rfl))
 f276:=Tryz.func268.trans (congrArg some (by kernel_rfl))
 f277:=Tryz.func269.trans (congrArg some (by kernel_rfl))
 t0:=Tryz.underlying0
 a0:=Tryz.isAgg0
 z0:=Tryz.sizeOf0
 v0:=Tryz.zeroValue0
 t3:=Tryz.underlying3
 a3:=Tryz.isAgg3
 z3:=Tryz.sizeOf3
 v3:=Tryz.zeroValue3
 t4:=Tryz.underlying4
 a4:=Tryz.isAgg4
 z4:=Tryz.sizeOf4
 v4:=Tryz.zeroValue4
 t9:=Tryz.underlying9
 a9:=Tryz.isAgg9
 z9:=Tryz.sizeOf9
 v9:=Tryz.zeroValue9
 t20:=Tryz.underlying20
 a20:=Tryz.isAgg20
 z20:=Tryz.sizeOf20
 v20:=Tryz.zeroValue20
 t31:=Tryz.underlying103
 a31:=Tryz.isAgg103
 z31:=Tryz.sizeOf103
 v31:=Tryz.zeroValue103
 t37:=Tryz.underlying230
 a37:=Tryz.isAgg230
 z37:=Tryz.sizeOf230
 v37:=Tryz.zeroValue230
 t70:=Tryz.underlying247
 a70:=Tryz.isAgg247
 z70:=Tryz.sizeOf247
 v70:=Tryz.zeroValue247
 t72:=Tryz.underlying249
 a72:=Tryz.isAgg249
 z72:=Tryz.sizeOf249
 v72:=Tryz.zeroValue249
 t75:=Tryz.underlying244
 a75:=Tryz.isAgg244
 z75:=Tryz.sizeOf244
 v75:=Tryz.zeroValue244
 t76:=Tryz.underlying245
 a76:=Tryz.isAgg245
 z76:=Tryz.sizeOf245
 v76:=Tryz.zeroValue245
 t127:=Tryz.underlying313
 a127:=Tryz.isAgg313
 z127:=Tryz.sizeOf313
 v127:=Tryz.zeroValue313
 t164:=Tryz.underlying378
 a164:=Tryz.isAgg378
 z164:=Tryz.sizeOf378
 v164:=Tryz.zeroValue378}
theorem Tryz.iu:Builder.Extra Tryz.prog Tryz.oN:={
 sizeBuilder:=by kernel_rfl
 liesBuilder:=by kernel_rfl
 t5:=Tryz.underlying5
 a5:=Tryz.isAgg5
 z5:=Tryz.sizeOf5
 v5:=Tryz.zeroValue5
 infoByte:=by kernel_rfl
 cellsByte:=by kernel_rfl
 sizeByte:=by kernel_rfl
 neB5:=by decide}
open Go.RowKit in
theorem Tryz.strings_Join_none(a:Option Addr)(c:Nat)(sep:ByteArray)(w:World):
 Calls Tryz.prog 96 #[.slice a 0 c,.string sep] w fun e w'=>e=.returned (.string ⟨#[]⟩)∧w'=w:=Any.strings_Join_none Tryz.yV Tryz.iu a c sep w
open Go.RowKit in
theorem Tryz.strings_Join(bk o c:Nat)(xs:List ByteArray)(sep:ByteArray)(w:World)(hcells:∀(j:Nat) x,xs[j]?=some x→w.cell? ⟨bk,o+j,none⟩=some (.string x))(hbk:bk<w.heap.size)(hN:xs.length≤140737488355328)(hcap:xs.length≤c)(hlen:(Lib.join (xs.map (·.data.toList)) sep.data.toList).length≤140737488355328):
 Calls Tryz.prog 96 #[.slice (some ⟨bk,o,none⟩) xs.length c,.string sep] w fun e w'=>e=.returned (.string ⟨(Lib.join (xs.map (·.data.toList)) sep.data.toList).toArray⟩)∧Below w.heap.size w w':=Any.strings_Join Tryz.yV Tryz.iu bk o c xs sep w hcells hbk hN hcap hlen
def Tryz.ur:Go.Shelf.Ren:=⟨fun|171=>142|243=>207|246=>261|283=>310|284=>311|285=>312|286=>313|129=>154|317=>343|318=>344|319=>345|320=>346|337=>357|338=>358|n=>n,fun|3=>3|9=>9|2=>2|4=>4|171=>421|0=>0|53=>242|37=>230|5=>5|173=>423|212=>452|51=>240|20=>20|213=>453|46=>190|232=>468|233=>469|n=>n,fun|17=>3|18=>7|19=>8|n=>n⟩
theorem Tryz.Cr:Go.Proofs.LaysM.n171 Tryz.prog Tryz.ur:={
 mixed:=by kernel_rfl
 f129:=Tryz.func154.trans (congrArg some (by kernel_rfl))
 f171:=Tryz.func142.trans (congrArg some (by kernel_rfl))
 f243:=Tryz.func207.trans (congrArg some (by kernel_rfl))
 f246:=Tryz.func261.trans (congrArg some (by kernel_rfl))
 f283:=Tryz.func310.trans (congrArg some (by kernel_rfl))
 f284:=Tryz.func311.trans (congrArg some (by kernel_rfl))
 f285:=Tryz.func312.trans (congrArg some (by kernel_rfl))
 f286:=Tryz.func313.trans (congrArg some (by kernel_rfl))
 f317:=Tryz.func343.trans (congrArg some (by kernel_rfl))
 f318:=Tryz.func344.trans (congrArg some (by kernel_rfl))
 f319:=Tryz.func345.trans (congrArg some (by kernel_rfl))
 f320:=Tryz.func346.trans (congrArg some (by kernel_rfl))
 f337:=Tryz.func357.trans (congrArg some (by kernel_rfl))
 f338:=Tryz.func358.trans (congrArg some (by kernel_rfl))
 t0:=Tryz.underlying0
 a0:=Tryz.isAgg0
 z0:=Tryz.sizeOf0
 v0:=Tryz.zeroValue0
 t2:=Tryz.underlying2
 a2:=Tryz.isAgg2
 z2:=Tryz.sizeOf2
 v2:=Tryz.zeroValue2
 t3:=Tryz.underlying3
 a3:=Tryz.isAgg3
 z3:=Tryz.sizeOf3
 v3:=Tryz.zeroValue3
 t4:=Tryz.underlying4
 a4:=Tryz.isAgg4
 z4:=Tryz.sizeOf4
 v4:=Tryz.zeroValue4
 t5:=Tryz.underlying5
 a5:=Tryz.isAgg5
 z5:=Tryz.sizeOf5
 v5:=Tryz.zeroValue5
 t9:=Tryz.underlying9
 a9:=Tryz.isAgg9
 z9:=Tryz.sizeOf9
 v9:=Tryz.zeroValue9
 t20:=Tryz.underlying20
 a20:=Tryz.isAgg20
 z20:=Tryz.sizeOf20
 v20:=Tryz.zeroValue20
 t37:=Tryz.underlying230
 a37:=Tryz.isAgg230
 z37:=Tryz.sizeOf230
 v37:=Tryz.zeroValue230
 t46:=Tryz.underlying190
 a46:=Tryz.isAgg190
 z46:=Tryz.sizeOf190
 v46:=Tryz.zeroValue190
 t51:=Tryz.underlying240
 a51:=Tryz.isAgg240
 z51:=Tryz.sizeOf240
 v51:=Tryz.zeroValue240
 t53:=Tryz.underlying242
 a53:=Tryz.isAgg242
 z53:=Tryz.sizeOf242
 v53:=Tryz.zeroValue242
 t171:=Tryz.underlying421
 a171:=Tryz.isAgg421
 z171:=Tryz.sizeOf421
 v171:=Tryz.zeroValue421
 t173:=Tryz.underlying423
 a173:=Tryz.isAgg423
 z173:=Tryz.sizeOf423
 v173:=Tryz.zeroValue423
 t212:=Tryz.underlying452
 a212:=Tryz.isAgg452
 z212:=Tryz.sizeOf452
 v212:=Tryz.zeroValue452
 t213:=Tryz.underlying453
 a213:=Tryz.isAgg453
 z213:=Tryz.sizeOf453
 t232:=Tryz.underlying468
 a232:=Tryz.isAgg468
 z232:=Tryz.sizeOf468
 v232:=Tryz.zeroValue468
 t233:=Tryz.underlying469
 a233:=Tryz.isAgg469
 z233:=Tryz.sizeOf469
 v233:=Tryz.zeroValue469
 g17:=by kernel_rfl
 g18:=by kernel_rfl
 g19:=by kernel_rfl
 i0:=by kernel_rfl
 i2:=by kernel_rfl
 i3:=by kernel_rfl
 i4:=by kernel_rfl
 i5:=by kernel_rfl
 i9:=by kernel_rfl
 i20:=by kernel_rfl
 i37:=by kernel_rfl
 i46:=by kernel_rfl
 i51:=by kernel_rfl
 i53:=by kernel_rfl
 i171:=by kernel_rfl
 i173:=by kernel_rfl
 i212:=by kernel_rfl
 i232:=by kernel_rfl
 i233:=by kernel_rfl
 m17:=by kernel_rfl
 m18:=by kernel_rfl
 m19:=by kernel_rfl}
open Go.RowKit Go.Sort Go.Lib in
theorem Tryz.strconv_Itoa (n : Int) (h0 : -9223372036854775808 ≤ n) (h1 : n ≤ 9223372036854775807) (w : World) (htab : Lib.TabIs Tryz.prog w "internal/strconv.uint64pow10" .u64 Lib.pow10Tab) :
 Calls Tryz.prog 142 #[.int .i64 n] w fun e w'=>e=.returned (.string ⟨(Lib.itoa n).toArray⟩)∧∃k os,w'=grow (w.drewN k) os:=Any.strconv_Itoa Tryz.Cr n h0 h1 w htab
def Tryz.uu:Go.Shelf.Ren:=⟨fun|172=>155|244=>214|245=>215|247=>263|279=>264|280=>265|281=>266|282=>267|287=>314|316=>315|171=>142|205=>316|321=>347|322=>348|243=>207|246=>261|283=>310|284=>311|285=>312|286=>313|129=>154|317=>343|318=>344|319=>345|320=>346|337=>357|338=>358|n=>n,fun|9=>9|3=>3|75=>244|76=>245|4=>4|5=>5|167=>372|37=>230|0=>0|85=>373|2=>2|168=>375|53=>242|175=>425|46=>190|210=>429|127=>313|145=>457|143=>455|21=>21|171=>421|173=>423|212=>452|51=>240|20=>20|213=>453|232=>468|233=>469|80=>251|n=>n,fun|15=>1|16=>2|17=>3|18=>7|19=>8|n=>n⟩
theorem Tryz.qE:Go.Proofs.LaysC.n172 Tryz.prog Tryz.uu:={
 mixed:=by kernel_rfl
 f129:=Tryz.func154.trans (congrArg some (by kernel_rfl))
 f171:=Tryz.func142.trans (congrArg some (by kernel_rfl))
 f172:=Tryz.func155.trans (congrArg some (by kernel_rfl))
 f205:=Tryz.func316.trans (congrArg some (by kernel_rfl))
 f243:=Tryz.func207.trans (congrArg some (by kernel_rfl))
 f244:=Tryz.func214.trans (congrArg some (by kernel_rfl))
 f245:=Tryz.func215.trans (congrArg some (by kernel_rfl))
 f246:=Tryz.func261.trans (congrArg some (by kernel_rfl))
 f247:=Tryz.func263.trans (congrArg some (by kernel_rfl))
 f279:=Tryz.func264.trans (congrArg some (by kernel_rfl))
 f280:=Tryz.func265.trans (congrArg some (by kernel_rfl))
 f281:=Tryz.func266.trans (congrArg some (by kernel_rfl))
 f282:=Tryz.func267.trans (congrArg some (by kernel_rfl))
 f283:=Tryz.func310.trans (congrArg some (by kernel_rfl))
 f284:=Tryz.func311.trans (congrArg some (by kernel_rfl))
 f285:=Tryz.func312.trans (congrArg some (by kernel_rfl))
 f286:=Tryz.func313.trans (congrArg some (by kernel_rfl))
 f287:=Tryz.func314.trans (congrArg some (by kernel_rfl))
 f316:=Tryz.func315.trans (congrArg some (by kernel_rfl))
 f317:=Tryz.func343.trans (congrArg some (by kernel_rfl))
 f318:=Tryz.func344.trans (congrArg some (by kernel_rfl))
 f319:=Tryz.func345.trans (congrArg some (by kernel_rfl))
 f320:=Tryz.func346.trans (congrArg some (by kernel_rfl))
 f321:=Tryz.func347.trans (congrArg some (by kernel_rfl))
 f322:=Tryz.func348.trans (congrArg some (by kernel_rfl))
 f337:=Tryz.func357.trans (congrArg some (by kernel_rfl))
 f338:=Tryz.func358.trans (congrArg some (by kernel_rfl))
 t0:=Tryz.underlying0
 a0:=Tryz.isAgg0
 z0:=Tryz.sizeOf0
 v0:=Tryz.zeroValue0
 t2:=Tryz.underlying2
 a2:=Tryz.isAgg2
 z2:=Tryz.sizeOf2
 v2:=Tryz.zeroValue2
 t3:=Tryz.underlying3
 a3:=Tryz.isAgg3
 z3:=Tryz.sizeOf3
 v3:=Tryz.zeroValue3
 t4:=Tryz.underlying4
 a4:=Tryz.isAgg4
 z4:=Tryz.sizeOf4
 v4:=Tryz.zeroValue4
 t5:=Tryz.underlying5
 a5:=Tryz.isAgg5
 z5:=Tryz.sizeOf5
 v5:=Tryz.zeroValue5
 t9:=Tryz.underlying9
 a9:=Tryz.isAgg9
 z9:=Tryz.sizeOf9
 v9:=Tryz.zeroValue9
 t20:=Tryz.underlying20
 a20:=Tryz.isAgg20
 z20:=Tryz.sizeOf20
 v20:=Tryz.zeroValue20
 t21:=Tryz.underlying21
 a21:=Tryz.isAgg21
 z21:=Tryz.sizeOf21
 v21:=Tryz.zeroValue21
 t37:=Tryz.underlying230
 a37:=Tryz.isAgg230
 z37:=Tryz.sizeOf230
 v37:=Tryz.zeroValue230
 t46:=Tryz.underlying190
 a46:=Tryz.isAgg190
 z46:=Tryz.sizeOf190
 v46:=Tryz.zeroValue190
 t51:=Tryz.underlying240
 a51:=Tryz.isAgg240
 z51:=Tryz.sizeOf240
 v51:=Tryz.zeroValue240
 t53:=Tryz.underlying242
 a53:=Tryz.isAgg242
 z53:=Tryz.sizeOf242
 v53:=Tryz.zeroValue242
 t75:=Tryz.underlying244
 a75:=Tryz.isAgg244
 z75:=Tryz.sizeOf244
 v75:=Tryz.zeroValue244
 t76:=Tryz.underlying245
 a76:=Tryz.isAgg245
 z76:=Tryz.sizeOf245
 v76:=Tryz.zeroValue245
 t85:=Tryz.underlying373
 a85:=Tryz.isAgg373
 z85:=Tryz.sizeOf373
 v85:=Tryz.zeroValue373
 t127:=Tryz.underlying313
 a127:=Tryz.isAgg313
 z127:=Tryz.sizeOf313
 v127:=Tryz.zeroValue313
 t143:=Tryz.underlying455
 a143:=Tryz.isAgg455
 z143:=Tryz.sizeOf455
 v143:=Tryz.zeroValue455
 t145:=Tryz.underlying457
 a145:=Tryz.isAgg457
 z145:=Tryz.sizeOf457
 v145:=Tryz.zeroValue457
 t167:=Tryz.underlying372
 a167:=Tryz.isAgg372
 z167:=Tryz.sizeOf372
 v167:=Tryz.zeroValue372
 t168:=Tryz.underlying375
 a168:=Tryz.isAgg375
 z168:=Tryz.sizeOf375
 v168:=Tryz.zeroValue375
 t171:=Tryz.underlying421
 a171:=Tryz.isAgg421
 z171:=Tryz.sizeOf421
 v171:=Tryz.zeroValue421
 t173:=Tryz.underlying423
 a173:=Tryz.isAgg423
 z173:=Tryz.sizeOf423
 v173:=Tryz.zeroValue423
 t175:=Tryz.underlying425
 a175:=Tryz.isAgg425
 z175:=Tryz.sizeOf425
 v175:=Tryz.zeroValue425
 t210:=Tryz.underlying429
 a210:=Tryz.isAgg429
 z210:=Tryz.sizeOf429
 v210:=Tryz.zeroValue429
 t212:=Tryz.underlying452
 a212:=Tryz.isAgg452
 z212:=Tryz.sizeOf452
 v212:=Tryz.zeroValue452
 t213:=Tryz.underlying453
 a213:=Tryz.isAgg453
 z213:=Tryz.sizeOf453
 t232:=Tryz.underlying468
 a232:=Tryz.isAgg468
 z232:=Tryz.sizeOf468
 v232:=Tryz.zeroValue468
 t233:=Tryz.underlying469
 a233:=Tryz.isAgg469
 z233:=Tryz.sizeOf469
 v233:=Tryz.zeroValue469
 g15:=by kernel_rfl
 g16:=by kernel_rfl
 g17:=by kernel_rfl
 g18:=by kernel_rfl
 g19:=by kernel_rfl
 t80:=Tryz.underlying251
 a80:=Tryz.isAgg251
 z80:=Tryz.sizeOf251
 v80:=Tryz.zeroValue251
 i0:=by kernel_rfl
 i2:=by kernel_rfl
 i3:=by kernel_rfl
 i4:=by kernel_rfl
 i5:=by kernel_rfl
 i9:=by kernel_rfl
 i20:=by kernel_rfl
 i21:=by kernel_rfl
 i37:=by kernel_rfl
 i46:=by kernel_rfl
 i51:=by kernel_rfl
 i53:=by kernel_rfl
 i75:=by kernel_rfl
 i76:=by kernel_rfl
 i80:=by kernel_rfl
 i85:=by kernel_rfl
 i127:=by kernel_rfl
 i143:=by kernel_rfl
 i145:=by kernel_rfl
 i167:=by kernel_rfl
 i168:=by kernel_rfl
 i171:=by kernel_rfl
 i173:=by kernel_rfl
 i175:=by kernel_rfl
 i210:=by kernel_rfl
 i212:=by kernel_rfl
 i232:=by kernel_rfl
 i233:=by kernel_rfl
 m15:=by kernel_rfl
 m16:=by kernel_rfl
 m17:=by kernel_rfl
 m18:=by kernel_rfl
 m19:=by kernel_rfl
 c0:=by kernel_rfl
 c2:=by kernel_rfl
 c3:=by kernel_rfl
 c4:=by kernel_rfl
 c5:=by kernel_rfl
 c9:=by kernel_rfl
 c20:=by kernel_rfl
 c21:=by kernel_rfl
 c37:=by kernel_rfl
 c46:=by kernel_rfl
 c51:=by kernel_rfl
 c53:=by kernel_rfl
 c75:=by kernel_rfl
 c76:=by kernel_rfl
 c80:=by kernel_rfl
 c85:=by kernel_rfl
 c127:=by kernel_rfl
 c143:=by kernel_rfl
 c145:=by kernel_rfl
 c167:=by kernel_rfl
 c168:=by kernel_rfl
 c171:=by kernel_rfl
 c173:=by kernel_rfl
 c175:=by kernel_rfl
 c210:=by kernel_rfl
 c212:=by kernel_rfl
 c213:=by kernel_rfl
 c232:=by kernel_rfl
 c233:=by kernel_rfl}
open Go.RowKit in
theorem Tryz.strconv_Atoi_ok(s:ByteArray)(hmax:s.size≤9223372036854775806)(v:Int)(h:Lib.atoiAll s.data.toList=.ok v)(w:World):
 Calls Tryz.prog 155 #[.string s] w fun e w'=>e=.returned (.tuple #[.int .i64 v,.nilIface])∧(w'=w∨∃t,w'=Lib.bytesWorld w 5 t):=Any.strconv_Atoi_ok Tryz.qE s hmax v h w
open Go.RowKit in
theorem Tryz.strconv_Atoi_syntax(s:ByteArray)(hlim:s.size≤281474976710656)(h:Lib.atoiAll s.data.toList=Lib.NumEnd.syntax)(ev:Value)(w:World)(hv:w.cell? ⟨1,0,none⟩=some ev)(hev:ev=.nilIface∨∃te pe,ev=.iface te pe):
 Calls Tryz.prog 155 #[.string s] w fun e w'=>∃N,e=.returned (.tuple #[.int .i64 (0),.iface 375 (.pointer (some ⟨N,0,none⟩))])∧w.heap.size≤N∧w'.heap[N]?=some (.cells #[.string ⟨#[65,116,111,105]⟩,.string s,ev] 429 (0,0))∧Below w.heap.size w w':=Any.strconv_Atoi_syntax Tryz.qE s hlim h ev w hv hev
open Go.RowKit in
theorem Tryz.strconv_Atoi_range(s:ByteArray)(hlim:s.size≤281474976710656)(h:Lib.atoiAll s.data.toList=.range)(ev:Value)(w:World)(hv:w.cell? ⟨2,0,none⟩=some ev)(hev:ev=.nilIface∨∃te pe,ev=.iface te pe):
 Calls Tryz.prog 155 #[.string s] w fun e w'=>∃N,e=.returned (.tuple #[.int .i64 (Lib.atoiSat s.data.toList),.iface 375 (.pointer (some ⟨N,0,none⟩))])∧w.heap.size≤N∧w'.heap[N]?=some (.cells #[.string ⟨#[65,116,111,105]⟩,.string s,ev] 429 (0,0))∧Below w.heap.size w w':=Any.strconv_Atoi_range Tryz.qE s hlim h ev w hv hev
def Tryz.wg:Go.Shelf.Ren:=⟨fun|189=>63|125=>92|257=>91|128=>153|129=>154|294=>144|295=>145|296=>146|297=>147|298=>148|299=>149|216=>150|300=>151|301=>152|328=>208|329=>209|330=>210|331=>211|332=>212|215=>213|343=>262|n=>n,fun|28=>47|3=>3|46=>190|0=>0|51=>240|53=>242|4=>4|183=>233|182=>232|131=>192|5=>5|9=>9|218=>307|222=>148|228=>370|229=>33|n=>n,fun|n=>n⟩
theorem Tryz.yW:Go.Proofs.Lays.n189 Tryz.prog Tryz.wg:={
 mixed:=by kernel_rfl
 f125:=Tryz.func92.trans (congrArg some (by kernel_rfl))
 f128:=Tryz.func153.trans (congrArg some (by kernel_rfl))
 f129:=Tryz.func154.trans (congrArg some (by kernel_rfl))
 f189:=Tryz.func63.trans (congrArg some (by kernel_rfl))
 f215:=Tryz.func213.trans (congrArg some (by kernel_rfl))
 f216:=Tryz.func150.trans (congrArg some (by kernel_rfl))
 f257:=Tryz.func91.trans (congrArg some (by kernel_rfl))
 f294:=Tryz.func144.trans (congrArg some (by kernel_rfl))
 f295:=Tryz.func145.trans (congrArg some (by kernel_rfl))
 f296:=Tryz.func146.trans (congrArg some (by kernel_rfl))
 f297:=Tryz.func147.trans (congrArg some (by kernel_rfl))
 f298:=Tryz.func148.trans (congrArg some (by kernel_rfl))
 f299:=Tryz.func149.trans (congrArg some (by kernel_rfl))
 f300:=Tryz.func151.trans (congrArg some (by kernel_rfl))
 f301:=Tryz.func152.trans (congrArg some (by kernel_rfl))
 f328:=Tryz.func208.trans (congrArg some (by kernel_rfl))
 f329:=Tryz.func209.trans (congrArg some (by kernel_rfl))
 f330:=Tryz.func210.trans (congrArg some (by kernel_rfl))
 f331:=Tryz.func211.trans (congrArg some (by kernel_rfl))
 f332:=Tryz.func212.trans (congrArg some (by kernel_rfl))
 f343:=Tryz.func262.trans (congrArg some (by kernel_rfl))
 t0:=Tryz.underlying0
 a0:=Tryz.isAgg0
 z0:=Tryz.sizeOf0
 v0:=Tryz.zeroValue0
 t3:=Tryz.underlying3
 a3:=Tryz.isAgg3
 z3:=Tryz.sizeOf3
 v3:=Tryz.zeroValue3
 t4:=Tryz.underlying4
 a4:=Tryz.isAgg4
 z4:=Tryz.sizeOf4
 v4:=Tryz.zeroValue4
 t5:=Tryz.underlying5
 a5:=Tryz.isAgg5
 z5:=Tryz.sizeOf5
 v5:=Tryz.zeroValue5
 t9:=Tryz.underlying9
 a9:=Tryz.isAgg9
 z9:=Tryz.sizeOf9
 v9:=Tryz.zeroValue9
 t28:=Tryz.underlying47
 a28:=Tryz.isAgg47
 z28:=Tryz.sizeOf47
 v28:=Tryz.zeroValue47
 t46:=Tryz.underlying190
 a46:=Tryz.isAgg190
 z46:=Tryz.sizeOf190
 v46:=Tryz.zeroValue190
 t51:=Tryz.underlying240
 a51:=Tryz.isAgg240
 z51:=Tryz.sizeOf240
 v51:=Tryz.zeroValue240
 t53:=Tryz.underlying242
 a53:=Tryz.isAgg242
 z53:=Tryz.sizeOf242
 v53:=Tryz.zeroValue242
 t131:=Tryz.underlying192
 a131:=Tryz.isAgg192
 z131:=Tryz.sizeOf192
 v131:=Tryz.zeroValue192
 t182:=Tryz.underlying232
 a182:=Tryz.isAgg232
 z182:=Tryz.sizeOf232
 v182:=Tryz.zeroValue232
 t183:=Tryz.underlying233
 a183:=Tryz.isAgg233
 z183:=Tryz.sizeOf233
 v183:=Tryz.zeroValue233
 t218:=Tryz.underlying307
 a218:=Tryz.isAgg307
 z218:=Tryz.sizeOf307
 v218:=Tryz.zeroValue307
 t222:=Tryz.underlying148
 a222:=Tryz.isAgg148
 z222:=Tryz.sizeOf148
 v222:=Tryz.zeroValue148
 t228:=Tryz.underlying370
 a228:=Tryz.isAgg370
 z228:=Tryz.sizeOf370
 v228:=Tryz.zeroValue370
 t229:=Tryz.underlying33
 a229:=Tryz.isAgg33
 z229:=Tryz.sizeOf33
 v229:=Tryz.zeroValue33}
open Go.Sort Go.RowKit in
theorem Tryz.slices_Sort_int(blk off cap:Nat)(zs:List Int)(w:World)(hH:Holds (Value.int .i64) w blk off zs.toArray)(hblk:blk<w.heap.size)(hsz:zs.length<4611686018427387904):
 Calls Tryz.prog 63 #[.slice (some ⟨blk,off,none⟩) zs.length cap] w fun e w'=>
  e=.returned (.tuple #[])∧∃n os,w'=grow (putRow (Value.int .i64) (Sort.ahead w n) blk off (zs.mergeSort fun x y=>decide (x≤y)).toArray) os:=Any.slices_Sort_int Tryz.yW blk off cap zs w hH hblk hsz
def Tryz.lays153_ren:Go.Shelf.Ren:=⟨fun|153=>359|152=>364|226=>365|227=>366|228=>367|137=>368|119=>369|224=>225|225=>224|217=>223|266=>274|n=>n,fun|9=>9|3=>3|4=>4|5=>5|21=>21|117=>473|116=>472|0=>0|46=>190|124=>476|n=>n,fun|n=>n⟩
theorem Tryz.EG:Go.Proofs.Lays.n153 Tryz.prog Tryz.lays153_ren:={
 mixed:=by kernel_rfl
 f119:=Tryz.func369.trans (congrArg some (by kernel_rfl))
 f137:=Tryz.func368.trans (congrArg some (by kernel_rfl))
 f152:=Tryz.func364.trans (congrArg some (by kernel_rfl))
 f153:=Tryz.func359.trans (congrArg some (by kernel_rfl))
 f217:=Tryz.func223.trans (congrArg some (by kernel_rfl))
 f224:=Tryz.func225.trans (congrArg some (by kernel_rfl))
 f225:=Tryz.func224.trans (congrArg some (by kernel_rfl))
 f226:=Tryz.func365.trans (congrArg some (by kernel_rfl))
 f227:=Tryz.func366.trans (congrArg some (by kernel_rfl))
 f228:=Tryz.func367.trans (congrArg some (by kernel_rfl))
 f266:=Tryz.func274.trans (congrArg some (by kernel_rfl))
 t0:=Tryz.underlying0
 a0:=Tryz.isAgg0
 z0:=Tryz.sizeOf0
 v0:=Tryz.zeroValue0
 t3:=Tryz.underlying3
 a3:=Tryz.isAgg3
 z3:=Tryz.sizeOf3
 v3:=Tryz.zeroValue3
 t4:=Tryz.underlying4
 a4:=Tryz.isAgg4
 z4:=Tryz.sizeOf4
 v4:=Tryz.zeroValue4
 t5:=Tryz.underlying5
 a5:=Tryz.isAgg5
 z5:=Tryz.sizeOf5
 v5:=Tryz.zeroValue5
 t9:=Tryz.underlying9
 a9:=Tryz.isAgg9
 z9:=Tryz.sizeOf9
 v9:=Tryz.zeroValue9
 t21:=Tryz.underlying21
 a21:=Tryz.isAgg21
 z21:=Tryz.sizeOf21
 v21:=Tryz.zeroValue21
 t46:=Tryz.underlying190
 a46:=Tryz.isAgg190
 z46:=Tryz.sizeOf190
 v46:=Tryz.zeroValue190
 t116:=Tryz.underlying472
 a116:=Tryz.isAgg472
 z116:=Tryz.sizeOf472
 t117:=Tryz.underlying473
 a117:=Tryz.isAgg473
 z117:=Tryz.sizeOf473
 v117:=Tryz.zeroValue473
 t124:=Tryz.underlying476
 a124:=Tryz.isAgg476
 z124:=Tryz.sizeOf476
 v124:=Tryz.zeroValue476}
open Go.RowKit Go.Lib in
theorem Tryz.strings_IndexAny_laid(s chars:ByteArray)(w:World)(hs:s.size<4294967281)(hcs:chars.size<4294967281)(has:∀(j:Nat) b,s.data.toList[j]?=some b→b.toNat<128)(hac:∀(j:Nat) b,chars.data.toList[j]?=some b→b.toNat<128):
 Calls Tryz.prog 359 #[.string s,.string chars] w fun e w'=>e=.returned (.int .i64 (Lib.indexAny s.data.toList chars.data.toList))∧Below w.heap.size w w':=Any.strings_IndexAny_laid Tryz.EG (by kernel_rfl) s chars w hs hcs has hac
open Go.RowKit Go.Sort in
theorem Tryz.slices_Sort_int_none(p:Option Addr)(cap:Nat)(w:World):
 Calls Tryz.prog 63 #[.slice p 0 cap] w fun e w'=>e=.returned (.tuple #[])∧w'=w:=Any.slices_Sort_int_none Tryz.yW p cap w
