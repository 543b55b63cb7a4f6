import Derived.Test.YtlmhpcghgjdjjaaGreatDoorHwH
import Derived.Ground.Names2Prog
import Derived.Ground.SlgnProg
import Derived.Shelf.LaysC
import Derived.Shelf.LaysM
import Derived.Shelf.Slices.Clone
import Derived.Shelf.Slices.In.SortNone
import Derived.Shelf.SlicesE.Clone
import Derived.Shelf.Small.Strs
import Derived.Shelf.Small.Utf8
import Derived.Shelf.Sort.Plain
import Derived.Shelf.Strconv.Atoi
import Derived.Shelf.Strconv.AtoiAll
import Derived.Shelf.Strconv.AtoiErrFast
import Derived.Shelf.Strconv.AtoiFail
import Derived.Shelf.Strconv.AtoiInnerAll
import Derived.Shelf.Strconv.AtoiLong
import Derived.Shelf.Strconv.Clone
import Derived.Shelf.Strconv.Itoa0
import Derived.Shelf.Strconv.Itoa1
import Derived.Shelf.Strconv.Itoa2
import Derived.Shelf.Strconv.Itoa3
import Derived.Shelf.Strconv.Lower
import Derived.Shelf.Strconv.ParseInt10
import Derived.Shelf.Strconv.ParseIntEmpty
import Derived.Shelf.Strconv.ParseUint10
import Derived.Shelf.Strconv.ParseUint10Any
import Derived.Shelf.Strconv.ParseUint10Empty
import Derived.Shelf.Strconv.RangeError
import Derived.Shelf.Strconv.SyntaxError
import Derived.Shelf.Strconv.ToError
import Derived.Shelf.Strconv.ToErrorRange
import Derived.Shelf.Strings.AsciiSet
import Derived.Shelf.Strings.Builder1
import Derived.Shelf.Strings.Builder2
import Derived.Shelf.Strings.Count
import Derived.Shelf.Strings.Cut
import Derived.Shelf.Strings.IndexAny
import Derived.Shelf.Strings.IndexAnyAll
import Derived.Shelf.Strings.OnBuilder
import Derived.Shelf.Strings.Runes
import Derived.Shelf.Strings.Shaped
import Derived.Shelf.Unicode.DecodeAny
import Derived.Shelf.Unicode.DecodeSlow
import Derived.Test.YtlmhpcghgjdjjaaGreatDoorProg
namespace Go.Proofs
open Tryz
open Go.Shelf
def Tryz.KK:Go.Shelf.Ren:=⟨fun|156=>131|165=>181|166=>182|169=>183|240=>236|241=>237|276=>291|277=>292|n=>n,fun|31=>83|9=>9|3=>3|4=>4|0=>0|20=>20|72=>275|76=>271|70=>273|37=>168|75=>270|127=>336|164=>402|5=>5|80=>277|n=>n,fun|n=>n⟩
theorem Tryz.wM:Go.Proofs.Lays.n156 prog KK:={
 mixed:=by kernel_rfl
 f156:=func131.trans (congrArg some (by kernel_rfl))
 f165:=func181.trans (congrArg some (by kernel_rfl))
 f166:=func182.trans (congrArg some (by kernel_rfl))
 f169:=func183.trans (congrArg some (by kernel_rfl))
 f240:=func236.trans (congrArg some (by kernel_rfl))
 f241:=func237.trans (congrArg some (by kernel_rfl))
 f276:=func291.trans (congrArg some (by kernel_rfl))
 f277:=func292.trans (congrArg some (by kernel_rfl))
 t0:=underlying0
 a0:=isAgg0
 z0:=sizeOf0
 v0:=zeroValue0
 t3:=underlying3
 a3:=isAgg3
 z3:=sizeOf3
 v3:=zeroValue3
 t4:=underlying4
 a4:=isAgg4
 z4:=sizeOf4
 v4:=zeroValue4
 t9:=underlying9
 a9:=isAgg9
 z9:=sizeOf9
 v9:=zeroValue9
 t20:=underlying20
 a20:=isAgg20
 z20:=sizeOf20
 v20:=zeroValue20
 t31:=underlying83
 a31:=isAgg83
 z31:=sizeOf83
 v31:=zeroValue83
 t37:=underlying168
 a37:=isAgg168
 z37:=sizeOf168
 v37:=zeroValue168
 t70:=underlying273
 a70:=isAgg273
 z70:=sizeOf273
 v70:=zeroValue273
 t72:=underlying275
 a72:=isAgg275
 z72:=sizeOf275
 v72:=zeroValue275
 t75:=underlying270
 a75:=isAgg270
 z75:=sizeOf270
 v75:=zeroValue270
 t76:=underlying271
 a76:=isAgg271
 z76:=sizeOf271
 v76:=zeroValue271
 t127:=underlying336
 a127:=isAgg336
 z127:=sizeOf336
 v127:=zeroValue336
 t164:=underlying402
 a164:=isAgg402
 z164:=sizeOf402
 v164:=zeroValue402}
theorem Tryz.R4:Builder.Extra prog KK:={
 sizeBuilder:=by kernel_rfl
 liesBuilder:=by kernel_rfl
 t5:=underlying5
 a5:=isAgg5
 z5:=sizeOf5
 v5:=zeroValue5
 infoByte:=by kernel_rfl
 cellsByte:=by kernel_rfl
 sizeByte:=by kernel_rfl
 neB5:=by decide}
open Go.RowKit in
theorem Tryz.strings_Join_none(a:Option Addr)(c:Nat)(sep:ByteArray)(w:World):
 Calls prog 131 #[.slice a 0 c,.string sep] w fun e b=>e=.returned (.string ⟨#[]⟩)∧b=w:=Any.strings_Join_none wM R4 a c sep w
open Go.RowKit in
theorem Tryz.strings_Join(d o c:Nat)(xs:List ByteArray)(sep:ByteArray)(w:World)(a:∀(j:Nat) x,xs[j]?=some x→w.cell? ⟨d,o+j,none⟩=some (.string x))(f:d<w.heap.size)(h:xs.length≤140737488355328)(b:xs.length≤c)(hlen:(Lib.join (xs.map (·.data.toList)) sep.data.toList).length≤140737488355328):
 Calls prog 131 #[.slice (some ⟨d,o,none⟩) xs.length c,.string sep] w fun e g=>e=.returned (.string ⟨(Lib.join (xs.map (·.data.toList)) sep.data.toList).toArray⟩)∧Below w.heap.size w g:=Any.strings_Join wM R4 d o c xs sep w a f h b hlen
def Tryz.D5:Go.Shelf.Ren:=⟨fun|171=>179|243=>233|246=>285|283=>332|284=>333|285=>334|286=>335|129=>151|317=>368|318=>369|319=>370|320=>371|337=>383|338=>384|n=>n,fun|3=>3|9=>9|2=>2|4=>4|171=>442|0=>0|53=>252|37=>168|5=>5|173=>444|212=>476|51=>250|20=>20|213=>477|46=>198|232=>492|233=>493|n=>n,fun|17=>3|18=>7|19=>8|n=>n⟩
theorem Tryz.nN:Go.Proofs.LaysM.n171 prog D5:={
 mixed:=by kernel_rfl
 f129:=func151.trans (congrArg some (by kernel_rfl))
 f171:=func179.trans (congrArg some (by kernel_rfl))
 f243:=func233.trans (congrArg some (by kernel_rfl))
 f246:=func285.trans (congrArg some (by kernel_rfl))
 f283:=func332.trans (congrArg some (by kernel_rfl))
 f284:=func333.trans (congrArg some (by kernel_rfl))
 f285:=func334.trans (congrArg some (by kernel_rfl))
 f286:=func335.trans (congrArg some (by kernel_rfl))
 f317:=func368.trans (congrArg some (by kernel_rfl))
 f318:=func369.trans (congrArg some (by kernel_rfl))
 f319:=func370.trans (congrArg some (by kernel_rfl))
 f320:=func371.trans (congrArg some (by kernel_rfl))
 f337:=func383.trans (congrArg some (by kernel_rfl))
 f338:=func384.trans (congrArg some (by kernel_rfl))
 t0:=underlying0
 a0:=isAgg0
 z0:=sizeOf0
 v0:=zeroValue0
 t2:=underlying2
 a2:=isAgg2
 z2:=sizeOf2
 v2:=zeroValue2
 t3:=underlying3
 a3:=isAgg3
 z3:=sizeOf3
 v3:=zeroValue3
 t4:=underlying4
 a4:=isAgg4
 z4:=sizeOf4
 v4:=zeroValue4
 t5:=underlying5
 a5:=isAgg5
 z5:=sizeOf5
 v5:=zeroValue5
 t9:=underlying9
 a9:=isAgg9
 z9:=sizeOf9
 v9:=zeroValue9
 t20:=underlying20
 a20:=isAgg20
 z20:=sizeOf20
 v20:=zeroValue20
 t37:=underlying168
 a37:=isAgg168
 z37:=sizeOf168
 v37:=zeroValue168
 t46:=underlying198
 a46:=isAgg198
 z46:=sizeOf198
 v46:=zeroValue198
 t51:=underlying250
 a51:=isAgg250
 z51:=sizeOf250
 v51:=zeroValue250
 t53:=underlying252
 a53:=isAgg252
 z53:=sizeOf252
 v53:=zeroValue252
 t171:=underlying442
 a171:=isAgg442
 z171:=sizeOf442
 v171:=zeroValue442
 t173:=underlying444
 a173:=isAgg444
 z173:=sizeOf444
 v173:=zeroValue444
 t212:=underlying476
 a212:=isAgg476
 z212:=sizeOf476
 v212:=zeroValue476
 t213:=underlying477
 a213:=isAgg477
 z213:=sizeOf477
 t232:=underlying492
 a232:=isAgg492
 z232:=sizeOf492
 v232:=zeroValue492
 t233:=underlying493
 a233:=isAgg493
 z233:=sizeOf493
 v233:=zeroValue493
 g17:=by kernel_rfl
 g18:=by kernel_rfl
 g19:=by kernel_rfl
 i0:=by kernel_rfl
 i2:=by kernel_rfl
 i3:=by kernel_rfl
 i4:=by kernel_rfl
 i5:=by kernel_rfl
 i9:=by kernel_rfl
 i20:=by kernel_rfl
 i37:=by kernel_rfl
 i46:=by kernel_rfl
 i51:=by kernel_rfl
 i53:=by kernel_rfl
 i171:=by kernel_rfl
 i173:=by kernel_rfl
 i212:=by kernel_rfl
 i232:=by kernel_rfl
 i233:=by kernel_rfl
 m17:=by kernel_rfl
 m18:=by kernel_rfl
 m19:=by kernel_rfl}
open Go.RowKit Go.Sort Go.Lib in
theorem Tryz.strconv_Itoa (n : Int) (h0 : -9223372036854775808 ≤ n) (c : n ≤ 9223372036854775807) (w : World) (a : Lib.TabIs prog w "internal/strconv.uint64pow10" .u64 Lib.pow10Tab) :
 Calls prog 179 #[.int .i64 n] w fun e b=>e=.returned (.string ⟨(Lib.itoa n).toArray⟩)∧∃k os,b=grow (w.drewN k) os:=Any.strconv_Itoa nN n h0 c w a
def Tryz.D4:Go.Shelf.Ren:=⟨fun|172=>180|244=>234|245=>235|247=>286|279=>287|280=>288|281=>289|282=>290|287=>336|316=>337|171=>179|205=>338|321=>372|322=>373|243=>233|246=>285|283=>332|284=>333|285=>334|286=>335|129=>151|317=>368|318=>369|319=>370|320=>371|337=>383|338=>384|n=>n,fun|9=>9|3=>3|75=>270|76=>271|4=>4|5=>5|167=>396|37=>168|0=>0|85=>397|2=>2|168=>399|53=>252|175=>446|46=>198|210=>450|127=>336|145=>481|143=>479|21=>21|171=>442|173=>444|212=>476|51=>250|20=>20|213=>477|232=>492|233=>493|80=>277|n=>n,fun|15=>1|16=>2|17=>3|18=>7|19=>8|n=>n⟩
theorem Tryz.H9:Go.Proofs.LaysC.n172 prog D4:={
 mixed:=by kernel_rfl
 f129:=func151.trans (congrArg some (by kernel_rfl))
 f171:=func179.trans (congrArg some (by kernel_rfl))
 f172:=func180.trans (congrArg some (by kernel_rfl))
 f205:=func338.trans (congrArg some (by kernel_rfl))
 f243:=func233.trans (congrArg some (by kernel_rfl))
 f244:=func234.trans (congrArg some (by kernel_rfl))
 f245:=func235.trans (congrArg some (by kernel_rfl))
 f246:=func285.trans (congrArg some (by kernel_rfl))
 f247:=func286.trans (congrArg some (by kernel_rfl))
 f279:=func287.trans (congrArg some (by kernel_rfl))
 f280:=func288.trans (congrArg some (by kernel_rfl))
 f281:=func289.trans (congrArg some (by kernel_rfl))
 f282:=func290.trans (congrArg some (by kernel_rfl))
 f283:=func332.trans (congrArg some (by kernel_rfl))
 f284:=func333.trans (congrArg some (by kernel_rfl))
 f285:=func334.trans (congrArg some (by kernel_rfl))
 f286:=func335.trans (congrArg some (by kernel_rfl))
 f287:=func336.trans (congrArg some (by kernel_rfl))
 f316:=func337.trans (congrArg some (by kernel_rfl))
 f317:=func368.trans (congrArg some (by kernel_rfl))
 f318:=func369.trans (congrArg some (by kernel_rfl))
 f319:=func370.trans (congrArg some (by kernel_rfl))
 f320:=func371.trans (congrArg some (by kernel_rfl))
 f321:=func372.trans (congrArg some (by kernel_rfl))
 f322:=func373.trans (congrArg some (by kernel_rfl))
 f337:=func383.trans (congrArg some (by kernel_rfl))
 f338:=func384.trans (congrArg some (by kernel_rfl))
 t0:=underlying0
 a0:=isAgg0
 z0:=sizeOf0
 v0:=zeroValue0
 t2:=underlying2
 a2:=isAgg2
 z2:=sizeOf2
 v2:=zeroValue2
 t3:=underlying3
 a3:=isAgg3
 z3:=sizeOf3
 v3:=zeroValue3
 t4:=underlying4
 a4:=isAgg4
 z4:=sizeOf4
 v4:=zeroValue4
 t5:=underlying5
 a5:=isAgg5
 z5:=sizeOf5
 v5:=zeroValue5
 t9:=underlying9
 a9:=isAgg9
 z9:=sizeOf9
 v9:=zeroValue9
 t20:=underlying20
 a20:=isAgg20
 z20:=sizeOf20
 v20:=zeroValue20
 t21:=underlying21
 a21:=isAgg21
 z21:=sizeOf21
 v21:=zeroValue21
 t37:=underlying168
 a37:=isAgg168
 z37:=sizeOf168
 v37:=zeroValue168
 t46:=underlying198
 a46:=isAgg198
 z46:=sizeOf198
 v46:=zeroValue198
 t51:=underlying250
 a51:=isAgg250
 z51:=sizeOf250
 v51:=zeroValue250
 t53:=underlying252
 a53:=isAgg252
 z53:=sizeOf252
 v53:=zeroValue252
 t75:=underlying270
 a75:=isAgg270
 z75:=sizeOf270
 v75:=zeroValue270
 t76:=underlying271
 a76:=isAgg271
 z76:=sizeOf271
 v76:=zeroValue271
 t85:=underlying397
 a85:=isAgg397
 z85:=sizeOf397
 v85:=zeroValue397
 t127:=underlying336
 a127:=isAgg336
 z127:=sizeOf336
 v127:=zeroValue336
 t143:=underlying479
 a143:=isAgg479
 z143:=sizeOf479
 v143:=zeroValue479
 t145:=underlying481
 a145:=isAgg481
 z145:=sizeOf481
 v145:=zeroValue481
 t167:=underlying396
 a167:=isAgg396
 z167:=sizeOf396
 v167:=zeroValue396
 t168:=underlying399
 a168:=isAgg399
 z168:=sizeOf399
 v168:=zeroValue399
 t171:=underlying442
 a171:=isAgg442
 z171:=sizeOf442
 v171:=zeroValue442
 t173:=underlying444
 a173:=isAgg444
 z173:=sizeOf444
 v173:=zeroValue444
 t175:=underlying446
 a175:=isAgg446
 z175:=sizeOf446
 v175:=zeroValue446
 t210:=underlying450
 a210:=isAgg450
 z210:=sizeOf450
 v210:=zeroValue450
 t212:=underlying476
 a212:=isAgg476
 z212:=sizeOf476
 v212:=zeroValue476
 t213:=underlying477
 a213:=isAgg477
 z213:=sizeOf477
 t232:=underlying492
 a232:=isAgg492
 z232:=sizeOf492
 v232:=zeroValue492
 t233:=underlying493
 a233:=isAgg493
 z233:=sizeOf493
 v233:=zeroValue493
 g15:=by kernel_rfl
 g16:=by kernel_rfl
 g17:=by kernel_rfl
 g18:=by kernel_rfl
 g19:=by kernel_rfl
 t80:=underlying277
 a80:=isAgg277
 z80:=sizeOf277
 v80:=zeroValue277
 i0:=by kernel_rfl
 i2:=by kernel_rfl
 i3:=by kernel_rfl
 i4:=by kernel_rfl
 i5:=by kernel_rfl
 i9:=by kernel_rfl
 i20:=by kernel_rfl
 i21:=by kernel_rfl
 i37:=by kernel_rfl
 i46:=by kernel_rfl
 i51:=by kernel_rfl
 i53:=by kernel_rfl
 i75:=by kernel_rfl
 i76:=by kernel_rfl
 i80:=by kernel_rfl
 i85:=by kernel_rfl
 i127:=by kernel_rfl
 i143:=by kernel_rfl
 i145:=by kernel_rfl
 i167:=by kernel_rfl
 i168:=by kernel_rfl
 i171:=by kernel_rfl
 i173:=by kernel_rfl
 i175:=by kernel_rfl
 i210:=by kernel_rfl
 i212:=by kernel_rfl
 i232:=by kernel_rfl
 i233:=by kernel_rfl
 m15:=by kernel_rfl
 m16:=by kernel_rfl
 m17:=by kernel_rfl
 m18:=by kernel_rfl
 m19:=by kernel_rfl
 c0:=by kernel_rfl
 c2:=by kernel_rfl
 c3:=by kernel_rfl
 c4:=by kernel_rfl
 c5:=by kernel_rfl
 c9:=by kernel_rfl
 c20:=by kernel_rfl
 c21:=by kernel_rfl
 c37:=by kernel_rfl
 c46:=by kernel_rfl
 c51:=by kernel_rfl
 c53:=by kernel_rfl
 c75:=by kernel_rfl
 c76:=by kernel_rfl
 c80:=by kernel_rfl
 c85:=by kernel_rfl
 c127:=by kernel_rfl
 c143:=by kernel_rfl
 c145:=by kernel_rfl
 c167:=by kernel_rfl
 c168:=by kernel_rfl
 c171:=by kernel_rfl
 c173:=by kernel_rfl
 c175:=by kernel_rfl
 c210:=by kernel_rfl
 c212:=by kernel_rfl
 c213:=by kernel_rfl
 c232:=by kernel_rfl
 c233:=by kernel_rfl}
open Go.RowKit in
theorem Tryz.strconv_Atoi_ok(s:ByteArray)(a:s.size≤9223372036854775806)(v:Int)(h:Lib.atoiAll s.data.toList=.ok v)(w:World):
 Calls prog 180 #[.string s] w fun e b=>e=.returned (.tuple #[.int .i64 v,.nilIface])∧(b=w∨∃t,b=Lib.bytesWorld w 5 t):=Any.strconv_Atoi_ok H9 s a v h w
open Go.RowKit in
theorem Tryz.strconv_Atoi_syntax(s:ByteArray)(a:s.size≤281474976710656)(h:Lib.atoiAll s.data.toList=Lib.NumEnd.syntax)(b:Value)(w:World)(i:w.cell? ⟨1,0,none⟩=some b)(c:b=.nilIface∨∃f g,b=.iface f g):
 Calls prog 180 #[.string s] w fun e d=>∃N,e=.returned (.tuple #[.int .i64 (0),.iface 399 (.pointer (some ⟨N,0,none⟩))])∧w.heap.size≤N∧d.heap[N]?=some (.cells #[.string ⟨#[65,116,111,105]⟩,.string s,b] 450 (0,0))∧Below w.heap.size w d:=Any.strconv_Atoi_syntax H9 s a h b w i c
open Go.RowKit in
theorem Tryz.strconv_Atoi_range(s:ByteArray)(a:s.size≤281474976710656)(h:Lib.atoiAll s.data.toList=.range)(b:Value)(w:World)(i:w.cell? ⟨2,0,none⟩=some b)(c:b=.nilIface∨∃f g,b=.iface f g):
 Calls prog 180 #[.string s] w fun e d=>∃N,e=.returned (.tuple #[.int .i64 (Lib.atoiSat s.data.toList),.iface 399 (.pointer (some ⟨N,0,none⟩))])∧w.heap.size≤N∧d.heap[N]?=some (.cells #[.string ⟨#[65,116,111,105]⟩,.string s,b] 450 (0,0))∧Below w.heap.size w d:=Any.strconv_Atoi_range H9 s a h b w i c
def Tryz.Br:Go.Shelf.Ren:=⟨fun|189=>70|125=>104|257=>103|128=>150|129=>151|294=>141|295=>142|296=>143|297=>144|298=>145|299=>146|216=>147|300=>148|301=>149|328=>191|329=>192|330=>193|331=>194|332=>195|215=>196|343=>248|n=>n,fun|28=>49|3=>3|46=>198|0=>0|51=>250|53=>252|4=>4|183=>243|182=>242|131=>96|5=>5|9=>9|218=>286|222=>190|228=>343|229=>174|n=>n,fun|n=>n⟩
theorem Tryz.wN:Go.Proofs.Lays.n189 prog Br:={
 mixed:=by kernel_rfl
 f125:=func104.trans (congrArg some (by kernel_rfl))
 f128:=func150.trans (congrArg some (by kernel_rfl))
 f129:=func151.trans (congrArg some (by kernel_rfl))
 f189:=func70.trans (congrArg some (by kernel_rfl))
 f215:=func196.trans (congrArg some (by kernel_rfl))
 f216:=func147.trans (congrArg some (by kernel_rfl))
 f257:=func103.trans (congrArg some (by kernel_rfl))
 f294:=func141.trans (congrArg some (by kernel_rfl))
 f295:=func142.trans (congrArg some (by kernel_rfl))
 f296:=func143.trans (congrArg some (by kernel_rfl))
 f297:=func144.trans (congrArg some (by kernel_rfl))
 f298:=func145.trans (congrArg some (by kernel_rfl))
 f299:=func146.trans (congrArg some (by kernel_rfl))
 f300:=func148.trans (congrArg some (by kernel_rfl))
 f301:=func149.trans (congrArg some (by kernel_rfl))
 f328:=func191.trans (congrArg some (by kernel_rfl))
 f329:=func192.trans (congrArg some (by kernel_rfl))
 f330:=func193.trans (congrArg some (by kernel_rfl))
 f331:=func194.trans (congrArg some (by kernel_rfl))
 f332:=func195.trans (congrArg some (by kernel_rfl))
 f343:=func248.trans (congrArg some (by kernel_rfl))
 t0:=underlying0
 a0:=isAgg0
 z0:=sizeOf0
 v0:=zeroValue0
 t3:=underlying3
 a3:=isAgg3
 z3:=sizeOf3
 v3:=zeroValue3
 t4:=underlying4
 a4:=isAgg4
 z4:=sizeOf4
 v4:=zeroValue4
 t5:=underlying5
 a5:=isAgg5
 z5:=sizeOf5
 v5:=zeroValue5
 t9:=underlying9
 a9:=isAgg9
 z9:=sizeOf9
 v9:=zeroValue9
 t28:=underlying49
 a28:=isAgg49
 z28:=sizeOf49
 v28:=zeroValue49
 t46:=underlying198
 a46:=isAgg198
 z46:=sizeOf198
 v46:=zeroValue198
 t51:=underlying250
 a51:=isAgg250
 z51:=sizeOf250
 v51:=zeroValue250
 t53:=underlying252
 a53:=isAgg252
 z53:=sizeOf252
 v53:=zeroValue252
 t131:=underlying96
 a131:=isAgg96
 z131:=sizeOf96
 v131:=zeroValue96
 t182:=underlying242
 a182:=isAgg242
 z182:=sizeOf242
 v182:=zeroValue242
 t183:=underlying243
 a183:=isAgg243
 z183:=sizeOf243
 v183:=zeroValue243
 t218:=underlying286
 a218:=isAgg286
 z218:=sizeOf286
 v218:=zeroValue286
 t222:=underlying190
 a222:=isAgg190
 z222:=sizeOf190
 v222:=zeroValue190
 t228:=underlying343
 a228:=isAgg343
 z228:=sizeOf343
 v228:=zeroValue343
 t229:=underlying174
 a229:=isAgg174
 z229:=sizeOf174
 v229:=zeroValue174}
open Go.Sort Go.RowKit in
theorem Tryz.slices_Sort_int(blk off cap:Nat)(zs:List Int)(w:World)(d:Holds (Value.int .i64) w blk off zs.toArray)(a:blk<w.heap.size)(b:zs.length<4611686018427387904):
 Calls prog 70 #[.slice (some ⟨blk,off,none⟩) zs.length cap] w fun e c=>
  e=.returned (.tuple #[])∧∃n os,c=grow (putRow (Value.int .i64) (Sort.ahead w n) blk off (zs.mergeSort fun x y=>decide (x≤y)).toArray) os:=Any.slices_Sort_int wN blk off cap zs w d a b
def Tryz.Bq:Go.Shelf.Ren:=⟨fun|153=>385|152=>390|226=>391|227=>392|228=>393|137=>394|119=>395|224=>251|225=>250|217=>249|266=>297|n=>n,fun|9=>9|3=>3|4=>4|5=>5|21=>21|117=>497|116=>496|0=>0|46=>198|124=>500|n=>n,fun|n=>n⟩
theorem Tryz.iz:Go.Proofs.Lays.n153 prog Bq:={
 mixed:=by kernel_rfl
 f119:=func395.trans (congrArg some (by kernel_rfl))
 f137:=func394.trans (congrArg some (by kernel_rfl))
 f152:=func390.trans (congrArg some (by kernel_rfl))
 f153:=func385.trans (congrArg some (by kernel_rfl))
 f217:=func249.trans (congrArg some (by kernel_rfl))
 f224:=func251.trans (congrArg some (by kernel_rfl))
 f225:=func250.trans (congrArg some (by kernel_rfl))
 f226:=func391.trans (congrArg some (by kernel_rfl))
 f227:=func392.trans (congrArg some (by kernel_rfl))
 f228:=func393.trans (congrArg some (by kernel_rfl))
 f266:=func297.trans (congrArg some (by kernel_rfl))
 t0:=underlying0
 a0:=isAgg0
 z0:=sizeOf0
 v0:=zeroValue0
 t3:=underlying3
 a3:=isAgg3
 z3:=sizeOf3
 v3:=zeroValue3
 t4:=underlying4
 a4:=isAgg4
 z4:=sizeOf4
 v4:=zeroValue4
 t5:=underlying5
 a5:=isAgg5
 z5:=sizeOf5
 v5:=zeroValue5
 t9:=underlying9
 a9:=isAgg9
 z9:=sizeOf9
 v9:=zeroValue9
 t21:=underlying21
 a21:=isAgg21
 z21:=sizeOf21
 v21:=zeroValue21
 t46:=underlying198
 a46:=isAgg198
 z46:=sizeOf198
 v46:=zeroValue198
 t116:=underlying496
 a116:=isAgg496
 z116:=sizeOf496
 t117:=underlying497
 a117:=isAgg497
 z117:=sizeOf497
 v117:=zeroValue497
 t124:=underlying500
 a124:=isAgg500
 z124:=sizeOf500
 v124:=zeroValue500}
open Go.RowKit Go.Lib in
theorem Tryz.strings_IndexAny_laid(s a:ByteArray)(w:World)(hs:s.size<4294967281)(c:a.size<4294967281)(has:∀(j:Nat) b,s.data.toList[j]?=some b→b.toNat<128)(d:∀(j:Nat) b,a.data.toList[j]?=some b→b.toNat<128):
 Calls prog 385 #[.string s,.string a] w fun e f=>e=.returned (.int .i64 (Lib.indexAny s.data.toList a.data.toList))∧Below w.heap.size w f:=Any.strings_IndexAny_laid iz (by kernel_rfl) s a w hs c has d
open Go.RowKit Go.Sort in
theorem Tryz.slices_Sort_int_none(p:Option Addr)(cap:Nat)(w:World):
 Calls prog 70 #[.slice p 0 cap] w fun e a=>e=.returned (.tuple #[])∧a=w:=Any.slices_Sort_int_none wN p cap w
