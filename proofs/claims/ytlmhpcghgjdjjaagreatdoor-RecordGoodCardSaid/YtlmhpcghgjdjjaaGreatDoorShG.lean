import Derived.Test.YtlmhpcghgjdjjaaGreatDoorHwG
import Derived.Ground.Names2Prog
import Derived.Ground.SlgnProg
import Derived.Shelf.LaysC
import Derived.Shelf.LaysM
import Derived.Shelf.Slices.Clone
import Derived.Shelf.Slices.In.SortNone
import Derived.Shelf.SlicesE.Clone
import Derived.Shelf.Small.Strs
import Derived.Shelf.Small.Utf8
import Derived.Shelf.Sort.Plain
import Derived.Shelf.Strconv.Atoi
import Derived.Shelf.Strconv.AtoiAll
import Derived.Shelf.Strconv.AtoiErrFast
import Derived.Shelf.Strconv.AtoiFail
import Derived.Shelf.Strconv.AtoiInnerAll
import Derived.Shelf.Strconv.AtoiLong
import Derived.Shelf.Strconv.Clone
import Derived.Shelf.Strconv.Itoa0
import Derived.Shelf.Strconv.Itoa1
import Derived.Shelf.Strconv.Itoa2
import Derived.Shelf.Strconv.Itoa3
import Derived.Shelf.Strconv.Lower
import Derived.Shelf.Strconv.ParseInt10
import Derived.Shelf.Strconv.ParseIntEmpty
import Derived.Shelf.Strconv.ParseUint10
import Derived.Shelf.Strconv.ParseUint10Any
import Derived.Shelf.Strconv.ParseUint10Empty
import Derived.Shelf.Strconv.RangeError
import Derived.Shelf.Strconv.SyntaxError
import Derived.Shelf.Strconv.ToError
import Derived.Shelf.Strconv.ToErrorRange
import Derived.Shelf.Strings.AsciiSet
import Derived.Shelf.Strings.Builder1
import Derived.Shelf.Strings.Builder2
import Derived.Shelf.Strings.Count
import Derived.Shelf.Strings.Cut
import Derived.Shelf.Strings.IndexAny
import Derived.Shelf.Strings.IndexAnyAll
import Derived.Shelf.Strings.OnBuilder
import Derived.Shelf.Strings.Runes
import Derived.Shelf.Strings.Shaped
import Derived.Shelf.Unicode.DecodeAny
import Derived.Shelf.Unicode.DecodeSlow
import Derived.Test.YtlmhpcghgjdjjaaGreatDoorProg
namespace Go.Proofs
open Tryz
open Go.Shelf
set_option maxRecDepth 9999
theorem sQ{α:Type}{f:Option α}{a b:α}(h:f=some a)(e:a=b:=by kernel_rfl):f=some b:=e▸h
def Tryz.KK:Go.Shelf.Ren:=⟨fun|156=>131|165=>181|166=>182|169=>183|240=>236|241=>237|276=>291|277=>292|n=>n,fun|31=>83|9=>9|3=>3|4=>4|0=>0|20=>20|72=>275|76=>271|70=>273|37=>168|75=>270|127=>336|164=>402|5=>5|80=>277|n=>n,fun|n=>n⟩
theorem Tryz.wM:Go.Proofs.Lays.n156 prog KK:=⟨by kernel_rfl,sQ func131,sQ func181,sQ func182,sQ func183,sQ func236,sQ func237,sQ func291,sQ func292,underlying0,isAgg0,sizeOf0,zeroValue0,underlying3,isAgg3,sizeOf3,zeroValue3,underlying4,isAgg4,sizeOf4,zeroValue4,underlying9,isAgg9,sizeOf9,zeroValue9,underlying20,isAgg20,sizeOf20,zeroValue20,underlying83,isAgg83,sizeOf83,zeroValue83,underlying168,isAgg168,sizeOf168,zeroValue168,underlying273,isAgg273,sizeOf273,zeroValue273,underlying275,isAgg275,sizeOf275,zeroValue275,underlying270,isAgg270,sizeOf270,zeroValue270,underlying271,isAgg271,sizeOf271,zeroValue271,underlying336,isAgg336,sizeOf336,zeroValue336,underlying402,isAgg402,sizeOf402,zeroValue402⟩
theorem Tryz.R4:Builder.Extra prog KK:=⟨⟨by kernel_rfl,by kernel_rfl⟩,underlying5,isAgg5,sizeOf5,zeroValue5,by kernel_rfl,by kernel_rfl,by kernel_rfl,by decide⟩
open Go.RowKit in
theorem Tryz.strings_Join_none(a:Option Addr)(c:Nat)(sep:ByteArray)(w:World):
 Calls prog 131 #[.slice a 0 c,.string sep] w fun e b=>e=.returned (.string ⟨#[]⟩)∧b=w:=Any.strings_Join_none wM R4 a c sep w
open Go.RowKit in
theorem Tryz.strings_Join(d o c:Nat)(xs:List ByteArray)(sep:ByteArray)(w:World)(a:∀(j:Nat) x,xs[j]?=some x→w.cell? ⟨d,o+j,none⟩=some (.string x))(f:d<w.heap.size)(h:xs.length≤140737488355328)(b:xs.length≤c)(hlen:(Lib.join (xs.map (·.data.toList)) sep.data.toList).length≤140737488355328):
 Calls prog 131 #[.slice (some ⟨d,o,none⟩) xs.length c,.string sep] w fun e g=>e=.returned (.string ⟨(Lib.join (xs.map (·.data.toList)) sep.data.toList).toArray⟩)∧Below w.heap.size w g:=Any.strings_Join wM R4 d o c xs sep w a f h b hlen
def Tryz.D5:Go.Shelf.Ren:=⟨fun|171=>179|243=>233|246=>285|283=>332|284=>333|285=>334|286=>335|129=>151|317=>368|318=>369|319=>370|320=>371|337=>383|338=>384|n=>n,fun|3=>3|9=>9|2=>2|4=>4|171=>442|0=>0|53=>252|37=>168|5=>5|173=>444|212=>476|51=>250|20=>20|213=>477|46=>198|232=>492|233=>493|n=>n,fun|17=>3|18=>7|19=>8|n=>n⟩
theorem Tryz.nN:Go.Proofs.LaysM.n171 prog D5:=⟨⟨by kernel_rfl,sQ func151,sQ func179,sQ func233,sQ func285,sQ func332,sQ func333,sQ func334,sQ func335,sQ func368,sQ func369,sQ func370,sQ func371,sQ func383,sQ func384,underlying0,isAgg0,sizeOf0,zeroValue0,underlying2,isAgg2,sizeOf2,zeroValue2,underlying3,isAgg3,sizeOf3,zeroValue3,underlying4,isAgg4,sizeOf4,zeroValue4,underlying5,isAgg5,sizeOf5,zeroValue5,underlying9,isAgg9,sizeOf9,zeroValue9,underlying20,isAgg20,sizeOf20,zeroValue20,underlying168,isAgg168,sizeOf168,zeroValue168,underlying198,isAgg198,sizeOf198,zeroValue198,underlying250,isAgg250,sizeOf250,zeroValue250,underlying252,isAgg252,sizeOf252,zeroValue252,underlying442,isAgg442,sizeOf442,zeroValue442,underlying444,isAgg444,sizeOf444,zeroValue444,underlying476,isAgg476,sizeOf476,zeroValue476,underlying477,isAgg477,sizeOf477,underlying492,isAgg492,sizeOf492,zeroValue492,underlying493,isAgg493,sizeOf493,zeroValue493,by kernel_rfl,by kernel_rfl,by kernel_rfl⟩,by kernel_rfl,by kernel_rfl,by kernel_rfl,by kernel_rfl,by kernel_rfl,by kernel_rfl,by kernel_rfl,by kernel_rfl,by kernel_rfl,by kernel_rfl,by kernel_rfl,by kernel_rfl,by kernel_rfl,by kernel_rfl,by kernel_rfl,by kernel_rfl,by kernel_rfl,by kernel_rfl,by kernel_rfl⟩
open Go.RowKit Go.Sort Go.Lib in
theorem Tryz.strconv_Itoa (n : Int) (h0 : -9223372036854775808 ≤ n) (c : n ≤ 9223372036854775807) (w : World) (a : Lib.TabIs prog w "internal/strconv.uint64pow10" .u64 Lib.pow10Tab) :
 Calls prog 179 #[.int .i64 n] w fun e b=>e=.returned (.string ⟨(Lib.itoa n).toArray⟩)∧∃k os,b=grow (w.drewN k) os:=Any.strconv_Itoa nN n h0 c w a
def Tryz.D4:Go.Shelf.Ren:=⟨fun|172=>180|244=>234|245=>235|247=>286|279=>287|280=>288|281=>289|282=>290|287=>336|316=>337|171=>179|205=>338|321=>372|322=>373|243=>233|246=>285|283=>332|284=>333|285=>334|286=>335|129=>151|317=>368|318=>369|319=>370|320=>371|337=>383|338=>384|n=>n,fun|9=>9|3=>3|75=>270|76=>271|4=>4|5=>5|167=>396|37=>168|0=>0|85=>397|2=>2|168=>399|53=>252|175=>446|46=>198|210=>450|127=>336|145=>481|143=>479|21=>21|171=>442|173=>444|212=>476|51=>250|20=>20|213=>477|232=>492|233=>493|80=>277|n=>n,fun|15=>1|16=>2|17=>3|18=>7|19=>8|n=>n⟩
theorem Tryz.H9:Go.Proofs.LaysC.n172 prog D4:=⟨⟨⟨by kernel_rfl,sQ func151,sQ func179,sQ func180,sQ func338,sQ func233,sQ func234,sQ func235,sQ func285,sQ func286,sQ func287,sQ func288,sQ func289,sQ func290,sQ func332,sQ func333,sQ func334,sQ func335,sQ func336,sQ func337,sQ func368,sQ func369,sQ func370,sQ func371,sQ func372,sQ func373,sQ func383,sQ func384,underlying0,isAgg0,sizeOf0,zeroValue0,underlying2,isAgg2,sizeOf2,zeroValue2,underlying3,isAgg3,sizeOf3,zeroValue3,underlying4,isAgg4,sizeOf4,zeroValue4,underlying5,isAgg5,sizeOf5,zeroValue5,underlying9,isAgg9,sizeOf9,zeroValue9,underlying20,isAgg20,sizeOf20,zeroValue20,underlying21,isAgg21,sizeOf21,zeroValue21,underlying168,isAgg168,sizeOf168,zeroValue168,underlying198,isAgg198,sizeOf198,zeroValue198,underlying250,isAgg250,sizeOf250,zeroValue250,underlying252,isAgg252,sizeOf252,zeroValue252,underlying270,isAgg270,sizeOf270,zeroValue270,underlying271,isAgg271,sizeOf271,zeroValue271,underlying397,isAgg397,sizeOf397,zeroValue397,underlying336,isAgg336,sizeOf336,zeroValue336,underlying479,isAgg479,sizeOf479,zeroValue479,underlying481,isAgg481,sizeOf481,zeroValue481,underlying396,isAgg396,sizeOf396,zeroValue396,underlying399,isAgg399,sizeOf399,zeroValue399,underlying442,isAgg442,sizeOf442,zeroValue442,underlying444,isAgg444,sizeOf444,zeroValue444,underlying446,isAgg446,sizeOf446,zeroValue446,underlying450,isAgg450,sizeOf450,zeroValue450,underlying476,isAgg476,sizeOf476,zeroValue476,underlying477,isAgg477,sizeOf477,underlying492,isAgg492,sizeOf492,zeroValue492,underlying493,isAgg493,sizeOf493,zeroValue493,by kernel_rfl,by kernel_rfl,by kernel_rfl,by kernel_rfl,by kernel_rfl⟩,underlying277,isAgg277,sizeOf277,zeroValue277,by kernel_rfl,by kernel_rfl,by kernel_rfl,by kernel_rfl,by kernel_rfl,by kernel_rfl,by kernel_rfl,by kernel_rfl,by kernel_rfl,by kernel_rfl,by kernel_rfl,by kernel_rfl,by kernel_rfl,by kernel_rfl,by kernel_rfl,by kernel_rfl,by kernel_rfl,by kernel_rfl,by kernel_rfl,by kernel_rfl,by kernel_rfl,by kernel_rfl,by kernel_rfl,by kernel_rfl,by kernel_rfl,by kernel_rfl,by kernel_rfl,by kernel_rfl,by kernel_rfl,by kernel_rfl,by kernel_rfl,by kernel_rfl,by kernel_rfl⟩,by kernel_rfl,by kernel_rfl,by kernel_rfl,by kernel_rfl,by kernel_rfl,by kernel_rfl,by kernel_rfl,by kernel_rfl,by kernel_rfl,by kernel_rfl,by kernel_rfl,by kernel_rfl,by kernel_rfl,by kernel_rfl,by kernel_rfl,by kernel_rfl,by kernel_rfl,by kernel_rfl,by kernel_rfl,by kernel_rfl,by kernel_rfl,by kernel_rfl,by kernel_rfl,by kernel_rfl,by kernel_rfl,by kernel_rfl,by kernel_rfl,by kernel_rfl,by kernel_rfl⟩
open Go.RowKit in
theorem Tryz.strconv_Atoi_ok(s:ByteArray)(a:s.size≤9223372036854775806)(v:Int)(h:Lib.atoiAll s.data.toList=.ok v)(w:World):
 Calls prog 180 #[.string s] w fun e b=>e=.returned (.tuple #[.int .i64 v,.nilIface])∧(b=w∨∃t,b=Lib.bytesWorld w 5 t):=Any.strconv_Atoi_ok H9 s a v h w
open Go.RowKit in
theorem Tryz.strconv_Atoi_syntax(s:ByteArray)(a:s.size≤281474976710656)(h:Lib.atoiAll s.data.toList=Lib.NumEnd.syntax)(b:Value)(w:World)(i:w.cell? ⟨1,0,none⟩=some b)(c:b=.nilIface∨∃f g,b=.iface f g):
 Calls prog 180 #[.string s] w fun e d=>∃N,e=.returned (.tuple #[.int .i64 (0),.iface 399 (.pointer (some ⟨N,0,none⟩))])∧w.heap.size≤N∧d.heap[N]?=some (.cells #[.string ⟨#[65,116,111,105]⟩,.string s,b] 450 (0,0))∧Below w.heap.size w d:=Any.strconv_Atoi_syntax H9 s a h b w i c
open Go.RowKit in
theorem Tryz.strconv_Atoi_range(s:ByteArray)(a:s.size≤281474976710656)(h:Lib.atoiAll s.data.toList=.range)(b:Value)(w:World)(i:w.cell? ⟨2,0,none⟩=some b)(c:b=.nilIface∨∃f g,b=.iface f g):
 Calls prog 180 #[.string s] w fun e d=>∃N,e=.returned (.tuple #[.int .i64 (Lib.atoiSat s.data.toList),.iface 399 (.pointer (some ⟨N,0,none⟩))])∧w.heap.size≤N∧d.heap[N]?=some (.cells #[.string ⟨#[65,116,111,105]⟩,.string s,b] 450 (0,0))∧Below w.heap.size w d:=Any.strconv_Atoi_range H9 s a h b w i c
def Tryz.Br:Go.Shelf.Ren:=⟨fun|189=>70|125=>104|257=>103|128=>150|129=>151|294=>141|295=>142|296=>143|297=>144|298=>145|299=>146|216=>147|300=>148|301=>149|328=>191|329=>192|330=>193|331=>194|332=>195|215=>196|343=>248|n=>n,fun|28=>49|3=>3|46=>198|0=>0|51=>250|53=>252|4=>4|183=>243|182=>242|131=>96|5=>5|9=>9|218=>286|222=>190|228=>343|229=>174|n=>n,fun|n=>n⟩
theorem Tryz.wN:Go.Proofs.Lays.n189 prog Br:=⟨by kernel_rfl,sQ func104,sQ func150,sQ func151,sQ func70,sQ func196,sQ func147,sQ func103,sQ func141,sQ func142,sQ func143,sQ func144,sQ func145,sQ func146,sQ func148,sQ func149,sQ func191,sQ func192,sQ func193,sQ func194,sQ func195,sQ func248,underlying0,isAgg0,sizeOf0,zeroValue0,underlying3,isAgg3,sizeOf3,zeroValue3,underlying4,isAgg4,sizeOf4,zeroValue4,underlying5,isAgg5,sizeOf5,zeroValue5,underlying9,isAgg9,sizeOf9,zeroValue9,underlying49,isAgg49,sizeOf49,zeroValue49,underlying198,isAgg198,sizeOf198,zeroValue198,underlying250,isAgg250,sizeOf250,zeroValue250,underlying252,isAgg252,sizeOf252,zeroValue252,underlying96,isAgg96,sizeOf96,zeroValue96,underlying242,isAgg242,sizeOf242,zeroValue242,underlying243,isAgg243,sizeOf243,zeroValue243,underlying286,isAgg286,sizeOf286,zeroValue286,underlying190,isAgg190,sizeOf190,zeroValue190,underlying343,isAgg343,sizeOf343,zeroValue343,underlying174,isAgg174,sizeOf174,zeroValue174⟩
open Go.Sort Go.RowKit in
theorem Tryz.slices_Sort_int(blk off cap:Nat)(zs:List Int)(w:World)(d:Holds (Value.int .i64) w blk off zs.toArray)(a:blk<w.heap.size)(b:zs.length<4611686018427387904):
 Calls prog 70 #[.slice (some ⟨blk,off,none⟩) zs.length cap] w fun e c=>
  e=.returned (.tuple #[])∧∃n os,c=grow (putRow (Value.int .i64) (Sort.ahead w n) blk off (zs.mergeSort fun x y=>decide (x≤y)).toArray) os:=Any.slices_Sort_int wN blk off cap zs w d a b
def Tryz.Bq:Go.Shelf.Ren:=⟨fun|153=>385|152=>390|226=>391|227=>392|228=>393|137=>394|119=>395|224=>251|225=>250|217=>249|266=>297|n=>n,fun|9=>9|3=>3|4=>4|5=>5|21=>21|117=>497|116=>496|0=>0|46=>198|124=>500|n=>n,fun|n=>n⟩
theorem Tryz.iz:Go.Proofs.Lays.n153 prog Bq:=⟨by kernel_rfl,sQ func395,sQ func394,sQ func390,sQ func385,sQ func249,sQ func251,sQ func250,sQ func391,sQ func392,sQ func393,sQ func297,underlying0,isAgg0,sizeOf0,zeroValue0,underlying3,isAgg3,sizeOf3,zeroValue3,underlying4,isAgg4,sizeOf4,zeroValue4,underlying5,isAgg5,sizeOf5,zeroValue5,underlying9,isAgg9,sizeOf9,zeroValue9,underlying21,isAgg21,sizeOf21,zeroValue21,underlying198,isAgg198,sizeOf198,zeroValue198,underlying496,isAgg496,sizeOf496,underlying497,isAgg497,sizeOf497,zeroValue497,underlying500,isAgg500,sizeOf500,zeroValue500⟩
open Go.RowKit Go.Lib in
theorem Tryz.strings_IndexAny_laid(s a:ByteArray)(w:World)(hs:s.size<4294967281)(c:a.size<4294967281)(has:∀(j:Nat) b,s.data.toList[j]?=some b→b.toNat<128)(d:∀(j:Nat) b,a.data.toList[j]?=some b→b.toNat<128):
 Calls prog 385 #[.string s,.string a] w fun e f=>e=.returned (.int .i64 (Lib.indexAny s.data.toList a.data.toList))∧Below w.heap.size w f:=Any.strings_IndexAny_laid iz (by kernel_rfl) s a w hs c has d
open Go.RowKit Go.Sort in
theorem Tryz.slices_Sort_int_none(p:Option Addr)(cap:Nat)(w:World):
 Calls prog 70 #[.slice p 0 cap] w fun e a=>e=.returned (.tuple #[])∧a=w:=Any.slices_Sort_int_none wN p cap w
