import Derived.Test.YthibpafdakbpgaaGreatDoorHwD
import Derived.Shelf.LaysC
import Derived.Shelf.LaysM
import Derived.Shelf.Slices.In.SortNone
import Derived.Shelf.Small.Strs
import Derived.Shelf.Small.Utf8
import Derived.Shelf.Sort.Plain
import Derived.Shelf.Strconv.Atoi
import Derived.Shelf.Strconv.AtoiAll
import Derived.Shelf.Strconv.AtoiErrFast
import Derived.Shelf.Strconv.AtoiFail
import Derived.Shelf.Strconv.AtoiInnerAll
import Derived.Shelf.Strconv.AtoiLong
import Derived.Shelf.Strconv.Clone
import Derived.Shelf.Strconv.Itoa0
import Derived.Shelf.Strconv.Itoa1
import Derived.Shelf.Strconv.Itoa2
import Derived.Shelf.Strconv.Itoa3
import Derived.Shelf.Strconv.Lower
import Derived.Shelf.Strconv.ParseInt10
import Derived.Shelf.Strconv.ParseIntEmpty
import Derived.Shelf.Strconv.ParseUint10
import Derived.Shelf.Strconv.ParseUint10Any
import Derived.Shelf.Strconv.ParseUint10Empty
import Derived.Shelf.Strconv.RangeError
import Derived.Shelf.Strconv.SyntaxError
import Derived.Shelf.Strconv.ToError
import Derived.Shelf.Strconv.ToErrorRange
import Derived.Shelf.Strings.AsciiSet
import Derived.Shelf.Strings.Builder1
import Derived.Shelf.Strings.Builder2
import Derived.Shelf.Strings.Count
import Derived.Shelf.Strings.Cut
import Derived.Shelf.Strings.IndexAny
import Derived.Shelf.Strings.IndexAnyAll
import Derived.Shelf.Strings.OnBuilder
import Derived.Shelf.Strings.Runes
import Derived.Shelf.Strings.Shaped
import Derived.Shelf.Unicode.DecodeSlow
import Derived.Test.YthibpafdakbpgaaGreatDoorProg
namespace Go.Proofs
open Tryz
open Go.Shelf
set_option maxRecDepth 9999
theorem sQ{α:Type}{f:Option α}{a b:α}(h:f=some a)(e:a=b:=by kernel_rfl):f=some b:=e▸h
def Tryz.KK:Go.Shelf.Ren:=⟨fun|156=>98|165=>151|166=>152|169=>153|240=>214|241=>215|276=>271|277=>272|n=>n,fun|31=>116|9=>9|3=>3|4=>4|0=>0|20=>20|72=>255|76=>195|70=>253|37=>183|75=>194|127=>303|164=>364|5=>5|80=>257|n=>n,fun|n=>n⟩
theorem Tryz.wM:Go.Proofs.Lays.n156 prog KK:=⟨by kernel_rfl,sQ func98,sQ func151,sQ func152,sQ func153,sQ func214,sQ func215,sQ func271,sQ func272,underlying0,isAgg0,sizeOf0,zeroValue0,underlying3,isAgg3,sizeOf3,zeroValue3,underlying4,isAgg4,sizeOf4,zeroValue4,underlying9,isAgg9,sizeOf9,zeroValue9,underlying20,isAgg20,sizeOf20,zeroValue20,underlying116,isAgg116,sizeOf116,zeroValue116,underlying183,isAgg183,sizeOf183,zeroValue183,underlying253,isAgg253,sizeOf253,zeroValue253,underlying255,isAgg255,sizeOf255,zeroValue255,underlying194,isAgg194,sizeOf194,zeroValue194,underlying195,isAgg195,sizeOf195,zeroValue195,underlying303,isAgg303,sizeOf303,zeroValue303,underlying364,isAgg364,sizeOf364,zeroValue364⟩
theorem Tryz.R4:Builder.Extra prog KK:=⟨⟨by kernel_rfl,by kernel_rfl⟩,underlying5,isAgg5,sizeOf5,zeroValue5,by kernel_rfl,by kernel_rfl,by kernel_rfl,by decide⟩
open Go.RowKit in
theorem Tryz.strings_Join_none(a:Option Addr)(c:Nat)(sep:ByteArray)(w:World):
 Calls prog 98 #[.slice a 0 c,.string sep] w fun e b=>e=.returned (.string ⟨#[]⟩)∧b=w:=Any.strings_Join_none wM R4 a c sep w
open Go.RowKit in
theorem Tryz.strings_Join(d o c:Nat)(xs:List ByteArray)(sep:ByteArray)(w:World)(a:∀(j:Nat) x,xs[j]?=some x→w.cell? ⟨d,o+j,none⟩=some (.string x))(f:d<w.heap.size)(h:xs.length≤140737488355328)(b:xs.length≤c)(hlen:(Lib.join (xs.map (·.data.toList)) sep.data.toList).length≤140737488355328):
 Calls prog 98 #[.slice (some ⟨d,o,none⟩) xs.length c,.string sep] w fun e g=>e=.returned (.string ⟨(Lib.join (xs.map (·.data.toList)) sep.data.toList).toArray⟩)∧Below w.heap.size w g:=Any.strings_Join wM R4 d o c xs sep w a f h b hlen
def Tryz.D5:Go.Shelf.Ren:=⟨fun|171=>90|243=>143|246=>205|283=>261|284=>262|285=>263|286=>264|129=>136|317=>310|318=>311|319=>312|320=>313|337=>352|338=>353|n=>n,fun|3=>3|9=>9|2=>2|4=>4|171=>354|0=>0|53=>245|37=>183|5=>5|173=>356|212=>420|51=>243|20=>20|213=>421|46=>181|232=>480|233=>481|n=>n,fun|17=>3|18=>6|19=>7|n=>n⟩
theorem Tryz.nN:Go.Proofs.LaysM.n171 prog D5:=⟨⟨by kernel_rfl,sQ func136,sQ func90,sQ func143,sQ func205,sQ func261,sQ func262,sQ func263,sQ func264,sQ func310,sQ func311,sQ func312,sQ func313,sQ func352,sQ func353,underlying0,isAgg0,sizeOf0,zeroValue0,underlying2,isAgg2,sizeOf2,zeroValue2,underlying3,isAgg3,sizeOf3,zeroValue3,underlying4,isAgg4,sizeOf4,zeroValue4,underlying5,isAgg5,sizeOf5,zeroValue5,underlying9,isAgg9,sizeOf9,zeroValue9,underlying20,isAgg20,sizeOf20,zeroValue20,underlying183,isAgg183,sizeOf183,zeroValue183,underlying181,isAgg181,sizeOf181,zeroValue181,underlying243,isAgg243,sizeOf243,zeroValue243,underlying245,isAgg245,sizeOf245,zeroValue245,underlying354,isAgg354,sizeOf354,zeroValue354,underlying356,isAgg356,sizeOf356,zeroValue356,underlying420,isAgg420,sizeOf420,zeroValue420,underlying421,isAgg421,sizeOf421,underlying480,isAgg480,sizeOf480,zeroValue480,underlying481,isAgg481,sizeOf481,zeroValue481,by kernel_rfl,by kernel_rfl,by kernel_rfl⟩,by kernel_rfl,by kernel_rfl,by kernel_rfl,by kernel_rfl,by kernel_rfl,by kernel_rfl,by kernel_rfl,by kernel_rfl,by kernel_rfl,by kernel_rfl,by kernel_rfl,by kernel_rfl,by kernel_rfl,by kernel_rfl,by kernel_rfl,by kernel_rfl,by kernel_rfl,by kernel_rfl,by kernel_rfl⟩
open Go.RowKit Go.Sort Go.Lib in
theorem Tryz.strconv_Itoa (n : Int) (h0 : -9223372036854775808 ≤ n) (c : n ≤ 9223372036854775807) (w : World) (a : Lib.TabIs prog w "internal/strconv.uint64pow10" .u64 Lib.pow10Tab) :
 Calls prog 90 #[.int .i64 n] w fun e b=>e=.returned (.string ⟨(Lib.itoa n).toArray⟩)∧∃k os,b=grow (w.drewN k) os:=Any.strconv_Itoa nN n h0 c w a
def Tryz.D4:Go.Shelf.Ren:=⟨fun|172=>96|244=>148|245=>149|247=>209|279=>210|280=>211|281=>212|282=>213|287=>268|316=>269|171=>90|205=>270|321=>315|322=>316|243=>143|246=>205|283=>261|284=>262|285=>263|286=>264|129=>136|317=>310|318=>311|319=>312|320=>313|337=>352|338=>353|n=>n,fun|9=>9|3=>3|75=>194|76=>195|4=>4|5=>5|167=>297|37=>183|0=>0|85=>298|2=>2|168=>300|53=>245|175=>358|46=>181|210=>362|127=>303|145=>425|143=>423|21=>21|171=>354|173=>356|212=>420|51=>243|20=>20|213=>421|232=>480|233=>481|80=>257|n=>n,fun|15=>1|16=>2|17=>3|18=>6|19=>7|n=>n⟩
theorem Tryz.H9:Go.Proofs.LaysC.n172 prog D4:=⟨⟨⟨by kernel_rfl,sQ func136,sQ func90,sQ func96,sQ func270,sQ func143,sQ func148,sQ func149,sQ func205,sQ func209,sQ func210,sQ func211,sQ func212,sQ func213,sQ func261,sQ func262,sQ func263,sQ func264,sQ func268,sQ func269,sQ func310,sQ func311,sQ func312,sQ func313,sQ func315,sQ func316,sQ func352,sQ func353,underlying0,isAgg0,sizeOf0,zeroValue0,underlying2,isAgg2,sizeOf2,zeroValue2,underlying3,isAgg3,sizeOf3,zeroValue3,underlying4,isAgg4,sizeOf4,zeroValue4,underlying5,isAgg5,sizeOf5,zeroValue5,underlying9,isAgg9,sizeOf9,zeroValue9,underlying20,isAgg20,sizeOf20,zeroValue20,underlying21,isAgg21,sizeOf21,zeroValue21,underlying183,isAgg183,sizeOf183,zeroValue183,underlying181,isAgg181,sizeOf181,zeroValue181,underlying243,isAgg243,sizeOf243,zeroValue243,underlying245,isAgg245,sizeOf245,zeroValue245,underlying194,isAgg194,sizeOf194,zeroValue194,underlying195,isAgg195,sizeOf195,zeroValue195,underlying298,isAgg298,sizeOf298,zeroValue298,underlying303,isAgg303,sizeOf303,zeroValue303,underlying423,isAgg423,sizeOf423,zeroValue423,underlying425,isAgg425,sizeOf425,zeroValue425,underlying297,isAgg297,sizeOf297,zeroValue297,underlying300,isAgg300,sizeOf300,zeroValue300,underlying354,isAgg354,sizeOf354,zeroValue354,underlying356,isAgg356,sizeOf356,zeroValue356,underlying358,isAgg358,sizeOf358,zeroValue358,underlying362,isAgg362,sizeOf362,zeroValue362,underlying420,isAgg420,sizeOf420,zeroValue420,underlying421,isAgg421,sizeOf421,underlying480,isAgg480,sizeOf480,zeroValue480,underlying481,isAgg481,sizeOf481,zeroValue481,by kernel_rfl,by kernel_rfl,by kernel_rfl,by kernel_rfl,by kernel_rfl⟩,underlying257,isAgg257,sizeOf257,zeroValue257,by kernel_rfl,by kernel_rfl,by kernel_rfl,by kernel_rfl,by kernel_rfl,by kernel_rfl,by kernel_rfl,by kernel_rfl,by kernel_rfl,by kernel_rfl,by kernel_rfl,by kernel_rfl,by kernel_rfl,by kernel_rfl,by kernel_rfl,by kernel_rfl,by kernel_rfl,by kernel_rfl,by kernel_rfl,by kernel_rfl,by kernel_rfl,by kernel_rfl,by kernel_rfl,by kernel_rfl,by kernel_rfl,by kernel_rfl,by kernel_rfl,by kernel_rfl,by kernel_rfl,by kernel_rfl,by kernel_rfl,by kernel_rfl,by kernel_rfl⟩,by kernel_rfl,by kernel_rfl,by kernel_rfl,by kernel_rfl,by kernel_rfl,by kernel_rfl,by kernel_rfl,by kernel_rfl,by kernel_rfl,by kernel_rfl,by kernel_rfl,by kernel_rfl,by kernel_rfl,by kernel_rfl,by kernel_rfl,by kernel_rfl,by kernel_rfl,by kernel_rfl,by kernel_rfl,by kernel_rfl,by kernel_rfl,by kernel_rfl,by kernel_rfl,by kernel_rfl,by kernel_rfl,by kernel_rfl,by kernel_rfl,by kernel_rfl,by kernel_rfl⟩
open Go.RowKit in
theorem Tryz.strconv_Atoi_ok(s:ByteArray)(a:s.size≤9223372036854775806)(v:Int)(h:Lib.atoiAll s.data.toList=.ok v)(w:World):
 Calls prog 96 #[.string s] w fun e b=>e=.returned (.tuple #[.int .i64 v,.nilIface])∧(b=w∨∃t,b=Lib.bytesWorld w 5 t):=Any.strconv_Atoi_ok H9 s a v h w
open Go.RowKit in
theorem Tryz.strconv_Atoi_syntax(s:ByteArray)(a:s.size≤281474976710656)(h:Lib.atoiAll s.data.toList=Lib.NumEnd.syntax)(b:Value)(w:World)(i:w.cell? ⟨1,0,none⟩=some b)(c:b=.nilIface∨∃f g,b=.iface f g):
 Calls prog 96 #[.string s] w fun e d=>∃N,e=.returned (.tuple #[.int .i64 (0),.iface 300 (.pointer (some ⟨N,0,none⟩))])∧w.heap.size≤N∧d.heap[N]?=some (.cells #[.string ⟨#[65,116,111,105]⟩,.string s,b] 362 (0,0))∧Below w.heap.size w d:=Any.strconv_Atoi_syntax H9 s a h b w i c
open Go.RowKit in
theorem Tryz.strconv_Atoi_range(s:ByteArray)(a:s.size≤281474976710656)(h:Lib.atoiAll s.data.toList=.range)(b:Value)(w:World)(i:w.cell? ⟨2,0,none⟩=some b)(c:b=.nilIface∨∃f g,b=.iface f g):
 Calls prog 96 #[.string s] w fun e d=>∃N,e=.returned (.tuple #[.int .i64 (Lib.atoiSat s.data.toList),.iface 300 (.pointer (some ⟨N,0,none⟩))])∧w.heap.size≤N∧d.heap[N]?=some (.cells #[.string ⟨#[65,116,111,105]⟩,.string s,b] 362 (0,0))∧Below w.heap.size w d:=Any.strconv_Atoi_range H9 s a h b w i c
def Tryz.Br:Go.Shelf.Ren:=⟨fun|189=>50|125=>84|257=>83|128=>135|129=>136|294=>126|295=>127|296=>128|297=>129|298=>130|299=>131|216=>132|300=>133|301=>134|328=>190|329=>191|330=>192|331=>193|332=>194|215=>195|343=>256|n=>n,fun|28=>35|3=>3|46=>181|0=>0|51=>243|53=>245|4=>4|183=>236|182=>235|131=>214|5=>5|9=>9|218=>285|222=>172|228=>351|229=>153|n=>n,fun|n=>n⟩
theorem Tryz.wN:Go.Proofs.Lays.n189 prog Br:=⟨by kernel_rfl,sQ func84,sQ func135,sQ func136,sQ func50,sQ func195,sQ func132,sQ func83,sQ func126,sQ func127,sQ func128,sQ func129,sQ func130,sQ func131,sQ func133,sQ func134,sQ func190,sQ func191,sQ func192,sQ func193,sQ func194,sQ func256,underlying0,isAgg0,sizeOf0,zeroValue0,underlying3,isAgg3,sizeOf3,zeroValue3,underlying4,isAgg4,sizeOf4,zeroValue4,underlying5,isAgg5,sizeOf5,zeroValue5,underlying9,isAgg9,sizeOf9,zeroValue9,underlying35,isAgg35,sizeOf35,zeroValue35,underlying181,isAgg181,sizeOf181,zeroValue181,underlying243,isAgg243,sizeOf243,zeroValue243,underlying245,isAgg245,sizeOf245,zeroValue245,underlying214,isAgg214,sizeOf214,zeroValue214,underlying235,isAgg235,sizeOf235,zeroValue235,underlying236,isAgg236,sizeOf236,zeroValue236,underlying285,isAgg285,sizeOf285,zeroValue285,underlying172,isAgg172,sizeOf172,zeroValue172,underlying351,isAgg351,sizeOf351,zeroValue351,underlying153,isAgg153,sizeOf153,zeroValue153⟩
open Go.Sort Go.RowKit in
theorem Tryz.slices_Sort_int(blk off cap:Nat)(zs:List Int)(w:World)(d:Holds (Value.int .i64) w blk off zs.toArray)(a:blk<w.heap.size)(b:zs.length<4611686018427387904):
 Calls prog 50 #[.slice (some ⟨blk,off,none⟩) zs.length cap] w fun e c=>
  e=.returned (.tuple #[])∧∃n os,c=grow (putRow (Value.int .i64) (Sort.ahead w n) blk off (zs.mergeSort fun x y=>decide (x≤y)).toArray) os:=Any.slices_Sort_int wN blk off cap zs w d a b
def Tryz.Bq:Go.Shelf.Ren:=⟨fun|153=>385|152=>390|226=>391|227=>392|228=>393|137=>93|119=>394|224=>266|225=>265|217=>144|266=>206|n=>n,fun|9=>9|3=>3|4=>4|5=>5|21=>21|117=>491|116=>490|0=>0|46=>181|124=>494|n=>n,fun|n=>n⟩
theorem Tryz.iz:Go.Proofs.Lays.n153 prog Bq:=⟨by kernel_rfl,sQ func394,sQ func93,sQ func390,sQ func385,sQ func144,sQ func266,sQ func265,sQ func391,sQ func392,sQ func393,sQ func206,underlying0,isAgg0,sizeOf0,zeroValue0,underlying3,isAgg3,sizeOf3,zeroValue3,underlying4,isAgg4,sizeOf4,zeroValue4,underlying5,isAgg5,sizeOf5,zeroValue5,underlying9,isAgg9,sizeOf9,zeroValue9,underlying21,isAgg21,sizeOf21,zeroValue21,underlying181,isAgg181,sizeOf181,zeroValue181,underlying490,isAgg490,sizeOf490,underlying491,isAgg491,sizeOf491,zeroValue491,underlying494,isAgg494,sizeOf494,zeroValue494⟩
open Go.RowKit Go.Lib in
theorem Tryz.strings_IndexAny_laid(s a:ByteArray)(w:World)(g:s.size<4294967281)(c:a.size<4294967281)(has:∀(j:Nat) b,s.data.toList[j]?=some b→b.toNat<128)(d:∀(j:Nat) b,a.data.toList[j]?=some b→b.toNat<128):
 Calls prog 385 #[.string s,.string a] w fun e f=>e=.returned (.int .i64 (Lib.indexAny s.data.toList a.data.toList))∧Below w.heap.size w f:=Any.strings_IndexAny_laid iz (by kernel_rfl) s a w g c has d
open Go.RowKit Go.Sort in
theorem Tryz.slices_Sort_int_none(p:Option Addr)(cap:Nat)(w:World):
 Calls prog 50 #[.slice p 0 cap] w fun e a=>e=.returned (.tuple #[])∧a=w:=Any.slices_Sort_int_none wN p cap w
