import Derived.Test.YtkkbjdenehfpaaaGreatDoorHwN
import Derived.Ground.Names2Prog
import Derived.Ground.SlgnProg
import Derived.Shelf.LaysC
import Derived.Shelf.LaysM
import Derived.Shelf.Slices.Clone
import Derived.Shelf.Slices.In.SortNone
import Derived.Shelf.SlicesE.Clone
import Derived.Shelf.Small.Strs
import Derived.Shelf.Small.Utf8
import Derived.Shelf.Sort.Plain
import Derived.Shelf.Strconv.Atoi
import Derived.Shelf.Strconv.AtoiAll
import Derived.Shelf.Strconv.AtoiErrFast
import Derived.Shelf.Strconv.AtoiFail
import Derived.Shelf.Strconv.AtoiInnerAll
import Derived.Shelf.Strconv.AtoiLong
import Derived.Shelf.Strconv.Clone
import Derived.Shelf.Strconv.Itoa0
import Derived.Shelf.Strconv.Itoa1
import Derived.Shelf.Strconv.Itoa2
import Derived.Shelf.Strconv.Itoa3
import Derived.Shelf.Strconv.Lower
import Derived.Shelf.Strconv.ParseInt10
import Derived.Shelf.Strconv.ParseIntEmpty
import Derived.Shelf.Strconv.ParseUint10
import Derived.Shelf.Strconv.ParseUint10Any
import Derived.Shelf.Strconv.ParseUint10Empty
import Derived.Shelf.Strconv.RangeError
import Derived.Shelf.Strconv.SyntaxError
import Derived.Shelf.Strconv.ToError
import Derived.Shelf.Strconv.ToErrorRange
import Derived.Shelf.Strings.AsciiSet
import Derived.Shelf.Strings.Builder1
import Derived.Shelf.Strings.Builder2
import Derived.Shelf.Strings.Count
import Derived.Shelf.Strings.Cut
import Derived.Shelf.Strings.Explode
import Derived.Shelf.Strings.IndexAny
import Derived.Shelf.Strings.IndexAnyAll
import Derived.Shelf.Strings.OnBuilder
import Derived.Shelf.Strings.RuneCount
import Derived.Shelf.Strings.Runes
import Derived.Shelf.Strings.Shaped
import Derived.Shelf.Strings.Split
import Derived.Shelf.Strings.SplitShaped
import Derived.Shelf.Unicode.Decode
import Derived.Shelf.Unicode.DecodeAny
import Derived.Shelf.Unicode.DecodeSlow
import Derived.Shelf.Utf8.RuneCount
import Derived.Test.YtkkbjdenehfpaaaGreatDoorProg
namespace Go.Proofs
open Tryz
open Go.Shelf
set_option maxRecDepth 9999
theorem sQ{α:Type}{f:Option α}{a b:α}(h:f=some a)(e:a=b:=by kernel_rfl):f=some b:=e▸h
def Tryz.KK:Go.Shelf.Ren:=⟨fun|156=>57|165=>82|166=>83|169=>84|240=>138|241=>139|276=>191|277=>192|n=>n,fun|31=>66|9=>9|3=>3|4=>4|0=>0|20=>20|72=>184|76=>188|70=>181|37=>182|75=>187|127=>247|164=>286|5=>5|80=>190|n=>n,fun|n=>n⟩
theorem Tryz.wM:Go.Proofs.Lays.n156 prog KK:=⟨by kernel_rfl,sQ func57,sQ func82,sQ func83,sQ func84,sQ func138,sQ func139,sQ func191,sQ func192,underlying0,isAgg0,sizeOf0,zeroValue0,underlying3,isAgg3,sizeOf3,zeroValue3,underlying4,isAgg4,sizeOf4,zeroValue4,underlying9,isAgg9,sizeOf9,zeroValue9,underlying20,isAgg20,sizeOf20,zeroValue20,underlying66,isAgg66,sizeOf66,zeroValue66,underlying182,isAgg182,sizeOf182,zeroValue182,underlying181,isAgg181,sizeOf181,zeroValue181,underlying184,isAgg184,sizeOf184,zeroValue184,underlying187,isAgg187,sizeOf187,zeroValue187,underlying188,isAgg188,sizeOf188,zeroValue188,underlying247,isAgg247,sizeOf247,zeroValue247,underlying286,isAgg286,sizeOf286,zeroValue286⟩
theorem Tryz.R4:Builder.Extra prog KK:=⟨⟨by kernel_rfl,by kernel_rfl⟩,underlying5,isAgg5,sizeOf5,zeroValue5,by kernel_rfl,by kernel_rfl,by kernel_rfl,by decide⟩
open Go.RowKit in
theorem Tryz.strings_Join_none(a:Option Addr)(c:Nat)(sep:ByteArray)(w:World):
 Calls prog 57 #[.slice a 0 c,.string sep] w fun e b=>e=.returned (.string ⟨#[]⟩)∧b=w:=Any.strings_Join_none wM R4 a c sep w
open Go.RowKit in
theorem Tryz.strings_Join(d o c:Nat)(xs:List ByteArray)(sep:ByteArray)(w:World)(a:∀(j:Nat) x,xs[j]?=some x→w.cell? ⟨d,o+j,none⟩=some (.string x))(f:d<w.heap.size)(h:xs.length≤140737488355328)(b:xs.length≤c)(hlen:(Lib.join (xs.map (·.data.toList)) sep.data.toList).length≤140737488355328):
 Calls prog 57 #[.slice (some ⟨d,o,none⟩) xs.length c,.string sep] w fun e g=>e=.returned (.string ⟨(Lib.join (xs.map (·.data.toList)) sep.data.toList).toArray⟩)∧Below w.heap.size w g:=Any.strings_Join wM R4 d o c xs sep w a f h b hlen
def Tryz.D5:Go.Shelf.Ren:=⟨fun|171=>81|243=>137|246=>190|283=>233|284=>234|285=>235|286=>236|129=>127|317=>274|318=>275|319=>276|320=>277|337=>312|338=>313|n=>n,fun|3=>3|9=>9|2=>2|4=>4|171=>334|0=>0|53=>241|37=>182|5=>5|173=>336|212=>386|51=>239|20=>20|213=>387|46=>169|232=>437|233=>438|n=>n,fun|17=>1|18=>4|19=>5|n=>n⟩
theorem Tryz.nN:Go.Proofs.LaysM.n171 prog D5:=⟨⟨by kernel_rfl,sQ func127,sQ func81,sQ func137,sQ func190,sQ func233,sQ func234,sQ func235,sQ func236,sQ func274,sQ func275,sQ func276,sQ func277,sQ func312,sQ func313,underlying0,isAgg0,sizeOf0,zeroValue0,underlying2,isAgg2,sizeOf2,zeroValue2,underlying3,isAgg3,sizeOf3,zeroValue3,underlying4,isAgg4,sizeOf4,zeroValue4,underlying5,isAgg5,sizeOf5,zeroValue5,underlying9,isAgg9,sizeOf9,zeroValue9,underlying20,isAgg20,sizeOf20,zeroValue20,underlying182,isAgg182,sizeOf182,zeroValue182,underlying169,isAgg169,sizeOf169,zeroValue169,underlying239,isAgg239,sizeOf239,zeroValue239,underlying241,isAgg241,sizeOf241,zeroValue241,underlying334,isAgg334,sizeOf334,zeroValue334,underlying336,isAgg336,sizeOf336,zeroValue336,underlying386,isAgg386,sizeOf386,zeroValue386,underlying387,isAgg387,sizeOf387,underlying437,isAgg437,sizeOf437,zeroValue437,underlying438,isAgg438,sizeOf438,zeroValue438,by kernel_rfl,by kernel_rfl,by kernel_rfl⟩,by kernel_rfl,by kernel_rfl,by kernel_rfl,by kernel_rfl,by kernel_rfl,by kernel_rfl,by kernel_rfl,by kernel_rfl,by kernel_rfl,by kernel_rfl,by kernel_rfl,by kernel_rfl,by kernel_rfl,by kernel_rfl,by kernel_rfl,by kernel_rfl,by kernel_rfl,by kernel_rfl,by kernel_rfl⟩
open Go.RowKit Go.Sort Go.Lib in
theorem Tryz.strconv_Itoa (n : Int) (h0 : -9223372036854775808 ≤ n) (c : n ≤ 9223372036854775807) (w : World) (a : Lib.TabIs prog w "internal/strconv.uint64pow10" .u64 Lib.pow10Tab) :
 Calls prog 81 #[.int .i64 n] w fun e b=>e=.returned (.string ⟨(Lib.itoa n).toArray⟩)∧∃k os,b=grow (w.drewN k) os:=Any.strconv_Itoa nN n h0 c w a
def Tryz.D4:Go.Shelf.Ren:=⟨fun|172=>146|244=>194|245=>195|247=>241|279=>242|280=>243|281=>244|282=>245|287=>280|316=>281|171=>81|205=>282|321=>314|322=>315|243=>137|246=>190|283=>233|284=>234|285=>235|286=>236|129=>127|317=>274|318=>275|319=>276|320=>277|337=>312|338=>313|n=>n,fun|9=>9|3=>3|75=>187|76=>188|4=>4|5=>5|167=>340|37=>182|0=>0|85=>341|2=>2|168=>343|53=>241|175=>390|46=>169|210=>394|127=>247|145=>424|143=>422|21=>21|171=>334|173=>336|212=>386|51=>239|20=>20|213=>387|232=>437|233=>438|80=>190|n=>n,fun|15=>2|16=>3|17=>1|18=>4|19=>5|n=>n⟩
theorem Tryz.H9:Go.Proofs.LaysC.n172 prog D4:=⟨⟨⟨by kernel_rfl,sQ func127,sQ func81,sQ func146,sQ func282,sQ func137,sQ func194,sQ func195,sQ func190,sQ func241,sQ func242,sQ func243,sQ func244,sQ func245,sQ func233,sQ func234,sQ func235,sQ func236,sQ func280,sQ func281,sQ func274,sQ func275,sQ func276,sQ func277,sQ func314,sQ func315,sQ func312,sQ func313,underlying0,isAgg0,sizeOf0,zeroValue0,underlying2,isAgg2,sizeOf2,zeroValue2,underlying3,isAgg3,sizeOf3,zeroValue3,underlying4,isAgg4,sizeOf4,zeroValue4,underlying5,isAgg5,sizeOf5,zeroValue5,underlying9,isAgg9,sizeOf9,zeroValue9,underlying20,isAgg20,sizeOf20,zeroValue20,underlying21,isAgg21,sizeOf21,zeroValue21,underlying182,isAgg182,sizeOf182,zeroValue182,underlying169,isAgg169,sizeOf169,zeroValue169,underlying239,isAgg239,sizeOf239,zeroValue239,underlying241,isAgg241,sizeOf241,zeroValue241,underlying187,isAgg187,sizeOf187,zeroValue187,underlying188,isAgg188,sizeOf188,zeroValue188,underlying341,isAgg341,sizeOf341,zeroValue341,underlying247,isAgg247,sizeOf247,zeroValue247,underlying422,isAgg422,sizeOf422,zeroValue422,underlying424,isAgg424,sizeOf424,zeroValue424,underlying340,isAgg340,sizeOf340,zeroValue340,underlying343,isAgg343,sizeOf343,zeroValue343,underlying334,isAgg334,sizeOf334,zeroValue334,underlying336,isAgg336,sizeOf336,zeroValue336,underlying390,isAgg390,sizeOf390,zeroValue390,underlying394,isAgg394,sizeOf394,zeroValue394,underlying386,isAgg386,sizeOf386,zeroValue386,underlying387,isAgg387,sizeOf387,underlying437,isAgg437,sizeOf437,zeroValue437,underlying438,isAgg438,sizeOf438,zeroValue438,by kernel_rfl,by kernel_rfl,by kernel_rfl,by kernel_rfl,by kernel_rfl⟩,underlying190,isAgg190,sizeOf190,zeroValue190,by kernel_rfl,by kernel_rfl,by kernel_rfl,by kernel_rfl,by kernel_rfl,by kernel_rfl,by kernel_rfl,by kernel_rfl,by kernel_rfl,by kernel_rfl,by kernel_rfl,by kernel_rfl,by kernel_rfl,by kernel_rfl,by kernel_rfl,by kernel_rfl,by kernel_rfl,by kernel_rfl,by kernel_rfl,by kernel_rfl,by kernel_rfl,by kernel_rfl,by kernel_rfl,by kernel_rfl,by kernel_rfl,by kernel_rfl,by kernel_rfl,by kernel_rfl,by kernel_rfl,by kernel_rfl,by kernel_rfl,by kernel_rfl,by kernel_rfl⟩,by kernel_rfl,by kernel_rfl,by kernel_rfl,by kernel_rfl,by kernel_rfl,by kernel_rfl,by kernel_rfl,by kernel_rfl,by kernel_rfl,by kernel_rfl,by kernel_rfl,by kernel_rfl,by kernel_rfl,by kernel_rfl,by kernel_rfl,by kernel_rfl,by kernel_rfl,by kernel_rfl,by kernel_rfl,by kernel_rfl,by kernel_rfl,by kernel_rfl,by kernel_rfl,by kernel_rfl,by kernel_rfl,by kernel_rfl,by kernel_rfl,by kernel_rfl,by kernel_rfl⟩
open Go.RowKit in
theorem Tryz.strconv_Atoi_ok(s:ByteArray)(a:s.size≤9223372036854775806)(v:Int)(h:Lib.atoiAll s.data.toList=.ok v)(w:World):
 Calls prog 146 #[.string s] w fun e b=>e=.returned (.tuple #[.int .i64 v,.nilIface])∧(b=w∨∃t,b=Lib.bytesWorld w 5 t):=Any.strconv_Atoi_ok H9 s a v h w
open Go.RowKit in
theorem Tryz.strconv_Atoi_syntax(s:ByteArray)(a:s.size≤281474976710656)(h:Lib.atoiAll s.data.toList=Lib.NumEnd.syntax)(b:Value)(w:World)(i:w.cell? ⟨2,0,none⟩=some b)(c:b=.nilIface∨∃f g,b=.iface f g):
 Calls prog 146 #[.string s] w fun e d=>∃N,e=.returned (.tuple #[.int .i64 (0),.iface 343 (.pointer (some ⟨N,0,none⟩))])∧w.heap.size≤N∧d.heap[N]?=some (.cells #[.string ⟨#[65,116,111,105]⟩,.string s,b] 394 (0,0))∧Below w.heap.size w d:=Any.strconv_Atoi_syntax H9 s a h b w i c
open Go.RowKit in
theorem Tryz.strconv_Atoi_range(s:ByteArray)(a:s.size≤281474976710656)(h:Lib.atoiAll s.data.toList=.range)(b:Value)(w:World)(i:w.cell? ⟨3,0,none⟩=some b)(c:b=.nilIface∨∃f g,b=.iface f g):
 Calls prog 146 #[.string s] w fun e d=>∃N,e=.returned (.tuple #[.int .i64 (Lib.atoiSat s.data.toList),.iface 343 (.pointer (some ⟨N,0,none⟩))])∧w.heap.size≤N∧d.heap[N]?=some (.cells #[.string ⟨#[65,116,111,105]⟩,.string s,b] 394 (0,0))∧Below w.heap.size w d:=Any.strconv_Atoi_range H9 s a h b w i c
def Tryz.Br:Go.Shelf.Ren:=⟨fun|189=>38|125=>72|257=>71|128=>126|129=>127|294=>117|295=>118|296=>119|297=>120|298=>121|299=>122|216=>123|300=>124|301=>125|328=>182|329=>183|330=>184|331=>185|332=>186|215=>187|343=>232|n=>n,fun|28=>38|3=>3|46=>169|0=>0|51=>239|53=>241|4=>4|183=>232|182=>231|131=>170|5=>5|9=>9|218=>277|222=>281|228=>332|229=>143|n=>n,fun|n=>n⟩
theorem Tryz.wN:Go.Proofs.Lays.n189 prog Br:=⟨by kernel_rfl,sQ func72,sQ func126,sQ func127,sQ func38,sQ func187,sQ func123,sQ func71,sQ func117,sQ func118,sQ func119,sQ func120,sQ func121,sQ func122,sQ func124,sQ func125,sQ func182,sQ func183,sQ func184,sQ func185,sQ func186,sQ func232,underlying0,isAgg0,sizeOf0,zeroValue0,underlying3,isAgg3,sizeOf3,zeroValue3,underlying4,isAgg4,sizeOf4,zeroValue4,underlying5,isAgg5,sizeOf5,zeroValue5,underlying9,isAgg9,sizeOf9,zeroValue9,underlying38,isAgg38,sizeOf38,zeroValue38,underlying169,isAgg169,sizeOf169,zeroValue169,underlying239,isAgg239,sizeOf239,zeroValue239,underlying241,isAgg241,sizeOf241,zeroValue241,underlying170,isAgg170,sizeOf170,zeroValue170,underlying231,isAgg231,sizeOf231,zeroValue231,underlying232,isAgg232,sizeOf232,zeroValue232,underlying277,isAgg277,sizeOf277,zeroValue277,underlying281,isAgg281,sizeOf281,zeroValue281,underlying332,isAgg332,sizeOf332,zeroValue332,underlying143,isAgg143,sizeOf143,zeroValue143⟩
open Go.Sort Go.RowKit in
theorem Tryz.slices_Sort_int(blk off cap:Nat)(zs:List Int)(w:World)(d:Holds (Value.int .i64) w blk off zs.toArray)(a:blk<w.heap.size)(b:zs.length<4611686018427387904):
 Calls prog 38 #[.slice (some ⟨blk,off,none⟩) zs.length cap] w fun e c=>
  e=.returned (.tuple #[])∧∃n os,c=grow (putRow (Value.int .i64) (Sort.ahead w n) blk off (zs.mergeSort fun x y=>decide (x≤y)).toArray) os:=Any.slices_Sort_int wN blk off cap zs w d a b
def Tryz.Bq:Go.Shelf.Ren:=⟨fun|153=>340|152=>345|226=>346|227=>347|228=>348|137=>349|119=>350|224=>239|225=>238|217=>237|266=>278|n=>n,fun|9=>9|3=>3|4=>4|5=>5|21=>21|117=>451|116=>450|0=>0|46=>169|124=>454|n=>n,fun|n=>n⟩
theorem Tryz.iz:Go.Proofs.Lays.n153 prog Bq:=⟨by kernel_rfl,sQ func350,sQ func349,sQ func345,sQ func340,sQ func237,sQ func239,sQ func238,sQ func346,sQ func347,sQ func348,sQ func278,underlying0,isAgg0,sizeOf0,zeroValue0,underlying3,isAgg3,sizeOf3,zeroValue3,underlying4,isAgg4,sizeOf4,zeroValue4,underlying5,isAgg5,sizeOf5,zeroValue5,underlying9,isAgg9,sizeOf9,zeroValue9,underlying21,isAgg21,sizeOf21,zeroValue21,underlying169,isAgg169,sizeOf169,zeroValue169,underlying450,isAgg450,sizeOf450,underlying451,isAgg451,sizeOf451,zeroValue451,underlying454,isAgg454,sizeOf454,zeroValue454⟩
open Go.RowKit Go.Lib in
theorem Tryz.strings_IndexAny_laid(s a:ByteArray)(w:World)(hs:s.size<4294967281)(c:a.size<4294967281)(has:∀(j:Nat) b,s.data.toList[j]?=some b→b.toNat<128)(d:∀(j:Nat) b,a.data.toList[j]?=some b→b.toNat<128):
 Calls prog 340 #[.string s,.string a] w fun e f=>e=.returned (.int .i64 (Lib.indexAny s.data.toList a.data.toList))∧Below w.heap.size w f:=Any.strings_IndexAny_laid iz (by kernel_rfl) s a w hs c has d
open Go.RowKit Go.Sort in
theorem Tryz.slices_Sort_int_none(p:Option Addr)(cap:Nat)(w:World):
 Calls prog 38 #[.slice p 0 cap] w fun e a=>e=.returned (.tuple #[])∧a=w:=Any.slices_Sort_int_none wN p cap w
