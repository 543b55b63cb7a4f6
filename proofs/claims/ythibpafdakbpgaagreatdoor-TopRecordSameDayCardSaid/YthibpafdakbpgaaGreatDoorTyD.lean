import Derived.Test.YthibpafdakbpgaaGreatDoorFjD
import Derived.Test.YthibpafdakbpgaaGreatDoorProg
set_option linter.all false
namespace Go.Proofs.YthibpafdakbpgaaGreatDoor
open Go.Ab Tryz
def follows:prog.follows .mixedOrders=true:=V
def ai114:RP prog 114 115 1 8:=⟨underlying114,⟨t115,_,V,rfl,rfl,rfl,rfl⟩,C,⟨sizeOf115,_,zeroValue115,rfl⟩⟩
def V6:RP prog 116 9 1 16:=⟨underlying116,⟨t9,_,V,rfl,rfl,rfl,rfl⟩,C,⟨sizeOf9,_,zeroValue9,rfl⟩⟩
def ai121:RP prog 121 174 1 8:=⟨underlying121,⟨t174,_,V,rfl,rfl,rfl,rfl⟩,C,⟨sizeOf174,_,zeroValue174,rfl⟩⟩
def dM:RP prog 122 108 1 8:=⟨underlying122,⟨t108,_,V,rfl,rfl,rfl,rfl⟩,C,⟨sizeOf108,_,zeroValue108,rfl⟩⟩
def Oz:RP prog 125 232 6 64:=⟨underlying125,⟨t232,_,V,rfl,rfl,rfl,rfl⟩,C,⟨sizeOf232,_,zeroValue232,rfl⟩⟩
def XQ:RP prog 188 41 1 8:=⟨underlying188,⟨t41,_,V,rfl,rfl,rfl,rfl⟩,C,⟨sizeOf41,_,zeroValue41,rfl⟩⟩
def fJ:RP prog 22 101 2 24:=⟨underlying22,⟨t101,_,V,rfl,rfl,rfl,rfl⟩,C,⟨sizeOf101,_,zeroValue101,rfl⟩⟩
def yA:RP prog 230 24 2 16:=⟨underlying230,⟨t24,_,V,rfl,rfl,rfl,rfl⟩,C,⟨sizeOf24,_,zeroValue24,rfl⟩⟩
def x9:RP prog 27 79 3 40:=⟨underlying27,⟨t79,_,V,rfl,rfl,rfl,rfl⟩,C,⟨sizeOf79,_,zeroValue79,rfl⟩⟩
def ai275:RP prog 275 347 2 32:=⟨underlying275,⟨t347,_,V,rfl,rfl,rfl,rfl⟩,C,⟨sizeOf347,_,zeroValue347,rfl⟩⟩
def dN:RP prog 279 277 1 24:=⟨underlying279,⟨t277,_,V,rfl,rfl,rfl,rfl⟩,C,⟨sizeOf277,_,zeroValue277,rfl⟩⟩
def dO:RP prog 314 384 4 32:=⟨underlying314,⟨t384,_,V,rfl,rfl,rfl,rfl⟩,C,⟨sizeOf384,_,zeroValue384,rfl⟩⟩
def ai32:RP prog 32 127 3 48:=⟨underlying32,⟨t127,_,V,rfl,rfl,rfl,rfl⟩,C,⟨sizeOf127,_,zeroValue127,rfl⟩⟩
def ai33:RP prog 33 170 3 32:=⟨underlying33,⟨t170,_,V,rfl,rfl,rfl,rfl⟩,C,⟨sizeOf170,_,zeroValue170,rfl⟩⟩
def ai34:RP prog 34 54 13 136:=⟨underlying34,⟨t54,_,V,rfl,rfl,rfl,rfl⟩,C,⟨sizeOf54,_,zeroValue54,rfl⟩⟩
def sL:RP prog 35 3 1 8:=⟨underlying35,⟨t3,_,V,rfl,rfl,rfl,rfl⟩,C,⟨sizeOf3,_,zeroValue3,rfl⟩⟩
def ai36:RP prog 36 230 1 24:=⟨underlying36,⟨t230,_,V,rfl,rfl,rfl,rfl⟩,C,⟨sizeOf230,_,zeroValue230,rfl⟩⟩
def eo:RP prog 380 35 1 24:=⟨underlying380,⟨t35,_,V,rfl,rfl,rfl,rfl⟩,C,⟨sizeOf35,_,zeroValue35,rfl⟩⟩
def fu:RP prog 387 391 2 16:=⟨underlying387,⟨t391,_,V,rfl,rfl,rfl,rfl⟩,C,⟨sizeOf391,_,zeroValue391,rfl⟩⟩
def yB:RP prog 403 447 3 24:=⟨underlying403,⟨t447,_,V,rfl,rfl,rfl,rfl⟩,C,⟨sizeOf447,_,zeroValue447,rfl⟩⟩
def fD:RP prog 409 450 2 16:=⟨underlying409,⟨t450,_,V,rfl,rfl,rfl,rfl⟩,C,⟨sizeOf450,_,zeroValue450,rfl⟩⟩
def Sf:RP prog 455 172 1 8:=⟨underlying455,⟨t172,_,V,rfl,rfl,rfl,rfl⟩,C,⟨sizeOf172,_,zeroValue172,rfl⟩⟩
def ai48:RP prog 48 135 2 32:=⟨underlying48,⟨t135,_,V,rfl,rfl,rfl,rfl⟩,C,⟨sizeOf135,_,zeroValue135,rfl⟩⟩
def E6:RP prog 483 487 3 24:=⟨underlying483,⟨t487,_,V,rfl,rfl,rfl,rfl⟩,C,⟨sizeOf487,_,zeroValue487,rfl⟩⟩
def fF:Q8 prog 101 [.string ⟨#[]⟩,.int .i64 0] (λi=>([(0,1),(1,1)]:List<|Nat×Nat).toArray[i]?):=⟨by intro parts;kernel_rfl⟩
def bu112:Q8 prog 112 [.int .i64 0,.string ⟨#[]⟩,.int .i64 0,.string ⟨#[]⟩,.slice none 0 0,.int .i64 0,.bool false,.int .i64 0,.bool false,.int .i64 0,.int .i64 0,.int .i64 0,.int .i64 0,.slice none 0 0] (λi=>([(0,13),(13,1)]:List<|Nat×Nat).toArray[i]?):=⟨by intro parts;kernel_rfl⟩
def Ai:Q8 prog 118 [.slice none 0 0,.int .i64 0] (λi=>([(0,1),(1,1)]:List<|Nat×Nat).toArray[i]?):=⟨by intro parts;kernel_rfl⟩
def lT:Q8 prog 120 [.slice none 0 0,.string ⟨#[]⟩,.int .i64 0,.int .i64 0,.int .i64 0,.slice none 0 0,.int .i64 0] (λi=>([(0,5),(5,2)]:List<|Nat×Nat).toArray[i]?):=⟨by intro parts;kernel_rfl⟩
def bu124:Q8 prog 124 [.slice none 0 0,.string ⟨#[]⟩,.int .i64 0,.int .i64 0,.int .i64 0,.slice none 0 0,.int .i64 0,.slice none 0 0,.slice none 0 0,.slice none 0 0,.slice none 0 0,.int .i64 0,.int .i64 0,.slice none 0 0,.bool false,.int .i64 0,.int .i64 0] (λi=>([(0,7),(7,1),(8,1),(9,1),(10,1),(11,3),(14,1),(15,1),(16,1)]:List<|Nat×Nat).toArray[i]?):=⟨by intro parts;kernel_rfl⟩
def vO:Q8 prog 127 [.string ⟨#[]⟩,.int .i64 0,.slice none 0 0] (λi=>([(0,2),(2,1)]:List<|Nat×Nat).toArray[i]?):=⟨by intro parts;kernel_rfl⟩
def bu129:Q8 prog 129 [.string ⟨#[]⟩,.int .i64 0,.slice none 0 0,.int .i64 0] (λi=>([(0,3),(3,1)]:List<|Nat×Nat).toArray[i]?):=⟨by intro parts;kernel_rfl⟩
def Aj:Q8 prog 135 [.int .i64 0,.slice none 0 0] (λi=>([(0,1),(1,1)]:List<|Nat×Nat).toArray[i]?):=⟨by intro parts;kernel_rfl⟩
def bu166:Q8 prog 166 [.slice none 0 0,.string ⟨#[]⟩,.int .i64 0,.int .i64 0,.int .i64 0,.slice none 0 0] (λi=>([(0,5),(5,1)]:List<|Nat×Nat).toArray[i]?):=⟨by intro parts;kernel_rfl⟩
def bu170:Q8 prog 170 [.string ⟨#[]⟩,.int .i64 0,.int .i64 0] (λi=>([(0,1),(1,1),(2,1)]:List<|Nat×Nat).toArray[i]?):=⟨by intro parts;kernel_rfl⟩
def bu176:Q8 prog 176 [.string ⟨#[]⟩,.int .i64 0,.int .i64 0,.int .i64 0] (λi=>([(0,3),(3,1)]:List<|Nat×Nat).toArray[i]?):=⟨by intro parts;kernel_rfl⟩
def Sq:Q8 prog 203 [.int .i64 0,.string ⟨#[]⟩,.nilFunc] (λi=>([(0,1),(1,1),(2,1)]:List<|Nat×Nat).toArray[i]?):=⟨by intro parts;kernel_rfl⟩
def bu208:Q8 prog 208 [.slice none 0 0,.slice none 0 0] (λi=>([(0,1),(1,1)]:List<|Nat×Nat).toArray[i]?):=⟨by intro parts;kernel_rfl⟩
def bu220:Q8 prog 220 [.string ⟨#[]⟩,.string ⟨#[]⟩,.string ⟨#[]⟩,.string ⟨#[]⟩,.int .i64 0] (λi=>([(0,1),(1,1),(2,1),(3,1),(4,1)]:List<|Nat×Nat).toArray[i]?):=⟨by intro parts;kernel_rfl⟩
def fG:Q8 prog 232 [.int .i64 0,.int .i64 0,.int .i64 0,.int .i64 0,.int .i64 0,.slice none 0 0] (λi=>([(0,1),(1,1),(2,1),(3,1),(4,1),(5,1)]:List<|Nat×Nat).toArray[i]?):=⟨by intro parts;kernel_rfl⟩
def lQ:Q8 prog 24 [.int .i64 0,.int .i64 0] (λi=>([(0,1),(1,1)]:List<|Nat×Nat).toArray[i]?):=⟨by intro parts;kernel_rfl⟩
def bu26:Q8 prog 26 [.slice none 0 0,.string ⟨#[]⟩,.int .i64 0,.int .i64 0,.int .i64 0] (λi=>([(0,1),(1,1),(2,1),(3,2)]:List<|Nat×Nat).toArray[i]?):=⟨by intro parts;kernel_rfl⟩
def bu277:Q8 prog 277 [.slice none 0 0] (λi=>([(0,1)]:List<|Nat×Nat).toArray[i]?):=⟨by intro parts;kernel_rfl⟩
def fM:Q8 prog 316 [.slice none 0 0] (λi=>([(0,1)]:List<|Nat×Nat).toArray[i]?):=⟨by intro parts;kernel_rfl⟩
def bu347:Q8 prog 347 [.bool false,.slice none 0 0] (λi=>([(0,1),(1,1)]:List<|Nat×Nat).toArray[i]?):=⟨by intro parts;kernel_rfl⟩
def bu369:Q8 prog 369 [.slice none 0 0,.int .i64 0] (λi=>([(0,2)]:List<|Nat×Nat).toArray[i]?):=⟨by intro parts;kernel_rfl⟩
def bu38:Q8 prog 38 [.int .i64 0,.int .i64 0,.slice none 0 0] (λi=>([(0,1),(1,1),(2,1)]:List<|Nat×Nat).toArray[i]?):=⟨by intro parts;kernel_rfl⟩
def bu384:Q8 prog 384 [.int .i64 0,.int .i64 0,.int .i64 0,.int .i64 0] (λi=>([(0,1),(1,1),(2,2)]:List<|Nat×Nat).toArray[i]?):=⟨by intro parts;kernel_rfl⟩
def fO:Q8 prog 391 [.int .i64 0,.int .i64 0] (λi=>([(0,1),(1,1)]:List<|Nat×Nat).toArray[i]?):=⟨by intro parts;kernel_rfl⟩
def bu395:Q8 prog 395 [.string ⟨#[]⟩] (λi=>([(0,1)]:List<|Nat×Nat).toArray[i]?):=⟨by intro parts;kernel_rfl⟩
def bu40:Q8 prog 40 [.slice none 0 0,.slice none 0 0,.slice none 0 0,.slice none 0 0,.int .i64 0,.int .i64 0,.slice none 0 0] (λi=>([(0,1),(1,1),(2,1),(3,1),(4,3)]:List<|Nat×Nat).toArray[i]?):=⟨by intro parts;kernel_rfl⟩
def fX:Q8 prog 447 [.int .i64 0,.int .i64 0,.int .i64 0] (λi=>([(0,1),(1,1),(2,1)]:List<|Nat×Nat).toArray[i]?):=⟨by intro parts;kernel_rfl⟩
def bu450:Q8 prog 450 [.int .i64 0,.int .i64 0] (λi=>([(0,1),(1,1)]:List<|Nat×Nat).toArray[i]?):=⟨by intro parts;kernel_rfl⟩
def Ak:Q8 prog 453 [.bool false,.bool false,.bool false,.bool false] (λi=>([(0,1),(1,1),(2,1),(3,1)]:List<|Nat×Nat).toArray[i]?):=⟨by intro parts;kernel_rfl⟩
def bu47:Q8 prog 47 [.string ⟨#[]⟩,.int .i64 0] (λi=>([(0,1),(1,1)]:List<|Nat×Nat).toArray[i]?):=⟨by intro parts;kernel_rfl⟩
def bu474:Q8 prog 474 [.string ⟨#[]⟩,.string ⟨#[]⟩,.string ⟨#[]⟩,.string ⟨#[]⟩,.string ⟨#[]⟩,.string ⟨#[]⟩] (λi=>some (i * 1,1)):=⟨by intro parts;kernel_rfl⟩
def vU:Q8 prog 487 [.nilFunc,.int .i64 0,.int .i64 0] (λi=>([(0,1),(1,1),(2,1)]:List<|Nat×Nat).toArray[i]?):=⟨by intro parts;kernel_rfl⟩
def bu50:Q8 prog 50 [.int .i64 0,.int .i64 0] (λi=>([(0,1),(1,1)]:List<|Nat×Nat).toArray[i]?):=⟨by intro parts;kernel_rfl⟩
def gT:Q8 prog 52 [.int .i64 0,.int .i64 0,.int .i64 0,.int .i64 0] (λi=>([(0,2),(2,2)]:List<|Nat×Nat).toArray[i]?):=⟨by intro parts;kernel_rfl⟩
def bu54:Q8 prog 54 [.int .i64 0,.string ⟨#[]⟩,.int .i64 0,.string ⟨#[]⟩,.slice none 0 0,.int .i64 0,.bool false,.int .i64 0,.bool false,.int .i64 0,.int .i64 0,.int .i64 0,.int .i64 0] (λi=>([(0,1),(1,2),(3,1),(4,1),(5,1),(6,1),(7,1),(8,1),(9,4)]:List<|Nat×Nat).toArray[i]?):=⟨by intro parts;kernel_rfl⟩
def JA:Q8 prog 79 [.int .i64 0,.string ⟨#[]⟩,.string ⟨#[]⟩] (λi=>([(0,1),(1,1),(2,1)]:List<|Nat×Nat).toArray[i]?):=⟨by intro parts;kernel_rfl⟩
def eq24:dw prog 24 2:=dw.wQ (T:=3) V underlying24 V V underlying3 isAgg3
def K7:XJ prog 101 0 0:=⟨_,_,_,underlying101,rfl,rfl,C,sizeOf9⟩
def vq:XJ prog 101 1 1:=⟨_,_,_,underlying101,rfl,rfl,C,sizeOf3⟩
def Ym:XJ prog 112 0 0:=⟨_,_,_,underlying112,rfl,rfl,C,sizeOf54⟩
def UA:XJ prog 112 1 13:=⟨_,_,_,underlying112,rfl,rfl,C,sizeOf35⟩
def N7:XJ prog 118 0 0:=⟨_,_,_,underlying118,rfl,rfl,C,sizeOf116⟩
def vE:XJ prog 118 1 1:=⟨_,_,_,underlying118,rfl,rfl,C,sizeOf3⟩
def Oa:XJ prog 120 0 0:=⟨_,_,_,underlying120,rfl,rfl,C,sizeOf26⟩
def K_:XJ prog 120 1 5:=⟨_,_,_,underlying120,rfl,rfl,C,sizeOf118⟩
def Uh:XJ prog 124 0 0:=⟨_,_,_,underlying124,rfl,rfl,C,sizeOf120⟩
def vF:XJ prog 124 1 7:=⟨_,_,_,underlying124,rfl,rfl,C,sizeOf114⟩
def EW:XJ prog 124 2 8:=⟨_,_,_,underlying124,rfl,rfl,C,sizeOf121⟩
def EX:XJ prog 124 3 9:=⟨_,_,_,underlying124,rfl,rfl,C,sizeOf122⟩
def E5:XJ prog 124 4 10:=⟨_,_,_,underlying124,rfl,rfl,C,sizeOf122⟩
def gz:XJ prog 124 5 11:=⟨_,_,_,underlying124,rfl,rfl,C,sizeOf38⟩
def fi124_6:XJ prog 124 6 14:=⟨_,_,_,underlying124,rfl,rfl,C,sizeOf4⟩
def UL:XJ prog 124 7 15:=⟨_,_,_,underlying124,rfl,rfl,C,sizeOf3⟩
def vG:XJ prog 124 8 16:=⟨_,_,_,underlying124,rfl,rfl,C,sizeOf3⟩
def Mx:XJ prog 127 0 0:=⟨_,_,_,underlying127,rfl,rfl,C,sizeOf47⟩
def Dz:XJ prog 127 1 2:=⟨_,_,_,underlying127,rfl,rfl,C,sizeOf125⟩
def Oy:XJ prog 129 0 0:=⟨_,_,_,underlying129,rfl,rfl,C,sizeOf127⟩
def gG:XJ prog 129 1 3:=⟨_,_,_,underlying129,rfl,rfl,C,sizeOf3⟩
def L4:XJ prog 135 0 0:=⟨_,_,_,underlying135,rfl,rfl,C,sizeOf3⟩
def Ss:XJ prog 135 1 1:=⟨_,_,_,underlying135,rfl,rfl,C,sizeOf35⟩
def fi166_0:XJ prog 166 0 0:=⟨_,_,_,underlying166,rfl,rfl,C,sizeOf26⟩
def fi166_1:XJ prog 166 1 5:=⟨_,_,_,underlying166,rfl,rfl,C,sizeOf27⟩
def vH:XJ prog 170 0 0:=⟨_,_,_,underlying170,rfl,rfl,C,sizeOf9⟩
def vI:XJ prog 170 1 1:=⟨_,_,_,underlying170,rfl,rfl,C,sizeOf3⟩
def SC:XJ prog 170 2 2:=⟨_,_,_,underlying170,rfl,rfl,C,sizeOf3⟩
def Qn:XJ prog 176 0 0:=⟨_,_,_,underlying176,rfl,rfl,C,sizeOf170⟩
def gH:XJ prog 176 1 3:=⟨_,_,_,underlying176,rfl,rfl,C,sizeOf3⟩
def gI:XJ prog 203 0 0:=⟨_,_,_,underlying203,rfl,rfl,C,sizeOf3⟩
def fi203_1:XJ prog 203 1 1:=⟨_,_,_,underlying203,rfl,rfl,C,sizeOf9⟩
def fi203_2:XJ prog 203 2 2:=⟨_,_,_,underlying203,rfl,rfl,C,sizeOf201⟩
def vJ:XJ prog 208 0 0:=⟨_,_,_,underlying208,rfl,rfl,C,sizeOf35⟩
def Fa:XJ prog 208 1 1:=⟨_,_,_,underlying208,rfl,rfl,C,sizeOf116⟩
def fi220_0:XJ prog 220 0 0:=⟨_,_,_,underlying220,rfl,rfl,C,sizeOf9⟩
def L7:XJ prog 220 1 1:=⟨_,_,_,underlying220,rfl,rfl,C,sizeOf9⟩
def Gl:XJ prog 220 2 2:=⟨_,_,_,underlying220,rfl,rfl,C,sizeOf9⟩
def fi220_3:XJ prog 220 3 3:=⟨_,_,_,underlying220,rfl,rfl,C,sizeOf9⟩
def gJ:XJ prog 220 4 4:=⟨_,_,_,underlying220,rfl,rfl,C,sizeOf3⟩
def vP:XJ prog 232 0 0:=⟨_,_,_,underlying232,rfl,rfl,C,sizeOf3⟩
def fi232_1:XJ prog 232 1 1:=⟨_,_,_,underlying232,rfl,rfl,C,sizeOf3⟩
def fi232_2:XJ prog 232 2 2:=⟨_,_,_,underlying232,rfl,rfl,C,sizeOf3⟩
def Gu:XJ prog 232 3 3:=⟨_,_,_,underlying232,rfl,rfl,C,sizeOf3⟩
def fi232_4:XJ prog 232 4 4:=⟨_,_,_,underlying232,rfl,rfl,C,sizeOf3⟩
def gK:XJ prog 232 5 5:=⟨_,_,_,underlying232,rfl,rfl,C,sizeOf125⟩
def UT:XJ prog 24 0 0:=⟨_,_,_,underlying24,rfl,rfl,C,sizeOf3⟩
def TI:XJ prog 24 1 1:=⟨_,_,_,underlying24,rfl,rfl,C,sizeOf3⟩
def NL:XJ prog 26 0 0:=⟨_,_,_,underlying26,rfl,rfl,C,sizeOf22⟩
def mO:XJ prog 26 1 1:=⟨_,_,_,underlying26,rfl,rfl,C,sizeOf9⟩
def yx:XJ prog 26 2 2:=⟨_,_,_,underlying26,rfl,rfl,C,sizeOf3⟩
def SJ:XJ prog 26 3 3:=⟨_,_,_,underlying26,rfl,rfl,C,sizeOf24⟩
def gL:XJ prog 277 0 0:=⟨_,_,_,underlying277,rfl,rfl,C,sizeOf275⟩
def Qo:XJ prog 316 0 0:=⟨_,_,_,underlying316,rfl,rfl,C,sizeOf314⟩
def gM:XJ prog 347 0 0:=⟨_,_,_,underlying347,rfl,rfl,C,sizeOf4⟩
def vQ:XJ prog 347 1 1:=⟨_,_,_,underlying347,rfl,rfl,C,sizeOf35⟩
def vR:XJ prog 369 0 0:=⟨_,_,_,underlying369,rfl,rfl,C,sizeOf118⟩
def Qz:XJ prog 384 0 0:=⟨_,_,_,underlying384,rfl,rfl,C,sizeOf3⟩
def vS:XJ prog 384 1 1:=⟨_,_,_,underlying384,rfl,rfl,C,sizeOf3⟩
def TK:XJ prog 384 2 2:=⟨_,_,_,underlying384,rfl,rfl,C,sizeOf24⟩
def fi38_0:XJ prog 38 0 0:=⟨_,_,_,underlying38,rfl,rfl,C,sizeOf3⟩
def fi38_1:XJ prog 38 1 1:=⟨_,_,_,underlying38,rfl,rfl,C,sizeOf3⟩
def JB:XJ prog 38 2 2:=⟨_,_,_,underlying38,rfl,rfl,C,sizeOf36⟩
def wk:XJ prog 391 0 0:=⟨_,_,_,underlying391,rfl,rfl,C,sizeOf3⟩
def wm:XJ prog 391 1 1:=⟨_,_,_,underlying391,rfl,rfl,C,sizeOf3⟩
def fi395_0:XJ prog 395 0 0:=⟨_,_,_,underlying395,rfl,rfl,C,sizeOf9⟩
def QD:XJ prog 40 0 0:=⟨_,_,_,underlying40,rfl,rfl,C,sizeOf32⟩
def OH:XJ prog 40 1 1:=⟨_,_,_,underlying40,rfl,rfl,C,sizeOf33⟩
def Xu:XJ prog 40 2 2:=⟨_,_,_,underlying40,rfl,rfl,C,sizeOf34⟩
def DB:XJ prog 40 3 3:=⟨_,_,_,underlying40,rfl,rfl,C,sizeOf35⟩
def jU:XJ prog 40 4 4:=⟨_,_,_,underlying40,rfl,rfl,C,sizeOf38⟩
def L8:XJ prog 450 0 0:=⟨_,_,_,underlying450,rfl,rfl,C,sizeOf3⟩
def QE:XJ prog 450 1 1:=⟨_,_,_,underlying450,rfl,rfl,C,sizeOf3⟩
def fi453_0:XJ prog 453 0 0:=⟨_,_,_,underlying453,rfl,rfl,C,sizeOf4⟩
def fi453_1:XJ prog 453 1 1:=⟨_,_,_,underlying453,rfl,rfl,C,sizeOf4⟩
def fi453_2:XJ prog 453 2 2:=⟨_,_,_,underlying453,rfl,rfl,C,sizeOf4⟩
def fi453_3:XJ prog 453 3 3:=⟨_,_,_,underlying453,rfl,rfl,C,sizeOf4⟩
def wo:XJ prog 47 0 0:=⟨_,_,_,underlying47,rfl,rfl,C,sizeOf9⟩
def j5:XJ prog 47 1 1:=⟨_,_,_,underlying47,rfl,rfl,C,sizeOf3⟩
def wz:XJ prog 487 0 0:=⟨_,_,_,underlying487,rfl,rfl,C,sizeOf485⟩
def wA:XJ prog 487 1 1:=⟨_,_,_,underlying487,rfl,rfl,C,sizeOf3⟩
def wB:XJ prog 487 2 2:=⟨_,_,_,underlying487,rfl,rfl,C,sizeOf3⟩
def fi50_0:XJ prog 50 0 0:=⟨_,_,_,underlying50,rfl,rfl,C,sizeOf3⟩
def fi50_1:XJ prog 50 1 1:=⟨_,_,_,underlying50,rfl,rfl,C,sizeOf3⟩
def j6:XJ prog 52 0 0:=⟨_,_,_,underlying52,rfl,rfl,C,sizeOf50⟩
def fi52_1:XJ prog 52 1 2:=⟨_,_,_,underlying52,rfl,rfl,C,sizeOf50⟩
def JC:XJ prog 54 0 0:=⟨_,_,_,underlying54,rfl,rfl,C,sizeOf3⟩
def Vg:XJ prog 54 1 1:=⟨_,_,_,underlying54,rfl,rfl,C,sizeOf47⟩
def DC:XJ prog 54 2 3:=⟨_,_,_,underlying54,rfl,rfl,C,sizeOf9⟩
def Xk:XJ prog 54 3 4:=⟨_,_,_,underlying54,rfl,rfl,C,sizeOf48⟩
def R7:XJ prog 54 4 5:=⟨_,_,_,underlying54,rfl,rfl,C,sizeOf3⟩
def fi54_5:XJ prog 54 5 6:=⟨_,_,_,underlying54,rfl,rfl,C,sizeOf4⟩
def kA:XJ prog 54 6 7:=⟨_,_,_,underlying54,rfl,rfl,C,sizeOf3⟩
def wq:XJ prog 54 7 8:=⟨_,_,_,underlying54,rfl,rfl,C,sizeOf4⟩
def kC:XJ prog 54 8 9:=⟨_,_,_,underlying54,rfl,rfl,C,sizeOf52⟩
def JD:XJ prog 79 0 0:=⟨_,_,_,underlying79,rfl,rfl,C,sizeOf3⟩
def fi79_1:XJ prog 79 1 1:=⟨_,_,_,underlying79,rfl,rfl,C,sizeOf9⟩
def Kz:XJ prog 79 2 2:=⟨_,_,_,underlying79,rfl,rfl,C,sizeOf9⟩
def DH:Qh prog 114 115 1:=⟨underlying114,sizeOf115⟩
def Zk:Qh prog 116 9 1:=⟨underlying116,sizeOf9⟩
def rz:Qh prog 121 174 1:=⟨underlying121,sizeOf174⟩
def VC:Qh prog 122 108 1:=⟨underlying122,sizeOf108⟩
def X1:Qh prog 125 232 6:=⟨underlying125,sizeOf232⟩
def si183:Qh prog 183 5 1:=⟨underlying183,sizeOf5⟩
def G7:Qh prog 188 41 1:=⟨underlying188,sizeOf41⟩
def RL:Qh prog 22 101 2:=⟨underlying22,sizeOf101⟩
def rA:Qh prog 230 24 2:=⟨underlying230,sizeOf24⟩
def Vy:Qh prog 27 79 3:=⟨underlying27,sizeOf79⟩
def Vr:Qh prog 275 347 2:=⟨underlying275,sizeOf347⟩
def S6:Qh prog 279 277 1:=⟨underlying279,sizeOf277⟩
def TW:Qh prog 314 384 4:=⟨underlying314,sizeOf384⟩
def dy:Qh prog 32 127 3:=⟨underlying32,sizeOf127⟩
def xU:Qh prog 33 170 3:=⟨underlying33,sizeOf170⟩
def Xr:Qh prog 34 54 13:=⟨underlying34,sizeOf54⟩
def Rh:Qh prog 35 3 1:=⟨underlying35,sizeOf3⟩
def rN:Qh prog 36 230 1:=⟨underlying36,sizeOf230⟩
def DI:Qh prog 380 35 1:=⟨underlying380,sizeOf35⟩
def I2:Qh prog 387 391 2:=⟨underlying387,sizeOf391⟩
def si403:Qh prog 403 447 3:=⟨underlying403,sizeOf447⟩
def rO:Qh prog 409 450 2:=⟨underlying409,sizeOf450⟩
def rT:Qh prog 455 172 1:=⟨underlying455,sizeOf172⟩
def R_:Qh prog 48 135 2:=⟨underlying48,sizeOf135⟩
def fy:Qh prog 483 487 3:=⟨underlying483,sizeOf487⟩
def W6:StrI prog 9:=⟨underlying9⟩
def ti101:W5 prog 101 true 2:=⟨isAgg101,sizeOf101⟩
def O2:W5 prog 104 false 1:=⟨isAgg104,sizeOf104⟩
def ti108:W5 prog 108 false 1:=⟨isAgg108,sizeOf108⟩
def ti112:W5 prog 112 true 14:=⟨isAgg112,sizeOf112⟩
def DK:W5 prog 114 false 1:=⟨isAgg114,sizeOf114⟩
def AD:W5 prog 115 false 1:=⟨isAgg115,sizeOf115⟩
def L9:W5 prog 116 false 1:=⟨isAgg116,sizeOf116⟩
def Uz:W5 prog 118 true 2:=⟨isAgg118,sizeOf118⟩
def Mc:W5 prog 120 true 7:=⟨isAgg120,sizeOf120⟩
def AT:W5 prog 121 false 1:=⟨isAgg121,sizeOf121⟩
def TU:W5 prog 122 false 1:=⟨isAgg122,sizeOf122⟩
def Jd:W5 prog 125 false 1:=⟨isAgg125,sizeOf125⟩
def ti127:W5 prog 127 true 3:=⟨isAgg127,sizeOf127⟩
def Pw:W5 prog 135 true 2:=⟨isAgg135,sizeOf135⟩
def ti170:W5 prog 170 true 3:=⟨isAgg170,sizeOf170⟩
def ti172:W5 prog 172 false 1:=⟨isAgg172,sizeOf172⟩
def ti174:W5 prog 174 false 1:=⟨isAgg174,sizeOf174⟩
def ti201:W5 prog 201 false 1:=⟨isAgg201,sizeOf201⟩
def Td:W5 prog 203 true 3:=⟨isAgg203,sizeOf203⟩
def CC:W5 prog 208 true 2:=⟨isAgg208,sizeOf208⟩
def CG:W5 prog 22 false 1:=⟨isAgg22,sizeOf22⟩
def TY:W5 prog 220 true 5:=⟨isAgg220,sizeOf220⟩
def ti230:W5 prog 230 false 1:=⟨isAgg230,sizeOf230⟩
def X9:W5 prog 232 true 6:=⟨isAgg232,sizeOf232⟩
def kK:W5 prog 24 true 2:=⟨isAgg24,sizeOf24⟩
def Pn:W5 prog 26 true 5:=⟨isAgg26,sizeOf26⟩
def ti27:W5 prog 27 false 1:=⟨isAgg27,sizeOf27⟩
def ti275:W5 prog 275 false 1:=⟨isAgg275,sizeOf275⟩
def Nl:W5 prog 277 true 1:=⟨isAgg277,sizeOf277⟩
def YK:W5 prog 3 false 1:=⟨isAgg3,sizeOf3⟩
def ET:W5 prog 314 false 1:=⟨isAgg314,sizeOf314⟩
def Jz:W5 prog 316 true 1:=⟨isAgg316,sizeOf316⟩
def yy:W5 prog 32 false 1:=⟨isAgg32,sizeOf32⟩
def C4:W5 prog 33 false 1:=⟨isAgg33,sizeOf33⟩
def WC:W5 prog 34 false 1:=⟨isAgg34,sizeOf34⟩
def ti347:W5 prog 347 true 2:=⟨isAgg347,sizeOf347⟩
def Qq:W5 prog 35 false 1:=⟨isAgg35,sizeOf35⟩
def dJ:W5 prog 36 false 1:=⟨isAgg36,sizeOf36⟩
def sZ:W5 prog 369 true 2:=⟨isAgg369,sizeOf369⟩
def Md:W5 prog 38 true 3:=⟨isAgg38,sizeOf38⟩
def Nu:W5 prog 380 false 1:=⟨isAgg380,sizeOf380⟩
def ti384:W5 prog 384 true 4:=⟨isAgg384,sizeOf384⟩
def ti391:W5 prog 391 true 2:=⟨isAgg391,sizeOf391⟩
def ti395:W5 prog 395 true 1:=⟨isAgg395,sizeOf395⟩
def CI:W5 prog 4 false 1:=⟨isAgg4,sizeOf4⟩
def Z_:W5 prog 40 true 7:=⟨isAgg40,sizeOf40⟩
def L5:W5 prog 41 false 1:=⟨isAgg41,sizeOf41⟩
def s6:W5 prog 450 true 2:=⟨isAgg450,sizeOf450⟩
def EU:W5 prog 453 true 4:=⟨isAgg453,sizeOf453⟩
def OI:W5 prog 47 true 2:=⟨isAgg47,sizeOf47⟩
def ti474:W5 prog 474 true 6:=⟨isAgg474,sizeOf474⟩
def RT:W5 prog 48 false 1:=⟨isAgg48,sizeOf48⟩
def fH:W5 prog 485 false 1:=⟨isAgg485,sizeOf485⟩
def ti487:W5 prog 487 true 3:=⟨isAgg487,sizeOf487⟩
def ti5:W5 prog 5 false 1:=⟨isAgg5,sizeOf5⟩
def Q3:W5 prog 50 true 2:=⟨isAgg50,sizeOf50⟩
def KA:W5 prog 52 true 4:=⟨isAgg52,sizeOf52⟩
def C1:W5 prog 54 true 13:=⟨isAgg54,sizeOf54⟩
def CK:W5 prog 79 true 3:=⟨isAgg79,sizeOf79⟩
def T6:W5 prog 9 false 1:=⟨isAgg9,sizeOf9⟩
def ze101:Qi prog 101 [.str [],.int .i64 0]:=⟨_,zeroValue101,rfl,rfl⟩
def ze104:Qi prog 104 [.raw<|.pointer none]:=⟨_,zeroValue104,rfl,rfl⟩
def ze115:Qi prog 115 [.raw<|.pointer none]:=⟨_,zeroValue115,rfl,rfl⟩
def ze118:Qi prog 118 [.ZM,.int .i64 0]:=⟨_,zeroValue118,rfl,rfl⟩
def ze120:Qi prog 120 [.ZM,.str [],.int .i64 0,.int .i64 0,.int .i64 0,.ZM,.int .i64 0]:=⟨_,zeroValue120,rfl,rfl⟩
def ze125:Qi prog 125 [.ZM]:=⟨_,zeroValue125,rfl,rfl⟩
def ze135:Qi prog 135 [.int .i64 0,.ZM]:=⟨_,zeroValue135,rfl,rfl⟩
def ze203:Qi prog 203 [.int .i64 0,.str [],.raw .nilFunc]:=⟨_,zeroValue203,rfl,rfl⟩
def ze208:Qi prog 208 [.ZM,.ZM]:=⟨_,zeroValue208,rfl,rfl⟩
def ze220:Qi prog 220 [.str [],.str [],.str [],.str [],.int .i64 0]:=⟨_,zeroValue220,rfl,rfl⟩
def ze232:Qi prog 232 [.int .i64 0,.int .i64 0,.int .i64 0,.int .i64 0,.int .i64 0,.ZM]:=⟨_,zeroValue232,rfl,rfl⟩
def ze24:Qi prog 24 [.int .i64 0,.int .i64 0]:=⟨_,zeroValue24,rfl,rfl⟩
def ze26:Qi prog 26 [.ZM,.str [],.int .i64 0,.int .i64 0,.int .i64 0]:=⟨_,zeroValue26,rfl,rfl⟩
def ze27:Qi prog 27 [.ZM]:=⟨_,zeroValue27,rfl,rfl⟩
def ze277:Qi prog 277 [.ZM]:=⟨_,zeroValue277,rfl,rfl⟩
def ze3:Qi prog 3 [.int .i64 0]:=⟨_,zeroValue3,rfl,rfl⟩
def ze316:Qi prog 316 [.ZM]:=⟨_,zeroValue316,rfl,rfl⟩
def ze347:Qi prog 347 [.bool false,.ZM]:=⟨_,zeroValue347,rfl,rfl⟩
def ze35:Qi prog 35 [.ZM]:=⟨_,zeroValue35,rfl,rfl⟩
def ze369:Qi prog 369 [.ZM,.int .i64 0]:=⟨_,zeroValue369,rfl,rfl⟩
def ze38:Qi prog 38 [.int .i64 0,.int .i64 0,.ZM]:=⟨_,zeroValue38,rfl,rfl⟩
def ze380:Qi prog 380 [.ZM]:=⟨_,zeroValue380,rfl,rfl⟩
def ze384:Qi prog 384 [.int .i64 0,.int .i64 0,.int .i64 0,.int .i64 0]:=⟨_,zeroValue384,rfl,rfl⟩
def ze395:Qi prog 395 [.str []]:=⟨_,zeroValue395,rfl,rfl⟩
def ze4:Qi prog 4 [.bool false]:=⟨_,zeroValue4,rfl,rfl⟩
def ze40:Qi prog 40 [.ZM,.ZM,.ZM,.ZM,.int .i64 0,.int .i64 0,.ZM]:=⟨_,zeroValue40,rfl,rfl⟩
def ze41:Qi prog 41 [.int .i64 0]:=⟨_,zeroValue41,rfl,rfl⟩
def ze450:Qi prog 450 [.int .i64 0,.int .i64 0]:=⟨_,zeroValue450,rfl,rfl⟩
def ze453:Qi prog 453 [.bool false,.bool false,.bool false,.bool false]:=⟨_,zeroValue453,rfl,rfl⟩
def ze47:Qi prog 47 [.str [],.int .i64 0]:=⟨_,zeroValue47,rfl,rfl⟩
def ze487:Qi prog 487 [.raw .nilFunc,.int .i64 0,.int .i64 0]:=⟨_,zeroValue487,rfl,rfl⟩
def ze50:Qi prog 50 [.int .i64 0,.int .i64 0]:=⟨_,zeroValue50,rfl,rfl⟩
def ze52:Qi prog 52 [.int .i64 0,.int .i64 0,.int .i64 0,.int .i64 0]:=⟨_,zeroValue52,rfl,rfl⟩
def ze54:Qi prog 54 [.int .i64 0,.str [],.int .i64 0,.str [],.ZM,.int .i64 0,.bool false,.int .i64 0,.bool false,.int .i64 0,.int .i64 0,.int .i64 0,.int .i64 0]:=⟨_,zeroValue54,rfl,rfl⟩
def ze79:Qi prog 79 [.int .i64 0,.str [],.str []]:=⟨_,zeroValue79,rfl,rfl⟩
