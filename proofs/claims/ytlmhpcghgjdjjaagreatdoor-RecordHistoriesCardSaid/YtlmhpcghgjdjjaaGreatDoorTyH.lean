import Derived.Test.YtlmhpcghgjdjjaaGreatDoorFjH
import Derived.Test.YtlmhpcghgjdjjaaGreatDoorProg
set_option linter.all false
namespace Go.Proofs.Z_
open Go.Ab Tryz
def follows:prog.follows .mixedOrders=true:=V
def dJ:RP prog 137 138 1 8:=⟨underlying137,⟨t138,_,V,rfl,rfl,rfl,rfl⟩,C,⟨sizeOf138,_,zeroValue138,rfl⟩⟩
def dK:RP prog 141 222 1 8:=⟨underlying141,⟨t222,_,V,rfl,rfl,rfl,rfl⟩,C,⟨sizeOf222,_,zeroValue222,rfl⟩⟩
def vE:RP prog 142 128 1 8:=⟨underlying142,⟨t128,_,V,rfl,rfl,rfl,rfl⟩,C,⟨sizeOf128,_,zeroValue128,rfl⟩⟩
def Pw:RP prog 145 231 6 64:=⟨underlying145,⟨t231,_,V,rfl,rfl,rfl,rfl⟩,C,⟨sizeOf231,_,zeroValue231,rfl⟩⟩
def Xk:RP prog 203 42 1 8:=⟨underlying203,⟨t42,_,V,rfl,rfl,rfl,rfl⟩,C,⟨sizeOf42,_,zeroValue42,rfl⟩⟩
def fJ:RP prog 22 127 2 24:=⟨underlying22,⟨t127,_,V,rfl,rfl,rfl,rfl⟩,C,⟨sizeOf127,_,zeroValue127,rfl⟩⟩
def lq:RP prog 262 332 2 32:=⟨underlying262,⟨t332,_,V,rfl,rfl,rfl,rfl⟩,C,⟨sizeOf332,_,zeroValue332,rfl⟩⟩
def vF:RP prog 266 264 1 24:=⟨underlying266,⟨t264,_,V,rfl,rfl,rfl,rfl⟩,C,⟨sizeOf264,_,zeroValue264,rfl⟩⟩
def x9:RP prog 27 95 3 40:=⟨underlying27,⟨t95,_,V,rfl,rfl,rfl,rfl⟩,C,⟨sizeOf95,_,zeroValue95,rfl⟩⟩
def vG:RP prog 302 363 4 32:=⟨underlying302,⟨t363,_,V,rfl,rfl,rfl,rfl⟩,C,⟨sizeOf363,_,zeroValue363,rfl⟩⟩
def sL:RP prog 35 91 2 32:=⟨underlying35,⟨t91,_,V,rfl,rfl,rfl,rfl⟩,C,⟨sizeOf91,_,zeroValue91,rfl⟩⟩
def vH:RP prog 359 49 1 24:=⟨underlying359,⟨t49,_,V,rfl,rfl,rfl,rfl⟩,C,⟨sizeOf49,_,zeroValue49,rfl⟩⟩
def vI:RP prog 366 370 2 16:=⟨underlying366,⟨t370,_,V,rfl,rfl,rfl,rfl⟩,C,⟨sizeOf370,_,zeroValue370,rfl⟩⟩
def E5:RP prog 382 431 3 24:=⟨underlying382,⟨t431,_,V,rfl,rfl,rfl,rfl⟩,C,⟨sizeOf431,_,zeroValue431,rfl⟩⟩
def vJ:RP prog 388 434 2 16:=⟨underlying388,⟨t434,_,V,rfl,rfl,rfl,rfl⟩,C,⟨sizeOf434,_,zeroValue434,rfl⟩⟩
def R7:RP prog 439 190 1 8:=⟨underlying439,⟨t190,_,V,rfl,rfl,rfl,rfl⟩,C,⟨sizeOf190,_,zeroValue190,rfl⟩⟩
def E6:RP prog 483 487 3 24:=⟨underlying483,⟨t487,_,V,rfl,rfl,rfl,rfl⟩,C,⟨sizeOf487,_,zeroValue487,rfl⟩⟩
def Xr:RP prog 49 3 1 8:=⟨underlying49,⟨t3,_,V,rfl,rfl,rfl,rfl⟩,C,⟨sizeOf3,_,zeroValue3,rfl⟩⟩
def kH:RP prog 54 147 3 48:=⟨underlying54,⟨t147,_,V,rfl,rfl,rfl,rfl⟩,C,⟨sizeOf147,_,zeroValue147,rfl⟩⟩
def kI:RP prog 55 187 3 32:=⟨underlying55,⟨t187,_,V,rfl,rfl,rfl,rfl⟩,C,⟨sizeOf187,_,zeroValue187,rfl⟩⟩
def kJ:RP prog 56 41 13 136:=⟨underlying56,⟨t41,_,V,rfl,rfl,rfl,rfl⟩,C,⟨sizeOf41,_,zeroValue41,rfl⟩⟩
def sM:RP prog 57 92 1 24:=⟨underlying57,⟨t92,_,V,rfl,rfl,rfl,rfl⟩,C,⟨sizeOf92,_,zeroValue92,rfl⟩⟩
def Ss:RP prog 83 9 1 16:=⟨underlying83,⟨t9,_,V,rfl,rfl,rfl,rfl⟩,C,⟨sizeOf9,_,zeroValue9,rfl⟩⟩
def sN:RP prog 92 24 2 16:=⟨underlying92,⟨t24,_,V,rfl,rfl,rfl,rfl⟩,C,⟨sizeOf24,_,zeroValue24,rfl⟩⟩
def lM:Q8 prog 123 [.int .i64 0,.int .i64 0,.int .i64 0,.int .i64 0,.int .i64 0,.int .i64 0] (λi=>([(0,1),(1,1),(2,1),(3,1),(4,1),(5,1)]:List<|Nat×Nat).toArray[i]?):=⟨by intro parts;kernel_rfl⟩
def vO:Q8 prog 127 [.string ⟨#[]⟩,.int .i64 0] (λi=>([(0,1),(1,1)]:List<|Nat×Nat).toArray[i]?):=⟨by intro parts;kernel_rfl⟩
def bu132:Q8 prog 132 [.int .i64 0,.string ⟨#[]⟩,.int .i64 0,.string ⟨#[]⟩,.slice none 0 0,.int .i64 0,.bool false,.int .i64 0,.bool false,.int .i64 0,.int .i64 0,.int .i64 0,.int .i64 0,.slice none 0 0] (λi=>([(0,13),(13,1)]:List<|Nat×Nat).toArray[i]?):=⟨by intro parts;kernel_rfl⟩
def AT:Q8 prog 140 [.slice none 0 0,.string ⟨#[]⟩,.int .i64 0,.int .i64 0,.int .i64 0,.slice none 0 0,.int .i64 0] (λi=>([(0,5),(5,2)]:List<|Nat×Nat).toArray[i]?):=⟨by intro parts;kernel_rfl⟩
def bu144:Q8 prog 144 [.slice none 0 0,.string ⟨#[]⟩,.int .i64 0,.int .i64 0,.int .i64 0,.slice none 0 0,.int .i64 0,.slice none 0 0,.slice none 0 0,.slice none 0 0,.slice none 0 0,.int .i64 0,.int .i64 0,.slice none 0 0,.bool false,.int .i64 0,.int .i64 0] (λi=>([(0,7),(7,1),(8,1),(9,1),(10,1),(11,3),(14,1),(15,1),(16,1)]:List<|Nat×Nat).toArray[i]?):=⟨by intro parts;kernel_rfl⟩
def lN:Q8 prog 147 [.string ⟨#[]⟩,.int .i64 0,.slice none 0 0] (λi=>([(0,2),(2,1)]:List<|Nat×Nat).toArray[i]?):=⟨by intro parts;kernel_rfl⟩
def bu149:Q8 prog 149 [.string ⟨#[]⟩,.int .i64 0,.slice none 0 0,.int .i64 0] (λi=>([(0,3),(3,1)]:List<|Nat×Nat).toArray[i]?):=⟨by intro parts;kernel_rfl⟩
def bu157:Q8 prog 157 [.string ⟨#[]⟩,.string ⟨#[]⟩,.string ⟨#[]⟩,.string ⟨#[]⟩,.int .i64 0] (λi=>([(0,1),(1,1),(2,1),(3,1),(4,1)]:List<|Nat×Nat).toArray[i]?):=⟨by intro parts;kernel_rfl⟩
def dM:Q8 prog 187 [.string ⟨#[]⟩,.int .i64 0,.int .i64 0] (λi=>([(0,1),(1,1),(2,1)]:List<|Nat×Nat).toArray[i]?):=⟨by intro parts;kernel_rfl⟩
def bu191:Q8 prog 191 [.pointer none,.pointer none,.pointer none,.pointer none,.pointer none] (λi=>some (i * 1,1)):=⟨by intro parts;kernel_rfl⟩
def R_:Q8 prog 210 [.int .i64 0,.string ⟨#[]⟩,.nilFunc] (λi=>([(0,1),(1,1),(2,1)]:List<|Nat×Nat).toArray[i]?):=⟨by intro parts;kernel_rfl⟩
def lP:Q8 prog 215 [.slice none 0 0,.slice none 0 0] (λi=>([(0,1),(1,1)]:List<|Nat×Nat).toArray[i]?):=⟨by intro parts;kernel_rfl⟩
def bu224:Q8 prog 224 [.string ⟨#[]⟩,.int .i64 0,.int .i64 0,.int .i64 0] (λi=>([(0,3),(3,1)]:List<|Nat×Nat).toArray[i]?):=⟨by intro parts;kernel_rfl⟩
def vP:Q8 prog 231 [.int .i64 0,.int .i64 0,.int .i64 0,.int .i64 0,.int .i64 0,.slice none 0 0] (λi=>([(0,1),(1,1),(2,1),(3,1),(4,1),(5,1)]:List<|Nat×Nat).toArray[i]?):=⟨by intro parts;kernel_rfl⟩
def lQ:Q8 prog 24 [.int .i64 0,.int .i64 0] (λi=>([(0,1),(1,1)]:List<|Nat×Nat).toArray[i]?):=⟨by intro parts;kernel_rfl⟩
def bu26:Q8 prog 26 [.slice none 0 0,.string ⟨#[]⟩,.int .i64 0,.int .i64 0,.int .i64 0] (λi=>([(0,1),(1,1),(2,1),(3,2)]:List<|Nat×Nat).toArray[i]?):=⟨by intro parts;kernel_rfl⟩
def lR:Q8 prog 264 [.slice none 0 0] (λi=>([(0,1)]:List<|Nat×Nat).toArray[i]?):=⟨by intro parts;kernel_rfl⟩
def aa:Q8 prog 29 [.string ⟨#[]⟩,.int .i64 0] (λi=>([(0,1),(1,1)]:List<|Nat×Nat).toArray[i]?):=⟨by intro parts;kernel_rfl⟩
def vQ:Q8 prog 304 [.slice none 0 0] (λi=>([(0,1)]:List<|Nat×Nat).toArray[i]?):=⟨by intro parts;kernel_rfl⟩
def lS:Q8 prog 332 [.bool false,.slice none 0 0] (λi=>([(0,1),(1,1)]:List<|Nat×Nat).toArray[i]?):=⟨by intro parts;kernel_rfl⟩
def bu348:Q8 prog 348 [.slice none 0 0,.int .i64 0] (λi=>([(0,2)]:List<|Nat×Nat).toArray[i]?):=⟨by intro parts;kernel_rfl⟩
def dN:Q8 prog 363 [.int .i64 0,.int .i64 0,.int .i64 0,.int .i64 0] (λi=>([(0,1),(1,1),(2,2)]:List<|Nat×Nat).toArray[i]?):=⟨by intro parts;kernel_rfl⟩
def lT:Q8 prog 37 [.int .i64 0,.int .i64 0] (λi=>([(0,1),(1,1)]:List<|Nat×Nat).toArray[i]?):=⟨by intro parts;kernel_rfl⟩
def vR:Q8 prog 370 [.int .i64 0,.int .i64 0] (λi=>([(0,1),(1,1)]:List<|Nat×Nat).toArray[i]?):=⟨by intro parts;kernel_rfl⟩
def bu374:Q8 prog 374 [.string ⟨#[]⟩] (λi=>([(0,1)]:List<|Nat×Nat).toArray[i]?):=⟨by intro parts;kernel_rfl⟩
def yc:Q8 prog 39 [.int .i64 0,.int .i64 0,.int .i64 0,.int .i64 0] (λi=>([(0,2),(2,2)]:List<|Nat×Nat).toArray[i]?):=⟨by intro parts;kernel_rfl⟩
def bu41:Q8 prog 41 [.int .i64 0,.string ⟨#[]⟩,.int .i64 0,.string ⟨#[]⟩,.slice none 0 0,.int .i64 0,.bool false,.int .i64 0,.bool false,.int .i64 0,.int .i64 0,.int .i64 0,.int .i64 0] (λi=>([(0,1),(1,2),(3,1),(4,1),(5,1),(6,1),(7,1),(8,1),(9,4)]:List<|Nat×Nat).toArray[i]?):=⟨by intro parts;kernel_rfl⟩
def vS:Q8 prog 431 [.int .i64 0,.int .i64 0,.int .i64 0] (λi=>([(0,1),(1,1),(2,1)]:List<|Nat×Nat).toArray[i]?):=⟨by intro parts;kernel_rfl⟩
def dO:Q8 prog 434 [.int .i64 0,.int .i64 0] (λi=>([(0,1),(1,1)]:List<|Nat×Nat).toArray[i]?):=⟨by intro parts;kernel_rfl⟩
def Fa:Q8 prog 437 [.bool false,.bool false,.bool false,.bool false] (λi=>([(0,1),(1,1),(2,1),(3,1)]:List<|Nat×Nat).toArray[i]?):=⟨by intro parts;kernel_rfl⟩
def bu473:Q8 prog 473 [.string ⟨#[]⟩,.string ⟨#[]⟩,.string ⟨#[]⟩,.string ⟨#[]⟩,.string ⟨#[]⟩,.string ⟨#[]⟩] (λi=>some (i * 1,1)):=⟨by intro parts;kernel_rfl⟩
def vU:Q8 prog 487 [.nilFunc,.int .i64 0,.int .i64 0] (λi=>([(0,1),(1,1),(2,1)]:List<|Nat×Nat).toArray[i]?):=⟨by intro parts;kernel_rfl⟩
def lU:Q8 prog 59 [.int .i64 0,.int .i64 0,.slice none 0 0] (λi=>([(0,1),(1,1),(2,1)]:List<|Nat×Nat).toArray[i]?):=⟨by intro parts;kernel_rfl⟩
def af:Q8 prog 61 [.slice none 0 0,.slice none 0 0,.slice none 0 0,.slice none 0 0,.int .i64 0,.int .i64 0,.slice none 0 0] (λi=>([(0,1),(1,1),(2,1),(3,1),(4,3)]:List<|Nat×Nat).toArray[i]?):=⟨by intro parts;kernel_rfl⟩
def sZ:Q8 prog 85 [.slice none 0 0,.int .i64 0] (λi=>([(0,1),(1,1)]:List<|Nat×Nat).toArray[i]?):=⟨by intro parts;kernel_rfl⟩
def s6:Q8 prog 91 [.int .i64 0,.slice none 0 0] (λi=>([(0,1),(1,1)]:List<|Nat×Nat).toArray[i]?):=⟨by intro parts;kernel_rfl⟩
def L7:Q8 prog 95 [.int .i64 0,.string ⟨#[]⟩,.string ⟨#[]⟩] (λi=>([(0,1),(1,1),(2,1)]:List<|Nat×Nat).toArray[i]?):=⟨by intro parts;kernel_rfl⟩
def eq123:dw prog 123 6:=dw.wQ (T:=3) V underlying123 V V underlying3 isAgg3
def gG:XJ prog 123 1 1:=⟨_,_,_,underlying123,rfl,rfl,C,sizeOf3⟩
def gH:XJ prog 123 2 2:=⟨_,_,_,underlying123,rfl,rfl,C,sizeOf3⟩
def gI:XJ prog 123 3 3:=⟨_,_,_,underlying123,rfl,rfl,C,sizeOf3⟩
def gJ:XJ prog 123 4 4:=⟨_,_,_,underlying123,rfl,rfl,C,sizeOf3⟩
def gK:XJ prog 123 5 5:=⟨_,_,_,underlying123,rfl,rfl,C,sizeOf3⟩
def Mx:XJ prog 127 0 0:=⟨_,_,_,underlying127,rfl,rfl,C,sizeOf9⟩
def Dz:XJ prog 127 1 1:=⟨_,_,_,underlying127,rfl,rfl,C,sizeOf3⟩
def Xu:XJ prog 132 0 0:=⟨_,_,_,underlying132,rfl,rfl,C,sizeOf41⟩
def Uz:XJ prog 132 1 13:=⟨_,_,_,underlying132,rfl,rfl,C,sizeOf49⟩
def O2:XJ prog 140 0 0:=⟨_,_,_,underlying140,rfl,rfl,C,sizeOf26⟩
def My:XJ prog 140 1 5:=⟨_,_,_,underlying140,rfl,rfl,C,sizeOf85⟩
def TY:XJ prog 144 0 0:=⟨_,_,_,underlying144,rfl,rfl,C,sizeOf140⟩
def DA:XJ prog 144 1 7:=⟨_,_,_,underlying144,rfl,rfl,C,sizeOf137⟩
def Jz:XJ prog 144 2 8:=⟨_,_,_,underlying144,rfl,rfl,C,sizeOf141⟩
def JA:XJ prog 144 3 9:=⟨_,_,_,underlying144,rfl,rfl,C,sizeOf142⟩
def JB:XJ prog 144 4 10:=⟨_,_,_,underlying144,rfl,rfl,C,sizeOf142⟩
def wk:XJ prog 144 5 11:=⟨_,_,_,underlying144,rfl,rfl,C,sizeOf59⟩
def gL:XJ prog 144 6 14:=⟨_,_,_,underlying144,rfl,rfl,C,sizeOf4⟩
def UA:XJ prog 144 7 15:=⟨_,_,_,underlying144,rfl,rfl,C,sizeOf3⟩
def DB:XJ prog 144 8 16:=⟨_,_,_,underlying144,rfl,rfl,C,sizeOf3⟩
def OH:XJ prog 147 0 0:=⟨_,_,_,underlying147,rfl,rfl,C,sizeOf29⟩
def Aj:XJ prog 147 1 2:=⟨_,_,_,underlying147,rfl,rfl,C,sizeOf145⟩
def L8:XJ prog 149 0 0:=⟨_,_,_,underlying149,rfl,rfl,C,sizeOf147⟩
def wm:XJ prog 149 1 3:=⟨_,_,_,underlying149,rfl,rfl,C,sizeOf3⟩
def gM:XJ prog 157 0 0:=⟨_,_,_,underlying157,rfl,rfl,C,sizeOf9⟩
def N7:XJ prog 157 1 1:=⟨_,_,_,underlying157,rfl,rfl,C,sizeOf9⟩
def JC:XJ prog 157 2 2:=⟨_,_,_,underlying157,rfl,rfl,C,sizeOf9⟩
def gN:XJ prog 157 3 3:=⟨_,_,_,underlying157,rfl,rfl,C,sizeOf9⟩
def xU:XJ prog 157 4 4:=⟨_,_,_,underlying157,rfl,rfl,C,sizeOf3⟩
def DC:XJ prog 187 0 0:=⟨_,_,_,underlying187,rfl,rfl,C,sizeOf9⟩
def DD:XJ prog 187 1 1:=⟨_,_,_,underlying187,rfl,rfl,C,sizeOf3⟩
def Sf:XJ prog 187 2 2:=⟨_,_,_,underlying187,rfl,rfl,C,sizeOf3⟩
def wo:XJ prog 210 0 0:=⟨_,_,_,underlying210,rfl,rfl,C,sizeOf3⟩
def gO:XJ prog 210 1 1:=⟨_,_,_,underlying210,rfl,rfl,C,sizeOf9⟩
def gP:XJ prog 210 2 2:=⟨_,_,_,underlying210,rfl,rfl,C,sizeOf208⟩
def DE:XJ prog 215 0 0:=⟨_,_,_,underlying215,rfl,rfl,C,sizeOf49⟩
def JD:XJ prog 215 1 1:=⟨_,_,_,underlying215,rfl,rfl,C,sizeOf83⟩
def P8:XJ prog 224 0 0:=⟨_,_,_,underlying224,rfl,rfl,C,sizeOf187⟩
def wq:XJ prog 224 1 3:=⟨_,_,_,underlying224,rfl,rfl,C,sizeOf3⟩
def Gu:XJ prog 231 0 0:=⟨_,_,_,underlying231,rfl,rfl,C,sizeOf3⟩
def kA:XJ prog 231 1 1:=⟨_,_,_,underlying231,rfl,rfl,C,sizeOf3⟩
def kC:XJ prog 231 2 2:=⟨_,_,_,underlying231,rfl,rfl,C,sizeOf3⟩
def KA:XJ prog 231 3 3:=⟨_,_,_,underlying231,rfl,rfl,C,sizeOf3⟩
def kF:XJ prog 231 4 4:=⟨_,_,_,underlying231,rfl,rfl,C,sizeOf3⟩
def Ak:XJ prog 231 5 5:=⟨_,_,_,underlying231,rfl,rfl,C,sizeOf145⟩
def UT:XJ prog 24 0 0:=⟨_,_,_,underlying24,rfl,rfl,C,sizeOf3⟩
def TI:XJ prog 24 1 1:=⟨_,_,_,underlying24,rfl,rfl,C,sizeOf3⟩
def wu:XJ prog 264 0 0:=⟨_,_,_,underlying264,rfl,rfl,C,sizeOf262⟩
def NL:XJ prog 26 0 0:=⟨_,_,_,underlying26,rfl,rfl,C,sizeOf22⟩
def mO:XJ prog 26 1 1:=⟨_,_,_,underlying26,rfl,rfl,C,sizeOf9⟩
def yx:XJ prog 26 2 2:=⟨_,_,_,underlying26,rfl,rfl,C,sizeOf3⟩
def SJ:XJ prog 26 3 3:=⟨_,_,_,underlying26,rfl,rfl,C,sizeOf24⟩
def CU:XJ prog 29 0 0:=⟨_,_,_,underlying29,rfl,rfl,C,sizeOf9⟩
def Ao:XJ prog 29 1 1:=⟨_,_,_,underlying29,rfl,rfl,C,sizeOf3⟩
def QD:XJ prog 304 0 0:=⟨_,_,_,underlying304,rfl,rfl,C,sizeOf302⟩
def wv:XJ prog 332 0 0:=⟨_,_,_,underlying332,rfl,rfl,C,sizeOf4⟩
def DF:XJ prog 332 1 1:=⟨_,_,_,underlying332,rfl,rfl,C,sizeOf49⟩
def DG:XJ prog 348 0 0:=⟨_,_,_,underlying348,rfl,rfl,C,sizeOf85⟩
def QE:XJ prog 363 0 0:=⟨_,_,_,underlying363,rfl,rfl,C,sizeOf3⟩
def DH:XJ prog 363 1 1:=⟨_,_,_,underlying363,rfl,rfl,C,sizeOf3⟩
def Td:XJ prog 363 2 2:=⟨_,_,_,underlying363,rfl,rfl,C,sizeOf24⟩
def DI:XJ prog 370 0 0:=⟨_,_,_,underlying370,rfl,rfl,C,sizeOf3⟩
def DJ:XJ prog 370 1 1:=⟨_,_,_,underlying370,rfl,rfl,C,sizeOf3⟩
def gQ:XJ prog 374 0 0:=⟨_,_,_,underlying374,rfl,rfl,C,sizeOf9⟩
def aK:XJ prog 37 0 0:=⟨_,_,_,underlying37,rfl,rfl,C,sizeOf3⟩
def aL:XJ prog 37 1 1:=⟨_,_,_,underlying37,rfl,rfl,C,sizeOf3⟩
def yy:XJ prog 39 0 0:=⟨_,_,_,underlying39,rfl,rfl,C,sizeOf37⟩
def mP:XJ prog 39 1 2:=⟨_,_,_,underlying39,rfl,rfl,C,sizeOf37⟩
def vp:XJ prog 41 0 0:=⟨_,_,_,underlying41,rfl,rfl,C,sizeOf3⟩
def TK:XJ prog 41 1 1:=⟨_,_,_,underlying41,rfl,rfl,C,sizeOf29⟩
def Gy:XJ prog 41 2 3:=⟨_,_,_,underlying41,rfl,rfl,C,sizeOf9⟩
def VC:XJ prog 41 3 4:=⟨_,_,_,underlying41,rfl,rfl,C,sizeOf35⟩
def RT:XJ prog 41 4 5:=⟨_,_,_,underlying41,rfl,rfl,C,sizeOf3⟩
def aM:XJ prog 41 5 6:=⟨_,_,_,underlying41,rfl,rfl,C,sizeOf4⟩
def yz:XJ prog 41 6 7:=⟨_,_,_,underlying41,rfl,rfl,C,sizeOf3⟩
def DK:XJ prog 41 7 8:=⟨_,_,_,underlying41,rfl,rfl,C,sizeOf4⟩
def yA:XJ prog 41 8 9:=⟨_,_,_,underlying41,rfl,rfl,C,sizeOf39⟩
def Mz:XJ prog 434 0 0:=⟨_,_,_,underlying434,rfl,rfl,C,sizeOf3⟩
def QF:XJ prog 434 1 1:=⟨_,_,_,underlying434,rfl,rfl,C,sizeOf3⟩
def gR:XJ prog 437 0 0:=⟨_,_,_,underlying437,rfl,rfl,C,sizeOf4⟩
def gS:XJ prog 437 1 1:=⟨_,_,_,underlying437,rfl,rfl,C,sizeOf4⟩
def gT:XJ prog 437 2 2:=⟨_,_,_,underlying437,rfl,rfl,C,sizeOf4⟩
def gU:XJ prog 437 3 3:=⟨_,_,_,underlying437,rfl,rfl,C,sizeOf4⟩
def wz:XJ prog 487 0 0:=⟨_,_,_,underlying487,rfl,rfl,C,sizeOf485⟩
def wA:XJ prog 487 1 1:=⟨_,_,_,underlying487,rfl,rfl,C,sizeOf3⟩
def wB:XJ prog 487 2 2:=⟨_,_,_,underlying487,rfl,rfl,C,sizeOf3⟩
def mQ:XJ prog 59 0 0:=⟨_,_,_,underlying59,rfl,rfl,C,sizeOf3⟩
def mR:XJ prog 59 1 1:=⟨_,_,_,underlying59,rfl,rfl,C,sizeOf3⟩
def Nl:XJ prog 59 2 2:=⟨_,_,_,underlying59,rfl,rfl,C,sizeOf57⟩
def Qn:XJ prog 61 0 0:=⟨_,_,_,underlying61,rfl,rfl,C,sizeOf54⟩
def Oa:XJ prog 61 1 1:=⟨_,_,_,underlying61,rfl,rfl,C,sizeOf55⟩
def WC:XJ prog 61 2 2:=⟨_,_,_,underlying61,rfl,rfl,C,sizeOf56⟩
def C5:XJ prog 61 3 3:=⟨_,_,_,underlying61,rfl,rfl,C,sizeOf49⟩
def Ay:XJ prog 61 4 4:=⟨_,_,_,underlying61,rfl,rfl,C,sizeOf59⟩
def L9:XJ prog 85 0 0:=⟨_,_,_,underlying85,rfl,rfl,C,sizeOf83⟩
def yB:XJ prog 85 1 1:=⟨_,_,_,underlying85,rfl,rfl,C,sizeOf3⟩
def G7:XJ prog 91 0 0:=⟨_,_,_,underlying91,rfl,rfl,C,sizeOf3⟩
def OI:XJ prog 91 1 1:=⟨_,_,_,underlying91,rfl,rfl,C,sizeOf49⟩
def Nu:XJ prog 95 0 0:=⟨_,_,_,underlying95,rfl,rfl,C,sizeOf3⟩
def j6:XJ prog 95 1 1:=⟨_,_,_,underlying95,rfl,rfl,C,sizeOf9⟩
def KB:XJ prog 95 2 2:=⟨_,_,_,underlying95,rfl,rfl,C,sizeOf9⟩
def Ai:Qh prog 137 138 1:=⟨underlying137,sizeOf138⟩
def vo:Qh prog 141 222 1:=⟨underlying141,sizeOf222⟩
def Uh:Qh prog 142 128 1:=⟨underlying142,sizeOf128⟩
def X1:Qh prog 145 231 6:=⟨underlying145,sizeOf231⟩
def fu:Qh prog 168 5 1:=⟨underlying168,sizeOf5⟩
def K6:Qh prog 203 42 1:=⟨underlying203,sizeOf42⟩
def RL:Qh prog 22 127 2:=⟨underlying22,sizeOf127⟩
def UL:Qh prog 262 332 2:=⟨underlying262,sizeOf332⟩
def Sq:Qh prog 266 264 1:=⟨underlying266,sizeOf264⟩
def Vy:Qh prog 27 95 3:=⟨underlying27,sizeOf95⟩
def TU:Qh prog 302 363 4:=⟨underlying302,sizeOf363⟩
def Rh:Qh prog 35 91 2:=⟨underlying35,sizeOf91⟩
def I2:Qh prog 359 49 1:=⟨underlying359,sizeOf49⟩
def K7:Qh prog 366 370 2:=⟨underlying366,sizeOf370⟩
def si382:Qh prog 382 431 3:=⟨underlying382,sizeOf431⟩
def CC:Qh prog 388 434 2:=⟨underlying388,sizeOf434⟩
def CD:Qh prog 439 190 1:=⟨underlying439,sizeOf190⟩
def fy:Qh prog 483 487 3:=⟨underlying483,sizeOf487⟩
def Ym:Qh prog 49 3 1:=⟨underlying49,sizeOf3⟩
def Ap:Qh prog 54 147 3:=⟨underlying54,sizeOf147⟩
def Gw:Qh prog 55 187 3:=⟨underlying55,sizeOf187⟩
def V6:Qh prog 56 41 13:=⟨underlying56,sizeOf41⟩
def Gx:Qh prog 57 92 1:=⟨underlying57,sizeOf92⟩
def X9:Qh prog 83 9 1:=⟨underlying83,sizeOf9⟩
def vq:Qh prog 92 24 2:=⟨underlying92,sizeOf24⟩
def W6:StrI prog 9:=⟨underlying9⟩
def ru:W5 prog 123 true 6:=⟨isAgg123,sizeOf123⟩
def fC:W5 prog 127 true 2:=⟨isAgg127,sizeOf127⟩
def fD:W5 prog 128 false 1:=⟨isAgg128,sizeOf128⟩
def fE:W5 prog 132 true 14:=⟨isAgg132,sizeOf132⟩
def Qz:W5 prog 133 false 1:=⟨isAgg133,sizeOf133⟩
def EU:W5 prog 137 false 1:=⟨isAgg137,sizeOf137⟩
def CW:W5 prog 138 false 1:=⟨isAgg138,sizeOf138⟩
def Nc:W5 prog 140 true 7:=⟨isAgg140,sizeOf140⟩
def C4:W5 prog 141 false 1:=⟨isAgg141,sizeOf141⟩
def SC:W5 prog 142 false 1:=⟨isAgg142,sizeOf142⟩
def Mc:W5 prog 145 false 1:=⟨isAgg145,sizeOf145⟩
def TW:W5 prog 157 true 5:=⟨isAgg157,sizeOf157⟩
def ti190:W5 prog 190 false 1:=⟨isAgg190,sizeOf190⟩
def ti191:W5 prog 191 true 5:=⟨isAgg191,sizeOf191⟩
def ti208:W5 prog 208 false 1:=⟨isAgg208,sizeOf208⟩
def S6:W5 prog 210 true 3:=⟨isAgg210,sizeOf210⟩
def Gl:W5 prog 215 true 2:=⟨isAgg215,sizeOf215⟩
def CG:W5 prog 22 false 1:=⟨isAgg22,sizeOf22⟩
def ti222:W5 prog 222 false 1:=⟨isAgg222,sizeOf222⟩
def XQ:W5 prog 231 true 6:=⟨isAgg231,sizeOf231⟩
def kK:W5 prog 24 true 2:=⟨isAgg24,sizeOf24⟩
def Pn:W5 prog 26 true 5:=⟨isAgg26,sizeOf26⟩
def ry:W5 prog 262 false 1:=⟨isAgg262,sizeOf262⟩
def Oy:W5 prog 264 true 1:=⟨isAgg264,sizeOf264⟩
def Ni:W5 prog 29 true 2:=⟨isAgg29,sizeOf29⟩
def YK:W5 prog 3 false 1:=⟨isAgg3,sizeOf3⟩
def Jc:W5 prog 302 false 1:=⟨isAgg302,sizeOf302⟩
def K_:W5 prog 304 true 1:=⟨isAgg304,sizeOf304⟩
def rz:W5 prog 332 true 2:=⟨isAgg332,sizeOf332⟩
def CH:W5 prog 348 true 2:=⟨isAgg348,sizeOf348⟩
def Qq:W5 prog 35 false 1:=⟨isAgg35,sizeOf35⟩
def Oz:W5 prog 359 false 1:=⟨isAgg359,sizeOf359⟩
def rA:W5 prog 363 true 4:=⟨isAgg363,sizeOf363⟩
def Q3:W5 prog 37 true 2:=⟨isAgg37,sizeOf37⟩
def fF:W5 prog 370 true 2:=⟨isAgg370,sizeOf370⟩
def ti374:W5 prog 374 true 1:=⟨isAgg374,sizeOf374⟩
def L4:W5 prog 39 true 4:=⟨isAgg39,sizeOf39⟩
def CI:W5 prog 4 false 1:=⟨isAgg4,sizeOf4⟩
def L5:W5 prog 41 true 13:=⟨isAgg41,sizeOf41⟩
def jU:W5 prog 42 false 1:=⟨isAgg42,sizeOf42⟩
def CJ:W5 prog 434 true 2:=⟨isAgg434,sizeOf434⟩
def Jd:W5 prog 437 true 4:=⟨isAgg437,sizeOf437⟩
def fG:W5 prog 473 true 6:=⟨isAgg473,sizeOf473⟩
def fH:W5 prog 485 false 1:=⟨isAgg485,sizeOf485⟩
def ti487:W5 prog 487 true 3:=⟨isAgg487,sizeOf487⟩
def Vr:W5 prog 49 false 1:=⟨isAgg49,sizeOf49⟩
def ti5:W5 prog 5 false 1:=⟨isAgg5,sizeOf5⟩
def C1:W5 prog 54 false 1:=⟨isAgg54,sizeOf54⟩
def EW:W5 prog 55 false 1:=⟨isAgg55,sizeOf55⟩
def Vg:W5 prog 56 false 1:=⟨isAgg56,sizeOf56⟩
def xS:W5 prog 57 false 1:=⟨isAgg57,sizeOf57⟩
def Md:W5 prog 59 true 3:=⟨isAgg59,sizeOf59⟩
def Zk:W5 prog 61 true 7:=⟨isAgg61,sizeOf61⟩
def EX:W5 prog 83 false 1:=⟨isAgg83,sizeOf83⟩
def Qo:W5 prog 85 true 2:=⟨isAgg85,sizeOf85⟩
def T6:W5 prog 9 false 1:=⟨isAgg9,sizeOf9⟩
def Kz:W5 prog 91 true 2:=⟨isAgg91,sizeOf91⟩
def f_:W5 prog 92 false 1:=⟨isAgg92,sizeOf92⟩
def rT:W5 prog 95 true 3:=⟨isAgg95,sizeOf95⟩
def ze123:Qi prog 123 [.int .i64 0,.int .i64 0,.int .i64 0,.int .i64 0,.int .i64 0,.int .i64 0]:=⟨_,zeroValue123,rfl,rfl⟩
def ze127:Qi prog 127 [.str [],.int .i64 0]:=⟨_,zeroValue127,rfl,rfl⟩
def ze138:Qi prog 138 [.raw<|.pointer none]:=⟨_,zeroValue138,rfl,rfl⟩
def ze140:Qi prog 140 [.ZM,.str [],.int .i64 0,.int .i64 0,.int .i64 0,.ZM,.int .i64 0]:=⟨_,zeroValue140,rfl,rfl⟩
def ze145:Qi prog 145 [.ZM]:=⟨_,zeroValue145,rfl,rfl⟩
def ze157:Qi prog 157 [.str [],.str [],.str [],.str [],.int .i64 0]:=⟨_,zeroValue157,rfl,rfl⟩
def ze191:Qi prog 191 [.raw<|.pointer none,.raw<|.pointer none,.raw<|.pointer none,.raw<|.pointer none,.raw<|.pointer none]:=⟨_,zeroValue191,rfl,rfl⟩
def ze210:Qi prog 210 [.int .i64 0,.str [],.raw .nilFunc]:=⟨_,zeroValue210,rfl,rfl⟩
def ze215:Qi prog 215 [.ZM,.ZM]:=⟨_,zeroValue215,rfl,rfl⟩
def ze231:Qi prog 231 [.int .i64 0,.int .i64 0,.int .i64 0,.int .i64 0,.int .i64 0,.ZM]:=⟨_,zeroValue231,rfl,rfl⟩
def ze24:Qi prog 24 [.int .i64 0,.int .i64 0]:=⟨_,zeroValue24,rfl,rfl⟩
def ze26:Qi prog 26 [.ZM,.str [],.int .i64 0,.int .i64 0,.int .i64 0]:=⟨_,zeroValue26,rfl,rfl⟩
def rN:Qi prog 264 [.ZM]:=⟨_,zeroValue264,rfl,rfl⟩
def ze29:Qi prog 29 [.str [],.int .i64 0]:=⟨_,zeroValue29,rfl,rfl⟩
def ze304:Qi prog 304 [.ZM]:=⟨_,zeroValue304,rfl,rfl⟩
def ze332:Qi prog 332 [.bool false,.ZM]:=⟨_,zeroValue332,rfl,rfl⟩
def ze348:Qi prog 348 [.ZM,.int .i64 0]:=⟨_,zeroValue348,rfl,rfl⟩
def ze359:Qi prog 359 [.ZM]:=⟨_,zeroValue359,rfl,rfl⟩
def ze363:Qi prog 363 [.int .i64 0,.int .i64 0,.int .i64 0,.int .i64 0]:=⟨_,zeroValue363,rfl,rfl⟩
def ze37:Qi prog 37 [.int .i64 0,.int .i64 0]:=⟨_,zeroValue37,rfl,rfl⟩
def ze374:Qi prog 374 [.str []]:=⟨_,zeroValue374,rfl,rfl⟩
def ze39:Qi prog 39 [.int .i64 0,.int .i64 0,.int .i64 0,.int .i64 0]:=⟨_,zeroValue39,rfl,rfl⟩
def ze4:Qi prog 4 [.bool false]:=⟨_,zeroValue4,rfl,rfl⟩
def ze41:Qi prog 41 [.int .i64 0,.str [],.int .i64 0,.str [],.ZM,.int .i64 0,.bool false,.int .i64 0,.bool false,.int .i64 0,.int .i64 0,.int .i64 0,.int .i64 0]:=⟨_,zeroValue41,rfl,rfl⟩
def ze42:Qi prog 42 [.int .i64 0]:=⟨_,zeroValue42,rfl,rfl⟩
def rO:Qi prog 434 [.int .i64 0,.int .i64 0]:=⟨_,zeroValue434,rfl,rfl⟩
def ze437:Qi prog 437 [.bool false,.bool false,.bool false,.bool false]:=⟨_,zeroValue437,rfl,rfl⟩
def ze487:Qi prog 487 [.raw .nilFunc,.int .i64 0,.int .i64 0]:=⟨_,zeroValue487,rfl,rfl⟩
def ze49:Qi prog 49 [.ZM]:=⟨_,zeroValue49,rfl,rfl⟩
def ze59:Qi prog 59 [.int .i64 0,.int .i64 0,.ZM]:=⟨_,zeroValue59,rfl,rfl⟩
def ga:Qi prog 61 [.ZM,.ZM,.ZM,.ZM,.int .i64 0,.int .i64 0,.ZM]:=⟨_,zeroValue61,rfl,rfl⟩
def ze85:Qi prog 85 [.ZM,.int .i64 0]:=⟨_,zeroValue85,rfl,rfl⟩
def ze91:Qi prog 91 [.int .i64 0,.ZM]:=⟨_,zeroValue91,rfl,rfl⟩
def ze95:Qi prog 95 [.int .i64 0,.str [],.str []]:=⟨_,zeroValue95,rfl,rfl⟩
