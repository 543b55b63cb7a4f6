import Derived.Test.YtkkbjdenehfpaaaGreatDoorFjN
import Derived.Test.YtkkbjdenehfpaaaGreatDoorProg
set_option linter.all false
namespace Go.Proofs.Z_
open Go.Ab Tryz
def follows:prog.follows .mixedOrders=true:=V
def xH:RP prog 135 24 2 16:=⟨underlying135,⟨t24,_,V,rfl,rfl,rfl,rfl⟩,C,⟨sizeOf24,_,zeroValue24,rfl⟩⟩
def ai151:RP prog 151 157 1 8:=⟨underlying151,⟨t157,_,V,rfl,rfl,rfl,rfl⟩,C,⟨sizeOf157,_,zeroValue157,rfl⟩⟩
def ai152:RP prog 152 163 1 8:=⟨underlying152,⟨t163,_,V,rfl,rfl,rfl,rfl⟩,C,⟨sizeOf163,_,zeroValue163,rfl⟩⟩
def gS:RP prog 153 104 1 8:=⟨underlying153,⟨t104,_,V,rfl,rfl,rfl,rfl⟩,C,⟨sizeOf104,_,zeroValue104,rfl⟩⟩
def My:RP prog 158 347 6 64:=⟨underlying158,⟨t347,_,V,rfl,rfl,rfl,rfl⟩,C,⟨sizeOf347,_,zeroValue347,rfl⟩⟩
def V6:RP prog 174 44 1 8:=⟨underlying174,⟨t44,_,V,rfl,rfl,rfl,rfl⟩,C,⟨sizeOf44,_,zeroValue44,rfl⟩⟩
def fJ:RP prog 22 96 2 24:=⟨underlying22,⟨t96,_,V,rfl,rfl,rfl,rfl⟩,C,⟨sizeOf96,_,zeroValue96,rfl⟩⟩
def x9:RP prog 27 34 3 40:=⟨underlying27,⟨t34,_,V,rfl,rfl,rfl,rfl⟩,C,⟨sizeOf34,_,zeroValue34,rfl⟩⟩
def gT:RP prog 299 354 4 32:=⟨underlying299,⟨t354,_,V,rfl,rfl,rfl,rfl⟩,C,⟨sizeOf354,_,zeroValue354,rfl⟩⟩
def xP:RP prog 348 254 3 24:=⟨underlying348,⟨t254,_,V,rfl,rfl,rfl,rfl⟩,C,⟨sizeOf254,_,zeroValue254,rfl⟩⟩
def sL:RP prog 35 160 3 48:=⟨underlying35,⟨t160,_,V,rfl,rfl,rfl,rfl⟩,C,⟨sizeOf160,_,zeroValue160,rfl⟩⟩
def gU:RP prog 350 38 1 24:=⟨underlying350,⟨t38,_,V,rfl,rfl,rfl,rfl⟩,C,⟨sizeOf38,_,zeroValue38,rfl⟩⟩
def hU:RP prog 358 398 2 16:=⟨underlying358,⟨t398,_,V,rfl,rfl,rfl,rfl⟩,C,⟨sizeOf398,_,zeroValue398,rfl⟩⟩
def fW:RP prog 36 64 3 32:=⟨underlying36,⟨t64,_,V,rfl,rfl,rfl,rfl⟩,C,⟨sizeOf64,_,zeroValue64,rfl⟩⟩
def f_:RP prog 37 57 13 136:=⟨underlying37,⟨t57,_,V,rfl,rfl,rfl,rfl⟩,C,⟨sizeOf57,_,zeroValue57,rfl⟩⟩
def iZ:RP prog 374 378 2 16:=⟨underlying374,⟨t378,_,V,rfl,rfl,rfl,rfl⟩,C,⟨sizeOf378,_,zeroValue378,rfl⟩⟩
def Xr:RP prog 38 3 1 8:=⟨underlying38,⟨t3,_,V,rfl,rfl,rfl,rfl⟩,C,⟨sizeOf3,_,zeroValue3,rfl⟩⟩
def ga:RP prog 39 135 1 24:=⟨underlying39,⟨t135,_,V,rfl,rfl,rfl,rfl⟩,C,⟨sizeOf135,_,zeroValue135,rfl⟩⟩
def Qz:RP prog 404 281 1 8:=⟨underlying404,⟨t281,_,V,rfl,rfl,rfl,rfl⟩,C,⟨sizeOf281,_,zeroValue281,rfl⟩⟩
def xS:RP prog 443 447 3 24:=⟨underlying443,⟨t447,_,V,rfl,rfl,rfl,rfl⟩,C,⟨sizeOf447,_,zeroValue447,rfl⟩⟩
def ai51:RP prog 51 111 2 32:=⟨underlying51,⟨t111,_,V,rfl,rfl,rfl,rfl⟩,C,⟨sizeOf111,_,zeroValue111,rfl⟩⟩
def Qf:RP prog 66 9 1 16:=⟨underlying66,⟨t9,_,V,rfl,rfl,rfl,rfl⟩,C,⟨sizeOf9,_,zeroValue9,rfl⟩⟩
def vB:RP prog 71 75 1 24:=⟨underlying71,⟨t75,_,V,rfl,rfl,rfl,rfl⟩,C,⟨sizeOf75,_,zeroValue75,rfl⟩⟩
def fS:RP prog 73 127 2 32:=⟨underlying73,⟨t127,_,V,rfl,rfl,rfl,rfl⟩,C,⟨sizeOf127,_,zeroValue127,rfl⟩⟩
def bu109:Q8 prog 109 [.int .i64 0,.string ⟨#[]⟩,.int .i64 0,.string ⟨#[]⟩,.slice none 0 0,.int .i64 0,.bool false,.int .i64 0,.bool false,.int .i64 0,.int .i64 0,.int .i64 0,.int .i64 0,.slice none 0 0] (λi=>([(0,13),(13,1)]:List<|Nat×Nat).toArray[i]?):=⟨by intro parts;kernel_rfl⟩
def xT:Q8 prog 111 [.int .i64 0,.slice none 0 0] (λi=>([(0,1),(1,1)]:List<|Nat×Nat).toArray[i]?):=⟨by intro parts;kernel_rfl⟩
def Ai:Q8 prog 118 [.slice none 0 0,.int .i64 0] (λi=>([(0,2)]:List<|Nat×Nat).toArray[i]?):=⟨by intro parts;kernel_rfl⟩
def vO:Q8 prog 127 [.bool false,.slice none 0 0] (λi=>([(0,1),(1,1)]:List<|Nat×Nat).toArray[i]?):=⟨by intro parts;kernel_rfl⟩
def sD:Q8 prog 148 [.slice none 0 0,.string ⟨#[]⟩,.int .i64 0,.int .i64 0,.int .i64 0,.slice none 0 0,.int .i64 0] (λi=>([(0,5),(5,2)]:List<|Nat×Nat).toArray[i]?):=⟨by intro parts;kernel_rfl⟩
def bu155:Q8 prog 155 [.slice none 0 0,.string ⟨#[]⟩,.int .i64 0,.int .i64 0,.int .i64 0,.slice none 0 0,.int .i64 0,.slice none 0 0,.slice none 0 0,.slice none 0 0,.slice none 0 0,.int .i64 0,.int .i64 0,.slice none 0 0,.bool false,.int .i64 0,.int .i64 0] (λi=>([(0,7),(7,1),(8,1),(9,1),(10,1),(11,3),(14,1),(15,1),(16,1)]:List<|Nat×Nat).toArray[i]?):=⟨by intro parts;kernel_rfl⟩
def aK:Q8 prog 160 [.string ⟨#[]⟩,.int .i64 0,.slice none 0 0] (λi=>([(0,2),(2,1)]:List<|Nat×Nat).toArray[i]?):=⟨by intro parts;kernel_rfl⟩
def bu162:Q8 prog 162 [.string ⟨#[]⟩,.int .i64 0,.slice none 0 0,.int .i64 0] (λi=>([(0,3),(3,1)]:List<|Nat×Nat).toArray[i]?):=⟨by intro parts;kernel_rfl⟩
def bu165:Q8 prog 165 [.string ⟨#[]⟩,.int .i64 0,.int .i64 0,.int .i64 0] (λi=>([(0,3),(3,1)]:List<|Nat×Nat).toArray[i]?):=⟨by intro parts;kernel_rfl⟩
def bu209:Q8 prog 209 [.string ⟨#[]⟩,.string ⟨#[]⟩,.string ⟨#[]⟩,.string ⟨#[]⟩,.int .i64 0] (λi=>([(0,1),(1,1),(2,1),(3,1),(4,1)]:List<|Nat×Nat).toArray[i]?):=⟨by intro parts;kernel_rfl⟩
def QD:Q8 prog 221 [.int .i64 0,.string ⟨#[]⟩,.nilFunc] (λi=>([(0,1),(1,1),(2,1)]:List<|Nat×Nat).toArray[i]?):=⟨by intro parts;kernel_rfl⟩
def aM:Q8 prog 226 [.slice none 0 0,.slice none 0 0] (λi=>([(0,1),(1,1)]:List<|Nat×Nat).toArray[i]?):=⟨by intro parts;kernel_rfl⟩
def lQ:Q8 prog 24 [.int .i64 0,.int .i64 0] (λi=>([(0,1),(1,1)]:List<|Nat×Nat).toArray[i]?):=⟨by intro parts;kernel_rfl⟩
def jU:Q8 prog 254 [.int .i64 0,.int .i64 0,.int .i64 0] (λi=>([(0,1),(1,1),(2,1)]:List<|Nat×Nat).toArray[i]?):=⟨by intro parts;kernel_rfl⟩
def bu26:Q8 prog 26 [.slice none 0 0,.string ⟨#[]⟩,.int .i64 0,.int .i64 0,.int .i64 0] (λi=>([(0,1),(1,1),(2,1),(3,2)]:List<|Nat×Nat).toArray[i]?):=⟨by intro parts;kernel_rfl⟩
def j4:Q8 prog 301 [.slice none 0 0] (λi=>([(0,1)]:List<|Nat×Nat).toArray[i]?):=⟨by intro parts;kernel_rfl⟩
def Fa:Q8 prog 34 [.int .i64 0,.string ⟨#[]⟩,.string ⟨#[]⟩] (λi=>([(0,1),(1,1),(2,1)]:List<|Nat×Nat).toArray[i]?):=⟨by intro parts;kernel_rfl⟩
def j5:Q8 prog 347 [.int .i64 0,.int .i64 0,.int .i64 0,.int .i64 0,.int .i64 0,.slice none 0 0] (λi=>([(0,1),(1,1),(2,1),(3,1),(4,1),(5,1)]:List<|Nat×Nat).toArray[i]?):=⟨by intro parts;kernel_rfl⟩
def bu354:Q8 prog 354 [.int .i64 0,.int .i64 0,.int .i64 0,.int .i64 0] (λi=>([(0,1),(1,1),(2,2)]:List<|Nat×Nat).toArray[i]?):=⟨by intro parts;kernel_rfl⟩
def j6:Q8 prog 378 [.int .i64 0,.int .i64 0] (λi=>([(0,1),(1,1)]:List<|Nat×Nat).toArray[i]?):=⟨by intro parts;kernel_rfl⟩
def bu381:Q8 prog 381 [.string ⟨#[]⟩] (λi=>([(0,1)]:List<|Nat×Nat).toArray[i]?):=⟨by intro parts;kernel_rfl⟩
def bu398:Q8 prog 398 [.int .i64 0,.int .i64 0] (λi=>([(0,1),(1,1)]:List<|Nat×Nat).toArray[i]?):=⟨by intro parts;kernel_rfl⟩
def xU:Q8 prog 402 [.bool false,.bool false,.bool false,.bool false] (λi=>([(0,1),(1,1),(2,1),(3,1)]:List<|Nat×Nat).toArray[i]?):=⟨by intro parts;kernel_rfl⟩
def bz:Q8 prog 41 [.int .i64 0,.int .i64 0,.slice none 0 0] (λi=>([(0,1),(1,1),(2,1)]:List<|Nat×Nat).toArray[i]?):=⟨by intro parts;kernel_rfl⟩
def bu425:Q8 prog 425 [.string ⟨#[]⟩,.string ⟨#[]⟩,.string ⟨#[]⟩,.string ⟨#[]⟩,.string ⟨#[]⟩,.string ⟨#[]⟩] (λi=>some (i * 1,1)):=⟨by intro parts;kernel_rfl⟩
def bu43:Q8 prog 43 [.slice none 0 0,.slice none 0 0,.slice none 0 0,.slice none 0 0,.int .i64 0,.int .i64 0,.slice none 0 0] (λi=>([(0,1),(1,1),(2,1),(3,1),(4,3)]:List<|Nat×Nat).toArray[i]?):=⟨by intro parts;kernel_rfl⟩
def fX:Q8 prog 447 [.nilFunc,.int .i64 0,.int .i64 0] (λi=>([(0,1),(1,1),(2,1)]:List<|Nat×Nat).toArray[i]?):=⟨by intro parts;kernel_rfl⟩
def bu50:Q8 prog 50 [.string ⟨#[]⟩,.int .i64 0] (λi=>([(0,1),(1,1)]:List<|Nat×Nat).toArray[i]?):=⟨by intro parts;kernel_rfl⟩
def b8:Q8 prog 53 [.int .i64 0,.int .i64 0] (λi=>([(0,1),(1,1)]:List<|Nat×Nat).toArray[i]?):=⟨by intro parts;kernel_rfl⟩
def lT:Q8 prog 55 [.int .i64 0,.int .i64 0,.int .i64 0,.int .i64 0] (λi=>([(0,2),(2,2)]:List<|Nat×Nat).toArray[i]?):=⟨by intro parts;kernel_rfl⟩
def bu57:Q8 prog 57 [.int .i64 0,.string ⟨#[]⟩,.int .i64 0,.string ⟨#[]⟩,.slice none 0 0,.int .i64 0,.bool false,.int .i64 0,.bool false,.int .i64 0,.int .i64 0,.int .i64 0,.int .i64 0] (λi=>([(0,1),(1,2),(3,1),(4,1),(5,1),(6,1),(7,1),(8,1),(9,4)]:List<|Nat×Nat).toArray[i]?):=⟨by intro parts;kernel_rfl⟩
def bu64:Q8 prog 64 [.string ⟨#[]⟩,.int .i64 0,.int .i64 0] (λi=>([(0,1),(1,1),(2,1)]:List<|Nat×Nat).toArray[i]?):=⟨by intro parts;kernel_rfl⟩
def gz:Q8 prog 68 [.slice none 0 0,.int .i64 0] (λi=>([(0,1),(1,1)]:List<|Nat×Nat).toArray[i]?):=⟨by intro parts;kernel_rfl⟩
def bu75:Q8 prog 75 [.slice none 0 0] (λi=>([(0,1)]:List<|Nat×Nat).toArray[i]?):=⟨by intro parts;kernel_rfl⟩
def bu96:Q8 prog 96 [.string ⟨#[]⟩,.int .i64 0] (λi=>([(0,1),(1,1)]:List<|Nat×Nat).toArray[i]?):=⟨by intro parts;kernel_rfl⟩
def eq24:dw prog 24 2:=dw.r7 (T:=3) V underlying24 V V underlying3 isAgg3
def Xu:XJ prog 109 0 0:=⟨_,_,_,underlying109,rfl,rfl,C,sizeOf57⟩
def TW:XJ prog 109 1 13:=⟨_,_,_,underlying109,rfl,rfl,C,sizeOf38⟩
def Hw:XJ prog 111 0 0:=⟨_,_,_,underlying111,rfl,rfl,C,sizeOf3⟩
def QE:XJ prog 111 1 1:=⟨_,_,_,underlying111,rfl,rfl,C,sizeOf38⟩
def N7:XJ prog 118 0 0:=⟨_,_,_,underlying118,rfl,rfl,C,sizeOf68⟩
def Mx:XJ prog 127 0 0:=⟨_,_,_,underlying127,rfl,rfl,C,sizeOf4⟩
def Dz:XJ prog 127 1 1:=⟨_,_,_,underlying127,rfl,rfl,C,sizeOf38⟩
def L7:XJ prog 148 0 0:=⟨_,_,_,underlying148,rfl,rfl,C,sizeOf26⟩
def I2:XJ prog 148 1 5:=⟨_,_,_,underlying148,rfl,rfl,C,sizeOf68⟩
def TK:XJ prog 155 0 0:=⟨_,_,_,underlying155,rfl,rfl,C,sizeOf148⟩
def vS:XJ prog 155 1 7:=⟨_,_,_,underlying155,rfl,rfl,C,sizeOf151⟩
def DC:XJ prog 155 2 8:=⟨_,_,_,underlying155,rfl,rfl,C,sizeOf152⟩
def DD:XJ prog 155 3 9:=⟨_,_,_,underlying155,rfl,rfl,C,sizeOf153⟩
def DE:XJ prog 155 4 10:=⟨_,_,_,underlying155,rfl,rfl,C,sizeOf153⟩
def kf:XJ prog 155 5 11:=⟨_,_,_,underlying155,rfl,rfl,C,sizeOf41⟩
def cr:XJ prog 155 6 14:=⟨_,_,_,underlying155,rfl,rfl,C,sizeOf4⟩
def TY:XJ prog 155 7 15:=⟨_,_,_,underlying155,rfl,rfl,C,sizeOf3⟩
def vU:XJ prog 155 8 16:=⟨_,_,_,underlying155,rfl,rfl,C,sizeOf3⟩
def Jc:XJ prog 160 0 0:=⟨_,_,_,underlying160,rfl,rfl,C,sizeOf50⟩
def kA:XJ prog 160 1 2:=⟨_,_,_,underlying160,rfl,rfl,C,sizeOf158⟩
def Jd:XJ prog 162 0 0:=⟨_,_,_,underlying162,rfl,rfl,C,sizeOf160⟩
def kC:XJ prog 162 1 3:=⟨_,_,_,underlying162,rfl,rfl,C,sizeOf3⟩
def Nl:XJ prog 165 0 0:=⟨_,_,_,underlying165,rfl,rfl,C,sizeOf64⟩
def kF:XJ prog 165 1 3:=⟨_,_,_,underlying165,rfl,rfl,C,sizeOf3⟩
def cB:XJ prog 209 0 0:=⟨_,_,_,underlying209,rfl,rfl,C,sizeOf9⟩
def Jz:XJ prog 209 1 1:=⟨_,_,_,underlying209,rfl,rfl,C,sizeOf9⟩
def DF:XJ prog 209 2 2:=⟨_,_,_,underlying209,rfl,rfl,C,sizeOf9⟩
def cC:XJ prog 209 3 3:=⟨_,_,_,underlying209,rfl,rfl,C,sizeOf9⟩
def kG:XJ prog 209 4 4:=⟨_,_,_,underlying209,rfl,rfl,C,sizeOf3⟩
def kI:XJ prog 221 0 0:=⟨_,_,_,underlying221,rfl,rfl,C,sizeOf3⟩
def cD:XJ prog 221 1 1:=⟨_,_,_,underlying221,rfl,rfl,C,sizeOf9⟩
def dK:XJ prog 221 2 2:=⟨_,_,_,underlying221,rfl,rfl,C,sizeOf219⟩
def wk:XJ prog 226 0 0:=⟨_,_,_,underlying226,rfl,rfl,C,sizeOf38⟩
def DG:XJ prog 226 1 1:=⟨_,_,_,underlying226,rfl,rfl,C,sizeOf66⟩
def UT:XJ prog 24 0 0:=⟨_,_,_,underlying24,rfl,rfl,C,sizeOf3⟩
def TI:XJ prog 24 1 1:=⟨_,_,_,underlying24,rfl,rfl,C,sizeOf3⟩
def NL:XJ prog 26 0 0:=⟨_,_,_,underlying26,rfl,rfl,C,sizeOf22⟩
def mO:XJ prog 26 1 1:=⟨_,_,_,underlying26,rfl,rfl,C,sizeOf9⟩
def yx:XJ prog 26 2 2:=⟨_,_,_,underlying26,rfl,rfl,C,sizeOf3⟩
def SJ:XJ prog 26 3 3:=⟨_,_,_,underlying26,rfl,rfl,C,sizeOf24⟩
def Nu:XJ prog 301 0 0:=⟨_,_,_,underlying301,rfl,rfl,C,sizeOf299⟩
def gM:XJ prog 347 0 0:=⟨_,_,_,underlying347,rfl,rfl,C,sizeOf3⟩
def vQ:XJ prog 347 1 1:=⟨_,_,_,underlying347,rfl,rfl,C,sizeOf3⟩
def dN:XJ prog 347 2 2:=⟨_,_,_,underlying347,rfl,rfl,C,sizeOf3⟩
def DH:XJ prog 347 3 3:=⟨_,_,_,underlying347,rfl,rfl,C,sizeOf3⟩
def dO:XJ prog 347 4 4:=⟨_,_,_,underlying347,rfl,rfl,C,sizeOf3⟩
def kJ:XJ prog 347 5 5:=⟨_,_,_,underlying347,rfl,rfl,C,sizeOf158⟩
def Gt:XJ prog 34 0 0:=⟨_,_,_,underlying34,rfl,rfl,C,sizeOf3⟩
def fi34_1:XJ prog 34 1 1:=⟨_,_,_,underlying34,rfl,rfl,C,sizeOf9⟩
def Bp:XJ prog 34 2 2:=⟨_,_,_,underlying34,rfl,rfl,C,sizeOf9⟩
def fi354_0:XJ prog 354 0 0:=⟨_,_,_,underlying354,rfl,rfl,C,sizeOf3⟩
def wm:XJ prog 354 1 1:=⟨_,_,_,underlying354,rfl,rfl,C,sizeOf3⟩
def Sf:XJ prog 354 2 2:=⟨_,_,_,underlying354,rfl,rfl,C,sizeOf24⟩
def wo:XJ prog 378 0 0:=⟨_,_,_,underlying378,rfl,rfl,C,sizeOf3⟩
def wq:XJ prog 378 1 1:=⟨_,_,_,underlying378,rfl,rfl,C,sizeOf3⟩
def dR:XJ prog 381 0 0:=⟨_,_,_,underlying381,rfl,rfl,C,sizeOf9⟩
def JA:XJ prog 398 0 0:=⟨_,_,_,underlying398,rfl,rfl,C,sizeOf3⟩
def Oa:XJ prog 398 1 1:=⟨_,_,_,underlying398,rfl,rfl,C,sizeOf3⟩
def eo:XJ prog 402 0 0:=⟨_,_,_,underlying402,rfl,rfl,C,sizeOf4⟩
def eA:XJ prog 402 1 1:=⟨_,_,_,underlying402,rfl,rfl,C,sizeOf4⟩
def e_:XJ prog 402 2 2:=⟨_,_,_,underlying402,rfl,rfl,C,sizeOf4⟩
def fu:XJ prog 402 3 3:=⟨_,_,_,underlying402,rfl,rfl,C,sizeOf4⟩
def dx:XJ prog 41 0 0:=⟨_,_,_,underlying41,rfl,rfl,C,sizeOf3⟩
def dy:XJ prog 41 1 1:=⟨_,_,_,underlying41,rfl,rfl,C,sizeOf3⟩
def Gu:XJ prog 41 2 2:=⟨_,_,_,underlying41,rfl,rfl,C,sizeOf39⟩
def Oy:XJ prog 43 0 0:=⟨_,_,_,underlying43,rfl,rfl,C,sizeOf35⟩
def TU:XJ prog 43 1 1:=⟨_,_,_,underlying43,rfl,rfl,C,sizeOf36⟩
def Xk:XJ prog 43 2 2:=⟨_,_,_,underlying43,rfl,rfl,C,sizeOf37⟩
def BQ:XJ prog 43 3 3:=⟨_,_,_,underlying43,rfl,rfl,C,sizeOf38⟩
def qK:XJ prog 43 4 4:=⟨_,_,_,underlying43,rfl,rfl,C,sizeOf41⟩
def kW:XJ prog 447 0 0:=⟨_,_,_,underlying447,rfl,rfl,C,sizeOf445⟩
def lq:XJ prog 447 1 1:=⟨_,_,_,underlying447,rfl,rfl,C,sizeOf3⟩
def lG:XJ prog 447 2 2:=⟨_,_,_,underlying447,rfl,rfl,C,sizeOf3⟩
def ru:XJ prog 50 0 0:=⟨_,_,_,underlying50,rfl,rfl,C,sizeOf9⟩
def ry:XJ prog 50 1 1:=⟨_,_,_,underlying50,rfl,rfl,C,sizeOf3⟩
def fi53_0:XJ prog 53 0 0:=⟨_,_,_,underlying53,rfl,rfl,C,sizeOf3⟩
def fi53_1:XJ prog 53 1 1:=⟨_,_,_,underlying53,rfl,rfl,C,sizeOf3⟩
def rz:XJ prog 55 0 0:=⟨_,_,_,underlying55,rfl,rfl,C,sizeOf53⟩
def dA:XJ prog 55 1 2:=⟨_,_,_,underlying55,rfl,rfl,C,sizeOf53⟩
def CC:XJ prog 57 0 0:=⟨_,_,_,underlying57,rfl,rfl,C,sizeOf3⟩
def RT:XJ prog 57 1 1:=⟨_,_,_,underlying57,rfl,rfl,C,sizeOf50⟩
def CD:XJ prog 57 2 3:=⟨_,_,_,underlying57,rfl,rfl,C,sizeOf9⟩
def Vr:XJ prog 57 3 4:=⟨_,_,_,underlying57,rfl,rfl,C,sizeOf51⟩
def Qn:XJ prog 57 4 5:=⟨_,_,_,underlying57,rfl,rfl,C,sizeOf3⟩
def fi57_5:XJ prog 57 5 6:=⟨_,_,_,underlying57,rfl,rfl,C,sizeOf4⟩
def rA:XJ prog 57 6 7:=⟨_,_,_,underlying57,rfl,rfl,C,sizeOf3⟩
def wu:XJ prog 57 7 8:=⟨_,_,_,underlying57,rfl,rfl,C,sizeOf4⟩
def rO:XJ prog 57 8 9:=⟨_,_,_,underlying57,rfl,rfl,C,sizeOf55⟩
def Gx:XJ prog 64 0 0:=⟨_,_,_,underlying64,rfl,rfl,C,sizeOf9⟩
def rR:XJ prog 64 1 1:=⟨_,_,_,underlying64,rfl,rfl,C,sizeOf3⟩
def Qo:XJ prog 64 2 2:=⟨_,_,_,underlying64,rfl,rfl,C,sizeOf3⟩
def Gy:XJ prog 68 0 0:=⟨_,_,_,underlying68,rfl,rfl,C,sizeOf66⟩
def rT:XJ prog 68 1 1:=⟨_,_,_,underlying68,rfl,rfl,C,sizeOf3⟩
def dB:XJ prog 75 0 0:=⟨_,_,_,underlying75,rfl,rfl,C,sizeOf73⟩
def CJ:XJ prog 96 0 0:=⟨_,_,_,underlying96,rfl,rfl,C,sizeOf9⟩
def rW:XJ prog 96 1 1:=⟨_,_,_,underlying96,rfl,rfl,C,sizeOf3⟩
def uv:Qh prog 135 24 2:=⟨underlying135,sizeOf24⟩
def va:Qh prog 151 157 1:=⟨underlying151,sizeOf157⟩
def vo:Qh prog 152 163 1:=⟨underlying152,sizeOf163⟩
def SC:Qh prog 153 104 1:=⟨underlying153,sizeOf104⟩
def XQ:Qh prog 158 347 6:=⟨underlying158,sizeOf347⟩
def EU:Qh prog 174 44 1:=⟨underlying174,sizeOf44⟩
def si182:Qh prog 182 5 1:=⟨underlying182,sizeOf5⟩
def RL:Qh prog 22 96 2:=⟨underlying22,sizeOf96⟩
def Vy:Qh prog 27 34 3:=⟨underlying27,sizeOf34⟩
def S6:Qh prog 299 354 4:=⟨underlying299,sizeOf354⟩
def si348:Qh prog 348 254 3:=⟨underlying348,sizeOf254⟩
def Rh:Qh prog 35 160 3:=⟨underlying35,sizeOf160⟩
def Dh:Qh prog 350 38 1:=⟨underlying350,sizeOf38⟩
def vp:Qh prog 358 398 2:=⟨underlying358,sizeOf398⟩
def rN:Qh prog 36 64 3:=⟨underlying36,sizeOf64⟩
def VD:Qh prog 37 57 13:=⟨underlying37,sizeOf57⟩
def EW:Qh prog 374 378 2:=⟨underlying374,sizeOf378⟩
def X9:Qh prog 38 3 1:=⟨underlying38,sizeOf3⟩
def vq:Qh prog 39 135 1:=⟨underlying39,sizeOf135⟩
def vE:Qh prog 404 281 1:=⟨underlying404,sizeOf281⟩
def si443:Qh prog 443 447 3:=⟨underlying443,sizeOf447⟩
def Qr:Qh prog 51 111 2:=⟨underlying51,sizeOf111⟩
def X1:Qh prog 66 9 1:=⟨underlying66,sizeOf9⟩
def Kz:Qh prog 71 75 1:=⟨underlying71,sizeOf75⟩
def Oz:Qh prog 73 127 2:=⟨underlying73,sizeOf127⟩
def W6:StrI prog 9:=⟨underlying9⟩
def Nc:W5 prog 100 false 1:=⟨isAgg100,sizeOf100⟩
def O2:W5 prog 104 false 1:=⟨isAgg104,sizeOf104⟩
def ti109:W5 prog 109 true 14:=⟨isAgg109,sizeOf109⟩
def Ni:W5 prog 111 true 2:=⟨isAgg111,sizeOf111⟩
def Uz:W5 prog 118 true 2:=⟨isAgg118,sizeOf118⟩
def fM:W5 prog 127 true 2:=⟨isAgg127,sizeOf127⟩
def Pw:W5 prog 135 false 1:=⟨isAgg135,sizeOf135⟩
def KA:W5 prog 148 true 7:=⟨isAgg148,sizeOf148⟩
def Ak:W5 prog 151 false 1:=⟨isAgg151,sizeOf151⟩
def Al:W5 prog 152 false 1:=⟨isAgg152,sizeOf152⟩
def QF:W5 prog 153 false 1:=⟨isAgg153,sizeOf153⟩
def vG:W5 prog 157 false 1:=⟨isAgg157,sizeOf157⟩
def EX:W5 prog 158 false 1:=⟨isAgg158,sizeOf158⟩
def ti160:W5 prog 160 true 3:=⟨isAgg160,sizeOf160⟩
def ti163:W5 prog 163 false 1:=⟨isAgg163,sizeOf163⟩
def Td:W5 prog 209 true 5:=⟨isAgg209,sizeOf209⟩
def ti219:W5 prog 219 false 1:=⟨isAgg219,sizeOf219⟩
def CG:W5 prog 22 false 1:=⟨isAgg22,sizeOf22⟩
def R7:W5 prog 221 true 3:=⟨isAgg221,sizeOf221⟩
def Ao:W5 prog 226 true 2:=⟨isAgg226,sizeOf226⟩
def kK:W5 prog 24 true 2:=⟨isAgg24,sizeOf24⟩
def Pn:W5 prog 26 true 5:=⟨isAgg26,sizeOf26⟩
def ti281:W5 prog 281 false 1:=⟨isAgg281,sizeOf281⟩
def DA:W5 prog 299 false 1:=⟨isAgg299,sizeOf299⟩
def YK:W5 prog 3 false 1:=⟨isAgg3,sizeOf3⟩
def E0:W5 prog 301 true 1:=⟨isAgg301,sizeOf301⟩
def WC:W5 prog 34 true 3:=⟨isAgg34,sizeOf34⟩
def X0:W5 prog 347 true 6:=⟨isAgg347,sizeOf347⟩
def Qq:W5 prog 35 false 1:=⟨isAgg35,sizeOf35⟩
def L4:W5 prog 350 false 1:=⟨isAgg350,sizeOf350⟩
def fN:W5 prog 354 true 4:=⟨isAgg354,sizeOf354⟩
def dJ:W5 prog 36 false 1:=⟨isAgg36,sizeOf36⟩
def Vg:W5 prog 37 false 1:=⟨isAgg37,sizeOf37⟩
def ti378:W5 prog 378 true 2:=⟨isAgg378,sizeOf378⟩
def Md:W5 prog 38 false 1:=⟨isAgg38,sizeOf38⟩
def ti381:W5 prog 381 true 1:=⟨isAgg381,sizeOf381⟩
def gO:W5 prog 39 false 1:=⟨isAgg39,sizeOf39⟩
def vH:W5 prog 398 true 2:=⟨isAgg398,sizeOf398⟩
def CI:W5 prog 4 false 1:=⟨isAgg4,sizeOf4⟩
def DB:W5 prog 402 true 4:=⟨isAgg402,sizeOf402⟩
def L5:W5 prog 41 true 3:=⟨isAgg41,sizeOf41⟩
def ti425:W5 prog 425 true 6:=⟨isAgg425,sizeOf425⟩
def Zk:W5 prog 43 true 7:=⟨isAgg43,sizeOf43⟩
def fG:W5 prog 44 false 1:=⟨isAgg44,sizeOf44⟩
def ti445:W5 prog 445 false 1:=⟨isAgg445,sizeOf445⟩
def ti447:W5 prog 447 true 3:=⟨isAgg447,sizeOf447⟩
def ti5:W5 prog 5 false 1:=⟨isAgg5,sizeOf5⟩
def Q3:W5 prog 50 true 2:=⟨isAgg50,sizeOf50⟩
def P8:W5 prog 51 false 1:=⟨isAgg51,sizeOf51⟩
def OH:W5 prog 53 true 2:=⟨isAgg53,sizeOf53⟩
def G5:W5 prog 55 true 4:=⟨isAgg55,sizeOf55⟩
def K6:W5 prog 57 true 13:=⟨isAgg57,sizeOf57⟩
def ti64:W5 prog 64 true 3:=⟨isAgg64,sizeOf64⟩
def wQ:W5 prog 66 false 1:=⟨isAgg66,sizeOf66⟩
def Nb:W5 prog 68 true 2:=⟨isAgg68,sizeOf68⟩
def vm:W5 prog 73 false 1:=⟨isAgg73,sizeOf73⟩
def AD:W5 prog 75 true 1:=⟨isAgg75,sizeOf75⟩
def T6:W5 prog 9 false 1:=⟨isAgg9,sizeOf9⟩
def ti96:W5 prog 96 true 2:=⟨isAgg96,sizeOf96⟩
def ze111:Qi prog 111 [.int .i64 0,.ZM]:=⟨_,zeroValue111,rfl,rfl⟩
def ze118:Qi prog 118 [.ZM,.int .i64 0]:=⟨_,zeroValue118,rfl,rfl⟩
def ze127:Qi prog 127 [.bool false,.ZM]:=⟨_,zeroValue127,rfl,rfl⟩
def ze148:Qi prog 148 [.ZM,.str [],.int .i64 0,.int .i64 0,.int .i64 0,.ZM,.int .i64 0]:=⟨_,zeroValue148,rfl,rfl⟩
def ze157:Qi prog 157 [.raw<|.pointer none]:=⟨_,zeroValue157,rfl,rfl⟩
def ze158:Qi prog 158 [.ZM]:=⟨_,zeroValue158,rfl,rfl⟩
def ze209:Qi prog 209 [.str [],.str [],.str [],.str [],.int .i64 0]:=⟨_,zeroValue209,rfl,rfl⟩
def ze221:Qi prog 221 [.int .i64 0,.str [],.raw .nilFunc]:=⟨_,zeroValue221,rfl,rfl⟩
def ze226:Qi prog 226 [.ZM,.ZM]:=⟨_,zeroValue226,rfl,rfl⟩
def ze24:Qi prog 24 [.int .i64 0,.int .i64 0]:=⟨_,zeroValue24,rfl,rfl⟩
def ze26:Qi prog 26 [.ZM,.str [],.int .i64 0,.int .i64 0,.int .i64 0]:=⟨_,zeroValue26,rfl,rfl⟩
def ze301:Qi prog 301 [.ZM]:=⟨_,zeroValue301,rfl,rfl⟩
def ze34:Qi prog 34 [.int .i64 0,.str [],.str []]:=⟨_,zeroValue34,rfl,rfl⟩
def ze347:Qi prog 347 [.int .i64 0,.int .i64 0,.int .i64 0,.int .i64 0,.int .i64 0,.ZM]:=⟨_,zeroValue347,rfl,rfl⟩
def ze350:Qi prog 350 [.ZM]:=⟨_,zeroValue350,rfl,rfl⟩
def ze354:Qi prog 354 [.int .i64 0,.int .i64 0,.int .i64 0,.int .i64 0]:=⟨_,zeroValue354,rfl,rfl⟩
def ze38:Qi prog 38 [.ZM]:=⟨_,zeroValue38,rfl,rfl⟩
def ze381:Qi prog 381 [.str []]:=⟨_,zeroValue381,rfl,rfl⟩
def fT:Qi prog 398 [.int .i64 0,.int .i64 0]:=⟨_,zeroValue398,rfl,rfl⟩
def ze4:Qi prog 4 [.bool false]:=⟨_,zeroValue4,rfl,rfl⟩
def ze402:Qi prog 402 [.bool false,.bool false,.bool false,.bool false]:=⟨_,zeroValue402,rfl,rfl⟩
def ze41:Qi prog 41 [.int .i64 0,.int .i64 0,.ZM]:=⟨_,zeroValue41,rfl,rfl⟩
def fH:Qi prog 43 [.ZM,.ZM,.ZM,.ZM,.int .i64 0,.int .i64 0,.ZM]:=⟨_,zeroValue43,rfl,rfl⟩
def ze44:Qi prog 44 [.int .i64 0]:=⟨_,zeroValue44,rfl,rfl⟩
def ze447:Qi prog 447 [.raw .nilFunc,.int .i64 0,.int .i64 0]:=⟨_,zeroValue447,rfl,rfl⟩
def ze50:Qi prog 50 [.str [],.int .i64 0]:=⟨_,zeroValue50,rfl,rfl⟩
def ze53:Qi prog 53 [.int .i64 0,.int .i64 0]:=⟨_,zeroValue53,rfl,rfl⟩
def ze55:Qi prog 55 [.int .i64 0,.int .i64 0,.int .i64 0,.int .i64 0]:=⟨_,zeroValue55,rfl,rfl⟩
def ze57:Qi prog 57 [.int .i64 0,.str [],.int .i64 0,.str [],.ZM,.int .i64 0,.bool false,.int .i64 0,.bool false,.int .i64 0,.int .i64 0,.int .i64 0,.int .i64 0]:=⟨_,zeroValue57,rfl,rfl⟩
def ze68:Qi prog 68 [.ZM,.int .i64 0]:=⟨_,zeroValue68,rfl,rfl⟩
def sB:Qi prog 75 [.ZM]:=⟨_,zeroValue75,rfl,rfl⟩
def ze96:Qi prog 96 [.str [],.int .i64 0]:=⟨_,zeroValue96,rfl,rfl⟩
