import Derived.Test.YtdhdgbnafkeifaaGreatDoorFj
import Derived.Test.YtdhdgbnafkeifaaGreatDoorProg
set_option linter.all false
namespace Go.Proofs.YtdhdgbnafkeifaaGreatDoor
open Go.Ab Tryz
def follows:prog.follows .mixedOrders=true:=V
def BE:lV prog 123 124 1 8:=⟨underlying123,⟨t124,_,V,rfl,rfl,rfl,rfl⟩,C,⟨sizeOf124,_,zeroValue124,rfl⟩⟩
def BY:lV prog 129 180 1 8:=⟨underlying129,⟨t180,_,V,rfl,rfl,rfl,rfl⟩,C,⟨sizeOf180,_,zeroValue180,rfl⟩⟩
def L5:lV prog 130 114 1 8:=⟨underlying130,⟨t114,_,V,rfl,rfl,rfl,rfl⟩,C,⟨sizeOf114,_,zeroValue114,rfl⟩⟩
def WX:lV prog 133 194 6 64:=⟨underlying133,⟨t194,_,V,rfl,rfl,rfl,rfl⟩,C,⟨sizeOf194,_,zeroValue194,rfl⟩⟩
def ZF:lV prog 189 42 1 8:=⟨underlying189,⟨t42,_,V,rfl,rfl,rfl,rfl⟩,C,⟨sizeOf42,_,zeroValue42,rfl⟩⟩
def SQ:lV prog 192 24 2 16:=⟨underlying192,⟨t24,_,V,rfl,rfl,rfl,rfl⟩,C,⟨sizeOf24,_,zeroValue24,rfl⟩⟩
def ai195:lV prog 195 5 1 1:=⟨underlying195,⟨t5,_,V,rfl,rfl,rfl,rfl⟩,C,⟨sizeOf5,_,zeroValue5,rfl⟩⟩
def Jv:lV prog 22 113 2 24:=⟨underlying22,⟨t113,_,V,rfl,rfl,rfl,rfl⟩,C,⟨sizeOf113,_,zeroValue113,rfl⟩⟩
def s_:lV prog 27 78 3 40:=⟨underlying27,⟨t78,_,V,rfl,rfl,rfl,rfl⟩,C,⟨sizeOf78,_,zeroValue78,rfl⟩⟩
def KZ:lV prog 270 335 2 32:=⟨underlying270,⟨t335,_,V,rfl,rfl,rfl,rfl⟩,C,⟨sizeOf335,_,zeroValue335,rfl⟩⟩
def L6:lV prog 275 272 1 24:=⟨underlying275,⟨t272,_,V,rfl,rfl,rfl,rfl⟩,C,⟨sizeOf272,_,zeroValue272,rfl⟩⟩
def MI:lV prog 302 369 4 32:=⟨underlying302,⟨t369,_,V,rfl,rfl,rfl,rfl⟩,C,⟨sizeOf369,_,zeroValue369,rfl⟩⟩
def WO:lV prog 35 145 2 32:=⟨underlying35,⟨t145,_,V,rfl,rfl,rfl,rfl⟩,C,⟨sizeOf145,_,zeroValue145,rfl⟩⟩
def MW:lV prog 365 49 1 24:=⟨underlying365,⟨t49,_,V,rfl,rfl,rfl,rfl⟩,C,⟨sizeOf49,_,zeroValue49,rfl⟩⟩
def MY:lV prog 372 376 2 16:=⟨underlying372,⟨t376,_,V,rfl,rfl,rfl,rfl⟩,C,⟨sizeOf376,_,zeroValue376,rfl⟩⟩
def SR:lV prog 388 440 3 24:=⟨underlying388,⟨t440,_,V,rfl,rfl,rfl,rfl⟩,C,⟨sizeOf440,_,zeroValue440,rfl⟩⟩
def M3:lV prog 394 443 2 16:=⟨underlying394,⟨t443,_,V,rfl,rfl,rfl,rfl⟩,C,⟨sizeOf443,_,zeroValue443,rfl⟩⟩
def XR:lV prog 448 146 1 8:=⟨underlying448,⟨t146,_,V,rfl,rfl,rfl,rfl⟩,C,⟨sizeOf146,_,zeroValue146,rfl⟩⟩
def S_:lV prog 483 487 3 24:=⟨underlying483,⟨t487,_,V,rfl,rfl,rfl,rfl⟩,C,⟨sizeOf487,_,zeroValue487,rfl⟩⟩
def ZM:lV prog 49 3 1 8:=⟨underlying49,⟨t3,_,V,rfl,rfl,rfl,rfl⟩,C,⟨sizeOf3,_,zeroValue3,rfl⟩⟩
def LS:lV prog 54 135 3 48:=⟨underlying54,⟨t135,_,V,rfl,rfl,rfl,rfl⟩,C,⟨sizeOf135,_,zeroValue135,rfl⟩⟩
def LU:lV prog 55 80 3 32:=⟨underlying55,⟨t80,_,V,rfl,rfl,rfl,rfl⟩,C,⟨sizeOf80,_,zeroValue80,rfl⟩⟩
def LV:lV prog 56 41 13 136:=⟨underlying56,⟨t41,_,V,rfl,rfl,rfl,rfl⟩,C,⟨sizeOf41,_,zeroValue41,rfl⟩⟩
def LW:lV prog 57 192 1 24:=⟨underlying57,⟨t192,_,V,rfl,rfl,rfl,rfl⟩,C,⟨sizeOf192,_,zeroValue192,rfl⟩⟩
def XP:lV prog 83 9 1 16:=⟨underlying83,⟨t9,_,V,rfl,rfl,rfl,rfl⟩,C,⟨sizeOf9,_,zeroValue9,rfl⟩⟩
def M8:nL prog 113 [.string ⟨#[]⟩,.int .i64 (0)] (fun i=>([(0,1),(1,1)]:List (Nat×Nat)).toArray[i]?):=⟨by intro parts;kernel_rfl⟩
def bu118:nL prog 118 [.int .i64 (0),.string ⟨#[]⟩,.int .i64 (0),.string ⟨#[]⟩,.slice none 0 0,.int .i64 (0),.bool false,.int .i64 (0),.bool false,.int .i64 (0),.int .i64 (0),.int .i64 (0),.int .i64 (0),.slice none 0 0] (fun i=>([(0,13),(13,1)]:List (Nat×Nat)).toArray[i]?):=⟨by intro parts;kernel_rfl⟩
def Ta:nL prog 126 [.slice none 0 0,.int .i64 (0)] (fun i=>([(0,1),(1,1)]:List (Nat×Nat)).toArray[i]?):=⟨by intro parts;kernel_rfl⟩
def P6:nL prog 128 [.slice none 0 0,.string ⟨#[]⟩,.int .i64 (0),.int .i64 (0),.int .i64 (0),.slice none 0 0,.int .i64 (0)] (fun i=>([(0,5),(5,2)]:List (Nat×Nat)).toArray[i]?):=⟨by intro parts;kernel_rfl⟩
def bu132:nL prog 132 [.slice none 0 0,.string ⟨#[]⟩,.int .i64 (0),.int .i64 (0),.int .i64 (0),.slice none 0 0,.int .i64 (0),.slice none 0 0,.slice none 0 0,.slice none 0 0,.slice none 0 0,.int .i64 (0),.int .i64 (0),.slice none 0 0,.bool false,.int .i64 (0),.int .i64 (0)] (fun i=>([(0,7),(7,1),(8,1),(9,1),(10,1),(11,3),(14,1),(15,1),(16,1)]:List (Nat×Nat)).toArray[i]?):=⟨by intro parts;kernel_rfl⟩
def K1:nL prog 135 [.string ⟨#[]⟩,.int .i64 (0),.slice none 0 0] (fun i=>([(0,2),(2,1)]:List (Nat×Nat)).toArray[i]?):=⟨by intro parts;kernel_rfl⟩
def bu137:nL prog 137 [.string ⟨#[]⟩,.int .i64 (0),.slice none 0 0,.int .i64 (0)] (fun i=>([(0,3),(3,1)]:List (Nat×Nat)).toArray[i]?):=⟨by intro parts;kernel_rfl⟩
def Tb:nL prog 145 [.int .i64 (0),.slice none 0 0] (fun i=>([(0,1),(1,1)]:List (Nat×Nat)).toArray[i]?):=⟨by intro parts;kernel_rfl⟩
def bu147:nL prog 147 [.pointer none,.pointer none,.pointer none,.pointer none,.pointer none] (fun i=>some (i * 1,1)):=⟨by intro parts;kernel_rfl⟩
def bu182:nL prog 182 [.string ⟨#[]⟩,.int .i64 (0),.int .i64 (0),.int .i64 (0)] (fun i=>([(0,3),(3,1)]:List (Nat×Nat)).toArray[i]?):=⟨by intro parts;kernel_rfl⟩
def M9:nL prog 194 [.int .i64 (0),.int .i64 (0),.int .i64 (0),.int .i64 (0),.int .i64 (0),.slice none 0 0] (fun i=>([(0,1),(1,1),(2,1),(3,1),(4,1),(5,1)]:List (Nat×Nat)).toArray[i]?):=⟨by intro parts;kernel_rfl⟩
def X0:nL prog 209 [.int .i64 (0),.string ⟨#[]⟩,.nilFunc] (fun i=>([(0,1),(1,1),(2,1)]:List (Nat×Nat)).toArray[i]?):=⟨by intro parts;kernel_rfl⟩
def K2:nL prog 214 [.slice none 0 0,.slice none 0 0] (fun i=>([(0,1),(1,1)]:List (Nat×Nat)).toArray[i]?):=⟨by intro parts;kernel_rfl⟩
def M5:nL prog 223 [.string ⟨#[]⟩,.string ⟨#[]⟩,.string ⟨#[]⟩,.string ⟨#[]⟩,.int .i64 (0)] (fun i=>([(0,1),(1,1),(2,1),(3,1),(4,1)]:List (Nat×Nat)).toArray[i]?):=⟨by intro parts;kernel_rfl⟩
def M6:nL prog 24 [.int .i64 (0),.int .i64 (0)] (fun i=>([(0,1),(1,1)]:List (Nat×Nat)).toArray[i]?):=⟨by intro parts;kernel_rfl⟩
def bu26:nL prog 26 [.slice none 0 0,.string ⟨#[]⟩,.int .i64 (0),.int .i64 (0),.int .i64 (0)] (fun i=>([(0,1),(1,1),(2,1),(3,2)]:List (Nat×Nat)).toArray[i]?):=⟨by intro parts;kernel_rfl⟩
def K3:nL prog 272 [.slice none 0 0] (fun i=>([(0,1)]:List (Nat×Nat)).toArray[i]?):=⟨by intro parts;kernel_rfl⟩
def vp:nL prog 29 [.string ⟨#[]⟩,.int .i64 (0)] (fun i=>([(0,1),(1,1)]:List (Nat×Nat)).toArray[i]?):=⟨by intro parts;kernel_rfl⟩
def Nj:nL prog 304 [.slice none 0 0] (fun i=>([(0,1)]:List (Nat×Nat)).toArray[i]?):=⟨by intro parts;kernel_rfl⟩
def K4:nL prog 335 [.bool false,.slice none 0 0] (fun i=>([(0,1),(1,1)]:List (Nat×Nat)).toArray[i]?):=⟨by intro parts;kernel_rfl⟩
def P5:nL prog 354 [.slice none 0 0,.int .i64 (0)] (fun i=>([(0,2)]:List (Nat×Nat)).toArray[i]?):=⟨by intro parts;kernel_rfl⟩
def B_:nL prog 369 [.int .i64 (0),.int .i64 (0),.int .i64 (0),.int .i64 (0)] (fun i=>([(0,1),(1,1),(2,2)]:List (Nat×Nat)).toArray[i]?):=⟨by intro parts;kernel_rfl⟩
def Ws:nL prog 37 [.int .i64 (0),.int .i64 (0)] (fun i=>([(0,1),(1,1)]:List (Nat×Nat)).toArray[i]?):=⟨by intro parts;kernel_rfl⟩
def Nl:nL prog 376 [.int .i64 (0),.int .i64 (0)] (fun i=>([(0,1),(1,1)]:List (Nat×Nat)).toArray[i]?):=⟨by intro parts;kernel_rfl⟩
def bu380:nL prog 380 [.string ⟨#[]⟩] (fun i=>([(0,1)]:List (Nat×Nat)).toArray[i]?):=⟨by intro parts;kernel_rfl⟩
def PO:nL prog 39 [.int .i64 (0),.int .i64 (0),.int .i64 (0),.int .i64 (0)] (fun i=>([(0,2),(2,2)]:List (Nat×Nat)).toArray[i]?):=⟨by intro parts;kernel_rfl⟩
def bu41:nL prog 41 [.int .i64 (0),.string ⟨#[]⟩,.int .i64 (0),.string ⟨#[]⟩,.slice none 0 0,.int .i64 (0),.bool false,.int .i64 (0),.bool false,.int .i64 (0),.int .i64 (0),.int .i64 (0),.int .i64 (0)] (fun i=>([(0,1),(1,2),(3,1),(4,1),(5,1),(6,1),(7,1),(8,1),(9,4)]:List (Nat×Nat)).toArray[i]?):=⟨by intro parts;kernel_rfl⟩
def Nn:nL prog 440 [.int .i64 (0),.int .i64 (0),.int .i64 (0)] (fun i=>([(0,1),(1,1),(2,1)]:List (Nat×Nat)).toArray[i]?):=⟨by intro parts;kernel_rfl⟩
def C_:nL prog 443 [.int .i64 (0),.int .i64 (0)] (fun i=>([(0,1),(1,1)]:List (Nat×Nat)).toArray[i]?):=⟨by intro parts;kernel_rfl⟩
def Tc:nL prog 446 [.bool false,.bool false,.bool false,.bool false] (fun i=>([(0,1),(1,1),(2,1),(3,1)]:List (Nat×Nat)).toArray[i]?):=⟨by intro parts;kernel_rfl⟩
def bu476:nL prog 476 [.string ⟨#[]⟩,.string ⟨#[]⟩,.string ⟨#[]⟩,.string ⟨#[]⟩,.string ⟨#[]⟩,.string ⟨#[]⟩] (fun i=>some (i * 1,1)):=⟨by intro parts;kernel_rfl⟩
def Np:nL prog 487 [.nilFunc,.int .i64 (0),.int .i64 (0)] (fun i=>([(0,1),(1,1),(2,1)]:List (Nat×Nat)).toArray[i]?):=⟨by intro parts;kernel_rfl⟩
def JB:nL prog 59 [.int .i64 (0),.int .i64 (0),.slice none 0 0] (fun i=>([(0,1),(1,1),(2,1)]:List (Nat×Nat)).toArray[i]?):=⟨by intro parts;kernel_rfl⟩
def P7:nL prog 61 [.slice none 0 0,.slice none 0 0,.slice none 0 0,.slice none 0 0,.int .i64 (0),.int .i64 (0),.slice none 0 0] (fun i=>([(0,1),(1,1),(2,1),(3,1),(4,3)]:List (Nat×Nat)).toArray[i]?):=⟨by intro parts;kernel_rfl⟩
def K5:nL prog 70 [.int .i64 (0),.int .i64 (0),.int .i64 (0),.int .i64 (0),.int .i64 (0),.int .i64 (0)] (fun i=>([(0,1),(1,1),(2,1),(3,1),(4,1),(5,1)]:List (Nat×Nat)).toArray[i]?):=⟨by intro parts;kernel_rfl⟩
def UU:nL prog 78 [.int .i64 (0),.string ⟨#[]⟩,.string ⟨#[]⟩] (fun i=>([(0,1),(1,1),(2,1)]:List (Nat×Nat)).toArray[i]?):=⟨by intro parts;kernel_rfl⟩
def bu80:nL prog 80 [.string ⟨#[]⟩,.int .i64 (0),.int .i64 (0)] (fun i=>([(0,1),(1,1),(2,1)]:List (Nat×Nat)).toArray[i]?):=⟨by intro parts;kernel_rfl⟩
def eq70:Hf prog 70 6:=Hf.z6 (T:=3) V underlying70 V V underlying3 isAgg3
def VM:dz prog 113 0 0:=⟨_,_,_,underlying113,rfl,rfl,C,sizeOf9⟩
def Q3:dz prog 113 1 1:=⟨_,_,_,underlying113,rfl,rfl,C,sizeOf3⟩
def ZX:dz prog 118 0 0:=⟨_,_,_,underlying118,rfl,rfl,C,sizeOf41⟩
def Y4:dz prog 118 1 13:=⟨_,_,_,underlying118,rfl,rfl,C,sizeOf49⟩
def WM:dz prog 126 0 0:=⟨_,_,_,underlying126,rfl,rfl,C,sizeOf83⟩
def Q7:dz prog 126 1 1:=⟨_,_,_,underlying126,rfl,rfl,C,sizeOf3⟩
def WN:dz prog 128 0 0:=⟨_,_,_,underlying128,rfl,rfl,C,sizeOf26⟩
def VO:dz prog 128 1 5:=⟨_,_,_,underlying128,rfl,rfl,C,sizeOf126⟩
def YP:dz prog 132 0 0:=⟨_,_,_,underlying132,rfl,rfl,C,sizeOf128⟩
def Q8:dz prog 132 1 7:=⟨_,_,_,underlying132,rfl,rfl,C,sizeOf123⟩
def TQ:dz prog 132 2 8:=⟨_,_,_,underlying132,rfl,rfl,C,sizeOf129⟩
def TU:dz prog 132 3 9:=⟨_,_,_,underlying132,rfl,rfl,C,sizeOf130⟩
def TZ:dz prog 132 4 10:=⟨_,_,_,underlying132,rfl,rfl,C,sizeOf130⟩
def OM:dz prog 132 5 11:=⟨_,_,_,underlying132,rfl,rfl,C,sizeOf59⟩
def Jq:dz prog 132 6 14:=⟨_,_,_,underlying132,rfl,rfl,C,sizeOf4⟩
def Y5:dz prog 132 7 15:=⟨_,_,_,underlying132,rfl,rfl,C,sizeOf3⟩
def Q9:dz prog 132 8 16:=⟨_,_,_,underlying132,rfl,rfl,C,sizeOf3⟩
def VN:dz prog 135 0 0:=⟨_,_,_,underlying135,rfl,rfl,C,sizeOf29⟩
def Qh:dz prog 135 1 2:=⟨_,_,_,underlying135,rfl,rfl,C,sizeOf133⟩
def VP:dz prog 137 0 0:=⟨_,_,_,underlying137,rfl,rfl,C,sizeOf135⟩
def ON:dz prog 137 1 3:=⟨_,_,_,underlying137,rfl,rfl,C,sizeOf3⟩
def VQ:dz prog 145 0 0:=⟨_,_,_,underlying145,rfl,rfl,C,sizeOf3⟩
def Yg:dz prog 145 1 1:=⟨_,_,_,underlying145,rfl,rfl,C,sizeOf49⟩
def Xs:dz prog 182 0 0:=⟨_,_,_,underlying182,rfl,rfl,C,sizeOf80⟩
def OU:dz prog 182 1 3:=⟨_,_,_,underlying182,rfl,rfl,C,sizeOf3⟩
def V_:dz prog 194 0 0:=⟨_,_,_,underlying194,rfl,rfl,C,sizeOf3⟩
def RD:dz prog 194 1 1:=⟨_,_,_,underlying194,rfl,rfl,C,sizeOf3⟩
def RH:dz prog 194 2 2:=⟨_,_,_,underlying194,rfl,rfl,C,sizeOf3⟩
def WW:dz prog 194 3 3:=⟨_,_,_,underlying194,rfl,rfl,C,sizeOf3⟩
def RM:dz prog 194 4 4:=⟨_,_,_,underlying194,rfl,rfl,C,sizeOf3⟩
def T3:dz prog 194 5 5:=⟨_,_,_,underlying194,rfl,rfl,C,sizeOf133⟩
def OV:dz prog 209 0 0:=⟨_,_,_,underlying209,rfl,rfl,C,sizeOf3⟩
def Jr:dz prog 209 1 1:=⟨_,_,_,underlying209,rfl,rfl,C,sizeOf9⟩
def JC:dz prog 209 2 2:=⟨_,_,_,underlying209,rfl,rfl,C,sizeOf207⟩
def Sr:dz prog 214 0 0:=⟨_,_,_,underlying214,rfl,rfl,C,sizeOf49⟩
def T4:dz prog 214 1 1:=⟨_,_,_,underlying214,rfl,rfl,C,sizeOf83⟩
def Ql:dz prog 223 0 0:=⟨_,_,_,underlying223,rfl,rfl,C,sizeOf9⟩
def Wl:dz prog 223 1 1:=⟨_,_,_,underlying223,rfl,rfl,C,sizeOf9⟩
def T6:dz prog 223 2 2:=⟨_,_,_,underlying223,rfl,rfl,C,sizeOf9⟩
def JN:dz prog 223 3 3:=⟨_,_,_,underlying223,rfl,rfl,C,sizeOf9⟩
def OW:dz prog 223 4 4:=⟨_,_,_,underlying223,rfl,rfl,C,sizeOf3⟩
def Ze:dz prog 24 0 0:=⟨_,_,_,underlying24,rfl,rfl,C,sizeOf3⟩
def YU:dz prog 24 1 1:=⟨_,_,_,underlying24,rfl,rfl,C,sizeOf3⟩
def Xr:dz prog 26 0 0:=⟨_,_,_,underlying26,rfl,rfl,C,sizeOf22⟩
def Nk:dz prog 26 1 1:=⟨_,_,_,underlying26,rfl,rfl,C,sizeOf9⟩
def Q1:dz prog 26 2 2:=⟨_,_,_,underlying26,rfl,rfl,C,sizeOf3⟩
def YH:dz prog 26 3 3:=⟨_,_,_,underlying26,rfl,rfl,C,sizeOf24⟩
def OX:dz prog 272 0 0:=⟨_,_,_,underlying272,rfl,rfl,C,sizeOf270⟩
def PR:dz prog 29 0 0:=⟨_,_,_,underlying29,rfl,rfl,C,sizeOf9⟩
def PU:dz prog 29 1 1:=⟨_,_,_,underlying29,rfl,rfl,C,sizeOf3⟩
def XL:dz prog 304 0 0:=⟨_,_,_,underlying304,rfl,rfl,C,sizeOf302⟩
def O1:dz prog 335 0 0:=⟨_,_,_,underlying335,rfl,rfl,C,sizeOf4⟩
def SB:dz prog 335 1 1:=⟨_,_,_,underlying335,rfl,rfl,C,sizeOf49⟩
def Tn:dz prog 354 0 0:=⟨_,_,_,underlying354,rfl,rfl,C,sizeOf126⟩
def XM:dz prog 369 0 0:=⟨_,_,_,underlying369,rfl,rfl,C,sizeOf3⟩
def SC:dz prog 369 1 1:=⟨_,_,_,underlying369,rfl,rfl,C,sizeOf3⟩
def Yw:dz prog 369 2 2:=⟨_,_,_,underlying369,rfl,rfl,C,sizeOf24⟩
def SF:dz prog 376 0 0:=⟨_,_,_,underlying376,rfl,rfl,C,sizeOf3⟩
def SG:dz prog 376 1 1:=⟨_,_,_,underlying376,rfl,rfl,C,sizeOf3⟩
def Wv:dz prog 37 0 0:=⟨_,_,_,underlying37,rfl,rfl,C,sizeOf3⟩
def JU:dz prog 37 1 1:=⟨_,_,_,underlying37,rfl,rfl,C,sizeOf3⟩
def JV:dz prog 380 0 0:=⟨_,_,_,underlying380,rfl,rfl,C,sizeOf9⟩
def PV:dz prog 39 0 0:=⟨_,_,_,underlying39,rfl,rfl,C,sizeOf37⟩
def Lt:dz prog 39 1 2:=⟨_,_,_,underlying39,rfl,rfl,C,sizeOf37⟩
def Lu:dz prog 41 0 0:=⟨_,_,_,underlying41,rfl,rfl,C,sizeOf3⟩
def Yt:dz prog 41 1 1:=⟨_,_,_,underlying41,rfl,rfl,C,sizeOf29⟩
def SH:dz prog 41 2 3:=⟨_,_,_,underlying41,rfl,rfl,C,sizeOf9⟩
def Zf:dz prog 41 3 4:=⟨_,_,_,underlying41,rfl,rfl,C,sizeOf35⟩
def Zl:dz prog 41 4 5:=⟨_,_,_,underlying41,rfl,rfl,C,sizeOf3⟩
def wT:dz prog 41 5 6:=⟨_,_,_,underlying41,rfl,rfl,C,sizeOf4⟩
def PW:dz prog 41 6 7:=⟨_,_,_,underlying41,rfl,rfl,C,sizeOf3⟩
def SI:dz prog 41 7 8:=⟨_,_,_,underlying41,rfl,rfl,C,sizeOf4⟩
def PX:dz prog 41 8 9:=⟨_,_,_,underlying41,rfl,rfl,C,sizeOf39⟩
def JW:dz prog 443 0 0:=⟨_,_,_,underlying443,rfl,rfl,C,sizeOf3⟩
def JY:dz prog 443 1 1:=⟨_,_,_,underlying443,rfl,rfl,C,sizeOf3⟩
def JZ:dz prog 446 0 0:=⟨_,_,_,underlying446,rfl,rfl,C,sizeOf4⟩
def J2:dz prog 446 1 1:=⟨_,_,_,underlying446,rfl,rfl,C,sizeOf4⟩
def J3:dz prog 446 2 2:=⟨_,_,_,underlying446,rfl,rfl,C,sizeOf4⟩
def J4:dz prog 446 3 3:=⟨_,_,_,underlying446,rfl,rfl,C,sizeOf4⟩
def O4:dz prog 487 0 0:=⟨_,_,_,underlying487,rfl,rfl,C,sizeOf485⟩
def O5:dz prog 487 1 1:=⟨_,_,_,underlying487,rfl,rfl,C,sizeOf3⟩
def Pb:dz prog 487 2 2:=⟨_,_,_,underlying487,rfl,rfl,C,sizeOf3⟩
def Q5:dz prog 59 0 0:=⟨_,_,_,underlying59,rfl,rfl,C,sizeOf3⟩
def Q6:dz prog 59 1 1:=⟨_,_,_,underlying59,rfl,rfl,C,sizeOf3⟩
def WY:dz prog 59 2 2:=⟨_,_,_,underlying59,rfl,rfl,C,sizeOf57⟩
def YS:dz prog 61 0 0:=⟨_,_,_,underlying61,rfl,rfl,C,sizeOf54⟩
def XQ:dz prog 61 1 1:=⟨_,_,_,underlying61,rfl,rfl,C,sizeOf55⟩
def ZZ:dz prog 61 2 2:=⟨_,_,_,underlying61,rfl,rfl,C,sizeOf56⟩
def Tk:dz prog 61 3 3:=⟨_,_,_,underlying61,rfl,rfl,C,sizeOf49⟩
def PY:dz prog 61 4 4:=⟨_,_,_,underlying61,rfl,rfl,C,sizeOf59⟩
def w_:dz prog 70 1 1:=⟨_,_,_,underlying70,rfl,rfl,C,sizeOf3⟩
def x_:dz prog 70 2 2:=⟨_,_,_,underlying70,rfl,rfl,C,sizeOf3⟩
def y_:dz prog 70 3 3:=⟨_,_,_,underlying70,rfl,rfl,C,sizeOf3⟩
def z_:dz prog 70 4 4:=⟨_,_,_,underlying70,rfl,rfl,C,sizeOf3⟩
def AI:dz prog 70 5 5:=⟨_,_,_,underlying70,rfl,rfl,C,sizeOf3⟩
def U5:dz prog 78 0 0:=⟨_,_,_,underlying78,rfl,rfl,C,sizeOf3⟩
def AN:dz prog 78 1 1:=⟨_,_,_,underlying78,rfl,rfl,C,sizeOf9⟩
def Tl:dz prog 78 2 2:=⟨_,_,_,underlying78,rfl,rfl,C,sizeOf9⟩
def PZ:dz prog 80 0 0:=⟨_,_,_,underlying80,rfl,rfl,C,sizeOf9⟩
def P0:dz prog 80 1 1:=⟨_,_,_,underlying80,rfl,rfl,C,sizeOf3⟩
def WZ:dz prog 80 2 2:=⟨_,_,_,underlying80,rfl,rfl,C,sizeOf3⟩
def Qm:o7 prog 123 124 1:=⟨underlying123,sizeOf124⟩
def Qn:o7 prog 129 180 1:=⟨underlying129,sizeOf180⟩
def Zc:o7 prog 130 114 1:=⟨underlying130,sizeOf114⟩
def Z9:o7 prog 133 194 6:=⟨underlying133,sizeOf194⟩
def UG:o7 prog 189 42 1:=⟨underlying189,sizeOf42⟩
def Ww:o7 prog 192 24 2:=⟨underlying192,sizeOf24⟩
def E_:o7 prog 195 5 1:=⟨underlying195,sizeOf5⟩
def Ys:o7 prog 22 113 2:=⟨underlying22,sizeOf113⟩
def YI:o7 prog 27 78 3:=⟨underlying27,sizeOf78⟩
def Za:o7 prog 270 335 2:=⟨underlying270,sizeOf335⟩
def Yh:o7 prog 275 272 1:=⟨underlying275,sizeOf272⟩
def YN:o7 prog 302 369 4:=⟨underlying302,sizeOf369⟩
def Y8:o7 prog 35 145 2:=⟨underlying35,sizeOf145⟩
def Tp:o7 prog 365 49 1:=⟨underlying365,sizeOf49⟩
def UI:o7 prog 372 376 2:=⟨underlying372,sizeOf376⟩
def si388:o7 prog 388 440 3:=⟨underlying388,sizeOf440⟩
def Qo:o7 prog 394 443 2:=⟨underlying394,sizeOf443⟩
def Qp:o7 prog 448 146 1:=⟨underlying448,sizeOf146⟩
def F_:o7 prog 483 487 3:=⟨underlying483,sizeOf487⟩
def Z4:o7 prog 49 3 1:=⟨underlying49,sizeOf3⟩
def VB:o7 prog 54 135 3:=⟨underlying54,sizeOf135⟩
def Wn:o7 prog 55 80 3:=⟨underlying55,sizeOf80⟩
def ZH:o7 prog 56 41 13:=⟨underlying56,sizeOf41⟩
def VC:o7 prog 57 192 1:=⟨underlying57,sizeOf192⟩
def Z2:o7 prog 83 9 1:=⟨underlying83,sizeOf9⟩
def fR:F4 prog 9:=⟨underlying9⟩
def Yd:eT prog 113 true 2:=⟨isAgg113,sizeOf113⟩
def G_:eT prog 114 false 1:=⟨isAgg114,sizeOf114⟩
def H_:eT prog 118 true 14:=⟨isAgg118,sizeOf118⟩
def Lp:eT prog 119 false 1:=⟨isAgg119,sizeOf119⟩
def Lr:eT prog 123 false 1:=⟨isAgg123,sizeOf123⟩
def Qq:eT prog 124 false 1:=⟨isAgg124,sizeOf124⟩
def SL:eT prog 126 true 2:=⟨isAgg126,sizeOf126⟩
def YD:eT prog 128 true 7:=⟨isAgg128,sizeOf128⟩
def Th:eT prog 129 false 1:=⟨isAgg129,sizeOf129⟩
def YC:eT prog 130 false 1:=⟨isAgg130,sizeOf130⟩
def Xl:eT prog 133 false 1:=⟨isAgg133,sizeOf133⟩
def Xm:eT prog 145 true 2:=⟨isAgg145,sizeOf145⟩
def ti146:eT prog 146 false 1:=⟨isAgg146,sizeOf146⟩
def ti147:eT prog 147 true 5:=⟨isAgg147,sizeOf147⟩
def ti180:eT prog 180 false 1:=⟨isAgg180,sizeOf180⟩
def QO:eT prog 192 false 1:=⟨isAgg192,sizeOf192⟩
def ZY:eT prog 194 true 6:=⟨isAgg194,sizeOf194⟩
def ti207:eT prog 207 false 1:=⟨isAgg207,sizeOf207⟩
def Yv:eT prog 209 true 3:=⟨isAgg209,sizeOf209⟩
def Ti:eT prog 214 true 2:=⟨isAgg214,sizeOf214⟩
def SN:eT prog 22 false 1:=⟨isAgg22,sizeOf22⟩
def XK:eT prog 223 true 5:=⟨isAgg223,sizeOf223⟩
def MN:eT prog 24 true 2:=⟨isAgg24,sizeOf24⟩
def XB:eT prog 26 true 5:=⟨isAgg26,sizeOf26⟩
def Lz:eT prog 270 false 1:=⟨isAgg270,sizeOf270⟩
def Wx:eT prog 272 true 1:=⟨isAgg272,sizeOf272⟩
def MO:eT prog 29 true 2:=⟨isAgg29,sizeOf29⟩
def Z8:eT prog 3 false 1:=⟨isAgg3,sizeOf3⟩
def TC:eT prog 302 false 1:=⟨isAgg302,sizeOf302⟩
def UO:eT prog 304 true 1:=⟨isAgg304,sizeOf304⟩
def LA:eT prog 335 true 2:=⟨isAgg335,sizeOf335⟩
def XO:eT prog 35 false 1:=⟨isAgg35,sizeOf35⟩
def Z3:eT prog 354 true 2:=⟨isAgg354,sizeOf354⟩
def WL:eT prog 365 false 1:=⟨isAgg365,sizeOf365⟩
def LB:eT prog 369 true 4:=⟨isAgg369,sizeOf369⟩
def TT:eT prog 37 true 2:=⟨isAgg37,sizeOf37⟩
def IM:eT prog 376 true 2:=⟨isAgg376,sizeOf376⟩
def ti380:eT prog 380 true 1:=⟨isAgg380,sizeOf380⟩
def VK:eT prog 39 true 4:=⟨isAgg39,sizeOf39⟩
def SP:eT prog 4 false 1:=⟨isAgg4,sizeOf4⟩
def T7:eT prog 41 true 13:=⟨isAgg41,sizeOf41⟩
def J6:eT prog 42 false 1:=⟨isAgg42,sizeOf42⟩
def QS:eT prog 443 true 2:=⟨isAgg443,sizeOf443⟩
def TD:eT prog 446 true 4:=⟨isAgg446,sizeOf446⟩
def IN:eT prog 476 true 6:=⟨isAgg476,sizeOf476⟩
def IS:eT prog 485 false 1:=⟨isAgg485,sizeOf485⟩
def a_:eT prog 487 true 3:=⟨isAgg487,sizeOf487⟩
def Zd:eT prog 49 false 1:=⟨isAgg49,sizeOf49⟩
def ti5:eT prog 5 false 1:=⟨isAgg5,sizeOf5⟩
def VL:eT prog 54 false 1:=⟨isAgg54,sizeOf54⟩
def T8:eT prog 55 false 1:=⟨isAgg55,sizeOf55⟩
def ZA:eT prog 56 false 1:=⟨isAgg56,sizeOf56⟩
def QU:eT prog 57 false 1:=⟨isAgg57,sizeOf57⟩
def V7:eT prog 59 true 3:=⟨isAgg59,sizeOf59⟩
def Z_:eT prog 61 true 7:=⟨isAgg61,sizeOf61⟩
def LC:eT prog 70 true 6:=⟨isAgg70,sizeOf70⟩
def b_:eT prog 78 true 3:=⟨isAgg78,sizeOf78⟩
def SO:eT prog 83 false 1:=⟨isAgg83,sizeOf83⟩
def Y9:eT prog 9 false 1:=⟨isAgg9,sizeOf9⟩
def cP:pN prog 113 [.str [],.int .i64 (0)]:=⟨_,zeroValue113,rfl,rfl⟩
def c_:pN prog 124 [.raw (.pointer none)]:=⟨_,zeroValue124,rfl,rfl⟩
def IT:pN prog 126 [.bO,.int .i64 (0)]:=⟨_,zeroValue126,rfl,rfl⟩
def d_:pN prog 128 [.bO,.str [],.int .i64 (0),.int .i64 (0),.int .i64 (0),.bO,.int .i64 (0)]:=⟨_,zeroValue128,rfl,rfl⟩
def e_:pN prog 133 [.bO]:=⟨_,zeroValue133,rfl,rfl⟩
def f_:pN prog 145 [.int .i64 (0),.bO]:=⟨_,zeroValue145,rfl,rfl⟩
def g_:pN prog 147 [.raw (.pointer none),.raw (.pointer none),.raw (.pointer none),.raw (.pointer none),.raw (.pointer none)]:=⟨_,zeroValue147,rfl,rfl⟩
def i_:pN prog 194 [.int .i64 (0),.int .i64 (0),.int .i64 (0),.int .i64 (0),.int .i64 (0),.bO]:=⟨_,zeroValue194,rfl,rfl⟩
def j3:pN prog 209 [.int .i64 (0),.str [],.raw .nilFunc]:=⟨_,zeroValue209,rfl,rfl⟩
def j_:pN prog 214 [.bO,.bO]:=⟨_,zeroValue214,rfl,rfl⟩
def O0:pN prog 223 [.str [],.str [],.str [],.str [],.int .i64 (0)]:=⟨_,zeroValue223,rfl,rfl⟩
def GB:pN prog 24 [.int .i64 (0),.int .i64 (0)]:=⟨_,zeroValue24,rfl,rfl⟩
def ze26:pN prog 26 [.bO,.str [],.int .i64 (0),.int .i64 (0),.int .i64 (0)]:=⟨_,zeroValue26,rfl,rfl⟩
def LQ:pN prog 272 [.bO]:=⟨_,zeroValue272,rfl,rfl⟩
def ze29:pN prog 29 [.str [],.int .i64 (0)]:=⟨_,zeroValue29,rfl,rfl⟩
def k_:pN prog 304 [.bO]:=⟨_,zeroValue304,rfl,rfl⟩
def l_:pN prog 335 [.bool false,.bO]:=⟨_,zeroValue335,rfl,rfl⟩
def I3:pN prog 354 [.bO,.int .i64 (0)]:=⟨_,zeroValue354,rfl,rfl⟩
def m_:pN prog 365 [.bO]:=⟨_,zeroValue365,rfl,rfl⟩
def n_:pN prog 369 [.int .i64 (0),.int .i64 (0),.int .i64 (0),.int .i64 (0)]:=⟨_,zeroValue369,rfl,rfl⟩
def ze37:pN prog 37 [.int .i64 (0),.int .i64 (0)]:=⟨_,zeroValue37,rfl,rfl⟩
def oy:pN prog 380 [.str []]:=⟨_,zeroValue380,rfl,rfl⟩
def o_:pN prog 39 [.int .i64 (0),.int .i64 (0),.int .i64 (0),.int .i64 (0)]:=⟨_,zeroValue39,rfl,rfl⟩
def ze4:pN prog 4 [.bool false]:=⟨_,zeroValue4,rfl,rfl⟩
def ze41:pN prog 41 [.int .i64 (0),.str [],.int .i64 (0),.str [],.bO,.int .i64 (0),.bool false,.int .i64 (0),.bool false,.int .i64 (0),.int .i64 (0),.int .i64 (0),.int .i64 (0)]:=⟨_,zeroValue41,rfl,rfl⟩
def ze42:pN prog 42 [.int .i64 (0)]:=⟨_,zeroValue42,rfl,rfl⟩
def LR:pN prog 443 [.int .i64 (0),.int .i64 (0)]:=⟨_,zeroValue443,rfl,rfl⟩
def p_:pN prog 446 [.bool false,.bool false,.bool false,.bool false]:=⟨_,zeroValue446,rfl,rfl⟩
def qD:pN prog 487 [.raw .nilFunc,.int .i64 (0),.int .i64 (0)]:=⟨_,zeroValue487,rfl,rfl⟩
def ze49:pN prog 49 [.bO]:=⟨_,zeroValue49,rfl,rfl⟩
def q_:pN prog 59 [.int .i64 (0),.int .i64 (0),.bO]:=⟨_,zeroValue59,rfl,rfl⟩
def By:pN prog 61 [.bO,.bO,.bO,.bO,.int .i64 (0),.int .i64 (0),.bO]:=⟨_,zeroValue61,rfl,rfl⟩
def ze70:pN prog 70 [.int .i64 (0),.int .i64 (0),.int .i64 (0),.int .i64 (0),.int .i64 (0),.int .i64 (0)]:=⟨_,zeroValue70,rfl,rfl⟩
def ze78:pN prog 78 [.int .i64 (0),.str [],.str []]:=⟨_,zeroValue78,rfl,rfl⟩
