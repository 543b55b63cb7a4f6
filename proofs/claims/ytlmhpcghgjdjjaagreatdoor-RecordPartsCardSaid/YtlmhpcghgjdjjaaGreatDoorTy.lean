import Derived.Test.YtlmhpcghgjdjjaaGreatDoorFj
import Derived.Test.YtlmhpcghgjdjjaaGreatDoorProg
set_option linter.all false
namespace Go.Proofs.Z9
open Go.Ab Tryz
def follows:prog.follows .mixedOrders=true:=V
def j_:lV prog 137 138 1 8:=⟨underlying137,⟨t138,_,V,rfl,rfl,rfl,rfl⟩,C,⟨sizeOf138,_,zeroValue138,rfl⟩⟩
def l_:lV prog 141 222 1 8:=⟨underlying141,⟨t222,_,V,rfl,rfl,rfl,rfl⟩,C,⟨sizeOf222,_,zeroValue222,rfl⟩⟩
def OM:lV prog 142 128 1 8:=⟨underlying142,⟨t128,_,V,rfl,rfl,rfl,rfl⟩,C,⟨sizeOf128,_,zeroValue128,rfl⟩⟩
def WZ:lV prog 145 231 6 64:=⟨underlying145,⟨t231,_,V,rfl,rfl,rfl,rfl⟩,C,⟨sizeOf231,_,zeroValue231,rfl⟩⟩
def Zc:lV prog 203 42 1 8:=⟨underlying203,⟨t42,_,V,rfl,rfl,rfl,rfl⟩,C,⟨sizeOf42,_,zeroValue42,rfl⟩⟩
def Jv:lV prog 22 127 2 24:=⟨underlying22,⟨t127,_,V,rfl,rfl,rfl,rfl⟩,C,⟨sizeOf127,_,zeroValue127,rfl⟩⟩
def Lm:lV prog 262 332 2 32:=⟨underlying262,⟨t332,_,V,rfl,rfl,rfl,rfl⟩,C,⟨sizeOf332,_,zeroValue332,rfl⟩⟩
def ON:lV prog 266 264 1 24:=⟨underlying266,⟨t264,_,V,rfl,rfl,rfl,rfl⟩,C,⟨sizeOf264,_,zeroValue264,rfl⟩⟩
def s_:lV prog 27 95 3 40:=⟨underlying27,⟨t95,_,V,rfl,rfl,rfl,rfl⟩,C,⟨sizeOf95,_,zeroValue95,rfl⟩⟩
def MI:lV prog 302 363 4 32:=⟨underlying302,⟨t363,_,V,rfl,rfl,rfl,rfl⟩,C,⟨sizeOf363,_,zeroValue363,rfl⟩⟩
def WO:lV prog 35 91 2 32:=⟨underlying35,⟨t91,_,V,rfl,rfl,rfl,rfl⟩,C,⟨sizeOf91,_,zeroValue91,rfl⟩⟩
def OU:lV prog 359 49 1 24:=⟨underlying359,⟨t49,_,V,rfl,rfl,rfl,rfl⟩,C,⟨sizeOf49,_,zeroValue49,rfl⟩⟩
def OV:lV prog 366 370 2 16:=⟨underlying366,⟨t370,_,V,rfl,rfl,rfl,rfl⟩,C,⟨sizeOf370,_,zeroValue370,rfl⟩⟩
def Tn:lV prog 382 431 3 24:=⟨underlying382,⟨t431,_,V,rfl,rfl,rfl,rfl⟩,C,⟨sizeOf431,_,zeroValue431,rfl⟩⟩
def SR:lV prog 388 434 2 16:=⟨underlying388,⟨t434,_,V,rfl,rfl,rfl,rfl⟩,C,⟨sizeOf434,_,zeroValue434,rfl⟩⟩
def XN:lV prog 439 190 1 8:=⟨underlying439,⟨t190,_,V,rfl,rfl,rfl,rfl⟩,C,⟨sizeOf190,_,zeroValue190,rfl⟩⟩
def S_:lV prog 483 487 3 24:=⟨underlying483,⟨t487,_,V,rfl,rfl,rfl,rfl⟩,C,⟨sizeOf487,_,zeroValue487,rfl⟩⟩
def ZM:lV prog 49 3 1 8:=⟨underlying49,⟨t3,_,V,rfl,rfl,rfl,rfl⟩,C,⟨sizeOf3,_,zeroValue3,rfl⟩⟩
def LS:lV prog 54 147 3 48:=⟨underlying54,⟨t147,_,V,rfl,rfl,rfl,rfl⟩,C,⟨sizeOf147,_,zeroValue147,rfl⟩⟩
def LU:lV prog 55 187 3 32:=⟨underlying55,⟨t187,_,V,rfl,rfl,rfl,rfl⟩,C,⟨sizeOf187,_,zeroValue187,rfl⟩⟩
def LV:lV prog 56 41 13 136:=⟨underlying56,⟨t41,_,V,rfl,rfl,rfl,rfl⟩,C,⟨sizeOf41,_,zeroValue41,rfl⟩⟩
def LW:lV prog 57 92 1 24:=⟨underlying57,⟨t92,_,V,rfl,rfl,rfl,rfl⟩,C,⟨sizeOf92,_,zeroValue92,rfl⟩⟩
def XP:lV prog 83 9 1 16:=⟨underlying83,⟨t9,_,V,rfl,rfl,rfl,rfl⟩,C,⟨sizeOf9,_,zeroValue9,rfl⟩⟩
def MY:lV prog 92 24 2 16:=⟨underlying92,⟨t24,_,V,rfl,rfl,rfl,rfl⟩,C,⟨sizeOf24,_,zeroValue24,rfl⟩⟩
def Ln:nL prog 123 [.int .i64 (0),.int .i64 (0),.int .i64 (0),.int .i64 (0),.int .i64 (0),.int .i64 (0)] (fun i=>([(0,1),(1,1),(2,1),(3,1),(4,1),(5,1)]:List (Nat×Nat)).toArray[i]?):=⟨by intro parts;kernel_rfl⟩
def OW:nL prog 127 [.string ⟨#[]⟩,.int .i64 (0)] (fun i=>([(0,1),(1,1)]:List (Nat×Nat)).toArray[i]?):=⟨by intro parts;kernel_rfl⟩
def bu132:nL prog 132 [.int .i64 (0),.string ⟨#[]⟩,.int .i64 (0),.string ⟨#[]⟩,.slice none 0 0,.int .i64 (0),.bool false,.int .i64 (0),.bool false,.int .i64 (0),.int .i64 (0),.int .i64 (0),.int .i64 (0),.slice none 0 0] (fun i=>([(0,13),(13,1)]:List (Nat×Nat)).toArray[i]?):=⟨by intro parts;kernel_rfl⟩
def Qo:nL prog 140 [.slice none 0 0,.string ⟨#[]⟩,.int .i64 (0),.int .i64 (0),.int .i64 (0),.slice none 0 0,.int .i64 (0)] (fun i=>([(0,5),(5,2)]:List (Nat×Nat)).toArray[i]?):=⟨by intro parts;kernel_rfl⟩
def bu144:nL prog 144 [.slice none 0 0,.string ⟨#[]⟩,.int .i64 (0),.int .i64 (0),.int .i64 (0),.slice none 0 0,.int .i64 (0),.slice none 0 0,.slice none 0 0,.slice none 0 0,.slice none 0 0,.int .i64 (0),.int .i64 (0),.slice none 0 0,.bool false,.int .i64 (0),.int .i64 (0)] (fun i=>([(0,7),(7,1),(8,1),(9,1),(10,1),(11,3),(14,1),(15,1),(16,1)]:List (Nat×Nat)).toArray[i]?):=⟨by intro parts;kernel_rfl⟩
def Lo:nL prog 147 [.string ⟨#[]⟩,.int .i64 (0),.slice none 0 0] (fun i=>([(0,2),(2,1)]:List (Nat×Nat)).toArray[i]?):=⟨by intro parts;kernel_rfl⟩
def bu149:nL prog 149 [.string ⟨#[]⟩,.int .i64 (0),.slice none 0 0,.int .i64 (0)] (fun i=>([(0,3),(3,1)]:List (Nat×Nat)).toArray[i]?):=⟨by intro parts;kernel_rfl⟩
def bu157:nL prog 157 [.string ⟨#[]⟩,.string ⟨#[]⟩,.string ⟨#[]⟩,.string ⟨#[]⟩,.int .i64 (0)] (fun i=>([(0,1),(1,1),(2,1),(3,1),(4,1)]:List (Nat×Nat)).toArray[i]?):=⟨by intro parts;kernel_rfl⟩
def m_:nL prog 187 [.string ⟨#[]⟩,.int .i64 (0),.int .i64 (0)] (fun i=>([(0,1),(1,1),(2,1)]:List (Nat×Nat)).toArray[i]?):=⟨by intro parts;kernel_rfl⟩
def bu191:nL prog 191 [.pointer none,.pointer none,.pointer none,.pointer none,.pointer none] (fun i=>some (i * 1,1)):=⟨by intro parts;kernel_rfl⟩
def XR:nL prog 210 [.int .i64 (0),.string ⟨#[]⟩,.nilFunc] (fun i=>([(0,1),(1,1),(2,1)]:List (Nat×Nat)).toArray[i]?):=⟨by intro parts;kernel_rfl⟩
def Lp:nL prog 215 [.slice none 0 0,.slice none 0 0] (fun i=>([(0,1),(1,1)]:List (Nat×Nat)).toArray[i]?):=⟨by intro parts;kernel_rfl⟩
def bu224:nL prog 224 [.string ⟨#[]⟩,.int .i64 (0),.int .i64 (0),.int .i64 (0)] (fun i=>([(0,3),(3,1)]:List (Nat×Nat)).toArray[i]?):=⟨by intro parts;kernel_rfl⟩
def OX:nL prog 231 [.int .i64 (0),.int .i64 (0),.int .i64 (0),.int .i64 (0),.int .i64 (0),.slice none 0 0] (fun i=>([(0,1),(1,1),(2,1),(3,1),(4,1),(5,1)]:List (Nat×Nat)).toArray[i]?):=⟨by intro parts;kernel_rfl⟩
def M6:nL prog 24 [.int .i64 (0),.int .i64 (0)] (fun i=>([(0,1),(1,1)]:List (Nat×Nat)).toArray[i]?):=⟨by intro parts;kernel_rfl⟩
def bu26:nL prog 26 [.slice none 0 0,.string ⟨#[]⟩,.int .i64 (0),.int .i64 (0),.int .i64 (0)] (fun i=>([(0,1),(1,1),(2,1),(3,2)]:List (Nat×Nat)).toArray[i]?):=⟨by intro parts;kernel_rfl⟩
def Ls:nL prog 264 [.slice none 0 0] (fun i=>([(0,1)]:List (Nat×Nat)).toArray[i]?):=⟨by intro parts;kernel_rfl⟩
def vp:nL prog 29 [.string ⟨#[]⟩,.int .i64 (0)] (fun i=>([(0,1),(1,1)]:List (Nat×Nat)).toArray[i]?):=⟨by intro parts;kernel_rfl⟩
def Nj:nL prog 304 [.slice none 0 0] (fun i=>([(0,1)]:List (Nat×Nat)).toArray[i]?):=⟨by intro parts;kernel_rfl⟩
def Lv:nL prog 332 [.bool false,.slice none 0 0] (fun i=>([(0,1),(1,1)]:List (Nat×Nat)).toArray[i]?):=⟨by intro parts;kernel_rfl⟩
def bu348:nL prog 348 [.slice none 0 0,.int .i64 (0)] (fun i=>([(0,2)]:List (Nat×Nat)).toArray[i]?):=⟨by intro parts;kernel_rfl⟩
def n_:nL prog 363 [.int .i64 (0),.int .i64 (0),.int .i64 (0),.int .i64 (0)] (fun i=>([(0,1),(1,1),(2,2)]:List (Nat×Nat)).toArray[i]?):=⟨by intro parts;kernel_rfl⟩
def Ws:nL prog 37 [.int .i64 (0),.int .i64 (0)] (fun i=>([(0,1),(1,1)]:List (Nat×Nat)).toArray[i]?):=⟨by intro parts;kernel_rfl⟩
def O0:nL prog 370 [.int .i64 (0),.int .i64 (0)] (fun i=>([(0,1),(1,1)]:List (Nat×Nat)).toArray[i]?):=⟨by intro parts;kernel_rfl⟩
def bu374:nL prog 374 [.string ⟨#[]⟩] (fun i=>([(0,1)]:List (Nat×Nat)).toArray[i]?):=⟨by intro parts;kernel_rfl⟩
def PO:nL prog 39 [.int .i64 (0),.int .i64 (0),.int .i64 (0),.int .i64 (0)] (fun i=>([(0,2),(2,2)]:List (Nat×Nat)).toArray[i]?):=⟨by intro parts;kernel_rfl⟩
def oy:nL prog 41 [.int .i64 (0),.string ⟨#[]⟩,.int .i64 (0),.string ⟨#[]⟩,.slice none 0 0,.int .i64 (0),.bool false,.int .i64 (0),.bool false,.int .i64 (0),.int .i64 (0),.int .i64 (0),.int .i64 (0)] (fun i=>([(0,1),(1,2),(3,1),(4,1),(5,1),(6,1),(7,1),(8,1),(9,4)]:List (Nat×Nat)).toArray[i]?):=⟨by intro parts;kernel_rfl⟩
def O1:nL prog 431 [.int .i64 (0),.int .i64 (0),.int .i64 (0)] (fun i=>([(0,1),(1,1),(2,1)]:List (Nat×Nat)).toArray[i]?):=⟨by intro parts;kernel_rfl⟩
def p_:nL prog 434 [.int .i64 (0),.int .i64 (0)] (fun i=>([(0,1),(1,1)]:List (Nat×Nat)).toArray[i]?):=⟨by intro parts;kernel_rfl⟩
def Tp:nL prog 437 [.bool false,.bool false,.bool false,.bool false] (fun i=>([(0,1),(1,1),(2,1),(3,1)]:List (Nat×Nat)).toArray[i]?):=⟨by intro parts;kernel_rfl⟩
def bu473:nL prog 473 [.string ⟨#[]⟩,.string ⟨#[]⟩,.string ⟨#[]⟩,.string ⟨#[]⟩,.string ⟨#[]⟩,.string ⟨#[]⟩] (fun i=>some (i * 1,1)):=⟨by intro parts;kernel_rfl⟩
def Np:nL prog 487 [.nilFunc,.int .i64 (0),.int .i64 (0)] (fun i=>([(0,1),(1,1),(2,1)]:List (Nat×Nat)).toArray[i]?):=⟨by intro parts;kernel_rfl⟩
def JB:nL prog 59 [.int .i64 (0),.int .i64 (0),.slice none 0 0] (fun i=>([(0,1),(1,1),(2,1)]:List (Nat×Nat)).toArray[i]?):=⟨by intro parts;kernel_rfl⟩
def P7:nL prog 61 [.slice none 0 0,.slice none 0 0,.slice none 0 0,.slice none 0 0,.int .i64 (0),.int .i64 (0),.slice none 0 0] (fun i=>([(0,1),(1,1),(2,1),(3,1),(4,3)]:List (Nat×Nat)).toArray[i]?):=⟨by intro parts;kernel_rfl⟩
def M3:nL prog 85 [.slice none 0 0,.int .i64 (0)] (fun i=>([(0,1),(1,1)]:List (Nat×Nat)).toArray[i]?):=⟨by intro parts;kernel_rfl⟩
def M4:nL prog 91 [.int .i64 (0),.slice none 0 0] (fun i=>([(0,1),(1,1)]:List (Nat×Nat)).toArray[i]?):=⟨by intro parts;kernel_rfl⟩
def VM:nL prog 95 [.int .i64 (0),.string ⟨#[]⟩,.string ⟨#[]⟩] (fun i=>([(0,1),(1,1),(2,1)]:List (Nat×Nat)).toArray[i]?):=⟨by intro parts;kernel_rfl⟩
def eq123:Hf prog 123 6:=Hf.z6 (T:=3) V underlying123 V V underlying3 isAgg3
def G_:dz prog 123 1 1:=⟨_,_,_,underlying123,rfl,rfl,C,sizeOf3⟩
def H_:dz prog 123 2 2:=⟨_,_,_,underlying123,rfl,rfl,C,sizeOf3⟩
def IF:dz prog 123 3 3:=⟨_,_,_,underlying123,rfl,rfl,C,sizeOf3⟩
def IM:dz prog 123 4 4:=⟨_,_,_,underlying123,rfl,rfl,C,sizeOf3⟩
def IN:dz prog 123 5 5:=⟨_,_,_,underlying123,rfl,rfl,C,sizeOf3⟩
def VO:dz prog 127 0 0:=⟨_,_,_,underlying127,rfl,rfl,C,sizeOf9⟩
def Sr:dz prog 127 1 1:=⟨_,_,_,underlying127,rfl,rfl,C,sizeOf3⟩
def YP:dz prog 132 0 0:=⟨_,_,_,underlying132,rfl,rfl,C,sizeOf41⟩
def Q8:dz prog 132 1 13:=⟨_,_,_,underlying132,rfl,rfl,C,sizeOf49⟩
def WN:dz prog 140 0 0:=⟨_,_,_,underlying140,rfl,rfl,C,sizeOf26⟩
def VP:dz prog 140 1 5:=⟨_,_,_,underlying140,rfl,rfl,C,sizeOf85⟩
def Y3:dz prog 144 0 0:=⟨_,_,_,underlying144,rfl,rfl,C,sizeOf140⟩
def SB:dz prog 144 1 7:=⟨_,_,_,underlying144,rfl,rfl,C,sizeOf137⟩
def TZ:dz prog 144 2 8:=⟨_,_,_,underlying144,rfl,rfl,C,sizeOf141⟩
def T3:dz prog 144 3 9:=⟨_,_,_,underlying144,rfl,rfl,C,sizeOf142⟩
def T4:dz prog 144 4 10:=⟨_,_,_,underlying144,rfl,rfl,C,sizeOf142⟩
def PZ:dz prog 144 5 11:=⟨_,_,_,underlying144,rfl,rfl,C,sizeOf59⟩
def IT:dz prog 144 6 14:=⟨_,_,_,underlying144,rfl,rfl,C,sizeOf4⟩
def Y4:dz prog 144 7 15:=⟨_,_,_,underlying144,rfl,rfl,C,sizeOf3⟩
def SC:dz prog 144 8 16:=⟨_,_,_,underlying144,rfl,rfl,C,sizeOf3⟩
def WW:dz prog 147 0 0:=⟨_,_,_,underlying147,rfl,rfl,C,sizeOf29⟩
def P0:dz prog 147 1 2:=⟨_,_,_,underlying147,rfl,rfl,C,sizeOf145⟩
def Vg:dz prog 149 0 0:=⟨_,_,_,underlying149,rfl,rfl,C,sizeOf147⟩
def P3:dz prog 149 1 3:=⟨_,_,_,underlying149,rfl,rfl,C,sizeOf3⟩
def I3:dz prog 157 0 0:=⟨_,_,_,underlying157,rfl,rfl,C,sizeOf9⟩
def VQ:dz prog 157 1 1:=⟨_,_,_,underlying157,rfl,rfl,C,sizeOf9⟩
def T6:dz prog 157 2 2:=⟨_,_,_,underlying157,rfl,rfl,C,sizeOf9⟩
def I_:dz prog 157 3 3:=⟨_,_,_,underlying157,rfl,rfl,C,sizeOf9⟩
def P4:dz prog 157 4 4:=⟨_,_,_,underlying157,rfl,rfl,C,sizeOf3⟩
def SF:dz prog 187 0 0:=⟨_,_,_,underlying187,rfl,rfl,C,sizeOf9⟩
def SG:dz prog 187 1 1:=⟨_,_,_,underlying187,rfl,rfl,C,sizeOf3⟩
def X0:dz prog 187 2 2:=⟨_,_,_,underlying187,rfl,rfl,C,sizeOf3⟩
def P5:dz prog 210 0 0:=⟨_,_,_,underlying210,rfl,rfl,C,sizeOf3⟩
def Jp:dz prog 210 1 1:=⟨_,_,_,underlying210,rfl,rfl,C,sizeOf9⟩
def Jq:dz prog 210 2 2:=⟨_,_,_,underlying210,rfl,rfl,C,sizeOf208⟩
def SL:dz prog 215 0 0:=⟨_,_,_,underlying215,rfl,rfl,C,sizeOf49⟩
def UC:dz prog 215 1 1:=⟨_,_,_,underlying215,rfl,rfl,C,sizeOf83⟩
def WX:dz prog 224 0 0:=⟨_,_,_,underlying224,rfl,rfl,C,sizeOf187⟩
def P6:dz prog 224 1 3:=⟨_,_,_,underlying224,rfl,rfl,C,sizeOf3⟩
def SM:dz prog 231 0 0:=⟨_,_,_,underlying231,rfl,rfl,C,sizeOf3⟩
def Jr:dz prog 231 1 1:=⟨_,_,_,underlying231,rfl,rfl,C,sizeOf3⟩
def JC:dz prog 231 2 2:=⟨_,_,_,underlying231,rfl,rfl,C,sizeOf3⟩
def UG:dz prog 231 3 3:=⟨_,_,_,underlying231,rfl,rfl,C,sizeOf3⟩
def JN:dz prog 231 4 4:=⟨_,_,_,underlying231,rfl,rfl,C,sizeOf3⟩
def Qe:dz prog 231 5 5:=⟨_,_,_,underlying231,rfl,rfl,C,sizeOf145⟩
def Ze:dz prog 24 0 0:=⟨_,_,_,underlying24,rfl,rfl,C,sizeOf3⟩
def YU:dz prog 24 1 1:=⟨_,_,_,underlying24,rfl,rfl,C,sizeOf3⟩
def Qf:dz prog 264 0 0:=⟨_,_,_,underlying264,rfl,rfl,C,sizeOf262⟩
def Xr:dz prog 26 0 0:=⟨_,_,_,underlying26,rfl,rfl,C,sizeOf22⟩
def Nk:dz prog 26 1 1:=⟨_,_,_,underlying26,rfl,rfl,C,sizeOf9⟩
def Q1:dz prog 26 2 2:=⟨_,_,_,underlying26,rfl,rfl,C,sizeOf3⟩
def YH:dz prog 26 3 3:=⟨_,_,_,underlying26,rfl,rfl,C,sizeOf24⟩
def PR:dz prog 29 0 0:=⟨_,_,_,underlying29,rfl,rfl,C,sizeOf9⟩
def PU:dz prog 29 1 1:=⟨_,_,_,underlying29,rfl,rfl,C,sizeOf3⟩
def XL:dz prog 304 0 0:=⟨_,_,_,underlying304,rfl,rfl,C,sizeOf302⟩
def JV:dz prog 31 0 0:=⟨_,_,_,underlying31,rfl,rfl,C,sizeOf3⟩
def fi31_1:dz prog 31 1 1:=⟨_,_,_,underlying31,rfl,rfl,C,sizeOf29⟩
def Qg:dz prog 332 0 0:=⟨_,_,_,underlying332,rfl,rfl,C,sizeOf4⟩
def SQ:dz prog 332 1 1:=⟨_,_,_,underlying332,rfl,rfl,C,sizeOf49⟩
def Ta:dz prog 348 0 0:=⟨_,_,_,underlying348,rfl,rfl,C,sizeOf85⟩
def XK:dz prog 363 0 0:=⟨_,_,_,underlying363,rfl,rfl,C,sizeOf3⟩
def Tb:dz prog 363 1 1:=⟨_,_,_,underlying363,rfl,rfl,C,sizeOf3⟩
def Yv:dz prog 363 2 2:=⟨_,_,_,underlying363,rfl,rfl,C,sizeOf24⟩
def Tc:dz prog 370 0 0:=⟨_,_,_,underlying370,rfl,rfl,C,sizeOf3⟩
def Te:dz prog 370 1 1:=⟨_,_,_,underlying370,rfl,rfl,C,sizeOf3⟩
def JW:dz prog 374 0 0:=⟨_,_,_,underlying374,rfl,rfl,C,sizeOf9⟩
def Wv:dz prog 37 0 0:=⟨_,_,_,underlying37,rfl,rfl,C,sizeOf3⟩
def JU:dz prog 37 1 1:=⟨_,_,_,underlying37,rfl,rfl,C,sizeOf3⟩
def PV:dz prog 39 0 0:=⟨_,_,_,underlying39,rfl,rfl,C,sizeOf37⟩
def Lt:dz prog 39 1 2:=⟨_,_,_,underlying39,rfl,rfl,C,sizeOf37⟩
def Lu:dz prog 41 0 0:=⟨_,_,_,underlying41,rfl,rfl,C,sizeOf3⟩
def Yt:dz prog 41 1 1:=⟨_,_,_,underlying41,rfl,rfl,C,sizeOf29⟩
def SH:dz prog 41 2 3:=⟨_,_,_,underlying41,rfl,rfl,C,sizeOf9⟩
def Zf:dz prog 41 3 4:=⟨_,_,_,underlying41,rfl,rfl,C,sizeOf35⟩
def Zl:dz prog 41 4 5:=⟨_,_,_,underlying41,rfl,rfl,C,sizeOf3⟩
def wT:dz prog 41 5 6:=⟨_,_,_,underlying41,rfl,rfl,C,sizeOf4⟩
def PW:dz prog 41 6 7:=⟨_,_,_,underlying41,rfl,rfl,C,sizeOf3⟩
def SI:dz prog 41 7 8:=⟨_,_,_,underlying41,rfl,rfl,C,sizeOf4⟩
def PX:dz prog 41 8 9:=⟨_,_,_,underlying41,rfl,rfl,C,sizeOf39⟩
def V_:dz prog 434 0 0:=⟨_,_,_,underlying434,rfl,rfl,C,sizeOf3⟩
def XM:dz prog 434 1 1:=⟨_,_,_,underlying434,rfl,rfl,C,sizeOf3⟩
def JY:dz prog 437 0 0:=⟨_,_,_,underlying437,rfl,rfl,C,sizeOf4⟩
def JZ:dz prog 437 1 1:=⟨_,_,_,underlying437,rfl,rfl,C,sizeOf4⟩
def J2:dz prog 437 2 2:=⟨_,_,_,underlying437,rfl,rfl,C,sizeOf4⟩
def J3:dz prog 437 3 3:=⟨_,_,_,underlying437,rfl,rfl,C,sizeOf4⟩
def O4:dz prog 487 0 0:=⟨_,_,_,underlying487,rfl,rfl,C,sizeOf485⟩
def O5:dz prog 487 1 1:=⟨_,_,_,underlying487,rfl,rfl,C,sizeOf3⟩
def Pb:dz prog 487 2 2:=⟨_,_,_,underlying487,rfl,rfl,C,sizeOf3⟩
def Q5:dz prog 59 0 0:=⟨_,_,_,underlying59,rfl,rfl,C,sizeOf3⟩
def Q6:dz prog 59 1 1:=⟨_,_,_,underlying59,rfl,rfl,C,sizeOf3⟩
def WY:dz prog 59 2 2:=⟨_,_,_,underlying59,rfl,rfl,C,sizeOf57⟩
def YS:dz prog 61 0 0:=⟨_,_,_,underlying61,rfl,rfl,C,sizeOf54⟩
def XQ:dz prog 61 1 1:=⟨_,_,_,underlying61,rfl,rfl,C,sizeOf55⟩
def ZZ:dz prog 61 2 2:=⟨_,_,_,underlying61,rfl,rfl,C,sizeOf56⟩
def Tk:dz prog 61 3 3:=⟨_,_,_,underlying61,rfl,rfl,C,sizeOf49⟩
def PY:dz prog 61 4 4:=⟨_,_,_,underlying61,rfl,rfl,C,sizeOf59⟩
def VN:dz prog 85 0 0:=⟨_,_,_,underlying85,rfl,rfl,C,sizeOf83⟩
def Qi:dz prog 85 1 1:=⟨_,_,_,underlying85,rfl,rfl,C,sizeOf3⟩
def Th:dz prog 91 0 0:=⟨_,_,_,underlying91,rfl,rfl,C,sizeOf3⟩
def Wx:dz prog 91 1 1:=⟨_,_,_,underlying91,rfl,rfl,C,sizeOf49⟩
def Wl:dz prog 95 0 0:=⟨_,_,_,underlying95,rfl,rfl,C,sizeOf3⟩
def c_:dz prog 95 1 1:=⟨_,_,_,underlying95,rfl,rfl,C,sizeOf9⟩
def TK:dz prog 95 2 2:=⟨_,_,_,underlying95,rfl,rfl,C,sizeOf9⟩
def Qh:o7 prog 137 138 1:=⟨underlying137,sizeOf138⟩
def LP:o7 prog 141 222 1:=⟨underlying141,sizeOf222⟩
def Yy:o7 prog 142 128 1:=⟨underlying142,sizeOf128⟩
def Zj:o7 prog 145 231 6:=⟨underlying145,sizeOf231⟩
def AT:o7 prog 168 5 1:=⟨underlying168,sizeOf5⟩
def UU:o7 prog 203 42 1:=⟨underlying203,sizeOf42⟩
def Ys:o7 prog 22 127 2:=⟨underlying22,sizeOf127⟩
def Za:o7 prog 262 332 2:=⟨underlying262,sizeOf332⟩
def Yd:o7 prog 266 264 1:=⟨underlying266,sizeOf264⟩
def YI:o7 prog 27 95 3:=⟨underlying27,sizeOf95⟩
def YN:o7 prog 302 363 4:=⟨underlying302,sizeOf363⟩
def Y8:o7 prog 35 91 2:=⟨underlying35,sizeOf91⟩
def TQ:o7 prog 359 49 1:=⟨underlying359,sizeOf49⟩
def U5:o7 prog 366 370 2:=⟨underlying366,sizeOf370⟩
def si382:o7 prog 382 431 3:=⟨underlying382,sizeOf431⟩
def Qq:o7 prog 388 434 2:=⟨underlying388,sizeOf434⟩
def QO:o7 prog 439 190 1:=⟨underlying439,sizeOf190⟩
def F_:o7 prog 483 487 3:=⟨underlying483,sizeOf487⟩
def Z4:o7 prog 49 3 1:=⟨underlying49,sizeOf3⟩
def VB:o7 prog 54 147 3:=⟨underlying54,sizeOf147⟩
def Wn:o7 prog 55 187 3:=⟨underlying55,sizeOf187⟩
def ZH:o7 prog 56 41 13:=⟨underlying56,sizeOf41⟩
def VC:o7 prog 57 92 1:=⟨underlying57,sizeOf92⟩
def Z2:o7 prog 83 9 1:=⟨underlying83,sizeOf9⟩
def LQ:o7 prog 92 24 2:=⟨underlying92,sizeOf24⟩
def fR:F4 prog 9:=⟨underlying9⟩
def Lr:eT prog 123 true 6:=⟨isAgg123,sizeOf123⟩
def BE:eT prog 127 true 2:=⟨isAgg127,sizeOf127⟩
def YD:eT prog 128 false 1:=⟨isAgg128,sizeOf128⟩
def BY:eT prog 132 true 14:=⟨isAgg132,sizeOf132⟩
def Xl:eT prog 133 false 1:=⟨isAgg133,sizeOf133⟩
def RH:eT prog 137 false 1:=⟨isAgg137,sizeOf137⟩
def RM:eT prog 138 false 1:=⟨isAgg138,sizeOf138⟩
def Wo:eT prog 140 true 7:=⟨isAgg140,sizeOf140⟩
def QS:eT prog 141 false 1:=⟨isAgg141,sizeOf141⟩
def Yg:eT prog 142 false 1:=⟨isAgg142,sizeOf142⟩
def Xm:eT prog 145 false 1:=⟨isAgg145,sizeOf145⟩
def YC:eT prog 157 true 5:=⟨isAgg157,sizeOf157⟩
def ti190:eT prog 190 false 1:=⟨isAgg190,sizeOf190⟩
def ti191:eT prog 191 true 5:=⟨isAgg191,sizeOf191⟩
def ti208:eT prog 208 false 1:=⟨isAgg208,sizeOf208⟩
def Yh:eT prog 210 true 3:=⟨isAgg210,sizeOf210⟩
def TD:eT prog 215 true 2:=⟨isAgg215,sizeOf215⟩
def SN:eT prog 22 false 1:=⟨isAgg22,sizeOf22⟩
def ti222:eT prog 222 false 1:=⟨isAgg222,sizeOf222⟩
def ZF:eT prog 231 true 6:=⟨isAgg231,sizeOf231⟩
def MN:eT prog 24 true 2:=⟨isAgg24,sizeOf24⟩
def XB:eT prog 26 true 5:=⟨isAgg26,sizeOf26⟩
def LR:eT prog 262 false 1:=⟨isAgg262,sizeOf262⟩
def WL:eT prog 264 true 1:=⟨isAgg264,sizeOf264⟩
def MO:eT prog 29 true 2:=⟨isAgg29,sizeOf29⟩
def Z8:eT prog 3 false 1:=⟨isAgg3,sizeOf3⟩
def TC:eT prog 302 false 1:=⟨isAgg302,sizeOf302⟩
def UO:eT prog 304 true 1:=⟨isAgg304,sizeOf304⟩
def LX:eT prog 332 true 2:=⟨isAgg332,sizeOf332⟩
def Q3:eT prog 348 true 2:=⟨isAgg348,sizeOf348⟩
def XO:eT prog 35 false 1:=⟨isAgg35,sizeOf35⟩
def WM:eT prog 359 false 1:=⟨isAgg359,sizeOf359⟩
def LY:eT prog 363 true 4:=⟨isAgg363,sizeOf363⟩
def TT:eT prog 37 true 2:=⟨isAgg37,sizeOf37⟩
def B_:eT prog 370 true 2:=⟨isAgg370,sizeOf370⟩
def ti374:eT prog 374 true 1:=⟨isAgg374,sizeOf374⟩
def VK:eT prog 39 true 4:=⟨isAgg39,sizeOf39⟩
def SP:eT prog 4 false 1:=⟨isAgg4,sizeOf4⟩
def T7:eT prog 41 true 13:=⟨isAgg41,sizeOf41⟩
def J6:eT prog 42 false 1:=⟨isAgg42,sizeOf42⟩
def Q7:eT prog 434 true 2:=⟨isAgg434,sizeOf434⟩
def TU:eT prog 437 true 4:=⟨isAgg437,sizeOf437⟩
def C_:eT prog 473 true 6:=⟨isAgg473,sizeOf473⟩
def IS:eT prog 485 false 1:=⟨isAgg485,sizeOf485⟩
def a_:eT prog 487 true 3:=⟨isAgg487,sizeOf487⟩
def Zd:eT prog 49 false 1:=⟨isAgg49,sizeOf49⟩
def ti5:eT prog 5 false 1:=⟨isAgg5,sizeOf5⟩
def VL:eT prog 54 false 1:=⟨isAgg54,sizeOf54⟩
def T8:eT prog 55 false 1:=⟨isAgg55,sizeOf55⟩
def ZA:eT prog 56 false 1:=⟨isAgg56,sizeOf56⟩
def QU:eT prog 57 false 1:=⟨isAgg57,sizeOf57⟩
def V7:eT prog 59 true 3:=⟨isAgg59,sizeOf59⟩
def Z_:eT prog 61 true 7:=⟨isAgg61,sizeOf61⟩
def SO:eT prog 83 false 1:=⟨isAgg83,sizeOf83⟩
def Xs:eT prog 85 true 2:=⟨isAgg85,sizeOf85⟩
def Y9:eT prog 9 false 1:=⟨isAgg9,sizeOf9⟩
def UN:eT prog 91 true 2:=⟨isAgg91,sizeOf91⟩
def j3:eT prog 92 false 1:=⟨isAgg92,sizeOf92⟩
def Qm:eT prog 95 true 3:=⟨isAgg95,sizeOf95⟩
def ze123:pN prog 123 [.int .i64 (0),.int .i64 (0),.int .i64 (0),.int .i64 (0),.int .i64 (0),.int .i64 (0)]:=⟨_,zeroValue123,rfl,rfl⟩
def ze127:pN prog 127 [.str [],.int .i64 (0)]:=⟨_,zeroValue127,rfl,rfl⟩
def ze138:pN prog 138 [.raw (.pointer none)]:=⟨_,zeroValue138,rfl,rfl⟩
def ze140:pN prog 140 [.bO,.str [],.int .i64 (0),.int .i64 (0),.int .i64 (0),.bO,.int .i64 (0)]:=⟨_,zeroValue140,rfl,rfl⟩
def f_:pN prog 145 [.bO]:=⟨_,zeroValue145,rfl,rfl⟩
def ze157:pN prog 157 [.str [],.str [],.str [],.str [],.int .i64 (0)]:=⟨_,zeroValue157,rfl,rfl⟩
def ze191:pN prog 191 [.raw (.pointer none),.raw (.pointer none),.raw (.pointer none),.raw (.pointer none),.raw (.pointer none)]:=⟨_,zeroValue191,rfl,rfl⟩
def ze210:pN prog 210 [.int .i64 (0),.str [],.raw .nilFunc]:=⟨_,zeroValue210,rfl,rfl⟩
def ze215:pN prog 215 [.bO,.bO]:=⟨_,zeroValue215,rfl,rfl⟩
def ze231:pN prog 231 [.int .i64 (0),.int .i64 (0),.int .i64 (0),.int .i64 (0),.int .i64 (0),.bO]:=⟨_,zeroValue231,rfl,rfl⟩
def GB:pN prog 24 [.int .i64 (0),.int .i64 (0)]:=⟨_,zeroValue24,rfl,rfl⟩
def ze26:pN prog 26 [.bO,.str [],.int .i64 (0),.int .i64 (0),.int .i64 (0)]:=⟨_,zeroValue26,rfl,rfl⟩
def L0:pN prog 264 [.bO]:=⟨_,zeroValue264,rfl,rfl⟩
def ze29:pN prog 29 [.str [],.int .i64 (0)]:=⟨_,zeroValue29,rfl,rfl⟩
def k_:pN prog 304 [.bO]:=⟨_,zeroValue304,rfl,rfl⟩
def ze332:pN prog 332 [.bool false,.bO]:=⟨_,zeroValue332,rfl,rfl⟩
def ze348:pN prog 348 [.bO,.int .i64 (0)]:=⟨_,zeroValue348,rfl,rfl⟩
def ze359:pN prog 359 [.bO]:=⟨_,zeroValue359,rfl,rfl⟩
def ze363:pN prog 363 [.int .i64 (0),.int .i64 (0),.int .i64 (0),.int .i64 (0)]:=⟨_,zeroValue363,rfl,rfl⟩
def ze37:pN prog 37 [.int .i64 (0),.int .i64 (0)]:=⟨_,zeroValue37,rfl,rfl⟩
def ze374:pN prog 374 [.str []]:=⟨_,zeroValue374,rfl,rfl⟩
def o_:pN prog 39 [.int .i64 (0),.int .i64 (0),.int .i64 (0),.int .i64 (0)]:=⟨_,zeroValue39,rfl,rfl⟩
def ze4:pN prog 4 [.bool false]:=⟨_,zeroValue4,rfl,rfl⟩
def ze41:pN prog 41 [.int .i64 (0),.str [],.int .i64 (0),.str [],.bO,.int .i64 (0),.bool false,.int .i64 (0),.bool false,.int .i64 (0),.int .i64 (0),.int .i64 (0),.int .i64 (0)]:=⟨_,zeroValue41,rfl,rfl⟩
def ze42:pN prog 42 [.int .i64 (0)]:=⟨_,zeroValue42,rfl,rfl⟩
def L3:pN prog 434 [.int .i64 (0),.int .i64 (0)]:=⟨_,zeroValue434,rfl,rfl⟩
def ze437:pN prog 437 [.bool false,.bool false,.bool false,.bool false]:=⟨_,zeroValue437,rfl,rfl⟩
def qD:pN prog 487 [.raw .nilFunc,.int .i64 (0),.int .i64 (0)]:=⟨_,zeroValue487,rfl,rfl⟩
def ze49:pN prog 49 [.bO]:=⟨_,zeroValue49,rfl,rfl⟩
def q_:pN prog 59 [.int .i64 (0),.int .i64 (0),.bO]:=⟨_,zeroValue59,rfl,rfl⟩
def By:pN prog 61 [.bO,.bO,.bO,.bO,.int .i64 (0),.int .i64 (0),.bO]:=⟨_,zeroValue61,rfl,rfl⟩
def ze85:pN prog 85 [.bO,.int .i64 (0)]:=⟨_,zeroValue85,rfl,rfl⟩
def ze91:pN prog 91 [.int .i64 (0),.bO]:=⟨_,zeroValue91,rfl,rfl⟩
def ze95:pN prog 95 [.int .i64 (0),.str [],.str []]:=⟨_,zeroValue95,rfl,rfl⟩
