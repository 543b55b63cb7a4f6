import Derived.Test.YtpbalelbenmmbaaGreatDoorFj
import Derived.Test.YtpbalelbenmmbaaGreatDoorProg
set_option linter.all false
namespace Go.Proofs.YtpbalelbenmmbaaGreatDoor
open Go.Ab Tryz
def follows:prog.follows .mixedOrders=true:=by kernel_rfl
def ZF:lV prog 103 9 1 16:=⟨underlying103,⟨t9,_,by kernel_rfl,rfl,rfl,rfl,rfl⟩,by decide,⟨sizeOf9,_,zeroValue9,rfl⟩⟩
def K1:lV prog 125 126 1 8:=⟨underlying125,⟨t126,_,by kernel_rfl,rfl,rfl,rfl,rfl⟩,by decide,⟨sizeOf126,_,zeroValue126,rfl⟩⟩
def K2:lV prog 127 196 1 8:=⟨underlying127,⟨t196,_,by kernel_rfl,rfl,rfl,rfl,rfl⟩,by decide,⟨sizeOf196,_,zeroValue196,rfl⟩⟩
def PU:lV prog 128 119 1 8:=⟨underlying128,⟨t119,_,by kernel_rfl,rfl,rfl,rfl,rfl⟩,by decide,⟨sizeOf119,_,zeroValue119,rfl⟩⟩
def X0:lV prog 131 354 6 64:=⟨underlying131,⟨t354,_,by kernel_rfl,rfl,rfl,rfl,rfl⟩,by decide,⟨sizeOf354,_,zeroValue354,rfl⟩⟩
def ZX:lV prog 184 29 1 8:=⟨underlying184,⟨t29,_,by kernel_rfl,rfl,rfl,rfl,rfl⟩,by decide,⟨sizeOf29,_,zeroValue29,rfl⟩⟩
def Jv:lV prog 22 102 2 24:=⟨underlying22,⟨t102,_,by kernel_rfl,rfl,rfl,rfl,rfl⟩,by decide,⟨sizeOf102,_,zeroValue102,rfl⟩⟩
def MW:lV prog 221 303 2 32:=⟨underlying221,⟨t303,_,by kernel_rfl,rfl,rfl,rfl,rfl⟩,by decide,⟨sizeOf303,_,zeroValue303,rfl⟩⟩
def PV:lV prog 226 223 1 24:=⟨underlying226,⟨t223,_,by kernel_rfl,rfl,rfl,rfl,rfl⟩,by decide,⟨sizeOf223,_,zeroValue223,rfl⟩⟩
def PW:lV prog 271 334 4 32:=⟨underlying271,⟨t334,_,by kernel_rfl,rfl,rfl,rfl,rfl⟩,by decide,⟨sizeOf334,_,zeroValue334,rfl⟩⟩
def TZ:lV prog 305 24 2 16:=⟨underlying305,⟨t24,_,by kernel_rfl,rfl,rfl,rfl,rfl⟩,by decide,⟨sizeOf24,_,zeroValue24,rfl⟩⟩
def PX:lV prog 330 47 1 24:=⟨underlying330,⟨t47,_,by kernel_rfl,rfl,rfl,rfl,rfl⟩,by decide,⟨sizeOf47,_,zeroValue47,rfl⟩⟩
def PY:lV prog 337 341 2 16:=⟨underlying337,⟨t341,_,by kernel_rfl,rfl,rfl,rfl,rfl⟩,by decide,⟨sizeOf341,_,zeroValue341,rfl⟩⟩
def WO:lV prog 35 37 3 40:=⟨underlying35,⟨t37,_,by kernel_rfl,rfl,rfl,rfl,rfl⟩,by decide,⟨sizeOf37,_,zeroValue37,rfl⟩⟩
def T3:lV prog 355 410 3 24:=⟨underlying355,⟨t410,_,by kernel_rfl,rfl,rfl,rfl,rfl⟩,by decide,⟨sizeOf410,_,zeroValue410,rfl⟩⟩
def PZ:lV prog 361 413 2 16:=⟨underlying361,⟨t413,_,by kernel_rfl,rfl,rfl,rfl,rfl⟩,by decide,⟨sizeOf413,_,zeroValue413,rfl⟩⟩
def Yv:lV prog 418 148 1 8:=⟨underlying418,⟨t148,_,by kernel_rfl,rfl,rfl,rfl,rfl⟩,by decide,⟨sizeOf148,_,zeroValue148,rfl⟩⟩
def Lz:lV prog 44 133 3 48:=⟨underlying44,⟨t133,_,by kernel_rfl,rfl,rfl,rfl,rfl⟩,by decide,⟨sizeOf133,_,zeroValue133,rfl⟩⟩
def LA:lV prog 45 199 3 32:=⟨underlying45,⟨t199,_,by kernel_rfl,rfl,rfl,rfl,rfl⟩,by decide,⟨sizeOf199,_,zeroValue199,rfl⟩⟩
def LB:lV prog 46 68 13 136:=⟨underlying46,⟨t68,_,by kernel_rfl,rfl,rfl,rfl,rfl⟩,by decide,⟨sizeOf68,_,zeroValue68,rfl⟩⟩
def T4:lV prog 463 467 3 24:=⟨underlying463,⟨t467,_,by kernel_rfl,rfl,rfl,rfl,rfl⟩,by decide,⟨sizeOf467,_,zeroValue467,rfl⟩⟩
def ZY:lV prog 47 3 1 8:=⟨underlying47,⟨t3,_,by kernel_rfl,rfl,rfl,rfl,rfl⟩,by decide,⟨sizeOf3,_,zeroValue3,rfl⟩⟩
def O4:lV prog 48 305 1 24:=⟨underlying48,⟨t305,_,by kernel_rfl,rfl,rfl,rfl,rfl⟩,by decide,⟨sizeOf305,_,zeroValue305,rfl⟩⟩
def O5:lV prog 62 140 2 32:=⟨underlying62,⟨t140,_,by kernel_rfl,rfl,rfl,rfl,rfl⟩,by decide,⟨sizeOf140,_,zeroValue140,rfl⟩⟩
def P0:nL prog 102 [.string ⟨#[]⟩,.int .i64 (0)] (fun i=>([(0,1),(1,1)]:List (Nat×Nat)).toArray[i]?):=⟨by intro parts;kernel_rfl⟩
def T6:nL prog 105 [.slice none 0 0,.int .i64 (0)] (fun i=>([(0,1),(1,1)]:List (Nat×Nat)).toArray[i]?):=⟨by intro parts;kernel_rfl⟩
def RM:nL prog 107 [.slice none 0 0,.string ⟨#[]⟩,.int .i64 (0),.int .i64 (0),.int .i64 (0),.slice none 0 0,.int .i64 (0)] (fun i=>([(0,5),(5,2)]:List (Nat×Nat)).toArray[i]?):=⟨by intro parts;kernel_rfl⟩
def bu123:nL prog 123 [.int .i64 (0),.string ⟨#[]⟩,.int .i64 (0),.string ⟨#[]⟩,.slice none 0 0,.int .i64 (0),.bool false,.int .i64 (0),.bool false,.int .i64 (0),.int .i64 (0),.int .i64 (0),.int .i64 (0),.slice none 0 0] (fun i=>([(0,13),(13,1)]:List (Nat×Nat)).toArray[i]?):=⟨by intro parts;kernel_rfl⟩
def bu130:nL prog 130 [.slice none 0 0,.string ⟨#[]⟩,.int .i64 (0),.int .i64 (0),.int .i64 (0),.slice none 0 0,.int .i64 (0),.slice none 0 0,.slice none 0 0,.slice none 0 0,.slice none 0 0,.int .i64 (0),.int .i64 (0),.slice none 0 0,.bool false,.int .i64 (0),.int .i64 (0)] (fun i=>([(0,7),(7,1),(8,1),(9,1),(10,1),(11,3),(14,1),(15,1),(16,1)]:List (Nat×Nat)).toArray[i]?):=⟨by intro parts;kernel_rfl⟩
def M3:nL prog 133 [.string ⟨#[]⟩,.int .i64 (0),.slice none 0 0] (fun i=>([(0,2),(2,1)]:List (Nat×Nat)).toArray[i]?):=⟨by intro parts;kernel_rfl⟩
def bu135:nL prog 135 [.string ⟨#[]⟩,.int .i64 (0),.slice none 0 0,.int .i64 (0)] (fun i=>([(0,3),(3,1)]:List (Nat×Nat)).toArray[i]?):=⟨by intro parts;kernel_rfl⟩
def T7:nL prog 140 [.int .i64 (0),.slice none 0 0] (fun i=>([(0,1),(1,1)]:List (Nat×Nat)).toArray[i]?):=⟨by intro parts;kernel_rfl⟩
def bu149:nL prog 149 [.pointer none,.pointer none,.pointer none,.pointer none,.pointer none] (fun i=>some (i * 1,1)):=⟨by intro parts;kernel_rfl⟩
def Yw:nL prog 165 [.int .i64 (0),.string ⟨#[]⟩,.nilFunc] (fun i=>([(0,1),(1,1),(2,1)]:List (Nat×Nat)).toArray[i]?):=⟨by intro parts;kernel_rfl⟩
def M4:nL prog 170 [.slice none 0 0,.slice none 0 0] (fun i=>([(0,1),(1,1)]:List (Nat×Nat)).toArray[i]?):=⟨by intro parts;kernel_rfl⟩
def bu178:nL prog 178 [.string ⟨#[]⟩,.string ⟨#[]⟩,.string ⟨#[]⟩,.string ⟨#[]⟩,.int .i64 (0)] (fun i=>([(0,1),(1,1),(2,1),(3,1),(4,1)]:List (Nat×Nat)).toArray[i]?):=⟨by intro parts;kernel_rfl⟩
def K3:nL prog 199 [.string ⟨#[]⟩,.int .i64 (0),.int .i64 (0)] (fun i=>([(0,1),(1,1),(2,1)]:List (Nat×Nat)).toArray[i]?):=⟨by intro parts;kernel_rfl⟩
def bu201:nL prog 201 [.string ⟨#[]⟩,.int .i64 (0),.int .i64 (0),.int .i64 (0)] (fun i=>([(0,3),(3,1)]:List (Nat×Nat)).toArray[i]?):=⟨by intro parts;kernel_rfl⟩
def M5:nL prog 223 [.slice none 0 0] (fun i=>([(0,1)]:List (Nat×Nat)).toArray[i]?):=⟨by intro parts;kernel_rfl⟩
def M6:nL prog 24 [.int .i64 (0),.int .i64 (0)] (fun i=>([(0,1),(1,1)]:List (Nat×Nat)).toArray[i]?):=⟨by intro parts;kernel_rfl⟩
def bu26:nL prog 26 [.slice none 0 0,.string ⟨#[]⟩,.int .i64 (0),.int .i64 (0),.int .i64 (0)] (fun i=>([(0,1),(1,1),(2,1),(3,2)]:List (Nat×Nat)).toArray[i]?):=⟨by intro parts;kernel_rfl⟩
def P3:nL prog 273 [.slice none 0 0] (fun i=>([(0,1)]:List (Nat×Nat)).toArray[i]?):=⟨by intro parts;kernel_rfl⟩
def M7:nL prog 303 [.bool false,.slice none 0 0] (fun i=>([(0,1),(1,1)]:List (Nat×Nat)).toArray[i]?):=⟨by intro parts;kernel_rfl⟩
def bu319:nL prog 319 [.slice none 0 0,.int .i64 (0)] (fun i=>([(0,2)]:List (Nat×Nat)).toArray[i]?):=⟨by intro parts;kernel_rfl⟩
def K4:nL prog 334 [.int .i64 (0),.int .i64 (0),.int .i64 (0),.int .i64 (0)] (fun i=>([(0,1),(1,1),(2,2)]:List (Nat×Nat)).toArray[i]?):=⟨by intro parts;kernel_rfl⟩
def P4:nL prog 341 [.int .i64 (0),.int .i64 (0)] (fun i=>([(0,1),(1,1)]:List (Nat×Nat)).toArray[i]?):=⟨by intro parts;kernel_rfl⟩
def bu345:nL prog 345 [.string ⟨#[]⟩] (fun i=>([(0,1)]:List (Nat×Nat)).toArray[i]?):=⟨by intro parts;kernel_rfl⟩
def P5:nL prog 354 [.int .i64 (0),.int .i64 (0),.int .i64 (0),.int .i64 (0),.int .i64 (0),.slice none 0 0] (fun i=>([(0,1),(1,1),(2,1),(3,1),(4,1),(5,1)]:List (Nat×Nat)).toArray[i]?):=⟨by intro parts;kernel_rfl⟩
def Ws:nL prog 37 [.int .i64 (0),.string ⟨#[]⟩,.string ⟨#[]⟩] (fun i=>([(0,1),(1,1),(2,1)]:List (Nat×Nat)).toArray[i]?):=⟨by intro parts;kernel_rfl⟩
def P6:nL prog 410 [.int .i64 (0),.int .i64 (0),.int .i64 (0)] (fun i=>([(0,1),(1,1),(2,1)]:List (Nat×Nat)).toArray[i]?):=⟨by intro parts;kernel_rfl⟩
def K5:nL prog 413 [.int .i64 (0),.int .i64 (0)] (fun i=>([(0,1),(1,1)]:List (Nat×Nat)).toArray[i]?):=⟨by intro parts;kernel_rfl⟩
def T8:nL prog 416 [.bool false,.bool false,.bool false,.bool false] (fun i=>([(0,1),(1,1),(2,1),(3,1)]:List (Nat×Nat)).toArray[i]?):=⟨by intro parts;kernel_rfl⟩
def bu449:nL prog 449 [.string ⟨#[]⟩,.string ⟨#[]⟩,.string ⟨#[]⟩,.string ⟨#[]⟩,.string ⟨#[]⟩,.string ⟨#[]⟩] (fun i=>some (i * 1,1)):=⟨by intro parts;kernel_rfl⟩
def P7:nL prog 467 [.nilFunc,.int .i64 (0),.int .i64 (0)] (fun i=>([(0,1),(1,1),(2,1)]:List (Nat×Nat)).toArray[i]?):=⟨by intro parts;kernel_rfl⟩
def M8:nL prog 50 [.int .i64 (0),.int .i64 (0),.slice none 0 0] (fun i=>([(0,1),(1,1),(2,1)]:List (Nat×Nat)).toArray[i]?):=⟨by intro parts;kernel_rfl⟩
def bu52:nL prog 52 [.slice none 0 0,.slice none 0 0,.slice none 0 0,.slice none 0 0,.int .i64 (0),.int .i64 (0),.slice none 0 0] (fun i=>([(0,1),(1,1),(2,1),(3,1),(4,3)]:List (Nat×Nat)).toArray[i]?):=⟨by intro parts;kernel_rfl⟩
def JB:nL prog 59 [.string ⟨#[]⟩,.int .i64 (0)] (fun i=>([(0,1),(1,1)]:List (Nat×Nat)).toArray[i]?):=⟨by intro parts;kernel_rfl⟩
def M9:nL prog 64 [.int .i64 (0),.int .i64 (0)] (fun i=>([(0,1),(1,1)]:List (Nat×Nat)).toArray[i]?):=⟨by intro parts;kernel_rfl⟩
def QU:nL prog 66 [.int .i64 (0),.int .i64 (0),.int .i64 (0),.int .i64 (0)] (fun i=>([(0,2),(2,2)]:List (Nat×Nat)).toArray[i]?):=⟨by intro parts;kernel_rfl⟩
def bu68:nL prog 68 [.int .i64 (0),.string ⟨#[]⟩,.int .i64 (0),.string ⟨#[]⟩,.slice none 0 0,.int .i64 (0),.bool false,.int .i64 (0),.bool false,.int .i64 (0),.int .i64 (0),.int .i64 (0),.int .i64 (0)] (fun i=>([(0,1),(1,2),(3,1),(4,1),(5,1),(6,1),(7,1),(8,1),(9,4)]:List (Nat×Nat)).toArray[i]?):=⟨by intro parts;kernel_rfl⟩
def JC:nL prog 98 [.int .i64 (0),.int .i64 (0),.int .i64 (0),.int .i64 (0),.int .i64 (0),.int .i64 (0)] (fun i=>([(0,1),(1,1),(2,1),(3,1),(4,1),(5,1)]:List (Nat×Nat)).toArray[i]?):=⟨by intro parts;kernel_rfl⟩
def IM:Hf prog 98 6:=Hf.z6 (T:=3) V underlying98 V V underlying3 isAgg3
def WW:dz prog 102 0 0:=⟨_,_,_,underlying102,rfl,rfl,by decide,sizeOf9⟩
def S_:dz prog 102 1 1:=⟨_,_,_,underlying102,rfl,rfl,by decide,sizeOf3⟩
def XO:dz prog 105 0 0:=⟨_,_,_,underlying105,rfl,rfl,by decide,sizeOf103⟩
def Ta:dz prog 105 1 1:=⟨_,_,_,underlying105,rfl,rfl,by decide,sizeOf3⟩
def XP:dz prog 107 0 0:=⟨_,_,_,underlying107,rfl,rfl,by decide,sizeOf26⟩
def WX:dz prog 107 1 5:=⟨_,_,_,underlying107,rfl,rfl,by decide,sizeOf105⟩
def ZZ:dz prog 123 0 0:=⟨_,_,_,underlying123,rfl,rfl,by decide,sizeOf68⟩
def Zc:dz prog 123 1 13:=⟨_,_,_,underlying123,rfl,rfl,by decide,sizeOf47⟩
def Y5:dz prog 130 0 0:=⟨_,_,_,underlying130,rfl,rfl,by decide,sizeOf107⟩
def Tb:dz prog 130 1 7:=⟨_,_,_,underlying130,rfl,rfl,by decide,sizeOf125⟩
def VK:dz prog 130 2 8:=⟨_,_,_,underlying130,rfl,rfl,by decide,sizeOf127⟩
def VL:dz prog 130 3 9:=⟨_,_,_,underlying130,rfl,rfl,by decide,sizeOf128⟩
def VM:dz prog 130 4 10:=⟨_,_,_,underlying130,rfl,rfl,by decide,sizeOf128⟩
def Qf:dz prog 130 5 11:=⟨_,_,_,underlying130,rfl,rfl,by decide,sizeOf50⟩
def LP:dz prog 130 6 14:=⟨_,_,_,underlying130,rfl,rfl,by decide,sizeOf4⟩
def Zd:dz prog 130 7 15:=⟨_,_,_,underlying130,rfl,rfl,by decide,sizeOf3⟩
def Tc:dz prog 130 8 16:=⟨_,_,_,underlying130,rfl,rfl,by decide,sizeOf3⟩
def WY:dz prog 133 0 0:=⟨_,_,_,underlying133,rfl,rfl,by decide,sizeOf59⟩
def Qg:dz prog 133 1 2:=⟨_,_,_,underlying133,rfl,rfl,by decide,sizeOf131⟩
def VN:dz prog 135 0 0:=⟨_,_,_,underlying135,rfl,rfl,by decide,sizeOf133⟩
def Qh:dz prog 135 1 3:=⟨_,_,_,underlying135,rfl,rfl,by decide,sizeOf3⟩
def Td:dz prog 140 0 0:=⟨_,_,_,underlying140,rfl,rfl,by decide,sizeOf3⟩
def XQ:dz prog 140 1 1:=⟨_,_,_,underlying140,rfl,rfl,by decide,sizeOf47⟩
def Qi:dz prog 165 0 0:=⟨_,_,_,underlying165,rfl,rfl,by decide,sizeOf3⟩
def LQ:dz prog 165 1 1:=⟨_,_,_,underlying165,rfl,rfl,by decide,sizeOf9⟩
def LR:dz prog 165 2 2:=⟨_,_,_,underlying165,rfl,rfl,by decide,sizeOf163⟩
def Te:dz prog 170 0 0:=⟨_,_,_,underlying170,rfl,rfl,by decide,sizeOf47⟩
def VO:dz prog 170 1 1:=⟨_,_,_,underlying170,rfl,rfl,by decide,sizeOf103⟩
def LS:dz prog 178 0 0:=⟨_,_,_,underlying178,rfl,rfl,by decide,sizeOf9⟩
def WZ:dz prog 178 1 1:=⟨_,_,_,underlying178,rfl,rfl,by decide,sizeOf9⟩
def VP:dz prog 178 2 2:=⟨_,_,_,underlying178,rfl,rfl,by decide,sizeOf9⟩
def LU:dz prog 178 3 3:=⟨_,_,_,underlying178,rfl,rfl,by decide,sizeOf9⟩
def Qj:dz prog 178 4 4:=⟨_,_,_,underlying178,rfl,rfl,by decide,sizeOf3⟩
def Tg:dz prog 199 0 0:=⟨_,_,_,underlying199,rfl,rfl,by decide,sizeOf9⟩
def Th:dz prog 199 1 1:=⟨_,_,_,underlying199,rfl,rfl,by decide,sizeOf3⟩
def Yy:dz prog 199 2 2:=⟨_,_,_,underlying199,rfl,rfl,by decide,sizeOf3⟩
def XR:dz prog 201 0 0:=⟨_,_,_,underlying201,rfl,rfl,by decide,sizeOf199⟩
def Qk:dz prog 201 1 3:=⟨_,_,_,underlying201,rfl,rfl,by decide,sizeOf3⟩
def Ql:dz prog 223 0 0:=⟨_,_,_,underlying223,rfl,rfl,by decide,sizeOf221⟩
def Ze:dz prog 24 0 0:=⟨_,_,_,underlying24,rfl,rfl,by decide,sizeOf3⟩
def YU:dz prog 24 1 1:=⟨_,_,_,underlying24,rfl,rfl,by decide,sizeOf3⟩
def Xr:dz prog 26 0 0:=⟨_,_,_,underlying26,rfl,rfl,by decide,sizeOf22⟩
def Nk:dz prog 26 1 1:=⟨_,_,_,underlying26,rfl,rfl,by decide,sizeOf9⟩
def Q1:dz prog 26 2 2:=⟨_,_,_,underlying26,rfl,rfl,by decide,sizeOf3⟩
def YH:dz prog 26 3 3:=⟨_,_,_,underlying26,rfl,rfl,by decide,sizeOf24⟩
def Yg:dz prog 273 0 0:=⟨_,_,_,underlying273,rfl,rfl,by decide,sizeOf271⟩
def Qm:dz prog 303 0 0:=⟨_,_,_,underlying303,rfl,rfl,by decide,sizeOf4⟩
def Ti:dz prog 303 1 1:=⟨_,_,_,underlying303,rfl,rfl,by decide,sizeOf47⟩
def Tj:dz prog 319 0 0:=⟨_,_,_,underlying319,rfl,rfl,by decide,sizeOf105⟩
def Yh:dz prog 334 0 0:=⟨_,_,_,underlying334,rfl,rfl,by decide,sizeOf3⟩
def Tk:dz prog 334 1 1:=⟨_,_,_,underlying334,rfl,rfl,by decide,sizeOf3⟩
def YP:dz prog 334 2 2:=⟨_,_,_,underlying334,rfl,rfl,by decide,sizeOf24⟩
def Tl:dz prog 341 0 0:=⟨_,_,_,underlying341,rfl,rfl,by decide,sizeOf3⟩
def Tm:dz prog 341 1 1:=⟨_,_,_,underlying341,rfl,rfl,by decide,sizeOf3⟩
def LV:dz prog 345 0 0:=⟨_,_,_,underlying345,rfl,rfl,by decide,sizeOf9⟩
def Tn:dz prog 354 0 0:=⟨_,_,_,underlying354,rfl,rfl,by decide,sizeOf3⟩
def LW:dz prog 354 1 1:=⟨_,_,_,underlying354,rfl,rfl,by decide,sizeOf3⟩
def LX:dz prog 354 2 2:=⟨_,_,_,underlying354,rfl,rfl,by decide,sizeOf3⟩
def VQ:dz prog 354 3 3:=⟨_,_,_,underlying354,rfl,rfl,by decide,sizeOf3⟩
def LY:dz prog 354 4 4:=⟨_,_,_,underlying354,rfl,rfl,by decide,sizeOf3⟩
def Qn:dz prog 354 5 5:=⟨_,_,_,underlying354,rfl,rfl,by decide,sizeOf131⟩
def Wv:dz prog 37 0 0:=⟨_,_,_,underlying37,rfl,rfl,by decide,sizeOf3⟩
def JU:dz prog 37 1 1:=⟨_,_,_,underlying37,rfl,rfl,by decide,sizeOf9⟩
def UU:dz prog 37 2 2:=⟨_,_,_,underlying37,rfl,rfl,by decide,sizeOf9⟩
def LZ:dz prog 413 0 0:=⟨_,_,_,underlying413,rfl,rfl,by decide,sizeOf3⟩
def L0:dz prog 413 1 1:=⟨_,_,_,underlying413,rfl,rfl,by decide,sizeOf3⟩
def L3:dz prog 416 0 0:=⟨_,_,_,underlying416,rfl,rfl,by decide,sizeOf4⟩
def L4:dz prog 416 1 1:=⟨_,_,_,underlying416,rfl,rfl,by decide,sizeOf4⟩
def L5:dz prog 416 2 2:=⟨_,_,_,underlying416,rfl,rfl,by decide,sizeOf4⟩
def L6:dz prog 416 3 3:=⟨_,_,_,underlying416,rfl,rfl,by decide,sizeOf4⟩
def Qo:dz prog 467 0 0:=⟨_,_,_,underlying467,rfl,rfl,by decide,sizeOf465⟩
def Qp:dz prog 467 1 1:=⟨_,_,_,underlying467,rfl,rfl,by decide,sizeOf3⟩
def Qq:dz prog 467 2 2:=⟨_,_,_,underlying467,rfl,rfl,by decide,sizeOf3⟩
def Nl:dz prog 50 0 0:=⟨_,_,_,underlying50,rfl,rfl,by decide,sizeOf3⟩
def Nn:dz prog 50 1 1:=⟨_,_,_,underlying50,rfl,rfl,by decide,sizeOf3⟩
def Ww:dz prog 50 2 2:=⟨_,_,_,underlying50,rfl,rfl,by decide,sizeOf48⟩
def Xs:dz prog 52 0 0:=⟨_,_,_,underlying52,rfl,rfl,by decide,sizeOf44⟩
def Wx:dz prog 52 1 1:=⟨_,_,_,underlying52,rfl,rfl,by decide,sizeOf45⟩
def ZM:dz prog 52 2 2:=⟨_,_,_,underlying52,rfl,rfl,by decide,sizeOf46⟩
def Q2:dz prog 52 3 3:=⟨_,_,_,underlying52,rfl,rfl,by decide,sizeOf47⟩
def Q3:dz prog 52 4 4:=⟨_,_,_,underlying52,rfl,rfl,by decide,sizeOf50⟩
def Q5:dz prog 59 0 0:=⟨_,_,_,underlying59,rfl,rfl,by decide,sizeOf9⟩
def Q6:dz prog 59 1 1:=⟨_,_,_,underlying59,rfl,rfl,by decide,sizeOf3⟩
def JV:dz prog 64 0 0:=⟨_,_,_,underlying64,rfl,rfl,by decide,sizeOf3⟩
def JW:dz prog 64 1 1:=⟨_,_,_,underlying64,rfl,rfl,by decide,sizeOf3⟩
def Q7:dz prog 66 0 0:=⟨_,_,_,underlying66,rfl,rfl,by decide,sizeOf64⟩
def Np:dz prog 66 1 2:=⟨_,_,_,underlying66,rfl,rfl,by decide,sizeOf64⟩
def JY:dz prog 68 0 0:=⟨_,_,_,underlying68,rfl,rfl,by decide,sizeOf3⟩
def YI:dz prog 68 1 1:=⟨_,_,_,underlying68,rfl,rfl,by decide,sizeOf59⟩
def To:dz prog 68 2 3:=⟨_,_,_,underlying68,rfl,rfl,by decide,sizeOf9⟩
def Zf:dz prog 68 3 4:=⟨_,_,_,underlying68,rfl,rfl,by decide,sizeOf62⟩
def Yt:dz prog 68 4 5:=⟨_,_,_,underlying68,rfl,rfl,by decide,sizeOf3⟩
def JZ:dz prog 68 5 6:=⟨_,_,_,underlying68,rfl,rfl,by decide,sizeOf4⟩
def Q8:dz prog 68 6 7:=⟨_,_,_,underlying68,rfl,rfl,by decide,sizeOf3⟩
def Tp:dz prog 68 7 8:=⟨_,_,_,underlying68,rfl,rfl,by decide,sizeOf4⟩
def Q9:dz prog 68 8 9:=⟨_,_,_,underlying68,rfl,rfl,by decide,sizeOf66⟩
def J2:dz prog 98 1 1:=⟨_,_,_,underlying98,rfl,rfl,by decide,sizeOf3⟩
def J3:dz prog 98 2 2:=⟨_,_,_,underlying98,rfl,rfl,by decide,sizeOf3⟩
def J4:dz prog 98 3 3:=⟨_,_,_,underlying98,rfl,rfl,by decide,sizeOf3⟩
def J5:dz prog 98 4 4:=⟨_,_,_,underlying98,rfl,rfl,by decide,sizeOf3⟩
def J6:dz prog 98 5 5:=⟨_,_,_,underlying98,rfl,rfl,by decide,sizeOf3⟩
def Z9:o7 prog 103 9 1:=⟨underlying103,sizeOf9⟩
def OM:o7 prog 125 126 1:=⟨underlying125,sizeOf126⟩
def ON:o7 prog 127 196 1:=⟨underlying127,sizeOf196⟩
def YS:o7 prog 128 119 1:=⟨underlying128,sizeOf119⟩
def Z2:o7 prog 131 354 6:=⟨underlying131,sizeOf354⟩
def Wl:o7 prog 184 29 1:=⟨underlying184,sizeOf29⟩
def Ys:o7 prog 22 102 2:=⟨underlying22,sizeOf102⟩
def Zj:o7 prog 221 303 2:=⟨underlying221,sizeOf303⟩
def YC:o7 prog 226 223 1:=⟨underlying226,sizeOf223⟩
def Lm:o7 prog 230 5 1:=⟨underlying230,sizeOf5⟩
def Y3:o7 prog 271 334 4:=⟨underlying271,sizeOf334⟩
def SF:o7 prog 305 24 2:=⟨underlying305,sizeOf24⟩
def Vu:o7 prog 330 47 1:=⟨underlying330,sizeOf47⟩
def Wm:o7 prog 337 341 2:=⟨underlying337,sizeOf341⟩
def Y8:o7 prog 35 37 3:=⟨underlying35,sizeOf37⟩
def si355:o7 prog 355 410 3:=⟨underlying355,sizeOf410⟩
def SG:o7 prog 361 413 2:=⟨underlying361,sizeOf413⟩
def SH:o7 prog 418 148 1:=⟨underlying418,sizeOf148⟩
def PO:o7 prog 44 133 3:=⟨underlying44,sizeOf133⟩
def TQ:o7 prog 45 199 3:=⟨underlying45,sizeOf199⟩
def ZH:o7 prog 46 68 13:=⟨underlying46,sizeOf68⟩
def Ln:o7 prog 463 467 3:=⟨underlying463,sizeOf467⟩
def Z4:o7 prog 47 3 1:=⟨underlying47,sizeOf3⟩
def SI:o7 prog 48 305 1:=⟨underlying48,sizeOf305⟩
def Xj:o7 prog 62 140 2:=⟨underlying62,sizeOf140⟩
def fR:F4 prog 9:=⟨underlying9⟩
def Lo:eT prog 102 true 2:=⟨isAgg102,sizeOf102⟩
def Xl:eT prog 103 false 1:=⟨isAgg103,sizeOf103⟩
def Za:eT prog 105 true 2:=⟨isAgg105,sizeOf105⟩
def Xm:eT prog 107 true 7:=⟨isAgg107,sizeOf107⟩
def Yd:eT prog 113 false 1:=⟨isAgg113,sizeOf113⟩
def Lp:eT prog 119 false 1:=⟨isAgg119,sizeOf119⟩
def Lr:eT prog 123 true 14:=⟨isAgg123,sizeOf123⟩
def SJ:eT prog 125 false 1:=⟨isAgg125,sizeOf125⟩
def SL:eT prog 126 false 1:=⟨isAgg126,sizeOf126⟩
def SM:eT prog 127 false 1:=⟨isAgg127,sizeOf127⟩
def YD:eT prog 128 false 1:=⟨isAgg128,sizeOf128⟩
def Wn:eT prog 131 false 1:=⟨isAgg131,sizeOf131⟩
def Ye:eT prog 140 true 2:=⟨isAgg140,sizeOf140⟩
def ti148:eT prog 148 false 1:=⟨isAgg148,sizeOf148⟩
def ti149:eT prog 149 true 5:=⟨isAgg149,sizeOf149⟩
def ti163:eT prog 163 false 1:=⟨isAgg163,sizeOf163⟩
def YN:eT prog 165 true 3:=⟨isAgg165,sizeOf165⟩
def UC:eT prog 170 true 2:=⟨isAgg170,sizeOf170⟩
def Y4:eT prog 178 true 5:=⟨isAgg178,sizeOf178⟩
def ti196:eT prog 196 false 1:=⟨isAgg196,sizeOf196⟩
def SN:eT prog 22 false 1:=⟨isAgg22,sizeOf22⟩
def OU:eT prog 221 false 1:=⟨isAgg221,sizeOf221⟩
def XK:eT prog 223 true 1:=⟨isAgg223,sizeOf223⟩
def MN:eT prog 24 true 2:=⟨isAgg24,sizeOf24⟩
def XB:eT prog 26 true 5:=⟨isAgg26,sizeOf26⟩
def VB:eT prog 271 false 1:=⟨isAgg271,sizeOf271⟩
def Wo:eT prog 273 true 1:=⟨isAgg273,sizeOf273⟩
def MO:eT prog 29 false 1:=⟨isAgg29,sizeOf29⟩
def Z8:eT prog 3 false 1:=⟨isAgg3,sizeOf3⟩
def OV:eT prog 303 true 2:=⟨isAgg303,sizeOf303⟩
def OW:eT prog 305 false 1:=⟨isAgg305,sizeOf305⟩
def SO:eT prog 319 true 2:=⟨isAgg319,sizeOf319⟩
def XL:eT prog 330 false 1:=⟨isAgg330,sizeOf330⟩
def OX:eT prog 334 true 4:=⟨isAgg334,sizeOf334⟩
def Ls:eT prog 341 true 2:=⟨isAgg341,sizeOf341⟩
def ti345:eT prog 345 true 1:=⟨isAgg345,sizeOf345⟩
def Z3:eT prog 354 true 6:=⟨isAgg354,sizeOf354⟩
def TT:eT prog 37 true 3:=⟨isAgg37,sizeOf37⟩
def SP:eT prog 4 false 1:=⟨isAgg4,sizeOf4⟩
def SQ:eT prog 413 true 2:=⟨isAgg413,sizeOf413⟩
def VC:eT prog 416 true 4:=⟨isAgg416,sizeOf416⟩
def RH:eT prog 44 false 1:=⟨isAgg44,sizeOf44⟩
def Lt:eT prog 449 true 6:=⟨isAgg449,sizeOf449⟩
def SR:eT prog 45 false 1:=⟨isAgg45,sizeOf45⟩
def Zl:eT prog 46 false 1:=⟨isAgg46,sizeOf46⟩
def Lu:eT prog 465 false 1:=⟨isAgg465,sizeOf465⟩
def ti467:eT prog 467 true 3:=⟨isAgg467,sizeOf467⟩
def ZA:eT prog 47 false 1:=⟨isAgg47,sizeOf47⟩
def PR:eT prog 48 false 1:=⟨isAgg48,sizeOf48⟩
def ti5:eT prog 5 false 1:=⟨isAgg5,sizeOf5⟩
def WM:eT prog 50 true 3:=⟨isAgg50,sizeOf50⟩
def Z_:eT prog 52 true 7:=⟨isAgg52,sizeOf52⟩
def V7:eT prog 59 true 2:=⟨isAgg59,sizeOf59⟩
def XM:eT prog 62 false 1:=⟨isAgg62,sizeOf62⟩
def XN:eT prog 64 true 2:=⟨isAgg64,sizeOf64⟩
def WN:eT prog 66 true 4:=⟨isAgg66,sizeOf66⟩
def TU:eT prog 68 true 13:=⟨isAgg68,sizeOf68⟩
def Y9:eT prog 9 false 1:=⟨isAgg9,sizeOf9⟩
def KY:eT prog 98 true 6:=⟨isAgg98,sizeOf98⟩
def ze102:pN prog 102 [.str [],.int .i64 (0)]:=⟨_,zeroValue102,rfl,rfl⟩
def Lv:pN prog 105 [.bO,.int .i64 (0)]:=⟨_,zeroValue105,rfl,rfl⟩
def ze107:pN prog 107 [.bO,.str [],.int .i64 (0),.int .i64 (0),.int .i64 (0),.bO,.int .i64 (0)]:=⟨_,zeroValue107,rfl,rfl⟩
def ze126:pN prog 126 [.raw (.pointer none)]:=⟨_,zeroValue126,rfl,rfl⟩
def ze131:pN prog 131 [.bO]:=⟨_,zeroValue131,rfl,rfl⟩
def C_:pN prog 140 [.int .i64 (0),.bO]:=⟨_,zeroValue140,rfl,rfl⟩
def DO:pN prog 149 [.raw (.pointer none),.raw (.pointer none),.raw (.pointer none),.raw (.pointer none),.raw (.pointer none)]:=⟨_,zeroValue149,rfl,rfl⟩
def D_:pN prog 165 [.int .i64 (0),.str [],.raw .nilFunc]:=⟨_,zeroValue165,rfl,rfl⟩
def E_:pN prog 170 [.bO,.bO]:=⟨_,zeroValue170,rfl,rfl⟩
def F_:pN prog 178 [.str [],.str [],.str [],.str [],.int .i64 (0)]:=⟨_,zeroValue178,rfl,rfl⟩
def O0:pN prog 223 [.bO]:=⟨_,zeroValue223,rfl,rfl⟩
def GB:pN prog 24 [.int .i64 (0),.int .i64 (0)]:=⟨_,zeroValue24,rfl,rfl⟩
def ze26:pN prog 26 [.bO,.str [],.int .i64 (0),.int .i64 (0),.int .i64 (0)]:=⟨_,zeroValue26,rfl,rfl⟩
def G_:pN prog 273 [.bO]:=⟨_,zeroValue273,rfl,rfl⟩
def ze29:pN prog 29 [.int .i64 (0)]:=⟨_,zeroValue29,rfl,rfl⟩
def H_:pN prog 303 [.bool false,.bO]:=⟨_,zeroValue303,rfl,rfl⟩
def IF:pN prog 319 [.bO,.int .i64 (0)]:=⟨_,zeroValue319,rfl,rfl⟩
def IN:pN prog 330 [.bO]:=⟨_,zeroValue330,rfl,rfl⟩
def IS:pN prog 334 [.int .i64 (0),.int .i64 (0),.int .i64 (0),.int .i64 (0)]:=⟨_,zeroValue334,rfl,rfl⟩
def IT:pN prog 345 [.str []]:=⟨_,zeroValue345,rfl,rfl⟩
def I3:pN prog 354 [.int .i64 (0),.int .i64 (0),.int .i64 (0),.int .i64 (0),.int .i64 (0),.bO]:=⟨_,zeroValue354,rfl,rfl⟩
def ze37:pN prog 37 [.int .i64 (0),.str [],.str []]:=⟨_,zeroValue37,rfl,rfl⟩
def ze4:pN prog 4 [.bool false]:=⟨_,zeroValue4,rfl,rfl⟩
def O1:pN prog 413 [.int .i64 (0),.int .i64 (0)]:=⟨_,zeroValue413,rfl,rfl⟩
def I_:pN prog 416 [.bool false,.bool false,.bool false,.bool false]:=⟨_,zeroValue416,rfl,rfl⟩
def Jp:pN prog 467 [.raw .nilFunc,.int .i64 (0),.int .i64 (0)]:=⟨_,zeroValue467,rfl,rfl⟩
def ze47:pN prog 47 [.bO]:=⟨_,zeroValue47,rfl,rfl⟩
def Jq:pN prog 50 [.int .i64 (0),.int .i64 (0),.bO]:=⟨_,zeroValue50,rfl,rfl⟩
def KZ:pN prog 52 [.bO,.bO,.bO,.bO,.int .i64 (0),.int .i64 (0),.bO]:=⟨_,zeroValue52,rfl,rfl⟩
def ze59:pN prog 59 [.str [],.int .i64 (0)]:=⟨_,zeroValue59,rfl,rfl⟩
def ze64:pN prog 64 [.int .i64 (0),.int .i64 (0)]:=⟨_,zeroValue64,rfl,rfl⟩
def Jr:pN prog 66 [.int .i64 (0),.int .i64 (0),.int .i64 (0),.int .i64 (0)]:=⟨_,zeroValue66,rfl,rfl⟩
def ze68:pN prog 68 [.int .i64 (0),.str [],.int .i64 (0),.str [],.bO,.int .i64 (0),.bool false,.int .i64 (0),.bool false,.int .i64 (0),.int .i64 (0),.int .i64 (0),.int .i64 (0)]:=⟨_,zeroValue68,rfl,rfl⟩
def ze98:pN prog 98 [.int .i64 (0),.int .i64 (0),.int .i64 (0),.int .i64 (0),.int .i64 (0),.int .i64 (0)]:=⟨_,zeroValue98,rfl,rfl⟩
