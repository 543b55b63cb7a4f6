import Derived.Test.YtpbalelbenmmbaaGreatDoorFq
import Derived.Test.YtpbalelbenmmbaaGreatDoorProg
namespace Go.Proofs.YtpbalelbenmmbaaGreatDoor
open Go.Ab
theorem follows:Tryz.prog.follows .mixedOrders=true:=by kernel_rfl
theorem ai103:ApI Tryz.prog 103 9 1 16:=⟨Tryz.underlying103,⟨Tryz.t9,_,by kernel_rfl,rfl,rfl,rfl,rfl⟩,by decide,⟨Tryz.sizeOf9,_,Tryz.zeroValue9,rfl⟩⟩
theorem ai125:ApI Tryz.prog 125 126 1 8:=⟨Tryz.underlying125,⟨Tryz.t126,_,by kernel_rfl,rfl,rfl,rfl,rfl⟩,by decide,⟨Tryz.sizeOf126,_,Tryz.zeroValue126,rfl⟩⟩
theorem ai127:ApI Tryz.prog 127 196 1 8:=⟨Tryz.underlying127,⟨Tryz.t196,_,by kernel_rfl,rfl,rfl,rfl,rfl⟩,by decide,⟨Tryz.sizeOf196,_,Tryz.zeroValue196,rfl⟩⟩
theorem ai128:ApI Tryz.prog 128 119 1 8:=⟨Tryz.underlying128,⟨Tryz.t119,_,by kernel_rfl,rfl,rfl,rfl,rfl⟩,by decide,⟨Tryz.sizeOf119,_,Tryz.zeroValue119,rfl⟩⟩
theorem ai131:ApI Tryz.prog 131 354 6 64:=⟨Tryz.underlying131,⟨Tryz.t354,_,by kernel_rfl,rfl,rfl,rfl,rfl⟩,by decide,⟨Tryz.sizeOf354,_,Tryz.zeroValue354,rfl⟩⟩
theorem ai184:ApI Tryz.prog 184 29 1 8:=⟨Tryz.underlying184,⟨Tryz.t29,_,by kernel_rfl,rfl,rfl,rfl,rfl⟩,by decide,⟨Tryz.sizeOf29,_,Tryz.zeroValue29,rfl⟩⟩
theorem ai22:ApI Tryz.prog 22 102 2 24:=⟨Tryz.underlying22,⟨Tryz.t102,_,by kernel_rfl,rfl,rfl,rfl,rfl⟩,by decide,⟨Tryz.sizeOf102,_,Tryz.zeroValue102,rfl⟩⟩
theorem ai221:ApI Tryz.prog 221 303 2 32:=⟨Tryz.underlying221,⟨Tryz.t303,_,by kernel_rfl,rfl,rfl,rfl,rfl⟩,by decide,⟨Tryz.sizeOf303,_,Tryz.zeroValue303,rfl⟩⟩
theorem ai226:ApI Tryz.prog 226 223 1 24:=⟨Tryz.underlying226,⟨Tryz.t223,_,by kernel_rfl,rfl,rfl,rfl,rfl⟩,by decide,⟨Tryz.sizeOf223,_,Tryz.zeroValue223,rfl⟩⟩
theorem ai305:ApI Tryz.prog 305 24 2 16:=⟨Tryz.underlying305,⟨Tryz.t24,_,by kernel_rfl,rfl,rfl,rfl,rfl⟩,by decide,⟨Tryz.sizeOf24,_,Tryz.zeroValue24,rfl⟩⟩
theorem ai35:ApI Tryz.prog 35 37 3 40:=⟨Tryz.underlying35,⟨Tryz.t37,_,by kernel_rfl,rfl,rfl,rfl,rfl⟩,by decide,⟨Tryz.sizeOf37,_,Tryz.zeroValue37,rfl⟩⟩
theorem ai418:ApI Tryz.prog 418 148 1 8:=⟨Tryz.underlying418,⟨Tryz.t148,_,by kernel_rfl,rfl,rfl,rfl,rfl⟩,by decide,⟨Tryz.sizeOf148,_,Tryz.zeroValue148,rfl⟩⟩
theorem ai463:ApI Tryz.prog 463 467 3 24:=⟨Tryz.underlying463,⟨Tryz.t467,_,by kernel_rfl,rfl,rfl,rfl,rfl⟩,by decide,⟨Tryz.sizeOf467,_,Tryz.zeroValue467,rfl⟩⟩
theorem ai47:ApI Tryz.prog 47 3 1 8:=⟨Tryz.underlying47,⟨Tryz.t3,_,by kernel_rfl,rfl,rfl,rfl,rfl⟩,by decide,⟨Tryz.sizeOf3,_,Tryz.zeroValue3,rfl⟩⟩
theorem ai48:ApI Tryz.prog 48 305 1 24:=⟨Tryz.underlying48,⟨Tryz.t305,_,by kernel_rfl,rfl,rfl,rfl,rfl⟩,by decide,⟨Tryz.sizeOf305,_,Tryz.zeroValue305,rfl⟩⟩
theorem ai62:ApI Tryz.prog 62 140 2 32:=⟨Tryz.underlying62,⟨Tryz.t140,_,by kernel_rfl,rfl,rfl,rfl,rfl⟩,by decide,⟨Tryz.sizeOf140,_,Tryz.zeroValue140,rfl⟩⟩
theorem bu102:BuI Tryz.prog 102 [.string ⟨#[]⟩,.int .i64 (0)] (fun i=>([(0,1),(1,1)]:List (Nat×Nat)).toArray[i]?):=⟨by intro parts;kernel_rfl⟩
theorem bu105:BuI Tryz.prog 105 [.slice none 0 0,.int .i64 (0)] (fun i=>([(0,1),(1,1)]:List (Nat×Nat)).toArray[i]?):=⟨by intro parts;kernel_rfl⟩
theorem bu107:BuI Tryz.prog 107 [.slice none 0 0,.string ⟨#[]⟩,.int .i64 (0),.int .i64 (0),.int .i64 (0),.slice none 0 0,.int .i64 (0)] (fun i=>([(0,5),(5,2)]:List (Nat×Nat)).toArray[i]?):=⟨by intro parts;kernel_rfl⟩
theorem bu123:BuI Tryz.prog 123 [.int .i64 (0),.string ⟨#[]⟩,.int .i64 (0),.string ⟨#[]⟩,.slice none 0 0,.int .i64 (0),.bool false,.int .i64 (0),.bool false,.int .i64 (0),.int .i64 (0),.int .i64 (0),.int .i64 (0),.slice none 0 0] (fun i=>([(0,13),(13,1)]:List (Nat×Nat)).toArray[i]?):=⟨by intro parts;kernel_rfl⟩
theorem bu130:BuI Tryz.prog 130 [.slice none 0 0,.string ⟨#[]⟩,.int .i64 (0),.int .i64 (0),.int .i64 (0),.slice none 0 0,.int .i64 (0),.slice none 0 0,.slice none 0 0,.slice none 0 0,.slice none 0 0,.int .i64 (0),.int .i64 (0),.slice none 0 0,.bool false,.int .i64 (0),.int .i64 (0)] (fun i=>([(0,7),(7,1),(8,1),(9,1),(10,1),(11,3),(14,1),(15,1),(16,1)]:List (Nat×Nat)).toArray[i]?):=⟨by intro parts;kernel_rfl⟩
theorem bu133:BuI Tryz.prog 133 [.string ⟨#[]⟩,.int .i64 (0),.slice none 0 0] (fun i=>([(0,2),(2,1)]:List (Nat×Nat)).toArray[i]?):=⟨by intro parts;kernel_rfl⟩
theorem bu135:BuI Tryz.prog 135 [.string ⟨#[]⟩,.int .i64 (0),.slice none 0 0,.int .i64 (0)] (fun i=>([(0,3),(3,1)]:List (Nat×Nat)).toArray[i]?):=⟨by intro parts;kernel_rfl⟩
theorem bu140:BuI Tryz.prog 140 [.int .i64 (0),.slice none 0 0] (fun i=>([(0,1),(1,1)]:List (Nat×Nat)).toArray[i]?):=⟨by intro parts;kernel_rfl⟩
theorem bu149:BuI Tryz.prog 149 [.pointer none,.pointer none,.pointer none,.pointer none,.pointer none] (fun i=>some (i * 1,1)):=⟨by intro parts;kernel_rfl⟩
theorem bu165:BuI Tryz.prog 165 [.int .i64 (0),.string ⟨#[]⟩,.nilFunc] (fun i=>([(0,1),(1,1),(2,1)]:List (Nat×Nat)).toArray[i]?):=⟨by intro parts;kernel_rfl⟩
theorem bu170:BuI Tryz.prog 170 [.slice none 0 0,.slice none 0 0] (fun i=>([(0,1),(1,1)]:List (Nat×Nat)).toArray[i]?):=⟨by intro parts;kernel_rfl⟩
theorem bu199:BuI Tryz.prog 199 [.string ⟨#[]⟩,.int .i64 (0),.int .i64 (0)] (fun i=>([(0,1),(1,1),(2,1)]:List (Nat×Nat)).toArray[i]?):=⟨by intro parts;kernel_rfl⟩
theorem bu201:BuI Tryz.prog 201 [.string ⟨#[]⟩,.int .i64 (0),.int .i64 (0),.int .i64 (0)] (fun i=>([(0,3),(3,1)]:List (Nat×Nat)).toArray[i]?):=⟨by intro parts;kernel_rfl⟩
theorem bu223:BuI Tryz.prog 223 [.slice none 0 0] (fun i=>([(0,1)]:List (Nat×Nat)).toArray[i]?):=⟨by intro parts;kernel_rfl⟩
theorem bu24:BuI Tryz.prog 24 [.int .i64 (0),.int .i64 (0)] (fun i=>([(0,1),(1,1)]:List (Nat×Nat)).toArray[i]?):=⟨by intro parts;kernel_rfl⟩
theorem bu26:BuI Tryz.prog 26 [.slice none 0 0,.string ⟨#[]⟩,.int .i64 (0),.int .i64 (0),.int .i64 (0)] (fun i=>([(0,1),(1,1),(2,1),(3,2)]:List (Nat×Nat)).toArray[i]?):=⟨by intro parts;kernel_rfl⟩
theorem bu303:BuI Tryz.prog 303 [.bool false,.slice none 0 0] (fun i=>([(0,1),(1,1)]:List (Nat×Nat)).toArray[i]?):=⟨by intro parts;kernel_rfl⟩
theorem bu319:BuI Tryz.prog 319 [.slice none 0 0,.int .i64 (0)] (fun i=>([(0,2)]:List (Nat×Nat)).toArray[i]?):=⟨by intro parts;kernel_rfl⟩
theorem bu345:BuI Tryz.prog 345 [.string ⟨#[]⟩] (fun i=>([(0,1)]:List (Nat×Nat)).toArray[i]?):=⟨by intro parts;kernel_rfl⟩
theorem bu354:BuI Tryz.prog 354 [.int .i64 (0),.int .i64 (0),.int .i64 (0),.int .i64 (0),.int .i64 (0),.slice none 0 0] (fun i=>([(0,1),(1,1),(2,1),(3,1),(4,1),(5,1)]:List (Nat×Nat)).toArray[i]?):=⟨by intro parts;kernel_rfl⟩
theorem bu37:BuI Tryz.prog 37 [.int .i64 (0),.string ⟨#[]⟩,.string ⟨#[]⟩] (fun i=>([(0,1),(1,1),(2,1)]:List (Nat×Nat)).toArray[i]?):=⟨by intro parts;kernel_rfl⟩
theorem bu410:BuI Tryz.prog 410 [.int .i64 (0),.int .i64 (0),.int .i64 (0)] (fun i=>([(0,1),(1,1),(2,1)]:List (Nat×Nat)).toArray[i]?):=⟨by intro parts;kernel_rfl⟩
theorem bu467:BuI Tryz.prog 467 [.nilFunc,.int .i64 (0),.int .i64 (0)] (fun i=>([(0,1),(1,1),(2,1)]:List (Nat×Nat)).toArray[i]?):=⟨by intro parts;kernel_rfl⟩
theorem bu50:BuI Tryz.prog 50 [.int .i64 (0),.int .i64 (0),.slice none 0 0] (fun i=>([(0,1),(1,1),(2,1)]:List (Nat×Nat)).toArray[i]?):=⟨by intro parts;kernel_rfl⟩
theorem bu59:BuI Tryz.prog 59 [.string ⟨#[]⟩,.int .i64 (0)] (fun i=>([(0,1),(1,1)]:List (Nat×Nat)).toArray[i]?):=⟨by intro parts;kernel_rfl⟩
theorem bu68:BuI Tryz.prog 68 [.int .i64 (0),.string ⟨#[]⟩,.int .i64 (0),.string ⟨#[]⟩,.slice none 0 0,.int .i64 (0),.bool false,.int .i64 (0),.bool false,.int .i64 (0),.int .i64 (0),.int .i64 (0),.int .i64 (0)] (fun i=>([(0,1),(1,2),(3,1),(4,1),(5,1),(6,1),(7,1),(8,1),(9,4)]:List (Nat×Nat)).toArray[i]?):=⟨by intro parts;kernel_rfl⟩
theorem bu98:BuI Tryz.prog 98 [.int .i64 (0),.int .i64 (0),.int .i64 (0),.int .i64 (0),.int .i64 (0),.int .i64 (0)] (fun i=>([(0,1),(1,1),(2,1),(3,1),(4,1),(5,1)]:List (Nat×Nat)).toArray[i]?):=⟨by intro parts;kernel_rfl⟩
theorem eq98:EqI Tryz.prog 98 6:=EqI.mk_struct (T:=3) (by kernel_rfl) Tryz.underlying98 (by kernel_rfl) (by kernel_rfl) Tryz.underlying3 Tryz.isAgg3
theorem fi102_0:FiI Tryz.prog 102 0 0:=⟨_,_,_,Tryz.underlying102,rfl,rfl,by decide,Tryz.sizeOf9⟩
theorem fi102_1:FiI Tryz.prog 102 1 1:=⟨_,_,_,Tryz.underlying102,rfl,rfl,by decide,Tryz.sizeOf3⟩
theorem fi105_0:FiI Tryz.prog 105 0 0:=⟨_,_,_,Tryz.underlying105,rfl,rfl,by decide,Tryz.sizeOf103⟩
theorem fi105_1:FiI Tryz.prog 105 1 1:=⟨_,_,_,Tryz.underlying105,rfl,rfl,by decide,Tryz.sizeOf3⟩
theorem fi107_0:FiI Tryz.prog 107 0 0:=⟨_,_,_,Tryz.underlying107,rfl,rfl,by decide,Tryz.sizeOf26⟩
theorem fi107_1:FiI Tryz.prog 107 1 5:=⟨_,_,_,Tryz.underlying107,rfl,rfl,by decide,Tryz.sizeOf105⟩
theorem fi123_0:FiI Tryz.prog 123 0 0:=⟨_,_,_,Tryz.underlying123,rfl,rfl,by decide,Tryz.sizeOf68⟩
theorem fi123_1:FiI Tryz.prog 123 1 13:=⟨_,_,_,Tryz.underlying123,rfl,rfl,by decide,Tryz.sizeOf47⟩
theorem fi130_0:FiI Tryz.prog 130 0 0:=⟨_,_,_,Tryz.underlying130,rfl,rfl,by decide,Tryz.sizeOf107⟩
theorem fi130_1:FiI Tryz.prog 130 1 7:=⟨_,_,_,Tryz.underlying130,rfl,rfl,by decide,Tryz.sizeOf125⟩
theorem fi130_2:FiI Tryz.prog 130 2 8:=⟨_,_,_,Tryz.underlying130,rfl,rfl,by decide,Tryz.sizeOf127⟩
theorem fi130_3:FiI Tryz.prog 130 3 9:=⟨_,_,_,Tryz.underlying130,rfl,rfl,by decide,Tryz.sizeOf128⟩
theorem fi130_4:FiI Tryz.prog 130 4 10:=⟨_,_,_,Tryz.underlying130,rfl,rfl,by decide,Tryz.sizeOf128⟩
theorem fi130_5:FiI Tryz.prog 130 5 11:=⟨_,_,_,Tryz.underlying130,rfl,rfl,by decide,Tryz.sizeOf50⟩
theorem fi130_6:FiI Tryz.prog 130 6 14:=⟨_,_,_,Tryz.underlying130,rfl,rfl,by decide,Tryz.sizeOf4⟩
theorem fi130_7:FiI Tryz.prog 130 7 15:=⟨_,_,_,Tryz.underlying130,rfl,rfl,by decide,Tryz.sizeOf3⟩
theorem fi130_8:FiI Tryz.prog 130 8 16:=⟨_,_,_,Tryz.underlying130,rfl,rfl,by decide,Tryz.sizeOf3⟩
theorem fi133_0:FiI Tryz.prog 133 0 0:=⟨_,_,_,Tryz.underlying133,rfl,rfl,by decide,Tryz.sizeOf59⟩
theorem fi135_0:FiI Tryz.prog 135 0 0:=⟨_,_,_,Tryz.underlying135,rfl,rfl,by decide,Tryz.sizeOf133⟩
theorem fi135_1:FiI Tryz.prog 135 1 3:=⟨_,_,_,Tryz.underlying135,rfl,rfl,by decide,Tryz.sizeOf3⟩
theorem fi140_0:FiI Tryz.prog 140 0 0:=⟨_,_,_,Tryz.underlying140,rfl,rfl,by decide,Tryz.sizeOf3⟩
theorem fi140_1:FiI Tryz.prog 140 1 1:=⟨_,_,_,Tryz.underlying140,rfl,rfl,by decide,Tryz.sizeOf47⟩
theorem fi165_0:FiI Tryz.prog 165 0 0:=⟨_,_,_,Tryz.underlying165,rfl,rfl,by decide,Tryz.sizeOf3⟩
theorem fi165_1:FiI Tryz.prog 165 1 1:=⟨_,_,_,Tryz.underlying165,rfl,rfl,by decide,Tryz.sizeOf9⟩
theorem fi165_2:FiI Tryz.prog 165 2 2:=⟨_,_,_,Tryz.underlying165,rfl,rfl,by decide,Tryz.sizeOf163⟩
theorem fi170_0:FiI Tryz.prog 170 0 0:=⟨_,_,_,Tryz.underlying170,rfl,rfl,by decide,Tryz.sizeOf47⟩
theorem fi170_1:FiI Tryz.prog 170 1 1:=⟨_,_,_,Tryz.underlying170,rfl,rfl,by decide,Tryz.sizeOf103⟩
theorem fi199_0:FiI Tryz.prog 199 0 0:=⟨_,_,_,Tryz.underlying199,rfl,rfl,by decide,Tryz.sizeOf9⟩
theorem fi199_1:FiI Tryz.prog 199 1 1:=⟨_,_,_,Tryz.underlying199,rfl,rfl,by decide,Tryz.sizeOf3⟩
theorem fi199_2:FiI Tryz.prog 199 2 2:=⟨_,_,_,Tryz.underlying199,rfl,rfl,by decide,Tryz.sizeOf3⟩
theorem fi201_0:FiI Tryz.prog 201 0 0:=⟨_,_,_,Tryz.underlying201,rfl,rfl,by decide,Tryz.sizeOf199⟩
theorem fi201_1:FiI Tryz.prog 201 1 3:=⟨_,_,_,Tryz.underlying201,rfl,rfl,by decide,Tryz.sizeOf3⟩
theorem fi223_0:FiI Tryz.prog 223 0 0:=⟨_,_,_,Tryz.underlying223,rfl,rfl,by decide,Tryz.sizeOf221⟩
theorem fi24_0:FiI Tryz.prog 24 0 0:=⟨_,_,_,Tryz.underlying24,rfl,rfl,by decide,Tryz.sizeOf3⟩
theorem fi24_1:FiI Tryz.prog 24 1 1:=⟨_,_,_,Tryz.underlying24,rfl,rfl,by decide,Tryz.sizeOf3⟩
theorem fi26_0:FiI Tryz.prog 26 0 0:=⟨_,_,_,Tryz.underlying26,rfl,rfl,by decide,Tryz.sizeOf22⟩
theorem fi26_1:FiI Tryz.prog 26 1 1:=⟨_,_,_,Tryz.underlying26,rfl,rfl,by decide,Tryz.sizeOf9⟩
theorem fi26_2:FiI Tryz.prog 26 2 2:=⟨_,_,_,Tryz.underlying26,rfl,rfl,by decide,Tryz.sizeOf3⟩
theorem fi26_3:FiI Tryz.prog 26 3 3:=⟨_,_,_,Tryz.underlying26,rfl,rfl,by decide,Tryz.sizeOf24⟩
theorem fi303_0:FiI Tryz.prog 303 0 0:=⟨_,_,_,Tryz.underlying303,rfl,rfl,by decide,Tryz.sizeOf4⟩
theorem fi303_1:FiI Tryz.prog 303 1 1:=⟨_,_,_,Tryz.underlying303,rfl,rfl,by decide,Tryz.sizeOf47⟩
theorem fi319_0:FiI Tryz.prog 319 0 0:=⟨_,_,_,Tryz.underlying319,rfl,rfl,by decide,Tryz.sizeOf105⟩
theorem fi345_0:FiI Tryz.prog 345 0 0:=⟨_,_,_,Tryz.underlying345,rfl,rfl,by decide,Tryz.sizeOf9⟩
theorem fi354_0:FiI Tryz.prog 354 0 0:=⟨_,_,_,Tryz.underlying354,rfl,rfl,by decide,Tryz.sizeOf3⟩
theorem fi354_1:FiI Tryz.prog 354 1 1:=⟨_,_,_,Tryz.underlying354,rfl,rfl,by decide,Tryz.sizeOf3⟩
theorem fi354_2:FiI Tryz.prog 354 2 2:=⟨_,_,_,Tryz.underlying354,rfl,rfl,by decide,Tryz.sizeOf3⟩
theorem fi354_3:FiI Tryz.prog 354 3 3:=⟨_,_,_,Tryz.underlying354,rfl,rfl,by decide,Tryz.sizeOf3⟩
theorem fi354_4:FiI Tryz.prog 354 4 4:=⟨_,_,_,Tryz.underlying354,rfl,rfl,by decide,Tryz.sizeOf3⟩
theorem fi354_5:FiI Tryz.prog 354 5 5:=⟨_,_,_,Tryz.underlying354,rfl,rfl,by decide,Tryz.sizeOf131⟩
theorem fi37_0:FiI Tryz.prog 37 0 0:=⟨_,_,_,Tryz.underlying37,rfl,rfl,by decide,Tryz.sizeOf3⟩
theorem fi37_1:FiI Tryz.prog 37 1 1:=⟨_,_,_,Tryz.underlying37,rfl,rfl,by decide,Tryz.sizeOf9⟩
theorem fi37_2:FiI Tryz.prog 37 2 2:=⟨_,_,_,Tryz.underlying37,rfl,rfl,by decide,Tryz.sizeOf9⟩
theorem fi467_0:FiI Tryz.prog 467 0 0:=⟨_,_,_,Tryz.underlying467,rfl,rfl,by decide,Tryz.sizeOf465⟩
theorem fi467_1:FiI Tryz.prog 467 1 1:=⟨_,_,_,Tryz.underlying467,rfl,rfl,by decide,Tryz.sizeOf3⟩
theorem fi467_2:FiI Tryz.prog 467 2 2:=⟨_,_,_,Tryz.underlying467,rfl,rfl,by decide,Tryz.sizeOf3⟩
theorem fi50_0:FiI Tryz.prog 50 0 0:=⟨_,_,_,Tryz.underlying50,rfl,rfl,by decide,Tryz.sizeOf3⟩
theorem fi50_1:FiI Tryz.prog 50 1 1:=⟨_,_,_,Tryz.underlying50,rfl,rfl,by decide,Tryz.sizeOf3⟩
theorem fi50_2:FiI Tryz.prog 50 2 2:=⟨_,_,_,Tryz.underlying50,rfl,rfl,by decide,Tryz.sizeOf48⟩
theorem fi59_0:FiI Tryz.prog 59 0 0:=⟨_,_,_,Tryz.underlying59,rfl,rfl,by decide,Tryz.sizeOf9⟩
theorem fi59_1:FiI Tryz.prog 59 1 1:=⟨_,_,_,Tryz.underlying59,rfl,rfl,by decide,Tryz.sizeOf3⟩
theorem fi68_0:FiI Tryz.prog 68 0 0:=⟨_,_,_,Tryz.underlying68,rfl,rfl,by decide,Tryz.sizeOf3⟩
theorem fi68_1:FiI Tryz.prog 68 1 1:=⟨_,_,_,Tryz.underlying68,rfl,rfl,by decide,Tryz.sizeOf59⟩
theorem fi68_2:FiI Tryz.prog 68 2 3:=⟨_,_,_,Tryz.underlying68,rfl,rfl,by decide,Tryz.sizeOf9⟩
theorem fi68_3:FiI Tryz.prog 68 3 4:=⟨_,_,_,Tryz.underlying68,rfl,rfl,by decide,Tryz.sizeOf62⟩
theorem fi68_4:FiI Tryz.prog 68 4 5:=⟨_,_,_,Tryz.underlying68,rfl,rfl,by decide,Tryz.sizeOf3⟩
theorem fi68_5:FiI Tryz.prog 68 5 6:=⟨_,_,_,Tryz.underlying68,rfl,rfl,by decide,Tryz.sizeOf4⟩
theorem fi68_6:FiI Tryz.prog 68 6 7:=⟨_,_,_,Tryz.underlying68,rfl,rfl,by decide,Tryz.sizeOf3⟩
theorem fi68_7:FiI Tryz.prog 68 7 8:=⟨_,_,_,Tryz.underlying68,rfl,rfl,by decide,Tryz.sizeOf4⟩
theorem fi98_1:FiI Tryz.prog 98 1 1:=⟨_,_,_,Tryz.underlying98,rfl,rfl,by decide,Tryz.sizeOf3⟩
theorem fi98_2:FiI Tryz.prog 98 2 2:=⟨_,_,_,Tryz.underlying98,rfl,rfl,by decide,Tryz.sizeOf3⟩
theorem fi98_3:FiI Tryz.prog 98 3 3:=⟨_,_,_,Tryz.underlying98,rfl,rfl,by decide,Tryz.sizeOf3⟩
theorem fi98_4:FiI Tryz.prog 98 4 4:=⟨_,_,_,Tryz.underlying98,rfl,rfl,by decide,Tryz.sizeOf3⟩
theorem fi98_5:FiI Tryz.prog 98 5 5:=⟨_,_,_,Tryz.underlying98,rfl,rfl,by decide,Tryz.sizeOf3⟩
theorem si103:SlI Tryz.prog 103 9 1:=⟨Tryz.underlying103,Tryz.sizeOf9⟩
theorem si125:SlI Tryz.prog 125 126 1:=⟨Tryz.underlying125,Tryz.sizeOf126⟩
theorem si127:SlI Tryz.prog 127 196 1:=⟨Tryz.underlying127,Tryz.sizeOf196⟩
theorem si128:SlI Tryz.prog 128 119 1:=⟨Tryz.underlying128,Tryz.sizeOf119⟩
theorem si131:SlI Tryz.prog 131 354 6:=⟨Tryz.underlying131,Tryz.sizeOf354⟩
theorem si184:SlI Tryz.prog 184 29 1:=⟨Tryz.underlying184,Tryz.sizeOf29⟩
theorem si22:SlI Tryz.prog 22 102 2:=⟨Tryz.underlying22,Tryz.sizeOf102⟩
theorem si221:SlI Tryz.prog 221 303 2:=⟨Tryz.underlying221,Tryz.sizeOf303⟩
theorem si226:SlI Tryz.prog 226 223 1:=⟨Tryz.underlying226,Tryz.sizeOf223⟩
theorem si230:SlI Tryz.prog 230 5 1:=⟨Tryz.underlying230,Tryz.sizeOf5⟩
theorem si305:SlI Tryz.prog 305 24 2:=⟨Tryz.underlying305,Tryz.sizeOf24⟩
theorem si35:SlI Tryz.prog 35 37 3:=⟨Tryz.underlying35,Tryz.sizeOf37⟩
theorem si418:SlI Tryz.prog 418 148 1:=⟨Tryz.underlying418,Tryz.sizeOf148⟩
theorem si463:SlI Tryz.prog 463 467 3:=⟨Tryz.underlying463,Tryz.sizeOf467⟩
theorem si47:SlI Tryz.prog 47 3 1:=⟨Tryz.underlying47,Tryz.sizeOf3⟩
theorem si48:SlI Tryz.prog 48 305 1:=⟨Tryz.underlying48,Tryz.sizeOf305⟩
theorem si62:SlI Tryz.prog 62 140 2:=⟨Tryz.underlying62,Tryz.sizeOf140⟩
theorem str9:StrI Tryz.prog 9:=⟨Tryz.underlying9⟩
theorem ti102:TyI Tryz.prog 102 true 2:=⟨Tryz.isAgg102,Tryz.sizeOf102⟩
theorem ti103:TyI Tryz.prog 103 false 1:=⟨Tryz.isAgg103,Tryz.sizeOf103⟩
theorem ti105:TyI Tryz.prog 105 true 2:=⟨Tryz.isAgg105,Tryz.sizeOf105⟩
theorem ti107:TyI Tryz.prog 107 true 7:=⟨Tryz.isAgg107,Tryz.sizeOf107⟩
theorem ti113:TyI Tryz.prog 113 false 1:=⟨Tryz.isAgg113,Tryz.sizeOf113⟩
theorem ti119:TyI Tryz.prog 119 false 1:=⟨Tryz.isAgg119,Tryz.sizeOf119⟩
theorem ti123:TyI Tryz.prog 123 true 14:=⟨Tryz.isAgg123,Tryz.sizeOf123⟩
theorem ti125:TyI Tryz.prog 125 false 1:=⟨Tryz.isAgg125,Tryz.sizeOf125⟩
theorem ti126:TyI Tryz.prog 126 false 1:=⟨Tryz.isAgg126,Tryz.sizeOf126⟩
theorem ti127:TyI Tryz.prog 127 false 1:=⟨Tryz.isAgg127,Tryz.sizeOf127⟩
theorem ti128:TyI Tryz.prog 128 false 1:=⟨Tryz.isAgg128,Tryz.sizeOf128⟩
theorem ti131:TyI Tryz.prog 131 false 1:=⟨Tryz.isAgg131,Tryz.sizeOf131⟩
theorem ti140:TyI Tryz.prog 140 true 2:=⟨Tryz.isAgg140,Tryz.sizeOf140⟩
theorem ti148:TyI Tryz.prog 148 false 1:=⟨Tryz.isAgg148,Tryz.sizeOf148⟩
theorem ti149:TyI Tryz.prog 149 true 5:=⟨Tryz.isAgg149,Tryz.sizeOf149⟩
theorem ti163:TyI Tryz.prog 163 false 1:=⟨Tryz.isAgg163,Tryz.sizeOf163⟩
theorem ti165:TyI Tryz.prog 165 true 3:=⟨Tryz.isAgg165,Tryz.sizeOf165⟩
theorem ti170:TyI Tryz.prog 170 true 2:=⟨Tryz.isAgg170,Tryz.sizeOf170⟩
theorem ti196:TyI Tryz.prog 196 false 1:=⟨Tryz.isAgg196,Tryz.sizeOf196⟩
theorem ti22:TyI Tryz.prog 22 false 1:=⟨Tryz.isAgg22,Tryz.sizeOf22⟩
theorem ti221:TyI Tryz.prog 221 false 1:=⟨Tryz.isAgg221,Tryz.sizeOf221⟩
theorem ti223:TyI Tryz.prog 223 true 1:=⟨Tryz.isAgg223,Tryz.sizeOf223⟩
theorem ti24:TyI Tryz.prog 24 true 2:=⟨Tryz.isAgg24,Tryz.sizeOf24⟩
theorem ti26:TyI Tryz.prog 26 true 5:=⟨Tryz.isAgg26,Tryz.sizeOf26⟩
theorem ti29:TyI Tryz.prog 29 false 1:=⟨Tryz.isAgg29,Tryz.sizeOf29⟩
theorem ti3:TyI Tryz.prog 3 false 1:=⟨Tryz.isAgg3,Tryz.sizeOf3⟩
theorem ti303:TyI Tryz.prog 303 true 2:=⟨Tryz.isAgg303,Tryz.sizeOf303⟩
theorem ti305:TyI Tryz.prog 305 false 1:=⟨Tryz.isAgg305,Tryz.sizeOf305⟩
theorem ti319:TyI Tryz.prog 319 true 2:=⟨Tryz.isAgg319,Tryz.sizeOf319⟩
theorem ti345:TyI Tryz.prog 345 true 1:=⟨Tryz.isAgg345,Tryz.sizeOf345⟩
theorem ti354:TyI Tryz.prog 354 true 6:=⟨Tryz.isAgg354,Tryz.sizeOf354⟩
theorem ti37:TyI Tryz.prog 37 true 3:=⟨Tryz.isAgg37,Tryz.sizeOf37⟩
theorem ti4:TyI Tryz.prog 4 false 1:=⟨Tryz.isAgg4,Tryz.sizeOf4⟩
theorem ti449:TyI Tryz.prog 449 true 6:=⟨Tryz.isAgg449,Tryz.sizeOf449⟩
theorem ti465:TyI Tryz.prog 465 false 1:=⟨Tryz.isAgg465,Tryz.sizeOf465⟩
theorem ti467:TyI Tryz.prog 467 true 3:=⟨Tryz.isAgg467,Tryz.sizeOf467⟩
theorem ti47:TyI Tryz.prog 47 false 1:=⟨Tryz.isAgg47,Tryz.sizeOf47⟩
theorem ti48:TyI Tryz.prog 48 false 1:=⟨Tryz.isAgg48,Tryz.sizeOf48⟩
theorem ti5:TyI Tryz.prog 5 false 1:=⟨Tryz.isAgg5,Tryz.sizeOf5⟩
theorem ti50:TyI Tryz.prog 50 true 3:=⟨Tryz.isAgg50,Tryz.sizeOf50⟩
theorem ti59:TyI Tryz.prog 59 true 2:=⟨Tryz.isAgg59,Tryz.sizeOf59⟩
theorem ti62:TyI Tryz.prog 62 false 1:=⟨Tryz.isAgg62,Tryz.sizeOf62⟩
theorem ti9:TyI Tryz.prog 9 false 1:=⟨Tryz.isAgg9,Tryz.sizeOf9⟩
theorem ti98:TyI Tryz.prog 98 true 6:=⟨Tryz.isAgg98,Tryz.sizeOf98⟩
theorem ze102:ZeI Tryz.prog 102 [.str [],.int .i64 (0)]:=⟨_,Tryz.zeroValue102,rfl,rfl⟩
theorem ze105:ZeI Tryz.prog 105 [.nils,.int .i64 (0)]:=⟨_,Tryz.zeroValue105,rfl,rfl⟩
theorem ze107:ZeI Tryz.prog 107 [.nils,.str [],.int .i64 (0),.int .i64 (0),.int .i64 (0),.nils,.int .i64 (0)]:=⟨_,Tryz.zeroValue107,rfl,rfl⟩
theorem ze126:ZeI Tryz.prog 126 [.raw (.pointer none)]:=⟨_,Tryz.zeroValue126,rfl,rfl⟩
theorem ze131:ZeI Tryz.prog 131 [.nils]:=⟨_,Tryz.zeroValue131,rfl,rfl⟩
theorem ze140:ZeI Tryz.prog 140 [.int .i64 (0),.nils]:=⟨_,Tryz.zeroValue140,rfl,rfl⟩
theorem ze149:ZeI Tryz.prog 149 [.raw (.pointer none),.raw (.pointer none),.raw (.pointer none),.raw (.pointer none),.raw (.pointer none)]:=⟨_,Tryz.zeroValue149,rfl,rfl⟩
theorem ze165:ZeI Tryz.prog 165 [.int .i64 (0),.str [],.raw .nilFunc]:=⟨_,Tryz.zeroValue165,rfl,rfl⟩
theorem ze170:ZeI Tryz.prog 170 [.nils,.nils]:=⟨_,Tryz.zeroValue170,rfl,rfl⟩
theorem ze223:ZeI Tryz.prog 223 [.nils]:=⟨_,Tryz.zeroValue223,rfl,rfl⟩
theorem ze24:ZeI Tryz.prog 24 [.int .i64 (0),.int .i64 (0)]:=⟨_,Tryz.zeroValue24,rfl,rfl⟩
theorem ze26:ZeI Tryz.prog 26 [.nils,.str [],.int .i64 (0),.int .i64 (0),.int .i64 (0)]:=⟨_,Tryz.zeroValue26,rfl,rfl⟩
theorem ze303:ZeI Tryz.prog 303 [.bool false,.nils]:=⟨_,Tryz.zeroValue303,rfl,rfl⟩
theorem ze319:ZeI Tryz.prog 319 [.nils,.int .i64 (0)]:=⟨_,Tryz.zeroValue319,rfl,rfl⟩
theorem ze345:ZeI Tryz.prog 345 [.str []]:=⟨_,Tryz.zeroValue345,rfl,rfl⟩
theorem ze354:ZeI Tryz.prog 354 [.int .i64 (0),.int .i64 (0),.int .i64 (0),.int .i64 (0),.int .i64 (0),.nils]:=⟨_,Tryz.zeroValue354,rfl,rfl⟩
theorem ze37:ZeI Tryz.prog 37 [.int .i64 (0),.str [],.str []]:=⟨_,Tryz.zeroValue37,rfl,rfl⟩
theorem ze4:ZeI Tryz.prog 4 [.bool false]:=⟨_,Tryz.zeroValue4,rfl,rfl⟩
theorem ze467:ZeI Tryz.prog 467 [.raw .nilFunc,.int .i64 (0),.int .i64 (0)]:=⟨_,Tryz.zeroValue467,rfl,rfl⟩
theorem ze50:ZeI Tryz.prog 50 [.int .i64 (0),.int .i64 (0),.nils]:=⟨_,Tryz.zeroValue50,rfl,rfl⟩
theorem ze59:ZeI Tryz.prog 59 [.str [],.int .i64 (0)]:=⟨_,Tryz.zeroValue59,rfl,rfl⟩
theorem ze98:ZeI Tryz.prog 98 [.int .i64 (0),.int .i64 (0),.int .i64 (0),.int .i64 (0),.int .i64 (0),.int .i64 (0)]:=⟨_,Tryz.zeroValue98,rfl,rfl⟩
end Go.Proofs.YtpbalelbenmmbaaGreatDoor
