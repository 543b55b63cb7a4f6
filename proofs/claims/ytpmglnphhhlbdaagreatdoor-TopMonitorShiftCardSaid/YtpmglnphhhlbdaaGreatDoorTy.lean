import Derived.Test.YtpmglnphhhlbdaaGreatDoorFq
import Derived.Test.YtpmglnphhhlbdaaGreatDoorProg
namespace Go.Proofs.YtpmglnphhhlbdaaGreatDoor
open Go.Ab
theorem follows : Tryz.prog.follows .mixedOrders = true := by kernel_rfl
theorem ai114 : ApI Tryz.prog 114 113 2 16 := ⟨Tryz.underlying114, ⟨Tryz.t113, _, by kernel_rfl, rfl, rfl, rfl, rfl⟩, by decide, ⟨Tryz.sizeOf113, _, Tryz.zeroValue113, rfl⟩⟩
theorem ai179 : ApI Tryz.prog 179 25 1 24 := ⟨Tryz.underlying179, ⟨Tryz.t25, _, by kernel_rfl, rfl, rfl, rfl, rfl⟩, by decide, ⟨Tryz.sizeOf25, _, Tryz.zeroValue25, rfl⟩⟩
theorem ai184 : ApI Tryz.prog 184 186 2 16 := ⟨Tryz.underlying184, ⟨Tryz.t186, _, by kernel_rfl, rfl, rfl, rfl, rfl⟩, by decide, ⟨Tryz.sizeOf186, _, Tryz.zeroValue186, rfl⟩⟩
theorem ai209 : ApI Tryz.prog 209 43 1 8 := ⟨Tryz.underlying209, ⟨Tryz.t43, _, by kernel_rfl, rfl, rfl, rfl, rfl⟩, by decide, ⟨Tryz.sizeOf43, _, Tryz.zeroValue43, rfl⟩⟩
theorem ai22 : ApI Tryz.prog 22 9 1 16 := ⟨Tryz.underlying22, ⟨Tryz.t9, _, by kernel_rfl, rfl, rfl, rfl, rfl⟩, by decide, ⟨Tryz.sizeOf9, _, Tryz.zeroValue9, rfl⟩⟩
theorem ai25 : ApI Tryz.prog 25 3 1 8 := ⟨Tryz.underlying25, ⟨Tryz.t3, _, by kernel_rfl, rfl, rfl, rfl, rfl⟩, by decide, ⟨Tryz.sizeOf3, _, Tryz.zeroValue3, rfl⟩⟩
theorem ai28 : ApI Tryz.prog 28 114 1 24 := ⟨Tryz.underlying28, ⟨Tryz.t114, _, by kernel_rfl, rfl, rfl, rfl, rfl⟩, by decide, ⟨Tryz.sizeOf114, _, Tryz.zeroValue114, rfl⟩⟩
theorem ai63 : ApI Tryz.prog 63 75 1 24 := ⟨Tryz.underlying63, ⟨Tryz.t75, _, by kernel_rfl, rfl, rfl, rfl, rfl⟩, by decide, ⟨Tryz.sizeOf75, _, Tryz.zeroValue75, rfl⟩⟩
theorem ai70 : ApI Tryz.prog 70 89 2 16 := ⟨Tryz.underlying70, ⟨Tryz.t89, _, by kernel_rfl, rfl, rfl, rfl, rfl⟩, by decide, ⟨Tryz.sizeOf89, _, Tryz.zeroValue89, rfl⟩⟩
theorem ai73 : ApI Tryz.prog 73 162 2 32 := ⟨Tryz.underlying73, ⟨Tryz.t162, _, by kernel_rfl, rfl, rfl, rfl, rfl⟩, by decide, ⟨Tryz.sizeOf162, _, Tryz.zeroValue162, rfl⟩⟩
theorem ai85 : ApI Tryz.prog 85 117 3 24 := ⟨Tryz.underlying85, ⟨Tryz.t117, _, by kernel_rfl, rfl, rfl, rfl, rfl⟩, by decide, ⟨Tryz.sizeOf117, _, Tryz.zeroValue117, rfl⟩⟩
theorem bu111 : BuI Tryz.prog 111 [.int .i64 (0), .int .i64 (0), .int .i64 (0)] (fun i => ([(0, 1), (1, 1), (2, 1)] : List (Nat × Nat)).toArray[i]?) := ⟨by intro parts; kernel_rfl⟩
theorem bu113 : BuI Tryz.prog 113 [.int .i64 (0), .int .i64 (0)] (fun i => ([(0, 1), (1, 1)] : List (Nat × Nat)).toArray[i]?) := ⟨by intro parts; kernel_rfl⟩
theorem bu117 : BuI Tryz.prog 117 [.int .i64 (0), .int .i64 (0), .int .i64 (0)] (fun i => ([(0, 1), (1, 1), (2, 1)] : List (Nat × Nat)).toArray[i]?) := ⟨by intro parts; kernel_rfl⟩
theorem bu150 : BuI Tryz.prog 150 [.slice none 0 0, .int .i64 (0)] (fun i => ([(0, 2)] : List (Nat × Nat)).toArray[i]?) := ⟨by intro parts; kernel_rfl⟩
theorem bu162 : BuI Tryz.prog 162 [.bool false, .slice none 0 0] (fun i => ([(0, 1), (1, 1)] : List (Nat × Nat)).toArray[i]?) := ⟨by intro parts; kernel_rfl⟩
theorem bu178 : BuI Tryz.prog 178 [.map none, .int .i64 (0), .int .i64 (0)] (fun i => ([(0, 1), (1, 1), (2, 1)] : List (Nat × Nat)).toArray[i]?) := ⟨by intro parts; kernel_rfl⟩
theorem bu186 : BuI Tryz.prog 186 [.int .i64 (0), .int .i64 (0)] (fun i => some (i * 1, 1)) := ⟨by intro parts; kernel_rfl⟩
theorem bu218 : BuI Tryz.prog 218 [.bool false, .bool false, .bool false] (fun i => ([(0, 1), (1, 1), (2, 1)] : List (Nat × Nat)).toArray[i]?) := ⟨by intro parts; kernel_rfl⟩
theorem bu24 : BuI Tryz.prog 24 [.slice none 0 0, .int .i64 (0)] (fun i => ([(0, 1), (1, 1)] : List (Nat × Nat)).toArray[i]?) := ⟨by intro parts; kernel_rfl⟩
theorem bu27 : BuI Tryz.prog 27 [.int .i64 (0), .slice none 0 0] (fun i => ([(0, 1), (1, 1)] : List (Nat × Nat)).toArray[i]?) := ⟨by intro parts; kernel_rfl⟩
theorem bu30 : BuI Tryz.prog 30 [.int .i64 (0), .int .i64 (0), .slice none 0 0] (fun i => ([(0, 1), (1, 1), (2, 1)] : List (Nat × Nat)).toArray[i]?) := ⟨by intro parts; kernel_rfl⟩
theorem bu75 : BuI Tryz.prog 75 [.slice none 0 0] (fun i => ([(0, 1)] : List (Nat × Nat)).toArray[i]?) := ⟨by intro parts; kernel_rfl⟩
theorem bu94 : BuI Tryz.prog 94 [.int .i64 (0), .int .i64 (0), .int .i64 (0)] (fun i => ([(0, 1), (1, 1), (2, 1)] : List (Nat × Nat)).toArray[i]?) := ⟨by intro parts; kernel_rfl⟩
theorem fi111_0 : FiI Tryz.prog 111 0 0 := ⟨_, _, _, Tryz.underlying111, rfl, rfl, by decide, Tryz.sizeOf3⟩
theorem fi111_1 : FiI Tryz.prog 111 1 1 := ⟨_, _, _, Tryz.underlying111, rfl, rfl, by decide, Tryz.sizeOf3⟩
theorem fi111_2 : FiI Tryz.prog 111 2 2 := ⟨_, _, _, Tryz.underlying111, rfl, rfl, by decide, Tryz.sizeOf3⟩
theorem fi113_0 : FiI Tryz.prog 113 0 0 := ⟨_, _, _, Tryz.underlying113, rfl, rfl, by decide, Tryz.sizeOf3⟩
theorem fi113_1 : FiI Tryz.prog 113 1 1 := ⟨_, _, _, Tryz.underlying113, rfl, rfl, by decide, Tryz.sizeOf3⟩
theorem fi150_0 : FiI Tryz.prog 150 0 0 := ⟨_, _, _, Tryz.underlying150, rfl, rfl, by decide, Tryz.sizeOf24⟩
theorem fi162_0 : FiI Tryz.prog 162 0 0 := ⟨_, _, _, Tryz.underlying162, rfl, rfl, by decide, Tryz.sizeOf4⟩
theorem fi162_1 : FiI Tryz.prog 162 1 1 := ⟨_, _, _, Tryz.underlying162, rfl, rfl, by decide, Tryz.sizeOf25⟩
theorem fi178_0 : FiI Tryz.prog 178 0 0 := ⟨_, _, _, Tryz.underlying178, rfl, rfl, by decide, Tryz.sizeOf176⟩
theorem fi178_1 : FiI Tryz.prog 178 1 1 := ⟨_, _, _, Tryz.underlying178, rfl, rfl, by decide, Tryz.sizeOf3⟩
theorem fi178_2 : FiI Tryz.prog 178 2 2 := ⟨_, _, _, Tryz.underlying178, rfl, rfl, by decide, Tryz.sizeOf3⟩
theorem fi218_0 : FiI Tryz.prog 218 0 0 := ⟨_, _, _, Tryz.underlying218, rfl, rfl, by decide, Tryz.sizeOf4⟩
theorem fi218_1 : FiI Tryz.prog 218 1 1 := ⟨_, _, _, Tryz.underlying218, rfl, rfl, by decide, Tryz.sizeOf4⟩
theorem fi218_2 : FiI Tryz.prog 218 2 2 := ⟨_, _, _, Tryz.underlying218, rfl, rfl, by decide, Tryz.sizeOf4⟩
theorem fi24_0 : FiI Tryz.prog 24 0 0 := ⟨_, _, _, Tryz.underlying24, rfl, rfl, by decide, Tryz.sizeOf22⟩
theorem fi24_1 : FiI Tryz.prog 24 1 1 := ⟨_, _, _, Tryz.underlying24, rfl, rfl, by decide, Tryz.sizeOf3⟩
theorem fi27_0 : FiI Tryz.prog 27 0 0 := ⟨_, _, _, Tryz.underlying27, rfl, rfl, by decide, Tryz.sizeOf3⟩
theorem fi27_1 : FiI Tryz.prog 27 1 1 := ⟨_, _, _, Tryz.underlying27, rfl, rfl, by decide, Tryz.sizeOf25⟩
theorem fi30_0 : FiI Tryz.prog 30 0 0 := ⟨_, _, _, Tryz.underlying30, rfl, rfl, by decide, Tryz.sizeOf3⟩
theorem fi30_1 : FiI Tryz.prog 30 1 1 := ⟨_, _, _, Tryz.underlying30, rfl, rfl, by decide, Tryz.sizeOf3⟩
theorem fi30_2 : FiI Tryz.prog 30 2 2 := ⟨_, _, _, Tryz.underlying30, rfl, rfl, by decide, Tryz.sizeOf28⟩
theorem fi75_0 : FiI Tryz.prog 75 0 0 := ⟨_, _, _, Tryz.underlying75, rfl, rfl, by decide, Tryz.sizeOf73⟩
theorem fi89_0 : FiI Tryz.prog 89 0 0 := ⟨_, _, _, Tryz.underlying89, rfl, rfl, by decide, Tryz.sizeOf3⟩
theorem fi89_1 : FiI Tryz.prog 89 1 1 := ⟨_, _, _, Tryz.underlying89, rfl, rfl, by decide, Tryz.sizeOf3⟩
theorem si114 : SlI Tryz.prog 114 113 2 := ⟨Tryz.underlying114, Tryz.sizeOf113⟩
theorem si179 : SlI Tryz.prog 179 25 1 := ⟨Tryz.underlying179, Tryz.sizeOf25⟩
theorem si184 : SlI Tryz.prog 184 186 2 := ⟨Tryz.underlying184, Tryz.sizeOf186⟩
theorem si188 : SlI Tryz.prog 188 5 1 := ⟨Tryz.underlying188, Tryz.sizeOf5⟩
theorem si209 : SlI Tryz.prog 209 43 1 := ⟨Tryz.underlying209, Tryz.sizeOf43⟩
theorem si22 : SlI Tryz.prog 22 9 1 := ⟨Tryz.underlying22, Tryz.sizeOf9⟩
theorem si25 : SlI Tryz.prog 25 3 1 := ⟨Tryz.underlying25, Tryz.sizeOf3⟩
theorem si28 : SlI Tryz.prog 28 114 1 := ⟨Tryz.underlying28, Tryz.sizeOf114⟩
theorem si63 : SlI Tryz.prog 63 75 1 := ⟨Tryz.underlying63, Tryz.sizeOf75⟩
theorem si70 : SlI Tryz.prog 70 89 2 := ⟨Tryz.underlying70, Tryz.sizeOf89⟩
theorem si71 : SlI Tryz.prog 71 27 2 := ⟨Tryz.underlying71, Tryz.sizeOf27⟩
theorem si73 : SlI Tryz.prog 73 162 2 := ⟨Tryz.underlying73, Tryz.sizeOf162⟩
theorem si85 : SlI Tryz.prog 85 117 3 := ⟨Tryz.underlying85, Tryz.sizeOf117⟩
theorem str9 : StrI Tryz.prog 9 := ⟨Tryz.underlying9⟩
theorem ti111 : TyI Tryz.prog 111 true 3 := ⟨Tryz.isAgg111, Tryz.sizeOf111⟩
theorem ti113 : TyI Tryz.prog 113 true 2 := ⟨Tryz.isAgg113, Tryz.sizeOf113⟩
theorem ti114 : TyI Tryz.prog 114 false 1 := ⟨Tryz.isAgg114, Tryz.sizeOf114⟩
theorem ti117 : TyI Tryz.prog 117 true 3 := ⟨Tryz.isAgg117, Tryz.sizeOf117⟩
theorem ti150 : TyI Tryz.prog 150 true 2 := ⟨Tryz.isAgg150, Tryz.sizeOf150⟩
theorem ti162 : TyI Tryz.prog 162 true 2 := ⟨Tryz.isAgg162, Tryz.sizeOf162⟩
theorem ti176 : TyI Tryz.prog 176 false 1 := ⟨Tryz.isAgg176, Tryz.sizeOf176⟩
theorem ti186 : TyI Tryz.prog 186 true 2 := ⟨Tryz.isAgg186, Tryz.sizeOf186⟩
theorem ti218 : TyI Tryz.prog 218 true 3 := ⟨Tryz.isAgg218, Tryz.sizeOf218⟩
theorem ti22 : TyI Tryz.prog 22 false 1 := ⟨Tryz.isAgg22, Tryz.sizeOf22⟩
theorem ti24 : TyI Tryz.prog 24 true 2 := ⟨Tryz.isAgg24, Tryz.sizeOf24⟩
theorem ti25 : TyI Tryz.prog 25 false 1 := ⟨Tryz.isAgg25, Tryz.sizeOf25⟩
theorem ti27 : TyI Tryz.prog 27 true 2 := ⟨Tryz.isAgg27, Tryz.sizeOf27⟩
theorem ti28 : TyI Tryz.prog 28 false 1 := ⟨Tryz.isAgg28, Tryz.sizeOf28⟩
theorem ti3 : TyI Tryz.prog 3 false 1 := ⟨Tryz.isAgg3, Tryz.sizeOf3⟩
theorem ti30 : TyI Tryz.prog 30 true 3 := ⟨Tryz.isAgg30, Tryz.sizeOf30⟩
theorem ti4 : TyI Tryz.prog 4 false 1 := ⟨Tryz.isAgg4, Tryz.sizeOf4⟩
theorem ti43 : TyI Tryz.prog 43 false 1 := ⟨Tryz.isAgg43, Tryz.sizeOf43⟩
theorem ti5 : TyI Tryz.prog 5 false 1 := ⟨Tryz.isAgg5, Tryz.sizeOf5⟩
theorem ti73 : TyI Tryz.prog 73 false 1 := ⟨Tryz.isAgg73, Tryz.sizeOf73⟩
theorem ti75 : TyI Tryz.prog 75 true 1 := ⟨Tryz.isAgg75, Tryz.sizeOf75⟩
theorem ti85 : TyI Tryz.prog 85 false 1 := ⟨Tryz.isAgg85, Tryz.sizeOf85⟩
theorem ti89 : TyI Tryz.prog 89 true 2 := ⟨Tryz.isAgg89, Tryz.sizeOf89⟩
theorem ti9 : TyI Tryz.prog 9 false 1 := ⟨Tryz.isAgg9, Tryz.sizeOf9⟩
theorem ti94 : TyI Tryz.prog 94 true 3 := ⟨Tryz.isAgg94, Tryz.sizeOf94⟩
theorem ze113 : ZeI Tryz.prog 113 [.int .i64 (0), .int .i64 (0)] := ⟨_, Tryz.zeroValue113, rfl, rfl⟩
theorem ze117 : ZeI Tryz.prog 117 [.int .i64 (0), .int .i64 (0), .int .i64 (0)] := ⟨_, Tryz.zeroValue117, rfl, rfl⟩
theorem ze150 : ZeI Tryz.prog 150 [.nils, .int .i64 (0)] := ⟨_, Tryz.zeroValue150, rfl, rfl⟩
theorem ze162 : ZeI Tryz.prog 162 [.bool false, .nils] := ⟨_, Tryz.zeroValue162, rfl, rfl⟩
theorem ze186 : ZeI Tryz.prog 186 [.int .i64 (0), .int .i64 (0)] := ⟨_, Tryz.zeroValue186, rfl, rfl⟩
theorem ze24 : ZeI Tryz.prog 24 [.nils, .int .i64 (0)] := ⟨_, Tryz.zeroValue24, rfl, rfl⟩
theorem ze27 : ZeI Tryz.prog 27 [.int .i64 (0), .nils] := ⟨_, Tryz.zeroValue27, rfl, rfl⟩
theorem ze30 : ZeI Tryz.prog 30 [.int .i64 (0), .int .i64 (0), .nils] := ⟨_, Tryz.zeroValue30, rfl, rfl⟩
theorem ze4 : ZeI Tryz.prog 4 [.bool false] := ⟨_, Tryz.zeroValue4, rfl, rfl⟩
theorem ze75 : ZeI Tryz.prog 75 [.nils] := ⟨_, Tryz.zeroValue75, rfl, rfl⟩
theorem ze89 : ZeI Tryz.prog 89 [.int .i64 (0), .int .i64 (0)] := ⟨_, Tryz.zeroValue89, rfl, rfl⟩
theorem ze94 : ZeI Tryz.prog 94 [.int .i64 (0), .int .i64 (0), .int .i64 (0)] := ⟨_, Tryz.zeroValue94, rfl, rfl⟩
end Go.Proofs.YtpmglnphhhlbdaaGreatDoor
