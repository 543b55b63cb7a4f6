import Derived.Test.YtpfepjgnojfppaaGreatDoorFy
import Derived.Test.YtpfepjgnojfppaaGreatDoorProg
namespace Go.Proofs.YtpfepjgnojfppaaGreatDoor
open Go.Ab
theorem follows : Tryz.prog.follows .mixedOrders = true := by kernel_rfl
theorem ai115 : ApI Tryz.prog 115 117 3 24 := ⟨Tryz.underlying115, ⟨Tryz.t117, _, by kernel_rfl, rfl, rfl, rfl, rfl⟩, by decide, ⟨Tryz.sizeOf117, _, Tryz.zeroValue117, rfl⟩⟩
theorem ai191 : ApI Tryz.prog 191 31 1 8 := ⟨Tryz.underlying191, ⟨Tryz.t31, _, by kernel_rfl, rfl, rfl, rfl, rfl⟩, by decide, ⟨Tryz.sizeOf31, _, Tryz.zeroValue31, rfl⟩⟩
theorem ai22 : ApI Tryz.prog 22 114 4 40 := ⟨Tryz.underlying22, ⟨Tryz.t114, _, by kernel_rfl, rfl, rfl, rfl, rfl⟩, by decide, ⟨Tryz.sizeOf114, _, Tryz.zeroValue114, rfl⟩⟩
theorem ai23 : ApI Tryz.prog 23 30 1 24 := ⟨Tryz.underlying23, ⟨Tryz.t30, _, by kernel_rfl, rfl, rfl, rfl, rfl⟩, by decide, ⟨Tryz.sizeOf30, _, Tryz.zeroValue30, rfl⟩⟩
theorem ai30 : ApI Tryz.prog 30 3 1 8 := ⟨Tryz.underlying30, ⟨Tryz.t3, _, by kernel_rfl, rfl, rfl, rfl, rfl⟩, by decide, ⟨Tryz.sizeOf3, _, Tryz.zeroValue3, rfl⟩⟩
theorem ai49 : ApI Tryz.prog 49 66 3 40 := ⟨Tryz.underlying49, ⟨Tryz.t66, _, by kernel_rfl, rfl, rfl, rfl, rfl⟩, by decide, ⟨Tryz.sizeOf66, _, Tryz.zeroValue66, rfl⟩⟩
theorem ai50 : ApI Tryz.prog 50 71 1 24 := ⟨Tryz.underlying50, ⟨Tryz.t71, _, by kernel_rfl, rfl, rfl, rfl, rfl⟩, by decide, ⟨Tryz.sizeOf71, _, Tryz.zeroValue71, rfl⟩⟩
theorem ai64 : ApI Tryz.prog 64 9 1 16 := ⟨Tryz.underlying64, ⟨Tryz.t9, _, by kernel_rfl, rfl, rfl, rfl, rfl⟩, by decide, ⟨Tryz.sizeOf9, _, Tryz.zeroValue9, rfl⟩⟩
theorem ai69 : ApI Tryz.prog 69 73 2 24 := ⟨Tryz.underlying69, ⟨Tryz.t73, _, by kernel_rfl, rfl, rfl, rfl, rfl⟩, by decide, ⟨Tryz.sizeOf73, _, Tryz.zeroValue73, rfl⟩⟩
theorem bu114 : BuI Tryz.prog 114 [.string ⟨#[]⟩, .int .i64 (0), .int .i64 (0), .int .i64 (0)] (fun i => ([(0, 1), (1, 1), (2, 1), (3, 1)] : List (Nat × Nat)).toArray[i]?) := ⟨by intro parts; kernel_rfl⟩
theorem bu117 : BuI Tryz.prog 117 [.int .i64 (0), .int .i64 (0), .int .i64 (0)] (fun i => ([(0, 1), (1, 1), (2, 1)] : List (Nat × Nat)).toArray[i]?) := ⟨by intro parts; kernel_rfl⟩
theorem bu131 : BuI Tryz.prog 131 [.slice none 0 0, .int .i64 (0), .slice none 0 0] (fun i => ([(0, 1), (1, 2)] : List (Nat × Nat)).toArray[i]?) := ⟨by intro parts; kernel_rfl⟩
theorem bu135 : BuI Tryz.prog 135 [.int .i64 (0), .int .i64 (0), .int .i64 (0), .int .i64 (0)] (fun i => ([(0, 1), (1, 1), (2, 1), (3, 1)] : List (Nat × Nat)).toArray[i]?) := ⟨by intro parts; kernel_rfl⟩
theorem bu193 : BuI Tryz.prog 193 [] (fun i => ([] : List (Nat × Nat)).toArray[i]?) := ⟨by intro parts; kernel_rfl⟩
theorem bu25 : BuI Tryz.prog 25 [.int .i64 (0), .slice none 0 0] (fun i => ([(0, 1), (1, 1)] : List (Nat × Nat)).toArray[i]?) := ⟨by intro parts; kernel_rfl⟩
theorem bu66 : BuI Tryz.prog 66 [.string ⟨#[]⟩, .string ⟨#[]⟩, .int .i64 (0)] (fun i => ([(0, 1), (1, 1), (2, 1)] : List (Nat × Nat)).toArray[i]?) := ⟨by intro parts; kernel_rfl⟩
theorem bu71 : BuI Tryz.prog 71 [.slice none 0 0] (fun i => ([(0, 1)] : List (Nat × Nat)).toArray[i]?) := ⟨by intro parts; kernel_rfl⟩
theorem bu73 : BuI Tryz.prog 73 [.string ⟨#[]⟩, .int .i64 (0)] (fun i => ([(0, 1), (1, 1)] : List (Nat × Nat)).toArray[i]?) := ⟨by intro parts; kernel_rfl⟩
theorem fi114_0 : FiI Tryz.prog 114 0 0 := ⟨_, _, _, Tryz.underlying114, rfl, rfl, by decide, Tryz.sizeOf9⟩
theorem fi114_1 : FiI Tryz.prog 114 1 1 := ⟨_, _, _, Tryz.underlying114, rfl, rfl, by decide, Tryz.sizeOf3⟩
theorem fi114_2 : FiI Tryz.prog 114 2 2 := ⟨_, _, _, Tryz.underlying114, rfl, rfl, by decide, Tryz.sizeOf3⟩
theorem fi114_3 : FiI Tryz.prog 114 3 3 := ⟨_, _, _, Tryz.underlying114, rfl, rfl, by decide, Tryz.sizeOf3⟩
theorem fi117_0 : FiI Tryz.prog 117 0 0 := ⟨_, _, _, Tryz.underlying117, rfl, rfl, by decide, Tryz.sizeOf3⟩
theorem fi117_1 : FiI Tryz.prog 117 1 1 := ⟨_, _, _, Tryz.underlying117, rfl, rfl, by decide, Tryz.sizeOf3⟩
theorem fi117_2 : FiI Tryz.prog 117 2 2 := ⟨_, _, _, Tryz.underlying117, rfl, rfl, by decide, Tryz.sizeOf3⟩
theorem fi131_0 : FiI Tryz.prog 131 0 0 := ⟨_, _, _, Tryz.underlying131, rfl, rfl, by decide, Tryz.sizeOf22⟩
theorem fi131_1 : FiI Tryz.prog 131 1 1 := ⟨_, _, _, Tryz.underlying131, rfl, rfl, by decide, Tryz.sizeOf25⟩
theorem fi135_0 : FiI Tryz.prog 135 0 0 := ⟨_, _, _, Tryz.underlying135, rfl, rfl, by decide, Tryz.sizeOf3⟩
theorem fi135_1 : FiI Tryz.prog 135 1 1 := ⟨_, _, _, Tryz.underlying135, rfl, rfl, by decide, Tryz.sizeOf3⟩
theorem fi135_2 : FiI Tryz.prog 135 2 2 := ⟨_, _, _, Tryz.underlying135, rfl, rfl, by decide, Tryz.sizeOf3⟩
theorem fi135_3 : FiI Tryz.prog 135 3 3 := ⟨_, _, _, Tryz.underlying135, rfl, rfl, by decide, Tryz.sizeOf3⟩
theorem fi25_0 : FiI Tryz.prog 25 0 0 := ⟨_, _, _, Tryz.underlying25, rfl, rfl, by decide, Tryz.sizeOf3⟩
theorem fi25_1 : FiI Tryz.prog 25 1 1 := ⟨_, _, _, Tryz.underlying25, rfl, rfl, by decide, Tryz.sizeOf23⟩
theorem fi66_0 : FiI Tryz.prog 66 0 0 := ⟨_, _, _, Tryz.underlying66, rfl, rfl, by decide, Tryz.sizeOf9⟩
theorem fi66_1 : FiI Tryz.prog 66 1 1 := ⟨_, _, _, Tryz.underlying66, rfl, rfl, by decide, Tryz.sizeOf9⟩
theorem fi66_2 : FiI Tryz.prog 66 2 2 := ⟨_, _, _, Tryz.underlying66, rfl, rfl, by decide, Tryz.sizeOf3⟩
theorem fi71_0 : FiI Tryz.prog 71 0 0 := ⟨_, _, _, Tryz.underlying71, rfl, rfl, by decide, Tryz.sizeOf69⟩
theorem fi73_0 : FiI Tryz.prog 73 0 0 := ⟨_, _, _, Tryz.underlying73, rfl, rfl, by decide, Tryz.sizeOf9⟩
theorem fi73_1 : FiI Tryz.prog 73 1 1 := ⟨_, _, _, Tryz.underlying73, rfl, rfl, by decide, Tryz.sizeOf3⟩
theorem si115 : SlI Tryz.prog 115 117 3 := ⟨Tryz.underlying115, Tryz.sizeOf117⟩
theorem si191 : SlI Tryz.prog 191 31 1 := ⟨Tryz.underlying191, Tryz.sizeOf31⟩
theorem si200 : SlI Tryz.prog 200 5 1 := ⟨Tryz.underlying200, Tryz.sizeOf5⟩
theorem si22 : SlI Tryz.prog 22 114 4 := ⟨Tryz.underlying22, Tryz.sizeOf114⟩
theorem si23 : SlI Tryz.prog 23 30 1 := ⟨Tryz.underlying23, Tryz.sizeOf30⟩
theorem si30 : SlI Tryz.prog 30 3 1 := ⟨Tryz.underlying30, Tryz.sizeOf3⟩
theorem si49 : SlI Tryz.prog 49 66 3 := ⟨Tryz.underlying49, Tryz.sizeOf66⟩
theorem si50 : SlI Tryz.prog 50 71 1 := ⟨Tryz.underlying50, Tryz.sizeOf71⟩
theorem si64 : SlI Tryz.prog 64 9 1 := ⟨Tryz.underlying64, Tryz.sizeOf9⟩
theorem si69 : SlI Tryz.prog 69 73 2 := ⟨Tryz.underlying69, Tryz.sizeOf73⟩
theorem str9 : StrI Tryz.prog 9 := ⟨Tryz.underlying9⟩
theorem ti114 : TyI Tryz.prog 114 true 4 := ⟨Tryz.isAgg114, Tryz.sizeOf114⟩
theorem ti115 : TyI Tryz.prog 115 false 1 := ⟨Tryz.isAgg115, Tryz.sizeOf115⟩
theorem ti117 : TyI Tryz.prog 117 true 3 := ⟨Tryz.isAgg117, Tryz.sizeOf117⟩
theorem ti131 : TyI Tryz.prog 131 true 3 := ⟨Tryz.isAgg131, Tryz.sizeOf131⟩
theorem ti135 : TyI Tryz.prog 135 true 4 := ⟨Tryz.isAgg135, Tryz.sizeOf135⟩
theorem ti193 : TyI Tryz.prog 193 true 0 := ⟨Tryz.isAgg193, Tryz.sizeOf193⟩
theorem ti22 : TyI Tryz.prog 22 false 1 := ⟨Tryz.isAgg22, Tryz.sizeOf22⟩
theorem ti23 : TyI Tryz.prog 23 false 1 := ⟨Tryz.isAgg23, Tryz.sizeOf23⟩
theorem ti25 : TyI Tryz.prog 25 true 2 := ⟨Tryz.isAgg25, Tryz.sizeOf25⟩
theorem ti3 : TyI Tryz.prog 3 false 1 := ⟨Tryz.isAgg3, Tryz.sizeOf3⟩
theorem ti30 : TyI Tryz.prog 30 false 1 := ⟨Tryz.isAgg30, Tryz.sizeOf30⟩
theorem ti31 : TyI Tryz.prog 31 false 1 := ⟨Tryz.isAgg31, Tryz.sizeOf31⟩
theorem ti49 : TyI Tryz.prog 49 false 1 := ⟨Tryz.isAgg49, Tryz.sizeOf49⟩
theorem ti5 : TyI Tryz.prog 5 false 1 := ⟨Tryz.isAgg5, Tryz.sizeOf5⟩
theorem ti50 : TyI Tryz.prog 50 false 1 := ⟨Tryz.isAgg50, Tryz.sizeOf50⟩
theorem ti66 : TyI Tryz.prog 66 true 3 := ⟨Tryz.isAgg66, Tryz.sizeOf66⟩
theorem ti69 : TyI Tryz.prog 69 false 1 := ⟨Tryz.isAgg69, Tryz.sizeOf69⟩
theorem ti71 : TyI Tryz.prog 71 true 1 := ⟨Tryz.isAgg71, Tryz.sizeOf71⟩
theorem ti73 : TyI Tryz.prog 73 true 2 := ⟨Tryz.isAgg73, Tryz.sizeOf73⟩
theorem ti9 : TyI Tryz.prog 9 false 1 := ⟨Tryz.isAgg9, Tryz.sizeOf9⟩
theorem ze114 : ZeI Tryz.prog 114 [.str [], .int .i64 (0), .int .i64 (0), .int .i64 (0)] := ⟨_, Tryz.zeroValue114, rfl, rfl⟩
theorem ze117 : ZeI Tryz.prog 117 [.int .i64 (0), .int .i64 (0), .int .i64 (0)] := ⟨_, Tryz.zeroValue117, rfl, rfl⟩
theorem ze131 : ZeI Tryz.prog 131 [.nils, .int .i64 (0), .nils] := ⟨_, Tryz.zeroValue131, rfl, rfl⟩
theorem ze135 : ZeI Tryz.prog 135 [.int .i64 (0), .int .i64 (0), .int .i64 (0), .int .i64 (0)] := ⟨_, Tryz.zeroValue135, rfl, rfl⟩
theorem ze193 : ZeI Tryz.prog 193 [] := ⟨_, Tryz.zeroValue193, rfl, rfl⟩
theorem ze25 : ZeI Tryz.prog 25 [.int .i64 (0), .nils] := ⟨_, Tryz.zeroValue25, rfl, rfl⟩
theorem ze30 : ZeI Tryz.prog 30 [.nils] := ⟨_, Tryz.zeroValue30, rfl, rfl⟩
theorem ze50 : ZeI Tryz.prog 50 [.nils] := ⟨_, Tryz.zeroValue50, rfl, rfl⟩
theorem ze66 : ZeI Tryz.prog 66 [.str [], .str [], .int .i64 (0)] := ⟨_, Tryz.zeroValue66, rfl, rfl⟩
theorem ze71 : ZeI Tryz.prog 71 [.nils] := ⟨_, Tryz.zeroValue71, rfl, rfl⟩
theorem ze73 : ZeI Tryz.prog 73 [.str [], .int .i64 (0)] := ⟨_, Tryz.zeroValue73, rfl, rfl⟩
theorem zr66 : ZrI Tryz.prog 66 3 [.str [], .str [], .int .i64 (0)] := ⟨_, Tryz.zeroValue66, rfl, by simp [Value.cells, Value.oneCell'], fun h => ⟨.str _ (by decide), .str _ (by decide), .int rfl, trivial⟩⟩
end Go.Proofs.YtpfepjgnojfppaaGreatDoor
