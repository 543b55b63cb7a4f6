import Derived.Test.YtbnimikgjjjcaaaGreatDoorFy
import Derived.Test.YtbnimikgjjjcaaaGreatDoorProg
namespace Go.Proofs.YtbnimikgjjjcaaaGreatDoor
open Go.Ab
theorem follows : Tryz.prog.follows .mixedOrders = true := by kernel_rfl
theorem ai121 : ApI Tryz.prog 121 9 1 16 := ⟨Tryz.underlying121, ⟨Tryz.t9, _, by kernel_rfl, rfl, rfl, rfl, rfl⟩, by decide, ⟨Tryz.sizeOf9, _, Tryz.zeroValue9, rfl⟩⟩
theorem ai130 : ApI Tryz.prog 130 31 1 8 := ⟨Tryz.underlying130, ⟨Tryz.t31, _, by kernel_rfl, rfl, rfl, rfl, rfl⟩, by decide, ⟨Tryz.sizeOf31, _, Tryz.zeroValue31, rfl⟩⟩
theorem ai22 : ApI Tryz.prog 22 70 4 40 := ⟨Tryz.underlying22, ⟨Tryz.t70, _, by kernel_rfl, rfl, rfl, rfl, rfl⟩, by decide, ⟨Tryz.sizeOf70, _, Tryz.zeroValue70, rfl⟩⟩
theorem ai23 : ApI Tryz.prog 23 26 1 24 := ⟨Tryz.underlying23, ⟨Tryz.t26, _, by kernel_rfl, rfl, rfl, rfl, rfl⟩, by decide, ⟨Tryz.sizeOf26, _, Tryz.zeroValue26, rfl⟩⟩
theorem ai26 : ApI Tryz.prog 26 3 1 8 := ⟨Tryz.underlying26, ⟨Tryz.t3, _, by kernel_rfl, rfl, rfl, rfl, rfl⟩, by decide, ⟨Tryz.sizeOf3, _, Tryz.zeroValue3, rfl⟩⟩
theorem ai47 : ApI Tryz.prog 47 99 1 24 := ⟨Tryz.underlying47, ⟨Tryz.t99, _, by kernel_rfl, rfl, rfl, rfl, rfl⟩, by decide, ⟨Tryz.sizeOf99, _, Tryz.zeroValue99, rfl⟩⟩
theorem ai50 : ApI Tryz.prog 50 96 3 40 := ⟨Tryz.underlying50, ⟨Tryz.t96, _, by kernel_rfl, rfl, rfl, rfl, rfl⟩, by decide, ⟨Tryz.sizeOf96, _, Tryz.zeroValue96, rfl⟩⟩
theorem ai56 : ApI Tryz.prog 56 55 3 24 := ⟨Tryz.underlying56, ⟨Tryz.t55, _, by kernel_rfl, rfl, rfl, rfl, rfl⟩, by decide, ⟨Tryz.sizeOf55, _, Tryz.zeroValue55, rfl⟩⟩
theorem ai66 : ApI Tryz.prog 66 65 3 24 := ⟨Tryz.underlying66, ⟨Tryz.t65, _, by kernel_rfl, rfl, rfl, rfl, rfl⟩, by decide, ⟨Tryz.sizeOf65, _, Tryz.zeroValue65, rfl⟩⟩
theorem ai97 : ApI Tryz.prog 97 102 2 24 := ⟨Tryz.underlying97, ⟨Tryz.t102, _, by kernel_rfl, rfl, rfl, rfl, rfl⟩, by decide, ⟨Tryz.sizeOf102, _, Tryz.zeroValue102, rfl⟩⟩
theorem bu102 : BuI Tryz.prog 102 [.string ⟨#[]⟩, .int .i64 (0)] (fun i => ([(0, 1), (1, 1)] : List (Nat × Nat)).toArray[i]?) := ⟨by intro parts; kernel_rfl⟩
theorem bu110 : BuI Tryz.prog 110 [.int .i64 (0), .int .i64 (0), .int .i64 (0)] (fun i => ([(0, 1), (1, 1), (2, 1)] : List (Nat × Nat)).toArray[i]?) := ⟨by intro parts; kernel_rfl⟩
theorem bu112 : BuI Tryz.prog 112 [.int .i64 (0), .int .i64 (0), .int .i64 (0)] (fun i => ([(0, 3)] : List (Nat × Nat)).toArray[i]?) := ⟨by intro parts; kernel_rfl⟩
theorem bu138 : BuI Tryz.prog 138 [] (fun i => ([] : List (Nat × Nat)).toArray[i]?) := ⟨by intro parts; kernel_rfl⟩
theorem bu25 : BuI Tryz.prog 25 [.int .i64 (0), .slice none 0 0] (fun i => ([(0, 1), (1, 1)] : List (Nat × Nat)).toArray[i]?) := ⟨by intro parts; kernel_rfl⟩
theorem bu55 : BuI Tryz.prog 55 [.int .i64 (0), .int .i64 (0), .int .i64 (0)] (fun i => ([(0, 1), (1, 1), (2, 1)] : List (Nat × Nat)).toArray[i]?) := ⟨by intro parts; kernel_rfl⟩
theorem bu58 : BuI Tryz.prog 58 [.int .i64 (0), .int .i64 (0)] (fun i => ([(0, 1), (1, 1)] : List (Nat × Nat)).toArray[i]?) := ⟨by intro parts; kernel_rfl⟩
theorem bu62 : BuI Tryz.prog 62 [.int .i64 (0), .int .i64 (0)] (fun i => ([(0, 1), (1, 1)] : List (Nat × Nat)).toArray[i]?) := ⟨by intro parts; kernel_rfl⟩
theorem bu65 : BuI Tryz.prog 65 [.int .i64 (0), .int .i64 (0), .int .i64 (0)] (fun i => ([(0, 1), (1, 2)] : List (Nat × Nat)).toArray[i]?) := ⟨by intro parts; kernel_rfl⟩
theorem bu70 : BuI Tryz.prog 70 [.string ⟨#[]⟩, .int .i64 (0), .int .i64 (0), .int .i64 (0)] (fun i => ([(0, 1), (1, 1), (2, 1), (3, 1)] : List (Nat × Nat)).toArray[i]?) := ⟨by intro parts; kernel_rfl⟩
theorem bu75 : BuI Tryz.prog 75 [.slice none 0 0, .int .i64 (0), .slice none 0 0] (fun i => ([(0, 1), (1, 2)] : List (Nat × Nat)).toArray[i]?) := ⟨by intro parts; kernel_rfl⟩
theorem bu79 : BuI Tryz.prog 79 [.int .i64 (0), .int .i64 (0), .int .i64 (0), .int .i64 (0)] (fun i => ([(0, 1), (1, 1), (2, 1), (3, 1)] : List (Nat × Nat)).toArray[i]?) := ⟨by intro parts; kernel_rfl⟩
theorem bu96 : BuI Tryz.prog 96 [.string ⟨#[]⟩, .string ⟨#[]⟩, .int .i64 (0)] (fun i => ([(0, 1), (1, 1), (2, 1)] : List (Nat × Nat)).toArray[i]?) := ⟨by intro parts; kernel_rfl⟩
theorem bu99 : BuI Tryz.prog 99 [.slice none 0 0] (fun i => ([(0, 1)] : List (Nat × Nat)).toArray[i]?) := ⟨by intro parts; kernel_rfl⟩
theorem eq58 : EqI Tryz.prog 58 2 := EqI.mk_struct (T := 3) (by kernel_rfl) Tryz.underlying58 (by kernel_rfl) (by kernel_rfl) Tryz.underlying3 Tryz.isAgg3
theorem fi102_0 : FiI Tryz.prog 102 0 0 := ⟨_, _, _, Tryz.underlying102, rfl, rfl, by decide, Tryz.sizeOf9⟩
theorem fi102_1 : FiI Tryz.prog 102 1 1 := ⟨_, _, _, Tryz.underlying102, rfl, rfl, by decide, Tryz.sizeOf3⟩
theorem fi110_0 : FiI Tryz.prog 110 0 0 := ⟨_, _, _, Tryz.underlying110, rfl, rfl, by decide, Tryz.sizeOf3⟩
theorem fi110_1 : FiI Tryz.prog 110 1 1 := ⟨_, _, _, Tryz.underlying110, rfl, rfl, by decide, Tryz.sizeOf3⟩
theorem fi110_2 : FiI Tryz.prog 110 2 2 := ⟨_, _, _, Tryz.underlying110, rfl, rfl, by decide, Tryz.sizeOf3⟩
theorem fi112_0 : FiI Tryz.prog 112 0 0 := ⟨_, _, _, Tryz.underlying112, rfl, rfl, by decide, Tryz.sizeOf110⟩
theorem fi25_0 : FiI Tryz.prog 25 0 0 := ⟨_, _, _, Tryz.underlying25, rfl, rfl, by decide, Tryz.sizeOf3⟩
theorem fi25_1 : FiI Tryz.prog 25 1 1 := ⟨_, _, _, Tryz.underlying25, rfl, rfl, by decide, Tryz.sizeOf23⟩
theorem fi55_0 : FiI Tryz.prog 55 0 0 := ⟨_, _, _, Tryz.underlying55, rfl, rfl, by decide, Tryz.sizeOf3⟩
theorem fi55_1 : FiI Tryz.prog 55 1 1 := ⟨_, _, _, Tryz.underlying55, rfl, rfl, by decide, Tryz.sizeOf3⟩
theorem fi55_2 : FiI Tryz.prog 55 2 2 := ⟨_, _, _, Tryz.underlying55, rfl, rfl, by decide, Tryz.sizeOf3⟩
theorem fi58_0 : FiI Tryz.prog 58 0 0 := ⟨_, _, _, Tryz.underlying58, rfl, rfl, by decide, Tryz.sizeOf3⟩
theorem fi58_1 : FiI Tryz.prog 58 1 1 := ⟨_, _, _, Tryz.underlying58, rfl, rfl, by decide, Tryz.sizeOf3⟩
theorem fi62_0 : FiI Tryz.prog 62 0 0 := ⟨_, _, _, Tryz.underlying62, rfl, rfl, by decide, Tryz.sizeOf3⟩
theorem fi62_1 : FiI Tryz.prog 62 1 1 := ⟨_, _, _, Tryz.underlying62, rfl, rfl, by decide, Tryz.sizeOf3⟩
theorem fi65_0 : FiI Tryz.prog 65 0 0 := ⟨_, _, _, Tryz.underlying65, rfl, rfl, by decide, Tryz.sizeOf3⟩
theorem fi65_1 : FiI Tryz.prog 65 1 1 := ⟨_, _, _, Tryz.underlying65, rfl, rfl, by decide, Tryz.sizeOf62⟩
theorem fi70_0 : FiI Tryz.prog 70 0 0 := ⟨_, _, _, Tryz.underlying70, rfl, rfl, by decide, Tryz.sizeOf9⟩
theorem fi70_1 : FiI Tryz.prog 70 1 1 := ⟨_, _, _, Tryz.underlying70, rfl, rfl, by decide, Tryz.sizeOf3⟩
theorem fi70_2 : FiI Tryz.prog 70 2 2 := ⟨_, _, _, Tryz.underlying70, rfl, rfl, by decide, Tryz.sizeOf3⟩
theorem fi70_3 : FiI Tryz.prog 70 3 3 := ⟨_, _, _, Tryz.underlying70, rfl, rfl, by decide, Tryz.sizeOf3⟩
theorem fi75_0 : FiI Tryz.prog 75 0 0 := ⟨_, _, _, Tryz.underlying75, rfl, rfl, by decide, Tryz.sizeOf22⟩
theorem fi75_1 : FiI Tryz.prog 75 1 1 := ⟨_, _, _, Tryz.underlying75, rfl, rfl, by decide, Tryz.sizeOf25⟩
theorem fi79_0 : FiI Tryz.prog 79 0 0 := ⟨_, _, _, Tryz.underlying79, rfl, rfl, by decide, Tryz.sizeOf3⟩
theorem fi79_1 : FiI Tryz.prog 79 1 1 := ⟨_, _, _, Tryz.underlying79, rfl, rfl, by decide, Tryz.sizeOf3⟩
theorem fi79_2 : FiI Tryz.prog 79 2 2 := ⟨_, _, _, Tryz.underlying79, rfl, rfl, by decide, Tryz.sizeOf3⟩
theorem fi79_3 : FiI Tryz.prog 79 3 3 := ⟨_, _, _, Tryz.underlying79, rfl, rfl, by decide, Tryz.sizeOf3⟩
theorem fi96_0 : FiI Tryz.prog 96 0 0 := ⟨_, _, _, Tryz.underlying96, rfl, rfl, by decide, Tryz.sizeOf9⟩
theorem fi96_1 : FiI Tryz.prog 96 1 1 := ⟨_, _, _, Tryz.underlying96, rfl, rfl, by decide, Tryz.sizeOf9⟩
theorem fi96_2 : FiI Tryz.prog 96 2 2 := ⟨_, _, _, Tryz.underlying96, rfl, rfl, by decide, Tryz.sizeOf3⟩
theorem fi99_0 : FiI Tryz.prog 99 0 0 := ⟨_, _, _, Tryz.underlying99, rfl, rfl, by decide, Tryz.sizeOf97⟩
theorem si121 : SlI Tryz.prog 121 9 1 := ⟨Tryz.underlying121, Tryz.sizeOf9⟩
theorem si130 : SlI Tryz.prog 130 31 1 := ⟨Tryz.underlying130, Tryz.sizeOf31⟩
theorem si150 : SlI Tryz.prog 150 5 1 := ⟨Tryz.underlying150, Tryz.sizeOf5⟩
theorem si22 : SlI Tryz.prog 22 70 4 := ⟨Tryz.underlying22, Tryz.sizeOf70⟩
theorem si23 : SlI Tryz.prog 23 26 1 := ⟨Tryz.underlying23, Tryz.sizeOf26⟩
theorem si26 : SlI Tryz.prog 26 3 1 := ⟨Tryz.underlying26, Tryz.sizeOf3⟩
theorem si47 : SlI Tryz.prog 47 99 1 := ⟨Tryz.underlying47, Tryz.sizeOf99⟩
theorem si50 : SlI Tryz.prog 50 96 3 := ⟨Tryz.underlying50, Tryz.sizeOf96⟩
theorem si56 : SlI Tryz.prog 56 55 3 := ⟨Tryz.underlying56, Tryz.sizeOf55⟩
theorem si66 : SlI Tryz.prog 66 65 3 := ⟨Tryz.underlying66, Tryz.sizeOf65⟩
theorem si97 : SlI Tryz.prog 97 102 2 := ⟨Tryz.underlying97, Tryz.sizeOf102⟩
theorem str9 : StrI Tryz.prog 9 := ⟨Tryz.underlying9⟩
theorem ti102 : TyI Tryz.prog 102 true 2 := ⟨Tryz.isAgg102, Tryz.sizeOf102⟩
theorem ti112 : TyI Tryz.prog 112 true 3 := ⟨Tryz.isAgg112, Tryz.sizeOf112⟩
theorem ti138 : TyI Tryz.prog 138 true 0 := ⟨Tryz.isAgg138, Tryz.sizeOf138⟩
theorem ti22 : TyI Tryz.prog 22 false 1 := ⟨Tryz.isAgg22, Tryz.sizeOf22⟩
theorem ti23 : TyI Tryz.prog 23 false 1 := ⟨Tryz.isAgg23, Tryz.sizeOf23⟩
theorem ti25 : TyI Tryz.prog 25 true 2 := ⟨Tryz.isAgg25, Tryz.sizeOf25⟩
theorem ti26 : TyI Tryz.prog 26 false 1 := ⟨Tryz.isAgg26, Tryz.sizeOf26⟩
theorem ti3 : TyI Tryz.prog 3 false 1 := ⟨Tryz.isAgg3, Tryz.sizeOf3⟩
theorem ti31 : TyI Tryz.prog 31 false 1 := ⟨Tryz.isAgg31, Tryz.sizeOf31⟩
theorem ti47 : TyI Tryz.prog 47 false 1 := ⟨Tryz.isAgg47, Tryz.sizeOf47⟩
theorem ti5 : TyI Tryz.prog 5 false 1 := ⟨Tryz.isAgg5, Tryz.sizeOf5⟩
theorem ti50 : TyI Tryz.prog 50 false 1 := ⟨Tryz.isAgg50, Tryz.sizeOf50⟩
theorem ti55 : TyI Tryz.prog 55 true 3 := ⟨Tryz.isAgg55, Tryz.sizeOf55⟩
theorem ti56 : TyI Tryz.prog 56 false 1 := ⟨Tryz.isAgg56, Tryz.sizeOf56⟩
theorem ti58 : TyI Tryz.prog 58 true 2 := ⟨Tryz.isAgg58, Tryz.sizeOf58⟩
theorem ti62 : TyI Tryz.prog 62 true 2 := ⟨Tryz.isAgg62, Tryz.sizeOf62⟩
theorem ti65 : TyI Tryz.prog 65 true 3 := ⟨Tryz.isAgg65, Tryz.sizeOf65⟩
theorem ti70 : TyI Tryz.prog 70 true 4 := ⟨Tryz.isAgg70, Tryz.sizeOf70⟩
theorem ti75 : TyI Tryz.prog 75 true 3 := ⟨Tryz.isAgg75, Tryz.sizeOf75⟩
theorem ti79 : TyI Tryz.prog 79 true 4 := ⟨Tryz.isAgg79, Tryz.sizeOf79⟩
theorem ti9 : TyI Tryz.prog 9 false 1 := ⟨Tryz.isAgg9, Tryz.sizeOf9⟩
theorem ti96 : TyI Tryz.prog 96 true 3 := ⟨Tryz.isAgg96, Tryz.sizeOf96⟩
theorem ti97 : TyI Tryz.prog 97 false 1 := ⟨Tryz.isAgg97, Tryz.sizeOf97⟩
theorem ti99 : TyI Tryz.prog 99 true 1 := ⟨Tryz.isAgg99, Tryz.sizeOf99⟩
theorem ze102 : ZeI Tryz.prog 102 [.str [], .int .i64 (0)] := ⟨_, Tryz.zeroValue102, rfl, rfl⟩
theorem ze112 : ZeI Tryz.prog 112 [.int .i64 (0), .int .i64 (0), .int .i64 (0)] := ⟨_, Tryz.zeroValue112, rfl, rfl⟩
theorem ze138 : ZeI Tryz.prog 138 [] := ⟨_, Tryz.zeroValue138, rfl, rfl⟩
theorem ze25 : ZeI Tryz.prog 25 [.int .i64 (0), .nils] := ⟨_, Tryz.zeroValue25, rfl, rfl⟩
theorem ze26 : ZeI Tryz.prog 26 [.nils] := ⟨_, Tryz.zeroValue26, rfl, rfl⟩
theorem ze47 : ZeI Tryz.prog 47 [.nils] := ⟨_, Tryz.zeroValue47, rfl, rfl⟩
theorem ze55 : ZeI Tryz.prog 55 [.int .i64 (0), .int .i64 (0), .int .i64 (0)] := ⟨_, Tryz.zeroValue55, rfl, rfl⟩
theorem ze58 : ZeI Tryz.prog 58 [.int .i64 (0), .int .i64 (0)] := ⟨_, Tryz.zeroValue58, rfl, rfl⟩
theorem ze65 : ZeI Tryz.prog 65 [.int .i64 (0), .int .i64 (0), .int .i64 (0)] := ⟨_, Tryz.zeroValue65, rfl, rfl⟩
theorem ze70 : ZeI Tryz.prog 70 [.str [], .int .i64 (0), .int .i64 (0), .int .i64 (0)] := ⟨_, Tryz.zeroValue70, rfl, rfl⟩
theorem ze75 : ZeI Tryz.prog 75 [.nils, .int .i64 (0), .nils] := ⟨_, Tryz.zeroValue75, rfl, rfl⟩
theorem ze79 : ZeI Tryz.prog 79 [.int .i64 (0), .int .i64 (0), .int .i64 (0), .int .i64 (0)] := ⟨_, Tryz.zeroValue79, rfl, rfl⟩
theorem ze96 : ZeI Tryz.prog 96 [.str [], .str [], .int .i64 (0)] := ⟨_, Tryz.zeroValue96, rfl, rfl⟩
theorem ze99 : ZeI Tryz.prog 99 [.nils] := ⟨_, Tryz.zeroValue99, rfl, rfl⟩
theorem zr96 : ZrI Tryz.prog 96 3 [.str [], .str [], .int .i64 (0)] := ⟨_, Tryz.zeroValue96, rfl, by simp [Value.cells, Value.oneCell'], fun h => ⟨.str _ (by decide), .str _ (by decide), .int rfl, trivial⟩⟩
end Go.Proofs.YtbnimikgjjjcaaaGreatDoor
