import Derived.Test.YtjamlnkjfkcdkaaGreatDoorFy
import Derived.Test.YtjamlnkjfkcdkaaGreatDoorProg
/-
  Facts on the types of this translation.
-/
namespace Go.Proofs.YtjamlnkjfkcdkaaGreatDoor
open Go.Ab
theorem follows : Tryz.prog.follows .mixedOrders = true := by kernel_rfl
theorem ai111 : ApI Tryz.prog 111 9 1 16 := ⟨Tryz.underlying111, ⟨Tryz.t9, _, by kernel_rfl, rfl, rfl, rfl, rfl⟩, by decide, ⟨Tryz.sizeOf9, _, Tryz.zeroValue9, rfl⟩⟩
theorem ai116 : ApI Tryz.prog 116 120 2 24 := ⟨Tryz.underlying116, ⟨Tryz.t120, _, by kernel_rfl, rfl, rfl, rfl, rfl⟩, by decide, ⟨Tryz.sizeOf120, _, Tryz.zeroValue120, rfl⟩⟩
theorem ai205 : ApI Tryz.prog 205 31 1 8 := ⟨Tryz.underlying205, ⟨Tryz.t31, _, by kernel_rfl, rfl, rfl, rfl, rfl⟩, by decide, ⟨Tryz.sizeOf31, _, Tryz.zeroValue31, rfl⟩⟩
theorem ai22 : ApI Tryz.prog 22 145 4 40 := ⟨Tryz.underlying22, ⟨Tryz.t145, _, by kernel_rfl, rfl, rfl, rfl, rfl⟩, by decide, ⟨Tryz.sizeOf145, _, Tryz.zeroValue145, rfl⟩⟩
theorem ai23 : ApI Tryz.prog 23 30 1 24 := ⟨Tryz.underlying23, ⟨Tryz.t30, _, by kernel_rfl, rfl, rfl, rfl, rfl⟩, by decide, ⟨Tryz.sizeOf30, _, Tryz.zeroValue30, rfl⟩⟩
theorem ai30 : ApI Tryz.prog 30 3 1 8 := ⟨Tryz.underlying30, ⟨Tryz.t3, _, by kernel_rfl, rfl, rfl, rfl, rfl⟩, by decide, ⟨Tryz.sizeOf3, _, Tryz.zeroValue3, rfl⟩⟩
theorem ai41 : ApI Tryz.prog 41 46 3 24 := ⟨Tryz.underlying41, ⟨Tryz.t46, _, by kernel_rfl, rfl, rfl, rfl, rfl⟩, by decide, ⟨Tryz.sizeOf46, _, Tryz.zeroValue46, rfl⟩⟩
theorem ai77 : ApI Tryz.prog 77 88 3 24 := ⟨Tryz.underlying77, ⟨Tryz.t88, _, by kernel_rfl, rfl, rfl, rfl, rfl⟩, by decide, ⟨Tryz.sizeOf88, _, Tryz.zeroValue88, rfl⟩⟩
theorem ai97 : ApI Tryz.prog 97 113 3 40 := ⟨Tryz.underlying97, ⟨Tryz.t113, _, by kernel_rfl, rfl, rfl, rfl, rfl⟩, by decide, ⟨Tryz.sizeOf113, _, Tryz.zeroValue113, rfl⟩⟩
theorem ai98 : ApI Tryz.prog 98 118 1 24 := ⟨Tryz.underlying98, ⟨Tryz.t118, _, by kernel_rfl, rfl, rfl, rfl, rfl⟩, by decide, ⟨Tryz.sizeOf118, _, Tryz.zeroValue118, rfl⟩⟩
theorem bu113 : BuI Tryz.prog 113 [.string ⟨#[]⟩, .string ⟨#[]⟩, .int .i64 (0)] (fun i => ([(0, 1), (1, 1), (2, 1)] : List (Nat × Nat)).toArray[i]?) := ⟨by intro parts; kernel_rfl⟩
theorem bu118 : BuI Tryz.prog 118 [.slice none 0 0] (fun i => ([(0, 1)] : List (Nat × Nat)).toArray[i]?) := ⟨by intro parts; kernel_rfl⟩
theorem bu120 : BuI Tryz.prog 120 [.string ⟨#[]⟩, .int .i64 (0)] (fun i => ([(0, 1), (1, 1)] : List (Nat × Nat)).toArray[i]?) := ⟨by intro parts; kernel_rfl⟩
theorem bu131 : BuI Tryz.prog 131 [.int .i64 (0), .int .i64 (0), .int .i64 (0)] (fun i => ([(0, 1), (1, 1), (2, 1)] : List (Nat × Nat)).toArray[i]?) := ⟨by intro parts; kernel_rfl⟩
theorem bu145 : BuI Tryz.prog 145 [.string ⟨#[]⟩, .int .i64 (0), .int .i64 (0), .int .i64 (0)] (fun i => ([(0, 1), (1, 1), (2, 1), (3, 1)] : List (Nat × Nat)).toArray[i]?) := ⟨by intro parts; kernel_rfl⟩
theorem bu147 : BuI Tryz.prog 147 [.slice none 0 0, .int .i64 (0), .slice none 0 0] (fun i => ([(0, 1), (1, 2)] : List (Nat × Nat)).toArray[i]?) := ⟨by intro parts; kernel_rfl⟩
theorem bu151 : BuI Tryz.prog 151 [.int .i64 (0), .int .i64 (0), .int .i64 (0), .int .i64 (0)] (fun i => ([(0, 1), (1, 1), (2, 1), (3, 1)] : List (Nat × Nat)).toArray[i]?) := ⟨by intro parts; kernel_rfl⟩
theorem bu166 : BuI Tryz.prog 166 [.int .i64 (0), .int .i64 (0), .int .i64 (0)] (fun i => ([(0, 3)] : List (Nat × Nat)).toArray[i]?) := ⟨by intro parts; kernel_rfl⟩
theorem bu210 : BuI Tryz.prog 210 [] (fun i => ([] : List (Nat × Nat)).toArray[i]?) := ⟨by intro parts; kernel_rfl⟩
theorem bu25 : BuI Tryz.prog 25 [.int .i64 (0), .slice none 0 0] (fun i => ([(0, 1), (1, 1)] : List (Nat × Nat)).toArray[i]?) := ⟨by intro parts; kernel_rfl⟩
theorem bu46 : BuI Tryz.prog 46 [.int .i64 (0), .int .i64 (0), .int .i64 (0)] (fun i => ([(0, 1), (1, 1), (2, 1)] : List (Nat × Nat)).toArray[i]?) := ⟨by intro parts; kernel_rfl⟩
theorem bu53 : BuI Tryz.prog 53 [.int .i64 (0), .int .i64 (0)] (fun i => ([(0, 1), (1, 1)] : List (Nat × Nat)).toArray[i]?) := ⟨by intro parts; kernel_rfl⟩
theorem bu55 : BuI Tryz.prog 55 [.int .i64 (0), .int .i64 (0)] (fun i => ([(0, 1), (1, 1)] : List (Nat × Nat)).toArray[i]?) := ⟨by intro parts; kernel_rfl⟩
theorem bu88 : BuI Tryz.prog 88 [.int .i64 (0), .int .i64 (0), .int .i64 (0)] (fun i => ([(0, 1), (1, 2)] : List (Nat × Nat)).toArray[i]?) := ⟨by intro parts; kernel_rfl⟩
theorem eq55 : EqI Tryz.prog 55 2 := EqI.mk_struct (T := 3) (by kernel_rfl) Tryz.underlying55 (by kernel_rfl) (by kernel_rfl) Tryz.underlying3 Tryz.isAgg3
theorem fi113_0 : FiI Tryz.prog 113 0 0 := ⟨_, _, _, Tryz.underlying113, rfl, rfl, by decide, Tryz.sizeOf9⟩
theorem fi113_1 : FiI Tryz.prog 113 1 1 := ⟨_, _, _, Tryz.underlying113, rfl, rfl, by decide, Tryz.sizeOf9⟩
theorem fi113_2 : FiI Tryz.prog 113 2 2 := ⟨_, _, _, Tryz.underlying113, rfl, rfl, by decide, Tryz.sizeOf3⟩
theorem fi118_0 : FiI Tryz.prog 118 0 0 := ⟨_, _, _, Tryz.underlying118, rfl, rfl, by decide, Tryz.sizeOf116⟩
theorem fi120_0 : FiI Tryz.prog 120 0 0 := ⟨_, _, _, Tryz.underlying120, rfl, rfl, by decide, Tryz.sizeOf9⟩
theorem fi120_1 : FiI Tryz.prog 120 1 1 := ⟨_, _, _, Tryz.underlying120, rfl, rfl, by decide, Tryz.sizeOf3⟩
theorem fi131_0 : FiI Tryz.prog 131 0 0 := ⟨_, _, _, Tryz.underlying131, rfl, rfl, by decide, Tryz.sizeOf3⟩
theorem fi131_1 : FiI Tryz.prog 131 1 1 := ⟨_, _, _, Tryz.underlying131, rfl, rfl, by decide, Tryz.sizeOf3⟩
theorem fi131_2 : FiI Tryz.prog 131 2 2 := ⟨_, _, _, Tryz.underlying131, rfl, rfl, by decide, Tryz.sizeOf3⟩
theorem fi145_0 : FiI Tryz.prog 145 0 0 := ⟨_, _, _, Tryz.underlying145, rfl, rfl, by decide, Tryz.sizeOf9⟩
theorem fi145_1 : FiI Tryz.prog 145 1 1 := ⟨_, _, _, Tryz.underlying145, rfl, rfl, by decide, Tryz.sizeOf3⟩
theorem fi145_2 : FiI Tryz.prog 145 2 2 := ⟨_, _, _, Tryz.underlying145, rfl, rfl, by decide, Tryz.sizeOf3⟩
theorem fi145_3 : FiI Tryz.prog 145 3 3 := ⟨_, _, _, Tryz.underlying145, rfl, rfl, by decide, Tryz.sizeOf3⟩
theorem fi147_0 : FiI Tryz.prog 147 0 0 := ⟨_, _, _, Tryz.underlying147, rfl, rfl, by decide, Tryz.sizeOf22⟩
theorem fi147_1 : FiI Tryz.prog 147 1 1 := ⟨_, _, _, Tryz.underlying147, rfl, rfl, by decide, Tryz.sizeOf25⟩
theorem fi151_0 : FiI Tryz.prog 151 0 0 := ⟨_, _, _, Tryz.underlying151, rfl, rfl, by decide, Tryz.sizeOf3⟩
theorem fi151_1 : FiI Tryz.prog 151 1 1 := ⟨_, _, _, Tryz.underlying151, rfl, rfl, by decide, Tryz.sizeOf3⟩
theorem fi151_2 : FiI Tryz.prog 151 2 2 := ⟨_, _, _, Tryz.underlying151, rfl, rfl, by decide, Tryz.sizeOf3⟩
theorem fi151_3 : FiI Tryz.prog 151 3 3 := ⟨_, _, _, Tryz.underlying151, rfl, rfl, by decide, Tryz.sizeOf3⟩
theorem fi166_0 : FiI Tryz.prog 166 0 0 := ⟨_, _, _, Tryz.underlying166, rfl, rfl, by decide, Tryz.sizeOf131⟩
theorem fi25_0 : FiI Tryz.prog 25 0 0 := ⟨_, _, _, Tryz.underlying25, rfl, rfl, by decide, Tryz.sizeOf3⟩
theorem fi25_1 : FiI Tryz.prog 25 1 1 := ⟨_, _, _, Tryz.underlying25, rfl, rfl, by decide, Tryz.sizeOf23⟩
theorem fi46_0 : FiI Tryz.prog 46 0 0 := ⟨_, _, _, Tryz.underlying46, rfl, rfl, by decide, Tryz.sizeOf3⟩
theorem fi46_1 : FiI Tryz.prog 46 1 1 := ⟨_, _, _, Tryz.underlying46, rfl, rfl, by decide, Tryz.sizeOf3⟩
theorem fi46_2 : FiI Tryz.prog 46 2 2 := ⟨_, _, _, Tryz.underlying46, rfl, rfl, by decide, Tryz.sizeOf3⟩
theorem fi53_0 : FiI Tryz.prog 53 0 0 := ⟨_, _, _, Tryz.underlying53, rfl, rfl, by decide, Tryz.sizeOf3⟩
theorem fi53_1 : FiI Tryz.prog 53 1 1 := ⟨_, _, _, Tryz.underlying53, rfl, rfl, by decide, Tryz.sizeOf3⟩
theorem fi55_0 : FiI Tryz.prog 55 0 0 := ⟨_, _, _, Tryz.underlying55, rfl, rfl, by decide, Tryz.sizeOf3⟩
theorem fi55_1 : FiI Tryz.prog 55 1 1 := ⟨_, _, _, Tryz.underlying55, rfl, rfl, by decide, Tryz.sizeOf3⟩
theorem fi88_0 : FiI Tryz.prog 88 0 0 := ⟨_, _, _, Tryz.underlying88, rfl, rfl, by decide, Tryz.sizeOf3⟩
theorem fi88_1 : FiI Tryz.prog 88 1 1 := ⟨_, _, _, Tryz.underlying88, rfl, rfl, by decide, Tryz.sizeOf53⟩
theorem si111 : SlI Tryz.prog 111 9 1 := ⟨Tryz.underlying111, Tryz.sizeOf9⟩
theorem si116 : SlI Tryz.prog 116 120 2 := ⟨Tryz.underlying116, Tryz.sizeOf120⟩
theorem si205 : SlI Tryz.prog 205 31 1 := ⟨Tryz.underlying205, Tryz.sizeOf31⟩
theorem si217 : SlI Tryz.prog 217 5 1 := ⟨Tryz.underlying217, Tryz.sizeOf5⟩
theorem si22 : SlI Tryz.prog 22 145 4 := ⟨Tryz.underlying22, Tryz.sizeOf145⟩
theorem si23 : SlI Tryz.prog 23 30 1 := ⟨Tryz.underlying23, Tryz.sizeOf30⟩
theorem si30 : SlI Tryz.prog 30 3 1 := ⟨Tryz.underlying30, Tryz.sizeOf3⟩
theorem si41 : SlI Tryz.prog 41 46 3 := ⟨Tryz.underlying41, Tryz.sizeOf46⟩
theorem si77 : SlI Tryz.prog 77 88 3 := ⟨Tryz.underlying77, Tryz.sizeOf88⟩
theorem si97 : SlI Tryz.prog 97 113 3 := ⟨Tryz.underlying97, Tryz.sizeOf113⟩
theorem si98 : SlI Tryz.prog 98 118 1 := ⟨Tryz.underlying98, Tryz.sizeOf118⟩
theorem str9 : StrI Tryz.prog 9 := ⟨Tryz.underlying9⟩
theorem ti113 : TyI Tryz.prog 113 true 3 := ⟨Tryz.isAgg113, Tryz.sizeOf113⟩
theorem ti116 : TyI Tryz.prog 116 false 1 := ⟨Tryz.isAgg116, Tryz.sizeOf116⟩
theorem ti118 : TyI Tryz.prog 118 true 1 := ⟨Tryz.isAgg118, Tryz.sizeOf118⟩
theorem ti120 : TyI Tryz.prog 120 true 2 := ⟨Tryz.isAgg120, Tryz.sizeOf120⟩
theorem ti131 : TyI Tryz.prog 131 true 3 := ⟨Tryz.isAgg131, Tryz.sizeOf131⟩
theorem ti145 : TyI Tryz.prog 145 true 4 := ⟨Tryz.isAgg145, Tryz.sizeOf145⟩
theorem ti147 : TyI Tryz.prog 147 true 3 := ⟨Tryz.isAgg147, Tryz.sizeOf147⟩
theorem ti151 : TyI Tryz.prog 151 true 4 := ⟨Tryz.isAgg151, Tryz.sizeOf151⟩
theorem ti166 : TyI Tryz.prog 166 true 3 := ⟨Tryz.isAgg166, Tryz.sizeOf166⟩
theorem ti210 : TyI Tryz.prog 210 true 0 := ⟨Tryz.isAgg210, Tryz.sizeOf210⟩
theorem ti22 : TyI Tryz.prog 22 false 1 := ⟨Tryz.isAgg22, Tryz.sizeOf22⟩
theorem ti23 : TyI Tryz.prog 23 false 1 := ⟨Tryz.isAgg23, Tryz.sizeOf23⟩
theorem ti25 : TyI Tryz.prog 25 true 2 := ⟨Tryz.isAgg25, Tryz.sizeOf25⟩
theorem ti3 : TyI Tryz.prog 3 false 1 := ⟨Tryz.isAgg3, Tryz.sizeOf3⟩
theorem ti30 : TyI Tryz.prog 30 false 1 := ⟨Tryz.isAgg30, Tryz.sizeOf30⟩
theorem ti31 : TyI Tryz.prog 31 false 1 := ⟨Tryz.isAgg31, Tryz.sizeOf31⟩
theorem ti41 : TyI Tryz.prog 41 false 1 := ⟨Tryz.isAgg41, Tryz.sizeOf41⟩
theorem ti46 : TyI Tryz.prog 46 true 3 := ⟨Tryz.isAgg46, Tryz.sizeOf46⟩
theorem ti5 : TyI Tryz.prog 5 false 1 := ⟨Tryz.isAgg5, Tryz.sizeOf5⟩
theorem ti53 : TyI Tryz.prog 53 true 2 := ⟨Tryz.isAgg53, Tryz.sizeOf53⟩
theorem ti55 : TyI Tryz.prog 55 true 2 := ⟨Tryz.isAgg55, Tryz.sizeOf55⟩
theorem ti88 : TyI Tryz.prog 88 true 3 := ⟨Tryz.isAgg88, Tryz.sizeOf88⟩
theorem ti9 : TyI Tryz.prog 9 false 1 := ⟨Tryz.isAgg9, Tryz.sizeOf9⟩
theorem ti97 : TyI Tryz.prog 97 false 1 := ⟨Tryz.isAgg97, Tryz.sizeOf97⟩
theorem ti98 : TyI Tryz.prog 98 false 1 := ⟨Tryz.isAgg98, Tryz.sizeOf98⟩
theorem ze113 : ZeI Tryz.prog 113 [.str [], .str [], .int .i64 (0)] := ⟨_, Tryz.zeroValue113, rfl, rfl⟩
theorem ze118 : ZeI Tryz.prog 118 [.nils] := ⟨_, Tryz.zeroValue118, rfl, rfl⟩
theorem ze120 : ZeI Tryz.prog 120 [.str [], .int .i64 (0)] := ⟨_, Tryz.zeroValue120, rfl, rfl⟩
theorem ze131 : ZeI Tryz.prog 131 [.int .i64 (0), .int .i64 (0), .int .i64 (0)] := ⟨_, Tryz.zeroValue131, rfl, rfl⟩
theorem ze145 : ZeI Tryz.prog 145 [.str [], .int .i64 (0), .int .i64 (0), .int .i64 (0)] := ⟨_, Tryz.zeroValue145, rfl, rfl⟩
theorem ze147 : ZeI Tryz.prog 147 [.nils, .int .i64 (0), .nils] := ⟨_, Tryz.zeroValue147, rfl, rfl⟩
theorem ze151 : ZeI Tryz.prog 151 [.int .i64 (0), .int .i64 (0), .int .i64 (0), .int .i64 (0)] := ⟨_, Tryz.zeroValue151, rfl, rfl⟩
theorem ze166 : ZeI Tryz.prog 166 [.int .i64 (0), .int .i64 (0), .int .i64 (0)] := ⟨_, Tryz.zeroValue166, rfl, rfl⟩
theorem ze210 : ZeI Tryz.prog 210 [] := ⟨_, Tryz.zeroValue210, rfl, rfl⟩
theorem ze25 : ZeI Tryz.prog 25 [.int .i64 (0), .nils] := ⟨_, Tryz.zeroValue25, rfl, rfl⟩
theorem ze30 : ZeI Tryz.prog 30 [.nils] := ⟨_, Tryz.zeroValue30, rfl, rfl⟩
theorem ze46 : ZeI Tryz.prog 46 [.int .i64 (0), .int .i64 (0), .int .i64 (0)] := ⟨_, Tryz.zeroValue46, rfl, rfl⟩
theorem ze55 : ZeI Tryz.prog 55 [.int .i64 (0), .int .i64 (0)] := ⟨_, Tryz.zeroValue55, rfl, rfl⟩
theorem ze88 : ZeI Tryz.prog 88 [.int .i64 (0), .int .i64 (0), .int .i64 (0)] := ⟨_, Tryz.zeroValue88, rfl, rfl⟩
theorem ze98 : ZeI Tryz.prog 98 [.nils] := ⟨_, Tryz.zeroValue98, rfl, rfl⟩
theorem zr113 : ZrI Tryz.prog 113 3 [.str [], .str [], .int .i64 (0)] := ⟨_, Tryz.zeroValue113, rfl, by simp [Value.cells, Value.oneCell'], fun h => ⟨.str _ (by decide), .str _ (by decide), .int rfl, trivial⟩⟩
end Go.Proofs.YtjamlnkjfkcdkaaGreatDoor
