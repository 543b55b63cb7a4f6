/-
  Facts on the types of this translation.
-/
import Derived.Test.YtfjldfkgjejpmaaGreatFr
import Derived.Test.YtfjldfkgjejpmaaGreatProg
namespace Go.Proofs.YtfjldfkgjejpmaaGreat
open Go.Ab
theorem follows : Tryz.prog.follows .mixedOrders = true := by kernel_rfl
theorem ai109 : ApI Tryz.prog 109 108 3 24 := ⟨Tryz.underlying109, ⟨Tryz.t108, _, by kernel_rfl, rfl, rfl, rfl, rfl⟩, by decide, ⟨Tryz.sizeOf108, _, Tryz.zeroValue108, rfl⟩⟩
theorem ai148 : ApI Tryz.prog 148 57 1 24 := ⟨Tryz.underlying148, ⟨Tryz.t57, _, by kernel_rfl, rfl, rfl, rfl, rfl⟩, by decide, ⟨Tryz.sizeOf57, _, Tryz.zeroValue57, rfl⟩⟩
theorem ai153 : ApI Tryz.prog 153 155 2 16 := ⟨Tryz.underlying153, ⟨Tryz.t155, _, by kernel_rfl, rfl, rfl, rfl, rfl⟩, by decide, ⟨Tryz.sizeOf155, _, Tryz.zeroValue155, rfl⟩⟩
theorem ai166 : ApI Tryz.prog 166 34 1 8 := ⟨Tryz.underlying166, ⟨Tryz.t34, _, by kernel_rfl, rfl, rfl, rfl, rfl⟩, by decide, ⟨Tryz.sizeOf34, _, Tryz.zeroValue34, rfl⟩⟩
theorem ai22 : ApI Tryz.prog 22 9 1 16 := ⟨Tryz.underlying22, ⟨Tryz.t9, _, by kernel_rfl, rfl, rfl, rfl, rfl⟩, by decide, ⟨Tryz.sizeOf9, _, Tryz.zeroValue9, rfl⟩⟩
theorem ai25 : ApI Tryz.prog 25 51 1 24 := ⟨Tryz.underlying25, ⟨Tryz.t51, _, by kernel_rfl, rfl, rfl, rfl, rfl⟩, by decide, ⟨Tryz.sizeOf51, _, Tryz.zeroValue51, rfl⟩⟩
theorem ai31 : ApI Tryz.prog 31 55 1 24 := ⟨Tryz.underlying31, ⟨Tryz.t55, _, by kernel_rfl, rfl, rfl, rfl, rfl⟩, by decide, ⟨Tryz.sizeOf55, _, Tryz.zeroValue55, rfl⟩⟩
theorem ai49 : ApI Tryz.prog 49 59 2 32 := ⟨Tryz.underlying49, ⟨Tryz.t59, _, by kernel_rfl, rfl, rfl, rfl, rfl⟩, by decide, ⟨Tryz.sizeOf59, _, Tryz.zeroValue59, rfl⟩⟩
theorem ai55 : ApI Tryz.prog 55 54 2 16 := ⟨Tryz.underlying55, ⟨Tryz.t54, _, by kernel_rfl, rfl, rfl, rfl, rfl⟩, by decide, ⟨Tryz.sizeOf54, _, Tryz.zeroValue54, rfl⟩⟩
theorem ai57 : ApI Tryz.prog 57 3 1 8 := ⟨Tryz.underlying57, ⟨Tryz.t3, _, by kernel_rfl, rfl, rfl, rfl, rfl⟩, by decide, ⟨Tryz.sizeOf3, _, Tryz.zeroValue3, rfl⟩⟩
theorem ai63 : ApI Tryz.prog 63 115 3 24 := ⟨Tryz.underlying63, ⟨Tryz.t115, _, by kernel_rfl, rfl, rfl, rfl, rfl⟩, by decide, ⟨Tryz.sizeOf115, _, Tryz.zeroValue115, rfl⟩⟩
theorem ai83 : ApI Tryz.prog 83 92 2 32 := ⟨Tryz.underlying83, ⟨Tryz.t92, _, by kernel_rfl, rfl, rfl, rfl, rfl⟩, by decide, ⟨Tryz.sizeOf92, _, Tryz.zeroValue92, rfl⟩⟩
theorem bu108 : BuI Tryz.prog 108 [.int .i64 (0), .int .i64 (0), .int .i64 (0)] (fun i => ([(0, 1), (1, 1), (2, 1)] : List (Nat × Nat)).toArray[i]?) := ⟨by intro parts; kernel_rfl⟩
theorem bu113 : BuI Tryz.prog 113 [.int .i64 (0), .int .i64 (0), .int .i64 (0)] (fun i => ([(0, 1), (1, 1), (2, 1)] : List (Nat × Nat)).toArray[i]?) := ⟨by intro parts; kernel_rfl⟩
theorem bu115 : BuI Tryz.prog 115 [.int .i64 (0), .int .i64 (0), .int .i64 (0)] (fun i => ([(0, 1), (1, 1), (2, 1)] : List (Nat × Nat)).toArray[i]?) := ⟨by intro parts; kernel_rfl⟩
theorem bu117 : BuI Tryz.prog 117 [.slice none 0 0, .int .i64 (0)] (fun i => ([(0, 2)] : List (Nat × Nat)).toArray[i]?) := ⟨by intro parts; kernel_rfl⟩
theorem bu155 : BuI Tryz.prog 155 [.int .i64 (0), .int .i64 (0)] (fun i => some (i * 1, 1)) := ⟨by intro parts; kernel_rfl⟩
theorem bu24 : BuI Tryz.prog 24 [.slice none 0 0, .int .i64 (0)] (fun i => ([(0, 1), (1, 1)] : List (Nat × Nat)).toArray[i]?) := ⟨by intro parts; kernel_rfl⟩
theorem bu33 : BuI Tryz.prog 33 [.int .i64 (0), .int .i64 (0), .slice none 0 0] (fun i => ([(0, 1), (1, 1), (2, 1)] : List (Nat × Nat)).toArray[i]?) := ⟨by intro parts; kernel_rfl⟩
theorem bu51 : BuI Tryz.prog 51 [.slice none 0 0] (fun i => ([(0, 1)] : List (Nat × Nat)).toArray[i]?) := ⟨by intro parts; kernel_rfl⟩
theorem bu54 : BuI Tryz.prog 54 [.int .i64 (0), .int .i64 (0)] (fun i => ([(0, 1), (1, 1)] : List (Nat × Nat)).toArray[i]?) := ⟨by intro parts; kernel_rfl⟩
theorem bu59 : BuI Tryz.prog 59 [.bool false, .slice none 0 0] (fun i => ([(0, 1), (1, 1)] : List (Nat × Nat)).toArray[i]?) := ⟨by intro parts; kernel_rfl⟩
theorem bu74 : BuI Tryz.prog 74 [.int .i64 (0), .int .i64 (0)] (fun i => ([(0, 1), (1, 1)] : List (Nat × Nat)).toArray[i]?) := ⟨by intro parts; kernel_rfl⟩
theorem bu92 : BuI Tryz.prog 92 [.int .i64 (0), .slice none 0 0] (fun i => ([(0, 1), (1, 1)] : List (Nat × Nat)).toArray[i]?) := ⟨by intro parts; kernel_rfl⟩
theorem eq115 : EqI Tryz.prog 115 3 := EqI.mk_struct (T := 3) (by kernel_rfl) Tryz.underlying115 (by kernel_rfl) (by kernel_rfl) Tryz.underlying3 Tryz.isAgg3
theorem eq54 : EqI Tryz.prog 54 2 := EqI.mk_struct (T := 3) (by kernel_rfl) Tryz.underlying54 (by kernel_rfl) (by kernel_rfl) Tryz.underlying3 Tryz.isAgg3
theorem eq74 : EqI Tryz.prog 74 2 := EqI.mk_struct (T := 3) (by kernel_rfl) Tryz.underlying74 (by kernel_rfl) (by kernel_rfl) Tryz.underlying3 Tryz.isAgg3
theorem fi108_0 : FiI Tryz.prog 108 0 0 := ⟨_, _, _, Tryz.underlying108, rfl, rfl, by decide, Tryz.sizeOf3⟩
theorem fi108_1 : FiI Tryz.prog 108 1 1 := ⟨_, _, _, Tryz.underlying108, rfl, rfl, by decide, Tryz.sizeOf3⟩
theorem fi108_2 : FiI Tryz.prog 108 2 2 := ⟨_, _, _, Tryz.underlying108, rfl, rfl, by decide, Tryz.sizeOf3⟩
theorem fi113_0 : FiI Tryz.prog 113 0 0 := ⟨_, _, _, Tryz.underlying113, rfl, rfl, by decide, Tryz.sizeOf3⟩
theorem fi113_1 : FiI Tryz.prog 113 1 1 := ⟨_, _, _, Tryz.underlying113, rfl, rfl, by decide, Tryz.sizeOf3⟩
theorem fi113_2 : FiI Tryz.prog 113 2 2 := ⟨_, _, _, Tryz.underlying113, rfl, rfl, by decide, Tryz.sizeOf3⟩
theorem fi117_0 : FiI Tryz.prog 117 0 0 := ⟨_, _, _, Tryz.underlying117, rfl, rfl, by decide, Tryz.sizeOf24⟩
theorem fi24_0 : FiI Tryz.prog 24 0 0 := ⟨_, _, _, Tryz.underlying24, rfl, rfl, by decide, Tryz.sizeOf22⟩
theorem fi24_1 : FiI Tryz.prog 24 1 1 := ⟨_, _, _, Tryz.underlying24, rfl, rfl, by decide, Tryz.sizeOf3⟩
theorem fi33_0 : FiI Tryz.prog 33 0 0 := ⟨_, _, _, Tryz.underlying33, rfl, rfl, by decide, Tryz.sizeOf3⟩
theorem fi33_1 : FiI Tryz.prog 33 1 1 := ⟨_, _, _, Tryz.underlying33, rfl, rfl, by decide, Tryz.sizeOf3⟩
theorem fi33_2 : FiI Tryz.prog 33 2 2 := ⟨_, _, _, Tryz.underlying33, rfl, rfl, by decide, Tryz.sizeOf31⟩
theorem fi51_0 : FiI Tryz.prog 51 0 0 := ⟨_, _, _, Tryz.underlying51, rfl, rfl, by decide, Tryz.sizeOf49⟩
theorem fi54_0 : FiI Tryz.prog 54 0 0 := ⟨_, _, _, Tryz.underlying54, rfl, rfl, by decide, Tryz.sizeOf3⟩
theorem fi54_1 : FiI Tryz.prog 54 1 1 := ⟨_, _, _, Tryz.underlying54, rfl, rfl, by decide, Tryz.sizeOf3⟩
theorem fi59_0 : FiI Tryz.prog 59 0 0 := ⟨_, _, _, Tryz.underlying59, rfl, rfl, by decide, Tryz.sizeOf4⟩
theorem fi59_1 : FiI Tryz.prog 59 1 1 := ⟨_, _, _, Tryz.underlying59, rfl, rfl, by decide, Tryz.sizeOf57⟩
theorem fi92_0 : FiI Tryz.prog 92 0 0 := ⟨_, _, _, Tryz.underlying92, rfl, rfl, by decide, Tryz.sizeOf3⟩
theorem fi92_1 : FiI Tryz.prog 92 1 1 := ⟨_, _, _, Tryz.underlying92, rfl, rfl, by decide, Tryz.sizeOf57⟩
theorem si109 : SlI Tryz.prog 109 108 3 := ⟨Tryz.underlying109, Tryz.sizeOf108⟩
theorem si148 : SlI Tryz.prog 148 57 1 := ⟨Tryz.underlying148, Tryz.sizeOf57⟩
theorem si153 : SlI Tryz.prog 153 155 2 := ⟨Tryz.underlying153, Tryz.sizeOf155⟩
theorem si166 : SlI Tryz.prog 166 34 1 := ⟨Tryz.underlying166, Tryz.sizeOf34⟩
theorem si169 : SlI Tryz.prog 169 5 1 := ⟨Tryz.underlying169, Tryz.sizeOf5⟩
theorem si22 : SlI Tryz.prog 22 9 1 := ⟨Tryz.underlying22, Tryz.sizeOf9⟩
theorem si25 : SlI Tryz.prog 25 51 1 := ⟨Tryz.underlying25, Tryz.sizeOf51⟩
theorem si31 : SlI Tryz.prog 31 55 1 := ⟨Tryz.underlying31, Tryz.sizeOf55⟩
theorem si49 : SlI Tryz.prog 49 59 2 := ⟨Tryz.underlying49, Tryz.sizeOf59⟩
theorem si55 : SlI Tryz.prog 55 54 2 := ⟨Tryz.underlying55, Tryz.sizeOf54⟩
theorem si57 : SlI Tryz.prog 57 3 1 := ⟨Tryz.underlying57, Tryz.sizeOf3⟩
theorem si63 : SlI Tryz.prog 63 115 3 := ⟨Tryz.underlying63, Tryz.sizeOf115⟩
theorem si83 : SlI Tryz.prog 83 92 2 := ⟨Tryz.underlying83, Tryz.sizeOf92⟩
theorem str9 : StrI Tryz.prog 9 := ⟨Tryz.underlying9⟩
theorem ti108 : TyI Tryz.prog 108 true 3 := ⟨Tryz.isAgg108, Tryz.sizeOf108⟩
theorem ti113 : TyI Tryz.prog 113 true 3 := ⟨Tryz.isAgg113, Tryz.sizeOf113⟩
theorem ti115 : TyI Tryz.prog 115 true 3 := ⟨Tryz.isAgg115, Tryz.sizeOf115⟩
theorem ti117 : TyI Tryz.prog 117 true 2 := ⟨Tryz.isAgg117, Tryz.sizeOf117⟩
theorem ti155 : TyI Tryz.prog 155 true 2 := ⟨Tryz.isAgg155, Tryz.sizeOf155⟩
theorem ti22 : TyI Tryz.prog 22 false 1 := ⟨Tryz.isAgg22, Tryz.sizeOf22⟩
theorem ti24 : TyI Tryz.prog 24 true 2 := ⟨Tryz.isAgg24, Tryz.sizeOf24⟩
theorem ti3 : TyI Tryz.prog 3 false 1 := ⟨Tryz.isAgg3, Tryz.sizeOf3⟩
theorem ti31 : TyI Tryz.prog 31 false 1 := ⟨Tryz.isAgg31, Tryz.sizeOf31⟩
theorem ti33 : TyI Tryz.prog 33 true 3 := ⟨Tryz.isAgg33, Tryz.sizeOf33⟩
theorem ti34 : TyI Tryz.prog 34 false 1 := ⟨Tryz.isAgg34, Tryz.sizeOf34⟩
theorem ti4 : TyI Tryz.prog 4 false 1 := ⟨Tryz.isAgg4, Tryz.sizeOf4⟩
theorem ti49 : TyI Tryz.prog 49 false 1 := ⟨Tryz.isAgg49, Tryz.sizeOf49⟩
theorem ti5 : TyI Tryz.prog 5 false 1 := ⟨Tryz.isAgg5, Tryz.sizeOf5⟩
theorem ti51 : TyI Tryz.prog 51 true 1 := ⟨Tryz.isAgg51, Tryz.sizeOf51⟩
theorem ti54 : TyI Tryz.prog 54 true 2 := ⟨Tryz.isAgg54, Tryz.sizeOf54⟩
theorem ti55 : TyI Tryz.prog 55 false 1 := ⟨Tryz.isAgg55, Tryz.sizeOf55⟩
theorem ti57 : TyI Tryz.prog 57 false 1 := ⟨Tryz.isAgg57, Tryz.sizeOf57⟩
theorem ti59 : TyI Tryz.prog 59 true 2 := ⟨Tryz.isAgg59, Tryz.sizeOf59⟩
theorem ti63 : TyI Tryz.prog 63 false 1 := ⟨Tryz.isAgg63, Tryz.sizeOf63⟩
theorem ti74 : TyI Tryz.prog 74 true 2 := ⟨Tryz.isAgg74, Tryz.sizeOf74⟩
theorem ti9 : TyI Tryz.prog 9 false 1 := ⟨Tryz.isAgg9, Tryz.sizeOf9⟩
theorem ti92 : TyI Tryz.prog 92 true 2 := ⟨Tryz.isAgg92, Tryz.sizeOf92⟩
theorem ze108 : ZeI Tryz.prog 108 [.int .i64 (0), .int .i64 (0), .int .i64 (0)] := ⟨_, Tryz.zeroValue108, rfl, rfl⟩
theorem ze115 : ZeI Tryz.prog 115 [.int .i64 (0), .int .i64 (0), .int .i64 (0)] := ⟨_, Tryz.zeroValue115, rfl, rfl⟩
theorem ze117 : ZeI Tryz.prog 117 [.nils, .int .i64 (0)] := ⟨_, Tryz.zeroValue117, rfl, rfl⟩
theorem ze155 : ZeI Tryz.prog 155 [.int .i64 (0), .int .i64 (0)] := ⟨_, Tryz.zeroValue155, rfl, rfl⟩
theorem ze24 : ZeI Tryz.prog 24 [.nils, .int .i64 (0)] := ⟨_, Tryz.zeroValue24, rfl, rfl⟩
theorem ze33 : ZeI Tryz.prog 33 [.int .i64 (0), .int .i64 (0), .nils] := ⟨_, Tryz.zeroValue33, rfl, rfl⟩
theorem ze51 : ZeI Tryz.prog 51 [.nils] := ⟨_, Tryz.zeroValue51, rfl, rfl⟩
theorem ze54 : ZeI Tryz.prog 54 [.int .i64 (0), .int .i64 (0)] := ⟨_, Tryz.zeroValue54, rfl, rfl⟩
theorem ze59 : ZeI Tryz.prog 59 [.bool false, .nils] := ⟨_, Tryz.zeroValue59, rfl, rfl⟩
theorem ze74 : ZeI Tryz.prog 74 [.int .i64 (0), .int .i64 (0)] := ⟨_, Tryz.zeroValue74, rfl, rfl⟩
theorem ze92 : ZeI Tryz.prog 92 [.int .i64 (0), .nils] := ⟨_, Tryz.zeroValue92, rfl, rfl⟩
end Go.Proofs.YtfjldfkgjejpmaaGreat
