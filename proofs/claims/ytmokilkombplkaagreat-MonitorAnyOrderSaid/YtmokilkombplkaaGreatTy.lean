/-
  Facts on the types of this translation.
-/
import Derived.Test.YtmokilkombplkaaGreatFr
import Derived.Test.YtmokilkombplkaaGreatProg
namespace Go.Proofs.YtmokilkombplkaaGreat
open Go.Ab
theorem follows : Tryz.prog.follows .mixedOrders = true := by kernel_rfl
theorem ai111 : ApI Tryz.prog 111 33 1 24 := ⟨Tryz.underlying111, ⟨Tryz.t33, _, by kernel_rfl, rfl, rfl, rfl, rfl⟩, by decide, ⟨Tryz.sizeOf33, _, Tryz.zeroValue33, rfl⟩⟩
theorem ai118 : ApI Tryz.prog 118 120 2 16 := ⟨Tryz.underlying118, ⟨Tryz.t120, _, by kernel_rfl, rfl, rfl, rfl, rfl⟩, by decide, ⟨Tryz.sizeOf120, _, Tryz.zeroValue120, rfl⟩⟩
theorem ai125 : ApI Tryz.prog 125 40 1 8 := ⟨Tryz.underlying125, ⟨Tryz.t40, _, by kernel_rfl, rfl, rfl, rfl, rfl⟩, by decide, ⟨Tryz.sizeOf40, _, Tryz.zeroValue40, rfl⟩⟩
theorem ai131 : ApI Tryz.prog 131 26 1 24 := ⟨Tryz.underlying131, ⟨Tryz.t26, _, by kernel_rfl, rfl, rfl, rfl, rfl⟩, by decide, ⟨Tryz.sizeOf26, _, Tryz.zeroValue26, rfl⟩⟩
theorem ai22 : ApI Tryz.prog 22 9 1 16 := ⟨Tryz.underlying22, ⟨Tryz.t9, _, by kernel_rfl, rfl, rfl, rfl, rfl⟩, by decide, ⟨Tryz.sizeOf9, _, Tryz.zeroValue9, rfl⟩⟩
theorem ai25 : ApI Tryz.prog 25 35 2 32 := ⟨Tryz.underlying25, ⟨Tryz.t35, _, by kernel_rfl, rfl, rfl, rfl, rfl⟩, by decide, ⟨Tryz.sizeOf35, _, Tryz.zeroValue35, rfl⟩⟩
theorem ai26 : ApI Tryz.prog 26 39 1 24 := ⟨Tryz.underlying26, ⟨Tryz.t39, _, by kernel_rfl, rfl, rfl, rfl, rfl⟩, by decide, ⟨Tryz.sizeOf39, _, Tryz.zeroValue39, rfl⟩⟩
theorem ai33 : ApI Tryz.prog 33 3 1 8 := ⟨Tryz.underlying33, ⟨Tryz.t3, _, by kernel_rfl, rfl, rfl, rfl, rfl⟩, by decide, ⟨Tryz.sizeOf3, _, Tryz.zeroValue3, rfl⟩⟩
theorem ai37 : ApI Tryz.prog 37 99 2 32 := ⟨Tryz.underlying37, ⟨Tryz.t99, _, by kernel_rfl, rfl, rfl, rfl, rfl⟩, by decide, ⟨Tryz.sizeOf99, _, Tryz.zeroValue99, rfl⟩⟩
theorem ai47 : ApI Tryz.prog 47 78 1 24 := ⟨Tryz.underlying47, ⟨Tryz.t78, _, by kernel_rfl, rfl, rfl, rfl, rfl⟩, by decide, ⟨Tryz.sizeOf78, _, Tryz.zeroValue78, rfl⟩⟩
theorem ai60 : ApI Tryz.prog 60 81 3 24 := ⟨Tryz.underlying60, ⟨Tryz.t81, _, by kernel_rfl, rfl, rfl, rfl, rfl⟩, by decide, ⟨Tryz.sizeOf81, _, Tryz.zeroValue81, rfl⟩⟩
theorem ai71 : ApI Tryz.prog 71 70 3 24 := ⟨Tryz.underlying71, ⟨Tryz.t70, _, by kernel_rfl, rfl, rfl, rfl, rfl⟩, by decide, ⟨Tryz.sizeOf70, _, Tryz.zeroValue70, rfl⟩⟩
theorem ai78 : ApI Tryz.prog 78 77 2 16 := ⟨Tryz.underlying78, ⟨Tryz.t77, _, by kernel_rfl, rfl, rfl, rfl, rfl⟩, by decide, ⟨Tryz.sizeOf77, _, Tryz.zeroValue77, rfl⟩⟩
theorem bu120 : BuI Tryz.prog 120 [.int .i64 (0), .int .i64 (0)] (fun i => some (i * 1, 1)) := ⟨by intro parts; kernel_rfl⟩
theorem bu24 : BuI Tryz.prog 24 [.slice none 0 0, .int .i64 (0)] (fun i => ([(0, 1), (1, 1)] : List (Nat × Nat)).toArray[i]?) := ⟨by intro parts; kernel_rfl⟩
theorem bu35 : BuI Tryz.prog 35 [.int .i64 (0), .slice none 0 0] (fun i => ([(0, 1), (1, 1)] : List (Nat × Nat)).toArray[i]?) := ⟨by intro parts; kernel_rfl⟩
theorem bu39 : BuI Tryz.prog 39 [.slice none 0 0] (fun i => ([(0, 1)] : List (Nat × Nat)).toArray[i]?) := ⟨by intro parts; kernel_rfl⟩
theorem bu49 : BuI Tryz.prog 49 [.int .i64 (0), .int .i64 (0), .slice none 0 0] (fun i => ([(0, 1), (1, 1), (2, 1)] : List (Nat × Nat)).toArray[i]?) := ⟨by intro parts; kernel_rfl⟩
theorem bu65 : BuI Tryz.prog 65 [.int .i64 (0), .int .i64 (0)] (fun i => ([(0, 1), (1, 1)] : List (Nat × Nat)).toArray[i]?) := ⟨by intro parts; kernel_rfl⟩
theorem bu70 : BuI Tryz.prog 70 [.int .i64 (0), .int .i64 (0), .int .i64 (0)] (fun i => ([(0, 1), (1, 1), (2, 1)] : List (Nat × Nat)).toArray[i]?) := ⟨by intro parts; kernel_rfl⟩
theorem bu75 : BuI Tryz.prog 75 [.int .i64 (0), .int .i64 (0), .int .i64 (0)] (fun i => ([(0, 1), (1, 1), (2, 1)] : List (Nat × Nat)).toArray[i]?) := ⟨by intro parts; kernel_rfl⟩
theorem bu77 : BuI Tryz.prog 77 [.int .i64 (0), .int .i64 (0)] (fun i => ([(0, 1), (1, 1)] : List (Nat × Nat)).toArray[i]?) := ⟨by intro parts; kernel_rfl⟩
theorem bu81 : BuI Tryz.prog 81 [.int .i64 (0), .int .i64 (0), .int .i64 (0)] (fun i => ([(0, 1), (1, 1), (2, 1)] : List (Nat × Nat)).toArray[i]?) := ⟨by intro parts; kernel_rfl⟩
theorem bu89 : BuI Tryz.prog 89 [.slice none 0 0, .int .i64 (0)] (fun i => ([(0, 2)] : List (Nat × Nat)).toArray[i]?) := ⟨by intro parts; kernel_rfl⟩
theorem bu99 : BuI Tryz.prog 99 [.bool false, .slice none 0 0] (fun i => ([(0, 1), (1, 1)] : List (Nat × Nat)).toArray[i]?) := ⟨by intro parts; kernel_rfl⟩
theorem eq65 : EqI Tryz.prog 65 2 := EqI.mk_struct (T := 3) (by kernel_rfl) Tryz.underlying65 (by kernel_rfl) (by kernel_rfl) Tryz.underlying3 Tryz.isAgg3
theorem eq77 : EqI Tryz.prog 77 2 := EqI.mk_struct (T := 3) (by kernel_rfl) Tryz.underlying77 (by kernel_rfl) (by kernel_rfl) Tryz.underlying3 Tryz.isAgg3
theorem eq81 : EqI Tryz.prog 81 3 := EqI.mk_struct (T := 3) (by kernel_rfl) Tryz.underlying81 (by kernel_rfl) (by kernel_rfl) Tryz.underlying3 Tryz.isAgg3
theorem fi24_0 : FiI Tryz.prog 24 0 0 := ⟨_, _, _, Tryz.underlying24, rfl, rfl, by decide, Tryz.sizeOf22⟩
theorem fi24_1 : FiI Tryz.prog 24 1 1 := ⟨_, _, _, Tryz.underlying24, rfl, rfl, by decide, Tryz.sizeOf3⟩
theorem fi28_0 : FiI Tryz.prog 28 0 0 := ⟨_, _, _, Tryz.underlying28, rfl, rfl, by decide, Tryz.sizeOf26⟩
theorem fi28_1 : FiI Tryz.prog 28 1 1 := ⟨_, _, _, Tryz.underlying28, rfl, rfl, by decide, Tryz.sizeOf3⟩
theorem fi35_0 : FiI Tryz.prog 35 0 0 := ⟨_, _, _, Tryz.underlying35, rfl, rfl, by decide, Tryz.sizeOf3⟩
theorem fi35_1 : FiI Tryz.prog 35 1 1 := ⟨_, _, _, Tryz.underlying35, rfl, rfl, by decide, Tryz.sizeOf33⟩
theorem fi39_0 : FiI Tryz.prog 39 0 0 := ⟨_, _, _, Tryz.underlying39, rfl, rfl, by decide, Tryz.sizeOf37⟩
theorem fi49_0 : FiI Tryz.prog 49 0 0 := ⟨_, _, _, Tryz.underlying49, rfl, rfl, by decide, Tryz.sizeOf3⟩
theorem fi49_1 : FiI Tryz.prog 49 1 1 := ⟨_, _, _, Tryz.underlying49, rfl, rfl, by decide, Tryz.sizeOf3⟩
theorem fi49_2 : FiI Tryz.prog 49 2 2 := ⟨_, _, _, Tryz.underlying49, rfl, rfl, by decide, Tryz.sizeOf47⟩
theorem fi70_0 : FiI Tryz.prog 70 0 0 := ⟨_, _, _, Tryz.underlying70, rfl, rfl, by decide, Tryz.sizeOf3⟩
theorem fi70_1 : FiI Tryz.prog 70 1 1 := ⟨_, _, _, Tryz.underlying70, rfl, rfl, by decide, Tryz.sizeOf3⟩
theorem fi70_2 : FiI Tryz.prog 70 2 2 := ⟨_, _, _, Tryz.underlying70, rfl, rfl, by decide, Tryz.sizeOf3⟩
theorem fi75_0 : FiI Tryz.prog 75 0 0 := ⟨_, _, _, Tryz.underlying75, rfl, rfl, by decide, Tryz.sizeOf3⟩
theorem fi75_1 : FiI Tryz.prog 75 1 1 := ⟨_, _, _, Tryz.underlying75, rfl, rfl, by decide, Tryz.sizeOf3⟩
theorem fi75_2 : FiI Tryz.prog 75 2 2 := ⟨_, _, _, Tryz.underlying75, rfl, rfl, by decide, Tryz.sizeOf3⟩
theorem fi77_0 : FiI Tryz.prog 77 0 0 := ⟨_, _, _, Tryz.underlying77, rfl, rfl, by decide, Tryz.sizeOf3⟩
theorem fi77_1 : FiI Tryz.prog 77 1 1 := ⟨_, _, _, Tryz.underlying77, rfl, rfl, by decide, Tryz.sizeOf3⟩
theorem fi89_0 : FiI Tryz.prog 89 0 0 := ⟨_, _, _, Tryz.underlying89, rfl, rfl, by decide, Tryz.sizeOf24⟩
theorem fi99_0 : FiI Tryz.prog 99 0 0 := ⟨_, _, _, Tryz.underlying99, rfl, rfl, by decide, Tryz.sizeOf4⟩
theorem fi99_1 : FiI Tryz.prog 99 1 1 := ⟨_, _, _, Tryz.underlying99, rfl, rfl, by decide, Tryz.sizeOf33⟩
theorem si111 : SlI Tryz.prog 111 33 1 := ⟨Tryz.underlying111, Tryz.sizeOf33⟩
theorem si118 : SlI Tryz.prog 118 120 2 := ⟨Tryz.underlying118, Tryz.sizeOf120⟩
theorem si125 : SlI Tryz.prog 125 40 1 := ⟨Tryz.underlying125, Tryz.sizeOf40⟩
theorem si131 : SlI Tryz.prog 131 26 1 := ⟨Tryz.underlying131, Tryz.sizeOf26⟩
theorem si164 : SlI Tryz.prog 164 5 1 := ⟨Tryz.underlying164, Tryz.sizeOf5⟩
theorem si22 : SlI Tryz.prog 22 9 1 := ⟨Tryz.underlying22, Tryz.sizeOf9⟩
theorem si25 : SlI Tryz.prog 25 35 2 := ⟨Tryz.underlying25, Tryz.sizeOf35⟩
theorem si26 : SlI Tryz.prog 26 39 1 := ⟨Tryz.underlying26, Tryz.sizeOf39⟩
theorem si33 : SlI Tryz.prog 33 3 1 := ⟨Tryz.underlying33, Tryz.sizeOf3⟩
theorem si37 : SlI Tryz.prog 37 99 2 := ⟨Tryz.underlying37, Tryz.sizeOf99⟩
theorem si47 : SlI Tryz.prog 47 78 1 := ⟨Tryz.underlying47, Tryz.sizeOf78⟩
theorem si60 : SlI Tryz.prog 60 81 3 := ⟨Tryz.underlying60, Tryz.sizeOf81⟩
theorem si71 : SlI Tryz.prog 71 70 3 := ⟨Tryz.underlying71, Tryz.sizeOf70⟩
theorem si78 : SlI Tryz.prog 78 77 2 := ⟨Tryz.underlying78, Tryz.sizeOf77⟩
theorem str9 : StrI Tryz.prog 9 := ⟨Tryz.underlying9⟩
theorem ti120 : TyI Tryz.prog 120 true 2 := ⟨Tryz.isAgg120, Tryz.sizeOf120⟩
theorem ti22 : TyI Tryz.prog 22 false 1 := ⟨Tryz.isAgg22, Tryz.sizeOf22⟩
theorem ti24 : TyI Tryz.prog 24 true 2 := ⟨Tryz.isAgg24, Tryz.sizeOf24⟩
theorem ti26 : TyI Tryz.prog 26 false 1 := ⟨Tryz.isAgg26, Tryz.sizeOf26⟩
theorem ti3 : TyI Tryz.prog 3 false 1 := ⟨Tryz.isAgg3, Tryz.sizeOf3⟩
theorem ti33 : TyI Tryz.prog 33 false 1 := ⟨Tryz.isAgg33, Tryz.sizeOf33⟩
theorem ti35 : TyI Tryz.prog 35 true 2 := ⟨Tryz.isAgg35, Tryz.sizeOf35⟩
theorem ti37 : TyI Tryz.prog 37 false 1 := ⟨Tryz.isAgg37, Tryz.sizeOf37⟩
theorem ti39 : TyI Tryz.prog 39 true 1 := ⟨Tryz.isAgg39, Tryz.sizeOf39⟩
theorem ti4 : TyI Tryz.prog 4 false 1 := ⟨Tryz.isAgg4, Tryz.sizeOf4⟩
theorem ti40 : TyI Tryz.prog 40 false 1 := ⟨Tryz.isAgg40, Tryz.sizeOf40⟩
theorem ti47 : TyI Tryz.prog 47 false 1 := ⟨Tryz.isAgg47, Tryz.sizeOf47⟩
theorem ti49 : TyI Tryz.prog 49 true 3 := ⟨Tryz.isAgg49, Tryz.sizeOf49⟩
theorem ti5 : TyI Tryz.prog 5 false 1 := ⟨Tryz.isAgg5, Tryz.sizeOf5⟩
theorem ti60 : TyI Tryz.prog 60 false 1 := ⟨Tryz.isAgg60, Tryz.sizeOf60⟩
theorem ti65 : TyI Tryz.prog 65 true 2 := ⟨Tryz.isAgg65, Tryz.sizeOf65⟩
theorem ti70 : TyI Tryz.prog 70 true 3 := ⟨Tryz.isAgg70, Tryz.sizeOf70⟩
theorem ti75 : TyI Tryz.prog 75 true 3 := ⟨Tryz.isAgg75, Tryz.sizeOf75⟩
theorem ti77 : TyI Tryz.prog 77 true 2 := ⟨Tryz.isAgg77, Tryz.sizeOf77⟩
theorem ti78 : TyI Tryz.prog 78 false 1 := ⟨Tryz.isAgg78, Tryz.sizeOf78⟩
theorem ti81 : TyI Tryz.prog 81 true 3 := ⟨Tryz.isAgg81, Tryz.sizeOf81⟩
theorem ti89 : TyI Tryz.prog 89 true 2 := ⟨Tryz.isAgg89, Tryz.sizeOf89⟩
theorem ti9 : TyI Tryz.prog 9 false 1 := ⟨Tryz.isAgg9, Tryz.sizeOf9⟩
theorem ti99 : TyI Tryz.prog 99 true 2 := ⟨Tryz.isAgg99, Tryz.sizeOf99⟩
theorem ze120 : ZeI Tryz.prog 120 [.int .i64 (0), .int .i64 (0)] := ⟨_, Tryz.zeroValue120, rfl, rfl⟩
theorem ze24 : ZeI Tryz.prog 24 [.nils, .int .i64 (0)] := ⟨_, Tryz.zeroValue24, rfl, rfl⟩
theorem ze35 : ZeI Tryz.prog 35 [.int .i64 (0), .nils] := ⟨_, Tryz.zeroValue35, rfl, rfl⟩
theorem ze39 : ZeI Tryz.prog 39 [.nils] := ⟨_, Tryz.zeroValue39, rfl, rfl⟩
theorem ze4 : ZeI Tryz.prog 4 [.bool false] := ⟨_, Tryz.zeroValue4, rfl, rfl⟩
theorem ze49 : ZeI Tryz.prog 49 [.int .i64 (0), .int .i64 (0), .nils] := ⟨_, Tryz.zeroValue49, rfl, rfl⟩
theorem ze65 : ZeI Tryz.prog 65 [.int .i64 (0), .int .i64 (0)] := ⟨_, Tryz.zeroValue65, rfl, rfl⟩
theorem ze70 : ZeI Tryz.prog 70 [.int .i64 (0), .int .i64 (0), .int .i64 (0)] := ⟨_, Tryz.zeroValue70, rfl, rfl⟩
theorem ze77 : ZeI Tryz.prog 77 [.int .i64 (0), .int .i64 (0)] := ⟨_, Tryz.zeroValue77, rfl, rfl⟩
theorem ze81 : ZeI Tryz.prog 81 [.int .i64 (0), .int .i64 (0), .int .i64 (0)] := ⟨_, Tryz.zeroValue81, rfl, rfl⟩
theorem ze89 : ZeI Tryz.prog 89 [.nils, .int .i64 (0)] := ⟨_, Tryz.zeroValue89, rfl, rfl⟩
theorem ze99 : ZeI Tryz.prog 99 [.bool false, .nils] := ⟨_, Tryz.zeroValue99, rfl, rfl⟩
end Go.Proofs.YtmokilkombplkaaGreat
