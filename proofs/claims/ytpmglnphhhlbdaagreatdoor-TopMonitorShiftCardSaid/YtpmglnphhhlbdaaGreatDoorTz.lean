import Derived.Test.YtpmglnphhhlbdaaGreatDoorTy
namespace Go.Proofs.YtpmglnphhhlbdaaGreatDoor
open Go.Ab
theorem ai71 : ApI Tryz.prog 71 27 2 32 := ⟨Tryz.underlying71, ⟨Tryz.t27, _, by kernel_rfl, rfl, rfl, rfl, rfl⟩, by decide, ⟨Tryz.sizeOf27, _, Tryz.zeroValue27, rfl⟩⟩
theorem bu89 : BuI Tryz.prog 89 [.int .i64 (0), .int .i64 (0)] (fun i => ([(0, 1), (1, 1)] : List (Nat × Nat)).toArray[i]?) := ⟨by intro parts; kernel_rfl⟩
theorem eq94 : EqI Tryz.prog 94 3 := EqI.mk_struct (T := 3) (by kernel_rfl) Tryz.underlying94 (by kernel_rfl) (by kernel_rfl) Tryz.underlying3 Tryz.isAgg3
theorem fi66_0 : FiI Tryz.prog 66 0 0 := ⟨_, _, _, Tryz.underlying66, rfl, rfl, by decide, Tryz.sizeOf63⟩
theorem fi66_1 : FiI Tryz.prog 66 1 1 := ⟨_, _, _, Tryz.underlying66, rfl, rfl, by decide, Tryz.sizeOf3⟩
theorem fi66_2 : FiI Tryz.prog 66 2 2 := ⟨_, _, _, Tryz.underlying66, rfl, rfl, by decide, Tryz.sizeOf64⟩
theorem si64 : SlI Tryz.prog 64 71 1 := ⟨Tryz.underlying64, Tryz.sizeOf71⟩
theorem ti63 : TyI Tryz.prog 63 false 1 := ⟨Tryz.isAgg63, Tryz.sizeOf63⟩
theorem ti64 : TyI Tryz.prog 64 false 1 := ⟨Tryz.isAgg64, Tryz.sizeOf64⟩
theorem ti66 : TyI Tryz.prog 66 true 3 := ⟨Tryz.isAgg66, Tryz.sizeOf66⟩
theorem ti71 : TyI Tryz.prog 71 false 1 := ⟨Tryz.isAgg71, Tryz.sizeOf71⟩
end Go.Proofs.YtpmglnphhhlbdaaGreatDoor
