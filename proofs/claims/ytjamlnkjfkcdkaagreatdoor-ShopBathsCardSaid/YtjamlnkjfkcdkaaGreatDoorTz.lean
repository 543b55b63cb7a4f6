/-
  More facts on the types of this translation.
-/
import Derived.Test.YtjamlnkjfkcdkaaGreatDoorTy
namespace Go.Proofs.YtjamlnkjfkcdkaaGreatDoor
open Go.Ab
theorem bu182 : BuI Tryz.prog 182 [.int .i64 (0), .int .i64 (0)] (fun i => some (i * 1, 1)) := ⟨by intro parts; kernel_rfl⟩
theorem eq53 : EqI Tryz.prog 53 2 := EqI.mk_struct (T := 3) (by kernel_rfl) Tryz.underlying53 (by kernel_rfl) (by kernel_rfl) Tryz.underlying3 Tryz.isAgg3
theorem ti182 : TyI Tryz.prog 182 true 2 := ⟨Tryz.isAgg182, Tryz.sizeOf182⟩
theorem ze182 : ZeI Tryz.prog 182 [.int .i64 (0), .int .i64 (0)] := ⟨_, Tryz.zeroValue182, rfl, rfl⟩
theorem ze53 : ZeI Tryz.prog 53 [.int .i64 (0), .int .i64 (0)] := ⟨_, Tryz.zeroValue53, rfl, rfl⟩
end Go.Proofs.YtjamlnkjfkcdkaaGreatDoor
