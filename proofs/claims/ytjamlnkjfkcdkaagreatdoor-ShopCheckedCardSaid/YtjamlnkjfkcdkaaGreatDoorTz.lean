import Derived.Test.YtjamlnkjfkcdkaaGreatDoorTy
namespace Go.Proofs.YtjamlnkjfkcdkaaGreatDoor
open Go.Ab
theorem eq53 : EqI Tryz.prog 53 2 := EqI.mk_struct (T := 3) (by kernel_rfl) Tryz.underlying53 (by kernel_rfl) (by kernel_rfl) Tryz.underlying3 Tryz.isAgg3
theorem ze53 : ZeI Tryz.prog 53 [.int .i64 (0), .int .i64 (0)] := ⟨_, Tryz.zeroValue53, rfl, rfl⟩
end Go.Proofs.YtjamlnkjfkcdkaaGreatDoor
