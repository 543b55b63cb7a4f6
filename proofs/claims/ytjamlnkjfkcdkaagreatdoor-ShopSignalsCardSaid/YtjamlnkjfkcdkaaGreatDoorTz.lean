import Derived.Test.YtjamlnkjfkcdkaaGreatDoorTy
namespace Go.Proofs.YtjamlnkjfkcdkaaGreatDoor
open Go.Ab
theorem eq131 : EqI Tryz.prog 131 3 := EqI.mk_struct (T := 3) (by kernel_rfl) Tryz.underlying131 (by kernel_rfl) (by kernel_rfl) Tryz.underlying3 Tryz.isAgg3
theorem ze3 : ZeI Tryz.prog 3 [.int .i64 (0)] := ⟨_, Tryz.zeroValue3, rfl, rfl⟩
end Go.Proofs.YtjamlnkjfkcdkaaGreatDoor
