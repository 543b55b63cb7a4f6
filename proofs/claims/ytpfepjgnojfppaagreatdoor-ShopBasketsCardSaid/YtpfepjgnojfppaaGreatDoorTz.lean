import Derived.Test.YtpfepjgnojfppaaGreatDoorGh
import Derived.Test.YtpfepjgnojfppaaGreatDoorTy
namespace Go.Proofs.YtpfepjgnojfppaaGreatDoor
open Go.Ab
theorem eqp73 : EqP Tryz.prog 73 [.s [], .i 0] := EqP.of (by kernel_rfl) Tryz.underlying73 (by kernel_rfl) ⟨rfl, rfl, Tryz.underlying9, Tryz.isAgg9, ⟨rfl, rfl, Tryz.underlying3, Tryz.isAgg3, trivial⟩⟩
end Go.Proofs.YtpfepjgnojfppaaGreatDoor
