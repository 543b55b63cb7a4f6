import Derived.Test.YtpfepjgnojfppaaGreatDoorGh
import Derived.Test.YtpfepjgnojfppaaGreatDoorTy
namespace Go.Proofs.YtpfepjgnojfppaaGreatDoor
open Go.Ab
theorem bu166 : BuI Tryz.prog 166 [.int .i64 (0), .int .i64 (0), .int .i64 (0)] (fun i => some (i * 1, 1)) := ⟨by intro parts; kernel_rfl⟩
theorem bu175 : BuI Tryz.prog 175 [.pointer none, .pointer none, .pointer none] (fun i => some (i * 1, 1)) := ⟨by intro parts; kernel_rfl⟩
theorem eqp114 : EqP Tryz.prog 114 [.s [], .i 0, .i 0, .i 0] := EqP.of (by kernel_rfl) Tryz.underlying114 (by kernel_rfl) ⟨rfl, rfl, Tryz.underlying9, Tryz.isAgg9, ⟨rfl, rfl, Tryz.underlying3, Tryz.isAgg3, ⟨rfl, rfl, Tryz.underlying3, Tryz.isAgg3, ⟨rfl, rfl, Tryz.underlying3, Tryz.isAgg3, trivial⟩⟩⟩⟩
theorem ti174 : TyI Tryz.prog 174 false 1 := ⟨Tryz.isAgg174, Tryz.sizeOf174⟩
theorem ti175 : TyI Tryz.prog 175 true 3 := ⟨Tryz.isAgg175, Tryz.sizeOf175⟩
theorem ze175 : ZeI Tryz.prog 175 [.raw (.pointer none), .raw (.pointer none), .raw (.pointer none)] := ⟨_, Tryz.zeroValue175, rfl, rfl⟩
theorem ze22 : ZeI Tryz.prog 22 [.nils] := ⟨_, Tryz.zeroValue22, rfl, rfl⟩
theorem ze31 : ZeI Tryz.prog 31 [.int .i64 (0)] := ⟨_, Tryz.zeroValue31, rfl, rfl⟩
end Go.Proofs.YtpfepjgnojfppaaGreatDoor
