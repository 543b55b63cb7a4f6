import Derived.Handy
import Derived.Lay
import Derived.SevenTiedAt
import Derived.WalkKit
import Derived.Test.YtlmhpcghgjdjjaaGreatDoorCards
import Derived.Test.YtlmhpcghgjdjjaaGreatDoorRows
import Derived.Test.YtlmhpcghgjdjjaaGreatDoorTie
namespace Go.Proofs.YtlmhpcghgjdjjaaGreatDoor
open Go.ChangeAt
theorem recordMerges_k0:(Rows.recordMergesRow.wf (OpenSpec.ofChange Rows.recordMergesSpec))=true:=by kernel_rfl
theorem recordMerges_k2:(mapsRowed Tryz.prog)=true:=by kernel_rfl
theorem recordMerges_k4:(namedTie Tryz.prog Rows.recordMergesRow.named Rows.recordMergesSpec.vars)=true:=by kernel_rfl
theorem recordMerges_k6:((Tryz.prog.stops==[]))=true:=by kernel_rfl
theorem recordMerges_k8:((Tryz.prog.stopKnobs==[]))=true:=by kernel_rfl
theorem recordMerges_k10:((Rows.recordMergesRow.unfollowed==Tryz.prog.unfollowed 5))=true:=by kernel_rfl
theorem recordMerges_k12:((Rows.recordMergesRow.named==Tryz.prog.varsNamed 5))=true:=by kernel_rfl
theorem recordMerges_k14:((Rows.recordMergesRow.ifaces==(Tryz.f5.params.toList++Rows.recordMergesSpec.plain.varTypes Tryz.prog).any (Tryz.prog.ifacesRec ·)))=true:=by kernel_rfl
theorem recordMerges_k16:((Rows.recordMergesRow.loops==(Tryz.f5.params.toList++Rows.recordMergesSpec.plain.varTypes Tryz.prog).any (Tryz.prog.loopsFrom ·)))=true:=by kernel_rfl
theorem recordMerges_k18:(Rows.recordMergesSpec.vars.all (Tryz.prog.varReadable ·))=true:=by kernel_rfl
theorem recordMerges_k20:((Rows.recordMergesRow.ifacesOut==Tryz.f5.resultTypes.toList.any (Tryz.prog.ifacesRec ·)))=true:=by kernel_rfl
theorem recordMerges_k22:((Rows.recordMergesRow.plainKeys==Tryz.prog.plainKeys))=true:=by kernel_rfl
theorem recordMerges_k24:(Tryz.prog.stopsHeard)=true:=by kernel_rfl
theorem recordMerges_k26:((Rows.recordMergesRow.lifted==Tryz.prog.liftsFinal))=true:=by kernel_rfl
theorem recordMerges_k28:((Rows.recordMergesRow.kinds==(if Rows.recordMergesRow.domain.isEmpty then []else Tryz.f5.params.toList.map fun t=>match Tryz.prog.underlying t with|some (.int k)=>some k|_=>none)))=true:=by kernel_rfl
theorem recordMerges_k30:((Rows.recordMergesRow.veiled==(Tryz.f5.params.toList++Rows.recordMergesSpec.plain.varTypes Tryz.prog++Tryz.f5.resultTypes.toList).any (Tryz.prog.veiledRec ·)))=true:=by kernel_rfl
end Go.Proofs.YtlmhpcghgjdjjaaGreatDoor
