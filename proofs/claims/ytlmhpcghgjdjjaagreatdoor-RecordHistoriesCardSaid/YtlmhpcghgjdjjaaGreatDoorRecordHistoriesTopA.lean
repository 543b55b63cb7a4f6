import Derived.Handy
import Derived.Lay
import Derived.SevenTiedAt
import Derived.WalkKit
import Derived.Test.YtlmhpcghgjdjjaaGreatDoorCards
import Derived.Test.YtlmhpcghgjdjjaaGreatDoorRows
import Derived.Test.YtlmhpcghgjdjjaaGreatDoorTie
namespace Go.Proofs.YtlmhpcghgjdjjaaGreatDoor
open Go.ChangeAt
theorem recordHistories_k0:(Rows.recordHistoriesRow.wf (OpenSpec.ofChange Rows.recordHistoriesSpec))=true:=by kernel_rfl
theorem recordHistories_k2:(mapsRowed Tryz.prog)=true:=by kernel_rfl
theorem recordHistories_k4:(namedTie Tryz.prog Rows.recordHistoriesRow.named Rows.recordHistoriesSpec.vars)=true:=by kernel_rfl
theorem recordHistories_k6:((Tryz.prog.stops==[]))=true:=by kernel_rfl
theorem recordHistories_k8:((Tryz.prog.stopKnobs==[]))=true:=by kernel_rfl
theorem recordHistories_k10:((Rows.recordHistoriesRow.unfollowed==Tryz.prog.unfollowed 4))=true:=by kernel_rfl
theorem recordHistories_k12:((Rows.recordHistoriesRow.named==Tryz.prog.varsNamed 4))=true:=by kernel_rfl
theorem recordHistories_k14:((Rows.recordHistoriesRow.ifaces==(Tryz.f4.params.toList++Rows.recordHistoriesSpec.plain.varTypes Tryz.prog).any (Tryz.prog.ifacesRec ·)))=true:=by kernel_rfl
theorem recordHistories_k16:((Rows.recordHistoriesRow.loops==(Tryz.f4.params.toList++Rows.recordHistoriesSpec.plain.varTypes Tryz.prog).any (Tryz.prog.loopsFrom ·)))=true:=by kernel_rfl
theorem recordHistories_k18:(Rows.recordHistoriesSpec.vars.all (Tryz.prog.varReadable ·))=true:=by kernel_rfl
theorem recordHistories_k20:((Rows.recordHistoriesRow.ifacesOut==Tryz.f4.resultTypes.toList.any (Tryz.prog.ifacesRec ·)))=true:=by kernel_rfl
theorem recordHistories_k22:((Rows.recordHistoriesRow.plainKeys==Tryz.prog.plainKeys))=true:=by kernel_rfl
theorem recordHistories_k24:(Tryz.prog.stopsHeard)=true:=by kernel_rfl
theorem recordHistories_k26:((Rows.recordHistoriesRow.lifted==Tryz.prog.liftsFinal))=true:=by kernel_rfl
theorem recordHistories_k28:((Rows.recordHistoriesRow.kinds==(if Rows.recordHistoriesRow.domain.isEmpty then []else Tryz.f4.params.toList.map fun t=>match Tryz.prog.underlying t with|some (.int k)=>some k|_=>none)))=true:=by kernel_rfl
theorem recordHistories_k30:((Rows.recordHistoriesRow.veiled==(Tryz.f4.params.toList++Rows.recordHistoriesSpec.plain.varTypes Tryz.prog++Tryz.f4.resultTypes.toList).any (Tryz.prog.veiledRec ·)))=true:=by kernel_rfl
end Go.Proofs.YtlmhpcghgjdjjaaGreatDoor
