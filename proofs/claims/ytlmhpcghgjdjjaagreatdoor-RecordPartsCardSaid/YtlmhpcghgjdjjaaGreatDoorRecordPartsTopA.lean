import Derived.Handy
import Derived.Lay
import Derived.SevenTiedAt
import Derived.WalkKit
import Derived.Test.YtlmhpcghgjdjjaaGreatDoorCards
import Derived.Test.YtlmhpcghgjdjjaaGreatDoorRows
import Derived.Test.YtlmhpcghgjdjjaaGreatDoorTie
namespace Go.Proofs.YtlmhpcghgjdjjaaGreatDoor
open Go.ChangeAt
theorem recordParts_k0:(Rows.recordPartsRow.wf (OpenSpec.ofChange Rows.recordPartsSpec))=true:=by kernel_rfl
theorem recordParts_k2:(mapsRowed Tryz.prog)=true:=by kernel_rfl
theorem recordParts_k4:(namedTie Tryz.prog Rows.recordPartsRow.named Rows.recordPartsSpec.vars)=true:=by kernel_rfl
theorem recordParts_k6:((Tryz.prog.stops==[]))=true:=by kernel_rfl
theorem recordParts_k8:((Tryz.prog.stopKnobs==[]))=true:=by kernel_rfl
theorem recordParts_k10:((Rows.recordPartsRow.unfollowed==Tryz.prog.unfollowed 3))=true:=by kernel_rfl
theorem recordParts_k12:((Rows.recordPartsRow.named==Tryz.prog.varsNamed 3))=true:=by kernel_rfl
theorem recordParts_k14:((Rows.recordPartsRow.ifaces==(Tryz.f3.params.toList++Rows.recordPartsSpec.plain.varTypes Tryz.prog).any (Tryz.prog.ifacesRec ·)))=true:=by kernel_rfl
theorem recordParts_k16:((Rows.recordPartsRow.loops==(Tryz.f3.params.toList++Rows.recordPartsSpec.plain.varTypes Tryz.prog).any (Tryz.prog.loopsFrom ·)))=true:=by kernel_rfl
theorem recordParts_k18:(Rows.recordPartsSpec.vars.all (Tryz.prog.varReadable ·))=true:=by kernel_rfl
theorem recordParts_k20:((Rows.recordPartsRow.ifacesOut==Tryz.f3.resultTypes.toList.any (Tryz.prog.ifacesRec ·)))=true:=by kernel_rfl
theorem recordParts_k22:((Rows.recordPartsRow.plainKeys==Tryz.prog.plainKeys))=true:=by kernel_rfl
theorem recordParts_k24:(Tryz.prog.stopsHeard)=true:=by kernel_rfl
theorem recordParts_k26:((Rows.recordPartsRow.lifted==Tryz.prog.liftsFinal))=true:=by kernel_rfl
theorem recordParts_k28:((Rows.recordPartsRow.kinds==(if Rows.recordPartsRow.domain.isEmpty then []else Tryz.f3.params.toList.map fun t=>match Tryz.prog.underlying t with|some (.int k)=>some k|_=>none)))=true:=by kernel_rfl
theorem recordParts_k30:((Rows.recordPartsRow.veiled==(Tryz.f3.params.toList++Rows.recordPartsSpec.plain.varTypes Tryz.prog++Tryz.f3.resultTypes.toList).any (Tryz.prog.veiledRec ·)))=true:=by kernel_rfl
end Go.Proofs.YtlmhpcghgjdjjaaGreatDoor
