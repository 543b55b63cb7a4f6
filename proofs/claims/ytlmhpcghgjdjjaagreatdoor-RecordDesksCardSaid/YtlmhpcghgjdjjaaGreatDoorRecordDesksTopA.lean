import Derived.Handy
import Derived.Lay
import Derived.SevenTiedAt
import Derived.WalkKit
import Derived.Test.YtlmhpcghgjdjjaaGreatDoorCards
import Derived.Test.YtlmhpcghgjdjjaaGreatDoorRows
import Derived.Test.YtlmhpcghgjdjjaaGreatDoorTie
namespace Go.Proofs.YtlmhpcghgjdjjaaGreatDoor
open Go.ChangeAt
theorem recordDesks_k0:(Rows.recordDesksRow.wf (OpenSpec.ofChange Rows.recordDesksSpec))=true:=by kernel_rfl
theorem recordDesks_k2:(mapsRowed Tryz.prog)=true:=by kernel_rfl
theorem recordDesks_k4:(namedTie Tryz.prog Rows.recordDesksRow.named Rows.recordDesksSpec.vars)=true:=by kernel_rfl
theorem recordDesks_k6:((Tryz.prog.stops==[]))=true:=by kernel_rfl
theorem recordDesks_k8:((Tryz.prog.stopKnobs==[]))=true:=by kernel_rfl
theorem recordDesks_k10:((Rows.recordDesksRow.unfollowed==Tryz.prog.unfollowed 8))=true:=by kernel_rfl
theorem recordDesks_k12:((Rows.recordDesksRow.named==Tryz.prog.varsNamed 8))=true:=by kernel_rfl
theorem recordDesks_k14:((Rows.recordDesksRow.ifaces==(Tryz.f8.params.toList++Rows.recordDesksSpec.plain.varTypes Tryz.prog).any (Tryz.prog.ifacesRec ·)))=true:=by kernel_rfl
theorem recordDesks_k16:((Rows.recordDesksRow.loops==(Tryz.f8.params.toList++Rows.recordDesksSpec.plain.varTypes Tryz.prog).any (Tryz.prog.loopsFrom ·)))=true:=by kernel_rfl
theorem recordDesks_k18:(Rows.recordDesksSpec.vars.all (Tryz.prog.varReadable ·))=true:=by kernel_rfl
theorem recordDesks_k20:((Rows.recordDesksRow.ifacesOut==Tryz.f8.resultTypes.toList.any (Tryz.prog.ifacesRec ·)))=true:=by kernel_rfl
theorem recordDesks_k22:((Rows.recordDesksRow.plainKeys==Tryz.prog.plainKeys))=true:=by kernel_rfl
theorem recordDesks_k24:(Tryz.prog.stopsHeard)=true:=by kernel_rfl
theorem recordDesks_k26:((Rows.recordDesksRow.lifted==Tryz.prog.liftsFinal))=true:=by kernel_rfl
theorem recordDesks_k28:((Rows.recordDesksRow.kinds==(if Rows.recordDesksRow.domain.isEmpty then []else Tryz.f8.params.toList.map fun t=>match Tryz.prog.underlying t with|some (.int k)=>some k|_=>none)))=true:=by kernel_rfl
theorem recordDesks_k30:((Rows.recordDesksRow.veiled==(Tryz.f8.params.toList++Rows.recordDesksSpec.plain.varTypes Tryz.prog++Tryz.f8.resultTypes.toList).any (Tryz.prog.veiledRec ·)))=true:=by kernel_rfl
end Go.Proofs.YtlmhpcghgjdjjaaGreatDoor
