import Derived.Handy
import Derived.Lay
import Derived.SevenTiedAt
import Derived.WalkKit
import Derived.Test.YtlmhpcghgjdjjaaGreatDoorCards
import Derived.Test.YtlmhpcghgjdjjaaGreatDoorRows
import Derived.Test.YtlmhpcghgjdjjaaGreatDoorTie
namespace Go.Proofs.YtlmhpcghgjdjjaaGreatDoor
open Go.ChangeAt
theorem recordBeginnings_k0:(Rows.recordBeginningsRow.wf (OpenSpec.ofChange Rows.recordBeginningsSpec))=true:=by kernel_rfl
theorem recordBeginnings_k2:(mapsRowed Tryz.prog)=true:=by kernel_rfl
theorem recordBeginnings_k4:(namedTie Tryz.prog Rows.recordBeginningsRow.named Rows.recordBeginningsSpec.vars)=true:=by kernel_rfl
theorem recordBeginnings_k6:((Tryz.prog.stops==[]))=true:=by kernel_rfl
theorem recordBeginnings_k8:((Tryz.prog.stopKnobs==[]))=true:=by kernel_rfl
theorem recordBeginnings_k10:((Rows.recordBeginningsRow.unfollowed==Tryz.prog.unfollowed 9))=true:=by kernel_rfl
theorem recordBeginnings_k12:((Rows.recordBeginningsRow.named==Tryz.prog.varsNamed 9))=true:=by kernel_rfl
theorem recordBeginnings_k14:((Rows.recordBeginningsRow.ifaces==(Tryz.f9.params.toList++Rows.recordBeginningsSpec.plain.varTypes Tryz.prog).any (Tryz.prog.ifacesRec ·)))=true:=by kernel_rfl
theorem recordBeginnings_k16:((Rows.recordBeginningsRow.loops==(Tryz.f9.params.toList++Rows.recordBeginningsSpec.plain.varTypes Tryz.prog).any (Tryz.prog.loopsFrom ·)))=true:=by kernel_rfl
theorem recordBeginnings_k18:(Rows.recordBeginningsSpec.vars.all (Tryz.prog.varReadable ·))=true:=by kernel_rfl
theorem recordBeginnings_k20:((Rows.recordBeginningsRow.ifacesOut==Tryz.f9.resultTypes.toList.any (Tryz.prog.ifacesRec ·)))=true:=by kernel_rfl
theorem recordBeginnings_k22:((Rows.recordBeginningsRow.plainKeys==Tryz.prog.plainKeys))=true:=by kernel_rfl
theorem recordBeginnings_k24:(Tryz.prog.stopsHeard)=true:=by kernel_rfl
theorem recordBeginnings_k26:((Rows.recordBeginningsRow.lifted==Tryz.prog.liftsFinal))=true:=by kernel_rfl
theorem recordBeginnings_k28:((Rows.recordBeginningsRow.kinds==(if Rows.recordBeginningsRow.domain.isEmpty then []else Tryz.f9.params.toList.map fun t=>match Tryz.prog.underlying t with|some (.int k)=>some k|_=>none)))=true:=by kernel_rfl
theorem recordBeginnings_k30:((Rows.recordBeginningsRow.veiled==(Tryz.f9.params.toList++Rows.recordBeginningsSpec.plain.varTypes Tryz.prog++Tryz.f9.resultTypes.toList).any (Tryz.prog.veiledRec ·)))=true:=by kernel_rfl
end Go.Proofs.YtlmhpcghgjdjjaaGreatDoor
