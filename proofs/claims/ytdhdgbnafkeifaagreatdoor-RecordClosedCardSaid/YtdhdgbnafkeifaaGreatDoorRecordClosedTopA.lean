import Derived.Handy
import Derived.Lay
import Derived.SevenTiedAt
import Derived.WalkKit
import Derived.Test.YtdhdgbnafkeifaaGreatDoorCards
import Derived.Test.YtdhdgbnafkeifaaGreatDoorRows
import Derived.Test.YtdhdgbnafkeifaaGreatDoorTie
namespace Go.Proofs.YtdhdgbnafkeifaaGreatDoor
open Go.ChangeAt
theorem recordClosed_k0:(Rows.recordClosedRow.wf (OpenSpec.ofChange Rows.recordClosedSpec))=true:=by kernel_rfl
theorem recordClosed_k2:(mapsRowed Tryz.prog)=true:=by kernel_rfl
theorem recordClosed_k4:(namedTie Tryz.prog Rows.recordClosedRow.named Rows.recordClosedSpec.vars)=true:=by kernel_rfl
theorem recordClosed_k6:((Tryz.prog.stops==[]))=true:=by kernel_rfl
theorem recordClosed_k8:((Tryz.prog.stopKnobs==[]))=true:=by kernel_rfl
theorem recordClosed_k10:((Rows.recordClosedRow.unfollowed==Tryz.prog.unfollowed 4))=true:=by kernel_rfl
theorem recordClosed_k12:((Rows.recordClosedRow.named==Tryz.prog.varsNamed 4))=true:=by kernel_rfl
theorem recordClosed_k14:((Rows.recordClosedRow.ifaces==(Tryz.f4.params.toList++Rows.recordClosedSpec.plain.varTypes Tryz.prog).any (Tryz.prog.ifacesRec ·)))=true:=by kernel_rfl
theorem recordClosed_k16:((Rows.recordClosedRow.loops==(Tryz.f4.params.toList++Rows.recordClosedSpec.plain.varTypes Tryz.prog).any (Tryz.prog.loopsFrom ·)))=true:=by kernel_rfl
theorem recordClosed_k18:(Rows.recordClosedSpec.vars.all (Tryz.prog.varReadable ·))=true:=by kernel_rfl
theorem recordClosed_k20:((Rows.recordClosedRow.ifacesOut==Tryz.f4.resultTypes.toList.any (Tryz.prog.ifacesRec ·)))=true:=by kernel_rfl
theorem recordClosed_k22:((Rows.recordClosedRow.plainKeys==Tryz.prog.plainKeys))=true:=by kernel_rfl
theorem recordClosed_k24:(Tryz.prog.stopsHeard)=true:=by kernel_rfl
theorem recordClosed_k26:((Rows.recordClosedRow.lifted==Tryz.prog.liftsFinal))=true:=by kernel_rfl
theorem recordClosed_k28:((Rows.recordClosedRow.kinds==(if Rows.recordClosedRow.domain.isEmpty then []else Tryz.f4.params.toList.map fun t=>match Tryz.prog.underlying t with|some (.int k)=>some k|_=>none)))=true:=by kernel_rfl
theorem recordClosed_k30:((Rows.recordClosedRow.veiled==(Tryz.f4.params.toList++Rows.recordClosedSpec.plain.varTypes Tryz.prog++Tryz.f4.resultTypes.toList).any (Tryz.prog.veiledRec ·)))=true:=by kernel_rfl
end Go.Proofs.YtdhdgbnafkeifaaGreatDoor
