import Derived.Handy
import Derived.Lay
import Derived.SevenTiedAt
import Derived.WalkKit
import Derived.Test.YthibpafdakbpgaaGreatDoorCards
import Derived.Test.YthibpafdakbpgaaGreatDoorRows
import Derived.Test.YthibpafdakbpgaaGreatDoorTie
namespace Go.Proofs.YthibpafdakbpgaaGreatDoor
open Go.ChangeAt
theorem recordBack_k0:(Rows.recordBackRow.wf (OpenSpec.ofChange Rows.recordBackSpec))=true:=by kernel_rfl
theorem recordBack_k2:(mapsRowed Tryz.prog)=true:=by kernel_rfl
theorem recordBack_k4:(namedTie Tryz.prog Rows.recordBackRow.named Rows.recordBackSpec.vars)=true:=by kernel_rfl
theorem recordBack_k6:((Tryz.prog.stops==[]))=true:=by kernel_rfl
theorem recordBack_k8:((Tryz.prog.stopKnobs==[]))=true:=by kernel_rfl
theorem recordBack_k10:((Rows.recordBackRow.unfollowed==Tryz.prog.unfollowed 3))=true:=by kernel_rfl
theorem recordBack_k12:((Rows.recordBackRow.named==Tryz.prog.varsNamed 3))=true:=by kernel_rfl
theorem recordBack_k14:((Rows.recordBackRow.ifaces==(Tryz.f3.params.toList++Rows.recordBackSpec.plain.varTypes Tryz.prog).any (Tryz.prog.ifacesRec ·)))=true:=by kernel_rfl
theorem recordBack_k16:((Rows.recordBackRow.loops==(Tryz.f3.params.toList++Rows.recordBackSpec.plain.varTypes Tryz.prog).any (Tryz.prog.loopsFrom ·)))=true:=by kernel_rfl
theorem recordBack_k18:(Rows.recordBackSpec.vars.all (Tryz.prog.varReadable ·))=true:=by kernel_rfl
theorem recordBack_k20:((Rows.recordBackRow.ifacesOut==Tryz.f3.resultTypes.toList.any (Tryz.prog.ifacesRec ·)))=true:=by kernel_rfl
theorem recordBack_k22:((Rows.recordBackRow.plainKeys==Tryz.prog.plainKeys))=true:=by kernel_rfl
theorem recordBack_k24:(Tryz.prog.stopsHeard)=true:=by kernel_rfl
theorem recordBack_k26:((Rows.recordBackRow.lifted==Tryz.prog.liftsFinal))=true:=by kernel_rfl
theorem recordBack_k28:((Rows.recordBackRow.kinds==(if Rows.recordBackRow.domain.isEmpty then []else Tryz.f3.params.toList.map fun t=>match Tryz.prog.underlying t with|some (.int k)=>some k|_=>none)))=true:=by kernel_rfl
theorem recordBack_k30:((Rows.recordBackRow.veiled==(Tryz.f3.params.toList++Rows.recordBackSpec.plain.varTypes Tryz.prog++Tryz.f3.resultTypes.toList).any (Tryz.prog.veiledRec ·)))=true:=by kernel_rfl
end Go.Proofs.YthibpafdakbpgaaGreatDoor
