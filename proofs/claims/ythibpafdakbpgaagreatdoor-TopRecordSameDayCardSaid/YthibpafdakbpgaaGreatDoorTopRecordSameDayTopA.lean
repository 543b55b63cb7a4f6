import Derived.Handy
import Derived.Lay
import Derived.SevenTiedAt
import Derived.WalkKit
import Derived.Test.YthibpafdakbpgaaGreatDoorCards
import Derived.Test.YthibpafdakbpgaaGreatDoorRows
import Derived.Test.YthibpafdakbpgaaGreatDoorTie
namespace Go.Proofs.YthibpafdakbpgaaGreatDoor
open Go.ChangeAt
theorem topRecordSameDay_k0:(Rows.topRecordSameDayRow.wf (OpenSpec.ofChange Rows.topRecordSameDaySpec))=true:=by kernel_rfl
theorem topRecordSameDay_k2:(mapsRowed Tryz.prog)=true:=by kernel_rfl
theorem topRecordSameDay_k4:(namedTie Tryz.prog Rows.topRecordSameDayRow.named Rows.topRecordSameDaySpec.vars)=true:=by kernel_rfl
theorem topRecordSameDay_k6:((Tryz.prog.stops==[]))=true:=by kernel_rfl
theorem topRecordSameDay_k8:((Tryz.prog.stopKnobs==[]))=true:=by kernel_rfl
theorem topRecordSameDay_k10:((Rows.topRecordSameDayRow.unfollowed==Tryz.prog.unfollowed 7))=true:=by kernel_rfl
theorem topRecordSameDay_k12:((Rows.topRecordSameDayRow.named==Tryz.prog.varsNamed 7))=true:=by kernel_rfl
theorem topRecordSameDay_k14:((Rows.topRecordSameDayRow.ifaces==(Tryz.f7.params.toList++Rows.topRecordSameDaySpec.plain.varTypes Tryz.prog).any (Tryz.prog.ifacesRec ·)))=true:=by kernel_rfl
theorem topRecordSameDay_k16:((Rows.topRecordSameDayRow.loops==(Tryz.f7.params.toList++Rows.topRecordSameDaySpec.plain.varTypes Tryz.prog).any (Tryz.prog.loopsFrom ·)))=true:=by kernel_rfl
theorem topRecordSameDay_k18:(Rows.topRecordSameDaySpec.vars.all (Tryz.prog.varReadable ·))=true:=by kernel_rfl
theorem topRecordSameDay_k20:((Rows.topRecordSameDayRow.ifacesOut==Tryz.f7.resultTypes.toList.any (Tryz.prog.ifacesRec ·)))=true:=by kernel_rfl
theorem topRecordSameDay_k22:((Rows.topRecordSameDayRow.plainKeys==Tryz.prog.plainKeys))=true:=by kernel_rfl
theorem topRecordSameDay_k24:(Tryz.prog.stopsHeard)=true:=by kernel_rfl
theorem topRecordSameDay_k26:((Rows.topRecordSameDayRow.lifted==Tryz.prog.liftsFinal))=true:=by kernel_rfl
theorem topRecordSameDay_k28:((Rows.topRecordSameDayRow.kinds==(if Rows.topRecordSameDayRow.domain.isEmpty then []else Tryz.f7.params.toList.map fun t=>match Tryz.prog.underlying t with|some (.int k)=>some k|_=>none)))=true:=by kernel_rfl
theorem topRecordSameDay_k30:((Rows.topRecordSameDayRow.veiled==(Tryz.f7.params.toList++Rows.topRecordSameDaySpec.plain.varTypes Tryz.prog++Tryz.f7.resultTypes.toList).any (Tryz.prog.veiledRec ·)))=true:=by kernel_rfl
end Go.Proofs.YthibpafdakbpgaaGreatDoor
