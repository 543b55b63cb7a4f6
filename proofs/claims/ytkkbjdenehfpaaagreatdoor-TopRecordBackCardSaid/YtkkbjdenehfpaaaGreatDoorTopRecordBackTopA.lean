import Derived.Handy
import Derived.Lay
import Derived.SevenTiedAt
import Derived.WalkKit
import Derived.Test.YtkkbjdenehfpaaaGreatDoorCards
import Derived.Test.YtkkbjdenehfpaaaGreatDoorRows
import Derived.Test.YtkkbjdenehfpaaaGreatDoorTie
namespace Go.Proofs.YtkkbjdenehfpaaaGreatDoor
open Go.ChangeAt
theorem topRecordBack_k0:(Rows.topRecordBackRow.wf (OpenSpec.ofChange Rows.topRecordBackSpec))=true:=by kernel_rfl
theorem topRecordBack_k2:(mapsRowed Tryz.prog)=true:=by kernel_rfl
theorem topRecordBack_k4:(namedTie Tryz.prog Rows.topRecordBackRow.named Rows.topRecordBackSpec.vars)=true:=by kernel_rfl
theorem topRecordBack_k6:((Tryz.prog.stops==[]))=true:=by kernel_rfl
theorem topRecordBack_k8:((Tryz.prog.stopKnobs==[]))=true:=by kernel_rfl
theorem topRecordBack_k10:((Rows.topRecordBackRow.unfollowed==Tryz.prog.unfollowed 3))=true:=by kernel_rfl
theorem topRecordBack_k12:((Rows.topRecordBackRow.named==Tryz.prog.varsNamed 3))=true:=by kernel_rfl
theorem topRecordBack_k14:((Rows.topRecordBackRow.ifaces==(Tryz.f3.params.toList++Rows.topRecordBackSpec.plain.varTypes Tryz.prog).any (Tryz.prog.ifacesRec ·)))=true:=by kernel_rfl
theorem topRecordBack_k16:((Rows.topRecordBackRow.loops==(Tryz.f3.params.toList++Rows.topRecordBackSpec.plain.varTypes Tryz.prog).any (Tryz.prog.loopsFrom ·)))=true:=by kernel_rfl
theorem topRecordBack_k18:(Rows.topRecordBackSpec.vars.all (Tryz.prog.varReadable ·))=true:=by kernel_rfl
theorem topRecordBack_k20:((Rows.topRecordBackRow.ifacesOut==Tryz.f3.resultTypes.toList.any (Tryz.prog.ifacesRec ·)))=true:=by kernel_rfl
theorem topRecordBack_k22:((Rows.topRecordBackRow.plainKeys==Tryz.prog.plainKeys))=true:=by kernel_rfl
theorem topRecordBack_k24:(Tryz.prog.stopsHeard)=true:=by kernel_rfl
theorem topRecordBack_k26:((Rows.topRecordBackRow.lifted==Tryz.prog.liftsFinal))=true:=by kernel_rfl
theorem topRecordBack_k28:((Rows.topRecordBackRow.kinds==(if Rows.topRecordBackRow.domain.isEmpty then []else Tryz.f3.params.toList.map fun t=>match Tryz.prog.underlying t with|some (.int k)=>some k|_=>none)))=true:=by kernel_rfl
theorem topRecordBack_k30:((Rows.topRecordBackRow.veiled==(Tryz.f3.params.toList++Rows.topRecordBackSpec.plain.varTypes Tryz.prog++Tryz.f3.resultTypes.toList).any (Tryz.prog.veiledRec ·)))=true:=by kernel_rfl
end Go.Proofs.YtkkbjdenehfpaaaGreatDoor
