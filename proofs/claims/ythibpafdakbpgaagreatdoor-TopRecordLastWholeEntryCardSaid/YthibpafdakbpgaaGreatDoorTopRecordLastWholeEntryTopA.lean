import Derived.Handy
import Derived.Lay
import Derived.SevenTiedAt
import Derived.WalkKit
import Derived.Test.YthibpafdakbpgaaGreatDoorCards
import Derived.Test.YthibpafdakbpgaaGreatDoorRows
import Derived.Test.YthibpafdakbpgaaGreatDoorTie
namespace Go.Proofs.YthibpafdakbpgaaGreatDoor
open Go.ChangeAt
theorem topRecordLastWholeEntry_k0:(Rows.topRecordLastWholeEntryRow.wf (OpenSpec.ofChange Rows.topRecordLastWholeEntrySpec))=true:=by kernel_rfl
theorem topRecordLastWholeEntry_k2:(mapsRowed Tryz.prog)=true:=by kernel_rfl
theorem topRecordLastWholeEntry_k4:(namedTie Tryz.prog Rows.topRecordLastWholeEntryRow.named Rows.topRecordLastWholeEntrySpec.vars)=true:=by kernel_rfl
theorem topRecordLastWholeEntry_k6:((Tryz.prog.stops==[]))=true:=by kernel_rfl
theorem topRecordLastWholeEntry_k8:((Tryz.prog.stopKnobs==[]))=true:=by kernel_rfl
theorem topRecordLastWholeEntry_k10:((Rows.topRecordLastWholeEntryRow.unfollowed==Tryz.prog.unfollowed 6))=true:=by kernel_rfl
theorem topRecordLastWholeEntry_k12:((Rows.topRecordLastWholeEntryRow.named==Tryz.prog.varsNamed 6))=true:=by kernel_rfl
theorem topRecordLastWholeEntry_k14:((Rows.topRecordLastWholeEntryRow.ifaces==(Tryz.f6.params.toList++Rows.topRecordLastWholeEntrySpec.plain.varTypes Tryz.prog).any (Tryz.prog.ifacesRec ·)))=true:=by kernel_rfl
theorem topRecordLastWholeEntry_k16:((Rows.topRecordLastWholeEntryRow.loops==(Tryz.f6.params.toList++Rows.topRecordLastWholeEntrySpec.plain.varTypes Tryz.prog).any (Tryz.prog.loopsFrom ·)))=true:=by kernel_rfl
theorem topRecordLastWholeEntry_k18:(Rows.topRecordLastWholeEntrySpec.vars.all (Tryz.prog.varReadable ·))=true:=by kernel_rfl
theorem topRecordLastWholeEntry_k20:((Rows.topRecordLastWholeEntryRow.ifacesOut==Tryz.f6.resultTypes.toList.any (Tryz.prog.ifacesRec ·)))=true:=by kernel_rfl
theorem topRecordLastWholeEntry_k22:((Rows.topRecordLastWholeEntryRow.plainKeys==Tryz.prog.plainKeys))=true:=by kernel_rfl
theorem topRecordLastWholeEntry_k24:(Tryz.prog.stopsHeard)=true:=by kernel_rfl
theorem topRecordLastWholeEntry_k26:((Rows.topRecordLastWholeEntryRow.lifted==Tryz.prog.liftsFinal))=true:=by kernel_rfl
theorem topRecordLastWholeEntry_k28:((Rows.topRecordLastWholeEntryRow.kinds==(if Rows.topRecordLastWholeEntryRow.domain.isEmpty then []else Tryz.f6.params.toList.map fun t=>match Tryz.prog.underlying t with|some (.int k)=>some k|_=>none)))=true:=by kernel_rfl
theorem topRecordLastWholeEntry_k30:((Rows.topRecordLastWholeEntryRow.veiled==(Tryz.f6.params.toList++Rows.topRecordLastWholeEntrySpec.plain.varTypes Tryz.prog++Tryz.f6.resultTypes.toList).any (Tryz.prog.veiledRec ·)))=true:=by kernel_rfl
end Go.Proofs.YthibpafdakbpgaaGreatDoor
