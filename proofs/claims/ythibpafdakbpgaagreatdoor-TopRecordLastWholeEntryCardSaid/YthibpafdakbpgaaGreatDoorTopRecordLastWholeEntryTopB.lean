import Derived.Handy
import Derived.Lay
import Derived.SevenTiedAt
import Derived.WalkKit
import Derived.Test.YthibpafdakbpgaaGreatDoorCards
import Derived.Test.YthibpafdakbpgaaGreatDoorRows
import Derived.Test.YthibpafdakbpgaaGreatDoorTie
namespace Go.Proofs.YthibpafdakbpgaaGreatDoor
open Go.ChangeAt
theorem topRecordLastWholeEntry_k3:(Tryz.f6.params.all (Tryz.prog.readableRec ·))=true:=by kernel_rfl
theorem topRecordLastWholeEntry_k5:((Rows.topRecordLastWholeEntryRow.stops==[]))=true:=by kernel_rfl
theorem topRecordLastWholeEntry_k7:((Rows.topRecordLastWholeEntryRow.knobs==[]))=true:=by kernel_rfl
theorem topRecordLastWholeEntry_k9:((Rows.topRecordLastWholeEntryRow.inPlace==Tryz.prog.inPlace 6))=true:=by kernel_rfl
theorem topRecordLastWholeEntry_k11:((Rows.topRecordLastWholeEntryRow.recurses==Tryz.prog.recurses 6))=true:=by kernel_rfl
theorem topRecordLastWholeEntry_k13:((Rows.topRecordLastWholeEntryRow.maps==(Tryz.f6.params.toList++Rows.topRecordLastWholeEntrySpec.plain.varTypes Tryz.prog).any (Tryz.prog.mapsRec ·)))=true:=by kernel_rfl
theorem topRecordLastWholeEntry_k15:((Rows.topRecordLastWholeEntryRow.mapsOut==Tryz.prog.mapsAmong Tryz.f6.resultTypes.toList))=true:=by kernel_rfl
theorem topRecordLastWholeEntry_k17:((Rows.topRecordLastWholeEntryRow.wideKeys==(Tryz.f6.params.toList++Rows.topRecordLastWholeEntrySpec.plain.varTypes Tryz.prog++Tryz.f6.resultTypes.toList).any (Tryz.prog.wideKeysFrom ·)))=true:=by kernel_rfl
theorem topRecordLastWholeEntry_k19:(Tryz.f6.resultTypes.all (fun t=>Tryz.prog.readableRec t&&decide (t<Tryz.prog.types.size)))=true:=by kernel_rfl
theorem topRecordLastWholeEntry_k21:((Rows.topRecordLastWholeEntryRow.loopsOut==Tryz.f6.resultTypes.toList.any (Tryz.prog.loopsFrom ·)))=true:=by kernel_rfl
theorem topRecordLastWholeEntry_k23:(Rows.topRecordLastWholeEntryRow.shortTexts.isNone)=true:=by kernel_rfl
theorem topRecordLastWholeEntry_k25:(Tryz.prog.mayEnter)=true:=by kernel_rfl
theorem topRecordLastWholeEntry_k27:((Tryz.prog.make==some Rows.topRecordLastWholeEntryRow.make))=true:=by kernel_rfl
theorem topRecordLastWholeEntry_k29:((Rows.topRecordLastWholeEntryRow.pinned==Rows.topRecordLastWholeEntryRow.pinnedBy))=true:=by kernel_rfl
theorem topRecordLastWholeEntry_k31:(Rows.topRecordLastWholeEntryRow.veiledFits Tryz.prog Tryz.f6.params.toList (Tryz.f6.params.toList++Rows.topRecordLastWholeEntrySpec.plain.varTypes Tryz.prog++Tryz.f6.resultTypes.toList))=true:=by kernel_rfl
end Go.Proofs.YthibpafdakbpgaaGreatDoor
