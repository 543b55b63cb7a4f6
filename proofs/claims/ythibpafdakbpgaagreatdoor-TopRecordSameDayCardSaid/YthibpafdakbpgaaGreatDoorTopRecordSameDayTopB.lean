import Derived.Handy
import Derived.Lay
import Derived.SevenTiedAt
import Derived.WalkKit
import Derived.Test.YthibpafdakbpgaaGreatDoorCards
import Derived.Test.YthibpafdakbpgaaGreatDoorRows
import Derived.Test.YthibpafdakbpgaaGreatDoorTie
namespace Go.Proofs.YthibpafdakbpgaaGreatDoor
open Go.ChangeAt
theorem topRecordSameDay_k3:(Tryz.f7.params.all (Tryz.prog.readableRec ·))=true:=by kernel_rfl
theorem topRecordSameDay_k5:((Rows.topRecordSameDayRow.stops==[]))=true:=by kernel_rfl
theorem topRecordSameDay_k7:((Rows.topRecordSameDayRow.knobs==[]))=true:=by kernel_rfl
theorem topRecordSameDay_k9:((Rows.topRecordSameDayRow.inPlace==Tryz.prog.inPlace 7))=true:=by kernel_rfl
theorem topRecordSameDay_k11:((Rows.topRecordSameDayRow.recurses==Tryz.prog.recurses 7))=true:=by kernel_rfl
theorem topRecordSameDay_k13:((Rows.topRecordSameDayRow.maps==(Tryz.f7.params.toList++Rows.topRecordSameDaySpec.plain.varTypes Tryz.prog).any (Tryz.prog.mapsRec ·)))=true:=by kernel_rfl
theorem topRecordSameDay_k15:((Rows.topRecordSameDayRow.mapsOut==Tryz.prog.mapsAmong Tryz.f7.resultTypes.toList))=true:=by kernel_rfl
theorem topRecordSameDay_k17:((Rows.topRecordSameDayRow.wideKeys==(Tryz.f7.params.toList++Rows.topRecordSameDaySpec.plain.varTypes Tryz.prog++Tryz.f7.resultTypes.toList).any (Tryz.prog.wideKeysFrom ·)))=true:=by kernel_rfl
theorem topRecordSameDay_k19:(Tryz.f7.resultTypes.all (fun t=>Tryz.prog.readableRec t&&decide (t<Tryz.prog.types.size)))=true:=by kernel_rfl
theorem topRecordSameDay_k21:((Rows.topRecordSameDayRow.loopsOut==Tryz.f7.resultTypes.toList.any (Tryz.prog.loopsFrom ·)))=true:=by kernel_rfl
theorem topRecordSameDay_k23:(Rows.topRecordSameDayRow.shortTexts.isNone)=true:=by kernel_rfl
theorem topRecordSameDay_k25:(Tryz.prog.mayEnter)=true:=by kernel_rfl
theorem topRecordSameDay_k27:((Tryz.prog.make==some Rows.topRecordSameDayRow.make))=true:=by kernel_rfl
theorem topRecordSameDay_k29:((Rows.topRecordSameDayRow.pinned==Rows.topRecordSameDayRow.pinnedBy))=true:=by kernel_rfl
theorem topRecordSameDay_k31:(Rows.topRecordSameDayRow.veiledFits Tryz.prog Tryz.f7.params.toList (Tryz.f7.params.toList++Rows.topRecordSameDaySpec.plain.varTypes Tryz.prog++Tryz.f7.resultTypes.toList))=true:=by kernel_rfl
end Go.Proofs.YthibpafdakbpgaaGreatDoor
