import Derived.Handy
import Derived.Lay
import Derived.SevenTiedAt
import Derived.WalkKit
import Derived.Test.YtkkbjdenehfpaaaGreatDoorCards
import Derived.Test.YtkkbjdenehfpaaaGreatDoorRows
import Derived.Test.YtkkbjdenehfpaaaGreatDoorTie
namespace Go.Proofs.YtkkbjdenehfpaaaGreatDoor
open Go.ChangeAt
theorem topRecordBack_k3:(Tryz.f3.params.all (Tryz.prog.readableRec ·))=true:=by kernel_rfl
theorem topRecordBack_k5:((Rows.topRecordBackRow.stops==[]))=true:=by kernel_rfl
theorem topRecordBack_k7:((Rows.topRecordBackRow.knobs==[]))=true:=by kernel_rfl
theorem topRecordBack_k9:((Rows.topRecordBackRow.inPlace==Tryz.prog.inPlace 3))=true:=by kernel_rfl
theorem topRecordBack_k11:((Rows.topRecordBackRow.recurses==Tryz.prog.recurses 3))=true:=by kernel_rfl
theorem topRecordBack_k13:((Rows.topRecordBackRow.maps==(Tryz.f3.params.toList++Rows.topRecordBackSpec.plain.varTypes Tryz.prog).any (Tryz.prog.mapsRec ·)))=true:=by kernel_rfl
theorem topRecordBack_k15:((Rows.topRecordBackRow.mapsOut==Tryz.prog.mapsAmong Tryz.f3.resultTypes.toList))=true:=by kernel_rfl
theorem topRecordBack_k17:((Rows.topRecordBackRow.wideKeys==(Tryz.f3.params.toList++Rows.topRecordBackSpec.plain.varTypes Tryz.prog++Tryz.f3.resultTypes.toList).any (Tryz.prog.wideKeysFrom ·)))=true:=by kernel_rfl
theorem topRecordBack_k19:(Tryz.f3.resultTypes.all (fun t=>Tryz.prog.readableRec t&&decide (t<Tryz.prog.types.size)))=true:=by kernel_rfl
theorem topRecordBack_k21:((Rows.topRecordBackRow.loopsOut==Tryz.f3.resultTypes.toList.any (Tryz.prog.loopsFrom ·)))=true:=by kernel_rfl
theorem topRecordBack_k23:(Rows.topRecordBackRow.shortTexts.isNone)=true:=by kernel_rfl
theorem topRecordBack_k25:(Tryz.prog.mayEnter)=true:=by kernel_rfl
theorem topRecordBack_k27:((Tryz.prog.make==some Rows.topRecordBackRow.make))=true:=by kernel_rfl
theorem topRecordBack_k29:((Rows.topRecordBackRow.pinned==Rows.topRecordBackRow.pinnedBy))=true:=by kernel_rfl
theorem topRecordBack_k31:(Rows.topRecordBackRow.veiledFits Tryz.prog Tryz.f3.params.toList (Tryz.f3.params.toList++Rows.topRecordBackSpec.plain.varTypes Tryz.prog++Tryz.f3.resultTypes.toList))=true:=by kernel_rfl
end Go.Proofs.YtkkbjdenehfpaaaGreatDoor
