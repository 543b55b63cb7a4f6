import Derived.Handy
import Derived.Lay
import Derived.SevenTiedAt
import Derived.WalkKit
import Derived.Test.YtlmhpcghgjdjjaaGreatDoorCards
import Derived.Test.YtlmhpcghgjdjjaaGreatDoorRows
import Derived.Test.YtlmhpcghgjdjjaaGreatDoorTie
namespace Go.Proofs.YtlmhpcghgjdjjaaGreatDoor
open Go.ChangeAt
theorem recordHistories_k3:(Tryz.f4.params.all (Tryz.prog.readableRec ·))=true:=by kernel_rfl
theorem recordHistories_k5:((Rows.recordHistoriesRow.stops==[]))=true:=by kernel_rfl
theorem recordHistories_k7:((Rows.recordHistoriesRow.knobs==[]))=true:=by kernel_rfl
theorem recordHistories_k9:((Rows.recordHistoriesRow.inPlace==Tryz.prog.inPlace 4))=true:=by kernel_rfl
theorem recordHistories_k11:((Rows.recordHistoriesRow.recurses==Tryz.prog.recurses 4))=true:=by kernel_rfl
theorem recordHistories_k13:((Rows.recordHistoriesRow.maps==(Tryz.f4.params.toList++Rows.recordHistoriesSpec.plain.varTypes Tryz.prog).any (Tryz.prog.mapsRec ·)))=true:=by kernel_rfl
theorem recordHistories_k15:((Rows.recordHistoriesRow.mapsOut==Tryz.prog.mapsAmong Tryz.f4.resultTypes.toList))=true:=by kernel_rfl
theorem recordHistories_k17:((Rows.recordHistoriesRow.wideKeys==(Tryz.f4.params.toList++Rows.recordHistoriesSpec.plain.varTypes Tryz.prog++Tryz.f4.resultTypes.toList).any (Tryz.prog.wideKeysFrom ·)))=true:=by kernel_rfl
theorem recordHistories_k19:(Tryz.f4.resultTypes.all (fun t=>Tryz.prog.readableRec t&&decide (t<Tryz.prog.types.size)))=true:=by kernel_rfl
theorem recordHistories_k21:((Rows.recordHistoriesRow.loopsOut==Tryz.f4.resultTypes.toList.any (Tryz.prog.loopsFrom ·)))=true:=by kernel_rfl
theorem recordHistories_k23:(Rows.recordHistoriesRow.shortTexts.isNone)=true:=by kernel_rfl
theorem recordHistories_k25:(Tryz.prog.mayEnter)=true:=by kernel_rfl
theorem recordHistories_k27:((Tryz.prog.make==some Rows.recordHistoriesRow.make))=true:=by kernel_rfl
theorem recordHistories_k29:((Rows.recordHistoriesRow.pinned==Rows.recordHistoriesRow.pinnedBy))=true:=by kernel_rfl
theorem recordHistories_k31:(Rows.recordHistoriesRow.veiledFits Tryz.prog Tryz.f4.params.toList (Tryz.f4.params.toList++Rows.recordHistoriesSpec.plain.varTypes Tryz.prog++Tryz.f4.resultTypes.toList))=true:=by kernel_rfl
end Go.Proofs.YtlmhpcghgjdjjaaGreatDoor
