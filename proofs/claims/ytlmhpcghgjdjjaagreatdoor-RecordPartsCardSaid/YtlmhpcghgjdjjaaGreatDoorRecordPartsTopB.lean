import Derived.Handy
import Derived.Lay
import Derived.SevenTiedAt
import Derived.WalkKit
import Derived.Test.YtlmhpcghgjdjjaaGreatDoorCards
import Derived.Test.YtlmhpcghgjdjjaaGreatDoorRows
import Derived.Test.YtlmhpcghgjdjjaaGreatDoorTie
namespace Go.Proofs.YtlmhpcghgjdjjaaGreatDoor
open Go.ChangeAt
theorem recordParts_k3:(Tryz.f3.params.all (Tryz.prog.readableRec ·))=true:=by kernel_rfl
theorem recordParts_k5:((Rows.recordPartsRow.stops==[]))=true:=by kernel_rfl
theorem recordParts_k7:((Rows.recordPartsRow.knobs==[]))=true:=by kernel_rfl
theorem recordParts_k9:((Rows.recordPartsRow.inPlace==Tryz.prog.inPlace 3))=true:=by kernel_rfl
theorem recordParts_k11:((Rows.recordPartsRow.recurses==Tryz.prog.recurses 3))=true:=by kernel_rfl
theorem recordParts_k13:((Rows.recordPartsRow.maps==(Tryz.f3.params.toList++Rows.recordPartsSpec.plain.varTypes Tryz.prog).any (Tryz.prog.mapsRec ·)))=true:=by kernel_rfl
theorem recordParts_k15:((Rows.recordPartsRow.mapsOut==Tryz.prog.mapsAmong Tryz.f3.resultTypes.toList))=true:=by kernel_rfl
theorem recordParts_k17:((Rows.recordPartsRow.wideKeys==(Tryz.f3.params.toList++Rows.recordPartsSpec.plain.varTypes Tryz.prog++Tryz.f3.resultTypes.toList).any (Tryz.prog.wideKeysFrom ·)))=true:=by kernel_rfl
theorem recordParts_k19:(Tryz.f3.resultTypes.all (fun t=>Tryz.prog.readableRec t&&decide (t<Tryz.prog.types.size)))=true:=by kernel_rfl
theorem recordParts_k21:((Rows.recordPartsRow.loopsOut==Tryz.f3.resultTypes.toList.any (Tryz.prog.loopsFrom ·)))=true:=by kernel_rfl
theorem recordParts_k23:(Rows.recordPartsRow.shortTexts.isNone)=true:=by kernel_rfl
theorem recordParts_k25:(Tryz.prog.mayEnter)=true:=by kernel_rfl
theorem recordParts_k27:((Tryz.prog.make==some Rows.recordPartsRow.make))=true:=by kernel_rfl
theorem recordParts_k29:((Rows.recordPartsRow.pinned==Rows.recordPartsRow.pinnedBy))=true:=by kernel_rfl
theorem recordParts_k31:(Rows.recordPartsRow.veiledFits Tryz.prog Tryz.f3.params.toList (Tryz.f3.params.toList++Rows.recordPartsSpec.plain.varTypes Tryz.prog++Tryz.f3.resultTypes.toList))=true:=by kernel_rfl
end Go.Proofs.YtlmhpcghgjdjjaaGreatDoor
