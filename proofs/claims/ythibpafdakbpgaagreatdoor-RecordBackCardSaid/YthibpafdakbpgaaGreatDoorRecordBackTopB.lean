import Derived.Handy
import Derived.Lay
import Derived.SevenTiedAt
import Derived.WalkKit
import Derived.Test.YthibpafdakbpgaaGreatDoorCards
import Derived.Test.YthibpafdakbpgaaGreatDoorRows
import Derived.Test.YthibpafdakbpgaaGreatDoorTie
namespace Go.Proofs.YthibpafdakbpgaaGreatDoor
open Go.ChangeAt
theorem recordBack_k3:(Tryz.f3.params.all (Tryz.prog.readableRec ·))=true:=by kernel_rfl
theorem recordBack_k5:((Rows.recordBackRow.stops==[]))=true:=by kernel_rfl
theorem recordBack_k7:((Rows.recordBackRow.knobs==[]))=true:=by kernel_rfl
theorem recordBack_k9:((Rows.recordBackRow.inPlace==Tryz.prog.inPlace 3))=true:=by kernel_rfl
theorem recordBack_k11:((Rows.recordBackRow.recurses==Tryz.prog.recurses 3))=true:=by kernel_rfl
theorem recordBack_k13:((Rows.recordBackRow.maps==(Tryz.f3.params.toList++Rows.recordBackSpec.plain.varTypes Tryz.prog).any (Tryz.prog.mapsRec ·)))=true:=by kernel_rfl
theorem recordBack_k15:((Rows.recordBackRow.mapsOut==Tryz.prog.mapsAmong Tryz.f3.resultTypes.toList))=true:=by kernel_rfl
theorem recordBack_k17:((Rows.recordBackRow.wideKeys==(Tryz.f3.params.toList++Rows.recordBackSpec.plain.varTypes Tryz.prog++Tryz.f3.resultTypes.toList).any (Tryz.prog.wideKeysFrom ·)))=true:=by kernel_rfl
theorem recordBack_k19:(Tryz.f3.resultTypes.all (fun t=>Tryz.prog.readableRec t&&decide (t<Tryz.prog.types.size)))=true:=by kernel_rfl
theorem recordBack_k21:((Rows.recordBackRow.loopsOut==Tryz.f3.resultTypes.toList.any (Tryz.prog.loopsFrom ·)))=true:=by kernel_rfl
theorem recordBack_k23:(Rows.recordBackRow.shortTexts.isNone)=true:=by kernel_rfl
theorem recordBack_k25:(Tryz.prog.mayEnter)=true:=by kernel_rfl
theorem recordBack_k27:((Tryz.prog.make==some Rows.recordBackRow.make))=true:=by kernel_rfl
theorem recordBack_k29:((Rows.recordBackRow.pinned==Rows.recordBackRow.pinnedBy))=true:=by kernel_rfl
theorem recordBack_k31:(Rows.recordBackRow.veiledFits Tryz.prog Tryz.f3.params.toList (Tryz.f3.params.toList++Rows.recordBackSpec.plain.varTypes Tryz.prog++Tryz.f3.resultTypes.toList))=true:=by kernel_rfl
end Go.Proofs.YthibpafdakbpgaaGreatDoor
