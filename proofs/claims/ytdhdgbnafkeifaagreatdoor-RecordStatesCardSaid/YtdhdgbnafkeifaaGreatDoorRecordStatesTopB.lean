import Derived.Handy
import Derived.Lay
import Derived.SevenTiedAt
import Derived.WalkKit
import Derived.Test.YtdhdgbnafkeifaaGreatDoorCards
import Derived.Test.YtdhdgbnafkeifaaGreatDoorRows
import Derived.Test.YtdhdgbnafkeifaaGreatDoorTie
namespace Go.Proofs.YtdhdgbnafkeifaaGreatDoor
open Go.ChangeAt
theorem recordStates_k3:(Tryz.f6.params.all (Tryz.prog.readableRec ·))=true:=by kernel_rfl
theorem recordStates_k5:((Rows.recordStatesRow.stops==[]))=true:=by kernel_rfl
theorem recordStates_k7:((Rows.recordStatesRow.knobs==[]))=true:=by kernel_rfl
theorem recordStates_k9:((Rows.recordStatesRow.inPlace==Tryz.prog.inPlace 6))=true:=by kernel_rfl
theorem recordStates_k11:((Rows.recordStatesRow.recurses==Tryz.prog.recurses 6))=true:=by kernel_rfl
theorem recordStates_k13:((Rows.recordStatesRow.maps==(Tryz.f6.params.toList++Rows.recordStatesSpec.plain.varTypes Tryz.prog).any (Tryz.prog.mapsRec ·)))=true:=by kernel_rfl
theorem recordStates_k15:((Rows.recordStatesRow.mapsOut==Tryz.prog.mapsAmong Tryz.f6.resultTypes.toList))=true:=by kernel_rfl
theorem recordStates_k17:((Rows.recordStatesRow.wideKeys==(Tryz.f6.params.toList++Rows.recordStatesSpec.plain.varTypes Tryz.prog++Tryz.f6.resultTypes.toList).any (Tryz.prog.wideKeysFrom ·)))=true:=by kernel_rfl
theorem recordStates_k19:(Tryz.f6.resultTypes.all (fun t=>Tryz.prog.readableRec t&&decide (t<Tryz.prog.types.size)))=true:=by kernel_rfl
theorem recordStates_k21:((Rows.recordStatesRow.loopsOut==Tryz.f6.resultTypes.toList.any (Tryz.prog.loopsFrom ·)))=true:=by kernel_rfl
theorem recordStates_k23:(Rows.recordStatesRow.shortTexts.isNone)=true:=by kernel_rfl
theorem recordStates_k25:(Tryz.prog.mayEnter)=true:=by kernel_rfl
theorem recordStates_k27:((Tryz.prog.make==some Rows.recordStatesRow.make))=true:=by kernel_rfl
theorem recordStates_k29:((Rows.recordStatesRow.pinned==Rows.recordStatesRow.pinnedBy))=true:=by kernel_rfl
theorem recordStates_k31:(Rows.recordStatesRow.veiledFits Tryz.prog Tryz.f6.params.toList (Tryz.f6.params.toList++Rows.recordStatesSpec.plain.varTypes Tryz.prog++Tryz.f6.resultTypes.toList))=true:=by kernel_rfl
end Go.Proofs.YtdhdgbnafkeifaaGreatDoor
