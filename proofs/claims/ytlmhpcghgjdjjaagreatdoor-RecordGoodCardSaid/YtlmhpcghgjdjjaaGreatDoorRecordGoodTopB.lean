import Derived.Handy
import Derived.Lay
import Derived.SevenTiedAt
import Derived.WalkKit
import Derived.Test.YtlmhpcghgjdjjaaGreatDoorCards
import Derived.Test.YtlmhpcghgjdjjaaGreatDoorRows
import Derived.Test.YtlmhpcghgjdjjaaGreatDoorTie
namespace Go.Proofs.YtlmhpcghgjdjjaaGreatDoor
open Go.ChangeAt
theorem recordGood_k3:(Tryz.f6.params.all (Tryz.prog.readableRec ·))=true:=by kernel_rfl
theorem recordGood_k5:((Rows.recordGoodRow.stops==[]))=true:=by kernel_rfl
theorem recordGood_k7:((Rows.recordGoodRow.knobs==[]))=true:=by kernel_rfl
theorem recordGood_k9:((Rows.recordGoodRow.inPlace==Tryz.prog.inPlace 6))=true:=by kernel_rfl
theorem recordGood_k11:((Rows.recordGoodRow.recurses==Tryz.prog.recurses 6))=true:=by kernel_rfl
theorem recordGood_k13:((Rows.recordGoodRow.maps==(Tryz.f6.params.toList++Rows.recordGoodSpec.plain.varTypes Tryz.prog).any (Tryz.prog.mapsRec ·)))=true:=by kernel_rfl
theorem recordGood_k15:((Rows.recordGoodRow.mapsOut==Tryz.prog.mapsAmong Tryz.f6.resultTypes.toList))=true:=by kernel_rfl
theorem recordGood_k17:((Rows.recordGoodRow.wideKeys==(Tryz.f6.params.toList++Rows.recordGoodSpec.plain.varTypes Tryz.prog++Tryz.f6.resultTypes.toList).any (Tryz.prog.wideKeysFrom ·)))=true:=by kernel_rfl
theorem recordGood_k19:(Tryz.f6.resultTypes.all (fun t=>Tryz.prog.readableRec t&&decide (t<Tryz.prog.types.size)))=true:=by kernel_rfl
theorem recordGood_k21:((Rows.recordGoodRow.loopsOut==Tryz.f6.resultTypes.toList.any (Tryz.prog.loopsFrom ·)))=true:=by kernel_rfl
theorem recordGood_k23:(Rows.recordGoodRow.shortTexts.isNone)=true:=by kernel_rfl
theorem recordGood_k25:(Tryz.prog.mayEnter)=true:=by kernel_rfl
theorem recordGood_k27:((Tryz.prog.make==some Rows.recordGoodRow.make))=true:=by kernel_rfl
theorem recordGood_k29:((Rows.recordGoodRow.pinned==Rows.recordGoodRow.pinnedBy))=true:=by kernel_rfl
theorem recordGood_k31:(Rows.recordGoodRow.veiledFits Tryz.prog Tryz.f6.params.toList (Tryz.f6.params.toList++Rows.recordGoodSpec.plain.varTypes Tryz.prog++Tryz.f6.resultTypes.toList))=true:=by kernel_rfl
end Go.Proofs.YtlmhpcghgjdjjaaGreatDoor
