import Derived.Handy
import Derived.Lay
import Derived.SevenTiedAt
import Derived.WalkKit
import Derived.Test.YtlmhpcghgjdjjaaGreatDoorCards
import Derived.Test.YtlmhpcghgjdjjaaGreatDoorRows
import Derived.Test.YtlmhpcghgjdjjaaGreatDoorTie
namespace Go.Proofs.YtlmhpcghgjdjjaaGreatDoor
open Go.ChangeAt
theorem recordMerges_k3:(Tryz.f5.params.all (Tryz.prog.readableRec ·))=true:=by kernel_rfl
theorem recordMerges_k5:((Rows.recordMergesRow.stops==[]))=true:=by kernel_rfl
theorem recordMerges_k7:((Rows.recordMergesRow.knobs==[]))=true:=by kernel_rfl
theorem recordMerges_k9:((Rows.recordMergesRow.inPlace==Tryz.prog.inPlace 5))=true:=by kernel_rfl
theorem recordMerges_k11:((Rows.recordMergesRow.recurses==Tryz.prog.recurses 5))=true:=by kernel_rfl
theorem recordMerges_k13:((Rows.recordMergesRow.maps==(Tryz.f5.params.toList++Rows.recordMergesSpec.plain.varTypes Tryz.prog).any (Tryz.prog.mapsRec ·)))=true:=by kernel_rfl
theorem recordMerges_k15:((Rows.recordMergesRow.mapsOut==Tryz.prog.mapsAmong Tryz.f5.resultTypes.toList))=true:=by kernel_rfl
theorem recordMerges_k17:((Rows.recordMergesRow.wideKeys==(Tryz.f5.params.toList++Rows.recordMergesSpec.plain.varTypes Tryz.prog++Tryz.f5.resultTypes.toList).any (Tryz.prog.wideKeysFrom ·)))=true:=by kernel_rfl
theorem recordMerges_k19:(Tryz.f5.resultTypes.all (fun t=>Tryz.prog.readableRec t&&decide (t<Tryz.prog.types.size)))=true:=by kernel_rfl
theorem recordMerges_k21:((Rows.recordMergesRow.loopsOut==Tryz.f5.resultTypes.toList.any (Tryz.prog.loopsFrom ·)))=true:=by kernel_rfl
theorem recordMerges_k23:(Rows.recordMergesRow.shortTexts.isNone)=true:=by kernel_rfl
theorem recordMerges_k25:(Tryz.prog.mayEnter)=true:=by kernel_rfl
theorem recordMerges_k27:((Tryz.prog.make==some Rows.recordMergesRow.make))=true:=by kernel_rfl
theorem recordMerges_k29:((Rows.recordMergesRow.pinned==Rows.recordMergesRow.pinnedBy))=true:=by kernel_rfl
theorem recordMerges_k31:(Rows.recordMergesRow.veiledFits Tryz.prog Tryz.f5.params.toList (Tryz.f5.params.toList++Rows.recordMergesSpec.plain.varTypes Tryz.prog++Tryz.f5.resultTypes.toList))=true:=by kernel_rfl
end Go.Proofs.YtlmhpcghgjdjjaaGreatDoor
