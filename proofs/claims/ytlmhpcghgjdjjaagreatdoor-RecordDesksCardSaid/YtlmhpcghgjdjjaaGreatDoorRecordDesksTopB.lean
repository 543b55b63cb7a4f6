import Derived.Handy
import Derived.Lay
import Derived.SevenTiedAt
import Derived.WalkKit
import Derived.Test.YtlmhpcghgjdjjaaGreatDoorCards
import Derived.Test.YtlmhpcghgjdjjaaGreatDoorRows
import Derived.Test.YtlmhpcghgjdjjaaGreatDoorTie
namespace Go.Proofs.YtlmhpcghgjdjjaaGreatDoor
open Go.ChangeAt
theorem recordDesks_k3:(Tryz.f8.params.all (Tryz.prog.readableRec ·))=true:=by kernel_rfl
theorem recordDesks_k5:((Rows.recordDesksRow.stops==[]))=true:=by kernel_rfl
theorem recordDesks_k7:((Rows.recordDesksRow.knobs==[]))=true:=by kernel_rfl
theorem recordDesks_k9:((Rows.recordDesksRow.inPlace==Tryz.prog.inPlace 8))=true:=by kernel_rfl
theorem recordDesks_k11:((Rows.recordDesksRow.recurses==Tryz.prog.recurses 8))=true:=by kernel_rfl
theorem recordDesks_k13:((Rows.recordDesksRow.maps==(Tryz.f8.params.toList++Rows.recordDesksSpec.plain.varTypes Tryz.prog).any (Tryz.prog.mapsRec ·)))=true:=by kernel_rfl
theorem recordDesks_k15:((Rows.recordDesksRow.mapsOut==Tryz.prog.mapsAmong Tryz.f8.resultTypes.toList))=true:=by kernel_rfl
theorem recordDesks_k17:((Rows.recordDesksRow.wideKeys==(Tryz.f8.params.toList++Rows.recordDesksSpec.plain.varTypes Tryz.prog++Tryz.f8.resultTypes.toList).any (Tryz.prog.wideKeysFrom ·)))=true:=by kernel_rfl
theorem recordDesks_k19:(Tryz.f8.resultTypes.all (fun t=>Tryz.prog.readableRec t&&decide (t<Tryz.prog.types.size)))=true:=by kernel_rfl
theorem recordDesks_k21:((Rows.recordDesksRow.loopsOut==Tryz.f8.resultTypes.toList.any (Tryz.prog.loopsFrom ·)))=true:=by kernel_rfl
theorem recordDesks_k23:(Rows.recordDesksRow.shortTexts.isNone)=true:=by kernel_rfl
theorem recordDesks_k25:(Tryz.prog.mayEnter)=true:=by kernel_rfl
theorem recordDesks_k27:((Tryz.prog.make==some Rows.recordDesksRow.make))=true:=by kernel_rfl
theorem recordDesks_k29:((Rows.recordDesksRow.pinned==Rows.recordDesksRow.pinnedBy))=true:=by kernel_rfl
theorem recordDesks_k31:(Rows.recordDesksRow.veiledFits Tryz.prog Tryz.f8.params.toList (Tryz.f8.params.toList++Rows.recordDesksSpec.plain.varTypes Tryz.prog++Tryz.f8.resultTypes.toList))=true:=by kernel_rfl
end Go.Proofs.YtlmhpcghgjdjjaaGreatDoor
