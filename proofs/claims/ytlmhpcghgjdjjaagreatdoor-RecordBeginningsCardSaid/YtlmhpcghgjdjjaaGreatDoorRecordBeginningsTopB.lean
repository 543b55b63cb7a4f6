import Derived.Handy
import Derived.Lay
import Derived.SevenTiedAt
import Derived.WalkKit
import Derived.Test.YtlmhpcghgjdjjaaGreatDoorCards
import Derived.Test.YtlmhpcghgjdjjaaGreatDoorRows
import Derived.Test.YtlmhpcghgjdjjaaGreatDoorTie
namespace Go.Proofs.YtlmhpcghgjdjjaaGreatDoor
open Go.ChangeAt
theorem recordBeginnings_k3:(Tryz.f9.params.all (Tryz.prog.readableRec ·))=true:=by kernel_rfl
theorem recordBeginnings_k5:((Rows.recordBeginningsRow.stops==[]))=true:=by kernel_rfl
theorem recordBeginnings_k7:((Rows.recordBeginningsRow.knobs==[]))=true:=by kernel_rfl
theorem recordBeginnings_k9:((Rows.recordBeginningsRow.inPlace==Tryz.prog.inPlace 9))=true:=by kernel_rfl
theorem recordBeginnings_k11:((Rows.recordBeginningsRow.recurses==Tryz.prog.recurses 9))=true:=by kernel_rfl
theorem recordBeginnings_k13:((Rows.recordBeginningsRow.maps==(Tryz.f9.params.toList++Rows.recordBeginningsSpec.plain.varTypes Tryz.prog).any (Tryz.prog.mapsRec ·)))=true:=by kernel_rfl
theorem recordBeginnings_k15:((Rows.recordBeginningsRow.mapsOut==Tryz.prog.mapsAmong Tryz.f9.resultTypes.toList))=true:=by kernel_rfl
theorem recordBeginnings_k17:((Rows.recordBeginningsRow.wideKeys==(Tryz.f9.params.toList++Rows.recordBeginningsSpec.plain.varTypes Tryz.prog++Tryz.f9.resultTypes.toList).any (Tryz.prog.wideKeysFrom ·)))=true:=by kernel_rfl
theorem recordBeginnings_k19:(Tryz.f9.resultTypes.all (fun t=>Tryz.prog.readableRec t&&decide (t<Tryz.prog.types.size)))=true:=by kernel_rfl
theorem recordBeginnings_k21:((Rows.recordBeginningsRow.loopsOut==Tryz.f9.resultTypes.toList.any (Tryz.prog.loopsFrom ·)))=true:=by kernel_rfl
theorem recordBeginnings_k23:(Rows.recordBeginningsRow.shortTexts.isNone)=true:=by kernel_rfl
theorem recordBeginnings_k25:(Tryz.prog.mayEnter)=true:=by kernel_rfl
theorem recordBeginnings_k27:((Tryz.prog.make==some Rows.recordBeginningsRow.make))=true:=by kernel_rfl
theorem recordBeginnings_k29:((Rows.recordBeginningsRow.pinned==Rows.recordBeginningsRow.pinnedBy))=true:=by kernel_rfl
theorem recordBeginnings_k31:(Rows.recordBeginningsRow.veiledFits Tryz.prog Tryz.f9.params.toList (Tryz.f9.params.toList++Rows.recordBeginningsSpec.plain.varTypes Tryz.prog++Tryz.f9.resultTypes.toList))=true:=by kernel_rfl
end Go.Proofs.YtlmhpcghgjdjjaaGreatDoor
