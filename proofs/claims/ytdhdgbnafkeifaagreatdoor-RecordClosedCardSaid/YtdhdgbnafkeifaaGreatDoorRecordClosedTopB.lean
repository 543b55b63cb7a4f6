import Derived.Handy
import Derived.Lay
import Derived.SevenTiedAt
import Derived.WalkKit
import Derived.Test.YtdhdgbnafkeifaaGreatDoorCards
import Derived.Test.YtdhdgbnafkeifaaGreatDoorRows
import Derived.Test.YtdhdgbnafkeifaaGreatDoorTie
namespace Go.Proofs.YtdhdgbnafkeifaaGreatDoor
open Go.ChangeAt
theorem recordClosed_k3:(Tryz.f4.params.all (Tryz.prog.readableRec ·))=true:=by kernel_rfl
theorem recordClosed_k5:((Rows.recordClosedRow.stops==[]))=true:=by kernel_rfl
theorem recordClosed_k7:((Rows.recordClosedRow.knobs==[]))=true:=by kernel_rfl
theorem recordClosed_k9:((Rows.recordClosedRow.inPlace==Tryz.prog.inPlace 4))=true:=by kernel_rfl
theorem recordClosed_k11:((Rows.recordClosedRow.recurses==Tryz.prog.recurses 4))=true:=by kernel_rfl
theorem recordClosed_k13:((Rows.recordClosedRow.maps==(Tryz.f4.params.toList++Rows.recordClosedSpec.plain.varTypes Tryz.prog).any (Tryz.prog.mapsRec ·)))=true:=by kernel_rfl
theorem recordClosed_k15:((Rows.recordClosedRow.mapsOut==Tryz.prog.mapsAmong Tryz.f4.resultTypes.toList))=true:=by kernel_rfl
theorem recordClosed_k17:((Rows.recordClosedRow.wideKeys==(Tryz.f4.params.toList++Rows.recordClosedSpec.plain.varTypes Tryz.prog++Tryz.f4.resultTypes.toList).any (Tryz.prog.wideKeysFrom ·)))=true:=by kernel_rfl
theorem recordClosed_k19:(Tryz.f4.resultTypes.all (fun t=>Tryz.prog.readableRec t&&decide (t<Tryz.prog.types.size)))=true:=by kernel_rfl
theorem recordClosed_k21:((Rows.recordClosedRow.loopsOut==Tryz.f4.resultTypes.toList.any (Tryz.prog.loopsFrom ·)))=true:=by kernel_rfl
theorem recordClosed_k23:(Rows.recordClosedRow.shortTexts.isNone)=true:=by kernel_rfl
theorem recordClosed_k25:(Tryz.prog.mayEnter)=true:=by kernel_rfl
theorem recordClosed_k27:((Tryz.prog.make==some Rows.recordClosedRow.make))=true:=by kernel_rfl
theorem recordClosed_k29:((Rows.recordClosedRow.pinned==Rows.recordClosedRow.pinnedBy))=true:=by kernel_rfl
theorem recordClosed_k31:(Rows.recordClosedRow.veiledFits Tryz.prog Tryz.f4.params.toList (Tryz.f4.params.toList++Rows.recordClosedSpec.plain.varTypes Tryz.prog++Tryz.f4.resultTypes.toList))=true:=by kernel_rfl
end Go.Proofs.YtdhdgbnafkeifaaGreatDoor
