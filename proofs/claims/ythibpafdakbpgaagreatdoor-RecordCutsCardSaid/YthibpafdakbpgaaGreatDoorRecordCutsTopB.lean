import Derived.Handy
import Derived.Lay
import Derived.SevenTiedAt
import Derived.WalkKit
import Derived.Test.YthibpafdakbpgaaGreatDoorCards
import Derived.Test.YthibpafdakbpgaaGreatDoorRows
import Derived.Test.YthibpafdakbpgaaGreatDoorTie
namespace Go.Proofs.YthibpafdakbpgaaGreatDoor
open Go.ChangeAt
theorem recordCuts_k3:(Tryz.f5.params.all (Tryz.prog.readableRec ·))=true:=by kernel_rfl
theorem recordCuts_k5:((Rows.recordCutsRow.stops==[]))=true:=by kernel_rfl
theorem recordCuts_k7:((Rows.recordCutsRow.knobs==[]))=true:=by kernel_rfl
theorem recordCuts_k9:((Rows.recordCutsRow.inPlace==Tryz.prog.inPlace 5))=true:=by kernel_rfl
theorem recordCuts_k11:((Rows.recordCutsRow.recurses==Tryz.prog.recurses 5))=true:=by kernel_rfl
theorem recordCuts_k13:((Rows.recordCutsRow.maps==(Tryz.f5.params.toList++Rows.recordCutsSpec.plain.varTypes Tryz.prog).any (Tryz.prog.mapsRec ·)))=true:=by kernel_rfl
theorem recordCuts_k15:((Rows.recordCutsRow.mapsOut==Tryz.prog.mapsAmong Tryz.f5.resultTypes.toList))=true:=by kernel_rfl
theorem recordCuts_k17:((Rows.recordCutsRow.wideKeys==(Tryz.f5.params.toList++Rows.recordCutsSpec.plain.varTypes Tryz.prog++Tryz.f5.resultTypes.toList).any (Tryz.prog.wideKeysFrom ·)))=true:=by kernel_rfl
theorem recordCuts_k19:(Tryz.f5.resultTypes.all (fun t=>Tryz.prog.readableRec t&&decide (t<Tryz.prog.types.size)))=true:=by kernel_rfl
theorem recordCuts_k21:((Rows.recordCutsRow.loopsOut==Tryz.f5.resultTypes.toList.any (Tryz.prog.loopsFrom ·)))=true:=by kernel_rfl
theorem recordCuts_k23:(Rows.recordCutsRow.shortTexts.isNone)=true:=by kernel_rfl
theorem recordCuts_k25:(Tryz.prog.mayEnter)=true:=by kernel_rfl
theorem recordCuts_k27:((Tryz.prog.make==some Rows.recordCutsRow.make))=true:=by kernel_rfl
theorem recordCuts_k29:((Rows.recordCutsRow.pinned==Rows.recordCutsRow.pinnedBy))=true:=by kernel_rfl
theorem recordCuts_k31:(Rows.recordCutsRow.veiledFits Tryz.prog Tryz.f5.params.toList (Tryz.f5.params.toList++Rows.recordCutsSpec.plain.varTypes Tryz.prog++Tryz.f5.resultTypes.toList))=true:=by kernel_rfl
end Go.Proofs.YthibpafdakbpgaaGreatDoor
