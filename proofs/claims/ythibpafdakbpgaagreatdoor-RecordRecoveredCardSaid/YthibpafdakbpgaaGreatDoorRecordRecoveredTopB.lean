import Derived.Handy
import Derived.Lay
import Derived.SevenTiedAt
import Derived.WalkKit
import Derived.Test.YthibpafdakbpgaaGreatDoorCards
import Derived.Test.YthibpafdakbpgaaGreatDoorRows
import Derived.Test.YthibpafdakbpgaaGreatDoorTie
namespace Go.Proofs.YthibpafdakbpgaaGreatDoor
open Go.ChangeAt
theorem recordRecovered_k3:(Tryz.f4.params.all (Tryz.prog.readableRec ·))=true:=by kernel_rfl
theorem recordRecovered_k5:((Rows.recordRecoveredRow.stops==[]))=true:=by kernel_rfl
theorem recordRecovered_k7:((Rows.recordRecoveredRow.knobs==[]))=true:=by kernel_rfl
theorem recordRecovered_k9:((Rows.recordRecoveredRow.inPlace==Tryz.prog.inPlace 4))=true:=by kernel_rfl
theorem recordRecovered_k11:((Rows.recordRecoveredRow.recurses==Tryz.prog.recurses 4))=true:=by kernel_rfl
theorem recordRecovered_k13:((Rows.recordRecoveredRow.maps==(Tryz.f4.params.toList++Rows.recordRecoveredSpec.plain.varTypes Tryz.prog).any (Tryz.prog.mapsRec ·)))=true:=by kernel_rfl
theorem recordRecovered_k15:((Rows.recordRecoveredRow.mapsOut==Tryz.prog.mapsAmong Tryz.f4.resultTypes.toList))=true:=by kernel_rfl
theorem recordRecovered_k17:((Rows.recordRecoveredRow.wideKeys==(Tryz.f4.params.toList++Rows.recordRecoveredSpec.plain.varTypes Tryz.prog++Tryz.f4.resultTypes.toList).any (Tryz.prog.wideKeysFrom ·)))=true:=by kernel_rfl
theorem recordRecovered_k19:(Tryz.f4.resultTypes.all (fun t=>Tryz.prog.readableRec t&&decide (t<Tryz.prog.types.size)))=true:=by kernel_rfl
theorem recordRecovered_k21:((Rows.recordRecoveredRow.loopsOut==Tryz.f4.resultTypes.toList.any (Tryz.prog.loopsFrom ·)))=true:=by kernel_rfl
theorem recordRecovered_k23:(Rows.recordRecoveredRow.shortTexts.isNone)=true:=by kernel_rfl
theorem recordRecovered_k25:(Tryz.prog.mayEnter)=true:=by kernel_rfl
theorem recordRecovered_k27:((Tryz.prog.make==some Rows.recordRecoveredRow.make))=true:=by kernel_rfl
theorem recordRecovered_k29:((Rows.recordRecoveredRow.pinned==Rows.recordRecoveredRow.pinnedBy))=true:=by kernel_rfl
theorem recordRecovered_k31:(Rows.recordRecoveredRow.veiledFits Tryz.prog Tryz.f4.params.toList (Tryz.f4.params.toList++Rows.recordRecoveredSpec.plain.varTypes Tryz.prog++Tryz.f4.resultTypes.toList))=true:=by kernel_rfl
end Go.Proofs.YthibpafdakbpgaaGreatDoor
