import Derived.Handy
import Derived.Lay
import Derived.SevenTiedAt
import Derived.WalkKit
import Derived.Test.YtdhdgbnafkeifaaGreatDoorCards
import Derived.Test.YtdhdgbnafkeifaaGreatDoorRows
import Derived.Test.YtdhdgbnafkeifaaGreatDoorTie
namespace Go.Proofs.YtdhdgbnafkeifaaGreatDoor
open Go.ChangeAt
theorem recordQuestions_k3:(Tryz.f7.params.all (Tryz.prog.readableRec ·))=true:=by kernel_rfl
theorem recordQuestions_k5:((Rows.recordQuestionsRow.stops==[]))=true:=by kernel_rfl
theorem recordQuestions_k7:((Rows.recordQuestionsRow.knobs==[]))=true:=by kernel_rfl
theorem recordQuestions_k9:((Rows.recordQuestionsRow.inPlace==Tryz.prog.inPlace 7))=true:=by kernel_rfl
theorem recordQuestions_k11:((Rows.recordQuestionsRow.recurses==Tryz.prog.recurses 7))=true:=by kernel_rfl
theorem recordQuestions_k13:((Rows.recordQuestionsRow.maps==(Tryz.f7.params.toList++Rows.recordQuestionsSpec.plain.varTypes Tryz.prog).any (Tryz.prog.mapsRec ·)))=true:=by kernel_rfl
theorem recordQuestions_k15:((Rows.recordQuestionsRow.mapsOut==Tryz.prog.mapsAmong Tryz.f7.resultTypes.toList))=true:=by kernel_rfl
theorem recordQuestions_k17:((Rows.recordQuestionsRow.wideKeys==(Tryz.f7.params.toList++Rows.recordQuestionsSpec.plain.varTypes Tryz.prog++Tryz.f7.resultTypes.toList).any (Tryz.prog.wideKeysFrom ·)))=true:=by kernel_rfl
theorem recordQuestions_k19:(Tryz.f7.resultTypes.all (fun t=>Tryz.prog.readableRec t&&decide (t<Tryz.prog.types.size)))=true:=by kernel_rfl
theorem recordQuestions_k21:((Rows.recordQuestionsRow.loopsOut==Tryz.f7.resultTypes.toList.any (Tryz.prog.loopsFrom ·)))=true:=by kernel_rfl
theorem recordQuestions_k23:(Rows.recordQuestionsRow.shortTexts.isNone)=true:=by kernel_rfl
theorem recordQuestions_k25:(Tryz.prog.mayEnter)=true:=by kernel_rfl
theorem recordQuestions_k27:((Tryz.prog.make==some Rows.recordQuestionsRow.make))=true:=by kernel_rfl
theorem recordQuestions_k29:((Rows.recordQuestionsRow.pinned==Rows.recordQuestionsRow.pinnedBy))=true:=by kernel_rfl
theorem recordQuestions_k31:(Rows.recordQuestionsRow.veiledFits Tryz.prog Tryz.f7.params.toList (Tryz.f7.params.toList++Rows.recordQuestionsSpec.plain.varTypes Tryz.prog++Tryz.f7.resultTypes.toList))=true:=by kernel_rfl
end Go.Proofs.YtdhdgbnafkeifaaGreatDoor
