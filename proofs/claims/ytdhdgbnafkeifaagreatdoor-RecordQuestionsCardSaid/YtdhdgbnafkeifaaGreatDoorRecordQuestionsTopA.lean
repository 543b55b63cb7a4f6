import Derived.Handy
import Derived.Lay
import Derived.SevenTiedAt
import Derived.WalkKit
import Derived.Test.YtdhdgbnafkeifaaGreatDoorCards
import Derived.Test.YtdhdgbnafkeifaaGreatDoorRows
import Derived.Test.YtdhdgbnafkeifaaGreatDoorTie
namespace Go.Proofs.YtdhdgbnafkeifaaGreatDoor
open Go.ChangeAt
theorem recordQuestions_k0:(Rows.recordQuestionsRow.wf (OpenSpec.ofChange Rows.recordQuestionsSpec))=true:=by kernel_rfl
theorem recordQuestions_k2:(mapsRowed Tryz.prog)=true:=by kernel_rfl
theorem recordQuestions_k4:(namedTie Tryz.prog Rows.recordQuestionsRow.named Rows.recordQuestionsSpec.vars)=true:=by kernel_rfl
theorem recordQuestions_k6:((Tryz.prog.stops==[]))=true:=by kernel_rfl
theorem recordQuestions_k8:((Tryz.prog.stopKnobs==[]))=true:=by kernel_rfl
theorem recordQuestions_k10:((Rows.recordQuestionsRow.unfollowed==Tryz.prog.unfollowed 7))=true:=by kernel_rfl
theorem recordQuestions_k12:((Rows.recordQuestionsRow.named==Tryz.prog.varsNamed 7))=true:=by kernel_rfl
theorem recordQuestions_k14:((Rows.recordQuestionsRow.ifaces==(Tryz.f7.params.toList++Rows.recordQuestionsSpec.plain.varTypes Tryz.prog).any (Tryz.prog.ifacesRec ·)))=true:=by kernel_rfl
theorem recordQuestions_k16:((Rows.recordQuestionsRow.loops==(Tryz.f7.params.toList++Rows.recordQuestionsSpec.plain.varTypes Tryz.prog).any (Tryz.prog.loopsFrom ·)))=true:=by kernel_rfl
theorem recordQuestions_k18:(Rows.recordQuestionsSpec.vars.all (Tryz.prog.varReadable ·))=true:=by kernel_rfl
theorem recordQuestions_k20:((Rows.recordQuestionsRow.ifacesOut==Tryz.f7.resultTypes.toList.any (Tryz.prog.ifacesRec ·)))=true:=by kernel_rfl
theorem recordQuestions_k22:((Rows.recordQuestionsRow.plainKeys==Tryz.prog.plainKeys))=true:=by kernel_rfl
theorem recordQuestions_k24:(Tryz.prog.stopsHeard)=true:=by kernel_rfl
theorem recordQuestions_k26:((Rows.recordQuestionsRow.lifted==Tryz.prog.liftsFinal))=true:=by kernel_rfl
theorem recordQuestions_k28:((Rows.recordQuestionsRow.kinds==(if Rows.recordQuestionsRow.domain.isEmpty then []else Tryz.f7.params.toList.map fun t=>match Tryz.prog.underlying t with|some (.int k)=>some k|_=>none)))=true:=by kernel_rfl
theorem recordQuestions_k30:((Rows.recordQuestionsRow.veiled==(Tryz.f7.params.toList++Rows.recordQuestionsSpec.plain.varTypes Tryz.prog++Tryz.f7.resultTypes.toList).any (Tryz.prog.veiledRec ·)))=true:=by kernel_rfl
end Go.Proofs.YtdhdgbnafkeifaaGreatDoor
