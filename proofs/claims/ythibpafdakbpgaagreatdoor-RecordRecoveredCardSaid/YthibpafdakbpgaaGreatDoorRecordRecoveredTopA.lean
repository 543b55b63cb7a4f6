import Derived.Handy
import Derived.Lay
import Derived.SevenTiedAt
import Derived.WalkKit
import Derived.Test.YthibpafdakbpgaaGreatDoorCards
import Derived.Test.YthibpafdakbpgaaGreatDoorRows
import Derived.Test.YthibpafdakbpgaaGreatDoorTie
namespace Go.Proofs.YthibpafdakbpgaaGreatDoor
open Go.ChangeAt
theorem recordRecovered_k0:(Rows.recordRecoveredRow.wf (OpenSpec.ofChange Rows.recordRecoveredSpec))=true:=by kernel_rfl
theorem recordRecovered_k2:(mapsRowed Tryz.prog)=true:=by kernel_rfl
theorem recordRecovered_k4:(namedTie Tryz.prog Rows.recordRecoveredRow.named Rows.recordRecoveredSpec.vars)=true:=by kernel_rfl
theorem recordRecovered_k6:((Tryz.prog.stops==[]))=true:=by kernel_rfl
theorem recordRecovered_k8:((Tryz.prog.stopKnobs==[]))=true:=by kernel_rfl
theorem recordRecovered_k10:((Rows.recordRecoveredRow.unfollowed==Tryz.prog.unfollowed 4))=true:=by kernel_rfl
theorem recordRecovered_k12:((Rows.recordRecoveredRow.named==Tryz.prog.varsNamed 4))=true:=by kernel_rfl
theorem recordRecovered_k14:((Rows.recordRecoveredRow.ifaces==(Tryz.f4.params.toList++Rows.recordRecoveredSpec.plain.varTypes Tryz.prog).any (Tryz.prog.ifacesRec ·)))=true:=by kernel_rfl
theorem recordRecovered_k16:((Rows.recordRecoveredRow.loops==(Tryz.f4.params.toList++Rows.recordRecoveredSpec.plain.varTypes Tryz.prog).any (Tryz.prog.loopsFrom ·)))=true:=by kernel_rfl
theorem recordRecovered_k18:(Rows.recordRecoveredSpec.vars.all (Tryz.prog.varReadable ·))=true:=by kernel_rfl
theorem recordRecovered_k20:((Rows.recordRecoveredRow.ifacesOut==Tryz.f4.resultTypes.toList.any (Tryz.prog.ifacesRec ·)))=true:=by kernel_rfl
theorem recordRecovered_k22:((Rows.recordRecoveredRow.plainKeys==Tryz.prog.plainKeys))=true:=by kernel_rfl
theorem recordRecovered_k24:(Tryz.prog.stopsHeard)=true:=by kernel_rfl
theorem recordRecovered_k26:((Rows.recordRecoveredRow.lifted==Tryz.prog.liftsFinal))=true:=by kernel_rfl
theorem recordRecovered_k28:((Rows.recordRecoveredRow.kinds==(if Rows.recordRecoveredRow.domain.isEmpty then []else Tryz.f4.params.toList.map fun t=>match Tryz.prog.underlying t with|some (.int k)=>some k|_=>none)))=true:=by kernel_rfl
theorem recordRecovered_k30:((Rows.recordRecoveredRow.veiled==(Tryz.f4.params.toList++Rows.recordRecoveredSpec.plain.varTypes Tryz.prog++Tryz.f4.resultTypes.toList).any (Tryz.prog.veiledRec ·)))=true:=by kernel_rfl
end Go.Proofs.YthibpafdakbpgaaGreatDoor
