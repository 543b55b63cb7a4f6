import Derived.Handy
import Derived.Lay
import Derived.SevenTiedAt
import Derived.WalkKit
import Derived.Test.YthibpafdakbpgaaGreatDoorCards
import Derived.Test.YthibpafdakbpgaaGreatDoorRows
import Derived.Test.YthibpafdakbpgaaGreatDoorTie
namespace Go.Proofs.YthibpafdakbpgaaGreatDoor
open Go.ChangeAt
theorem recordCuts_k0:(Rows.recordCutsRow.wf (OpenSpec.ofChange Rows.recordCutsSpec))=true:=by kernel_rfl
theorem recordCuts_k2:(mapsRowed Tryz.prog)=true:=by kernel_rfl
theorem recordCuts_k4:(namedTie Tryz.prog Rows.recordCutsRow.named Rows.recordCutsSpec.vars)=true:=by kernel_rfl
theorem recordCuts_k6:((Tryz.prog.stops==[]))=true:=by kernel_rfl
theorem recordCuts_k8:((Tryz.prog.stopKnobs==[]))=true:=by kernel_rfl
theorem recordCuts_k10:((Rows.recordCutsRow.unfollowed==Tryz.prog.unfollowed 5))=true:=by kernel_rfl
theorem recordCuts_k12:((Rows.recordCutsRow.named==Tryz.prog.varsNamed 5))=true:=by kernel_rfl
theorem recordCuts_k14:((Rows.recordCutsRow.ifaces==(Tryz.f5.params.toList++Rows.recordCutsSpec.plain.varTypes Tryz.prog).any (Tryz.prog.ifacesRec ·)))=true:=by kernel_rfl
theorem recordCuts_k16:((Rows.recordCutsRow.loops==(Tryz.f5.params.toList++Rows.recordCutsSpec.plain.varTypes Tryz.prog).any (Tryz.prog.loopsFrom ·)))=true:=by kernel_rfl
theorem recordCuts_k18:(Rows.recordCutsSpec.vars.all (Tryz.prog.varReadable ·))=true:=by kernel_rfl
theorem recordCuts_k20:((Rows.recordCutsRow.ifacesOut==Tryz.f5.resultTypes.toList.any (Tryz.prog.ifacesRec ·)))=true:=by kernel_rfl
theorem recordCuts_k22:((Rows.recordCutsRow.plainKeys==Tryz.prog.plainKeys))=true:=by kernel_rfl
theorem recordCuts_k24:(Tryz.prog.stopsHeard)=true:=by kernel_rfl
theorem recordCuts_k26:((Rows.recordCutsRow.lifted==Tryz.prog.liftsFinal))=true:=by kernel_rfl
theorem recordCuts_k28:((Rows.recordCutsRow.kinds==(if Rows.recordCutsRow.domain.isEmpty then []else Tryz.f5.params.toList.map fun t=>match Tryz.prog.underlying t with|some (.int k)=>some k|_=>none)))=true:=by kernel_rfl
theorem recordCuts_k30:((Rows.recordCutsRow.veiled==(Tryz.f5.params.toList++Rows.recordCutsSpec.plain.varTypes Tryz.prog++Tryz.f5.resultTypes.toList).any (Tryz.prog.veiledRec ·)))=true:=by kernel_rfl
end Go.Proofs.YthibpafdakbpgaaGreatDoor
