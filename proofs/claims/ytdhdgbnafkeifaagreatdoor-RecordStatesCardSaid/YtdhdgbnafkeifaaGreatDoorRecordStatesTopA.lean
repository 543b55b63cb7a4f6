import Derived.Handy
import Derived.Lay
import Derived.SevenTiedAt
import Derived.WalkKit
import Derived.Test.YtdhdgbnafkeifaaGreatDoorCards
import Derived.Test.YtdhdgbnafkeifaaGreatDoorRows
import Derived.Test.YtdhdgbnafkeifaaGreatDoorTie
namespace Go.Proofs.YtdhdgbnafkeifaaGreatDoor
open Go.ChangeAt
theorem recordStates_k0:(Rows.recordStatesRow.wf (OpenSpec.ofChange Rows.recordStatesSpec))=true:=by kernel_rfl
theorem recordStates_k2:(mapsRowed Tryz.prog)=true:=by kernel_rfl
theorem recordStates_k4:(namedTie Tryz.prog Rows.recordStatesRow.named Rows.recordStatesSpec.vars)=true:=by kernel_rfl
theorem recordStates_k6:((Tryz.prog.stops==[]))=true:=by kernel_rfl
theorem recordStates_k8:((Tryz.prog.stopKnobs==[]))=true:=by kernel_rfl
theorem recordStates_k10:((Rows.recordStatesRow.unfollowed==Tryz.prog.unfollowed 6))=true:=by kernel_rfl
theorem recordStates_k12:((Rows.recordStatesRow.named==Tryz.prog.varsNamed 6))=true:=by kernel_rfl
theorem recordStates_k14:((Rows.recordStatesRow.ifaces==(Tryz.f6.params.toList++Rows.recordStatesSpec.plain.varTypes Tryz.prog).any (Tryz.prog.ifacesRec ·)))=true:=by kernel_rfl
theorem recordStates_k16:((Rows.recordStatesRow.loops==(Tryz.f6.params.toList++Rows.recordStatesSpec.plain.varTypes Tryz.prog).any (Tryz.prog.loopsFrom ·)))=true:=by kernel_rfl
theorem recordStates_k18:(Rows.recordStatesSpec.vars.all (Tryz.prog.varReadable ·))=true:=by kernel_rfl
theorem recordStates_k20:((Rows.recordStatesRow.ifacesOut==Tryz.f6.resultTypes.toList.any (Tryz.prog.ifacesRec ·)))=true:=by kernel_rfl
theorem recordStates_k22:((Rows.recordStatesRow.plainKeys==Tryz.prog.plainKeys))=true:=by kernel_rfl
theorem recordStates_k24:(Tryz.prog.stopsHeard)=true:=by kernel_rfl
theorem recordStates_k26:((Rows.recordStatesRow.lifted==Tryz.prog.liftsFinal))=true:=by kernel_rfl
theorem recordStates_k28:((Rows.recordStatesRow.kinds==(if Rows.recordStatesRow.domain.isEmpty then []else Tryz.f6.params.toList.map fun t=>match Tryz.prog.underlying t with|some (.int k)=>some k|_=>none)))=true:=by kernel_rfl
theorem recordStates_k30:((Rows.recordStatesRow.veiled==(Tryz.f6.params.toList++Rows.recordStatesSpec.plain.varTypes Tryz.prog++Tryz.f6.resultTypes.toList).any (Tryz.prog.veiledRec ·)))=true:=by kernel_rfl
end Go.Proofs.YtdhdgbnafkeifaaGreatDoor
