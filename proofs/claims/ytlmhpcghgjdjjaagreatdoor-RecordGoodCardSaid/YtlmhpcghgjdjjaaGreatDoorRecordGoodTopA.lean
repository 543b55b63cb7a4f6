import Derived.Handy
import Derived.Lay
import Derived.SevenTiedAt
import Derived.WalkKit
import Derived.Test.YtlmhpcghgjdjjaaGreatDoorCards
import Derived.Test.YtlmhpcghgjdjjaaGreatDoorRows
import Derived.Test.YtlmhpcghgjdjjaaGreatDoorTie
namespace Go.Proofs.YtlmhpcghgjdjjaaGreatDoor
open Go.ChangeAt
theorem recordGood_k0:(Rows.recordGoodRow.wf (OpenSpec.ofChange Rows.recordGoodSpec))=true:=by kernel_rfl
theorem recordGood_k2:(mapsRowed Tryz.prog)=true:=by kernel_rfl
theorem recordGood_k4:(namedTie Tryz.prog Rows.recordGoodRow.named Rows.recordGoodSpec.vars)=true:=by kernel_rfl
theorem recordGood_k6:((Tryz.prog.stops==[]))=true:=by kernel_rfl
theorem recordGood_k8:((Tryz.prog.stopKnobs==[]))=true:=by kernel_rfl
theorem recordGood_k10:((Rows.recordGoodRow.unfollowed==Tryz.prog.unfollowed 6))=true:=by kernel_rfl
theorem recordGood_k12:((Rows.recordGoodRow.named==Tryz.prog.varsNamed 6))=true:=by kernel_rfl
theorem recordGood_k14:((Rows.recordGoodRow.ifaces==(Tryz.f6.params.toList++Rows.recordGoodSpec.plain.varTypes Tryz.prog).any (Tryz.prog.ifacesRec ·)))=true:=by kernel_rfl
theorem recordGood_k16:((Rows.recordGoodRow.loops==(Tryz.f6.params.toList++Rows.recordGoodSpec.plain.varTypes Tryz.prog).any (Tryz.prog.loopsFrom ·)))=true:=by kernel_rfl
theorem recordGood_k18:(Rows.recordGoodSpec.vars.all (Tryz.prog.varReadable ·))=true:=by kernel_rfl
theorem recordGood_k20:((Rows.recordGoodRow.ifacesOut==Tryz.f6.resultTypes.toList.any (Tryz.prog.ifacesRec ·)))=true:=by kernel_rfl
theorem recordGood_k22:((Rows.recordGoodRow.plainKeys==Tryz.prog.plainKeys))=true:=by kernel_rfl
theorem recordGood_k24:(Tryz.prog.stopsHeard)=true:=by kernel_rfl
theorem recordGood_k26:((Rows.recordGoodRow.lifted==Tryz.prog.liftsFinal))=true:=by kernel_rfl
theorem recordGood_k28:((Rows.recordGoodRow.kinds==(if Rows.recordGoodRow.domain.isEmpty then []else Tryz.f6.params.toList.map fun t=>match Tryz.prog.underlying t with|some (.int k)=>some k|_=>none)))=true:=by kernel_rfl
theorem recordGood_k30:((Rows.recordGoodRow.veiled==(Tryz.f6.params.toList++Rows.recordGoodSpec.plain.varTypes Tryz.prog++Tryz.f6.resultTypes.toList).any (Tryz.prog.veiledRec ·)))=true:=by kernel_rfl
end Go.Proofs.YtlmhpcghgjdjjaaGreatDoor
