import Derived.Handy
import Derived.Lay
import Derived.SevenTiedAt
import Derived.WalkKit
import Derived.Test.YtkkbjdenehfpaaaGreatDoorCards
import Derived.Test.YtkkbjdenehfpaaaGreatDoorRows
import Derived.Test.YtkkbjdenehfpaaaGreatDoorTie
namespace Go.Proofs.YtkkbjdenehfpaaaGreatDoor
open Go.ChangeAt
theorem topRecordEnvelope_k0:(Rows.topRecordEnvelopeRow.wf (OpenSpec.ofChange Rows.topRecordEnvelopeSpec))=true:=by kernel_rfl
theorem topRecordEnvelope_k2:(mapsRowed Tryz.prog)=true:=by kernel_rfl
theorem topRecordEnvelope_k4:(namedTie Tryz.prog Rows.topRecordEnvelopeRow.named Rows.topRecordEnvelopeSpec.vars)=true:=by kernel_rfl
theorem topRecordEnvelope_k6:((Tryz.prog.stops==[]))=true:=by kernel_rfl
theorem topRecordEnvelope_k8:((Tryz.prog.stopKnobs==[]))=true:=by kernel_rfl
theorem topRecordEnvelope_k10:((Rows.topRecordEnvelopeRow.unfollowed==Tryz.prog.unfollowed 4))=true:=by kernel_rfl
theorem topRecordEnvelope_k12:((Rows.topRecordEnvelopeRow.named==Tryz.prog.varsNamed 4))=true:=by kernel_rfl
theorem topRecordEnvelope_k14:((Rows.topRecordEnvelopeRow.ifaces==(Tryz.f4.params.toList++Rows.topRecordEnvelopeSpec.plain.varTypes Tryz.prog).any (Tryz.prog.ifacesRec ·)))=true:=by kernel_rfl
theorem topRecordEnvelope_k16:((Rows.topRecordEnvelopeRow.loops==(Tryz.f4.params.toList++Rows.topRecordEnvelopeSpec.plain.varTypes Tryz.prog).any (Tryz.prog.loopsFrom ·)))=true:=by kernel_rfl
theorem topRecordEnvelope_k18:(Rows.topRecordEnvelopeSpec.vars.all (Tryz.prog.varReadable ·))=true:=by kernel_rfl
theorem topRecordEnvelope_k20:((Rows.topRecordEnvelopeRow.ifacesOut==Tryz.f4.resultTypes.toList.any (Tryz.prog.ifacesRec ·)))=true:=by kernel_rfl
theorem topRecordEnvelope_k22:((Rows.topRecordEnvelopeRow.plainKeys==Tryz.prog.plainKeys))=true:=by kernel_rfl
theorem topRecordEnvelope_k24:(Tryz.prog.stopsHeard)=true:=by kernel_rfl
theorem topRecordEnvelope_k26:((Rows.topRecordEnvelopeRow.lifted==Tryz.prog.liftsFinal))=true:=by kernel_rfl
theorem topRecordEnvelope_k28:((Rows.topRecordEnvelopeRow.kinds==(if Rows.topRecordEnvelopeRow.domain.isEmpty then []else Tryz.f4.params.toList.map fun t=>match Tryz.prog.underlying t with|some (.int k)=>some k|_=>none)))=true:=by kernel_rfl
theorem topRecordEnvelope_k30:((Rows.topRecordEnvelopeRow.veiled==(Tryz.f4.params.toList++Rows.topRecordEnvelopeSpec.plain.varTypes Tryz.prog++Tryz.f4.resultTypes.toList).any (Tryz.prog.veiledRec ·)))=true:=by kernel_rfl
end Go.Proofs.YtkkbjdenehfpaaaGreatDoor
