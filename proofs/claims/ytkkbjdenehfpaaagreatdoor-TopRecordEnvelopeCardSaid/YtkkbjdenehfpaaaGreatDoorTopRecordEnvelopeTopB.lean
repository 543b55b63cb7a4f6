import Derived.Handy
import Derived.Lay
import Derived.SevenTiedAt
import Derived.WalkKit
import Derived.Test.YtkkbjdenehfpaaaGreatDoorCards
import Derived.Test.YtkkbjdenehfpaaaGreatDoorRows
import Derived.Test.YtkkbjdenehfpaaaGreatDoorTie
namespace Go.Proofs.YtkkbjdenehfpaaaGreatDoor
open Go.ChangeAt
theorem topRecordEnvelope_k3:(Tryz.f4.params.all (Tryz.prog.readableRec ·))=true:=by kernel_rfl
theorem topRecordEnvelope_k5:((Rows.topRecordEnvelopeRow.stops==[]))=true:=by kernel_rfl
theorem topRecordEnvelope_k7:((Rows.topRecordEnvelopeRow.knobs==[]))=true:=by kernel_rfl
theorem topRecordEnvelope_k9:((Rows.topRecordEnvelopeRow.inPlace==Tryz.prog.inPlace 4))=true:=by kernel_rfl
theorem topRecordEnvelope_k11:((Rows.topRecordEnvelopeRow.recurses==Tryz.prog.recurses 4))=true:=by kernel_rfl
theorem topRecordEnvelope_k13:((Rows.topRecordEnvelopeRow.maps==(Tryz.f4.params.toList++Rows.topRecordEnvelopeSpec.plain.varTypes Tryz.prog).any (Tryz.prog.mapsRec ·)))=true:=by kernel_rfl
theorem topRecordEnvelope_k15:((Rows.topRecordEnvelopeRow.mapsOut==Tryz.prog.mapsAmong Tryz.f4.resultTypes.toList))=true:=by kernel_rfl
theorem topRecordEnvelope_k17:((Rows.topRecordEnvelopeRow.wideKeys==(Tryz.f4.params.toList++Rows.topRecordEnvelopeSpec.plain.varTypes Tryz.prog++Tryz.f4.resultTypes.toList).any (Tryz.prog.wideKeysFrom ·)))=true:=by kernel_rfl
theorem topRecordEnvelope_k19:(Tryz.f4.resultTypes.all (fun t=>Tryz.prog.readableRec t&&decide (t<Tryz.prog.types.size)))=true:=by kernel_rfl
theorem topRecordEnvelope_k21:((Rows.topRecordEnvelopeRow.loopsOut==Tryz.f4.resultTypes.toList.any (Tryz.prog.loopsFrom ·)))=true:=by kernel_rfl
theorem topRecordEnvelope_k23:(Rows.topRecordEnvelopeRow.shortTexts.isNone)=true:=by kernel_rfl
theorem topRecordEnvelope_k25:(Tryz.prog.mayEnter)=true:=by kernel_rfl
theorem topRecordEnvelope_k27:((Tryz.prog.make==some Rows.topRecordEnvelopeRow.make))=true:=by kernel_rfl
theorem topRecordEnvelope_k29:((Rows.topRecordEnvelopeRow.pinned==Rows.topRecordEnvelopeRow.pinnedBy))=true:=by kernel_rfl
theorem topRecordEnvelope_k31:(Rows.topRecordEnvelopeRow.veiledFits Tryz.prog Tryz.f4.params.toList (Tryz.f4.params.toList++Rows.topRecordEnvelopeSpec.plain.varTypes Tryz.prog++Tryz.f4.resultTypes.toList))=true:=by kernel_rfl
end Go.Proofs.YtkkbjdenehfpaaaGreatDoor
