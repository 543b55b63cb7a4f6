/-
  DERIVED. GIVEN WITH THE SEED: THE CARDS: each row of YtkkbjdenehfpaaaGreatDoorRows.lean that lists a variable, with what it lists TIED to the program's text (the seventh form; the later family's looks); each row that meets fmt, with fmt's text TOLD by the authors' own Lean function (tested against real Go, not proved from fmt's source: count such statements apart). THE CARD IS WHAT COUNTS. Prove the row's statement (the work); the ties are given (YtkkbjdenehfpaaaGreatDoorTie.lean); close each card by the builder's one call (the guide's Derived/Test/ToyasCard.lean, 'card_holds'). Laid BY PROGRAM, IN A SANDBOX (cutbox-door.mjs). By AI agents, Wed Nov 11 2026. No macro, syntax, notation, axiom, sorry.
-/
import Derived.Test.YtkkbjdenehfpaaaGreatDoorRows
import GoSem.ClaimSeven
namespace Go.Proofs.YtkkbjdenehfpaaaGreatDoor
namespace Rows

/-- THE TIED CARD OF 'martensitetop.TopRecordBack'. -/
def topRecordBackCard : Claim7 := { stood := { row := topRecordBackRow, standIns := [], harness := (true, "ba1d4abd634ed466601f6a53ef2f236b1d73bd6d567fd21cb0a21ae87d876aa4"), looks := true }, kinds := [], alts := [], laidByText := true, laidKinds := [.data, .data, .data, .data, .sentinel, .sentinel, .data, .pinned], laidTests := true, laidLooks := .later }
def TopRecordBackCardSaid : Prop := Claim7.holds Tryz.pinned (.plain (OpenSpec.ofChange topRecordBackSpec)) topRecordBackCard

/-- THE TIED CARD OF 'martensitetop.TopRecordEnvelope'. -/
def topRecordEnvelopeCard : Claim7 := { stood := { row := topRecordEnvelopeRow, standIns := [], harness := (true, "ba1d4abd634ed466601f6a53ef2f236b1d73bd6d567fd21cb0a21ae87d876aa4"), looks := true }, kinds := [], alts := [], laidByText := true, laidKinds := [.data, .data, .data, .data, .sentinel, .sentinel, .data, .pinned], laidTests := true, laidLooks := .later }
def TopRecordEnvelopeCardSaid : Prop := Claim7.holds Tryz.pinned (.plain (OpenSpec.ofChange topRecordEnvelopeSpec)) topRecordEnvelopeCard

/-- THE SECOND FORM's CARD OF 'martensitetop.TopRecordBack'. -/
def topRecordBackUptoCard : Claim7 := { stood := { row := topRecordBackUptoRow, standIns := [], harness := (true, "ba1d4abd634ed466601f6a53ef2f236b1d73bd6d567fd21cb0a21ae87d876aa4"), looks := true }, kinds := [], alts := [], laidByText := true, laidKinds := [.data, .data, .data, .data, .sentinel, .sentinel, .data, .pinned], laidTests := true, laidLooks := .later }
def TopRecordBackUptoCardSaid : Prop := Claim7.holds Tryz.pinned (.plain (OpenSpec.upto topRecordBackSpec)) topRecordBackUptoCard

/-- THE SECOND FORM's CARD OF 'martensitetop.TopRecordEnvelope'. -/
def topRecordEnvelopeUptoCard : Claim7 := { stood := { row := topRecordEnvelopeUptoRow, standIns := [], harness := (true, "ba1d4abd634ed466601f6a53ef2f236b1d73bd6d567fd21cb0a21ae87d876aa4"), looks := true }, kinds := [], alts := [], laidByText := true, laidKinds := [.data, .data, .data, .data, .sentinel, .sentinel, .data, .pinned], laidTests := true, laidLooks := .later }
def TopRecordEnvelopeUptoCardSaid : Prop := Claim7.holds Tryz.pinned (.plain (OpenSpec.upto topRecordEnvelopeSpec)) topRecordEnvelopeUptoCard
end Rows
end Go.Proofs.YtkkbjdenehfpaaaGreatDoor
