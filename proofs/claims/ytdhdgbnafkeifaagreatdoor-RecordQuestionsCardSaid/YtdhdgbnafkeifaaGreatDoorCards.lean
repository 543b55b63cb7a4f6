/-
  DERIVED. GIVEN WITH THE SEED: THE CARDS: each row of YtdhdgbnafkeifaaGreatDoorRows.lean that lists a variable, with what it lists TIED to the program's text (the seventh form; the later family's looks); each row that meets fmt, with fmt's text TOLD by the authors' own Lean function (tested against real Go, not proved from fmt's source: count such statements apart). THE CARD IS WHAT COUNTS. Prove the row's statement (the work); the ties are given (YtdhdgbnafkeifaaGreatDoorTie.lean); close each card by the builder's one call (the guide's Derived/Test/ToyasCard.lean, 'card_holds'). Laid BY PROGRAM, IN A SANDBOX (cutbox-door.mjs). By AI agents, Wed Nov 11 2026. No macro, syntax, notation, axiom, sorry.
-/
import Derived.Test.YtdhdgbnafkeifaaGreatDoorRows
import GoSem.ClaimSeven
namespace Go.Proofs.YtdhdgbnafkeifaaGreatDoor
namespace Rows

/-- THE TIED CARD OF 'martensitelaw10.RecordParts'. -/
def recordPartsCard : Claim7 := { stood := { row := recordPartsRow, standIns := [], harness := (true, "57c161f027b0343d6fdb22f8a4c4e5bb33949660d9cc4a3b15940da41203e3db"), looks := true }, kinds := [], alts := [], laidByText := true, laidKinds := [.data, .data, .data, .data, .sentinel, .sentinel, .data, .pinned], laidTests := true, laidLooks := .later }
def RecordPartsCardSaid : Prop := Claim7.holds Tryz.pinned (.plain (OpenSpec.ofChange recordPartsSpec)) recordPartsCard

/-- THE TIED CARD OF 'martensitelaw10.RecordClosed'. -/
def recordClosedCard : Claim7 := { stood := { row := recordClosedRow, standIns := [], harness := (true, "57c161f027b0343d6fdb22f8a4c4e5bb33949660d9cc4a3b15940da41203e3db"), looks := true }, kinds := [], alts := [], laidByText := true, laidKinds := [.data, .data, .data, .data, .sentinel, .sentinel, .data, .pinned], laidTests := true, laidLooks := .later }
def RecordClosedCardSaid : Prop := Claim7.holds Tryz.pinned (.plain (OpenSpec.ofChange recordClosedSpec)) recordClosedCard

/-- THE TIED CARD OF 'martensitelaw10.RecordSums'. -/
def recordSumsCard : Claim7 := { stood := { row := recordSumsRow, standIns := [], harness := (true, "57c161f027b0343d6fdb22f8a4c4e5bb33949660d9cc4a3b15940da41203e3db"), looks := true }, kinds := [], alts := [], laidByText := true, laidKinds := [.data, .data, .data, .data, .sentinel, .sentinel, .data, .pinned], laidTests := true, laidLooks := .later }
def RecordSumsCardSaid : Prop := Claim7.holds Tryz.pinned (.plain (OpenSpec.ofChange recordSumsSpec)) recordSumsCard

/-- THE TIED CARD OF 'martensitelaw10.RecordStates'. -/
def recordStatesCard : Claim7 := { stood := { row := recordStatesRow, standIns := [], harness := (true, "57c161f027b0343d6fdb22f8a4c4e5bb33949660d9cc4a3b15940da41203e3db"), looks := true }, kinds := [], alts := [], laidByText := true, laidKinds := [.data, .data, .data, .data, .sentinel, .sentinel, .data, .pinned], laidTests := true, laidLooks := .later }
def RecordStatesCardSaid : Prop := Claim7.holds Tryz.pinned (.plain (OpenSpec.ofChange recordStatesSpec)) recordStatesCard

/-- THE TIED CARD OF 'martensitelaw10.RecordQuestions'. -/
def recordQuestionsCard : Claim7 := { stood := { row := recordQuestionsRow, standIns := [], harness := (true, "57c161f027b0343d6fdb22f8a4c4e5bb33949660d9cc4a3b15940da41203e3db"), looks := true }, kinds := [], alts := [], laidByText := true, laidKinds := [.data, .data, .data, .data, .sentinel, .sentinel, .data, .pinned], laidTests := true, laidLooks := .later }
def RecordQuestionsCardSaid : Prop := Claim7.holds Tryz.pinned (.plain (OpenSpec.ofChange recordQuestionsSpec)) recordQuestionsCard

/-- THE TIED CARD OF 'martensitetop.TopRecordCounts'. -/
def topRecordCountsCard : Claim7 := { stood := { row := topRecordCountsRow, standIns := [], harness := (true, "57c161f027b0343d6fdb22f8a4c4e5bb33949660d9cc4a3b15940da41203e3db"), looks := true }, kinds := [], alts := [], laidByText := true, laidKinds := [.data, .data, .data, .data, .sentinel, .sentinel, .data, .pinned], laidTests := true, laidLooks := .later }
def TopRecordCountsCardSaid : Prop := Claim7.holds Tryz.pinned (.plain (OpenSpec.ofChange topRecordCountsSpec)) topRecordCountsCard

/-- THE SECOND FORM's CARD OF 'martensitelaw10.RecordParts'. -/
def recordPartsUptoCard : Claim7 := { stood := { row := recordPartsUptoRow, standIns := [], harness := (true, "57c161f027b0343d6fdb22f8a4c4e5bb33949660d9cc4a3b15940da41203e3db"), looks := true }, kinds := [], alts := [], laidByText := true, laidKinds := [.data, .data, .data, .data, .sentinel, .sentinel, .data, .pinned], laidTests := true, laidLooks := .later }
def RecordPartsUptoCardSaid : Prop := Claim7.holds Tryz.pinned (.plain (OpenSpec.upto recordPartsSpec)) recordPartsUptoCard

/-- THE SECOND FORM's CARD OF 'martensitelaw10.RecordClosed'. -/
def recordClosedUptoCard : Claim7 := { stood := { row := recordClosedUptoRow, standIns := [], harness := (true, "57c161f027b0343d6fdb22f8a4c4e5bb33949660d9cc4a3b15940da41203e3db"), looks := true }, kinds := [], alts := [], laidByText := true, laidKinds := [.data, .data, .data, .data, .sentinel, .sentinel, .data, .pinned], laidTests := true, laidLooks := .later }
def RecordClosedUptoCardSaid : Prop := Claim7.holds Tryz.pinned (.plain (OpenSpec.upto recordClosedSpec)) recordClosedUptoCard

/-- THE SECOND FORM's CARD OF 'martensitelaw10.RecordSums'. -/
def recordSumsUptoCard : Claim7 := { stood := { row := recordSumsUptoRow, standIns := [], harness := (true, "57c161f027b0343d6fdb22f8a4c4e5bb33949660d9cc4a3b15940da41203e3db"), looks := true }, kinds := [], alts := [], laidByText := true, laidKinds := [.data, .data, .data, .data, .sentinel, .sentinel, .data, .pinned], laidTests := true, laidLooks := .later }
def RecordSumsUptoCardSaid : Prop := Claim7.holds Tryz.pinned (.plain (OpenSpec.upto recordSumsSpec)) recordSumsUptoCard

/-- THE SECOND FORM's CARD OF 'martensitelaw10.RecordStates'. -/
def recordStatesUptoCard : Claim7 := { stood := { row := recordStatesUptoRow, standIns := [], harness := (true, "57c161f027b0343d6fdb22f8a4c4e5bb33949660d9cc4a3b15940da41203e3db"), looks := true }, kinds := [], alts := [], laidByText := true, laidKinds := [.data, .data, .data, .data, .sentinel, .sentinel, .data, .pinned], laidTests := true, laidLooks := .later }
def RecordStatesUptoCardSaid : Prop := Claim7.holds Tryz.pinned (.plain (OpenSpec.upto recordStatesSpec)) recordStatesUptoCard

/-- THE SECOND FORM's CARD OF 'martensitelaw10.RecordQuestions'. -/
def recordQuestionsUptoCard : Claim7 := { stood := { row := recordQuestionsUptoRow, standIns := [], harness := (true, "57c161f027b0343d6fdb22f8a4c4e5bb33949660d9cc4a3b15940da41203e3db"), looks := true }, kinds := [], alts := [], laidByText := true, laidKinds := [.data, .data, .data, .data, .sentinel, .sentinel, .data, .pinned], laidTests := true, laidLooks := .later }
def RecordQuestionsUptoCardSaid : Prop := Claim7.holds Tryz.pinned (.plain (OpenSpec.upto recordQuestionsSpec)) recordQuestionsUptoCard

/-- THE SECOND FORM's CARD OF 'martensitetop.TopRecordCounts'. -/
def topRecordCountsUptoCard : Claim7 := { stood := { row := topRecordCountsUptoRow, standIns := [], harness := (true, "57c161f027b0343d6fdb22f8a4c4e5bb33949660d9cc4a3b15940da41203e3db"), looks := true }, kinds := [], alts := [], laidByText := true, laidKinds := [.data, .data, .data, .data, .sentinel, .sentinel, .data, .pinned], laidTests := true, laidLooks := .later }
def TopRecordCountsUptoCardSaid : Prop := Claim7.holds Tryz.pinned (.plain (OpenSpec.upto topRecordCountsSpec)) topRecordCountsUptoCard
end Rows
end Go.Proofs.YtdhdgbnafkeifaaGreatDoor
