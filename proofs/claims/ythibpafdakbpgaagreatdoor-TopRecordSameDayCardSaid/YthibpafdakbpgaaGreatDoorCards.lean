/-
  DERIVED. GIVEN WITH THE SEED: THE CARDS: each row of YthibpafdakbpgaaGreatDoorRows.lean that lists a variable, with what it lists TIED to the program's text (the seventh form; the later family's looks); each row that meets fmt, with fmt's text TOLD by the authors' own Lean function (tested against real Go, not proved from fmt's source: count such statements apart). THE CARD IS WHAT COUNTS. Prove the row's statement (the work); the ties are given (YthibpafdakbpgaaGreatDoorTie.lean); close each card by the builder's one call (the guide's Derived/Test/ToyasCard.lean, 'card_holds'). Laid BY PROGRAM, IN A SANDBOX (cutbox-door.mjs). By AI agents, Wed Nov 11 2026. No macro, syntax, notation, axiom, sorry.
-/
import Derived.Test.YthibpafdakbpgaaGreatDoorRows
import GoSem.ClaimSeven
namespace Go.Proofs.YthibpafdakbpgaaGreatDoor
namespace Rows

/-- THE TIED CARD OF 'martensitelaw10.RecordBack'. -/
def recordBackCard : Claim7 := { stood := { row := recordBackRow, standIns := [], harness := (true, "7ec43d1cb15b67824a344bec68c96b87f3ec1ab1015bfa1f55148753cd76a2d2"), looks := true }, kinds := [], alts := [], laidByText := true, laidKinds := [.data, .data, .data, .data, .sentinel, .sentinel, .data, .pinned], laidTests := true, laidLooks := .later }
def RecordBackCardSaid : Prop := Claim7.holds Tryz.pinned (.plain (OpenSpec.ofChange recordBackSpec)) recordBackCard

/-- THE TIED CARD OF 'martensitelaw10.RecordRecovered'. -/
def recordRecoveredCard : Claim7 := { stood := { row := recordRecoveredRow, standIns := [], harness := (true, "7ec43d1cb15b67824a344bec68c96b87f3ec1ab1015bfa1f55148753cd76a2d2"), looks := true }, kinds := [], alts := [], laidByText := true, laidKinds := [.data, .data, .data, .data, .sentinel, .sentinel, .data, .pinned], laidTests := true, laidLooks := .later }
def RecordRecoveredCardSaid : Prop := Claim7.holds Tryz.pinned (.plain (OpenSpec.ofChange recordRecoveredSpec)) recordRecoveredCard

/-- THE TIED CARD OF 'martensitelaw10.RecordCuts'. -/
def recordCutsCard : Claim7 := { stood := { row := recordCutsRow, standIns := [], harness := (true, "7ec43d1cb15b67824a344bec68c96b87f3ec1ab1015bfa1f55148753cd76a2d2"), looks := true }, kinds := [], alts := [], laidByText := true, laidKinds := [.data, .data, .data, .data, .sentinel, .sentinel, .data, .pinned], laidTests := true, laidLooks := .later }
def RecordCutsCardSaid : Prop := Claim7.holds Tryz.pinned (.plain (OpenSpec.ofChange recordCutsSpec)) recordCutsCard

/-- THE TIED CARD OF 'martensitetop.TopRecordLastWholeEntry'. -/
def topRecordLastWholeEntryCard : Claim7 := { stood := { row := topRecordLastWholeEntryRow, standIns := [], harness := (true, "7ec43d1cb15b67824a344bec68c96b87f3ec1ab1015bfa1f55148753cd76a2d2"), looks := true }, kinds := [], alts := [], laidByText := true, laidKinds := [.data, .data, .data, .data, .sentinel, .sentinel, .data, .pinned], laidTests := true, laidLooks := .later }
def TopRecordLastWholeEntryCardSaid : Prop := Claim7.holds Tryz.pinned (.plain (OpenSpec.ofChange topRecordLastWholeEntrySpec)) topRecordLastWholeEntryCard

/-- THE TIED CARD OF 'martensitetop.TopRecordSameDay'. -/
def topRecordSameDayCard : Claim7 := { stood := { row := topRecordSameDayRow, standIns := [], harness := (true, "7ec43d1cb15b67824a344bec68c96b87f3ec1ab1015bfa1f55148753cd76a2d2"), looks := true }, kinds := [], alts := [], laidByText := true, laidKinds := [.data, .data, .data, .data, .sentinel, .sentinel, .data, .pinned], laidTests := true, laidLooks := .later }
def TopRecordSameDayCardSaid : Prop := Claim7.holds Tryz.pinned (.plain (OpenSpec.ofChange topRecordSameDaySpec)) topRecordSameDayCard

/-- THE SECOND FORM's CARD OF 'martensitelaw10.RecordBack'. -/
def recordBackUptoCard : Claim7 := { stood := { row := recordBackUptoRow, standIns := [], harness := (true, "7ec43d1cb15b67824a344bec68c96b87f3ec1ab1015bfa1f55148753cd76a2d2"), looks := true }, kinds := [], alts := [], laidByText := true, laidKinds := [.data, .data, .data, .data, .sentinel, .sentinel, .data, .pinned], laidTests := true, laidLooks := .later }
def RecordBackUptoCardSaid : Prop := Claim7.holds Tryz.pinned (.plain (OpenSpec.upto recordBackSpec)) recordBackUptoCard

/-- THE SECOND FORM's CARD OF 'martensitelaw10.RecordRecovered'. -/
def recordRecoveredUptoCard : Claim7 := { stood := { row := recordRecoveredUptoRow, standIns := [], harness := (true, "7ec43d1cb15b67824a344bec68c96b87f3ec1ab1015bfa1f55148753cd76a2d2"), looks := true }, kinds := [], alts := [], laidByText := true, laidKinds := [.data, .data, .data, .data, .sentinel, .sentinel, .data, .pinned], laidTests := true, laidLooks := .later }
def RecordRecoveredUptoCardSaid : Prop := Claim7.holds Tryz.pinned (.plain (OpenSpec.upto recordRecoveredSpec)) recordRecoveredUptoCard

/-- THE SECOND FORM's CARD OF 'martensitelaw10.RecordCuts'. -/
def recordCutsUptoCard : Claim7 := { stood := { row := recordCutsUptoRow, standIns := [], harness := (true, "7ec43d1cb15b67824a344bec68c96b87f3ec1ab1015bfa1f55148753cd76a2d2"), looks := true }, kinds := [], alts := [], laidByText := true, laidKinds := [.data, .data, .data, .data, .sentinel, .sentinel, .data, .pinned], laidTests := true, laidLooks := .later }
def RecordCutsUptoCardSaid : Prop := Claim7.holds Tryz.pinned (.plain (OpenSpec.upto recordCutsSpec)) recordCutsUptoCard

/-- THE SECOND FORM's CARD OF 'martensitetop.TopRecordLastWholeEntry'. -/
def topRecordLastWholeEntryUptoCard : Claim7 := { stood := { row := topRecordLastWholeEntryUptoRow, standIns := [], harness := (true, "7ec43d1cb15b67824a344bec68c96b87f3ec1ab1015bfa1f55148753cd76a2d2"), looks := true }, kinds := [], alts := [], laidByText := true, laidKinds := [.data, .data, .data, .data, .sentinel, .sentinel, .data, .pinned], laidTests := true, laidLooks := .later }
def TopRecordLastWholeEntryUptoCardSaid : Prop := Claim7.holds Tryz.pinned (.plain (OpenSpec.upto topRecordLastWholeEntrySpec)) topRecordLastWholeEntryUptoCard

/-- THE SECOND FORM's CARD OF 'martensitetop.TopRecordSameDay'. -/
def topRecordSameDayUptoCard : Claim7 := { stood := { row := topRecordSameDayUptoRow, standIns := [], harness := (true, "7ec43d1cb15b67824a344bec68c96b87f3ec1ab1015bfa1f55148753cd76a2d2"), looks := true }, kinds := [], alts := [], laidByText := true, laidKinds := [.data, .data, .data, .data, .sentinel, .sentinel, .data, .pinned], laidTests := true, laidLooks := .later }
def TopRecordSameDayUptoCardSaid : Prop := Claim7.holds Tryz.pinned (.plain (OpenSpec.upto topRecordSameDaySpec)) topRecordSameDayUptoCard
end Rows
end Go.Proofs.YthibpafdakbpgaaGreatDoor
