/-
  DERIVED. GIVEN WITH THE SEED: THE CARDS: each row of YtpbalelbenmmbaaGreatDoorRows.lean that lists a variable, with what it lists TIED to the program's text (the seventh form; the later family's looks); each row that meets fmt, with fmt's text TOLD by the authors' own Lean function (tested against real Go, not proved from fmt's source: count such statements apart). THE CARD IS WHAT COUNTS. Prove the row's statement (the work); the ties are given (YtpbalelbenmmbaaGreatDoorTie.lean); close each card by the builder's one call (the guide's Derived/Test/ToyasCard.lean, 'card_holds'). Laid BY PROGRAM, IN A SANDBOX (cutbox-door.mjs). By AI agents, Wed Nov 11 2026. No macro, syntax, notation, axiom, sorry.
-/
import Derived.Test.YtpbalelbenmmbaaGreatDoorRows
import GoSem.ClaimSeven
namespace Go.Proofs.YtpbalelbenmmbaaGreatDoor
namespace Rows

/-- THE TIED CARD OF 'martensitelaw10.RecordNets'. -/
def recordNetsCard : Claim7 := { stood := { row := recordNetsRow, standIns := [], harness := (true, "525319bd9db69a3656c68db021004ba88a8b911125d0e1e66ed405f0105655c0"), looks := true }, kinds := [], alts := [], laidByText := true, laidKinds := [.data, .data, .data, .data, .sentinel, .sentinel, .data, .pinned], laidTests := true, laidLooks := .later }
def RecordNetsCardSaid : Prop := Claim7.holds Tryz.pinned (.plain (OpenSpec.ofChange recordNetsSpec)) recordNetsCard

/-- THE TIED CARD OF 'martensitelaw10.RecordLogs'. -/
def recordLogsCard : Claim7 := { stood := { row := recordLogsRow, standIns := [], harness := (true, "525319bd9db69a3656c68db021004ba88a8b911125d0e1e66ed405f0105655c0"), looks := true }, kinds := [], alts := [], laidByText := true, laidKinds := [.data, .data, .data, .data, .sentinel, .sentinel, .data, .pinned], laidTests := true, laidLooks := .later }
def RecordLogsCardSaid : Prop := Claim7.holds Tryz.pinned (.plain (OpenSpec.ofChange recordLogsSpec)) recordLogsCard

/-- THE TIED CARD OF 'martensitelaw10.RecordParts'. -/
def recordPartsCard : Claim7 := { stood := { row := recordPartsRow, standIns := [], harness := (true, "525319bd9db69a3656c68db021004ba88a8b911125d0e1e66ed405f0105655c0"), looks := true }, kinds := [], alts := [], laidByText := true, laidKinds := [.data, .data, .data, .data, .sentinel, .sentinel, .data, .pinned], laidTests := true, laidLooks := .later }
def RecordPartsCardSaid : Prop := Claim7.holds Tryz.pinned (.plain (OpenSpec.ofChange recordPartsSpec)) recordPartsCard

/-- THE TIED CARD OF 'martensitelaw10.RecordSums'. -/
def recordSumsCard : Claim7 := { stood := { row := recordSumsRow, standIns := [], harness := (true, "525319bd9db69a3656c68db021004ba88a8b911125d0e1e66ed405f0105655c0"), looks := true }, kinds := [], alts := [], laidByText := true, laidKinds := [.data, .data, .data, .data, .sentinel, .sentinel, .data, .pinned], laidTests := true, laidLooks := .later }
def RecordSumsCardSaid : Prop := Claim7.holds Tryz.pinned (.plain (OpenSpec.ofChange recordSumsSpec)) recordSumsCard

/-- THE SECOND FORM's CARD OF 'martensitelaw10.RecordNets'. -/
def recordNetsUptoCard : Claim7 := { stood := { row := recordNetsUptoRow, standIns := [], harness := (true, "525319bd9db69a3656c68db021004ba88a8b911125d0e1e66ed405f0105655c0"), looks := true }, kinds := [], alts := [], laidByText := true, laidKinds := [.data, .data, .data, .data, .sentinel, .sentinel, .data, .pinned], laidTests := true, laidLooks := .later }
def RecordNetsUptoCardSaid : Prop := Claim7.holds Tryz.pinned (.plain (OpenSpec.upto recordNetsSpec)) recordNetsUptoCard

/-- THE SECOND FORM's CARD OF 'martensitelaw10.RecordLogs'. -/
def recordLogsUptoCard : Claim7 := { stood := { row := recordLogsUptoRow, standIns := [], harness := (true, "525319bd9db69a3656c68db021004ba88a8b911125d0e1e66ed405f0105655c0"), looks := true }, kinds := [], alts := [], laidByText := true, laidKinds := [.data, .data, .data, .data, .sentinel, .sentinel, .data, .pinned], laidTests := true, laidLooks := .later }
def RecordLogsUptoCardSaid : Prop := Claim7.holds Tryz.pinned (.plain (OpenSpec.upto recordLogsSpec)) recordLogsUptoCard

/-- THE SECOND FORM's CARD OF 'martensitelaw10.RecordParts'. -/
def recordPartsUptoCard : Claim7 := { stood := { row := recordPartsUptoRow, standIns := [], harness := (true, "525319bd9db69a3656c68db021004ba88a8b911125d0e1e66ed405f0105655c0"), looks := true }, kinds := [], alts := [], laidByText := true, laidKinds := [.data, .data, .data, .data, .sentinel, .sentinel, .data, .pinned], laidTests := true, laidLooks := .later }
def RecordPartsUptoCardSaid : Prop := Claim7.holds Tryz.pinned (.plain (OpenSpec.upto recordPartsSpec)) recordPartsUptoCard

/-- THE SECOND FORM's CARD OF 'martensitelaw10.RecordSums'. -/
def recordSumsUptoCard : Claim7 := { stood := { row := recordSumsUptoRow, standIns := [], harness := (true, "525319bd9db69a3656c68db021004ba88a8b911125d0e1e66ed405f0105655c0"), looks := true }, kinds := [], alts := [], laidByText := true, laidKinds := [.data, .data, .data, .data, .sentinel, .sentinel, .data, .pinned], laidTests := true, laidLooks := .later }
def RecordSumsUptoCardSaid : Prop := Claim7.holds Tryz.pinned (.plain (OpenSpec.upto recordSumsSpec)) recordSumsUptoCard
end Rows
end Go.Proofs.YtpbalelbenmmbaaGreatDoor
