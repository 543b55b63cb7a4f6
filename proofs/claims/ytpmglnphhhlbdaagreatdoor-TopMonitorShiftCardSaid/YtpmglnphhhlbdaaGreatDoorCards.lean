/-
  DERIVED. GIVEN WITH THE SEED: THE CARDS: each row of YtpmglnphhhlbdaaGreatDoorRows.lean that lists a variable, with what it lists TIED to the program's text (the seventh form; the later family's looks); each row that meets fmt, with fmt's text TOLD by the authors' own Lean function (tested against real Go, not proved from fmt's source: count such statements apart). THE CARD IS WHAT COUNTS. Prove the row's statement (the work); the ties are given (YtpmglnphhhlbdaaGreatDoorTie.lean); close each card by the builder's one call (the guide's Derived/Test/ToyasCard.lean, 'card_holds'). Laid BY PROGRAM, IN A SANDBOX (cutbox-door.mjs). By AI agents, Wed Nov 11 2026. No macro, syntax, notation, axiom, sorry.
-/
import Derived.Test.YtpmglnphhhlbdaaGreatDoorRows
import GoSem.ClaimSeven
namespace Go.Proofs.YtpmglnphhhlbdaaGreatDoor
namespace Rows

/-- THE TIED CARD OF 'martensitelaw07.MonitorStrings'. -/
def monitorStringsCard : Claim7 := { stood := { row := monitorStringsRow, standIns := [], harness := (true, "c7a92766f4b4ca7388f3d2e793ca2c505510bb0859ed8d4bc0635371e831d4e5"), looks := true }, kinds := [], alts := [], laidByText := true, laidKinds := [.data, .data, .data, .data, .sentinel, .sentinel, .pinned], laidTests := true, laidLooks := .later }
def MonitorStringsCardSaid : Prop := Claim7.holds Tryz.pinned (.plain (OpenSpec.ofChange monitorStringsSpec)) monitorStringsCard

/-- THE TIED CARD OF 'martensitetop.TopMonitorShift'. -/
def topMonitorShiftCard : Claim7 := { stood := { row := topMonitorShiftRow, standIns := [], harness := (true, "c7a92766f4b4ca7388f3d2e793ca2c505510bb0859ed8d4bc0635371e831d4e5"), looks := true }, kinds := [], alts := [], laidByText := true, laidKinds := [.data, .data, .data, .data, .sentinel, .sentinel, .pinned], laidTests := true, laidLooks := .later }
def TopMonitorShiftCardSaid : Prop := Claim7.holds Tryz.pinned (.plain (OpenSpec.ofChange topMonitorShiftSpec)) topMonitorShiftCard

/-- THE SECOND FORM's CARD OF 'martensitelaw07.MonitorStrings'. -/
def monitorStringsUptoCard : Claim7 := { stood := { row := monitorStringsUptoRow, standIns := [], harness := (true, "c7a92766f4b4ca7388f3d2e793ca2c505510bb0859ed8d4bc0635371e831d4e5"), looks := true }, kinds := [], alts := [], laidByText := true, laidKinds := [.data, .data, .data, .data, .sentinel, .sentinel, .pinned], laidTests := true, laidLooks := .later }
def MonitorStringsUptoCardSaid : Prop := Claim7.holds Tryz.pinned (.plain (OpenSpec.upto monitorStringsSpec)) monitorStringsUptoCard

/-- THE SECOND FORM's CARD OF 'martensitetop.TopMonitorShift'. -/
def topMonitorShiftUptoCard : Claim7 := { stood := { row := topMonitorShiftUptoRow, standIns := [], harness := (true, "c7a92766f4b4ca7388f3d2e793ca2c505510bb0859ed8d4bc0635371e831d4e5"), looks := true }, kinds := [], alts := [], laidByText := true, laidKinds := [.data, .data, .data, .data, .sentinel, .sentinel, .pinned], laidTests := true, laidLooks := .later }
def TopMonitorShiftUptoCardSaid : Prop := Claim7.holds Tryz.pinned (.plain (OpenSpec.upto topMonitorShiftSpec)) topMonitorShiftUptoCard
end Rows
end Go.Proofs.YtpmglnphhhlbdaaGreatDoor
