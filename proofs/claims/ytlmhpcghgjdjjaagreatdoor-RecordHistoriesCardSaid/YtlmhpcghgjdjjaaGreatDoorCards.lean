/-
  DERIVED. GIVEN WITH THE SEED: THE CARDS: each row of YtlmhpcghgjdjjaaGreatDoorRows.lean that lists a variable, with what it lists TIED to the program's text (the seventh form; the later family's looks); each row that meets fmt, with fmt's text TOLD by the authors' own Lean function (tested against real Go, not proved from fmt's source: count such statements apart). THE CARD IS WHAT COUNTS. Prove the row's statement (the work); the ties are given (YtlmhpcghgjdjjaaGreatDoorTie.lean); close each card by the builder's one call (the guide's Derived/Test/ToyasCard.lean, 'card_holds'). Laid BY PROGRAM, IN A SANDBOX (cutbox-door.mjs). By AI agents, Wed Nov 11 2026. No macro, syntax, notation, axiom, sorry.
-/
import Derived.Test.YtlmhpcghgjdjjaaGreatDoorRows
import GoSem.ClaimSeven
namespace Go.Proofs.YtlmhpcghgjdjjaaGreatDoor
namespace Rows

/-- THE TIED CARD OF 'martensitelaw10.RecordParts'. -/
def recordPartsCard : Claim7 := { stood := { row := recordPartsRow, standIns := [], harness := (true, "4ad1bbcb3c530d9207308623131e9eecf577eb894104c70bab65d7a734a47619"), looks := true }, kinds := [], alts := [], laidByText := true, laidKinds := [.data, .data, .data, .data, .sentinel, .sentinel, .data, .pinned], laidTests := true, laidLooks := .later }
def RecordPartsCardSaid : Prop := Claim7.holds Tryz.pinned (.plain (OpenSpec.ofChange recordPartsSpec)) recordPartsCard

/-- THE TIED CARD OF 'martensitelaw10.RecordHistories'. -/
def recordHistoriesCard : Claim7 := { stood := { row := recordHistoriesRow, standIns := [], harness := (true, "4ad1bbcb3c530d9207308623131e9eecf577eb894104c70bab65d7a734a47619"), looks := true }, kinds := [], alts := [], laidByText := true, laidKinds := [.data, .data, .data, .data, .sentinel, .sentinel, .data, .pinned], laidTests := true, laidLooks := .later }
def RecordHistoriesCardSaid : Prop := Claim7.holds Tryz.pinned (.plain (OpenSpec.ofChange recordHistoriesSpec)) recordHistoriesCard

/-- THE TIED CARD OF 'martensitelaw10.RecordMerges'. -/
def recordMergesCard : Claim7 := { stood := { row := recordMergesRow, standIns := [], harness := (true, "4ad1bbcb3c530d9207308623131e9eecf577eb894104c70bab65d7a734a47619"), looks := true }, kinds := [], alts := [], laidByText := true, laidKinds := [.data, .data, .data, .data, .sentinel, .sentinel, .data, .pinned], laidTests := true, laidLooks := .later }
def RecordMergesCardSaid : Prop := Claim7.holds Tryz.pinned (.plain (OpenSpec.ofChange recordMergesSpec)) recordMergesCard

/-- THE TIED CARD OF 'martensitelaw10.RecordGood'. -/
def recordGoodCard : Claim7 := { stood := { row := recordGoodRow, standIns := [], harness := (true, "4ad1bbcb3c530d9207308623131e9eecf577eb894104c70bab65d7a734a47619"), looks := true }, kinds := [], alts := [], laidByText := true, laidKinds := [.data, .data, .data, .data, .sentinel, .sentinel, .data, .pinned], laidTests := true, laidLooks := .later }
def RecordGoodCardSaid : Prop := Claim7.holds Tryz.pinned (.plain (OpenSpec.ofChange recordGoodSpec)) recordGoodCard

/-- THE TIED CARD OF 'martensitelaw10.RecordBack'. -/
def recordBackCard : Claim7 := { stood := { row := recordBackRow, standIns := [], harness := (true, "4ad1bbcb3c530d9207308623131e9eecf577eb894104c70bab65d7a734a47619"), looks := true }, kinds := [], alts := [], laidByText := true, laidKinds := [.data, .data, .data, .data, .sentinel, .sentinel, .data, .pinned], laidTests := true, laidLooks := .later }
def RecordBackCardSaid : Prop := Claim7.holds Tryz.pinned (.plain (OpenSpec.ofChange recordBackSpec)) recordBackCard

/-- THE TIED CARD OF 'martensitelaw10.RecordDesks'. -/
def recordDesksCard : Claim7 := { stood := { row := recordDesksRow, standIns := [], harness := (true, "4ad1bbcb3c530d9207308623131e9eecf577eb894104c70bab65d7a734a47619"), looks := true }, kinds := [], alts := [], laidByText := true, laidKinds := [.data, .data, .data, .data, .sentinel, .sentinel, .data, .pinned], laidTests := true, laidLooks := .later }
def RecordDesksCardSaid : Prop := Claim7.holds Tryz.pinned (.plain (OpenSpec.ofChange recordDesksSpec)) recordDesksCard

/-- THE TIED CARD OF 'martensitelaw10.RecordBeginnings'. -/
def recordBeginningsCard : Claim7 := { stood := { row := recordBeginningsRow, standIns := [], harness := (true, "4ad1bbcb3c530d9207308623131e9eecf577eb894104c70bab65d7a734a47619"), looks := true }, kinds := [], alts := [], laidByText := true, laidKinds := [.data, .data, .data, .data, .sentinel, .sentinel, .data, .pinned], laidTests := true, laidLooks := .later }
def RecordBeginningsCardSaid : Prop := Claim7.holds Tryz.pinned (.plain (OpenSpec.ofChange recordBeginningsSpec)) recordBeginningsCard

/-- THE SECOND FORM's CARD OF 'martensitelaw10.RecordParts'. -/
def recordPartsUptoCard : Claim7 := { stood := { row := recordPartsUptoRow, standIns := [], harness := (true, "4ad1bbcb3c530d9207308623131e9eecf577eb894104c70bab65d7a734a47619"), looks := true }, kinds := [], alts := [], laidByText := true, laidKinds := [.data, .data, .data, .data, .sentinel, .sentinel, .data, .pinned], laidTests := true, laidLooks := .later }
def RecordPartsUptoCardSaid : Prop := Claim7.holds Tryz.pinned (.plain (OpenSpec.upto recordPartsSpec)) recordPartsUptoCard

/-- THE SECOND FORM's CARD OF 'martensitelaw10.RecordHistories'. -/
def recordHistoriesUptoCard : Claim7 := { stood := { row := recordHistoriesUptoRow, standIns := [], harness := (true, "4ad1bbcb3c530d9207308623131e9eecf577eb894104c70bab65d7a734a47619"), looks := true }, kinds := [], alts := [], laidByText := true, laidKinds := [.data, .data, .data, .data, .sentinel, .sentinel, .data, .pinned], laidTests := true, laidLooks := .later }
def RecordHistoriesUptoCardSaid : Prop := Claim7.holds Tryz.pinned (.plain (OpenSpec.upto recordHistoriesSpec)) recordHistoriesUptoCard

/-- THE SECOND FORM's CARD OF 'martensitelaw10.RecordMerges'. -/
def recordMergesUptoCard : Claim7 := { stood := { row := recordMergesUptoRow, standIns := [], harness := (true, "4ad1bbcb3c530d9207308623131e9eecf577eb894104c70bab65d7a734a47619"), looks := true }, kinds := [], alts := [], laidByText := true, laidKinds := [.data, .data, .data, .data, .sentinel, .sentinel, .data, .pinned], laidTests := true, laidLooks := .later }
def RecordMergesUptoCardSaid : Prop := Claim7.holds Tryz.pinned (.plain (OpenSpec.upto recordMergesSpec)) recordMergesUptoCard

/-- THE SECOND FORM's CARD OF 'martensitelaw10.RecordGood'. -/
def recordGoodUptoCard : Claim7 := { stood := { row := recordGoodUptoRow, standIns := [], harness := (true, "4ad1bbcb3c530d9207308623131e9eecf577eb894104c70bab65d7a734a47619"), looks := true }, kinds := [], alts := [], laidByText := true, laidKinds := [.data, .data, .data, .data, .sentinel, .sentinel, .data, .pinned], laidTests := true, laidLooks := .later }
def RecordGoodUptoCardSaid : Prop := Claim7.holds Tryz.pinned (.plain (OpenSpec.upto recordGoodSpec)) recordGoodUptoCard

/-- THE SECOND FORM's CARD OF 'martensitelaw10.RecordBack'. -/
def recordBackUptoCard : Claim7 := { stood := { row := recordBackUptoRow, standIns := [], harness := (true, "4ad1bbcb3c530d9207308623131e9eecf577eb894104c70bab65d7a734a47619"), looks := true }, kinds := [], alts := [], laidByText := true, laidKinds := [.data, .data, .data, .data, .sentinel, .sentinel, .data, .pinned], laidTests := true, laidLooks := .later }
def RecordBackUptoCardSaid : Prop := Claim7.holds Tryz.pinned (.plain (OpenSpec.upto recordBackSpec)) recordBackUptoCard

/-- THE SECOND FORM's CARD OF 'martensitelaw10.RecordDesks'. -/
def recordDesksUptoCard : Claim7 := { stood := { row := recordDesksUptoRow, standIns := [], harness := (true, "4ad1bbcb3c530d9207308623131e9eecf577eb894104c70bab65d7a734a47619"), looks := true }, kinds := [], alts := [], laidByText := true, laidKinds := [.data, .data, .data, .data, .sentinel, .sentinel, .data, .pinned], laidTests := true, laidLooks := .later }
def RecordDesksUptoCardSaid : Prop := Claim7.holds Tryz.pinned (.plain (OpenSpec.upto recordDesksSpec)) recordDesksUptoCard

/-- THE SECOND FORM's CARD OF 'martensitelaw10.RecordBeginnings'. -/
def recordBeginningsUptoCard : Claim7 := { stood := { row := recordBeginningsUptoRow, standIns := [], harness := (true, "4ad1bbcb3c530d9207308623131e9eecf577eb894104c70bab65d7a734a47619"), looks := true }, kinds := [], alts := [], laidByText := true, laidKinds := [.data, .data, .data, .data, .sentinel, .sentinel, .data, .pinned], laidTests := true, laidLooks := .later }
def RecordBeginningsUptoCardSaid : Prop := Claim7.holds Tryz.pinned (.plain (OpenSpec.upto recordBeginningsSpec)) recordBeginningsUptoCard
end Rows
end Go.Proofs.YtlmhpcghgjdjjaaGreatDoor
