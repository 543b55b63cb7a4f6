/-
  DERIVED. GIVEN WITH THE SEED: THE CARDS: each row of YtjamlnkjfkcdkaaGreatDoorRows.lean that lists a variable, with what it lists TIED to the program's text (the seventh form; the later family's looks); each row that meets fmt, with fmt's text TOLD by the authors' own Lean function (tested against real Go, not proved from fmt's source: count such statements apart). THE CARD IS WHAT COUNTS. Prove the row's statement (the work); the ties are given (YtjamlnkjfkcdkaaGreatDoorTie.lean); close each card by the builder's one call (the guide's Derived/Test/ToyasCard.lean, 'card_holds'). Laid BY PROGRAM, IN A SANDBOX (cutbox-door.mjs). By AI agents, Wed Nov 11 2026. No macro, syntax, notation, axiom, sorry.
-/
import Derived.Test.YtjamlnkjfkcdkaaGreatDoorRows
import GoSem.ClaimSeven
namespace Go.Proofs.YtjamlnkjfkcdkaaGreatDoor
namespace Rows

/-- THE TIED CARD OF 'martensitelaw09.ShopBest'. -/
def shopBestCard : Claim7 := { stood := { row := shopBestRow, standIns := [], harness := (true, "77b97fc9c1acc25d9a93c5c8cacc82042a7f9476568e89ea7999ae36749ec597"), looks := false }, kinds := [], alts := [], laidByText := true, laidKinds := [.data, .data, .data], laidTests := true, laidLooks := .later }
def ShopBestCardSaid : Prop := Claim7.holds Tryz.pinned (.plain (OpenSpec.ofChange shopBestSpec)) shopBestCard

/-- THE TIED CARD OF 'martensitelaw09.ShopBelowPeak'. -/
def shopBelowPeakCard : Claim7 := { stood := { row := shopBelowPeakRow, standIns := [], harness := (true, "77b97fc9c1acc25d9a93c5c8cacc82042a7f9476568e89ea7999ae36749ec597"), looks := false }, kinds := [], alts := [], laidByText := true, laidKinds := [.data, .data, .data], laidTests := true, laidLooks := .later }
def ShopBelowPeakCardSaid : Prop := Claim7.holds Tryz.pinned (.plain (OpenSpec.ofChange shopBelowPeakSpec)) shopBelowPeakCard

/-- THE TIED CARD OF 'martensitelaw09.ShopCapability'. -/
def shopCapabilityCard : Claim7 := { stood := { row := shopCapabilityRow, standIns := [], harness := (true, "77b97fc9c1acc25d9a93c5c8cacc82042a7f9476568e89ea7999ae36749ec597"), looks := false }, kinds := [], alts := [], laidByText := true, laidKinds := [.data, .data, .data], laidTests := true, laidLooks := .later }
def ShopCapabilityCardSaid : Prop := Claim7.holds Tryz.pinned (.plain (OpenSpec.ofChange shopCapabilitySpec)) shopCapabilityCard

/-- THE TIED CARD OF 'martensitelaw09.ShopRuns'. -/
def shopRunsCard : Claim7 := { stood := { row := shopRunsRow, standIns := [], harness := (true, "77b97fc9c1acc25d9a93c5c8cacc82042a7f9476568e89ea7999ae36749ec597"), looks := false }, kinds := [], alts := [], laidByText := true, laidKinds := [.data, .data, .data], laidTests := true, laidLooks := .later }
def ShopRunsCardSaid : Prop := Claim7.holds Tryz.pinned (.plain (OpenSpec.ofChange shopRunsSpec)) shopRunsCard

/-- THE TIED CARD OF 'martensitelaw09.ShopBaths'. -/
def shopBathsCard : Claim7 := { stood := { row := shopBathsRow, standIns := [], harness := (true, "77b97fc9c1acc25d9a93c5c8cacc82042a7f9476568e89ea7999ae36749ec597"), looks := false }, kinds := [], alts := [], laidByText := true, laidKinds := [.data, .data, .data], laidTests := true, laidLooks := .later }
def ShopBathsCardSaid : Prop := Claim7.holds Tryz.pinned (.plain (OpenSpec.ofChange shopBathsSpec)) shopBathsCard

/-- THE TIED CARD OF 'martensitelaw09.ShopChecked'. -/
def shopCheckedCard : Claim7 := { stood := { row := shopCheckedRow, standIns := [], harness := (true, "77b97fc9c1acc25d9a93c5c8cacc82042a7f9476568e89ea7999ae36749ec597"), looks := false }, kinds := [], alts := [], laidByText := true, laidKinds := [.data, .data, .data], laidTests := true, laidLooks := .later }
def ShopCheckedCardSaid : Prop := Claim7.holds Tryz.pinned (.plain (OpenSpec.ofChange shopCheckedSpec)) shopCheckedCard

/-- THE TIED CARD OF 'martensitelaw09.ShopBounds'. -/
def shopBoundsCard : Claim7 := { stood := { row := shopBoundsRow, standIns := [], harness := (true, "77b97fc9c1acc25d9a93c5c8cacc82042a7f9476568e89ea7999ae36749ec597"), looks := false }, kinds := [], alts := [], laidByText := true, laidKinds := [.data, .data, .data], laidTests := true, laidLooks := .later }
def ShopBoundsCardSaid : Prop := Claim7.holds Tryz.pinned (.plain (OpenSpec.ofChange shopBoundsSpec)) shopBoundsCard

/-- THE TIED CARD OF 'martensitelaw09.ShopBaskets'. -/
def shopBasketsCard : Claim7 := { stood := { row := shopBasketsRow, standIns := [], harness := (true, "77b97fc9c1acc25d9a93c5c8cacc82042a7f9476568e89ea7999ae36749ec597"), looks := false }, kinds := [], alts := [], laidByText := true, laidKinds := [.data, .data, .data], laidTests := true, laidLooks := .later }
def ShopBasketsCardSaid : Prop := Claim7.holds Tryz.pinned (.plain (OpenSpec.ofChange shopBasketsSpec)) shopBasketsCard

/-- THE TIED CARD OF 'martensitelaw09.ShopNeverMixed'. -/
def shopNeverMixedCard : Claim7 := { stood := { row := shopNeverMixedRow, standIns := [], harness := (true, "77b97fc9c1acc25d9a93c5c8cacc82042a7f9476568e89ea7999ae36749ec597"), looks := false }, kinds := [], alts := [], laidByText := true, laidKinds := [.data, .data, .data], laidTests := true, laidLooks := .later }
def ShopNeverMixedCardSaid : Prop := Claim7.holds Tryz.pinned (.plain (OpenSpec.ofChange shopNeverMixedSpec)) shopNeverMixedCard

/-- THE TIED CARD OF 'martensitelaw09.ShopOrders'. -/
def shopOrdersCard : Claim7 := { stood := { row := shopOrdersRow, standIns := [], harness := (true, "77b97fc9c1acc25d9a93c5c8cacc82042a7f9476568e89ea7999ae36749ec597"), looks := false }, kinds := [], alts := [], laidByText := true, laidKinds := [.data, .data, .data], laidTests := true, laidLooks := .later }
def ShopOrdersCardSaid : Prop := Claim7.holds Tryz.pinned (.plain (OpenSpec.ofChange shopOrdersSpec)) shopOrdersCard

/-- THE TIED CARD OF 'martensitelaw09.ShopSignals'. -/
def shopSignalsCard : Claim7 := { stood := { row := shopSignalsRow, standIns := [], harness := (true, "77b97fc9c1acc25d9a93c5c8cacc82042a7f9476568e89ea7999ae36749ec597"), looks := false }, kinds := [], alts := [], laidByText := true, laidKinds := [.data, .data, .data], laidTests := true, laidLooks := .later }
def ShopSignalsCardSaid : Prop := Claim7.holds Tryz.pinned (.plain (OpenSpec.ofChange shopSignalsSpec)) shopSignalsCard

/-- THE TIED CARD OF 'martensitelaw09.ShopSameChart'. -/
def shopSameChartCard : Claim7 := { stood := { row := shopSameChartRow, standIns := [], harness := (true, "77b97fc9c1acc25d9a93c5c8cacc82042a7f9476568e89ea7999ae36749ec597"), looks := false }, kinds := [], alts := [], laidByText := true, laidKinds := [.data, .data, .data], laidTests := true, laidLooks := .later }
def ShopSameChartCardSaid : Prop := Claim7.holds Tryz.pinned (.plain (OpenSpec.ofChange shopSameChartSpec)) shopSameChartCard

/-- THE SECOND FORM's CARD OF 'martensitelaw09.ShopBest'. -/
def shopBestUptoCard : Claim7 := { stood := { row := shopBestUptoRow, standIns := [], harness := (true, "77b97fc9c1acc25d9a93c5c8cacc82042a7f9476568e89ea7999ae36749ec597"), looks := false }, kinds := [], alts := [], laidByText := true, laidKinds := [.data, .data, .data], laidTests := true, laidLooks := .later }
def ShopBestUptoCardSaid : Prop := Claim7.holds Tryz.pinned (.plain (OpenSpec.upto shopBestSpec)) shopBestUptoCard

/-- THE SECOND FORM's CARD OF 'martensitelaw09.ShopBelowPeak'. -/
def shopBelowPeakUptoCard : Claim7 := { stood := { row := shopBelowPeakUptoRow, standIns := [], harness := (true, "77b97fc9c1acc25d9a93c5c8cacc82042a7f9476568e89ea7999ae36749ec597"), looks := false }, kinds := [], alts := [], laidByText := true, laidKinds := [.data, .data, .data], laidTests := true, laidLooks := .later }
def ShopBelowPeakUptoCardSaid : Prop := Claim7.holds Tryz.pinned (.plain (OpenSpec.upto shopBelowPeakSpec)) shopBelowPeakUptoCard

/-- THE SECOND FORM's CARD OF 'martensitelaw09.ShopCapability'. -/
def shopCapabilityUptoCard : Claim7 := { stood := { row := shopCapabilityUptoRow, standIns := [], harness := (true, "77b97fc9c1acc25d9a93c5c8cacc82042a7f9476568e89ea7999ae36749ec597"), looks := false }, kinds := [], alts := [], laidByText := true, laidKinds := [.data, .data, .data], laidTests := true, laidLooks := .later }
def ShopCapabilityUptoCardSaid : Prop := Claim7.holds Tryz.pinned (.plain (OpenSpec.upto shopCapabilitySpec)) shopCapabilityUptoCard

/-- THE SECOND FORM's CARD OF 'martensitelaw09.ShopRuns'. -/
def shopRunsUptoCard : Claim7 := { stood := { row := shopRunsUptoRow, standIns := [], harness := (true, "77b97fc9c1acc25d9a93c5c8cacc82042a7f9476568e89ea7999ae36749ec597"), looks := false }, kinds := [], alts := [], laidByText := true, laidKinds := [.data, .data, .data], laidTests := true, laidLooks := .later }
def ShopRunsUptoCardSaid : Prop := Claim7.holds Tryz.pinned (.plain (OpenSpec.upto shopRunsSpec)) shopRunsUptoCard

/-- THE SECOND FORM's CARD OF 'martensitelaw09.ShopBaths'. -/
def shopBathsUptoCard : Claim7 := { stood := { row := shopBathsUptoRow, standIns := [], harness := (true, "77b97fc9c1acc25d9a93c5c8cacc82042a7f9476568e89ea7999ae36749ec597"), looks := false }, kinds := [], alts := [], laidByText := true, laidKinds := [.data, .data, .data], laidTests := true, laidLooks := .later }
def ShopBathsUptoCardSaid : Prop := Claim7.holds Tryz.pinned (.plain (OpenSpec.upto shopBathsSpec)) shopBathsUptoCard

/-- THE SECOND FORM's CARD OF 'martensitelaw09.ShopChecked'. -/
def shopCheckedUptoCard : Claim7 := { stood := { row := shopCheckedUptoRow, standIns := [], harness := (true, "77b97fc9c1acc25d9a93c5c8cacc82042a7f9476568e89ea7999ae36749ec597"), looks := false }, kinds := [], alts := [], laidByText := true, laidKinds := [.data, .data, .data], laidTests := true, laidLooks := .later }
def ShopCheckedUptoCardSaid : Prop := Claim7.holds Tryz.pinned (.plain (OpenSpec.upto shopCheckedSpec)) shopCheckedUptoCard

/-- THE SECOND FORM's CARD OF 'martensitelaw09.ShopBounds'. -/
def shopBoundsUptoCard : Claim7 := { stood := { row := shopBoundsUptoRow, standIns := [], harness := (true, "77b97fc9c1acc25d9a93c5c8cacc82042a7f9476568e89ea7999ae36749ec597"), looks := false }, kinds := [], alts := [], laidByText := true, laidKinds := [.data, .data, .data], laidTests := true, laidLooks := .later }
def ShopBoundsUptoCardSaid : Prop := Claim7.holds Tryz.pinned (.plain (OpenSpec.upto shopBoundsSpec)) shopBoundsUptoCard

/-- THE SECOND FORM's CARD OF 'martensitelaw09.ShopBaskets'. -/
def shopBasketsUptoCard : Claim7 := { stood := { row := shopBasketsUptoRow, standIns := [], harness := (true, "77b97fc9c1acc25d9a93c5c8cacc82042a7f9476568e89ea7999ae36749ec597"), looks := false }, kinds := [], alts := [], laidByText := true, laidKinds := [.data, .data, .data], laidTests := true, laidLooks := .later }
def ShopBasketsUptoCardSaid : Prop := Claim7.holds Tryz.pinned (.plain (OpenSpec.upto shopBasketsSpec)) shopBasketsUptoCard

/-- THE SECOND FORM's CARD OF 'martensitelaw09.ShopNeverMixed'. -/
def shopNeverMixedUptoCard : Claim7 := { stood := { row := shopNeverMixedUptoRow, standIns := [], harness := (true, "77b97fc9c1acc25d9a93c5c8cacc82042a7f9476568e89ea7999ae36749ec597"), looks := false }, kinds := [], alts := [], laidByText := true, laidKinds := [.data, .data, .data], laidTests := true, laidLooks := .later }
def ShopNeverMixedUptoCardSaid : Prop := Claim7.holds Tryz.pinned (.plain (OpenSpec.upto shopNeverMixedSpec)) shopNeverMixedUptoCard

/-- THE SECOND FORM's CARD OF 'martensitelaw09.ShopOrders'. -/
def shopOrdersUptoCard : Claim7 := { stood := { row := shopOrdersUptoRow, standIns := [], harness := (true, "77b97fc9c1acc25d9a93c5c8cacc82042a7f9476568e89ea7999ae36749ec597"), looks := false }, kinds := [], alts := [], laidByText := true, laidKinds := [.data, .data, .data], laidTests := true, laidLooks := .later }
def ShopOrdersUptoCardSaid : Prop := Claim7.holds Tryz.pinned (.plain (OpenSpec.upto shopOrdersSpec)) shopOrdersUptoCard

/-- THE SECOND FORM's CARD OF 'martensitelaw09.ShopSignals'. -/
def shopSignalsUptoCard : Claim7 := { stood := { row := shopSignalsUptoRow, standIns := [], harness := (true, "77b97fc9c1acc25d9a93c5c8cacc82042a7f9476568e89ea7999ae36749ec597"), looks := false }, kinds := [], alts := [], laidByText := true, laidKinds := [.data, .data, .data], laidTests := true, laidLooks := .later }
def ShopSignalsUptoCardSaid : Prop := Claim7.holds Tryz.pinned (.plain (OpenSpec.upto shopSignalsSpec)) shopSignalsUptoCard

/-- THE SECOND FORM's CARD OF 'martensitelaw09.ShopSameChart'. -/
def shopSameChartUptoCard : Claim7 := { stood := { row := shopSameChartUptoRow, standIns := [], harness := (true, "77b97fc9c1acc25d9a93c5c8cacc82042a7f9476568e89ea7999ae36749ec597"), looks := false }, kinds := [], alts := [], laidByText := true, laidKinds := [.data, .data, .data], laidTests := true, laidLooks := .later }
def ShopSameChartUptoCardSaid : Prop := Claim7.holds Tryz.pinned (.plain (OpenSpec.upto shopSameChartSpec)) shopSameChartUptoCard
end Rows
end Go.Proofs.YtjamlnkjfkcdkaaGreatDoor
