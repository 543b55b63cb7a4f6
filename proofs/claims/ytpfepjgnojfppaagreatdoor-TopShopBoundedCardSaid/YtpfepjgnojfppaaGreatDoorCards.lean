/-
  DERIVED. GIVEN WITH THE SEED: THE CARDS: each row of YtpfepjgnojfppaaGreatDoorRows.lean that lists a variable, with what it lists TIED to the program's text (the seventh form; the later family's looks); each row that meets fmt, with fmt's text TOLD by the authors' own Lean function (tested against real Go, not proved from fmt's source: count such statements apart). THE CARD IS WHAT COUNTS. Prove the row's statement (the work); the ties are given (YtpfepjgnojfppaaGreatDoorTie.lean); close each card by the builder's one call (the guide's Derived/Test/ToyasCard.lean, 'card_holds'). Laid BY PROGRAM, IN A SANDBOX (cutbox-door.mjs). By AI agents, Wed Nov 11 2026. No macro, syntax, notation, axiom, sorry.
-/
import Derived.Test.YtpfepjgnojfppaaGreatDoorRows
import GoSem.ClaimSeven
namespace Go.Proofs.YtpfepjgnojfppaaGreatDoor
namespace Rows

/-- THE TIED CARD OF 'martensitelaw09.ShopBest'. -/
def shopBestCard : Claim7 := { stood := { row := shopBestRow, standIns := [], harness := (true, "e1979a5a518b8bef3ca9500281bd7263a2f377c2649a17e4517476346483e993"), looks := true }, kinds := [], alts := [], laidByText := true, laidKinds := [.data, .data, .data], laidTests := true, laidLooks := .later }
def ShopBestCardSaid : Prop := Claim7.holds Tryz.pinned (.plain (OpenSpec.ofChange shopBestSpec)) shopBestCard

/-- THE TIED CARD OF 'martensitelaw09.ShopBounds'. -/
def shopBoundsCard : Claim7 := { stood := { row := shopBoundsRow, standIns := [], harness := (true, "e1979a5a518b8bef3ca9500281bd7263a2f377c2649a17e4517476346483e993"), looks := true }, kinds := [], alts := [], laidByText := true, laidKinds := [.data, .data, .data], laidTests := true, laidLooks := .later }
def ShopBoundsCardSaid : Prop := Claim7.holds Tryz.pinned (.plain (OpenSpec.ofChange shopBoundsSpec)) shopBoundsCard

/-- THE TIED CARD OF 'martensitelaw09.ShopBaskets'. -/
def shopBasketsCard : Claim7 := { stood := { row := shopBasketsRow, standIns := [], harness := (true, "e1979a5a518b8bef3ca9500281bd7263a2f377c2649a17e4517476346483e993"), looks := true }, kinds := [], alts := [], laidByText := true, laidKinds := [.data, .data, .data], laidTests := true, laidLooks := .later }
def ShopBasketsCardSaid : Prop := Claim7.holds Tryz.pinned (.plain (OpenSpec.ofChange shopBasketsSpec)) shopBasketsCard

/-- THE TIED CARD OF 'martensitelaw09.ShopNeverMixed'. -/
def shopNeverMixedCard : Claim7 := { stood := { row := shopNeverMixedRow, standIns := [], harness := (true, "e1979a5a518b8bef3ca9500281bd7263a2f377c2649a17e4517476346483e993"), looks := true }, kinds := [], alts := [], laidByText := true, laidKinds := [.data, .data, .data], laidTests := true, laidLooks := .later }
def ShopNeverMixedCardSaid : Prop := Claim7.holds Tryz.pinned (.plain (OpenSpec.ofChange shopNeverMixedSpec)) shopNeverMixedCard

/-- THE TIED CARD OF 'martensitelaw09.ShopOrders'. -/
def shopOrdersCard : Claim7 := { stood := { row := shopOrdersRow, standIns := [], harness := (true, "e1979a5a518b8bef3ca9500281bd7263a2f377c2649a17e4517476346483e993"), looks := true }, kinds := [], alts := [], laidByText := true, laidKinds := [.data, .data, .data], laidTests := true, laidLooks := .later }
def ShopOrdersCardSaid : Prop := Claim7.holds Tryz.pinned (.plain (OpenSpec.ofChange shopOrdersSpec)) shopOrdersCard

/-- THE TIED CARD OF 'martensitelaw09.ShopSameChart'. -/
def shopSameChartCard : Claim7 := { stood := { row := shopSameChartRow, standIns := [], harness := (true, "e1979a5a518b8bef3ca9500281bd7263a2f377c2649a17e4517476346483e993"), looks := true }, kinds := [], alts := [], laidByText := true, laidKinds := [.data, .data, .data], laidTests := true, laidLooks := .later }
def ShopSameChartCardSaid : Prop := Claim7.holds Tryz.pinned (.plain (OpenSpec.ofChange shopSameChartSpec)) shopSameChartCard

/-- THE TIED CARD OF 'martensitelaw09.ShopNoBetter'. -/
def shopNoBetterCard : Claim7 := { stood := { row := shopNoBetterRow, standIns := [], harness := (true, "e1979a5a518b8bef3ca9500281bd7263a2f377c2649a17e4517476346483e993"), looks := true }, kinds := [], alts := [], laidByText := true, laidKinds := [.data, .data, .data], laidTests := true, laidLooks := .later }
def ShopNoBetterCardSaid : Prop := Claim7.holds Tryz.pinned (.plain (OpenSpec.ofChange shopNoBetterSpec)) shopNoBetterCard

/-- THE TIED CARD OF 'martensitelaw09.ShopStrings'. -/
def shopStringsCard : Claim7 := { stood := { row := shopStringsRow, standIns := [], harness := (true, "e1979a5a518b8bef3ca9500281bd7263a2f377c2649a17e4517476346483e993"), looks := true }, kinds := [], alts := [], laidByText := true, laidKinds := [.data, .data, .data, .data, .sentinel, .sentinel, .pinned], laidTests := true, laidLooks := .later }
def ShopStringsCardSaid : Prop := Claim7.holds Tryz.pinned (.plain (OpenSpec.ofChange shopStringsSpec)) shopStringsCard

/-- THE TIED CARD OF 'martensitetop.TopShopBounded'. -/
def topShopBoundedCard : Claim7 := { stood := { row := topShopBoundedRow, standIns := [], harness := (true, "e1979a5a518b8bef3ca9500281bd7263a2f377c2649a17e4517476346483e993"), looks := true }, kinds := [], alts := [], laidByText := true, laidKinds := [.data, .data, .data, .data, .sentinel, .sentinel, .pinned], laidTests := true, laidLooks := .later }
def TopShopBoundedCardSaid : Prop := Claim7.holds Tryz.pinned (.plain (OpenSpec.ofChange topShopBoundedSpec)) topShopBoundedCard

/-- THE SECOND FORM's CARD OF 'martensitelaw09.ShopBest'. -/
def shopBestUptoCard : Claim7 := { stood := { row := shopBestUptoRow, standIns := [], harness := (true, "e1979a5a518b8bef3ca9500281bd7263a2f377c2649a17e4517476346483e993"), looks := true }, kinds := [], alts := [], laidByText := true, laidKinds := [.data, .data, .data], laidTests := true, laidLooks := .later }
def ShopBestUptoCardSaid : Prop := Claim7.holds Tryz.pinned (.plain (OpenSpec.upto shopBestSpec)) shopBestUptoCard

/-- THE SECOND FORM's CARD OF 'martensitelaw09.ShopBounds'. -/
def shopBoundsUptoCard : Claim7 := { stood := { row := shopBoundsUptoRow, standIns := [], harness := (true, "e1979a5a518b8bef3ca9500281bd7263a2f377c2649a17e4517476346483e993"), looks := true }, kinds := [], alts := [], laidByText := true, laidKinds := [.data, .data, .data], laidTests := true, laidLooks := .later }
def ShopBoundsUptoCardSaid : Prop := Claim7.holds Tryz.pinned (.plain (OpenSpec.upto shopBoundsSpec)) shopBoundsUptoCard

/-- THE SECOND FORM's CARD OF 'martensitelaw09.ShopBaskets'. -/
def shopBasketsUptoCard : Claim7 := { stood := { row := shopBasketsUptoRow, standIns := [], harness := (true, "e1979a5a518b8bef3ca9500281bd7263a2f377c2649a17e4517476346483e993"), looks := true }, kinds := [], alts := [], laidByText := true, laidKinds := [.data, .data, .data], laidTests := true, laidLooks := .later }
def ShopBasketsUptoCardSaid : Prop := Claim7.holds Tryz.pinned (.plain (OpenSpec.upto shopBasketsSpec)) shopBasketsUptoCard

/-- THE SECOND FORM's CARD OF 'martensitelaw09.ShopNeverMixed'. -/
def shopNeverMixedUptoCard : Claim7 := { stood := { row := shopNeverMixedUptoRow, standIns := [], harness := (true, "e1979a5a518b8bef3ca9500281bd7263a2f377c2649a17e4517476346483e993"), looks := true }, kinds := [], alts := [], laidByText := true, laidKinds := [.data, .data, .data], laidTests := true, laidLooks := .later }
def ShopNeverMixedUptoCardSaid : Prop := Claim7.holds Tryz.pinned (.plain (OpenSpec.upto shopNeverMixedSpec)) shopNeverMixedUptoCard

/-- THE SECOND FORM's CARD OF 'martensitelaw09.ShopOrders'. -/
def shopOrdersUptoCard : Claim7 := { stood := { row := shopOrdersUptoRow, standIns := [], harness := (true, "e1979a5a518b8bef3ca9500281bd7263a2f377c2649a17e4517476346483e993"), looks := true }, kinds := [], alts := [], laidByText := true, laidKinds := [.data, .data, .data], laidTests := true, laidLooks := .later }
def ShopOrdersUptoCardSaid : Prop := Claim7.holds Tryz.pinned (.plain (OpenSpec.upto shopOrdersSpec)) shopOrdersUptoCard

/-- THE SECOND FORM's CARD OF 'martensitelaw09.ShopSameChart'. -/
def shopSameChartUptoCard : Claim7 := { stood := { row := shopSameChartUptoRow, standIns := [], harness := (true, "e1979a5a518b8bef3ca9500281bd7263a2f377c2649a17e4517476346483e993"), looks := true }, kinds := [], alts := [], laidByText := true, laidKinds := [.data, .data, .data], laidTests := true, laidLooks := .later }
def ShopSameChartUptoCardSaid : Prop := Claim7.holds Tryz.pinned (.plain (OpenSpec.upto shopSameChartSpec)) shopSameChartUptoCard

/-- THE SECOND FORM's CARD OF 'martensitelaw09.ShopNoBetter'. -/
def shopNoBetterUptoCard : Claim7 := { stood := { row := shopNoBetterUptoRow, standIns := [], harness := (true, "e1979a5a518b8bef3ca9500281bd7263a2f377c2649a17e4517476346483e993"), looks := true }, kinds := [], alts := [], laidByText := true, laidKinds := [.data, .data, .data], laidTests := true, laidLooks := .later }
def ShopNoBetterUptoCardSaid : Prop := Claim7.holds Tryz.pinned (.plain (OpenSpec.upto shopNoBetterSpec)) shopNoBetterUptoCard

/-- THE SECOND FORM's CARD OF 'martensitelaw09.ShopStrings'. -/
def shopStringsUptoCard : Claim7 := { stood := { row := shopStringsUptoRow, standIns := [], harness := (true, "e1979a5a518b8bef3ca9500281bd7263a2f377c2649a17e4517476346483e993"), looks := true }, kinds := [], alts := [], laidByText := true, laidKinds := [.data, .data, .data, .data, .sentinel, .sentinel, .pinned], laidTests := true, laidLooks := .later }
def ShopStringsUptoCardSaid : Prop := Claim7.holds Tryz.pinned (.plain (OpenSpec.upto shopStringsSpec)) shopStringsUptoCard

/-- THE SECOND FORM's CARD OF 'martensitetop.TopShopBounded'. -/
def topShopBoundedUptoCard : Claim7 := { stood := { row := topShopBoundedUptoRow, standIns := [], harness := (true, "e1979a5a518b8bef3ca9500281bd7263a2f377c2649a17e4517476346483e993"), looks := true }, kinds := [], alts := [], laidByText := true, laidKinds := [.data, .data, .data, .data, .sentinel, .sentinel, .pinned], laidTests := true, laidLooks := .later }
def TopShopBoundedUptoCardSaid : Prop := Claim7.holds Tryz.pinned (.plain (OpenSpec.upto topShopBoundedSpec)) topShopBoundedUptoCard
end Rows
end Go.Proofs.YtpfepjgnojfppaaGreatDoor
