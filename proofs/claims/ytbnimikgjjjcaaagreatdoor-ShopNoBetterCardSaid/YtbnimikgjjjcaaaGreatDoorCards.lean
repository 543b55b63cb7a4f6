/-
  DERIVED. GIVEN WITH THE SEED: THE CARDS: each row of YtbnimikgjjjcaaaGreatDoorRows.lean that lists a variable, with what it lists TIED to the program's text (the seventh form; the later family's looks); each row that meets fmt, with fmt's text TOLD by the authors' own Lean function (tested against real Go, not proved from fmt's source: count such statements apart). THE CARD IS WHAT COUNTS. Prove the row's statement (the work); the ties are given (YtbnimikgjjjcaaaGreatDoorTie.lean); close each card by the builder's one call (the guide's Derived/Test/ToyasCard.lean, 'card_holds'). Laid BY PROGRAM, IN A SANDBOX (cutbox-door.mjs). By AI agents, Wed Nov 11 2026. No macro, syntax, notation, axiom, sorry.
-/
import Derived.Test.YtbnimikgjjjcaaaGreatDoorRows
import GoSem.ClaimSeven
namespace Go.Proofs.YtbnimikgjjjcaaaGreatDoor
namespace Rows

/-- THE TIED CARD OF 'martensitelaw09.ShopNoBetter'. -/
def shopNoBetterCard : Claim7 := { stood := { row := shopNoBetterRow, standIns := [], harness := (true, "8287094580dedac35259c05adfd41b9418ce6dbf5d46314af65789896fd153a4"), looks := false }, kinds := [], alts := [], laidByText := true, laidKinds := [.data, .data, .data], laidTests := true, laidLooks := .later }
def ShopNoBetterCardSaid : Prop := Claim7.holds Tryz.pinned (.plain (OpenSpec.ofChange shopNoBetterSpec)) shopNoBetterCard

/-- THE SECOND FORM's CARD OF 'martensitelaw09.ShopNoBetter'. -/
def shopNoBetterUptoCard : Claim7 := { stood := { row := shopNoBetterUptoRow, standIns := [], harness := (true, "8287094580dedac35259c05adfd41b9418ce6dbf5d46314af65789896fd153a4"), looks := false }, kinds := [], alts := [], laidByText := true, laidKinds := [.data, .data, .data], laidTests := true, laidLooks := .later }
def ShopNoBetterUptoCardSaid : Prop := Claim7.holds Tryz.pinned (.plain (OpenSpec.upto shopNoBetterSpec)) shopNoBetterUptoCard
end Rows
end Go.Proofs.YtbnimikgjjjcaaaGreatDoor
