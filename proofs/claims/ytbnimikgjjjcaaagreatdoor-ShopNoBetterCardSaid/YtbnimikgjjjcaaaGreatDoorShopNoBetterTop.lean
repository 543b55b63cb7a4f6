/-
  ShopNoBetter: for every input the law returns true, and each argument reads behind the call as it read before; the row lists tables of the library's, and the card ties them to the program's text. No other condition.
-/
import Derived.Handy
import Derived.Lay
import Derived.ProofKit
import Derived.SevenTiedAt
import Derived.Test.YtbnimikgjjjcaaaGreatDoorCards
import Derived.Test.YtbnimikgjjjcaaaGreatDoorRows
import Derived.Test.YtbnimikgjjjcaaaGreatDoorTie
import Derived.WalkKit
import Derived.Test.YtbnimikgjjjcaaaGreatDoorFs
import Derived.Test.YtbnimikgjjjcaaaGreatDoorKw
namespace Go.Proofs.YtbnimikgjjjcaaaGreatDoor.shopNoBetter
open Go.Ab Go.ChangeShapes Go.WideShapes Go.ChangeAt Go.RowKit
theorem own : ownKnob Tryz.prog.godebug = none := by kernel_rfl
theorem laidOut : laidOutB Tryz.prog = true := by kernel_rfl
def tys : List Ty := [(.sl (.st (.cons .str (.cons (.int .i64) (.cons (.int .i64) (.cons (.int .i64) .nil)))))), (.st (.cons (.int .i64) (.cons (.sl (.sl (.int .i64))) .nil))), (.sl (.int .i64))]
theorem tysAre : TysAre Tryz.prog tys Tryz.f3.params.toList := by
  rw [Tryz.params3]
  exact ⟨rfl, ⟨_, Tryz.underlying22, by kernel_rfl, by decide, ⟨_, Tryz.underlying70, by kernel_rfl, ⟨rfl, by kernel_rfl, Tryz.underlying9, ⟨rfl, by kernel_rfl, Tryz.underlying3, ⟨rfl, by kernel_rfl, Tryz.underlying3, ⟨rfl, by kernel_rfl, Tryz.underlying3, rfl⟩⟩⟩⟩⟩⟩, by kernel_rfl, of_decide_eq_true (by kernel_rfl), ⟨rfl, ⟨_, Tryz.underlying25, by kernel_rfl, ⟨rfl, by kernel_rfl, Tryz.underlying3, ⟨rfl, by kernel_rfl, ⟨_, Tryz.underlying23, by kernel_rfl, by decide, ⟨_, Tryz.underlying26, by kernel_rfl, by decide, Tryz.underlying3⟩⟩, rfl⟩⟩⟩, by kernel_rfl, of_decide_eq_true (by kernel_rfl), ⟨rfl, ⟨_, Tryz.underlying26, by kernel_rfl, by decide, Tryz.underlying3⟩, by kernel_rfl, of_decide_eq_true (by kernel_rfl), trivial⟩⟩⟩
theorem contract : ∀ xs, ArgsIs tys xs → Ct Tryz.prog 3 xs (.bool true) := by
  intro xs h
  match xs, h with
  | [x0, x1, x2], h =>
    obtain ⟨h0, ⟨y1, rfl, h1⟩, h2, _⟩ := h
    obtain ⟨a0, rfl⟩ := sh_jobs h0
    obtain ⟨a1, rfl⟩ := sh_changes h1
    obtain ⟨a2, rfl⟩ := sh_ints h2
    exact law_ShopNoBetter
  | [], h => exact h.elim
  | [_], h => exact h.2.elim
  | [_, _], h => exact h.2.2.elim
  | _ :: _ :: _ :: _ :: _, h => exact h.2.2.2.elim
set_option maxRecDepth 100000 in
theorem lifted (os : Os) (started : os.Started) (H : Type) (enc : TypeId × Value → H) :
    ReturnsInHanded {} Tryz.checked os 3 .any (fun w args => (Rows.shopNoBetterSpec.pre enc Tryz.prog Tryz.f3 [] false w args ∧ laidMetH Tryz.prog [("math/bits.deBruijn32tab", Rows.laid_math_bits_deBruijn32tab), ("math/bits.deBruijn64tab", Rows.laid_math_bits_deBruijn64tab), ("internal/strconv.uint64pow10", Rows.laid_internal_strconv_uint64pow10)] w) ∧ sizedMet enc Tryz.prog Tryz.f3 (OpenSpec.ofChange Rows.shopNoBetterSpec) false w args)
      (Rows.shopNoBetterSpec.post enc Tryz.prog Tryz.f3 false true false false) := by
  refine returnsInHanded_of_change_and (C := Tryz.checked) (X := fun w _ => laidMetH Tryz.prog [("math/bits.deBruijn32tab", Rows.laid_math_bits_deBruijn32tab), ("math/bits.deBruijn64tab", Rows.laid_math_bits_deBruijn64tab), ("internal/strconv.uint64pow10", Rows.laid_internal_strconv_uint64pow10)] w) (fun _ _ _ hh h => h.of_heap hh) own started (by kernel_rfl) Tryz.func3
    (ChangeSpec.witness_shaped (enc := enc) (C := Tryz.checked) (os := os) (X := fun w _ => laidMetH Tryz.prog [("math/bits.deBruijn32tab", Rows.laid_math_bits_deBruijn32tab), ("math/bits.deBruijn64tab", Rows.laid_math_bits_deBruijn64tab), ("internal/strconv.uint64pow10", Rows.laid_internal_strconv_uint64pow10)] w) false (World.laidAll Tryz.prog os [("math/bits.deBruijn32tab", Rows.laid_math_bits_deBruijn32tab), ("math/bits.deBruijn64tab", Rows.laid_math_bits_deBruijn64tab), ("internal/strconv.uint64pow10", Rows.laid_internal_strconv_uint64pow10)]) #[.slice none 0 0, .agg #[.int .i64 (0), .slice none 0 0], .slice none 0 0] 8 (World.laidAll_os _ _ _)
      (World.shaped_of_ZipB (by kernel_rfl) (by kernel_rfl)) (by kernel_rfl) (by kernel_rfl) (by kernel_rfl)
      (by rw [MakeChecks.laidMetH_plain _ _ _ (by kernel_rfl)]; exact laidMet_laidAll _ (by kernel_rfl) (by kernel_rfl))) ?_
  intro W base args ds gs before hval0 hW hcnd _ _ _
  have hval : ∀ (j : Nat) t v, Tryz.f3.params[j]? = some t → args[j]? = some v → Value.okWide Tryz.prog W .any base t v := hval0
  clear hcnd hval0
  exact law_calls (P := Tryz.prog) (f := 3) (fn := Tryz.f3) (s := Rows.shopNoBetterSpec) (Ts := tys) (tb := 4) (apart := false) (fresh := true) (handsOn := false) contract laidOut tysAre rfl (by kernel_rfl) Tryz.underlying4
    (fun ds h => by
      rw [Tryz.params3] at h
      match ds, h with
      | [_, _, _], _ => rfl) hval hW
end Go.Proofs.YtbnimikgjjjcaaaGreatDoor.shopNoBetter
namespace Go.Proofs.YtbnimikgjjjcaaaGreatDoor
open Go.ChangeAt
theorem shopNoBetter_closed : joinedFacts Tryz.prog 3 Tryz.f3 Rows.shopNoBetterSpec Rows.shopNoBetterRow = true := by kernel_rfl
theorem shopNoBetter_named : Tryz.prog.funcNamed Rows.shopNoBetterRow.func = some 3 := by kernel_rfl
theorem shopNoBetter_inst : Tryz.f3.isInstance Tryz.prog Rows.shopNoBetterRow.origin Rows.shopNoBetterRow.targs := of_decide_eq_true (by kernel_rfl)
theorem shopNoBetter_wrap : Tryz.f3.isWrapper Tryz.prog Rows.shopNoBetterRow.wrapper Rows.shopNoBetterRow.mainSum := by unfold Func.isWrapper; first | (rw [if_pos (by decide +kernel)]; kernel_rfl) | (rw [if_neg (by decide +kernel)]; exact ⟨rfl, rfl⟩)
theorem shopNoBetter_row : Rows.ShopNoBetterSaid :=
  OpenClaim.holds_of_wide (p := Tryz.pinned) 3 Tryz.f3 rfl rfl rfl rfl rfl rfl rfl ⟨rfl, rfl, rfl, rfl, rfl⟩ rfl rfl rfl rfl rfl shopNoBetter_named Tryz.func3 shopNoBetter_closed
    shopNoBetter_inst shopNoBetter_wrap
    (fun os started H enc _ => shopNoBetter.lifted os started H enc)
theorem shopNoBetter_holds : Rows.ShopNoBetterCardSaid :=
  Claim7.holds_tied_plain_at .later [] [.data, .data, .data] true (true, "8287094580dedac35259c05adfd41b9418ce6dbf5d46314af65789896fd153a4") false shopNoBetter_row (fun _ h => by cases h) (by kernel_rfl) (fun _ h => by cases h) shopNoBetter_row_tie rfl ⟨rfl, rfl⟩ (by kernel_rfl) rfl
    (fun f fn hf hfn => by
      obtain rfl : f = 3 := Option.some.inj ((show Tryz.prog.funcNamed "martensite/martensitelaw09.ShopNoBetter" = some 3 by kernel_rfl).symm.trans hf) |>.symm
      obtain rfl : fn = Tryz.f3 := (Option.some.inj (Tryz.func3.symm.trans hfn)).symm
      exact ⟨by kernel_rfl, fun j t ht => by
        rw [Tryz.params3] at ht
        have hm : t ∈ [22, 25, 26] := by simpa using Array.mem_of_getElem? ht
        have hall : ([22, 25, 26].all fun u => !Tryz.prog.wantsStandIn u) = true := by kernel_rfl
        exact (show Tryz.prog.wantsStandIn t = false by simpa using List.all_eq_true.1 hall t hm)⟩)
    (by kernel_rfl)
end Go.Proofs.YtbnimikgjjjcaaaGreatDoor
