/-
  ShopNeverMixed: for every input the law returns true, and each argument reads behind the call as it read before; the row lists tables of the library's, and the card ties them to the program's text. No other condition.
-/
import Derived.Handy
import Derived.Lay
import Derived.ProofKit
import Derived.SevenTiedAt
import Derived.Test.YtpfepjgnojfppaaGreatDoorCards
import Derived.Test.YtpfepjgnojfppaaGreatDoorRows
import Derived.Test.YtpfepjgnojfppaaGreatDoorTie
import Derived.WalkKit
import Derived.Test.YtpfepjgnojfppaaGreatDoorFs
import Derived.Test.YtpfepjgnojfppaaGreatDoorKv
namespace Go.Proofs.YtpfepjgnojfppaaGreatDoor.shopNeverMixed
open Go.Ab Go.ChangeShapes Go.WideShapes Go.ChangeAt Go.RowKit
theorem own : ownKnob Tryz.prog.godebug = none := by kernel_rfl
theorem laidOut : laidOutB Tryz.prog = true := by kernel_rfl
def tys : List Ty := [(.sl (.st (.cons .str (.cons .str (.cons (.int .i64) .nil))))), (.int .i64), (.sl (.st (.cons (.sl (.st (.cons .str (.cons (.int .i64) .nil)))) .nil)))]
theorem tysAre : TysAre Tryz.prog tys Tryz.f6.params.toList := by
  rw [Tryz.params6]
  exact ⟨rfl, ⟨_, Tryz.underlying49, by kernel_rfl, by decide, ⟨_, Tryz.underlying66, by kernel_rfl, ⟨rfl, by kernel_rfl, Tryz.underlying9, ⟨rfl, by kernel_rfl, Tryz.underlying9, ⟨rfl, by kernel_rfl, Tryz.underlying3, rfl⟩⟩⟩⟩⟩, by kernel_rfl, of_decide_eq_true (by kernel_rfl), ⟨rfl, Tryz.underlying3, by kernel_rfl, of_decide_eq_true (by kernel_rfl), ⟨rfl, ⟨_, Tryz.underlying50, by kernel_rfl, by decide, ⟨_, Tryz.underlying71, by kernel_rfl, ⟨rfl, by kernel_rfl, ⟨_, Tryz.underlying69, by kernel_rfl, by decide, ⟨_, Tryz.underlying73, by kernel_rfl, ⟨rfl, by kernel_rfl, Tryz.underlying9, ⟨rfl, by kernel_rfl, Tryz.underlying3, rfl⟩⟩⟩⟩, rfl⟩⟩⟩, by kernel_rfl, of_decide_eq_true (by kernel_rfl), trivial⟩⟩⟩
theorem contract : ∀ xs, ArgsIs tys xs → Ct Tryz.prog 6 xs (.bool true) := by
  intro xs h
  match xs, h with
  | [x0, x1, x2], h =>
    obtain ⟨h0, h1, h2, _⟩ := h
    obtain ⟨a0, rfl⟩ := sh_lots h0
    obtain ⟨a1, rfl⟩ := sh_int h1
    obtain ⟨a2, rfl⟩ := sh_baskets h2
    exact law_ShopNeverMixed
  | [], h => exact h.elim
  | [_], h => exact h.2.elim
  | [_, _], h => exact h.2.2.elim
  | _ :: _ :: _ :: _ :: _, h => exact h.2.2.2.elim
set_option maxRecDepth 100000 in
theorem lifted (os : Os) (started : os.Started) (H : Type) (enc : TypeId × Value → H) :
    ReturnsInHanded {} Tryz.checked os 6 .any (fun w args => (Rows.shopNeverMixedSpec.pre enc Tryz.prog Tryz.f6 [] false w args ∧ laidMetH Tryz.prog [("math/bits.deBruijn32tab", Rows.laid_math_bits_deBruijn32tab), ("math/bits.deBruijn64tab", Rows.laid_math_bits_deBruijn64tab), ("internal/strconv.uint64pow10", Rows.laid_internal_strconv_uint64pow10)] w) ∧ sizedMet enc Tryz.prog Tryz.f6 (OpenSpec.ofChange Rows.shopNeverMixedSpec) false w args)
      (Rows.shopNeverMixedSpec.post enc Tryz.prog Tryz.f6 false true false false) := by
  refine returnsInHanded_of_change_and (C := Tryz.checked) (X := fun w _ => laidMetH Tryz.prog [("math/bits.deBruijn32tab", Rows.laid_math_bits_deBruijn32tab), ("math/bits.deBruijn64tab", Rows.laid_math_bits_deBruijn64tab), ("internal/strconv.uint64pow10", Rows.laid_internal_strconv_uint64pow10)] w) (fun _ _ _ hh h => h.of_heap hh) own started (by kernel_rfl) Tryz.func6
    (ChangeSpec.witness_shaped (enc := enc) (C := Tryz.checked) (os := os) (X := fun w _ => laidMetH Tryz.prog [("math/bits.deBruijn32tab", Rows.laid_math_bits_deBruijn32tab), ("math/bits.deBruijn64tab", Rows.laid_math_bits_deBruijn64tab), ("internal/strconv.uint64pow10", Rows.laid_internal_strconv_uint64pow10)] w) false (World.laidAll Tryz.prog os [("math/bits.deBruijn32tab", Rows.laid_math_bits_deBruijn32tab), ("math/bits.deBruijn64tab", Rows.laid_math_bits_deBruijn64tab), ("internal/strconv.uint64pow10", Rows.laid_internal_strconv_uint64pow10)]) #[.slice none 0 0, .int .i64 (0), .slice none 0 0] 8 (World.laidAll_os _ _ _)
      (World.shaped_of_ZipB (by kernel_rfl) (by kernel_rfl)) (by kernel_rfl) (by kernel_rfl) (by kernel_rfl)
      (by rw [MakeChecks.laidMetH_plain _ _ _ (by kernel_rfl)]; exact laidMet_laidAll _ (by kernel_rfl) (by kernel_rfl))) ?_
  intro W base args ds gs before hval0 hW hcnd _ _ _
  have hval : ∀ (j : Nat) t v, Tryz.f6.params[j]? = some t → args[j]? = some v → Value.okWide Tryz.prog W .any base t v := hval0
  clear hcnd hval0
  exact law_calls (P := Tryz.prog) (f := 6) (fn := Tryz.f6) (s := Rows.shopNeverMixedSpec) (Ts := tys) (tb := 4) (apart := false) (fresh := true) (handsOn := false) contract laidOut tysAre rfl (by kernel_rfl) Tryz.underlying4
    (fun ds h => by
      rw [Tryz.params6] at h
      match ds, h with
      | [_, _, _], _ => rfl) hval hW
end Go.Proofs.YtpfepjgnojfppaaGreatDoor.shopNeverMixed
namespace Go.Proofs.YtpfepjgnojfppaaGreatDoor
open Go.ChangeAt
theorem shopNeverMixed_closed : joinedFacts Tryz.prog 6 Tryz.f6 Rows.shopNeverMixedSpec Rows.shopNeverMixedRow = true := by kernel_rfl
theorem shopNeverMixed_named : Tryz.prog.funcNamed Rows.shopNeverMixedRow.func = some 6 := by kernel_rfl
theorem shopNeverMixed_inst : Tryz.f6.isInstance Tryz.prog Rows.shopNeverMixedRow.origin Rows.shopNeverMixedRow.targs := of_decide_eq_true (by kernel_rfl)
theorem shopNeverMixed_wrap : Tryz.f6.isWrapper Tryz.prog Rows.shopNeverMixedRow.wrapper Rows.shopNeverMixedRow.mainSum := by unfold Func.isWrapper; first | (rw [if_pos (by decide +kernel)]; kernel_rfl) | (rw [if_neg (by decide +kernel)]; exact ⟨rfl, rfl⟩)
theorem shopNeverMixed_row : Rows.ShopNeverMixedSaid :=
  OpenClaim.holds_of_wide (p := Tryz.pinned) 6 Tryz.f6 rfl rfl rfl rfl rfl rfl rfl ⟨rfl, rfl, rfl, rfl, rfl⟩ rfl rfl rfl rfl rfl shopNeverMixed_named Tryz.func6 shopNeverMixed_closed
    shopNeverMixed_inst shopNeverMixed_wrap
    (fun os started H enc _ => shopNeverMixed.lifted os started H enc)
theorem shopNeverMixed_holds : Rows.ShopNeverMixedCardSaid :=
  Claim7.holds_tied_plain_at .later [] [.data, .data, .data] true (true, "e1979a5a518b8bef3ca9500281bd7263a2f377c2649a17e4517476346483e993") true shopNeverMixed_row (fun _ h => by cases h) (by kernel_rfl) (fun _ h => by cases h) shopNeverMixed_row_tie rfl ⟨rfl, rfl⟩ (by kernel_rfl) rfl
    (fun f fn hf hfn => by
      obtain rfl : f = 6 := Option.some.inj ((show Tryz.prog.funcNamed "martensite/martensitelaw09.ShopNeverMixed" = some 6 by kernel_rfl).symm.trans hf) |>.symm
      obtain rfl : fn = Tryz.f6 := (Option.some.inj (Tryz.func6.symm.trans hfn)).symm
      exact ⟨by kernel_rfl, fun j t ht => by
        rw [Tryz.params6] at ht
        have hm : t ∈ [49, 3, 50] := by simpa using Array.mem_of_getElem? ht
        have hall : ([49, 3, 50].all fun u => !Tryz.prog.wantsStandIn u) = true := by kernel_rfl
        exact (show Tryz.prog.wantsStandIn t = false by simpa using List.all_eq_true.1 hall t hm)⟩)
    (by kernel_rfl)
end Go.Proofs.YtpfepjgnojfppaaGreatDoor
