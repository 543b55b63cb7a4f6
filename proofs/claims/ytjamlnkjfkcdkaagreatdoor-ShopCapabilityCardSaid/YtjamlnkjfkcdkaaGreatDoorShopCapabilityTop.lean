/-
  ShopCapability: for every input the law returns true, and each argument reads behind the call as it read before; the row lists tables of the library's, and the card ties them to the program's text. No other condition.
-/
import Derived.Test.YtjamlnkjfkcdkaaGreatDoorRows
import Derived.Test.YtjamlnkjfkcdkaaGreatDoorCards
import Derived.Test.YtjamlnkjfkcdkaaGreatDoorTie
import Derived.Test.YtjamlnkjfkcdkaaGreatDoorFs
import Derived.Test.YtjamlnkjfkcdkaaGreatDoorKh
import Derived.WalkKit
import Derived.ProofKit
import Derived.Handy
import Derived.Lay
import Derived.SevenTiedAt
namespace Go.Proofs.YtjamlnkjfkcdkaaGreatDoor.shopCapability
open Go.Ab Go.ChangeShapes Go.WideShapes Go.ChangeAt Go.RowKit
theorem own : ownKnob Tryz.prog.godebug = none := by kernel_rfl
theorem laidOut : laidOutB Tryz.prog = true := by kernel_rfl
def tys : List Ty := [(.sl (.int .i64)), (.st (.cons (.int .i64) (.cons (.int .i64) .nil)))]
theorem tysAre : TysAre Tryz.prog tys Tryz.f5.params.toList := by
  rw [Tryz.params5]
  exact ⟨rfl, ⟨_, Tryz.underlying30, by kernel_rfl, by decide, Tryz.underlying3⟩, by kernel_rfl, of_decide_eq_true (by kernel_rfl), ⟨rfl, ⟨_, Tryz.underlying53, by kernel_rfl, ⟨rfl, by kernel_rfl, Tryz.underlying3, ⟨rfl, by kernel_rfl, Tryz.underlying3, rfl⟩⟩⟩, by kernel_rfl, of_decide_eq_true (by kernel_rfl), trivial⟩⟩
theorem contract : ∀ xs, ArgsIs tys xs → Ct Tryz.prog 5 xs (.bool true) := by
  intro xs h
  match xs, h with
  | [x0, x1], h =>
    obtain ⟨h0, ⟨y1, rfl, h1⟩, _⟩ := h
    obtain ⟨a0, rfl⟩ := sh_ints h0
    obtain ⟨a1, rfl⟩ := sh_range h1
    exact law_ShopCapability
  | [], h => exact h.elim
  | [_], h => exact h.2.elim
  | _ :: _ :: _ :: _, h => exact h.2.2.elim
set_option maxRecDepth 100000 in
theorem lifted (os : Os) (started : os.Started) (H : Type) (enc : TypeId × Value → H) :
    ReturnsInHanded {} Tryz.checked os 5 .any (fun w args => (Rows.shopCapabilitySpec.pre enc Tryz.prog Tryz.f5 [] false w args ∧ laidMetH Tryz.prog [("math/bits.deBruijn32tab", Rows.laid_math_bits_deBruijn32tab), ("math/bits.deBruijn64tab", Rows.laid_math_bits_deBruijn64tab), ("internal/strconv.uint64pow10", Rows.laid_internal_strconv_uint64pow10)] w) ∧ sizedMet enc Tryz.prog Tryz.f5 (OpenSpec.ofChange Rows.shopCapabilitySpec) false w args)
      (Rows.shopCapabilitySpec.post enc Tryz.prog Tryz.f5 false true false false) := by
  refine returnsInHanded_of_change_and (C := Tryz.checked) (X := fun w _ => laidMetH Tryz.prog [("math/bits.deBruijn32tab", Rows.laid_math_bits_deBruijn32tab), ("math/bits.deBruijn64tab", Rows.laid_math_bits_deBruijn64tab), ("internal/strconv.uint64pow10", Rows.laid_internal_strconv_uint64pow10)] w) (fun _ _ _ hh h => h.of_heap hh) own started (by kernel_rfl) Tryz.func5
    (ChangeSpec.witness_shaped (enc := enc) (C := Tryz.checked) (os := os) (X := fun w _ => laidMetH Tryz.prog [("math/bits.deBruijn32tab", Rows.laid_math_bits_deBruijn32tab), ("math/bits.deBruijn64tab", Rows.laid_math_bits_deBruijn64tab), ("internal/strconv.uint64pow10", Rows.laid_internal_strconv_uint64pow10)] w) false (World.laidAll Tryz.prog os [("math/bits.deBruijn32tab", Rows.laid_math_bits_deBruijn32tab), ("math/bits.deBruijn64tab", Rows.laid_math_bits_deBruijn64tab), ("internal/strconv.uint64pow10", Rows.laid_internal_strconv_uint64pow10)]) #[.slice none 0 0, .agg #[.int .i64 (0), .int .i64 (0)]] 8 (World.laidAll_os _ _ _)
      (World.shaped_of_ZipB (by kernel_rfl) (by kernel_rfl)) (by kernel_rfl) (by kernel_rfl) (by kernel_rfl)
      (by rw [MakeChecks.laidMetH_plain _ _ _ (by kernel_rfl)]; exact laidMet_laidAll _ (by kernel_rfl) (by kernel_rfl))) ?_
  intro W base args ds gs before hval0 hW hcnd _ _ _
  have hval : ∀ (j : Nat) t v, Tryz.f5.params[j]? = some t → args[j]? = some v → Value.okWide Tryz.prog W .any base t v := hval0
  clear hcnd hval0
  exact law_calls (P := Tryz.prog) (f := 5) (fn := Tryz.f5) (s := Rows.shopCapabilitySpec) (Ts := tys) (tb := 4) (apart := false) (fresh := true) (handsOn := false) contract laidOut tysAre rfl (by kernel_rfl) Tryz.underlying4
    (fun ds h => by
      rw [Tryz.params5] at h
      match ds, h with
      | [_, _], _ => rfl) hval hW
end Go.Proofs.YtjamlnkjfkcdkaaGreatDoor.shopCapability
namespace Go.Proofs.YtjamlnkjfkcdkaaGreatDoor
open Go.ChangeAt
theorem shopCapability_closed : joinedFacts Tryz.prog 5 Tryz.f5 Rows.shopCapabilitySpec Rows.shopCapabilityRow = true := by kernel_rfl
theorem shopCapability_named : Tryz.prog.funcNamed Rows.shopCapabilityRow.func = some 5 := by kernel_rfl
theorem shopCapability_inst : Tryz.f5.isInstance Tryz.prog Rows.shopCapabilityRow.origin Rows.shopCapabilityRow.targs := of_decide_eq_true (by kernel_rfl)
theorem shopCapability_wrap : Tryz.f5.isWrapper Tryz.prog Rows.shopCapabilityRow.wrapper Rows.shopCapabilityRow.mainSum := by unfold Func.isWrapper; first | (rw [if_pos (by decide +kernel)]; kernel_rfl) | (rw [if_neg (by decide +kernel)]; exact ⟨rfl, rfl⟩)
theorem shopCapability_row : Rows.ShopCapabilitySaid :=
  OpenClaim.holds_of_wide (p := Tryz.pinned) 5 Tryz.f5 rfl rfl rfl rfl rfl rfl rfl ⟨rfl, rfl, rfl, rfl, rfl⟩ rfl rfl rfl rfl rfl shopCapability_named Tryz.func5 shopCapability_closed
    shopCapability_inst shopCapability_wrap
    (fun os started H enc _ => shopCapability.lifted os started H enc)
theorem shopCapability_holds : Rows.ShopCapabilityCardSaid :=
  Claim7.holds_tied_plain_at .later [] [.data, .data, .data] true (true, "77b97fc9c1acc25d9a93c5c8cacc82042a7f9476568e89ea7999ae36749ec597") false shopCapability_row (fun _ h => by cases h) (by kernel_rfl) (fun _ h => by cases h) shopCapability_row_tie rfl ⟨rfl, rfl⟩ (by kernel_rfl) rfl
    (fun f fn hf hfn => by
      obtain rfl : f = 5 := Option.some.inj ((show Tryz.prog.funcNamed "martensite/martensitelaw09.ShopCapability" = some 5 by kernel_rfl).symm.trans hf) |>.symm
      obtain rfl : fn = Tryz.f5 := (Option.some.inj (Tryz.func5.symm.trans hfn)).symm
      exact ⟨by kernel_rfl, fun j t ht => by
        rw [Tryz.params5] at ht
        have hm : t ∈ [30, 53] := by
          have := Array.mem_of_getElem? ht
          simp only [List.mem_toArray, List.mem_cons, List.not_mem_nil, or_false] at this ⊢
          omega
        have hall : ([30, 53].all fun u => !Tryz.prog.wantsStandIn u) = true := by kernel_rfl
        exact (show Tryz.prog.wantsStandIn t = false by simpa using List.all_eq_true.1 hall t hm)⟩)
    (by kernel_rfl)
end Go.Proofs.YtjamlnkjfkcdkaaGreatDoor
