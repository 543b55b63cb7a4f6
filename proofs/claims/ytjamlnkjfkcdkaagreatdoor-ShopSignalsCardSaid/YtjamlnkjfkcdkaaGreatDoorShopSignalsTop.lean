/-
  ShopSignals: for every input the law returns true, and each argument reads behind the call as it read before; the row lists tables of the library's, and the card ties them to the program's text. No other condition.
-/
import Derived.Handy
import Derived.Lay
import Derived.ProofKit
import Derived.SevenTiedAt
import Derived.Test.YtjamlnkjfkcdkaaGreatDoorCards
import Derived.Test.YtjamlnkjfkcdkaaGreatDoorRows
import Derived.Test.YtjamlnkjfkcdkaaGreatDoorTie
import Derived.WalkKit
import Derived.Test.YtjamlnkjfkcdkaaGreatDoorFs
import Derived.Test.YtjamlnkjfkcdkaaGreatDoorKm
namespace Go.Proofs.YtjamlnkjfkcdkaaGreatDoor.shopSignals
open Go.Ab Go.ChangeShapes Go.WideShapes Go.ChangeAt Go.RowKit
theorem own : ownKnob Tryz.prog.godebug = none := by kernel_rfl
theorem laidOut : laidOutB Tryz.prog = true := by kernel_rfl
def tys : List Ty := [(.st (.cons (.int .i64) (.cons (.int .i64) (.cons (.int .i64) .nil)))), (.sl (.int .i64))]
theorem tysAre : TysAre Tryz.prog tys Tryz.f13.params.toList := by
  rw [Tryz.params13]
  exact ⟨rfl, ⟨_, Tryz.underlying131, by kernel_rfl, ⟨rfl, by kernel_rfl, Tryz.underlying3, ⟨rfl, by kernel_rfl, Tryz.underlying3, ⟨rfl, by kernel_rfl, Tryz.underlying3, rfl⟩⟩⟩⟩, by kernel_rfl, of_decide_eq_true (by kernel_rfl), ⟨rfl, ⟨_, Tryz.underlying30, by kernel_rfl, by decide, Tryz.underlying3⟩, by kernel_rfl, of_decide_eq_true (by kernel_rfl), trivial⟩⟩
theorem contract : ∀ xs, ArgsIs tys xs → Ct Tryz.prog 13 xs (.bool true) := by
  intro xs h
  match xs, h with
  | [x0, x1], h =>
    obtain ⟨⟨y0, rfl, h0⟩, h1, _⟩ := h
    obtain ⟨a0, rfl⟩ := sh_chart h0
    obtain ⟨a1, rfl⟩ := sh_ints h1
    exact law_ShopSignals
  | [], h => exact h.elim
  | [_], h => exact h.2.elim
  | _ :: _ :: _ :: _, h => exact h.2.2.elim
set_option maxRecDepth 100000 in
theorem lifted (os : Os) (started : os.Started) (H : Type) (enc : TypeId × Value → H) :
    ReturnsInHanded {} Tryz.checked os 13 .any (fun w args => (Rows.shopSignalsSpec.pre enc Tryz.prog Tryz.f13 [] false w args ∧ laidMetH Tryz.prog [("math/bits.deBruijn32tab", Rows.laid_math_bits_deBruijn32tab), ("math/bits.deBruijn64tab", Rows.laid_math_bits_deBruijn64tab), ("internal/strconv.uint64pow10", Rows.laid_internal_strconv_uint64pow10)] w) ∧ sizedMet enc Tryz.prog Tryz.f13 (OpenSpec.ofChange Rows.shopSignalsSpec) false w args)
      (Rows.shopSignalsSpec.post enc Tryz.prog Tryz.f13 false true false false) := by
  refine returnsInHanded_of_change_and (C := Tryz.checked) (X := fun w _ => laidMetH Tryz.prog [("math/bits.deBruijn32tab", Rows.laid_math_bits_deBruijn32tab), ("math/bits.deBruijn64tab", Rows.laid_math_bits_deBruijn64tab), ("internal/strconv.uint64pow10", Rows.laid_internal_strconv_uint64pow10)] w) (fun _ _ _ hh h => h.of_heap hh) own started (by kernel_rfl) Tryz.func13
    (ChangeSpec.witness_shaped (enc := enc) (C := Tryz.checked) (os := os) (X := fun w _ => laidMetH Tryz.prog [("math/bits.deBruijn32tab", Rows.laid_math_bits_deBruijn32tab), ("math/bits.deBruijn64tab", Rows.laid_math_bits_deBruijn64tab), ("internal/strconv.uint64pow10", Rows.laid_internal_strconv_uint64pow10)] w) false (World.laidAll Tryz.prog os [("math/bits.deBruijn32tab", Rows.laid_math_bits_deBruijn32tab), ("math/bits.deBruijn64tab", Rows.laid_math_bits_deBruijn64tab), ("internal/strconv.uint64pow10", Rows.laid_internal_strconv_uint64pow10)]) #[.agg #[.int .i64 (0), .int .i64 (0), .int .i64 (0)], .slice none 0 0] 8 (World.laidAll_os _ _ _)
      (World.shaped_of_ZipB (by kernel_rfl) (by kernel_rfl)) (by kernel_rfl) (by kernel_rfl) (by kernel_rfl)
      (by rw [MakeChecks.laidMetH_plain _ _ _ (by kernel_rfl)]; exact laidMet_laidAll _ (by kernel_rfl) (by kernel_rfl))) ?_
  intro W base args ds gs before hval0 hW hcnd _ _ _
  have hval : ∀ (j : Nat) t v, Tryz.f13.params[j]? = some t → args[j]? = some v → Value.okWide Tryz.prog W .any base t v := hval0
  clear hcnd hval0
  exact law_calls (P := Tryz.prog) (f := 13) (fn := Tryz.f13) (s := Rows.shopSignalsSpec) (Ts := tys) (tb := 4) (apart := false) (fresh := true) (handsOn := false) contract laidOut tysAre rfl (by kernel_rfl) Tryz.underlying4
    (fun ds h => by
      rw [Tryz.params13] at h
      match ds, h with
      | [_, _], _ => rfl) hval hW
end Go.Proofs.YtjamlnkjfkcdkaaGreatDoor.shopSignals
namespace Go.Proofs.YtjamlnkjfkcdkaaGreatDoor
open Go.ChangeAt
theorem shopSignals_closed : joinedFacts Tryz.prog 13 Tryz.f13 Rows.shopSignalsSpec Rows.shopSignalsRow = true := by kernel_rfl
theorem shopSignals_named : Tryz.prog.funcNamed Rows.shopSignalsRow.func = some 13 := by kernel_rfl
theorem shopSignals_inst : Tryz.f13.isInstance Tryz.prog Rows.shopSignalsRow.origin Rows.shopSignalsRow.targs := of_decide_eq_true (by kernel_rfl)
theorem shopSignals_wrap : Tryz.f13.isWrapper Tryz.prog Rows.shopSignalsRow.wrapper Rows.shopSignalsRow.mainSum := by unfold Func.isWrapper; first | (rw [if_pos (by decide +kernel)]; kernel_rfl) | (rw [if_neg (by decide +kernel)]; exact ⟨rfl, rfl⟩)
theorem shopSignals_row : Rows.ShopSignalsSaid :=
  OpenClaim.holds_of_wide (p := Tryz.pinned) 13 Tryz.f13 rfl rfl rfl rfl rfl rfl rfl ⟨rfl, rfl, rfl, rfl, rfl⟩ rfl rfl rfl rfl rfl shopSignals_named Tryz.func13 shopSignals_closed
    shopSignals_inst shopSignals_wrap
    (fun os started H enc _ => shopSignals.lifted os started H enc)
theorem shopSignals_holds : Rows.ShopSignalsCardSaid :=
  Claim7.holds_tied_plain_at .later [] [.data, .data, .data] true (true, "77b97fc9c1acc25d9a93c5c8cacc82042a7f9476568e89ea7999ae36749ec597") false shopSignals_row (fun _ h => by cases h) (by kernel_rfl) (fun _ h => by cases h) shopSignals_row_tie rfl ⟨rfl, rfl⟩ (by kernel_rfl) rfl
    (fun f fn hf hfn => by
      obtain rfl : f = 13 := Option.some.inj ((show Tryz.prog.funcNamed "martensite/martensitelaw09.ShopSignals" = some 13 by kernel_rfl).symm.trans hf) |>.symm
      obtain rfl : fn = Tryz.f13 := (Option.some.inj (Tryz.func13.symm.trans hfn)).symm
      exact ⟨by kernel_rfl, fun j t ht => by
        rw [Tryz.params13] at ht
        have hm : t ∈ [131, 30] := by simpa using Array.mem_of_getElem? ht
        have hall : ([131, 30].all fun u => !Tryz.prog.wantsStandIn u) = true := by kernel_rfl
        exact (show Tryz.prog.wantsStandIn t = false by simpa using List.all_eq_true.1 hall t hm)⟩)
    (by kernel_rfl)
end Go.Proofs.YtjamlnkjfkcdkaaGreatDoor
