/-
  TopShopBounded: for every input the law returns true, and each argument reads behind the call as it read before; the row lists tables of the library's, and the card ties them to the program's text. No other condition.
-/
import Derived.Handy
import Derived.Lay
import Derived.ProofKit
import Derived.SevenTiedAt
import Derived.Test.YtpfepjgnojfppaaGreatDoorCards
import Derived.Test.YtpfepjgnojfppaaGreatDoorRows
import Derived.Test.YtpfepjgnojfppaaGreatDoorTie
import Derived.WalkKit
import Derived.Test.YtpfepjgnojfppaaGreatDoorFs
import Derived.Test.YtpfepjgnojfppaaGreatDoorGu
import Derived.Test.YtpfepjgnojfppaaGreatDoorLj
namespace Go.Proofs.YtpfepjgnojfppaaGreatDoor.topShopBounded
open Go.Ab Go.ChangeShapes Go.WideShapes Go.ChangeAt Go.RowKit
theorem own : ownKnob Tryz.prog.godebug = none := by kernel_rfl
theorem laidOut : laidOutB Tryz.prog = true := by kernel_rfl
def tys : List Ty := [(.sl (.st (.cons .str (.cons (.int .i64) (.cons (.int .i64) (.cons (.int .i64) .nil)))))), (.st (.cons (.int .i64) (.cons (.sl (.sl (.int .i64))) .nil))), (.int .i64)]
theorem tysAre : TysAre Tryz.prog tys Tryz.f11.params.toList := by
  rw [Tryz.params11]
  exact ⟨rfl, ⟨_, Tryz.underlying22, by kernel_rfl, by decide, ⟨_, Tryz.underlying114, by kernel_rfl, ⟨rfl, by kernel_rfl, Tryz.underlying9, ⟨rfl, by kernel_rfl, Tryz.underlying3, ⟨rfl, by kernel_rfl, Tryz.underlying3, ⟨rfl, by kernel_rfl, Tryz.underlying3, rfl⟩⟩⟩⟩⟩⟩, by kernel_rfl, of_decide_eq_true (by kernel_rfl), ⟨rfl, ⟨_, Tryz.underlying25, by kernel_rfl, ⟨rfl, by kernel_rfl, Tryz.underlying3, ⟨rfl, by kernel_rfl, ⟨_, Tryz.underlying23, by kernel_rfl, by decide, ⟨_, Tryz.underlying30, by kernel_rfl, by decide, Tryz.underlying3⟩⟩, rfl⟩⟩⟩, by kernel_rfl, of_decide_eq_true (by kernel_rfl), ⟨rfl, Tryz.underlying3, by kernel_rfl, of_decide_eq_true (by kernel_rfl), trivial⟩⟩⟩
theorem starErr : "*" ++ "errors.errorString" = "*errors.errorString" := by decide
theorem rowErr (u : TypeId) (h : Tryz.prog.typeName? 3 u = some "*errors.errorString") : u = 279 :=
  typeName_ptr_named (nm := "errors.errorString") (by rw [starErr]; kernel_rfl) (by kernel_rfl) (by decide) u (by rw [starErr]; exact h)
theorem powLaid : (Rows.laid_internal_strconv_uint64pow10 : DataW Unit) = Lib.tabData .u64 Lib.pow10Tab := by kernel_rfl
theorem tabs {W : World} (h0 : laidMetH Tryz.prog [("math/bits.deBruijn32tab", Rows.laid_math_bits_deBruijn32tab), ("math/bits.deBruijn64tab", Rows.laid_math_bits_deBruijn64tab), ("internal/strconv.uint64pow10", Rows.laid_internal_strconv_uint64pow10), ("unicode/utf8.acceptRanges", Rows.laid_unicode_utf8_acceptRanges), ("strconv.ErrRange", Rows.laid_strconv_ErrRange), ("strconv.ErrSyntax", Rows.laid_strconv_ErrSyntax), ("unicode/utf8.first", Rows.laid_unicode_utf8_first)] W) : Tabs Tryz.prog W := by
  rw [MakeChecks.laidMetH_plain _ _ _ (by kernel_rfl)] at h0
  have h := h0
  have h1 := h.tail.tail
  rw [powLaid] at h1
  refine Tabs.of_laid (Lib.tabIs_of_head (g := 1) (t := 261) (e := 237) (n := 20) (by kernel_rfl) (by kernel_rfl) Tryz.underlying261 Tryz.underlying237 (by kernel_rfl) (by kernel_rfl) h1) ?_ ?_
  · obtain ⟨a, s, hv, _⟩ := laid_sentinel (g := 5) (h.tail.tail.tail.tail) (by kernel_rfl) (by kernel_rfl) Tryz.underlying209 rowErr Tryz.underlying279 Tryz.underlying281 rfl rfl Tryz.underlying9 (by kernel_rfl) (by kernel_rfl)
    exact ⟨_, _, hv⟩
  · obtain ⟨a, s, hv, _⟩ := laid_sentinel (g := 4) (h.tail.tail.tail.tail.tail) (by kernel_rfl) (by kernel_rfl) Tryz.underlying209 rowErr Tryz.underlying279 Tryz.underlying281 rfl rfl Tryz.underlying9 (by kernel_rfl) (by kernel_rfl)
    exact ⟨_, _, hv⟩
theorem contract : ∀ xs, ArgsIs tys xs → CtT Tryz.prog 11 xs (.bool true) := by
  intro xs h
  match xs, h with
  | [x0, x1, x2], h =>
    obtain ⟨h0, ⟨y1, rfl, h1⟩, h2, _⟩ := h
    obtain ⟨a0, rfl⟩ := sh_jobs h0
    obtain ⟨a1, rfl⟩ := sh_changes h1
    obtain ⟨a2, rfl⟩ := sh_int h2
    exact law_TopShopBounded
  | [], h => exact h.elim
  | [_], h => exact h.2.elim
  | [_, _], h => exact h.2.2.elim
  | _ :: _ :: _ :: _ :: _, h => exact h.2.2.2.elim
set_option maxRecDepth 100000 in
theorem lifted (os : Os) (started : os.Started) (H : Type) (enc : TypeId × Value → H) :
    ReturnsInHanded {} Tryz.checked os 11 .any (fun w args => (Rows.topShopBoundedSpec.pre enc Tryz.prog Tryz.f11 [] false w args ∧ laidMetH Tryz.prog [("math/bits.deBruijn32tab", Rows.laid_math_bits_deBruijn32tab), ("math/bits.deBruijn64tab", Rows.laid_math_bits_deBruijn64tab), ("internal/strconv.uint64pow10", Rows.laid_internal_strconv_uint64pow10), ("unicode/utf8.acceptRanges", Rows.laid_unicode_utf8_acceptRanges), ("strconv.ErrRange", Rows.laid_strconv_ErrRange), ("strconv.ErrSyntax", Rows.laid_strconv_ErrSyntax), ("unicode/utf8.first", Rows.laid_unicode_utf8_first)] w) ∧ sizedMet enc Tryz.prog Tryz.f11 (OpenSpec.ofChange Rows.topShopBoundedSpec) false w args)
      (Rows.topShopBoundedSpec.post enc Tryz.prog Tryz.f11 false true false false) := by
  refine returnsInHanded_of_change_and (C := Tryz.checked) (X := fun w _ => laidMetH Tryz.prog [("math/bits.deBruijn32tab", Rows.laid_math_bits_deBruijn32tab), ("math/bits.deBruijn64tab", Rows.laid_math_bits_deBruijn64tab), ("internal/strconv.uint64pow10", Rows.laid_internal_strconv_uint64pow10), ("unicode/utf8.acceptRanges", Rows.laid_unicode_utf8_acceptRanges), ("strconv.ErrRange", Rows.laid_strconv_ErrRange), ("strconv.ErrSyntax", Rows.laid_strconv_ErrSyntax), ("unicode/utf8.first", Rows.laid_unicode_utf8_first)] w) (fun _ _ _ hh h => h.of_heap hh) own started (by kernel_rfl) Tryz.func11
    (ChangeSpec.witness_shaped (enc := enc) (C := Tryz.checked) (os := os) (X := fun w _ => laidMetH Tryz.prog [("math/bits.deBruijn32tab", Rows.laid_math_bits_deBruijn32tab), ("math/bits.deBruijn64tab", Rows.laid_math_bits_deBruijn64tab), ("internal/strconv.uint64pow10", Rows.laid_internal_strconv_uint64pow10), ("unicode/utf8.acceptRanges", Rows.laid_unicode_utf8_acceptRanges), ("strconv.ErrRange", Rows.laid_strconv_ErrRange), ("strconv.ErrSyntax", Rows.laid_strconv_ErrSyntax), ("unicode/utf8.first", Rows.laid_unicode_utf8_first)] w) false (World.laidAll Tryz.prog os [("math/bits.deBruijn32tab", Rows.laid_math_bits_deBruijn32tab), ("math/bits.deBruijn64tab", Rows.laid_math_bits_deBruijn64tab), ("internal/strconv.uint64pow10", Rows.laid_internal_strconv_uint64pow10), ("unicode/utf8.acceptRanges", Rows.laid_unicode_utf8_acceptRanges), ("strconv.ErrRange", Rows.laid_strconv_ErrRange), ("strconv.ErrSyntax", Rows.laid_strconv_ErrSyntax), ("unicode/utf8.first", Rows.laid_unicode_utf8_first)]) #[.slice none 0 0, .agg #[.int .i64 (0), .slice none 0 0], .int .i64 (0)] 8 (World.laidAll_os _ _ _)
      (World.shaped_of_ZipB (by kernel_rfl) (by kernel_rfl)) (by kernel_rfl) (by kernel_rfl) (by kernel_rfl)
      (by rw [MakeChecks.laidMetH_plain _ _ _ (by kernel_rfl)]; exact laidMet_laidAll _ (by kernel_rfl) (by kernel_rfl))) ?_
  intro W base args ds gs before hval0 hW hcnd _ hL _
  have hval : ∀ (j : Nat) t v, Tryz.f11.params[j]? = some t → args[j]? = some v → Value.okWide Tryz.prog W .any base t v := hval0
  clear hcnd hval0
  exact law_callsT (P := Tryz.prog) (f := 11) (fn := Tryz.f11) (s := Rows.topShopBoundedSpec) (Ts := tys) (tb := 4) (apart := false) (fresh := true) (handsOn := false) contract (tabs hL) laidOut tysAre rfl (by kernel_rfl) Tryz.underlying4
    (fun ds h => by
      rw [Tryz.params11] at h
      match ds, h with
      | [_, _, _], _ => rfl) hval hW
end Go.Proofs.YtpfepjgnojfppaaGreatDoor.topShopBounded
namespace Go.Proofs.YtpfepjgnojfppaaGreatDoor
open Go.ChangeAt
theorem topShopBounded_closed : joinedFacts Tryz.prog 11 Tryz.f11 Rows.topShopBoundedSpec Rows.topShopBoundedRow = true := by kernel_rfl
theorem topShopBounded_named : Tryz.prog.funcNamed Rows.topShopBoundedRow.func = some 11 := by kernel_rfl
theorem topShopBounded_inst : Tryz.f11.isInstance Tryz.prog Rows.topShopBoundedRow.origin Rows.topShopBoundedRow.targs := of_decide_eq_true (by kernel_rfl)
theorem topShopBounded_wrap : Tryz.f11.isWrapper Tryz.prog Rows.topShopBoundedRow.wrapper Rows.topShopBoundedRow.mainSum := by unfold Func.isWrapper; first | (rw [if_pos (by decide +kernel)]; kernel_rfl) | (rw [if_neg (by decide +kernel)]; exact ⟨rfl, rfl⟩)
theorem topShopBounded_row : Rows.TopShopBoundedSaid :=
  OpenClaim.holds_of_wide (p := Tryz.pinned) 11 Tryz.f11 rfl rfl rfl rfl rfl rfl rfl ⟨rfl, rfl, rfl, rfl, rfl⟩ rfl rfl rfl rfl rfl topShopBounded_named Tryz.func11 topShopBounded_closed
    topShopBounded_inst topShopBounded_wrap
    (fun os started H enc _ => topShopBounded.lifted os started H enc)
theorem topShopBounded_holds : Rows.TopShopBoundedCardSaid :=
  Claim7.holds_tied_plain_at .later [] [.data, .data, .data, .data, .sentinel, .sentinel, .pinned] true (true, "e1979a5a518b8bef3ca9500281bd7263a2f377c2649a17e4517476346483e993") true topShopBounded_row (fun _ h => by cases h) (by kernel_rfl) (fun _ h => by cases h) topShopBounded_row_tie rfl ⟨rfl, rfl⟩ (by kernel_rfl) rfl
    (fun f fn hf hfn => by
      obtain rfl : f = 11 := Option.some.inj ((show Tryz.prog.funcNamed "martensite/martensitetop.TopShopBounded" = some 11 by kernel_rfl).symm.trans hf) |>.symm
      obtain rfl : fn = Tryz.f11 := (Option.some.inj (Tryz.func11.symm.trans hfn)).symm
      exact ⟨by kernel_rfl, fun j t ht => by
        rw [Tryz.params11] at ht
        have hm : t ∈ [22, 25, 3] := by simpa using Array.mem_of_getElem? ht
        have hall : ([22, 25, 3].all fun u => !Tryz.prog.wantsStandIn u) = true := by kernel_rfl
        exact (show Tryz.prog.wantsStandIn t = false by simpa using List.all_eq_true.1 hall t hm)⟩)
    (by kernel_rfl)
end Go.Proofs.YtpfepjgnojfppaaGreatDoor
