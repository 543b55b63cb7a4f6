/-
  TopMonitorShift: for every input the law returns true, and each argument reads behind the call as it read before; the row lists tables of the library's, and the card ties them to the program's text. No other condition.
-/
import Derived.Handy
import Derived.Lay
import Derived.ProofKit
import Derived.SevenTiedAt
import Derived.Test.YtpmglnphhhlbdaaGreatDoorCards
import Derived.Test.YtpmglnphhhlbdaaGreatDoorRows
import Derived.Test.YtpmglnphhhlbdaaGreatDoorTie
import Derived.WalkKit
import Derived.Test.YtpmglnphhhlbdaaGreatDoorFs
import Derived.Test.YtpmglnphhhlbdaaGreatDoorGu
import Derived.Test.YtpmglnphhhlbdaaGreatDoorMt
namespace Go.Proofs.YtpmglnphhhlbdaaGreatDoor.topMonitorShift
open Go.Ab Go.ChangeShapes Go.WideShapes Go.ChangeAt Go.RowKit
theorem own : ownKnob Tryz.prog.godebug = none := by kernel_rfl
theorem laidOut : laidOutB Tryz.prog = true := by kernel_rfl
def tys : List Ty := [(.st (.cons (.sl .str) (.cons (.int .i64) .nil))), (.st (.cons (.sl (.st (.cons (.sl (.st (.cons .bool (.cons (.sl (.int .i64)) .nil)))) .nil))) (.cons (.int .i64) (.cons (.sl (.sl (.st (.cons (.int .i64) (.cons (.sl (.int .i64)) .nil))))) .nil))))]
theorem tysAre : TysAre Tryz.prog tys Tryz.f4.params.toList := by
  rw [Tryz.params4]
  exact ⟨rfl, ⟨_, Tryz.underlying24, by kernel_rfl, ⟨rfl, by kernel_rfl, ⟨_, Tryz.underlying22, by kernel_rfl, by decide, Tryz.underlying9⟩, ⟨rfl, by kernel_rfl, Tryz.underlying3, rfl⟩⟩⟩, by kernel_rfl, of_decide_eq_true (by kernel_rfl), ⟨rfl, ⟨_, Tryz.underlying66, by kernel_rfl, ⟨rfl, by kernel_rfl, ⟨_, Tryz.underlying63, by kernel_rfl, by decide, ⟨_, Tryz.underlying75, by kernel_rfl, ⟨rfl, by kernel_rfl, ⟨_, Tryz.underlying73, by kernel_rfl, by decide, ⟨_, Tryz.underlying162, by kernel_rfl, ⟨rfl, by kernel_rfl, Tryz.underlying4, ⟨rfl, by kernel_rfl, ⟨_, Tryz.underlying25, by kernel_rfl, by decide, Tryz.underlying3⟩, rfl⟩⟩⟩⟩, rfl⟩⟩⟩, ⟨rfl, by kernel_rfl, Tryz.underlying3, ⟨rfl, by kernel_rfl, ⟨_, Tryz.underlying64, by kernel_rfl, by decide, ⟨_, Tryz.underlying71, by kernel_rfl, by decide, ⟨_, Tryz.underlying27, by kernel_rfl, ⟨rfl, by kernel_rfl, Tryz.underlying3, ⟨rfl, by kernel_rfl, ⟨_, Tryz.underlying25, by kernel_rfl, by decide, Tryz.underlying3⟩, rfl⟩⟩⟩⟩⟩, rfl⟩⟩⟩⟩, by kernel_rfl, of_decide_eq_true (by kernel_rfl), trivial⟩⟩
theorem starErr : "*" ++ "errors.errorString" = "*errors.errorString" := by decide
theorem rowErr (u : TypeId) (h : Tryz.prog.typeName? 3 u = some "*errors.errorString") : u = 291 :=
  typeName_ptr_named (nm := "errors.errorString") (by rw [starErr]; kernel_rfl) (by kernel_rfl) (by decide) u (by rw [starErr]; exact h)
theorem powLaid : (Rows.laid_internal_strconv_uint64pow10 : DataW Unit) = Lib.tabData .u64 Lib.pow10Tab := by kernel_rfl
theorem tabs {W : World} (h0 : laidMetH Tryz.prog [("math/bits.deBruijn32tab", Rows.laid_math_bits_deBruijn32tab), ("math/bits.deBruijn64tab", Rows.laid_math_bits_deBruijn64tab), ("internal/strconv.uint64pow10", Rows.laid_internal_strconv_uint64pow10), ("unicode/utf8.acceptRanges", Rows.laid_unicode_utf8_acceptRanges), ("strconv.ErrRange", Rows.laid_strconv_ErrRange), ("strconv.ErrSyntax", Rows.laid_strconv_ErrSyntax), ("unicode/utf8.first", Rows.laid_unicode_utf8_first)] W) : Tabs Tryz.prog W := by
  rw [MakeChecks.laidMetH_plain _ _ _ (by kernel_rfl)] at h0
  have h := h0
  have h1 := h.tail.tail
  rw [powLaid] at h1
  refine Tabs.of_laid (Lib.tabIs_of_head (g := 1) (t := 274) (e := 248) (n := 20) (by kernel_rfl) (by kernel_rfl) Tryz.underlying274 Tryz.underlying248 (by kernel_rfl) (by kernel_rfl) h1) ?_ ?_
  · obtain ⟨a, s, hv, _⟩ := laid_sentinel (g := 3) (h.tail.tail.tail.tail) (by kernel_rfl) (by kernel_rfl) Tryz.underlying193 rowErr Tryz.underlying291 Tryz.underlying293 rfl rfl Tryz.underlying9 (by kernel_rfl) (by kernel_rfl)
    exact ⟨_, _, hv⟩
  · obtain ⟨a, s, hv, _⟩ := laid_sentinel (g := 2) (h.tail.tail.tail.tail.tail) (by kernel_rfl) (by kernel_rfl) Tryz.underlying193 rowErr Tryz.underlying291 Tryz.underlying293 rfl rfl Tryz.underlying9 (by kernel_rfl) (by kernel_rfl)
    exact ⟨_, _, hv⟩
theorem contract : ∀ xs, ArgsIs tys xs → CtT Tryz.prog 4 xs (.bool true) := by
  intro xs h
  match xs, h with
  | [x0, x1], h =>
    obtain ⟨⟨y0, rfl, h0⟩, ⟨y1, rfl, h1⟩, _⟩ := h
    obtain ⟨a0, rfl⟩ := sh_plan h0
    obtain ⟨a1, rfl⟩ := sh_shift h1
    exact law_TopMonitorShift
  | [], h => exact h.elim
  | [_], h => exact h.2.elim
  | _ :: _ :: _ :: _, h => exact h.2.2.elim
set_option maxRecDepth 100000 in
theorem lifted (os : Os) (started : os.Started) (H : Type) (enc : TypeId × Value → H) :
    ReturnsInHanded {} Tryz.checked os 4 .any (fun w args => (Rows.topMonitorShiftSpec.pre enc Tryz.prog Tryz.f4 [] false w args ∧ laidMetH Tryz.prog [("math/bits.deBruijn32tab", Rows.laid_math_bits_deBruijn32tab), ("math/bits.deBruijn64tab", Rows.laid_math_bits_deBruijn64tab), ("internal/strconv.uint64pow10", Rows.laid_internal_strconv_uint64pow10), ("unicode/utf8.acceptRanges", Rows.laid_unicode_utf8_acceptRanges), ("strconv.ErrRange", Rows.laid_strconv_ErrRange), ("strconv.ErrSyntax", Rows.laid_strconv_ErrSyntax), ("unicode/utf8.first", Rows.laid_unicode_utf8_first)] w) ∧ sizedMet enc Tryz.prog Tryz.f4 (OpenSpec.ofChange Rows.topMonitorShiftSpec) false w args)
      (Rows.topMonitorShiftSpec.post enc Tryz.prog Tryz.f4 false true false false) := by
  refine returnsInHanded_of_change_and (C := Tryz.checked) (X := fun w _ => laidMetH Tryz.prog [("math/bits.deBruijn32tab", Rows.laid_math_bits_deBruijn32tab), ("math/bits.deBruijn64tab", Rows.laid_math_bits_deBruijn64tab), ("internal/strconv.uint64pow10", Rows.laid_internal_strconv_uint64pow10), ("unicode/utf8.acceptRanges", Rows.laid_unicode_utf8_acceptRanges), ("strconv.ErrRange", Rows.laid_strconv_ErrRange), ("strconv.ErrSyntax", Rows.laid_strconv_ErrSyntax), ("unicode/utf8.first", Rows.laid_unicode_utf8_first)] w) (fun _ _ _ hh h => h.of_heap hh) own started (by kernel_rfl) Tryz.func4
    (ChangeSpec.witness_shaped (enc := enc) (C := Tryz.checked) (os := os) (X := fun w _ => laidMetH Tryz.prog [("math/bits.deBruijn32tab", Rows.laid_math_bits_deBruijn32tab), ("math/bits.deBruijn64tab", Rows.laid_math_bits_deBruijn64tab), ("internal/strconv.uint64pow10", Rows.laid_internal_strconv_uint64pow10), ("unicode/utf8.acceptRanges", Rows.laid_unicode_utf8_acceptRanges), ("strconv.ErrRange", Rows.laid_strconv_ErrRange), ("strconv.ErrSyntax", Rows.laid_strconv_ErrSyntax), ("unicode/utf8.first", Rows.laid_unicode_utf8_first)] w) false (World.laidAll Tryz.prog os [("math/bits.deBruijn32tab", Rows.laid_math_bits_deBruijn32tab), ("math/bits.deBruijn64tab", Rows.laid_math_bits_deBruijn64tab), ("internal/strconv.uint64pow10", Rows.laid_internal_strconv_uint64pow10), ("unicode/utf8.acceptRanges", Rows.laid_unicode_utf8_acceptRanges), ("strconv.ErrRange", Rows.laid_strconv_ErrRange), ("strconv.ErrSyntax", Rows.laid_strconv_ErrSyntax), ("unicode/utf8.first", Rows.laid_unicode_utf8_first)]) #[.agg #[.slice none 0 0, .int .i64 (0)], .agg #[.slice none 0 0, .int .i64 (0), .slice none 0 0]] 8 (World.laidAll_os _ _ _)
      (World.shaped_of_ZipB (by kernel_rfl) (by kernel_rfl)) (by kernel_rfl) (by kernel_rfl) (by kernel_rfl)
      (by rw [MakeChecks.laidMetH_plain _ _ _ (by kernel_rfl)]; exact laidMet_laidAll _ (by kernel_rfl) (by kernel_rfl))) ?_
  intro W base args ds gs before hval0 hW hcnd _ hL _
  have hval : ∀ (j : Nat) t v, Tryz.f4.params[j]? = some t → args[j]? = some v → Value.okWide Tryz.prog W .any base t v := hval0
  clear hcnd hval0
  exact law_callsT (P := Tryz.prog) (f := 4) (fn := Tryz.f4) (s := Rows.topMonitorShiftSpec) (Ts := tys) (tb := 4) (apart := false) (fresh := true) (handsOn := false) contract (tabs hL) laidOut tysAre rfl (by kernel_rfl) Tryz.underlying4
    (fun ds h => by
      rw [Tryz.params4] at h
      match ds, h with
      | [_, _], _ => rfl) hval hW
end Go.Proofs.YtpmglnphhhlbdaaGreatDoor.topMonitorShift
namespace Go.Proofs.YtpmglnphhhlbdaaGreatDoor
open Go.ChangeAt
theorem topMonitorShift_closed : joinedFacts Tryz.prog 4 Tryz.f4 Rows.topMonitorShiftSpec Rows.topMonitorShiftRow = true := by kernel_rfl
theorem topMonitorShift_named : Tryz.prog.funcNamed Rows.topMonitorShiftRow.func = some 4 := by kernel_rfl
theorem topMonitorShift_inst : Tryz.f4.isInstance Tryz.prog Rows.topMonitorShiftRow.origin Rows.topMonitorShiftRow.targs := of_decide_eq_true (by kernel_rfl)
theorem topMonitorShift_wrap : Tryz.f4.isWrapper Tryz.prog Rows.topMonitorShiftRow.wrapper Rows.topMonitorShiftRow.mainSum := by unfold Func.isWrapper; first | (rw [if_pos (by decide +kernel)]; kernel_rfl) | (rw [if_neg (by decide +kernel)]; exact ⟨rfl, rfl⟩)
theorem topMonitorShift_row : Rows.TopMonitorShiftSaid :=
  OpenClaim.holds_of_wide (p := Tryz.pinned) 4 Tryz.f4 rfl rfl rfl rfl rfl rfl rfl ⟨rfl, rfl, rfl, rfl, rfl⟩ rfl rfl rfl rfl rfl topMonitorShift_named Tryz.func4 topMonitorShift_closed
    topMonitorShift_inst topMonitorShift_wrap
    (fun os started H enc _ => topMonitorShift.lifted os started H enc)
theorem topMonitorShift_holds : Rows.TopMonitorShiftCardSaid :=
  Claim7.holds_tied_plain_at .later [] [.data, .data, .data, .data, .sentinel, .sentinel, .pinned] true (true, "c7a92766f4b4ca7388f3d2e793ca2c505510bb0859ed8d4bc0635371e831d4e5") true topMonitorShift_row (fun _ h => by cases h) (by kernel_rfl) (fun _ h => by cases h) topMonitorShift_row_tie rfl ⟨rfl, rfl⟩ (by kernel_rfl) rfl
    (fun f fn hf hfn => by
      obtain rfl : f = 4 := Option.some.inj ((show Tryz.prog.funcNamed "martensite/martensitetop.TopMonitorShift" = some 4 by kernel_rfl).symm.trans hf) |>.symm
      obtain rfl : fn = Tryz.f4 := (Option.some.inj (Tryz.func4.symm.trans hfn)).symm
      exact ⟨by kernel_rfl, fun j t ht => by
        rw [Tryz.params4] at ht
        have hm : t ∈ [24, 66] := by simpa using Array.mem_of_getElem? ht
        have hall : ([24, 66].all fun u => !Tryz.prog.wantsStandIn u) = true := by kernel_rfl
        exact (show Tryz.prog.wantsStandIn t = false by simpa using List.all_eq_true.1 hall t hm)⟩)
    (by kernel_rfl)
end Go.Proofs.YtpmglnphhhlbdaaGreatDoor
