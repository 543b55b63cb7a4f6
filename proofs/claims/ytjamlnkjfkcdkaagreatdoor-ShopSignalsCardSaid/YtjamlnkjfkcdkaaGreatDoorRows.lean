/-
  NARROWER THAN 'FOR EVERY INPUT', by the rows' own cells (each row's printed sentence says how): ShopBest: laid · ShopBelowPeak: laid · ShopCapability: laid · ShopRuns: laid · ShopBaths: laid · ShopChecked: laid · ShopBounds: laid · ShopBaskets: laid · ShopNeverMixed: laid · ShopOrders: laid · ShopSignals: laid · ShopSameChart: laid.
  DERIVED. THE GIVEN ROWS OF THIS SEAT. 12 by the template 'for every input the law returns true; each argument reads behind the call as it read before'; 0 by the template 'total and deterministic' (their statements: YtjamlnkjfkcdkaaGreatDoorTotals.lean).
  GIVEN WITH THE SEED: the statements are not yours to turn. If you find one false, say at which input.
  Laid BY PROGRAM, IN A SANDBOX (cutbox-rows.mjs): the forced cells as the released guide's own fill.sh prints them over the translation 2fee3ef7cc94c954… (all of the seat's roots in one cut). By AI agents, Wed Nov 11 2026. No macro, syntax, notation, axiom, sorry.
-/
import Derived.Test.YtjamlnkjfkcdkaaGreatDoorChecked
import GoSem.Claim
import GoSem.ClaimJoined
import GoSem.ClaimMapViews
import Derived.JoinedTies
import Derived.KernelRfl
namespace Go.Proofs.YtjamlnkjfkcdkaaGreatDoor
/- THE CELL 'sum', in the pinned program and in every row, IS THE sha256 OF THE DUMP (.gsa) THAT YtjamlnkjfkcdkaaGreatDoorProg.lean LOADS. Nothing in Lean hashes anything: it is a label: what it is worth is what the hold of that sum in a sandbox is worth. -/
noncomputable def Tryz.pinned : Pinned := { name := "ytjamlnkjfkcdkaagreatdoor", sum := "2fee3ef7cc94c9540b6247dc4ace0220ec5a3a83d46ea369287e2b59041edc31", checked := Tryz.checked }
namespace Rows
def none {H : Type} : Left H := { results := [], args := [] }

/- WHAT THE LISTED PACKAGE-LEVEL VARIABLES READ AS WHEN THE CALL BEGINS. Each datum BY PROGRAM (the guide's laid-datum.mjs) off the statement by which the dump's own 'gosem.cut.vars' lays the variable. In a bare row this is a premise. The card (YtjamlnkjfkcdkaaGreatDoorCards.lean) ties it to the program's text. -/
def laid_math_bits_deBruijn32tab {H : Type} : DataW H := .agg [.lit (.int .u8 0), .lit (.int .u8 1), .lit (.int .u8 28), .lit (.int .u8 2), .lit (.int .u8 29), .lit (.int .u8 14), .lit (.int .u8 24), .lit (.int .u8 3), .lit (.int .u8 30), .lit (.int .u8 22), .lit (.int .u8 20), .lit (.int .u8 15), .lit (.int .u8 25), .lit (.int .u8 17), .lit (.int .u8 4), .lit (.int .u8 8), .lit (.int .u8 31), .lit (.int .u8 27), .lit (.int .u8 13), .lit (.int .u8 23), .lit (.int .u8 21), .lit (.int .u8 19), .lit (.int .u8 16), .lit (.int .u8 7), .lit (.int .u8 26), .lit (.int .u8 12), .lit (.int .u8 18), .lit (.int .u8 6), .lit (.int .u8 11), .lit (.int .u8 5), .lit (.int .u8 10), .lit (.int .u8 9)]
def laid_math_bits_deBruijn64tab {H : Type} : DataW H := .agg [.lit (.int .u8 0), .lit (.int .u8 1), .lit (.int .u8 56), .lit (.int .u8 2), .lit (.int .u8 57), .lit (.int .u8 49), .lit (.int .u8 28), .lit (.int .u8 3), .lit (.int .u8 61), .lit (.int .u8 58), .lit (.int .u8 42), .lit (.int .u8 50), .lit (.int .u8 38), .lit (.int .u8 29), .lit (.int .u8 17), .lit (.int .u8 4), .lit (.int .u8 62), .lit (.int .u8 47), .lit (.int .u8 59), .lit (.int .u8 36), .lit (.int .u8 45), .lit (.int .u8 43), .lit (.int .u8 51), .lit (.int .u8 22), .lit (.int .u8 53), .lit (.int .u8 39), .lit (.int .u8 33), .lit (.int .u8 30), .lit (.int .u8 24), .lit (.int .u8 18), .lit (.int .u8 12), .lit (.int .u8 5), .lit (.int .u8 63), .lit (.int .u8 55), .lit (.int .u8 48), .lit (.int .u8 27), .lit (.int .u8 60), .lit (.int .u8 41), .lit (.int .u8 37), .lit (.int .u8 16), .lit (.int .u8 46), .lit (.int .u8 35), .lit (.int .u8 44), .lit (.int .u8 21), .lit (.int .u8 52), .lit (.int .u8 32), .lit (.int .u8 23), .lit (.int .u8 11), .lit (.int .u8 54), .lit (.int .u8 26), .lit (.int .u8 40), .lit (.int .u8 15), .lit (.int .u8 34), .lit (.int .u8 20), .lit (.int .u8 31), .lit (.int .u8 10), .lit (.int .u8 25), .lit (.int .u8 14), .lit (.int .u8 19), .lit (.int .u8 9), .lit (.int .u8 13), .lit (.int .u8 8), .lit (.int .u8 7), .lit (.int .u8 6)]
def laid_internal_strconv_uint64pow10 {H : Type} : DataW H := .agg [.lit (.int .u64 1), .lit (.int .u64 10), .lit (.int .u64 100), .lit (.int .u64 1000), .lit (.int .u64 10000), .lit (.int .u64 100000), .lit (.int .u64 1000000), .lit (.int .u64 10000000), .lit (.int .u64 100000000), .lit (.int .u64 1000000000), .lit (.int .u64 10000000000), .lit (.int .u64 100000000000), .lit (.int .u64 1000000000000), .lit (.int .u64 10000000000000), .lit (.int .u64 100000000000000), .lit (.int .u64 1000000000000000), .lit (.int .u64 10000000000000000), .lit (.int .u64 100000000000000000), .lit (.int .u64 1000000000000000000), .lit (.int .u64 10000000000000000000)]

/-- 'martensitelaw09.ShopBest': WHATEVER THE INPUT: true; the input reads as it did. -/
def shopBestSpec : ChangeSpec := { name := "shopBest", fn := fun _ => fun
  | [d1, d2] => { results := [.lit (.bool true)], args := [d1, d2] }
  | _ => none }
def shopBestRow : OpenClaim := { program := "ytjamlnkjfkcdkaagreatdoor", sum := "2fee3ef7cc94c9540b6247dc4ace0220ec5a3a83d46ea369287e2b59041edc31", func := "martensite/martensitelaw09.ShopBest", spec := "shopBest", inPlace := ["internal/abi.NoEscape", "internal/bytealg.MakeNoZero"], unfollowed := true, recurses := true, named := ["internal/strconv.uint64pow10", "math/bits.deBruijn32tab", "math/bits.deBruijn64tab"], apart := false, laid := [("math/bits.deBruijn32tab", laid_math_bits_deBruijn32tab), ("math/bits.deBruijn64tab", laid_math_bits_deBruijn64tab), ("internal/strconv.uint64pow10", laid_internal_strconv_uint64pow10)] }
def ShopBestSaid : Prop := shopBestRow.holds Tryz.pinned (OpenSpec.ofChange shopBestSpec)

/-- ITS FALSE NEIGHBOUR: 'it returns false'. Refute it at one input. -/
def shopBestWrong : ChangeSpec := { name := "shopBest", fn := fun _ => fun
  | [d1, d2] => { results := [.lit (.bool false)], args := [d1, d2] }
  | _ => none }
def ShopBestWrongFalsely : Prop := shopBestRow.holds Tryz.pinned (OpenSpec.ofChange shopBestWrong)

/-- 'martensitelaw09.ShopBelowPeak': WHATEVER THE INPUT: true; the input reads as it did. -/
def shopBelowPeakSpec : ChangeSpec := { name := "shopBelowPeak", fn := fun _ => fun
  | [d1, d2, d3] => { results := [.lit (.bool true)], args := [d1, d2, d3] }
  | _ => none }
def shopBelowPeakRow : OpenClaim := { program := "ytjamlnkjfkcdkaagreatdoor", sum := "2fee3ef7cc94c9540b6247dc4ace0220ec5a3a83d46ea369287e2b59041edc31", func := "martensite/martensitelaw09.ShopBelowPeak", spec := "shopBelowPeak", inPlace := ["internal/abi.NoEscape", "internal/bytealg.MakeNoZero"], unfollowed := true, recurses := true, named := ["internal/strconv.uint64pow10", "math/bits.deBruijn32tab", "math/bits.deBruijn64tab"], apart := false, laid := [("math/bits.deBruijn32tab", laid_math_bits_deBruijn32tab), ("math/bits.deBruijn64tab", laid_math_bits_deBruijn64tab), ("internal/strconv.uint64pow10", laid_internal_strconv_uint64pow10)] }
def ShopBelowPeakSaid : Prop := shopBelowPeakRow.holds Tryz.pinned (OpenSpec.ofChange shopBelowPeakSpec)

/-- ITS FALSE NEIGHBOUR: 'it returns false'. Refute it at one input. -/
def shopBelowPeakWrong : ChangeSpec := { name := "shopBelowPeak", fn := fun _ => fun
  | [d1, d2, d3] => { results := [.lit (.bool false)], args := [d1, d2, d3] }
  | _ => none }
def ShopBelowPeakWrongFalsely : Prop := shopBelowPeakRow.holds Tryz.pinned (OpenSpec.ofChange shopBelowPeakWrong)

/-- 'martensitelaw09.ShopCapability': WHATEVER THE INPUT: true; the input reads as it did. -/
def shopCapabilitySpec : ChangeSpec := { name := "shopCapability", fn := fun _ => fun
  | [d1, d2] => { results := [.lit (.bool true)], args := [d1, d2] }
  | _ => none }
def shopCapabilityRow : OpenClaim := { program := "ytjamlnkjfkcdkaagreatdoor", sum := "2fee3ef7cc94c9540b6247dc4ace0220ec5a3a83d46ea369287e2b59041edc31", func := "martensite/martensitelaw09.ShopCapability", spec := "shopCapability", inPlace := ["internal/abi.NoEscape", "internal/bytealg.MakeNoZero"], unfollowed := true, recurses := true, named := ["internal/strconv.uint64pow10", "math/bits.deBruijn32tab", "math/bits.deBruijn64tab"], apart := false, laid := [("math/bits.deBruijn32tab", laid_math_bits_deBruijn32tab), ("math/bits.deBruijn64tab", laid_math_bits_deBruijn64tab), ("internal/strconv.uint64pow10", laid_internal_strconv_uint64pow10)] }
def ShopCapabilitySaid : Prop := shopCapabilityRow.holds Tryz.pinned (OpenSpec.ofChange shopCapabilitySpec)

/-- ITS FALSE NEIGHBOUR: 'it returns false'. Refute it at one input. -/
def shopCapabilityWrong : ChangeSpec := { name := "shopCapability", fn := fun _ => fun
  | [d1, d2] => { results := [.lit (.bool false)], args := [d1, d2] }
  | _ => none }
def ShopCapabilityWrongFalsely : Prop := shopCapabilityRow.holds Tryz.pinned (OpenSpec.ofChange shopCapabilityWrong)

/-- 'martensitelaw09.ShopRuns': WHATEVER THE INPUT: true; the input reads as it did. -/
def shopRunsSpec : ChangeSpec := { name := "shopRuns", fn := fun _ => fun
  | [d1, d2, d3] => { results := [.lit (.bool true)], args := [d1, d2, d3] }
  | _ => none }
def shopRunsRow : OpenClaim := { program := "ytjamlnkjfkcdkaagreatdoor", sum := "2fee3ef7cc94c9540b6247dc4ace0220ec5a3a83d46ea369287e2b59041edc31", func := "martensite/martensitelaw09.ShopRuns", spec := "shopRuns", inPlace := ["internal/abi.NoEscape", "internal/bytealg.MakeNoZero"], unfollowed := true, recurses := true, named := ["internal/strconv.uint64pow10", "math/bits.deBruijn32tab", "math/bits.deBruijn64tab"], apart := false, laid := [("math/bits.deBruijn32tab", laid_math_bits_deBruijn32tab), ("math/bits.deBruijn64tab", laid_math_bits_deBruijn64tab), ("internal/strconv.uint64pow10", laid_internal_strconv_uint64pow10)] }
def ShopRunsSaid : Prop := shopRunsRow.holds Tryz.pinned (OpenSpec.ofChange shopRunsSpec)

/-- ITS FALSE NEIGHBOUR: 'it returns false'. Refute it at one input. -/
def shopRunsWrong : ChangeSpec := { name := "shopRuns", fn := fun _ => fun
  | [d1, d2, d3] => { results := [.lit (.bool false)], args := [d1, d2, d3] }
  | _ => none }
def ShopRunsWrongFalsely : Prop := shopRunsRow.holds Tryz.pinned (OpenSpec.ofChange shopRunsWrong)

/-- 'martensitelaw09.ShopBaths': WHATEVER THE INPUT: true; the input reads as it did. -/
def shopBathsSpec : ChangeSpec := { name := "shopBaths", fn := fun _ => fun
  | [d1, d2, d3] => { results := [.lit (.bool true)], args := [d1, d2, d3] }
  | _ => none }
def shopBathsRow : OpenClaim := { program := "ytjamlnkjfkcdkaagreatdoor", sum := "2fee3ef7cc94c9540b6247dc4ace0220ec5a3a83d46ea369287e2b59041edc31", func := "martensite/martensitelaw09.ShopBaths", spec := "shopBaths", inPlace := ["internal/abi.NoEscape", "internal/bytealg.MakeNoZero"], unfollowed := true, recurses := true, named := ["internal/strconv.uint64pow10", "math/bits.deBruijn32tab", "math/bits.deBruijn64tab"], apart := false, laid := [("math/bits.deBruijn32tab", laid_math_bits_deBruijn32tab), ("math/bits.deBruijn64tab", laid_math_bits_deBruijn64tab), ("internal/strconv.uint64pow10", laid_internal_strconv_uint64pow10)] }
def ShopBathsSaid : Prop := shopBathsRow.holds Tryz.pinned (OpenSpec.ofChange shopBathsSpec)

/-- ITS FALSE NEIGHBOUR: 'it returns false'. Refute it at one input. -/
def shopBathsWrong : ChangeSpec := { name := "shopBaths", fn := fun _ => fun
  | [d1, d2, d3] => { results := [.lit (.bool false)], args := [d1, d2, d3] }
  | _ => none }
def ShopBathsWrongFalsely : Prop := shopBathsRow.holds Tryz.pinned (OpenSpec.ofChange shopBathsWrong)

/-- 'martensitelaw09.ShopChecked': WHATEVER THE INPUT: true; the input reads as it did. -/
def shopCheckedSpec : ChangeSpec := { name := "shopChecked", fn := fun _ => fun
  | [d1, d2, d3] => { results := [.lit (.bool true)], args := [d1, d2, d3] }
  | _ => none }
def shopCheckedRow : OpenClaim := { program := "ytjamlnkjfkcdkaagreatdoor", sum := "2fee3ef7cc94c9540b6247dc4ace0220ec5a3a83d46ea369287e2b59041edc31", func := "martensite/martensitelaw09.ShopChecked", spec := "shopChecked", inPlace := ["internal/abi.NoEscape", "internal/bytealg.MakeNoZero"], unfollowed := true, recurses := true, named := ["internal/strconv.uint64pow10", "math/bits.deBruijn32tab", "math/bits.deBruijn64tab"], apart := false, laid := [("math/bits.deBruijn32tab", laid_math_bits_deBruijn32tab), ("math/bits.deBruijn64tab", laid_math_bits_deBruijn64tab), ("internal/strconv.uint64pow10", laid_internal_strconv_uint64pow10)] }
def ShopCheckedSaid : Prop := shopCheckedRow.holds Tryz.pinned (OpenSpec.ofChange shopCheckedSpec)

/-- ITS FALSE NEIGHBOUR: 'it returns false'. Refute it at one input. -/
def shopCheckedWrong : ChangeSpec := { name := "shopChecked", fn := fun _ => fun
  | [d1, d2, d3] => { results := [.lit (.bool false)], args := [d1, d2, d3] }
  | _ => none }
def ShopCheckedWrongFalsely : Prop := shopCheckedRow.holds Tryz.pinned (OpenSpec.ofChange shopCheckedWrong)

/-- 'martensitelaw09.ShopBounds': WHATEVER THE INPUT: true; the input reads as it did. -/
def shopBoundsSpec : ChangeSpec := { name := "shopBounds", fn := fun _ => fun
  | [d1, d2] => { results := [.lit (.bool true)], args := [d1, d2] }
  | _ => none }
def shopBoundsRow : OpenClaim := { program := "ytjamlnkjfkcdkaagreatdoor", sum := "2fee3ef7cc94c9540b6247dc4ace0220ec5a3a83d46ea369287e2b59041edc31", func := "martensite/martensitelaw09.ShopBounds", spec := "shopBounds", inPlace := ["internal/abi.NoEscape", "internal/bytealg.MakeNoZero"], unfollowed := true, recurses := true, named := ["internal/strconv.uint64pow10", "math/bits.deBruijn32tab", "math/bits.deBruijn64tab"], apart := false, laid := [("math/bits.deBruijn32tab", laid_math_bits_deBruijn32tab), ("math/bits.deBruijn64tab", laid_math_bits_deBruijn64tab), ("internal/strconv.uint64pow10", laid_internal_strconv_uint64pow10)] }
def ShopBoundsSaid : Prop := shopBoundsRow.holds Tryz.pinned (OpenSpec.ofChange shopBoundsSpec)

/-- ITS FALSE NEIGHBOUR: 'it returns false'. Refute it at one input. -/
def shopBoundsWrong : ChangeSpec := { name := "shopBounds", fn := fun _ => fun
  | [d1, d2] => { results := [.lit (.bool false)], args := [d1, d2] }
  | _ => none }
def ShopBoundsWrongFalsely : Prop := shopBoundsRow.holds Tryz.pinned (OpenSpec.ofChange shopBoundsWrong)

/-- 'martensitelaw09.ShopBaskets': WHATEVER THE INPUT: true; the input reads as it did. -/
def shopBasketsSpec : ChangeSpec := { name := "shopBaskets", fn := fun _ => fun
  | [d1, d2, d3] => { results := [.lit (.bool true)], args := [d1, d2, d3] }
  | _ => none }
def shopBasketsRow : OpenClaim := { program := "ytjamlnkjfkcdkaagreatdoor", sum := "2fee3ef7cc94c9540b6247dc4ace0220ec5a3a83d46ea369287e2b59041edc31", func := "martensite/martensitelaw09.ShopBaskets", spec := "shopBaskets", inPlace := ["internal/abi.NoEscape", "internal/bytealg.MakeNoZero"], unfollowed := true, recurses := true, named := ["internal/strconv.uint64pow10", "math/bits.deBruijn32tab", "math/bits.deBruijn64tab"], apart := false, laid := [("math/bits.deBruijn32tab", laid_math_bits_deBruijn32tab), ("math/bits.deBruijn64tab", laid_math_bits_deBruijn64tab), ("internal/strconv.uint64pow10", laid_internal_strconv_uint64pow10)] }
def ShopBasketsSaid : Prop := shopBasketsRow.holds Tryz.pinned (OpenSpec.ofChange shopBasketsSpec)

/-- ITS FALSE NEIGHBOUR: 'it returns false'. Refute it at one input. -/
def shopBasketsWrong : ChangeSpec := { name := "shopBaskets", fn := fun _ => fun
  | [d1, d2, d3] => { results := [.lit (.bool false)], args := [d1, d2, d3] }
  | _ => none }
def ShopBasketsWrongFalsely : Prop := shopBasketsRow.holds Tryz.pinned (OpenSpec.ofChange shopBasketsWrong)

/-- 'martensitelaw09.ShopNeverMixed': WHATEVER THE INPUT: true; the input reads as it did. -/
def shopNeverMixedSpec : ChangeSpec := { name := "shopNeverMixed", fn := fun _ => fun
  | [d1, d2, d3] => { results := [.lit (.bool true)], args := [d1, d2, d3] }
  | _ => none }
def shopNeverMixedRow : OpenClaim := { program := "ytjamlnkjfkcdkaagreatdoor", sum := "2fee3ef7cc94c9540b6247dc4ace0220ec5a3a83d46ea369287e2b59041edc31", func := "martensite/martensitelaw09.ShopNeverMixed", spec := "shopNeverMixed", inPlace := ["internal/abi.NoEscape", "internal/bytealg.MakeNoZero"], unfollowed := true, recurses := true, named := ["internal/strconv.uint64pow10", "math/bits.deBruijn32tab", "math/bits.deBruijn64tab"], apart := false, laid := [("math/bits.deBruijn32tab", laid_math_bits_deBruijn32tab), ("math/bits.deBruijn64tab", laid_math_bits_deBruijn64tab), ("internal/strconv.uint64pow10", laid_internal_strconv_uint64pow10)] }
def ShopNeverMixedSaid : Prop := shopNeverMixedRow.holds Tryz.pinned (OpenSpec.ofChange shopNeverMixedSpec)

/-- ITS FALSE NEIGHBOUR: 'it returns false'. Refute it at one input. -/
def shopNeverMixedWrong : ChangeSpec := { name := "shopNeverMixed", fn := fun _ => fun
  | [d1, d2, d3] => { results := [.lit (.bool false)], args := [d1, d2, d3] }
  | _ => none }
def ShopNeverMixedWrongFalsely : Prop := shopNeverMixedRow.holds Tryz.pinned (OpenSpec.ofChange shopNeverMixedWrong)

/-- 'martensitelaw09.ShopOrders': WHATEVER THE INPUT: true; the input reads as it did. -/
def shopOrdersSpec : ChangeSpec := { name := "shopOrders", fn := fun _ => fun
  | [d1, d2, d3] => { results := [.lit (.bool true)], args := [d1, d2, d3] }
  | _ => none }
def shopOrdersRow : OpenClaim := { program := "ytjamlnkjfkcdkaagreatdoor", sum := "2fee3ef7cc94c9540b6247dc4ace0220ec5a3a83d46ea369287e2b59041edc31", func := "martensite/martensitelaw09.ShopOrders", spec := "shopOrders", inPlace := ["internal/abi.NoEscape", "internal/bytealg.MakeNoZero"], unfollowed := true, recurses := true, named := ["internal/strconv.uint64pow10", "math/bits.deBruijn32tab", "math/bits.deBruijn64tab"], apart := false, laid := [("math/bits.deBruijn32tab", laid_math_bits_deBruijn32tab), ("math/bits.deBruijn64tab", laid_math_bits_deBruijn64tab), ("internal/strconv.uint64pow10", laid_internal_strconv_uint64pow10)] }
def ShopOrdersSaid : Prop := shopOrdersRow.holds Tryz.pinned (OpenSpec.ofChange shopOrdersSpec)

/-- ITS FALSE NEIGHBOUR: 'it returns false'. Refute it at one input. -/
def shopOrdersWrong : ChangeSpec := { name := "shopOrders", fn := fun _ => fun
  | [d1, d2, d3] => { results := [.lit (.bool false)], args := [d1, d2, d3] }
  | _ => none }
def ShopOrdersWrongFalsely : Prop := shopOrdersRow.holds Tryz.pinned (OpenSpec.ofChange shopOrdersWrong)

/-- 'martensitelaw09.ShopSignals': WHATEVER THE INPUT: true; the input reads as it did. -/
def shopSignalsSpec : ChangeSpec := { name := "shopSignals", fn := fun _ => fun
  | [d1, d2] => { results := [.lit (.bool true)], args := [d1, d2] }
  | _ => none }
def shopSignalsRow : OpenClaim := { program := "ytjamlnkjfkcdkaagreatdoor", sum := "2fee3ef7cc94c9540b6247dc4ace0220ec5a3a83d46ea369287e2b59041edc31", func := "martensite/martensitelaw09.ShopSignals", spec := "shopSignals", inPlace := ["internal/abi.NoEscape", "internal/bytealg.MakeNoZero"], unfollowed := true, recurses := true, named := ["internal/strconv.uint64pow10", "math/bits.deBruijn32tab", "math/bits.deBruijn64tab"], apart := false, laid := [("math/bits.deBruijn32tab", laid_math_bits_deBruijn32tab), ("math/bits.deBruijn64tab", laid_math_bits_deBruijn64tab), ("internal/strconv.uint64pow10", laid_internal_strconv_uint64pow10)] }
def ShopSignalsSaid : Prop := shopSignalsRow.holds Tryz.pinned (OpenSpec.ofChange shopSignalsSpec)

/-- ITS FALSE NEIGHBOUR: 'it returns false'. Refute it at one input. -/
def shopSignalsWrong : ChangeSpec := { name := "shopSignals", fn := fun _ => fun
  | [d1, d2] => { results := [.lit (.bool false)], args := [d1, d2] }
  | _ => none }
def ShopSignalsWrongFalsely : Prop := shopSignalsRow.holds Tryz.pinned (OpenSpec.ofChange shopSignalsWrong)

/-- 'martensitelaw09.ShopSameChart': WHATEVER THE INPUT: true; the input reads as it did. -/
def shopSameChartSpec : ChangeSpec := { name := "shopSameChart", fn := fun _ => fun
  | [d1, d2, d3] => { results := [.lit (.bool true)], args := [d1, d2, d3] }
  | _ => none }
def shopSameChartRow : OpenClaim := { program := "ytjamlnkjfkcdkaagreatdoor", sum := "2fee3ef7cc94c9540b6247dc4ace0220ec5a3a83d46ea369287e2b59041edc31", func := "martensite/martensitelaw09.ShopSameChart", spec := "shopSameChart", inPlace := ["internal/abi.NoEscape", "internal/bytealg.MakeNoZero"], unfollowed := true, recurses := true, named := ["internal/strconv.uint64pow10", "math/bits.deBruijn32tab", "math/bits.deBruijn64tab"], apart := false, laid := [("math/bits.deBruijn32tab", laid_math_bits_deBruijn32tab), ("math/bits.deBruijn64tab", laid_math_bits_deBruijn64tab), ("internal/strconv.uint64pow10", laid_internal_strconv_uint64pow10)] }
def ShopSameChartSaid : Prop := shopSameChartRow.holds Tryz.pinned (OpenSpec.ofChange shopSameChartSpec)

/-- ITS FALSE NEIGHBOUR: 'it returns false'. Refute it at one input. -/
def shopSameChartWrong : ChangeSpec := { name := "shopSameChart", fn := fun _ => fun
  | [d1, d2, d3] => { results := [.lit (.bool false)], args := [d1, d2, d3] }
  | _ => none }
def ShopSameChartWrongFalsely : Prop := shopSameChartRow.holds Tryz.pinned (OpenSpec.ofChange shopSameChartWrong)

/- THE SECOND FORM. 'bulk': how many values and letters a reading holds, each counted each time it is reached (what is shared counts as often as it is met; a slice's spare places count too). A statement '..UptoSaid' is the law's where the arguments, and the package variables that the reading takes, are together of bulk at most 1048576: NARROWER than '..Said'. Prove '..Said' where nothing that the law and all that it calls make is longer than what came in: it says more and counts as full. Else prove '..UptoSaid'. A law counts once. -/
mutual
def uptoBulk {H : Type} : DataW H → Nat
  | .lit (.string bytes) => bytes.length + 1
  | .lit _ => 1
  | .nil => 1
  | .ptr d => uptoBulk d + 1
  | .slice elems spare => uptoBulkAll elems + uptoBulkAll spare + 1
  | .agg parts => uptoBulkAll parts + 1
  | .iface _ d => uptoBulk d + 1
  | .map entries => uptoBulkEntries entries + 1
  | .held _ => 1
def uptoBulkAll {H : Type} : List (DataW H) → Nat
  | [] => 0
  | d :: r => uptoBulk d + uptoBulkAll r
def uptoBulkEntries {H : Type} : List (Lit × DataW H) → Nat
  | [] => 0
  | x :: r => uptoBulkEntry x + uptoBulkEntries r
def uptoBulkEntry {H : Type} : Lit × DataW H → Nat
  | (.string bytes, d) => bytes.length + uptoBulk d + 1
  | (_, d) => uptoBulk d + 1
 end
def uptoSmall : (H : Type) → List (DataW H) → Bool := fun _ ds => decide (uptoBulkAll ds ≤ 1048576)
def OpenSpec.upto (s : _root_.Go.ChangeSpec) : _root_.Go.OpenSpec := { _root_.Go.OpenSpec.ofChange s with cond := some uptoSmall }

/-- 'martensitelaw09.ShopBest', WHERE WHAT IT READS IS OF BULK AT MOST 1048576: true; the input reads as it did. -/
def shopBestUptoRow : OpenClaim := { program := "ytjamlnkjfkcdkaagreatdoor", sum := "2fee3ef7cc94c9540b6247dc4ace0220ec5a3a83d46ea369287e2b59041edc31", func := "martensite/martensitelaw09.ShopBest", spec := "shopBest", inPlace := ["internal/abi.NoEscape", "internal/bytealg.MakeNoZero"], unfollowed := true, recurses := true, named := ["internal/strconv.uint64pow10", "math/bits.deBruijn32tab", "math/bits.deBruijn64tab"], apart := false, laid := [("math/bits.deBruijn32tab", laid_math_bits_deBruijn32tab), ("math/bits.deBruijn64tab", laid_math_bits_deBruijn64tab), ("internal/strconv.uint64pow10", laid_internal_strconv_uint64pow10)], narrowed := true }
def ShopBestUptoSaid : Prop := shopBestUptoRow.holds Tryz.pinned (OpenSpec.upto shopBestSpec)

/-- 'martensitelaw09.ShopBelowPeak', WHERE WHAT IT READS IS OF BULK AT MOST 1048576: true; the input reads as it did. -/
def shopBelowPeakUptoRow : OpenClaim := { program := "ytjamlnkjfkcdkaagreatdoor", sum := "2fee3ef7cc94c9540b6247dc4ace0220ec5a3a83d46ea369287e2b59041edc31", func := "martensite/martensitelaw09.ShopBelowPeak", spec := "shopBelowPeak", inPlace := ["internal/abi.NoEscape", "internal/bytealg.MakeNoZero"], unfollowed := true, recurses := true, named := ["internal/strconv.uint64pow10", "math/bits.deBruijn32tab", "math/bits.deBruijn64tab"], apart := false, laid := [("math/bits.deBruijn32tab", laid_math_bits_deBruijn32tab), ("math/bits.deBruijn64tab", laid_math_bits_deBruijn64tab), ("internal/strconv.uint64pow10", laid_internal_strconv_uint64pow10)], narrowed := true }
def ShopBelowPeakUptoSaid : Prop := shopBelowPeakUptoRow.holds Tryz.pinned (OpenSpec.upto shopBelowPeakSpec)

/-- 'martensitelaw09.ShopCapability', WHERE WHAT IT READS IS OF BULK AT MOST 1048576: true; the input reads as it did. -/
def shopCapabilityUptoRow : OpenClaim := { program := "ytjamlnkjfkcdkaagreatdoor", sum := "2fee3ef7cc94c9540b6247dc4ace0220ec5a3a83d46ea369287e2b59041edc31", func := "martensite/martensitelaw09.ShopCapability", spec := "shopCapability", inPlace := ["internal/abi.NoEscape", "internal/bytealg.MakeNoZero"], unfollowed := true, recurses := true, named := ["internal/strconv.uint64pow10", "math/bits.deBruijn32tab", "math/bits.deBruijn64tab"], apart := false, laid := [("math/bits.deBruijn32tab", laid_math_bits_deBruijn32tab), ("math/bits.deBruijn64tab", laid_math_bits_deBruijn64tab), ("internal/strconv.uint64pow10", laid_internal_strconv_uint64pow10)], narrowed := true }
def ShopCapabilityUptoSaid : Prop := shopCapabilityUptoRow.holds Tryz.pinned (OpenSpec.upto shopCapabilitySpec)

/-- 'martensitelaw09.ShopRuns', WHERE WHAT IT READS IS OF BULK AT MOST 1048576: true; the input reads as it did. -/
def shopRunsUptoRow : OpenClaim := { program := "ytjamlnkjfkcdkaagreatdoor", sum := "2fee3ef7cc94c9540b6247dc4ace0220ec5a3a83d46ea369287e2b59041edc31", func := "martensite/martensitelaw09.ShopRuns", spec := "shopRuns", inPlace := ["internal/abi.NoEscape", "internal/bytealg.MakeNoZero"], unfollowed := true, recurses := true, named := ["internal/strconv.uint64pow10", "math/bits.deBruijn32tab", "math/bits.deBruijn64tab"], apart := false, laid := [("math/bits.deBruijn32tab", laid_math_bits_deBruijn32tab), ("math/bits.deBruijn64tab", laid_math_bits_deBruijn64tab), ("internal/strconv.uint64pow10", laid_internal_strconv_uint64pow10)], narrowed := true }
def ShopRunsUptoSaid : Prop := shopRunsUptoRow.holds Tryz.pinned (OpenSpec.upto shopRunsSpec)

/-- 'martensitelaw09.ShopBaths', WHERE WHAT IT READS IS OF BULK AT MOST 1048576: true; the input reads as it did. -/
def shopBathsUptoRow : OpenClaim := { program := "ytjamlnkjfkcdkaagreatdoor", sum := "2fee3ef7cc94c9540b6247dc4ace0220ec5a3a83d46ea369287e2b59041edc31", func := "martensite/martensitelaw09.ShopBaths", spec := "shopBaths", inPlace := ["internal/abi.NoEscape", "internal/bytealg.MakeNoZero"], unfollowed := true, recurses := true, named := ["internal/strconv.uint64pow10", "math/bits.deBruijn32tab", "math/bits.deBruijn64tab"], apart := false, laid := [("math/bits.deBruijn32tab", laid_math_bits_deBruijn32tab), ("math/bits.deBruijn64tab", laid_math_bits_deBruijn64tab), ("internal/strconv.uint64pow10", laid_internal_strconv_uint64pow10)], narrowed := true }
def ShopBathsUptoSaid : Prop := shopBathsUptoRow.holds Tryz.pinned (OpenSpec.upto shopBathsSpec)

/-- 'martensitelaw09.ShopChecked', WHERE WHAT IT READS IS OF BULK AT MOST 1048576: true; the input reads as it did. -/
def shopCheckedUptoRow : OpenClaim := { program := "ytjamlnkjfkcdkaagreatdoor", sum := "2fee3ef7cc94c9540b6247dc4ace0220ec5a3a83d46ea369287e2b59041edc31", func := "martensite/martensitelaw09.ShopChecked", spec := "shopChecked", inPlace := ["internal/abi.NoEscape", "internal/bytealg.MakeNoZero"], unfollowed := true, recurses := true, named := ["internal/strconv.uint64pow10", "math/bits.deBruijn32tab", "math/bits.deBruijn64tab"], apart := false, laid := [("math/bits.deBruijn32tab", laid_math_bits_deBruijn32tab), ("math/bits.deBruijn64tab", laid_math_bits_deBruijn64tab), ("internal/strconv.uint64pow10", laid_internal_strconv_uint64pow10)], narrowed := true }
def ShopCheckedUptoSaid : Prop := shopCheckedUptoRow.holds Tryz.pinned (OpenSpec.upto shopCheckedSpec)

/-- 'martensitelaw09.ShopBounds', WHERE WHAT IT READS IS OF BULK AT MOST 1048576: true; the input reads as it did. -/
def shopBoundsUptoRow : OpenClaim := { program := "ytjamlnkjfkcdkaagreatdoor", sum := "2fee3ef7cc94c9540b6247dc4ace0220ec5a3a83d46ea369287e2b59041edc31", func := "martensite/martensitelaw09.ShopBounds", spec := "shopBounds", inPlace := ["internal/abi.NoEscape", "internal/bytealg.MakeNoZero"], unfollowed := true, recurses := true, named := ["internal/strconv.uint64pow10", "math/bits.deBruijn32tab", "math/bits.deBruijn64tab"], apart := false, laid := [("math/bits.deBruijn32tab", laid_math_bits_deBruijn32tab), ("math/bits.deBruijn64tab", laid_math_bits_deBruijn64tab), ("internal/strconv.uint64pow10", laid_internal_strconv_uint64pow10)], narrowed := true }
def ShopBoundsUptoSaid : Prop := shopBoundsUptoRow.holds Tryz.pinned (OpenSpec.upto shopBoundsSpec)

/-- 'martensitelaw09.ShopBaskets', WHERE WHAT IT READS IS OF BULK AT MOST 1048576: true; the input reads as it did. -/
def shopBasketsUptoRow : OpenClaim := { program := "ytjamlnkjfkcdkaagreatdoor", sum := "2fee3ef7cc94c9540b6247dc4ace0220ec5a3a83d46ea369287e2b59041edc31", func := "martensite/martensitelaw09.ShopBaskets", spec := "shopBaskets", inPlace := ["internal/abi.NoEscape", "internal/bytealg.MakeNoZero"], unfollowed := true, recurses := true, named := ["internal/strconv.uint64pow10", "math/bits.deBruijn32tab", "math/bits.deBruijn64tab"], apart := false, laid := [("math/bits.deBruijn32tab", laid_math_bits_deBruijn32tab), ("math/bits.deBruijn64tab", laid_math_bits_deBruijn64tab), ("internal/strconv.uint64pow10", laid_internal_strconv_uint64pow10)], narrowed := true }
def ShopBasketsUptoSaid : Prop := shopBasketsUptoRow.holds Tryz.pinned (OpenSpec.upto shopBasketsSpec)

/-- 'martensitelaw09.ShopNeverMixed', WHERE WHAT IT READS IS OF BULK AT MOST 1048576: true; the input reads as it did. -/
def shopNeverMixedUptoRow : OpenClaim := { program := "ytjamlnkjfkcdkaagreatdoor", sum := "2fee3ef7cc94c9540b6247dc4ace0220ec5a3a83d46ea369287e2b59041edc31", func := "martensite/martensitelaw09.ShopNeverMixed", spec := "shopNeverMixed", inPlace := ["internal/abi.NoEscape", "internal/bytealg.MakeNoZero"], unfollowed := true, recurses := true, named := ["internal/strconv.uint64pow10", "math/bits.deBruijn32tab", "math/bits.deBruijn64tab"], apart := false, laid := [("math/bits.deBruijn32tab", laid_math_bits_deBruijn32tab), ("math/bits.deBruijn64tab", laid_math_bits_deBruijn64tab), ("internal/strconv.uint64pow10", laid_internal_strconv_uint64pow10)], narrowed := true }
def ShopNeverMixedUptoSaid : Prop := shopNeverMixedUptoRow.holds Tryz.pinned (OpenSpec.upto shopNeverMixedSpec)

/-- 'martensitelaw09.ShopOrders', WHERE WHAT IT READS IS OF BULK AT MOST 1048576: true; the input reads as it did. -/
def shopOrdersUptoRow : OpenClaim := { program := "ytjamlnkjfkcdkaagreatdoor", sum := "2fee3ef7cc94c9540b6247dc4ace0220ec5a3a83d46ea369287e2b59041edc31", func := "martensite/martensitelaw09.ShopOrders", spec := "shopOrders", inPlace := ["internal/abi.NoEscape", "internal/bytealg.MakeNoZero"], unfollowed := true, recurses := true, named := ["internal/strconv.uint64pow10", "math/bits.deBruijn32tab", "math/bits.deBruijn64tab"], apart := false, laid := [("math/bits.deBruijn32tab", laid_math_bits_deBruijn32tab), ("math/bits.deBruijn64tab", laid_math_bits_deBruijn64tab), ("internal/strconv.uint64pow10", laid_internal_strconv_uint64pow10)], narrowed := true }
def ShopOrdersUptoSaid : Prop := shopOrdersUptoRow.holds Tryz.pinned (OpenSpec.upto shopOrdersSpec)

/-- 'martensitelaw09.ShopSignals', WHERE WHAT IT READS IS OF BULK AT MOST 1048576: true; the input reads as it did. -/
def shopSignalsUptoRow : OpenClaim := { program := "ytjamlnkjfkcdkaagreatdoor", sum := "2fee3ef7cc94c9540b6247dc4ace0220ec5a3a83d46ea369287e2b59041edc31", func := "martensite/martensitelaw09.ShopSignals", spec := "shopSignals", inPlace := ["internal/abi.NoEscape", "internal/bytealg.MakeNoZero"], unfollowed := true, recurses := true, named := ["internal/strconv.uint64pow10", "math/bits.deBruijn32tab", "math/bits.deBruijn64tab"], apart := false, laid := [("math/bits.deBruijn32tab", laid_math_bits_deBruijn32tab), ("math/bits.deBruijn64tab", laid_math_bits_deBruijn64tab), ("internal/strconv.uint64pow10", laid_internal_strconv_uint64pow10)], narrowed := true }
def ShopSignalsUptoSaid : Prop := shopSignalsUptoRow.holds Tryz.pinned (OpenSpec.upto shopSignalsSpec)

/-- 'martensitelaw09.ShopSameChart', WHERE WHAT IT READS IS OF BULK AT MOST 1048576: true; the input reads as it did. -/
def shopSameChartUptoRow : OpenClaim := { program := "ytjamlnkjfkcdkaagreatdoor", sum := "2fee3ef7cc94c9540b6247dc4ace0220ec5a3a83d46ea369287e2b59041edc31", func := "martensite/martensitelaw09.ShopSameChart", spec := "shopSameChart", inPlace := ["internal/abi.NoEscape", "internal/bytealg.MakeNoZero"], unfollowed := true, recurses := true, named := ["internal/strconv.uint64pow10", "math/bits.deBruijn32tab", "math/bits.deBruijn64tab"], apart := false, laid := [("math/bits.deBruijn32tab", laid_math_bits_deBruijn32tab), ("math/bits.deBruijn64tab", laid_math_bits_deBruijn64tab), ("internal/strconv.uint64pow10", laid_internal_strconv_uint64pow10)], narrowed := true }
def ShopSameChartUptoSaid : Prop := shopSameChartUptoRow.holds Tryz.pinned (OpenSpec.upto shopSameChartSpec)

end Rows
end Go.Proofs.YtjamlnkjfkcdkaaGreatDoor
