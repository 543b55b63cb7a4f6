/-
  MonitorRecords: for every input the law returns true, and each argument reads behind the call as it read before. No condition.
-/
import Derived.Test.YtfjldfkgjejpmaaRows
import Derived.Test.YtfjldfkgjejpmaaFs
import Derived.Test.YtfjldfkgjejpmaaWp
namespace Go.Proofs.Ytfjldfkgjejpmaa.monitorRecords
open Go.Ab Go.ChangeShapes Go.WideShapes Go.ChangeAt Go.RowKit
theorem own : ownKnob Try.prog.godebug = none := by kernel_rfl
theorem laidOut : laidOutB Try.prog = true := by kernel_rfl
def tys : List Ty := [(.st (.cons (.sl .str) (.cons (.int .i64) .nil))), (.st (.cons (.sl (.st (.cons .bool (.cons (.sl (.int .i64)) .nil)))) .nil))]
theorem tysAre : TysAre Try.prog tys Try.f5.params.toList := by
  rw [Try.params5]
  exact ⟨rfl, ⟨_, Try.underlying53, by kernel_rfl, ⟨rfl, by kernel_rfl, ⟨_, Try.underlying51, by kernel_rfl, by decide, Try.underlying9⟩, ⟨rfl, by kernel_rfl, Try.underlying3, rfl⟩⟩⟩, by kernel_rfl, of_decide_eq_true (by kernel_rfl), ⟨rfl, ⟨_, Try.underlying56, by kernel_rfl, ⟨rfl, by kernel_rfl, ⟨_, Try.underlying54, by kernel_rfl, by decide, ⟨_, Try.underlying127, by kernel_rfl, ⟨rfl, by kernel_rfl, Try.underlying4, ⟨rfl, by kernel_rfl, ⟨_, Try.underlying23, by kernel_rfl, by decide, Try.underlying3⟩, rfl⟩⟩⟩⟩, rfl⟩⟩, by kernel_rfl, of_decide_eq_true (by kernel_rfl), trivial⟩⟩
theorem contract : ∀ xs, ArgsIs tys xs → Ct Try.prog 5 xs (.bool true) := by
  intro xs h
  match xs, h with
  | [x, y], h =>
    obtain ⟨⟨xs1, rfl, h1⟩, ⟨xs2, rfl, h2⟩, _⟩ := h
    obtain ⟨p, rfl⟩ := sh_plan h1
    obtain ⟨r, rfl⟩ := sh_record h2
    exact law_MonitorRecords
  | [], h => exact h.elim
  | [_], h => exact h.2.elim
  | _ :: _ :: _ :: _, h => exact h.2.2.elim
set_option maxRecDepth 100000 in
theorem lifted (os : Os) (started : os.Started) (H : Type) (enc : TypeId × Value → H) :
    ReturnsInHanded {} Try.checked os 5 .any (Rows.monitorRecordsSpec.pre6 enc Try.prog Try.f5 Rows.monitorRecordsRow.domain false) (Rows.monitorRecordsSpec.post enc Try.prog Try.f5 false true false false) := by
  refine returnsInHanded_of_change (C := Try.checked) own started (by kernel_rfl) Try.func5
    (ChangeSpec.witness6 (enc := enc) (C := Try.checked) false ⟨#[], #[.agg #[.slice none 0 0, .int .i64 (0)], .agg #[.slice none 0 0]], []⟩ 8 (by kernel_rfl) (by kernel_rfl) (by kernel_rfl) (by kernel_rfl)) ?_
  intro W base args ds gs before hval0 hW hcnd _
  have hval : ∀ (j : Nat) t v, Try.f5.params[j]? = some t → args[j]? = some v → Value.okWide Try.prog W .any base t v := hval0
  clear hcnd hval0
  exact law_calls (P := Try.prog) (f := 5) (fn := Try.f5) (s := Rows.monitorRecordsSpec) (Ts := tys) (tb := 4) (apart := false) (fresh := true) (handsOn := false) contract laidOut tysAre rfl (by kernel_rfl) Try.underlying4
    (fun ds h => by
      rw [Try.params5] at h
      match ds, h with
      | [_, _], _ => rfl) hval hW
end Go.Proofs.Ytfjldfkgjejpmaa.monitorRecords
namespace Go.Proofs.Ytfjldfkgjejpmaa
open Go.ChangeAt
theorem monitorRecords_holds : Rows.MonitorRecordsSaid :=
  OpenClaim.holds_of_wide 5 Try.f5 rfl rfl rfl rfl rfl rfl rfl ⟨rfl, rfl, rfl, rfl, rfl⟩ rfl rfl rfl rfl rfl (by kernel_rfl) Try.func5 (by kernel_rfl)
    (of_decide_eq_true (by kernel_rfl)) (by unfold Func.isWrapper; first | (rw [if_pos (by decide +kernel)]; kernel_rfl) | (rw [if_neg (by decide +kernel)]; exact ⟨rfl, rfl⟩))
    (fun os started H enc _ => monitorRecords.lifted os started H enc)
end Go.Proofs.Ytfjldfkgjejpmaa
