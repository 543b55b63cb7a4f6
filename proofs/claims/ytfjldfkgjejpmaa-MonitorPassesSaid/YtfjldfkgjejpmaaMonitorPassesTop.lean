/-
  MonitorPasses: for every input the law returns true, and each argument reads behind the call as it read before. No condition.
-/
import Derived.Test.YtfjldfkgjejpmaaRows
import Derived.Test.YtfjldfkgjejpmaaFs
import Derived.Test.YtfjldfkgjejpmaaWs
namespace Go.Proofs.Ytfjldfkgjejpmaa.monitorPasses
open Go.Ab Go.ChangeShapes Go.WideShapes Go.ChangeAt Go.RowKit
theorem own : ownKnob Try.prog.godebug = none := by kernel_rfl
theorem laidOut : laidOutB Try.prog = true := by kernel_rfl
def tys : List Ty := [(.sl (.st (.cons (.int .i64) (.cons (.int .i64) (.cons (.int .i64) .nil))))), (.sl (.int .i64))]
theorem tysAre : TysAre Try.prog tys Try.f3.params.toList := by
  rw [Try.params3]
  exact ⟨rfl, ⟨_, Try.underlying22, by kernel_rfl, by decide, ⟨_, Try.underlying108, by kernel_rfl, ⟨rfl, by kernel_rfl, Try.underlying3, ⟨rfl, by kernel_rfl, Try.underlying3, ⟨rfl, by kernel_rfl, Try.underlying3, rfl⟩⟩⟩⟩⟩, by kernel_rfl, of_decide_eq_true (by kernel_rfl), ⟨rfl, ⟨_, Try.underlying23, by kernel_rfl, by decide, Try.underlying3⟩, by kernel_rfl, of_decide_eq_true (by kernel_rfl), trivial⟩⟩
theorem contract : ∀ xs, ArgsIs tys xs → Ct Try.prog 3 xs (.bool true) := by
  intro xs h
  match xs, h with
  | [x0, x1], h =>
    obtain ⟨h0, h1, _⟩ := h
    obtain ⟨a0, rfl⟩ := sh_passes h0
    obtain ⟨a1, rfl⟩ := sh_ints h1
    exact law_MonitorPasses
  | [], h => exact h.elim
  | [_], h => exact h.2.elim
  | _ :: _ :: _ :: _, h => exact h.2.2.elim
set_option maxRecDepth 100000 in
theorem lifted (os : Os) (started : os.Started) (H : Type) (enc : TypeId × Value → H) :
    ReturnsInHanded {} Try.checked os 3 .any (Rows.monitorPassesSpec.pre6 enc Try.prog Try.f3 Rows.monitorPassesRow.domain false) (Rows.monitorPassesSpec.post enc Try.prog Try.f3 false true false false) := by
  refine returnsInHanded_of_change (C := Try.checked) own started (by kernel_rfl) Try.func3
    (ChangeSpec.witness6 (enc := enc) (C := Try.checked) false ⟨#[], #[.slice none 0 0, .slice none 0 0], []⟩ 8 (by kernel_rfl) (by kernel_rfl) (by kernel_rfl) (by kernel_rfl)) ?_
  intro W base args ds gs before hval0 hW hcnd _
  have hval : ∀ (j : Nat) t v, Try.f3.params[j]? = some t → args[j]? = some v → Value.okWide Try.prog W .any base t v := hval0
  clear hcnd hval0
  exact law_calls (P := Try.prog) (f := 3) (fn := Try.f3) (s := Rows.monitorPassesSpec) (Ts := tys) (tb := 4) (apart := false) (fresh := true) (handsOn := false) contract laidOut tysAre rfl (by kernel_rfl) Try.underlying4
    (fun ds h => by
      rw [Try.params3] at h
      match ds, h with
      | [_, _], _ => rfl) hval hW
end Go.Proofs.Ytfjldfkgjejpmaa.monitorPasses
namespace Go.Proofs.Ytfjldfkgjejpmaa
open Go.ChangeAt
theorem monitorPasses_holds : Rows.MonitorPassesSaid :=
  OpenClaim.holds_of_wide 3 Try.f3 rfl rfl rfl rfl rfl rfl rfl ⟨rfl, rfl, rfl, rfl, rfl⟩ rfl rfl rfl rfl rfl (by kernel_rfl) Try.func3 (by kernel_rfl)
    (of_decide_eq_true (by kernel_rfl)) (by unfold Func.isWrapper; first | (rw [if_pos (by decide +kernel)]; kernel_rfl) | (rw [if_neg (by decide +kernel)]; exact ⟨rfl, rfl⟩))
    (fun os started H enc _ => monitorPasses.lifted os started H enc)
end Go.Proofs.Ytfjldfkgjejpmaa
