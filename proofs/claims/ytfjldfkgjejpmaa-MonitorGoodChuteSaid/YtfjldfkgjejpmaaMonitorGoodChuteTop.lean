/-
  MonitorGoodChute: for every input the law returns true, and each argument reads behind the call as it read before. No condition.
-/
import Derived.Test.YtfjldfkgjejpmaaRows
import Derived.Test.YtfjldfkgjejpmaaFs
import Derived.Test.YtfjldfkgjejpmaaZd
namespace Go.Proofs.Ytfjldfkgjejpmaa.monitorGoodChute
open Go.Ab Go.ChangeShapes Go.WideShapes Go.ChangeAt Go.RowKit
theorem own : ownKnob Try.prog.godebug = none := by kernel_rfl
theorem laidOut : laidOutB Try.prog = true := by kernel_rfl
def tys : List Ty := [(.sl (.st (.cons (.int .i64) (.cons (.int .i64) .nil))))]
theorem tysAre : TysAre Try.prog tys Try.f8.params.toList := by
  rw [Try.params8]
  exact ⟨rfl, ⟨_, Try.underlying71, by kernel_rfl, by decide, ⟨_, Try.underlying89, by kernel_rfl, ⟨rfl, by kernel_rfl, Try.underlying3, ⟨rfl, by kernel_rfl, Try.underlying3, rfl⟩⟩⟩⟩, by kernel_rfl, of_decide_eq_true (by kernel_rfl), trivial⟩
theorem contract : ∀ xs, ArgsIs tys xs → Ct Try.prog 8 xs (.bool true) := by
  intro xs h
  match xs, h with
  | [x0], h =>
    obtain ⟨h0, _⟩ := h
    obtain ⟨a0, rfl⟩ := sh_events h0
    exact law_MonitorGoodChute
  | [], h => exact h.elim
  | _ :: _ :: _, h => exact h.2.elim
set_option maxRecDepth 100000 in
theorem lifted (os : Os) (started : os.Started) (H : Type) (enc : TypeId × Value → H) :
    ReturnsInHanded {} Try.checked os 8 .any (Rows.monitorGoodChuteSpec.pre6 enc Try.prog Try.f8 Rows.monitorGoodChuteRow.domain false) (Rows.monitorGoodChuteSpec.post enc Try.prog Try.f8 false true false false) := by
  refine returnsInHanded_of_change (C := Try.checked) own started (by kernel_rfl) Try.func8
    (ChangeSpec.witness6 (enc := enc) (C := Try.checked) false ⟨#[], #[.slice none 0 0], []⟩ 8 (by kernel_rfl) (by kernel_rfl) (by kernel_rfl) (by kernel_rfl)) ?_
  intro W base args ds gs before hval0 hW hcnd _
  have hval : ∀ (j : Nat) t v, Try.f8.params[j]? = some t → args[j]? = some v → Value.okWide Try.prog W .any base t v := hval0
  clear hcnd hval0
  exact law_calls (P := Try.prog) (f := 8) (fn := Try.f8) (s := Rows.monitorGoodChuteSpec) (Ts := tys) (tb := 4) (apart := false) (fresh := true) (handsOn := false) contract laidOut tysAre rfl (by kernel_rfl) Try.underlying4
    (fun ds h => by
      rw [Try.params8] at h
      match ds, h with
      | [_], _ => rfl) hval hW
end Go.Proofs.Ytfjldfkgjejpmaa.monitorGoodChute
namespace Go.Proofs.Ytfjldfkgjejpmaa
open Go.ChangeAt
theorem monitorGoodChute_holds : Rows.MonitorGoodChuteSaid :=
  OpenClaim.holds_of_wide 8 Try.f8 rfl rfl rfl rfl rfl rfl rfl ⟨rfl, rfl, rfl, rfl, rfl⟩ rfl rfl rfl rfl rfl (by kernel_rfl) Try.func8 (by kernel_rfl)
    (of_decide_eq_true (by kernel_rfl)) (by unfold Func.isWrapper; first | (rw [if_pos (by decide +kernel)]; kernel_rfl) | (rw [if_neg (by decide +kernel)]; exact ⟨rfl, rfl⟩))
    (fun os started H enc _ => monitorGoodChute.lifted os started H enc)
end Go.Proofs.Ytfjldfkgjejpmaa
