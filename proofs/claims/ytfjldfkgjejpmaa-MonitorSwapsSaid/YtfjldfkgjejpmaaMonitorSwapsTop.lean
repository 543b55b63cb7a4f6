/-
  MonitorSwaps: for every input the law returns true, and each argument reads behind the call as it read before. No condition.
-/
import Derived.Test.YtfjldfkgjejpmaaRows
import Derived.Test.YtfjldfkgjejpmaaFs
import Derived.Test.YtfjldfkgjejpmaaWr
namespace Go.Proofs.Ytfjldfkgjejpmaa.monitorSwaps
open Go.Ab Go.ChangeShapes Go.WideShapes Go.ChangeAt Go.RowKit
theorem own : ownKnob Try.prog.godebug = none := by kernel_rfl
theorem laidOut : laidOutB Try.prog = true := by kernel_rfl
def tys : List Ty := [(.int .i64), (.sl (.int .i64)), (.sl (.int .i64))]
theorem tysAre : TysAre Try.prog tys Try.f6.params.toList := by
  rw [Try.params6]
  exact ⟨rfl, Try.underlying3, by kernel_rfl, of_decide_eq_true (by kernel_rfl), ⟨rfl, ⟨_, Try.underlying23, by kernel_rfl, by decide, Try.underlying3⟩, by kernel_rfl, of_decide_eq_true (by kernel_rfl), ⟨rfl, ⟨_, Try.underlying23, by kernel_rfl, by decide, Try.underlying3⟩, by kernel_rfl, of_decide_eq_true (by kernel_rfl), trivial⟩⟩⟩
theorem contract : ∀ xs, ArgsIs tys xs → Ct Try.prog 6 xs (.bool true) := by
  intro xs h
  match xs, h with
  | [x0, x1, x2], h =>
    obtain ⟨h0, h1, h2, _⟩ := h
    obtain ⟨a0, rfl⟩ := sh_int h0
    obtain ⟨a1, rfl⟩ := sh_ints h1
    obtain ⟨a2, rfl⟩ := sh_ints h2
    exact law_MonitorSwaps
  | [], h => exact h.elim
  | [_], h => exact h.2.elim
  | [_, _], h => exact h.2.2.elim
  | _ :: _ :: _ :: _ :: _, h => exact h.2.2.2.elim
set_option maxRecDepth 100000 in
theorem lifted (os : Os) (started : os.Started) (H : Type) (enc : TypeId × Value → H) :
    ReturnsInHanded {} Try.checked os 6 .any (Rows.monitorSwapsSpec.pre6 enc Try.prog Try.f6 Rows.monitorSwapsRow.domain false) (Rows.monitorSwapsSpec.post enc Try.prog Try.f6 false true false false) := by
  refine returnsInHanded_of_change (C := Try.checked) own started (by kernel_rfl) Try.func6
    (ChangeSpec.witness6 (enc := enc) (C := Try.checked) false ⟨#[], #[.int .i64 (0), .slice none 0 0, .slice none 0 0], []⟩ 8 (by kernel_rfl) (by kernel_rfl) (by kernel_rfl) (by kernel_rfl)) ?_
  intro W base args ds gs before hval0 hW hcnd _
  have hval : ∀ (j : Nat) t v, Try.f6.params[j]? = some t → args[j]? = some v → Value.okWide Try.prog W .any base t v := hval0
  clear hcnd hval0
  exact law_calls (P := Try.prog) (f := 6) (fn := Try.f6) (s := Rows.monitorSwapsSpec) (Ts := tys) (tb := 4) (apart := false) (fresh := true) (handsOn := false) contract laidOut tysAre rfl (by kernel_rfl) Try.underlying4
    (fun ds h => by
      rw [Try.params6] at h
      match ds, h with
      | [_, _, _], _ => rfl) hval hW
end Go.Proofs.Ytfjldfkgjejpmaa.monitorSwaps
namespace Go.Proofs.Ytfjldfkgjejpmaa
open Go.ChangeAt
theorem monitorSwaps_holds : Rows.MonitorSwapsSaid :=
  OpenClaim.holds_of_wide 6 Try.f6 rfl rfl rfl rfl rfl rfl rfl ⟨rfl, rfl, rfl, rfl, rfl⟩ rfl rfl rfl rfl rfl (by kernel_rfl) Try.func6 (by kernel_rfl)
    (of_decide_eq_true (by kernel_rfl)) (by unfold Func.isWrapper; first | (rw [if_pos (by decide +kernel)]; kernel_rfl) | (rw [if_neg (by decide +kernel)]; exact ⟨rfl, rfl⟩))
    (fun os started H enc _ => monitorSwaps.lifted os started H enc)
end Go.Proofs.Ytfjldfkgjejpmaa
