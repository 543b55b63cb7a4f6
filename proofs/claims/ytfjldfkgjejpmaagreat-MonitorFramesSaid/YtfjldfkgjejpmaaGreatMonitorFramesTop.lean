/-
  MonitorFrames: for every input the law returns true, and each argument reads behind the call as it read before. No condition.
-/
import Derived.Test.YtfjldfkgjejpmaaGreatRows
import Derived.Test.YtfjldfkgjejpmaaGreatFs
import Derived.Test.YtfjldfkgjejpmaaGreatYc
namespace Go.Proofs.YtfjldfkgjejpmaaGreat.monitorFrames
open Go.Ab Go.ChangeShapes Go.WideShapes Go.ChangeAt Go.RowKit
theorem own : ownKnob Tryz.prog.godebug = none := by kernel_rfl
theorem laidOut : laidOutB Tryz.prog = true := by kernel_rfl
def tys : List Ty := [(.st (.cons (.sl .str) (.cons (.int .i64) .nil))), (.sl (.st (.cons (.int .i64) (.cons (.sl (.int .i64)) .nil))))]
theorem tysAre : TysAre Tryz.prog tys Tryz.f7.params.toList := by
  rw [Tryz.params7]
  exact ⟨rfl, ⟨_, Tryz.underlying24, by kernel_rfl, ⟨rfl, by kernel_rfl, ⟨_, Tryz.underlying22, by kernel_rfl, by decide, Tryz.underlying9⟩, ⟨rfl, by kernel_rfl, Tryz.underlying3, rfl⟩⟩⟩, by kernel_rfl, of_decide_eq_true (by kernel_rfl), ⟨rfl, ⟨_, Tryz.underlying83, by kernel_rfl, by decide, ⟨_, Tryz.underlying92, by kernel_rfl, ⟨rfl, by kernel_rfl, Tryz.underlying3, ⟨rfl, by kernel_rfl, ⟨_, Tryz.underlying57, by kernel_rfl, by decide, Tryz.underlying3⟩, rfl⟩⟩⟩⟩, by kernel_rfl, of_decide_eq_true (by kernel_rfl), trivial⟩⟩
theorem contract : ∀ xs, ArgsIs tys xs → Ct Tryz.prog 7 xs (.bool true) := by
  intro xs h
  match xs, h with
  | [x0, x1], h =>
    obtain ⟨⟨y0, rfl, h0⟩, h1, _⟩ := h
    obtain ⟨a0, rfl⟩ := sh_plan h0
    obtain ⟨a1, rfl⟩ := sh_frames h1
    exact law_MonitorFrames
  | [], h => exact h.elim
  | [_], h => exact h.2.elim
  | _ :: _ :: _ :: _, h => exact h.2.2.elim
set_option maxRecDepth 100000 in
theorem lifted (os : Os) (started : os.Started) (H : Type) (enc : TypeId × Value → H) :
    ReturnsInHanded {} Tryz.checked os 7 .any (Rows.monitorFramesSpec.pre6 enc Tryz.prog Tryz.f7 Rows.monitorFramesRow.domain false) (Rows.monitorFramesSpec.post enc Tryz.prog Tryz.f7 false true false false) := by
  refine returnsInHanded_of_change (C := Tryz.checked) own started (by kernel_rfl) Tryz.func7
    (ChangeSpec.witness6 (enc := enc) (C := Tryz.checked) false ⟨#[], #[.agg #[.slice none 0 0, .int .i64 (0)], .slice none 0 0], []⟩ 8 (by kernel_rfl) (by kernel_rfl) (by kernel_rfl) (by kernel_rfl)) ?_
  intro W base args ds gs before hval0 hW hcnd _
  have hval : ∀ (j : Nat) t v, Tryz.f7.params[j]? = some t → args[j]? = some v → Value.okWide Tryz.prog W .any base t v := hval0
  clear hcnd hval0
  exact law_calls (P := Tryz.prog) (f := 7) (fn := Tryz.f7) (s := Rows.monitorFramesSpec) (Ts := tys) (tb := 4) (apart := false) (fresh := true) (handsOn := false) contract laidOut tysAre rfl (by kernel_rfl) Tryz.underlying4
    (fun ds h => by
      rw [Tryz.params7] at h
      match ds, h with
      | [_, _], _ => rfl) hval hW
end Go.Proofs.YtfjldfkgjejpmaaGreat.monitorFrames
namespace Go.Proofs.YtfjldfkgjejpmaaGreat
open Go.ChangeAt
theorem monitorFrames_holds : Rows.MonitorFramesSaid :=
  OpenClaim.holds_of_wide 7 Tryz.f7 rfl rfl rfl rfl rfl rfl rfl ⟨rfl, rfl, rfl, rfl, rfl⟩ rfl rfl rfl rfl rfl (by kernel_rfl) Tryz.func7 (by kernel_rfl)
    (of_decide_eq_true (by kernel_rfl)) (by unfold Func.isWrapper; first | (rw [if_pos (by decide +kernel)]; kernel_rfl) | (rw [if_neg (by decide +kernel)]; exact ⟨rfl, rfl⟩))
    (fun os started H enc _ => monitorFrames.lifted os started H enc)
end Go.Proofs.YtfjldfkgjejpmaaGreat
