/-
  MonitorAnyOrder: for every input the law returns true, and each argument reads behind the call as it read before. No condition.
-/
import Derived.Test.YtmokilkombplkaaGreatRows
import Derived.Test.YtmokilkombplkaaGreatFs
import Derived.Test.YtmokilkombplkaaGreatYe
namespace Go.Proofs.YtmokilkombplkaaGreat.monitorAnyOrder
open Go.Ab Go.ChangeShapes Go.WideShapes Go.ChangeAt Go.RowKit
theorem own : ownKnob Tryz.prog.godebug = none := by kernel_rfl
theorem laidOut : laidOutB Tryz.prog = true := by kernel_rfl
def tys : List Ty := [(.st (.cons (.sl .str) (.cons (.int .i64) .nil))), (.sl (.st (.cons (.int .i64) (.cons (.sl (.int .i64)) .nil)))), (.st (.cons (.sl (.st (.cons (.sl (.st (.cons .bool (.cons (.sl (.int .i64)) .nil)))) .nil))) (.cons (.int .i64) .nil)))]
theorem tysAre : TysAre Tryz.prog tys Tryz.f3.params.toList := by
  rw [Tryz.params3]
  exact ⟨rfl, ⟨_, Tryz.underlying24, by kernel_rfl, ⟨rfl, by kernel_rfl, ⟨_, Tryz.underlying22, by kernel_rfl, by decide, Tryz.underlying9⟩, ⟨rfl, by kernel_rfl, Tryz.underlying3, rfl⟩⟩⟩, by kernel_rfl, of_decide_eq_true (by kernel_rfl), ⟨rfl, ⟨_, Tryz.underlying25, by kernel_rfl, by decide, ⟨_, Tryz.underlying35, by kernel_rfl, ⟨rfl, by kernel_rfl, Tryz.underlying3, ⟨rfl, by kernel_rfl, ⟨_, Tryz.underlying33, by kernel_rfl, by decide, Tryz.underlying3⟩, rfl⟩⟩⟩⟩, by kernel_rfl, of_decide_eq_true (by kernel_rfl), ⟨rfl, ⟨_, Tryz.underlying28, by kernel_rfl, ⟨rfl, by kernel_rfl, ⟨_, Tryz.underlying26, by kernel_rfl, by decide, ⟨_, Tryz.underlying39, by kernel_rfl, ⟨rfl, by kernel_rfl, ⟨_, Tryz.underlying37, by kernel_rfl, by decide, ⟨_, Tryz.underlying99, by kernel_rfl, ⟨rfl, by kernel_rfl, Tryz.underlying4, ⟨rfl, by kernel_rfl, ⟨_, Tryz.underlying33, by kernel_rfl, by decide, Tryz.underlying3⟩, rfl⟩⟩⟩⟩, rfl⟩⟩⟩, ⟨rfl, by kernel_rfl, Tryz.underlying3, rfl⟩⟩⟩, by kernel_rfl, of_decide_eq_true (by kernel_rfl), trivial⟩⟩⟩
theorem contract : ∀ xs, ArgsIs tys xs → Ct Tryz.prog 3 xs (.bool true) := by
  intro xs h
  match xs, h with
  | [x0, x1, x2], h =>
    obtain ⟨⟨y0, rfl, h0⟩, h1, ⟨y2, rfl, h2⟩, _⟩ := h
    obtain ⟨a0, rfl⟩ := sh_plan h0
    obtain ⟨a1, rfl⟩ := sh_frames h1
    obtain ⟨a2, rfl⟩ := sh_learned h2
    exact law_MonitorAnyOrder
  | [], h => exact h.elim
  | [_], h => exact h.2.elim
  | [_, _], h => exact h.2.2.elim
  | _ :: _ :: _ :: _ :: _, h => exact h.2.2.2.elim
set_option maxRecDepth 100000 in
theorem lifted (os : Os) (started : os.Started) (H : Type) (enc : TypeId × Value → H) :
    ReturnsInHanded {} Tryz.checked os 3 .any (Rows.monitorAnyOrderSpec.pre6 enc Tryz.prog Tryz.f3 Rows.monitorAnyOrderRow.domain false) (Rows.monitorAnyOrderSpec.post enc Tryz.prog Tryz.f3 false true false false) := by
  refine returnsInHanded_of_change (C := Tryz.checked) own started (by kernel_rfl) Tryz.func3
    (ChangeSpec.witness6 (enc := enc) (C := Tryz.checked) false ⟨#[], #[.agg #[.slice none 0 0, .int .i64 (0)], .slice none 0 0, .agg #[.slice none 0 0, .int .i64 (0)]], []⟩ 8 (by kernel_rfl) (by kernel_rfl) (by kernel_rfl) (by kernel_rfl)) ?_
  intro W base args ds gs before hval0 hW hcnd _
  have hval : ∀ (j : Nat) t v, Tryz.f3.params[j]? = some t → args[j]? = some v → Value.okWide Tryz.prog W .any base t v := hval0
  clear hcnd hval0
  exact law_calls (P := Tryz.prog) (f := 3) (fn := Tryz.f3) (s := Rows.monitorAnyOrderSpec) (Ts := tys) (tb := 4) (apart := false) (fresh := true) (handsOn := false) contract laidOut tysAre rfl (by kernel_rfl) Tryz.underlying4
    (fun ds h => by
      rw [Tryz.params3] at h
      match ds, h with
      | [_, _, _], _ => rfl) hval hW
end Go.Proofs.YtmokilkombplkaaGreat.monitorAnyOrder
namespace Go.Proofs.YtmokilkombplkaaGreat
open Go.ChangeAt
theorem monitorAnyOrder_holds : Rows.MonitorAnyOrderSaid :=
  OpenClaim.holds_of_wide 3 Tryz.f3 rfl rfl rfl rfl rfl rfl rfl ⟨rfl, rfl, rfl, rfl, rfl⟩ rfl rfl rfl rfl rfl (by kernel_rfl) Tryz.func3 (by kernel_rfl)
    (of_decide_eq_true (by kernel_rfl)) (by unfold Func.isWrapper; first | (rw [if_pos (by decide +kernel)]; kernel_rfl) | (rw [if_neg (by decide +kernel)]; exact ⟨rfl, rfl⟩))
    (fun os started H enc _ => monitorAnyOrder.lifted os started H enc)
end Go.Proofs.YtmokilkombplkaaGreat
