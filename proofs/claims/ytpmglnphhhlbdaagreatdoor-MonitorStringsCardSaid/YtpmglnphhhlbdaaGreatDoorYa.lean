import Derived.Test.YtpmglnphhhlbdaaGreatDoorFx
import Derived.Test.YtpmglnphhhlbdaaGreatDoorSh
import Derived.Test.YtpmglnphhhlbdaaGreatDoorWn
import Derived.Test.YtpmglnphhhlbdaaGreatDoorWz0
namespace Go.Proofs.YtpmglnphhhlbdaaGreatDoor
open Go.Ab
def frameE (p : Plan) (f : Frame) : Int := if ¬ (0 ≤ f.tick ∧ f.tick ≤ p.ticks - 1) then 2 else valuesErr p f.values
theorem frameE_0 {p : Plan} {f : Frame} (h : frameE p f = 0) : (0 ≤ f.tick ∧ f.tick ≤ p.ticks - 1) ∧ f.values.length = p.channels.length := by
  unfold frameE at h
  split at h
  · cases h
  · rename_i h1
    refine ⟨Decidable.not_not.1 h1, ?_⟩
    unfold valuesErr at h
    split at h
    · cases h
    · omega
theorem sh_frame {xs : List X} (h : Shape (.st (.cons (.int .i64) (.cons (.sl (.int .i64)) .nil))) xs) : ∃ p : Frame, xs = p.cs := by
  obtain ⟨a, b, rfl, ⟨n, rfl⟩, c, d, rfl, ⟨rows, rfl, hr⟩, rfl⟩ := h
  obtain ⟨l, rfl⟩ := rows_of (f := fun n => [X.int .i64 n]) (fun r h => by obtain ⟨s, rfl⟩ := hr r h; exact ⟨s, rfl⟩)
  exact ⟨⟨n, l⟩, rfl⟩
end Go.Proofs.YtpmglnphhhlbdaaGreatDoor
