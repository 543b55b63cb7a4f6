import Derived.Test.YtpfepjgnojfppaaGreatDoorFs
import Derived.Test.YtpfepjgnojfppaaGreatDoorKa
namespace Go.Proofs.YtpfepjgnojfppaaGreatDoor
open Go.Ab
theorem sh_ints {x : X} (h : Shape (.sl (.int .i64)) [x]) : ∃ l : List Int, x = ints l := by
  obtain ⟨rows, h1, hr⟩ := h
  cases h1
  obtain ⟨l, rfl⟩ := rows_of (f := fun n => [X.int .i64 n]) (fun r h => by obtain ⟨s, rfl⟩ := hr r h; exact ⟨s, rfl⟩)
  exact ⟨l, rfl⟩
theorem sh_int {x : X} (h : Shape (.int .i64) [x]) : ∃ n : Int, x = .int .i64 n := by
  obtain ⟨n, h⟩ := h
  cases h
  exact ⟨n, rfl⟩
theorem sh_range {xs : List X} (h : Shape (.cons (.int .i64) (.cons (.int .i64) .nil)) xs) : ∃ p : Range, xs = p.cs := by
  obtain ⟨a, b, rfl, ⟨n1, rfl⟩, c, d, rfl, ⟨n2, rfl⟩, rfl⟩ := h
  exact ⟨⟨n1, n2⟩, rfl⟩
end Go.Proofs.YtpfepjgnojfppaaGreatDoor
