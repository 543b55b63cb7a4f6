import Derived.Test.YtjamlnkjfkcdkaaGreatDoorFs
import Derived.Test.YtjamlnkjfkcdkaaGreatDoorKa
namespace Go.Proofs.YtjamlnkjfkcdkaaGreatDoor
open Go.Ab
theorem sh_int {x : X} (h : Shape (.int .i64) [x]) : ∃ n : Int, x = .int .i64 n := by
  obtain ⟨n, h⟩ := h
  cases h
  exact ⟨n, rfl⟩
theorem sh_run {xs : List X} (h : Shape (.st (.cons (.int .i64) (.cons (.int .i64) (.cons (.int .i64) .nil)))) xs) : ∃ p : Run, xs = p.cs := by
  obtain ⟨a, b, rfl, ⟨n1, rfl⟩, c, d, rfl, ⟨n2, rfl⟩, e, f, rfl, ⟨n3, rfl⟩, rfl⟩ := h
  exact ⟨⟨n1, n2, n3⟩, rfl⟩
theorem sh_runs {x : X} (h : Shape (.sl (.st (.cons (.int .i64) (.cons (.int .i64) (.cons (.int .i64) .nil))))) [x]) : ∃ l : List Run, x = .sl (l.map Run.cs) := by
  obtain ⟨rows, h1, hr⟩ := h
  cases h1
  obtain ⟨l, rfl⟩ := rows_of (f := Run.cs) (fun r h => sh_run (hr r h))
  exact ⟨l, rfl⟩
end Go.Proofs.YtjamlnkjfkcdkaaGreatDoor
