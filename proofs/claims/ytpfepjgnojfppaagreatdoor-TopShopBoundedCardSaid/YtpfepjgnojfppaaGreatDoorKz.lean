import Derived.Test.YtpfepjgnojfppaaGreatDoorFs
import Derived.Test.YtpfepjgnojfppaaGreatDoorKa
namespace Go.Proofs.YtpfepjgnojfppaaGreatDoor
open Go.Ab
theorem sh_int {x : X} (h : Shape (.int .i64) [x]) : ∃ n : Int, x = .int .i64 n := by
  obtain ⟨n, h⟩ := h
  cases h
  exact ⟨n, rfl⟩
theorem sh_job {xs : List X} (h : Shape (.st (.cons .str (.cons (.int .i64) (.cons (.int .i64) (.cons (.int .i64) .nil))))) xs) : ∃ p : Job, xs = p.cs := by
  obtain ⟨a, b, rfl, ⟨n1, rfl⟩, c, d, rfl, ⟨n2, rfl⟩, e, f, rfl, ⟨n3, rfl⟩, e2, f2, rfl, ⟨n4, rfl⟩, rfl⟩ := h
  exact ⟨⟨n1, n2, n3, n4⟩, rfl⟩
theorem sh_jobs {x : X} (h : Shape (.sl (.st (.cons .str (.cons (.int .i64) (.cons (.int .i64) (.cons (.int .i64) .nil)))))) [x]) : ∃ l : List Job, x = .sl (l.map Job.cs) := by
  obtain ⟨rows, h1, hr⟩ := h
  cases h1
  obtain ⟨l, rfl⟩ := rows_of (f := Job.cs) (fun r h => sh_job (hr r h))
  exact ⟨l, rfl⟩
theorem sh_row9 {xs : List X} (h : Shape (.sl (.int .i64)) xs) : ∃ l : List Int, xs = [.sl (l.map fun n => [.int .i64 n])] := by
  obtain ⟨rows, rfl, hr⟩ := h
  obtain ⟨l, rfl⟩ := rows_of (f := fun n => [X.int .i64 n]) (fun r h => by obtain ⟨s, rfl⟩ := hr r h; exact ⟨s, rfl⟩)
  exact ⟨l, rfl⟩
theorem sh_changes {xs : List X} (h : Shape (.cons (.int .i64) (.cons (.sl (.sl (.int .i64))) .nil)) xs) : ∃ c : Changes, xs = c.cs := by
  obtain ⟨a, b, rfl, ⟨n, rfl⟩, c, d, rfl, ⟨rows, rfl, hr⟩, rfl⟩ := h
  obtain ⟨l, rfl⟩ := rows_of (f := fun l : List Int => [X.sl (l.map fun n => [X.int .i64 n])]) (fun r h => sh_row9 (hr r h))
  exact ⟨⟨n, l⟩, rfl⟩
end Go.Proofs.YtpfepjgnojfppaaGreatDoor
