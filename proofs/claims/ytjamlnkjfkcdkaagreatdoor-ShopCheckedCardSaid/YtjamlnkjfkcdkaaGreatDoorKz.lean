import Derived.Test.YtjamlnkjfkcdkaaGreatDoorFs
import Derived.Test.YtjamlnkjfkcdkaaGreatDoorKa
namespace Go.Proofs.YtjamlnkjfkcdkaaGreatDoor
open Go.Ab
theorem sh_int {x : X} (h : Shape (.int .i64) [x]) : ∃ n : Int, x = .int .i64 n := by
  obtain ⟨n, h⟩ := h
  cases h
  exact ⟨n, rfl⟩
theorem sh_range {xs : List X} (h : Shape (.cons (.int .i64) (.cons (.int .i64) .nil)) xs) : ∃ p : Range, xs = p.cs := by
  obtain ⟨a, b, rfl, ⟨n1, rfl⟩, c, d, rfl, ⟨n2, rfl⟩, rfl⟩ := h
  exact ⟨⟨n1, n2⟩, rfl⟩
theorem sh_bath {xs : List X} (h : Shape (.st (.cons (.int .i64) (.cons (.st (.cons (.int .i64) (.cons (.int .i64) .nil))) .nil))) xs) : ∃ p : Bath, xs = p.cs := by
  obtain ⟨a, b, rfl, ⟨n1, rfl⟩, c, d, rfl, ⟨e, f, rfl, ⟨n2, rfl⟩, g, i, rfl, ⟨n3, rfl⟩, rfl⟩, rfl⟩ := h
  exact ⟨⟨n1, ⟨n2, n3⟩⟩, rfl⟩
theorem sh_baths {x : X} (h : Shape (.sl (.st (.cons (.int .i64) (.cons (.st (.cons (.int .i64) (.cons (.int .i64) .nil))) .nil)))) [x]) : ∃ l : List Bath, x = .sl (l.map Bath.cs) := by
  obtain ⟨rows, h1, hr⟩ := h
  cases h1
  obtain ⟨l, rfl⟩ := rows_of (f := Bath.cs) (fun r h => sh_bath (hr r h))
  exact ⟨l, rfl⟩
end Go.Proofs.YtjamlnkjfkcdkaaGreatDoor
