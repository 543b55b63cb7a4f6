/-
  Readings of arguments as data of chapter 9.
-/
import Derived.Test.YtjamlnkjfkcdkaaGreatDoorFs
import Derived.Test.YtjamlnkjfkcdkaaGreatDoorKa
namespace Go.Proofs.YtjamlnkjfkcdkaaGreatDoor
open Go.Ab

theorem sh_ints {x : X} (h : Shape (.sl (.int .i64)) [x]) : ∃ l : List Int, x = ints l := by
  obtain ⟨rows, h1, hr⟩ := h
  cases h1
  obtain ⟨l, rfl⟩ := rows_of (f := fun n => [X.int .i64 n]) (fun r h => by obtain ⟨s, rfl⟩ := hr r h; exact ⟨s, rfl⟩)
  exact ⟨l, rfl⟩
theorem sh_int {x : X} (h : Shape (.int .i64) [x]) : ∃ n : Int, x = .int .i64 n := by
  obtain ⟨n, h⟩ := h
  cases h
  exact ⟨n, rfl⟩
theorem sh_job {xs : List X} (h : Shape (.st (.cons .str (.cons (.int .i64) (.cons (.int .i64) (.cons (.int .i64) .nil))))) xs) : ∃ p : Job, xs = p.cs := by
  obtain ⟨a, b, rfl, ⟨n1, rfl⟩, c, d, rfl, ⟨n2, rfl⟩, e, f, rfl, ⟨n3, rfl⟩, e2, f2, rfl, ⟨n4, rfl⟩, rfl⟩ := h
  exact ⟨⟨n1, n2, n3, n4⟩, rfl⟩
theorem sh_jobs {x : X} (h : Shape (.sl (.st (.cons .str (.cons (.int .i64) (.cons (.int .i64) (.cons (.int .i64) .nil)))))) [x]) : ∃ l : List Job, x = .sl (l.map Job.cs) := by
  obtain ⟨rows, h1, hr⟩ := h
  cases h1
  obtain ⟨l, rfl⟩ := rows_of (f := Job.cs) (fun r h => sh_job (hr r h))
  exact ⟨l, rfl⟩
theorem sh_row9 {xs : List X} (h : Shape (.sl (.int .i64)) xs) : ∃ l : List Int, xs = [.sl (l.map fun n => [.int .i64 n])] := by
  obtain ⟨rows, rfl, hr⟩ := h
  obtain ⟨l, rfl⟩ := rows_of (f := fun n => [X.int .i64 n]) (fun r h => by obtain ⟨s, rfl⟩ := hr r h; exact ⟨s, rfl⟩)
  exact ⟨l, rfl⟩
theorem sh_changes {xs : List X} (h : Shape (.cons (.int .i64) (.cons (.sl (.sl (.int .i64))) .nil)) xs) : ∃ c : Changes, xs = c.cs := by
  obtain ⟨a, b, rfl, ⟨n, rfl⟩, c, d, rfl, ⟨rows, rfl, hr⟩, rfl⟩ := h
  obtain ⟨l, rfl⟩ := rows_of (f := fun l : List Int => [X.sl (l.map fun n => [X.int .i64 n])]) (fun r h => sh_row9 (hr r h))
  exact ⟨⟨n, l⟩, rfl⟩
theorem sh_lot {xs : List X} (h : Shape (.st (.cons .str (.cons .str (.cons (.int .i64) .nil)))) xs) : ∃ p : Lot, xs = p.cs := by
  obtain ⟨a, b, rfl, ⟨n1, rfl⟩, c, d, rfl, ⟨n2, rfl⟩, e, f, rfl, ⟨n3, rfl⟩, rfl⟩ := h
  exact ⟨⟨n1, n2, n3⟩, rfl⟩
theorem sh_lots {x : X} (h : Shape (.sl (.st (.cons .str (.cons .str (.cons (.int .i64) .nil))))) [x]) : ∃ l : List Lot, x = .sl (l.map Lot.cs) := by
  obtain ⟨rows, h1, hr⟩ := h
  cases h1
  obtain ⟨l, rfl⟩ := rows_of (f := Lot.cs) (fun r h => sh_lot (hr r h))
  exact ⟨l, rfl⟩
theorem sh_share {xs : List X} (h : Shape (.st (.cons .str (.cons (.int .i64) .nil))) xs) : ∃ p : Share, xs = p.cs := by
  obtain ⟨a, b, rfl, ⟨n1, rfl⟩, c, d, rfl, ⟨n2, rfl⟩, rfl⟩ := h
  exact ⟨⟨n1, n2⟩, rfl⟩
theorem sh_basket {xs : List X} (h : Shape (.st (.cons (.sl (.st (.cons .str (.cons (.int .i64) .nil)))) .nil)) xs) : ∃ p : Basket, xs = p.cs := by
  obtain ⟨a, b, rfl, ⟨rows, rfl, hr⟩, rfl⟩ := h
  obtain ⟨l, rfl⟩ := rows_of (f := Share.cs) (fun r h => sh_share (hr r h))
  exact ⟨⟨l⟩, rfl⟩
theorem sh_baskets {x : X} (h : Shape (.sl (.st (.cons (.sl (.st (.cons .str (.cons (.int .i64) .nil)))) .nil))) [x]) : ∃ l : List Basket, x = .sl (l.map Basket.cs) := by
  obtain ⟨rows, h1, hr⟩ := h
  cases h1
  obtain ⟨l, rfl⟩ := rows_of (f := Basket.cs) (fun r h => sh_basket (hr r h))
  exact ⟨l, rfl⟩
theorem sh_run {xs : List X} (h : Shape (.st (.cons (.int .i64) (.cons (.int .i64) (.cons (.int .i64) .nil)))) xs) : ∃ p : Run, xs = p.cs := by
  obtain ⟨a, b, rfl, ⟨n1, rfl⟩, c, d, rfl, ⟨n2, rfl⟩, e, f, rfl, ⟨n3, rfl⟩, rfl⟩ := h
  exact ⟨⟨n1, n2, n3⟩, rfl⟩
theorem sh_runs {x : X} (h : Shape (.sl (.st (.cons (.int .i64) (.cons (.int .i64) (.cons (.int .i64) .nil))))) [x]) : ∃ l : List Run, x = .sl (l.map Run.cs) := by
  obtain ⟨rows, h1, hr⟩ := h
  cases h1
  obtain ⟨l, rfl⟩ := rows_of (f := Run.cs) (fun r h => sh_run (hr r h))
  exact ⟨l, rfl⟩
theorem sh_run1 {xs : List X} (h : Shape (.cons (.int .i64) (.cons (.int .i64) (.cons (.int .i64) .nil))) xs) : ∃ p : Run, xs = p.cs := by
  obtain ⟨a, b, rfl, ⟨n1, rfl⟩, c, d, rfl, ⟨n2, rfl⟩, e, f, rfl, ⟨n3, rfl⟩, rfl⟩ := h
  exact ⟨⟨n1, n2, n3⟩, rfl⟩
theorem sh_chart {xs : List X} (h : Shape (.cons (.int .i64) (.cons (.int .i64) (.cons (.int .i64) .nil))) xs) : ∃ p : Chart, xs = p.cs := by
  obtain ⟨a, b, rfl, ⟨n1, rfl⟩, c, d, rfl, ⟨n2, rfl⟩, e, f, rfl, ⟨n3, rfl⟩, rfl⟩ := h
  exact ⟨⟨n1, n2, n3⟩, rfl⟩
theorem sh_range {xs : List X} (h : Shape (.cons (.int .i64) (.cons (.int .i64) .nil)) xs) : ∃ p : Range, xs = p.cs := by
  obtain ⟨a, b, rfl, ⟨n1, rfl⟩, c, d, rfl, ⟨n2, rfl⟩, rfl⟩ := h
  exact ⟨⟨n1, n2⟩, rfl⟩
theorem sh_bath {xs : List X} (h : Shape (.st (.cons (.int .i64) (.cons (.st (.cons (.int .i64) (.cons (.int .i64) .nil))) .nil))) xs) : ∃ p : Bath, xs = p.cs := by
  obtain ⟨a, b, rfl, ⟨n1, rfl⟩, c, d, rfl, ⟨e, f, rfl, ⟨n2, rfl⟩, g, i, rfl, ⟨n3, rfl⟩, rfl⟩, rfl⟩ := h
  exact ⟨⟨n1, ⟨n2, n3⟩⟩, rfl⟩
theorem sh_baths {x : X} (h : Shape (.sl (.st (.cons (.int .i64) (.cons (.st (.cons (.int .i64) (.cons (.int .i64) .nil))) .nil)))) [x]) : ∃ l : List Bath, x = .sl (l.map Bath.cs) := by
  obtain ⟨rows, h1, hr⟩ := h
  cases h1
  obtain ⟨l, rfl⟩ := rows_of (f := Bath.cs) (fun r h => sh_bath (hr r h))
  exact ⟨l, rfl⟩


end Go.Proofs.YtjamlnkjfkcdkaaGreatDoor
