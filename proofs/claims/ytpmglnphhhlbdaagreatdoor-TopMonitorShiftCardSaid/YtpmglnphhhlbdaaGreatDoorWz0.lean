import Derived.Test.YtpmglnphhhlbdaaGreatDoorFs
import Derived.Test.YtpmglnphhhlbdaaGreatDoorWb
/-
  Readings of arguments as data of chapter 7.
-/
namespace Go.Proofs.YtpmglnphhhlbdaaGreatDoor
open Go.Ab

theorem sh_plan {xs : List X} (h : Shape (.cons (.sl .str) (.cons (.int .i64) .nil)) xs) : ∃ p : Plan, xs = p.cs := by
  obtain ⟨a, b, rfl, ⟨rows, rfl, hr⟩, c, d, rfl, ⟨n, rfl⟩, rfl⟩ := h
  obtain ⟨l, rfl⟩ := rows_of (f := fun s => [X.str s]) (fun r h => by obtain ⟨s, rfl⟩ := hr r h; exact ⟨s, rfl⟩)
  exact ⟨⟨l, n⟩, rfl⟩
theorem sh_ints {x : X} (h : Shape (.sl (.int .i64)) [x]) : ∃ l : List Int, x = ints l := by
  obtain ⟨rows, h1, hr⟩ := h
  cases h1
  obtain ⟨l, rfl⟩ := rows_of (f := fun n => [X.int .i64 n]) (fun r h => by obtain ⟨s, rfl⟩ := hr r h; exact ⟨s, rfl⟩)
  exact ⟨l, rfl⟩
theorem sh_row {xs : List X} (h : Shape (.st (.cons .bool (.cons (.sl (.int .i64)) .nil))) xs) : ∃ p : Row, xs = p.cs := by
  obtain ⟨a, b, rfl, ⟨k, rfl⟩, c, d, rfl, ⟨rows, rfl, hr⟩, rfl⟩ := h
  obtain ⟨l, rfl⟩ := rows_of (f := fun n => [X.int .i64 n]) (fun r h => by obtain ⟨s, rfl⟩ := hr r h; exact ⟨s, rfl⟩)
  exact ⟨⟨k, l⟩, rfl⟩
theorem sh_record {xs : List X} (h : Shape (.cons (.sl (.st (.cons .bool (.cons (.sl (.int .i64)) .nil)))) .nil) xs) : ∃ p : Record, xs = p.cs := by
  obtain ⟨a, b, rfl, ⟨rows, rfl, hr⟩, rfl⟩ := h
  obtain ⟨l, rfl⟩ := rows_of (f := Row.cs) (fun r h => sh_row (hr r h))
  exact ⟨⟨l⟩, rfl⟩
theorem sh_pass {xs : List X} (h : Shape (.st (.cons (.int .i64) (.cons (.int .i64) (.cons (.int .i64) .nil)))) xs) : ∃ p : Pass, xs = p.cs := by
  obtain ⟨a, b, rfl, ⟨n1, rfl⟩, c, d, rfl, ⟨n2, rfl⟩, e, f, rfl, ⟨n3, rfl⟩, rfl⟩ := h
  exact ⟨⟨n1, n2, n3⟩, rfl⟩
theorem sh_passes {x : X} (h : Shape (.sl (.st (.cons (.int .i64) (.cons (.int .i64) (.cons (.int .i64) .nil))))) [x]) : ∃ l : List Pass, x = .sl (l.map Pass.cs) := by
  obtain ⟨rows, h1, hr⟩ := h
  cases h1
  obtain ⟨l, rfl⟩ := rows_of (f := Pass.cs) (fun r h => sh_pass (hr r h))
  exact ⟨l, rfl⟩
theorem sh_rule {xs : List X} (h : Shape (.cons (.int .i64) (.cons (.int .i64) (.cons (.int .i64) .nil))) xs) : ∃ p : Rule, xs = p.cs := by
  obtain ⟨a, b, rfl, ⟨n1, rfl⟩, c, d, rfl, ⟨n2, rfl⟩, e, f, rfl, ⟨n3, rfl⟩, rfl⟩ := h
  exact ⟨⟨n1, n2, n3⟩, rfl⟩
theorem sh_event {xs : List X} (h : Shape (.st (.cons (.int .i64) (.cons (.int .i64) .nil))) xs) : ∃ p : Event, xs = p.cs := by
  obtain ⟨a, b, rfl, ⟨n1, rfl⟩, c, d, rfl, ⟨n2, rfl⟩, rfl⟩ := h
  exact ⟨⟨n1, n2⟩, rfl⟩
theorem sh_events {x : X} (h : Shape (.sl (.st (.cons (.int .i64) (.cons (.int .i64) .nil)))) [x]) : ∃ l : List Event, x = .sl (l.map Event.cs) := by
  obtain ⟨rows, h1, hr⟩ := h
  cases h1
  obtain ⟨l, rfl⟩ := rows_of (f := Event.cs) (fun r h => sh_event (hr r h))
  exact ⟨l, rfl⟩
theorem sh_int {x : X} (h : Shape (.int .i64) [x]) : ∃ n : Int, x = .int .i64 n := by
  obtain ⟨n, h⟩ := h
  cases h
  exact ⟨n, rfl⟩


end Go.Proofs.YtpmglnphhhlbdaaGreatDoor
