import Derived.Test.YtpfepjgnojfppaaGreatDoorFs
import Derived.Test.YtpfepjgnojfppaaGreatDoorKa
namespace Go.Proofs.YtpfepjgnojfppaaGreatDoor
open Go.Ab
theorem sh_job {xs : List X} (h : Shape (.st (.cons .str (.cons (.int .i64) (.cons (.int .i64) (.cons (.int .i64) .nil))))) xs) : ∃ p : Job, xs = p.cs := by
  obtain ⟨a, b, rfl, ⟨n1, rfl⟩, c, d, rfl, ⟨n2, rfl⟩, e, f, rfl, ⟨n3, rfl⟩, e2, f2, rfl, ⟨n4, rfl⟩, rfl⟩ := h
  exact ⟨⟨n1, n2, n3, n4⟩, rfl⟩
theorem sh_jobs {x : X} (h : Shape (.sl (.st (.cons .str (.cons (.int .i64) (.cons (.int .i64) (.cons (.int .i64) .nil)))))) [x]) : ∃ l : List Job, x = .sl (l.map Job.cs) := by
  obtain ⟨rows, h1, hr⟩ := h
  cases h1
  obtain ⟨l, rfl⟩ := rows_of (f := Job.cs) (fun r h => sh_job (hr r h))
  exact ⟨l, rfl⟩
theorem sh_share {xs : List X} (h : Shape (.st (.cons .str (.cons (.int .i64) .nil))) xs) : ∃ p : Share, xs = p.cs := by
  obtain ⟨a, b, rfl, ⟨n1, rfl⟩, c, d, rfl, ⟨n2, rfl⟩, rfl⟩ := h
  exact ⟨⟨n1, n2⟩, rfl⟩
theorem sh_basket {xs : List X} (h : Shape (.st (.cons (.sl (.st (.cons .str (.cons (.int .i64) .nil)))) .nil)) xs) : ∃ p : Basket, xs = p.cs := by
  obtain ⟨a, b, rfl, ⟨rows, rfl, hr⟩, rfl⟩ := h
  obtain ⟨l, rfl⟩ := rows_of (f := Share.cs) (fun r h => sh_share (hr r h))
  exact ⟨⟨l⟩, rfl⟩
theorem sh_baskets {x : X} (h : Shape (.sl (.st (.cons (.sl (.st (.cons .str (.cons (.int .i64) .nil)))) .nil))) [x]) : ∃ l : List Basket, x = .sl (l.map Basket.cs) := by
  obtain ⟨rows, h1, hr⟩ := h
  cases h1
  obtain ⟨l, rfl⟩ := rows_of (f := Basket.cs) (fun r h => sh_basket (hr r h))
  exact ⟨l, rfl⟩
end Go.Proofs.YtpfepjgnojfppaaGreatDoor
