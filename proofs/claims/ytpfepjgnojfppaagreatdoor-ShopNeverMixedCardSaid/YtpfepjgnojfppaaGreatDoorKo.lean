import Derived.Test.YtpfepjgnojfppaaGreatDoorGh
import Derived.Test.YtpfepjgnojfppaaGreatDoorKh
import Derived.Test.YtpfepjgnojfppaaGreatDoorTy
namespace Go.Proofs.YtpfepjgnojfppaaGreatDoor
open Go.Ab
theorem all_dropG {α : Type} (g : α → Bool) {l : List α} {i : Nat} (h : i < l.length) : (l.drop i).all g = (g l[i] && (l.drop (i + 1)).all g) := by rw [List.drop_eq_getElem_cons h, List.all_cons]
theorem each_at {α : Type} {g : Nat → α → Int} {l : List α} {i : Nat} {e : Int} (hg : eachGo g 0 l = eachGo g i (l.drop i)) (hi : i < l.length) (he : g i l[i] = e) (h0 : e ≠ 0) : eachGo g 0 l = ((i : Int), e) := by rw [hg, eachGo_drop _ hi, he, if_pos h0]
theorem each_on {α : Type} {g : Nat → α → Int} {l : List α} {i : Nat} (hg : eachGo g 0 l = eachGo g i (l.drop i)) (hi : i < l.length) (he : g i l[i] = 0) : eachGo g 0 l = eachGo g (i + 1) (l.drop (i + 1)) := by rw [hg, eachGo_drop _ hi, he, if_neg (by decide)]
theorem each_end {α : Type} {g : Nat → α → Int} {l : List α} {i : Nat} (hg : eachGo g 0 l = eachGo g i (l.drop i)) (hi : i = l.length) : eachGo g 0 l = (0, 0) := by rw [hg, hi, List.drop_length]; rfl
end Go.Proofs.YtpfepjgnojfppaaGreatDoor
