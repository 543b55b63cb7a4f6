import Derived.Test.YtpmglnphhhlbdaaGreatDoorGs
import Derived.Test.YtpmglnphhhlbdaaGreatDoorMi
import Derived.Test.YtpmglnphhhlbdaaGreatDoorTz
namespace Go.Proofs.YtpmglnphhhlbdaaGreatDoor
open Go.Ab
theorem num_no {c : UInt8} (hc : c ≠ 45) (hd : isDig c = false) {w : List UInt8} (h : sgnC w 7 = true) : c ∉ w := by
  have key : ∀ {r : List UInt8}, natC r 7 = true → c ∉ r := fun {r} h hm => by
    obtain ⟨⟨_, _, ha⟩, _⟩ := natC_canon.1 h
    have := List.all_eq_true.1 ha c hm
    rw [hd] at this
    cases this
  unfold sgnC at h
  split at h
  · rename_i hh
    obtain ⟨r, rfl⟩ := head_of hh
    rw [Bool.and_eq_true] at h
    intro hm
    rcases List.mem_cons.1 hm with e | e
    · exact hc e
    · exact key h.1 e
  · exact key h
end Go.Proofs.YtpmglnphhhlbdaaGreatDoor
