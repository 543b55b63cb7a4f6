import Derived.Test.YtpfepjgnojfppaaGreatDoorGh
import Derived.Test.YtpfepjgnojfppaaGreatDoorKp
import Derived.Test.YtpfepjgnojfppaaGreatDoorTy
namespace Go.Proofs.YtpfepjgnojfppaaGreatDoor
open Go.Ab
structure PreOk (n : Nat) (o : List Int) : Prop where
  rng : ∀ x ∈ o, 0 ≤ x ∧ x < (n : Int)
  dis : ∀ (i j : Nat) (hi : i < o.length) (hj : j < o.length), i < j → o[i] ≠ o[j]
end Go.Proofs.YtpfepjgnojfppaaGreatDoor
