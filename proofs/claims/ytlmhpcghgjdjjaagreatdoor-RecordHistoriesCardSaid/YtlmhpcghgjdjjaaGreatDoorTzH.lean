import Derived.Test.YtlmhpcghgjdjjaaGreatDoorFwH
import Derived.Test.YtlmhpcghgjdjjaaGreatDoorTyH
set_option linter.all false
namespace Go.Proofs.Z_
open Go.Ab Tryz
def ET:gh prog 29 [.s [],.i 0]:=gh.of V underlying29 V ⟨rfl,rfl,underlying9,isAgg9,⟨rfl,rfl,underlying3,isAgg3,Zo⟩⟩
