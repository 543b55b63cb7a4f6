import Derived.Test.YtkkbjdenehfpaaaGreatDoorFwN
import Derived.Test.YtkkbjdenehfpaaaGreatDoorTyN
set_option linter.all false
namespace Go.Proofs.Z_
open Go.Ab Tryz
def sJ:gh prog 50 [.s [],.i 0]:=gh.of V underlying50 V ⟨rfl,rfl,underlying9,isAgg9,⟨rfl,rfl,underlying3,isAgg3,Zo⟩⟩
