import Derived.Test.YtlmhpcghgjdjjaaGreatDoorFw
import Derived.Test.YtlmhpcghgjdjjaaGreatDoorTy
set_option linter.all false
namespace Go.Proofs.Z9
open Go.Ab Tryz
def Td:IA prog 29 [.s [],.i 0]:=IA.of V underlying29 V ⟨rfl,rfl,underlying9,isAgg9,⟨rfl,rfl,underlying3,isAgg3,Zo⟩⟩
