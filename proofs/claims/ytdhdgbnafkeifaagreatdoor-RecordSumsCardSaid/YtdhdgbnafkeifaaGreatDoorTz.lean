import Derived.Test.YtdhdgbnafkeifaaGreatDoorFw
import Derived.Test.YtdhdgbnafkeifaaGreatDoorTy
set_option linter.all false
namespace Go.Proofs.YtdhdgbnafkeifaaGreatDoor
open Go.Ab Tryz
def eqp29:IA prog 29 [.s [],.i 0]:=IA.of V underlying29 V ⟨rfl,rfl,underlying9,isAgg9,⟨rfl,rfl,underlying3,isAgg3,Zo⟩⟩
