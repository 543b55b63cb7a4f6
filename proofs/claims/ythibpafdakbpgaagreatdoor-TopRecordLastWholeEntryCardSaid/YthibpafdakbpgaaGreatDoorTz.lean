import Derived.Test.YthibpafdakbpgaaGreatDoorFw
import Derived.Test.YthibpafdakbpgaaGreatDoorTy
set_option linter.all false
namespace Go.Proofs.YthibpafdakbpgaaGreatDoor
open Go.Ab Tryz
def Gx:gh prog 47 [.s [],.i 0]:=gh.of V underlying47 V ⟨rfl,rfl,underlying9,isAgg9,⟨rfl,rfl,underlying3,isAgg3,Zo⟩⟩
def eqp79:gh prog 79 [.i 0,.s [],.s []]:=gh.of V underlying79 V ⟨rfl,rfl,underlying3,isAgg3,⟨rfl,rfl,underlying9,isAgg9,⟨rfl,rfl,underlying9,isAgg9,Zo⟩⟩⟩
