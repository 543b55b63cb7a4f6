import Derived.Test.YthibpafdakbpgaaGreatDoorFwD
import Derived.Test.YthibpafdakbpgaaGreatDoorTyD
set_option linter.all false
namespace Go.Proofs.YthibpafdakbpgaaGreatDoor
open Go.Ab Tryz
def eqp170:gh prog 170 [.s [],.i 0,.i 0]:=gh.of V underlying170 V ⟨rfl,rfl,underlying9,isAgg9,⟨rfl,rfl,underlying3,isAgg3,⟨rfl,rfl,underlying3,isAgg3,Zo⟩⟩⟩
def Gx:gh prog 47 [.s [],.i 0]:=gh.of V underlying47 V ⟨rfl,rfl,underlying9,isAgg9,⟨rfl,rfl,underlying3,isAgg3,Zo⟩⟩
