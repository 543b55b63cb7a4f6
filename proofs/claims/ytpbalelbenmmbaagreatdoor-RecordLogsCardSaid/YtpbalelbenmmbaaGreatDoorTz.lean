import Derived.Test.YtpbalelbenmmbaaGreatDoorFw
import Derived.Test.YtpbalelbenmmbaaGreatDoorTy
set_option linter.all false
namespace Go.Proofs.YtpbalelbenmmbaaGreatDoor
open Go.Ab Tryz
def eqp37:IA prog 37 [.i 0,.s [],.s []]:=IA.of V underlying37 V ⟨rfl,rfl,underlying3,isAgg3,⟨rfl,rfl,underlying9,isAgg9,⟨rfl,rfl,underlying9,isAgg9,Zo⟩⟩⟩
def Qe:IA prog 59 [.s [],.i 0]:=IA.of V underlying59 V ⟨rfl,rfl,underlying9,isAgg9,⟨rfl,rfl,underlying3,isAgg3,Zo⟩⟩
