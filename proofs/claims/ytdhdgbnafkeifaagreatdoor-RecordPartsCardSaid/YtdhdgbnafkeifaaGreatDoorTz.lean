import Derived.Test.YtdhdgbnafkeifaaGreatDoorFw
import Derived.Test.YtdhdgbnafkeifaaGreatDoorTy
set_option linter.all false
namespace Go.Proofs.YtdhdgbnafkeifaaGreatDoor
open Go.Ab Tryz
def eqp29:IA prog 29 [.s [],.i 0]:=IA.of V underlying29 V ⟨rfl,rfl,underlying9,isAgg9,⟨rfl,rfl,underlying3,isAgg3,Zo⟩⟩
def fi31_0:dz prog 31 0 0:=⟨_,_,_,underlying31,rfl,rfl,by decide,sizeOf3⟩
def fi31_1:dz prog 31 1 1:=⟨_,_,_,underlying31,rfl,rfl,by decide,sizeOf29⟩
