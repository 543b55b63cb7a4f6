import Derived.Test.YtdhdgbnafkeifaaGreatDoorFw
import Derived.Test.YtdhdgbnafkeifaaGreatDoorTy
set_option linter.all false
namespace Go.Proofs.YtdhdgbnafkeifaaGreatDoor
open Go.Ab Tryz
def Td:IA prog 29 [.s [],.i 0]:=IA.of V underlying29 V ⟨rfl,rfl,underlying9,isAgg9,⟨rfl,rfl,underlying3,isAgg3,Zo⟩⟩
def fi70_0:dz prog 70 0 0:=⟨_,_,_,underlying70,rfl,rfl,C,sizeOf3⟩
def IF:eT prog 135 true 3:=⟨isAgg135,sizeOf135⟩
def KY:eT prog 80 true 3:=⟨isAgg80,sizeOf80⟩
