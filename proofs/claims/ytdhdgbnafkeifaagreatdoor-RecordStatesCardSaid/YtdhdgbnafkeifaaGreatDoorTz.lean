import Derived.Test.YtdhdgbnafkeifaaGreatDoorFw
import Derived.Test.YtdhdgbnafkeifaaGreatDoorTy
set_option linter.all false
namespace Go.Proofs.YtdhdgbnafkeifaaGreatDoor
open Go.Ab Tryz
def Td:IA prog 29 [.s [],.i 0]:=IA.of V underlying29 V ⟨rfl,rfl,underlying9,isAgg9,⟨rfl,rfl,underlying3,isAgg3,Zo⟩⟩
def eqp80:IA prog 80 [.s [],.i 0,.i 0]:=IA.of V underlying80 V ⟨rfl,rfl,underlying9,isAgg9,⟨rfl,rfl,underlying3,isAgg3,⟨rfl,rfl,underlying3,isAgg3,Zo⟩⟩⟩
def IF:eT prog 135 true 3:=⟨isAgg135,sizeOf135⟩
def KY:eT prog 80 true 3:=⟨isAgg80,sizeOf80⟩
def h_:pN prog 156 [.int .i64 (0),.int .i64 (0),.int .i64 (0),.int .i64 (0),.int .i64 (0)]:=⟨_,zeroValue156,rfl,rfl⟩
