import Derived.Test.YtdhdgbnafkeifaaGreatDoorFw
import Derived.Test.YtdhdgbnafkeifaaGreatDoorTy
set_option linter.all false
namespace Go.Proofs.YtdhdgbnafkeifaaGreatDoor
open Go.Ab Tryz
def bu167:nL prog 167 [.slice none 0 0,.string ⟨#[]⟩,.int .i64 (0),.int .i64 (0),.int .i64 (0),.slice none 0 0] (fun i=>([(0,5),(5,1)]:List (Nat×Nat)).toArray[i]?):=⟨by intro parts;kernel_rfl⟩
def Td:IA prog 29 [.s [],.i 0]:=IA.of V underlying29 V ⟨rfl,rfl,underlying9,isAgg9,⟨rfl,rfl,underlying3,isAgg3,Zo⟩⟩
def fi167_0:dz prog 167 0 0:=⟨_,_,_,underlying167,rfl,rfl,C,sizeOf26⟩
def fi167_1:dz prog 167 1 5:=⟨_,_,_,underlying167,rfl,rfl,C,sizeOf27⟩
def ti27:eT prog 27 false 1:=⟨isAgg27,sizeOf27⟩
