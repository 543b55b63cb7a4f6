import Derived.Test.YtlmhpcghgjdjjaaGreatDoorFw
import Derived.Test.YtlmhpcghgjdjjaaGreatDoorTy
set_option linter.all false
namespace Go.Proofs.Z_
open Go.Ab Tryz
def eqp187:gh prog 187 [.s [],.i 0,.i 0]:=gh.of V underlying187 V ⟨rfl,rfl,underlying9,isAgg9,⟨rfl,rfl,underlying3,isAgg3,⟨rfl,rfl,underlying3,isAgg3,Zo⟩⟩⟩
def ET:gh prog 29 [.s [],.i 0]:=gh.of V underlying29 V ⟨rfl,rfl,underlying9,isAgg9,⟨rfl,rfl,underlying3,isAgg3,Zo⟩⟩
def eqp95:gh prog 95 [.i 0,.s [],.s []]:=gh.of V underlying95 V ⟨rfl,rfl,underlying3,isAgg3,⟨rfl,rfl,underlying9,isAgg9,⟨rfl,rfl,underlying9,isAgg9,Zo⟩⟩⟩
