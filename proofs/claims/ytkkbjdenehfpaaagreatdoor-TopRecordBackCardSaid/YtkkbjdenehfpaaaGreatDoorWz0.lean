import Derived.Test.YtkkbjdenehfpaaaGreatDoorWa
set_option linter.all false
namespace Go.Proofs.Z_
open Go.Ab
def sh_int{x:X}(h:Shape (.int .i64) [x]):∃n:Int,x=bv n:=by
 obtain⟨n,h⟩:=h;cases h;exact⟨n,rfl⟩
