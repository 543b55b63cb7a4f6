import Derived.Test.YtkkbjdenehfpaaaGreatDoorUsN
set_option linter.all false
namespace Go.Proofs.Z_
open Go.Ab
def fQ{n:Net}{l:List Entry}(h:(Z2 n l).2.2=0):(Z2 n l).1.entries=(l.length:Int):=by
 obtain⟨_,_,e⟩:=Ur h;rw[e]at h⊢;rw[sI _ _ _ h];show 0+(l.length:Int)=_;omega
