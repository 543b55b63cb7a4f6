import Derived.Test.YtpfepjgnojfppaaGreatDoorGh
import Derived.Test.YtpfepjgnojfppaaGreatDoorKo
import Derived.Test.YtpfepjgnojfppaaGreatDoorTy
namespace Go.Proofs.YtpfepjgnojfppaaGreatDoor
open Go.Ab
def dueAt (l : List Job) (i : Int) : Int := (jobAt l i).due
end Go.Proofs.YtpfepjgnojfppaaGreatDoor
