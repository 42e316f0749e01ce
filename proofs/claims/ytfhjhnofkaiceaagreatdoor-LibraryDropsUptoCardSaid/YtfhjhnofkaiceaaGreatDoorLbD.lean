import Derived.Test.YtfhjhnofkaiceaaGreatDoorLbC
import Derived.Test.YtfhjhnofkaiceaaGreatDoorLbB
import Derived.Test.YtfhjhnofkaiceaaGreatDoorDvU
namespace Go.Proofs.YtfhjhnofkaiceaaGreatDoor
open Go Go.RowKit
end Go.Proofs.YtfhjhnofkaiceaaGreatDoor
namespace Go.Proofs.YtfhjhnofkaiceaaGreatDoor
open Go Go.RowKit Go.Shelf Go.Sort
attribute [local go_sem] Oper.semAt_some
end Go.Proofs.YtfhjhnofkaiceaaGreatDoor
