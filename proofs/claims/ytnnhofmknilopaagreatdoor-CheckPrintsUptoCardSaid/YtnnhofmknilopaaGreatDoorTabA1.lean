import Derived.Test.YtnnhofmknilopaaGreatDoorTabA
namespace Go.Proofs.YtnnhofmknilopaaGreatDoor
open Go Go.Proofs.YtnnhofmknilopaaGreatDoor.Gx
theorem chk1:chkT P0 G0 X0 pol0 fuel0 tw0 dw1=true:=by decide +kernel
theorem chk5:chkT P0 G0 X0 pol0 fuel0 tw4 dw5=true:=by decide +kernel
end Go.Proofs.YtnnhofmknilopaaGreatDoor
