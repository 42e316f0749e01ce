import Derived.Test.YtnnhofmknilopaaGreatDoorTabA
namespace Go.Proofs.YtnnhofmknilopaaGreatDoor
open Go Go.Proofs.YtnnhofmknilopaaGreatDoor.Gx
theorem chk3:chkT P0 G0 X0 pol0 fuel0 tw2 dw3=true:=by decide +kernel
theorem chk7:chkT P0 G0 X0 pol0 fuel0 tw6 dw7=true:=by decide +kernel
end Go.Proofs.YtnnhofmknilopaaGreatDoor
