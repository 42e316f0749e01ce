import Derived.Test.YtnnhofmknilopaaGreatDoorTabA
namespace Go.Proofs.YtnnhofmknilopaaGreatDoor
open Go Go.Proofs.YtnnhofmknilopaaGreatDoor.Gx
theorem chk2:chkT P0 G0 X0 pol0 fuel0 tw1 dw2=true:=by decide +kernel
theorem chk6:chkT P0 G0 X0 pol0 fuel0 tw5 dw6=true:=by decide +kernel
end Go.Proofs.YtnnhofmknilopaaGreatDoor
