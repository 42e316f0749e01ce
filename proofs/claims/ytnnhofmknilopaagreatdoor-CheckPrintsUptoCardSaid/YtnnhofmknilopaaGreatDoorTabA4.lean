import Derived.Test.YtnnhofmknilopaaGreatDoorTabA
namespace Go.Proofs.YtnnhofmknilopaaGreatDoor
open Go Go.Proofs.YtnnhofmknilopaaGreatDoor.Gx
theorem chk4:chkT P0 G0 X0 pol0 fuel0 tw3 dw4=true:=by decide +kernel
theorem chk8:chkT P0 G0 X0 pol0 fuel0 tw7 dw8=true:=by decide +kernel
end Go.Proofs.YtnnhofmknilopaaGreatDoor
