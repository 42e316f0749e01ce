import Derived.Test.YtaonejnicgbifaaGreatDoorUb
namespace Go.Proofs.YtaonejnicgbifaaGreatDoor
open Go Go.Proofs.YtaonejnicgbifaaGreatDoor.Gx
theorem chk1:chkT P0 G0 X0 pol0 fuel0 tw0 dw1=true:=by decide +kernel
end Go.Proofs.YtaonejnicgbifaaGreatDoor
