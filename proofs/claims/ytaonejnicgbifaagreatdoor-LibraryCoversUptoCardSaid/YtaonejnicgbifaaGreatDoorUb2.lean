import Derived.Test.YtaonejnicgbifaaGreatDoorUb
namespace Go.Proofs.YtaonejnicgbifaaGreatDoor
open Go Go.Proofs.YtaonejnicgbifaaGreatDoor.Gx
theorem chk2:chkT P0 G0 X0 pol0 fuel0 tw1 dw2=true:=by decide +kernel
end Go.Proofs.YtaonejnicgbifaaGreatDoor
