import Derived.Test.YtaonejnicgbifaaGreatDoorTabA
namespace Go.Proofs.YtaonejnicgbifaaGreatDoor
open Go Go.Proofs.YtaonejnicgbifaaGreatDoor.Gx
theorem chk3 : chkT P0 G0 X0 pol0 fuel0 tw2 dw3 = true := by decide +kernel
theorem chk7 : chkT P0 G0 X0 pol0 fuel0 tw6 dw7 = true := by decide +kernel
theorem chk11 : chkT P0 G0 X0 pol0 fuel0 tw10 dw11 = true := by decide +kernel
theorem chk15 : chkT P0 G0 X0 pol0 fuel0 tw14 dw15 = true := by decide +kernel
end Go.Proofs.YtaonejnicgbifaaGreatDoor
