import Derived.Test.YtaonejnicgbifaaGreatDoorTabA
namespace Go.Proofs.YtaonejnicgbifaaGreatDoor
open Go Go.Proofs.YtaonejnicgbifaaGreatDoor.Gx
theorem chk4 : chkT P0 G0 X0 pol0 fuel0 tw3 dw4 = true := by decide +kernel
theorem chk8 : chkT P0 G0 X0 pol0 fuel0 tw7 dw8 = true := by decide +kernel
theorem chk12 : chkT P0 G0 X0 pol0 fuel0 tw11 dw12 = true := by decide +kernel
theorem chk16 : chkT P0 G0 X0 pol0 fuel0 tw15 dw16 = true := by decide +kernel
end Go.Proofs.YtaonejnicgbifaaGreatDoor
