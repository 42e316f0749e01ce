import Derived.Test.YtaonejnicgbifaaGreatDoorTabA
namespace Go.Proofs.YtaonejnicgbifaaGreatDoor
open Go Go.Proofs.YtaonejnicgbifaaGreatDoor.Gx
theorem chk2 : chkT P0 G0 X0 pol0 fuel0 tw1 dw2 = true := by decide +kernel
theorem chk6 : chkT P0 G0 X0 pol0 fuel0 tw5 dw6 = true := by decide +kernel
theorem chk10 : chkT P0 G0 X0 pol0 fuel0 tw9 dw10 = true := by decide +kernel
theorem chk14 : chkT P0 G0 X0 pol0 fuel0 tw13 dw14 = true := by decide +kernel
end Go.Proofs.YtaonejnicgbifaaGreatDoor
