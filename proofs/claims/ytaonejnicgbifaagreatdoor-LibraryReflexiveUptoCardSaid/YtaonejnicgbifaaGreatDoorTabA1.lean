import Derived.Test.YtaonejnicgbifaaGreatDoorTabA
namespace Go.Proofs.YtaonejnicgbifaaGreatDoor
open Go Go.Proofs.YtaonejnicgbifaaGreatDoor.Gx
theorem chk1 : chkT P0 G0 X0 pol0 fuel0 tw0 dw1 = true := by decide +kernel
theorem chk5 : chkT P0 G0 X0 pol0 fuel0 tw4 dw5 = true := by decide +kernel
theorem chk9 : chkT P0 G0 X0 pol0 fuel0 tw8 dw9 = true := by decide +kernel
theorem chk13 : chkT P0 G0 X0 pol0 fuel0 tw12 dw13 = true := by decide +kernel
theorem chk17 : chkT P0 G0 X0 pol0 fuel0 tw16 dw17 = true := by decide +kernel
end Go.Proofs.YtaonejnicgbifaaGreatDoor
