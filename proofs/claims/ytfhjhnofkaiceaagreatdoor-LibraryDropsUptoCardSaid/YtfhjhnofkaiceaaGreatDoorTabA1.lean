import Derived.Test.YtfhjhnofkaiceaaGreatDoorTabA
namespace Go.Proofs.YtfhjhnofkaiceaaGreatDoor
open Go Go.Proofs.YtfhjhnofkaiceaaGreatDoor.Gx
theorem chk1:chkT P0 G0 X0 pol0 fuel0 t0 d1=true:=by decide +kernel
theorem chk5:chkT P0 G0 X0 pol0 fuel0 t4 d5=true:=by decide +kernel
theorem chk9:chkT P0 G0 X0 pol0 fuel0 t8 d9=true:=by decide +kernel
theorem chk13:chkT P0 G0 X0 pol0 fuel0 t12 d13=true:=by decide +kernel
theorem chk17:chkT P0 G0 X0 pol0 fuel0 t16 d17=true:=by decide +kernel
end Go.Proofs.YtfhjhnofkaiceaaGreatDoor
