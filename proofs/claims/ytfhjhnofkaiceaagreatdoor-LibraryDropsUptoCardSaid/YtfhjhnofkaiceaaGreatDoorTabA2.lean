import Derived.Test.YtfhjhnofkaiceaaGreatDoorTabA
namespace Go.Proofs.YtfhjhnofkaiceaaGreatDoor
open Go Go.Proofs.YtfhjhnofkaiceaaGreatDoor.Gx
theorem chk2:chkT P0 G0 X0 pol0 fuel0 t1 d2=true:=by decide +kernel
theorem chk6:chkT P0 G0 X0 pol0 fuel0 t5 d6=true:=by decide +kernel
theorem chk10:chkT P0 G0 X0 pol0 fuel0 t9 d10=true:=by decide +kernel
theorem chk14:chkT P0 G0 X0 pol0 fuel0 t13 d14=true:=by decide +kernel
end Go.Proofs.YtfhjhnofkaiceaaGreatDoor
