import Derived.Test.YtfhjhnofkaiceaaGreatDoorTabA
namespace Go.Proofs.YtfhjhnofkaiceaaGreatDoor
open Go Go.Proofs.YtfhjhnofkaiceaaGreatDoor.Gx
theorem chk4:chkT P0 G0 X0 pol0 fuel0 t3 d4=true:=by decide +kernel
theorem chk8:chkT P0 G0 X0 pol0 fuel0 t7 d8=true:=by decide +kernel
theorem chk12:chkT P0 G0 X0 pol0 fuel0 t11 d12=true:=by decide +kernel
theorem chk16:chkT P0 G0 X0 pol0 fuel0 t15 d16=true:=by decide +kernel
end Go.Proofs.YtfhjhnofkaiceaaGreatDoor
