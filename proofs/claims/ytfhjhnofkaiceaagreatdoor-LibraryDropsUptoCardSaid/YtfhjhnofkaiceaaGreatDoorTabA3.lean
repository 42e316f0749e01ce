import Derived.Test.YtfhjhnofkaiceaaGreatDoorTabA
namespace Go.Proofs.YtfhjhnofkaiceaaGreatDoor
open Go Go.Proofs.YtfhjhnofkaiceaaGreatDoor.Gx
theorem chk3:chkT P0 G0 X0 pol0 fuel0 t2 d3=true:=by decide +kernel
theorem chk7:chkT P0 G0 X0 pol0 fuel0 t6 d7=true:=by decide +kernel
theorem chk11:chkT P0 G0 X0 pol0 fuel0 t10 d11=true:=by decide +kernel
theorem chk15:chkT P0 G0 X0 pol0 fuel0 t14 d15=true:=by decide +kernel
end Go.Proofs.YtfhjhnofkaiceaaGreatDoor
