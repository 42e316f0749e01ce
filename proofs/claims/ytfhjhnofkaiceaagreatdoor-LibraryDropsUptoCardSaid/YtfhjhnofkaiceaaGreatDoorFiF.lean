import Derived.Test.YtfhjhnofkaiceaaGreatDoorProg
import Derived.JoinedOf
import Derived.KernelRfl
namespace Go.Proofs.YtfhjhnofkaiceaaGreatDoor
open Go
theorem qr22:Tryz.prog.readableRec 22=true:=by kernel_rfl
theorem qm22:Tryz.prog.mapsRec 22=false:=by kernel_rfl
theorem qi22:Tryz.prog.ifacesRec 22=false:=by kernel_rfl
theorem ql22:Tryz.prog.loopsFrom 22=true:=by kernel_rfl
theorem qw22:Tryz.prog.wideKeysFrom 22=false:=by kernel_rfl
theorem qv22:Tryz.prog.veiledRec 22=false:=by kernel_rfl
theorem qr24:Tryz.prog.readableRec 24=true:=by kernel_rfl
theorem qm24:Tryz.prog.mapsRec 24=false:=by kernel_rfl
theorem qi24:Tryz.prog.ifacesRec 24=false:=by kernel_rfl
theorem qw24:Tryz.prog.wideKeysFrom 24=false:=by kernel_rfl
theorem qv24:Tryz.prog.veiledRec 24=false:=by kernel_rfl
theorem r1:Tryz.prog.readableRec 4=true:=by kernel_rfl
theorem r3:Tryz.prog.ifacesRec 4=false:=by kernel_rfl
theorem r4:Tryz.prog.loopsFrom 4=false:=by kernel_rfl
theorem r5:Tryz.prog.wideKeysFrom 4=false:=by kernel_rfl
theorem r6:Tryz.prog.veiledRec 4=false:=by kernel_rfl
theorem p1:Tryz.prog.stops=[]:=by kernel_rfl
theorem p2:Tryz.prog.stopKnobs=[]:=by kernel_rfl
theorem p4:Tryz.prog.stopsHeard=true:=by kernel_rfl
theorem p5:Tryz.prog.mayEnter=true:=by kernel_rfl
theorem p6:Tryz.prog.plainKeys=false:=by kernel_rfl
theorem rs4:(#[4]:Array Nat).all (fun t=>Tryz.prog.readableRec t&&decide (t<Tryz.prog.types.size))=true:=by
 simp[r1]
end Go.Proofs.YtfhjhnofkaiceaaGreatDoor
