import Derived.Test.YtnnhofmknilopaaGreatDoorProg
import Derived.JoinedOf
import Derived.KernelRfl
namespace Go.Proofs.YtnnhofmknilopaaGreatDoor
open Go
theorem q1:Tryz.prog.readableRec 32=true:=by kernel_rfl
theorem q2:Tryz.prog.mapsRec 32=false:=by kernel_rfl
theorem q3:Tryz.prog.ifacesRec 32=false:=by kernel_rfl
theorem q4:Tryz.prog.loopsFrom 32=true:=by kernel_rfl
theorem q5:Tryz.prog.wideKeysFrom 32=false:=by kernel_rfl
theorem q6:Tryz.prog.veiledRec 32=false:=by kernel_rfl
theorem r1:Tryz.prog.readableRec 4=true:=by kernel_rfl
theorem r3:Tryz.prog.ifacesRec 4=false:=by kernel_rfl
theorem r4:Tryz.prog.loopsFrom 4=false:=by kernel_rfl
theorem r5:Tryz.prog.wideKeysFrom 4=false:=by kernel_rfl
theorem r6:Tryz.prog.veiledRec 4=false:=by kernel_rfl
theorem p1:Tryz.prog.stops=[]:=by kernel_rfl
theorem p2:Tryz.prog.stopKnobs=[]:=by kernel_rfl
theorem p4:Tryz.prog.stopsHeard=true:=by kernel_rfl
theorem p5:Tryz.prog.mayEnter=true:=by kernel_rfl
end Go.Proofs.YtnnhofmknilopaaGreatDoor
