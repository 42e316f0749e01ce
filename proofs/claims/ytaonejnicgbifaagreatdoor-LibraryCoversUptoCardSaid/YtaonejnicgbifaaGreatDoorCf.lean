import Derived.Test.YtaonejnicgbifaaGreatDoorProg
import Derived.JoinedOf
import Derived.KernelRfl
namespace Go.Proofs.YtaonejnicgbifaaGreatDoor
open Go
theorem qr22:Tryz.prog.readableRec 22=true:=by kernel_rfl
theorem qm22:Tryz.prog.mapsRec 22=false:=by kernel_rfl
theorem qi22:Tryz.prog.ifacesRec 22=false:=by kernel_rfl
theorem ql22:Tryz.prog.loopsFrom 22=true:=by kernel_rfl
theorem qw22:Tryz.prog.wideKeysFrom 22=false:=by kernel_rfl
theorem qv22:Tryz.prog.veiledRec 22=false:=by kernel_rfl
theorem qr24:Tryz.prog.readableRec 24=true:=by kernel_rfl
theorem qm24:Tryz.prog.mapsRec 24=false:=by kernel_rfl
theorem qi24:Tryz.prog.ifacesRec 24=false:=by kernel_rfl
theorem ql24:Tryz.prog.loopsFrom 24=false:=by kernel_rfl
theorem qw24:Tryz.prog.wideKeysFrom 24=false:=by kernel_rfl
theorem qv24:Tryz.prog.veiledRec 24=false:=by kernel_rfl
theorem qr34:Tryz.prog.readableRec 34=true:=by kernel_rfl
theorem qm34:Tryz.prog.mapsRec 34=false:=by kernel_rfl
theorem qi34:Tryz.prog.ifacesRec 34=false:=by kernel_rfl
theorem ql34:Tryz.prog.loopsFrom 34=true:=by kernel_rfl
theorem qw34:Tryz.prog.wideKeysFrom 34=false:=by kernel_rfl
theorem qv34:Tryz.prog.veiledRec 34=false:=by kernel_rfl
theorem fr1:Tryz.prog.readableRec 4=true:=by kernel_rfl
theorem fr3:Tryz.prog.ifacesRec 4=false:=by kernel_rfl
theorem fr4:Tryz.prog.loopsFrom 4=false:=by kernel_rfl
theorem fr5:Tryz.prog.wideKeysFrom 4=false:=by kernel_rfl
theorem fr6:Tryz.prog.veiledRec 4=false:=by kernel_rfl
theorem fp1:Tryz.prog.stops=[]:=by kernel_rfl
theorem fp2:Tryz.prog.stopKnobs=[]:=by kernel_rfl
theorem fp4:Tryz.prog.stopsHeard=true:=by kernel_rfl
theorem fp5:Tryz.prog.mayEnter=true:=by kernel_rfl
theorem fp6:Tryz.prog.plainKeys=true:=by kernel_rfl
theorem frs4:(#[4]:Array Nat).all (fun t=>Tryz.prog.readableRec t&&decide (t<Tryz.prog.types.size))=true:=by
 simp[fr1]
end Go.Proofs.YtaonejnicgbifaaGreatDoor
