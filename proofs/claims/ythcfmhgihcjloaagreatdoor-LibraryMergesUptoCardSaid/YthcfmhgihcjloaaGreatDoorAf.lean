import Derived.Test.YthcfmhgihcjloaaGreatDoorProg
import Derived.JoinedOf
import Derived.KernelRfl
namespace Go.Proofs.YthcfmhgihcjloaaGreatDoor
open Go
theorem EL:Tryz.prog.readableRec 22=true:=by kernel_rfl
theorem H0:Tryz.prog.mapsRec 22=false:=by kernel_rfl
theorem H5:Tryz.prog.ifacesRec 22=false:=by kernel_rfl
theorem H6:Tryz.prog.loopsFrom 22=true:=by kernel_rfl
theorem H7:Tryz.prog.wideKeysFrom 22=false:=by kernel_rfl
theorem H8:Tryz.prog.veiledRec 22=false:=by kernel_rfl
theorem Bm:Tryz.prog.readableRec 4=true:=by kernel_rfl
theorem KC:Tryz.prog.ifacesRec 4=false:=by kernel_rfl
theorem KD:Tryz.prog.loopsFrom 4=false:=by kernel_rfl
theorem KE:Tryz.prog.wideKeysFrom 4=false:=by kernel_rfl
theorem Oi:Tryz.prog.veiledRec 4=false:=by kernel_rfl
theorem Oj:Tryz.prog.stops=[]:=by kernel_rfl
theorem Ol:Tryz.prog.stopKnobs=[]:=by kernel_rfl
theorem Om:Tryz.prog.stopsHeard=true:=by kernel_rfl
theorem On:Tryz.prog.mayEnter=true:=by kernel_rfl
theorem Oo:Tryz.prog.plainKeys=false:=by kernel_rfl
theorem H9:(#[4]:Array Nat).all (λt=>Tryz.prog.readableRec t&&decide (t<Tryz.prog.types.size))=true:=by simp[Bm]
