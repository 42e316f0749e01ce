import Derived.Test.YthcfmhgihcjloaaGreatDoorTabA
namespace Go.Proofs.YthcfmhgihcjloaaGreatDoor
open Go Go.Proofs.YthcfmhgihcjloaaGreatDoor.Gx
theorem Kx:o9 P0 G0 Bj uS Kt Og=true:=by decide +kernel
