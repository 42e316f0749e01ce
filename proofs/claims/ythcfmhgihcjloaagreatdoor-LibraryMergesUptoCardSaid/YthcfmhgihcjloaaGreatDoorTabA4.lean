import Derived.Test.YthcfmhgihcjloaaGreatDoorTabA
namespace Go.Proofs.YthcfmhgihcjloaaGreatDoor
open Go Go.Proofs.YthcfmhgihcjloaaGreatDoor.Gx
theorem Kz:o9 P0 G0 Bj uS tw3 Ku=true:=by decide +kernel
