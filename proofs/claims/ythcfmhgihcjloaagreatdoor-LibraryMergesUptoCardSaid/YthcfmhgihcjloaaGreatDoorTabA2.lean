import Derived.Test.YthcfmhgihcjloaaGreatDoorTabA
namespace Go.Proofs.YthcfmhgihcjloaaGreatDoor
open Go Go.Proofs.YthcfmhgihcjloaaGreatDoor.Gx
theorem Kw:o9 P0 G0 Bj uS Ks Of=true:=by decide +kernel
