import Derived.Test.YthcfmhgihcjloaaGreatDoorTabA
namespace Go.Proofs.YthcfmhgihcjloaaGreatDoor
open Go Go.Proofs.YthcfmhgihcjloaaGreatDoor.Gx
theorem Kv:o9 P0 G0 Bj uS Kr Oe=true:=by decide +kernel
