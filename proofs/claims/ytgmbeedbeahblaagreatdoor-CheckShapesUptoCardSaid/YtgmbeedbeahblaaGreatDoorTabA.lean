/-
  The tables of the closed calls below awake().
-/
import Derived.Test.YtgmbeedbeahblaaGreatDoorGxE
import Derived.Test.YtgmbeedbeahblaaGreatDoorProg
namespace Go.Proofs.YtgmbeedbeahblaaGreatDoor
open Go Go.Proofs.YtgmbeedbeahblaaGreatDoor.Gx
def tab : List AV := [.int .u8 0, .int .u8 1, .int .u8 28, .int .u8 2, .int .u8 29, .int .u8 14, .int .u8 24, .int .u8 3, .int .u8 30, .int .u8 22, .int .u8 20, .int .u8 15, .int .u8 25, .int .u8 17, .int .u8 4, .int .u8 8, .int .u8 31, .int .u8 27, .int .u8 13, .int .u8 23, .int .u8 21, .int .u8 19, .int .u8 16, .int .u8 7, .int .u8 26, .int .u8 12, .int .u8 18, .int .u8 6, .int .u8 11, .int .u8 5, .int .u8 10, .int .u8 9]
def G0 : Nat → Option (List AV)
  | 0 => some tab
  | _ => none
def X0 : FuncId → Option Ent := fun _ => none
def pol0 : FuncId → Bool := fun _ => true
def fuel0 : Nat := 6000
noncomputable def P0 : Program := Tryz.prog
def tw0 : Tab := []
def d1 : Tab := [
  (137, [.isl 2 [.int .u32 0, .int .u32 0] (some 2)], .isl 0 [] (some 2)),
  (45, [.int .u64 1], .isl 1 [.int .u32 1] none),
  (42, [.isl 1 [.int .u32 1] none], .isl 1 [.int .u32 1] none),
  (43, [.agg [.bool false, .isl 1 [.int .u32 1] none, .isl 1 [.int .u32 1] none]], .bool true),
  (395, [.int .u8 120], .bool true),
  (441, [], .isl 8 [.str [101, 120, 112], .str [108, 111, 103], .str [115, 105, 110], .str [99, 111, 115], .str [116, 97, 110], .str [97, 115, 105, 110], .str [97, 99, 111, 115], .str [97, 116, 97, 110]] (some 8)),
  (137, [.nilsl], .nilsl),
  (138, [.nilsl], .bool true),
  (137, [.isl 2 [.int .u32 1, .int .u32 0] (some 2)], .isl 1 [.int .u32 1, .int .u32 0] (some 2)),
  (141, [.agg [.bool false, .nilsl, .isl 1 [.int .u32 1, .int .u32 0] (some 2)]], .bool true),
  (137, [.isl 1 [.int .u32 1] none], .isl 1 [.int .u32 1] none),
  (138, [.isl 1 [.int .u32 1] none], .bool false),
  (325, [.int .u32 1], .int .i64 0),
  (326, [.int .u32 1], .int .i64 1),
  (141, [.agg [.bool false, .isl 1 [.int .u32 1] none, .isl 1 [.int .u32 1, .int .u32 0] (some 2)]], .bool true),
  (245, [.int .i64 5], .tup [.int .i64 2, .bool true])]
def tw1 : Tab := d1 ++ tw0
def d2 : Tab := [
  (245, [.int .i64 9], .tup [.int .i64 1, .bool true]),
  (245, [.int .i64 2], .tup [.int .i64 0, .bool true]),
  (245, [.int .i64 1], .tup [.int .i64 0, .bool true]),
  (252, [.agg [.int .i64 5, .int .i64 0, .bool false, .nilsl, .nilsl, .str [], .isl 2 [.int .i64 9, .int .i64 2, .bool false, .nilsl, .nilsl, .str [], .isl 1 [.int .i64 2, .int .i64 0, .bool false, .nilsl, .nilsl, .str [120], .nilsl] (some 1), .int .i64 1, .int .i64 0, .bool false, .isl 1 [.int .u32 1] none, .nilsl, .str [], .nilsl] (some 2)]], .func 335 [] [.iptr [.int .i64 5, .int .i64 0, .bool false, .nilsl, .nilsl, .str [], .isl 2 [.int .i64 9, .int .i64 2, .bool false, .nilsl, .nilsl, .str [], .isl 1 [.int .i64 2, .int .i64 0, .bool false, .nilsl, .nilsl, .str [120], .nilsl] (some 1), .int .i64 1, .int .i64 0, .bool false, .isl 1 [.int .u32 1] none, .nilsl, .str [], .nilsl] (some 2)]]),
  (451, [.int .u64 1], .int .i64 1),
  (442, [.isl 1 [.str [120]] none, .int .i64 0, .int .i64 1], .tup []),
  (150, [.isl 1 [.str [120], .bool false, .nilsl, .nilsl, .bool false, .isl 1 [.int .u32 1] none, .nilsl, .bool false, .bool false] (some 1), .str [120]], .int .i64 0),
  (6, [.agg [.int .i64 1, .str [], .str [], .bool false, .nilsl, .nilsl, .int .i64 0, .int .i64 0, .int .i64 4, .int .i64 0, .int .i64 0, .bool false, .nilsl, .nilsl, .str [], .nilsl, .nilsl, .str [], .int .i64 0, .nilsl, .nilsl]], .int .i64 1),
  (16, [.agg [.int .i64 1, .str [], .str [], .bool false, .nilsl, .nilsl, .int .i64 0, .int .i64 0, .int .i64 4, .int .i64 0, .int .i64 0, .bool false, .nilsl, .nilsl, .str [], .nilsl, .nilsl, .str [], .int .i64 0, .nilsl, .nilsl], .int .i64 1], .int .i64 1),
  (29, [], .isl 21 [.str [114, 97, 110, 103, 101], .str [112], .int .i64 0, .func 46 [] [], .str [109, 101, 97, 110], .str [112], .int .i64 0, .func 47 [] [], .str [116, 97, 121, 108, 111, 114], .str [112], .int .i64 0, .func 48 [] [], .str [108, 105, 110, 101, 97, 114], .str [112], .int .i64 0, .func 49 [] [], .str [101, 109, 112, 116, 121], .str [107, 112], .int .i64 0, .func 50 [] [], .str [99, 117, 116], .str [120, 97], .int .i64 2, .func 51 [] [], .str [114, 105, 115, 101], .str [120, 112], .int .i64 1, .func 52 [] [], .str [102, 97, 108, 108], .str [120, 112], .int .i64 1, .func 53 [] [], .str [99, 97, 118, 101], .str [120, 112], .int .i64 2, .func 54 [] [], .str [110, 97, 114, 114, 111, 119], .str [120, 107, 110, 112], .int .i64 1, .func 55 [] [], .str [98, 114, 97, 110, 99, 104], .str [112], .int .i64 2, .func 56 [] [], .str [116, 117, 114, 110], .str [120, 97], .int .i64 1, .func 57 [] [], .str [115, 119, 97, 112], .str [120, 121, 112], .int .i64 1, .func 58 [] [], .str [122, 101, 114, 111], .str [113, 112], .int .i64 0, .func 59 [] [], .str [108, 101, 97, 100], .str [120, 97, 110, 112], .int .i64 0, .func 60 [] [], .str [115, 97, 109, 101], .str [101, 112], .int .i64 1, .func 61 [] [], .str [118, 105, 97], .str [101], .int .i64 2, .func 62 [] [], .str [115, 99, 97, 108, 101], .str [101], .int .i64 2, .func 63 [] [], .str [97, 100, 100], .str [107, 97], .int .i64 1, .func 64 [] [], .str [108, 101, 109, 109, 97], .str [108, 118, 98, 112], .int .i64 1, .func 65 [] [], .str [102, 97, 114], .str [120, 110, 101, 112], .int .i64 1, .func 66 [] []] (some 21)),
  (31, [.nilsl], .nilsl),
  (23, [.agg [.str [114, 97, 110, 103, 101], .str [112], .int .i64 0, .func 46 [] []], .int .u8 112], .bool true),
  (23, [.agg [.str [114, 97, 110, 103, 101], .str [112], .int .i64 0, .func 46 [] []], .int .u8 101], .bool false),
  (230, [.isl 1 [.str [120], .bool false, .nilsl, .nilsl, .bool false, .isl 1 [.int .u32 1] none, .nilsl, .bool false, .bool false] (some 1), .str [120]], .int .i64 0),
  (321, [.nilsl], .nilsl),
  (321, [.isl 1 [.int .u32 1] none], .isl 1 [.int .u32 1] none)]
def tw2 : Tab := d2 ++ tw1
def d3 : Tab := [
  (356, [.int .i64 4, .int .i64 0, .int .i64 128], .tup []),
  (329, [.nilsl, .int .i64 4], .nilsl),
  (316, [.nilsl, .isl 1 [.int .u32 1, .int .u32 0] (some 2)], .int .i64 (-1)),
  (137, [.isl 2 [.int .u32 16, .int .u32 0] (some 2)], .isl 1 [.int .u32 16, .int .u32 0] (some 2)),
  (316, [.isl 1 [.int .u32 16, .int .u32 0] (some 2), .isl 1 [.int .u32 1, .int .u32 0] (some 2)], .int .i64 1),
  (137, [.isl 1 [.int .u32 16] (some 1)], .isl 1 [.int .u32 16] (some 1)),
  (325, [.int .u32 2], .int .i64 1),
  (138, [.isl 0 [] (some 2)], .bool true),
  (138, [.isl 1 [.int .u32 16] (some 1)], .bool false),
  (325, [.int .u32 16], .int .i64 4),
  (137, [.isl 1 [.int .u32 1] (some 1)], .isl 1 [.int .u32 1] (some 1)),
  (243, [.isl 1 [.int .u32 1, .int .u32 0] (some 2)], .bool true),
  (312, [.int .i64 0], .tup []),
  (141, [.agg [.bool false, .isl 1 [.int .u32 1] (some 1), .isl 1 [.int .u32 1] (some 1)]], .bool true),
  (321, [.isl 1 [.int .u32 1] (some 1)], .isl 1 [.int .u32 1] none),
  (243, [.isl 1 [.int .u32 1] (some 1)], .bool true)]
def tw3 : Tab := d3 ++ tw2
def d4 : Tab := [
  (356, [.int .i64 2, .int .i64 (-32), .int .i64 32], .tup []),
  (315, [.nilsl, .nilsl], .nilsl),
  (315, [.isl 1 [.int .u32 1, .int .u32 0] (some 2), .nilsl], .nilsl),
  (316, [.isl 1 [.int .u32 1, .int .u32 0] (some 2), .isl 1 [.int .u32 1, .int .u32 0] (some 2)], .int .i64 0),
  (323, [.agg [.bool false, .isl 1 [.int .u32 1] none, .isl 1 [.int .u32 1, .int .u32 0] (some 2), .bool false, .isl 1 [.int .u32 1] none, .isl 1 [.int .u32 1, .int .u32 0] (some 2), .bool false, .bool false, .bool false]], .agg [.bool false, .isl 1 [.int .u32 1] none, .isl 1 [.int .u32 1, .int .u32 0] (some 2), .bool false, .isl 1 [.int .u32 1] none, .isl 1 [.int .u32 1, .int .u32 0] (some 2), .bool false, .bool false, .bool false]),
  (315, [.nilsl, .isl 1 [.int .u32 1, .int .u32 0] (some 2)], .nilsl),
  (138, [.isl 1 [.int .u32 1, .int .u32 0] (some 2)], .bool false),
  (137, [.isl 2 [.int .u32 2, .int .u32 0] (some 2)], .isl 1 [.int .u32 2, .int .u32 0] (some 2)),
  (138, [.isl 1 [.int .u32 2, .int .u32 0] (some 2)], .bool false),
  (94, [.bool true], .tup []),
  (137, [.isl 2 [.int .u32 32, .int .u32 0] (some 2)], .isl 1 [.int .u32 32, .int .u32 0] (some 2)),
  (316, [.isl 1 [.int .u32 32, .int .u32 0] (some 2), .isl 1 [.int .u32 1, .int .u32 0] (some 2)], .int .i64 1),
  (137, [.isl 1 [.int .u32 32] (some 1)], .isl 1 [.int .u32 32] (some 1)),
  (138, [.isl 1 [.int .u32 32] (some 1)], .bool false),
  (325, [.int .u32 32], .int .i64 5),
  (137, [.isl 1 [.int .u32 2] (some 1)], .isl 1 [.int .u32 2] (some 1))]
def tw4 : Tab := d4 ++ tw3
def d5 : Tab := [
  (141, [.agg [.bool false, .isl 1 [.int .u32 2] (some 1), .isl 1 [.int .u32 1] (some 1)]], .bool true),
  (321, [.isl 1 [.int .u32 2] (some 1)], .isl 1 [.int .u32 2] none),
  (6, [.agg [.int .i64 5, .str [], .str [], .bool false, .nilsl, .nilsl, .int .i64 0, .int .i64 0, .int .i64 4, .int .i64 0, .int .i64 0, .bool false, .nilsl, .nilsl, .str [], .nilsl, .nilsl, .str [], .int .i64 0, .nilsl, .nilsl]], .int .i64 1),
  (137, [.isl 1 [.int .u32 2] none], .isl 1 [.int .u32 2] none),
  (138, [.isl 1 [.int .u32 2] none], .bool false),
  (141, [.agg [.bool false, .isl 1 [.int .u32 2] none, .isl 1 [.int .u32 1, .int .u32 0] (some 2)]], .bool true),
  (316, [.isl 1 [.int .u32 1, .int .u32 0] (some 2), .isl 1 [.int .u32 2, .int .u32 0] (some 2)], .int .i64 (-1)),
  (23, [.agg [.str [101, 109, 112, 116, 121], .str [107, 112], .int .i64 0, .func 50 [] []], .int .u8 112], .bool true),
  (16, [.agg [.int .i64 5, .str [], .str [], .bool false, .nilsl, .nilsl, .int .i64 0, .int .i64 0, .int .i64 4, .int .i64 0, .int .i64 0, .bool false, .nilsl, .nilsl, .str [], .nilsl, .nilsl, .str [], .int .i64 0, .nilsl, .nilsl], .int .i64 1], .int .i64 1),
  (23, [.agg [.str [101, 109, 112, 116, 121], .str [107, 112], .int .i64 0, .func 50 [] []], .int .u8 101], .bool false),
  (239, [.isl 1 [.int .u32 16, .int .u32 0] (some 2)], .int .i64 4),
  (329, [.isl 1 [.int .u32 2, .int .u32 0] (some 2), .int .i64 4], .isl 1 [.int .u32 32, .int .u32 0] (some 2)),
  (399, [.isl 1 [.str [120]] none, .int .i64 0, .int .i64 1, .int .i64 1], .tup []),
  (240, [.isl 1 [.int .u32 16] (some 1), .int .i64 4], .isl 1 [.int .u32 1] (some 1)),
  (239, [.isl 1 [.int .u32 1] (some 1)], .int .i64 0),
  (240, [.isl 1 [.int .u32 16, .int .u32 0] (some 2), .int .i64 4], .isl 1 [.int .u32 1] (some 1))]
def tw5 : Tab := d5 ++ tw4
def d6 : Tab := [
  (241, [.isl 1 [.int .u32 1] (some 1)], .int .i64 1),
  (239, [.isl 1 [.int .u32 1] none], .int .i64 0),
  (403, [.agg [.bool false, .nilsl, .nilsl], .int .i64 0], .agg [.bool false, .nilsl, .nilsl]),
  (397, [.str [120]], .tup [.int .i64 0, .bool false]),
  (8, [.agg [.int .i64 1, .str [], .str [], .bool false, .nilsl, .nilsl, .int .i64 0, .int .i64 0, .int .i64 4, .int .i64 0, .int .i64 0, .bool false, .nilsl, .nilsl, .str [], .nilsl, .nilsl, .str [], .int .i64 0, .nilsl, .nilsl]], .int .i64 1),
  (239, [.isl 1 [.int .u32 1, .int .u32 0] (some 2)], .int .i64 0),
  (20, [.int .i64 1], .tup [.agg [.str [114, 97, 110, 103, 101], .str [112], .int .i64 0, .func 46 [] []], .bool true]),
  (403, [.agg [.bool false, .isl 1 [.int .u32 1] none, .nilsl], .int .i64 0], .agg [.bool false, .isl 1 [.int .u32 1] none, .nilsl]),
  (241, [.isl 1 [.int .u32 1, .int .u32 0] (some 2)], .int .i64 1),
  (22, [.agg [.int .i64 0, .int .i64 0, .bool false, .nilsl, .nilsl, .str [], .nilsl]], .bool true),
  (329, [.isl 1 [.int .u32 1, .int .u32 0] (some 2), .int .i64 4], .isl 1 [.int .u32 16, .int .u32 0] (some 2)),
  (315, [.isl 1 [.int .u32 1, .int .u32 0] (some 2), .isl 1 [.int .u32 1, .int .u32 0] (some 2)], .isl 1 [.int .u32 1, .int .u32 0] (some 2)),
  (315, [.isl 1 [.int .u32 1] none, .isl 1 [.int .u32 1] none], .isl 1 [.int .u32 1, .int .u32 0] (some 2)),
  (315, [.isl 1 [.int .u32 1] none, .isl 1 [.int .u32 1, .int .u32 0] (some 2)], .isl 1 [.int .u32 1, .int .u32 0] (some 2)),
  (86, [.agg [.bool false, .isl 1 [.int .u32 1] none, .nilsl, .bool false, .isl 1 [.int .u32 2] none, .nilsl, .bool false, .bool false], .int .i64 0], .agg [.bool false, .isl 1 [.int .u32 1] none, .nilsl, .bool false, .isl 1 [.int .u32 2] none, .nilsl, .bool false, .bool false]),
  (68, [.agg [.bool false, .nilsl, .isl 1 [.int .u32 1, .int .u32 0] (some 2)]], .int .i64 0)]
def tw6 : Tab := d6 ++ tw5
def d7 : Tab := [
  (378, [.nilsl, .isl 1 [.int .u32 1, .int .u32 0] (some 2)], .isl 1 [.int .u32 1, .int .u32 0] (some 2)),
  (378, [.isl 1 [.int .u32 1, .int .u32 0] (some 2), .isl 1 [.int .u32 1, .int .u32 0] (some 2)], .isl 1 [.int .u32 2, .int .u32 0] (some 2)),
  (306, [.agg [.bool false, .nilsl, .nilsl]], .agg [.bool false, .nilsl, .nilsl]),
  (68, [.agg [.bool false, .isl 1 [.int .u32 1] none, .isl 1 [.int .u32 1, .int .u32 0] (some 2)]], .int .i64 1),
  (239, [.isl 1 [.int .u32 2, .int .u32 0] (some 2)], .int .i64 1),
  (327, [.isl 1 [.int .u32 16, .int .u32 0] (some 2), .int .u32 1], .tup [.isl 1 [.int .u32 16] (some 1), .int .u32 0]),
  (315, [.isl 1 [.int .u32 2] none, .isl 1 [.int .u32 1, .int .u32 0] (some 2)], .isl 1 [.int .u32 2, .int .u32 0] (some 2)),
  (68, [.agg [.bool false, .isl 1 [.int .u32 2] none, .isl 1 [.int .u32 1, .int .u32 0] (some 2)]], .int .i64 1),
  (327, [.isl 1 [.int .u32 32, .int .u32 0] (some 2), .int .u32 1], .tup [.isl 1 [.int .u32 32] (some 1), .int .u32 0]),
  (244, [.nilsl, .isl 1 [.int .u32 1, .int .u32 0] (some 2)], .tup [.nilsl, .nilsl]),
  (239, [.isl 1 [.int .u32 32] (some 1)], .int .i64 5),
  (139, [.int .u64 1], .isl 1 [.int .u32 1, .int .u32 0] (some 2)),
  (240, [.isl 1 [.int .u32 32] (some 1), .int .i64 4], .isl 1 [.int .u32 2] (some 1)),
  (403, [.agg [.bool false, .isl 1 [.int .u32 2] none, .nilsl], .int .i64 0], .agg [.bool false, .isl 1 [.int .u32 2] none, .nilsl]),
  (329, [.isl 1 [.int .u32 1] none, .int .i64 4], .isl 1 [.int .u32 16, .int .u32 0] (some 2)),
  (239, [.isl 1 [.int .u32 2] none], .int .i64 1)]
def tw7 : Tab := d7 ++ tw6
def d8 : Tab := [
  (8, [.agg [.int .i64 5, .str [], .str [], .bool false, .nilsl, .nilsl, .int .i64 0, .int .i64 0, .int .i64 4, .int .i64 0, .int .i64 0, .bool false, .nilsl, .nilsl, .str [], .nilsl, .nilsl, .str [], .int .i64 0, .nilsl, .nilsl]], .int .i64 1),
  (333, [.str [120]], .int .i64 1),
  (117, [.int .i64 2, .int .i64 0], .int .i64 2),
  (262, [.agg [.bool false, .nilsl, .nilsl]], .agg [.bool false, .nilsl, .nilsl]),
  (139, [.int .u64 0], .isl 0 [] (some 2)),
  (400, [.int .u64 1], .int .i64 1),
  (20, [.int .i64 5], .tup [.agg [.str [101, 109, 112, 116, 121], .str [107, 112], .int .i64 0, .func 50 [] []], .bool true]),
  (44, [.bool false, .isl 1 [.int .u32 1] none, .isl 1 [.int .u32 1] none], .agg [.bool false, .isl 1 [.int .u32 1] none, .isl 1 [.int .u32 1] none]),
  (239, [.isl 1 [.int .u32 16] (some 1)], .int .i64 4),
  (334, [.str [120]], .bool false),
  (27, [.agg [.bool false, .isl 1 [.int .u32 1] none, .isl 1 [.int .u32 1] none]], .agg [.bool false, .isl 1 [.int .u32 1] none, .nilsl]),
  (28, [.int .i64 1], .agg [.bool false, .isl 1 [.int .u32 1] none, .isl 1 [.int .u32 1] none]),
  (306, [.agg [.bool false, .isl 1 [.int .u32 1] none, .nilsl]], .agg [.bool false, .isl 1 [.int .u32 1] none, .nilsl]),
  (155, [.agg [.int .i64 2, .int .i64 0, .bool false, .nilsl, .nilsl, .str [120], .nilsl]], .agg [.int .i64 2, .int .i64 0, .bool false, .nilsl, .nilsl, .str [120], .nilsl]),
  (262, [.agg [.bool false, .isl 1 [.int .u32 1] none, .nilsl]], .agg [.bool false, .isl 1 [.int .u32 1] none, .nilsl]),
  (142, [.agg [.int .i64 5, .int .i64 0, .bool false, .nilsl, .nilsl, .str [], .isl 2 [.int .i64 9, .int .i64 2, .bool false, .nilsl, .nilsl, .str [], .isl 1 [.int .i64 2, .int .i64 0, .bool false, .nilsl, .nilsl, .str [120], .nilsl] (some 1), .int .i64 1, .int .i64 0, .bool false, .isl 1 [.int .u32 1] none, .nilsl, .str [], .nilsl] (some 2)]], .bool true)]
def tw8 : Tab := d8 ++ tw7
def d9 : Tab := [
  (234, [.agg [.bool false, .isl 1 [.int .u32 1] (some 1), .isl 1 [.int .u32 1] (some 1)]], .tup [.agg [.bool false, .isl 1 [.int .u32 1] none, .nilsl], .int .i64 0]),
  (155, [.agg [.int .i64 9, .int .i64 2, .bool false, .nilsl, .nilsl, .str [], .isl 1 [.int .i64 2, .int .i64 0, .bool false, .nilsl, .nilsl, .str [120], .nilsl] (some 1)]], .agg [.int .i64 9, .int .i64 2, .bool false, .nilsl, .nilsl, .str [], .isl 1 [.int .i64 2, .int .i64 0, .bool false, .nilsl, .nilsl, .str [120], .nilsl] none]),
  (234, [.agg [.bool false, .nilsl, .isl 1 [.int .u32 1, .int .u32 0] (some 2)]], .tup [.agg [.bool false, .nilsl, .nilsl], .int .i64 0]),
  (140, [.bool false, .nilsl, .isl 1 [.int .u32 1, .int .u32 0] (some 2)], .agg [.bool false, .nilsl, .isl 1 [.int .u32 1, .int .u32 0] (some 2)]),
  (155, [.agg [.int .i64 1, .int .i64 0, .bool false, .isl 1 [.int .u32 1] none, .nilsl, .str [], .nilsl]], .agg [.int .i64 1, .int .i64 0, .bool false, .isl 1 [.int .u32 1] none, .nilsl, .str [], .nilsl]),
  (234, [.agg [.bool false, .isl 1 [.int .u32 1] none, .isl 1 [.int .u32 1, .int .u32 0] (some 2)]], .tup [.agg [.bool false, .isl 1 [.int .u32 1] none, .nilsl], .int .i64 0]),
  (234, [.agg [.bool false, .isl 1 [.int .u32 2] (some 1), .isl 1 [.int .u32 1] (some 1)]], .tup [.agg [.bool false, .isl 1 [.int .u32 2] none, .nilsl], .int .i64 0]),
  (427, [.isl 1 [.int .u32 1, .int .u32 0] (some 2), .int .i64 2], .isl 1 [.int .u32 1, .int .u32 0] (some 2)),
  (142, [.agg [.int .i64 9, .int .i64 2, .bool false, .nilsl, .nilsl, .str [], .isl 1 [.int .i64 2, .int .i64 0, .bool false, .nilsl, .nilsl, .str [120], .nilsl] (some 1)]], .bool true),
  (140, [.bool false, .nilsl, .isl 1 [.int .u32 16, .int .u32 0] (some 2)], .agg [.bool false, .nilsl, .isl 1 [.int .u32 1, .int .u32 0] (some 2)]),
  (208, [.agg [.bool false, .isl 1 [.int .u32 1] none, .isl 1 [.int .u32 1, .int .u32 0] (some 2), .bool false, .isl 1 [.int .u32 2] none, .isl 1 [.int .u32 1, .int .u32 0] (some 2), .bool false, .bool false, .bool false]], .tup [.int .i64 1, .int .i64 1]),
  (224, [.agg [.bool false, .nilsl, .isl 1 [.int .u32 1, .int .u32 0] (some 2)], .agg [.bool false, .isl 1 [.int .u32 1] none, .isl 1 [.int .u32 1, .int .u32 0] (some 2)]], .int .i64 (-1)),
  (210, [.agg [.bool false, .nilsl, .nilsl, .bool false, .isl 1 [.int .u32 1] none, .nilsl, .bool false, .bool false]], .agg [.bool false, .nilsl, .nilsl, .bool false, .isl 1 [.int .u32 1] none, .nilsl, .bool false, .bool false]),
  (261, [.isl 1 [.str [120], .bool false, .nilsl, .nilsl, .bool false, .isl 1 [.int .u32 1] none, .nilsl, .bool false, .bool false] (some 1)], .isl 1 [.str [120], .bool false, .nilsl, .nilsl, .bool false, .isl 1 [.int .u32 1] none, .nilsl, .bool false, .bool false] none),
  (427, [.isl 1 [.int .u32 1] none, .int .i64 2], .isl 1 [.int .u32 1, .int .u32 0] (some 2)),
  (427, [.nilsl, .int .i64 2], .nilsl)]
def tw9 : Tab := d9 ++ tw8
def d10 : Tab := [
  (338, [.isl 1 [.str [120]] none], .tup []),
  (208, [.agg [.bool false, .nilsl, .isl 1 [.int .u32 1, .int .u32 0] (some 2), .bool false, .isl 1 [.int .u32 1] none, .isl 1 [.int .u32 1, .int .u32 0] (some 2), .bool false, .bool false, .bool false]], .tup [.int .i64 0, .int .i64 1]),
  (244, [.isl 1 [.int .u32 16, .int .u32 0] (some 2), .isl 1 [.int .u32 1, .int .u32 0] (some 2)], .tup [.isl 1 [.int .u32 16] (some 1), .isl 0 [] (some 2)]),
  (140, [.bool false, .isl 1 [.int .u32 1, .int .u32 0] (some 2), .isl 1 [.int .u32 1, .int .u32 0] (some 2)], .agg [.bool false, .isl 1 [.int .u32 1, .int .u32 0] (some 2), .isl 1 [.int .u32 1, .int .u32 0] (some 2)]),
  (244, [.isl 1 [.int .u32 32, .int .u32 0] (some 2), .isl 1 [.int .u32 1, .int .u32 0] (some 2)], .tup [.isl 1 [.int .u32 32] (some 1), .isl 0 [] (some 2)]),
  (250, [.str [120]], .bool true),
  (224, [.agg [.bool false, .isl 1 [.int .u32 1] none, .isl 1 [.int .u32 1, .int .u32 0] (some 2)], .agg [.bool false, .isl 1 [.int .u32 1] none, .isl 1 [.int .u32 1, .int .u32 0] (some 2)]], .int .i64 0),
  (19, [], .agg [.int .i64 5, .int .i64 0, .bool false, .nilsl, .nilsl, .str [], .isl 2 [.int .i64 9, .int .i64 2, .bool false, .nilsl, .nilsl, .str [], .isl 1 [.int .i64 2, .int .i64 0, .bool false, .nilsl, .nilsl, .str [120], .nilsl] (some 1), .int .i64 1, .int .i64 0, .bool false, .isl 1 [.int .u32 1] none, .nilsl, .str [], .nilsl] (some 2), .bool false, .isl 1 [.str [120], .bool false, .nilsl, .nilsl, .bool false, .isl 1 [.int .u32 1] none, .nilsl, .bool false, .bool false] (some 1), .nilsl]),
  (394, [.agg [.bool false, .isl 1 [.int .u32 1] (some 1), .isl 1 [.int .u32 1] (some 1), .bool false, .isl 1 [.int .u32 1] (some 1), .isl 1 [.int .u32 1] (some 1), .bool false, .bool false, .bool false]], .agg [.bool false, .isl 1 [.int .u32 1] none, .nilsl, .bool false, .isl 1 [.int .u32 1] none, .nilsl, .bool false, .bool false]),
  (130, [.isl 1 [.str [120], .bool false, .nilsl, .nilsl, .bool false, .isl 1 [.int .u32 1] none, .nilsl, .bool false, .bool false] (some 1), .str [120]], .tup [.agg [.bool false, .nilsl, .nilsl, .bool false, .isl 1 [.int .u32 1] none, .nilsl, .bool false, .bool false], .bool true]),
  (140, [.bool false, .isl 1 [.int .u32 1] none, .isl 1 [.int .u32 1, .int .u32 0] (some 2)], .agg [.bool false, .isl 1 [.int .u32 1] none, .isl 1 [.int .u32 1, .int .u32 0] (some 2)]),
  (394, [.agg [.bool false, .isl 1 [.int .u32 1] none, .isl 1 [.int .u32 1, .int .u32 0] (some 2), .bool false, .isl 1 [.int .u32 1] none, .isl 1 [.int .u32 1, .int .u32 0] (some 2), .bool false, .bool false, .bool false]], .agg [.bool false, .isl 1 [.int .u32 1] none, .nilsl, .bool false, .isl 1 [.int .u32 1] none, .nilsl, .bool false, .bool false]),
  (145, [.str [120]], .bool true),
  (67, [.agg [.bool false, .nilsl, .nilsl]], .tup [.agg [.bool false, .nilsl, .isl 1 [.int .u32 1, .int .u32 0] (some 2)], .bool true]),
  (369, [.agg [.bool false, .isl 1 [.int .u32 1] none, .isl 1 [.int .u32 1, .int .u32 0] (some 2)], .int .i64 2], .agg [.bool false, .isl 1 [.int .u32 1, .int .u32 0] (some 2), .isl 1 [.int .u32 1, .int .u32 0] (some 2)]),
  (140, [.bool false, .isl 1 [.int .u32 2, .int .u32 0] (some 2), .isl 1 [.int .u32 1, .int .u32 0] (some 2)], .agg [.bool false, .isl 1 [.int .u32 2, .int .u32 0] (some 2), .isl 1 [.int .u32 1, .int .u32 0] (some 2)])]
def tw10 : Tab := d10 ++ tw9
def d11 : Tab := [
  (155, [.agg [.int .i64 5, .int .i64 0, .bool false, .nilsl, .nilsl, .str [], .isl 2 [.int .i64 9, .int .i64 2, .bool false, .nilsl, .nilsl, .str [], .isl 1 [.int .i64 2, .int .i64 0, .bool false, .nilsl, .nilsl, .str [120], .nilsl] (some 1), .int .i64 1, .int .i64 0, .bool false, .isl 1 [.int .u32 1] none, .nilsl, .str [], .nilsl] (some 2)]], .agg [.int .i64 5, .int .i64 0, .bool false, .nilsl, .nilsl, .str [], .isl 2 [.int .i64 9, .int .i64 2, .bool false, .nilsl, .nilsl, .str [], .isl 1 [.int .i64 2, .int .i64 0, .bool false, .nilsl, .nilsl, .str [120], .nilsl] none, .int .i64 1, .int .i64 0, .bool false, .isl 1 [.int .u32 1] none, .nilsl, .str [], .nilsl] none]),
  (140, [.bool false, .isl 1 [.int .u32 2] none, .isl 1 [.int .u32 1, .int .u32 0] (some 2)], .agg [.bool false, .isl 1 [.int .u32 2] none, .isl 1 [.int .u32 1, .int .u32 0] (some 2)]),
  (217, [.agg [.bool false, .nilsl, .nilsl]], .agg [.bool false, .nilsl, .isl 1 [.int .u32 1, .int .u32 0] (some 2)]),
  (369, [.agg [.bool false, .nilsl, .isl 1 [.int .u32 1, .int .u32 0] (some 2)], .int .i64 2], .agg [.bool false, .nilsl, .isl 1 [.int .u32 1, .int .u32 0] (some 2)]),
  (30, [.agg [.bool false, .nilsl, .nilsl]], .tup [.int .i64 0, .int .i64 0]),
  (32, [.agg [.bool false, .nilsl, .nilsl]], .bool true),
  (154, [.agg [.int .i64 5, .int .i64 0, .bool false, .nilsl, .nilsl, .str [], .isl 2 [.int .i64 9, .int .i64 2, .bool false, .nilsl, .nilsl, .str [], .isl 1 [.int .i64 2, .int .i64 0, .bool false, .nilsl, .nilsl, .str [120], .nilsl] (some 1), .int .i64 1, .int .i64 0, .bool false, .isl 1 [.int .u32 1] none, .nilsl, .str [], .nilsl] (some 2), .bool false, .isl 1 [.str [120], .bool false, .nilsl, .nilsl, .bool false, .isl 1 [.int .u32 1] none, .nilsl, .bool false, .bool false] (some 1), .nilsl]], .agg [.int .i64 5, .int .i64 0, .bool false, .nilsl, .nilsl, .str [], .isl 2 [.int .i64 9, .int .i64 2, .bool false, .nilsl, .nilsl, .str [], .isl 1 [.int .i64 2, .int .i64 0, .bool false, .nilsl, .nilsl, .str [120], .nilsl] none, .int .i64 1, .int .i64 0, .bool false, .isl 1 [.int .u32 1] none, .nilsl, .str [], .nilsl] none, .bool false, .isl 1 [.str [120], .bool false, .nilsl, .nilsl, .bool false, .isl 1 [.int .u32 1] none, .nilsl, .bool false, .bool false] none, .nilsl]),
  (21, [.agg [.bool false, .nilsl, .nilsl]], .bool true),
  (423, [.agg [.bool false, .nilsl, .isl 1 [.int .u32 1, .int .u32 0] (some 2)], .int .i64 4, .bool false], .agg [.bool false, .nilsl, .isl 1 [.int .u32 1, .int .u32 0] (some 2)]),
  (224, [.agg [.bool false, .isl 1 [.int .u32 1] none, .isl 1 [.int .u32 1, .int .u32 0] (some 2)], .agg [.bool false, .isl 1 [.int .u32 2] none, .isl 1 [.int .u32 1, .int .u32 0] (some 2)]], .int .i64 (-1)),
  (394, [.agg [.bool false, .isl 1 [.int .u32 1] (some 1), .isl 1 [.int .u32 1] (some 1), .bool false, .isl 1 [.int .u32 2] (some 1), .isl 1 [.int .u32 1] (some 1), .bool false, .bool false, .bool false]], .agg [.bool false, .isl 1 [.int .u32 1] none, .nilsl, .bool false, .isl 1 [.int .u32 2] none, .nilsl, .bool false, .bool false]),
  (142, [.agg [.int .i64 2, .int .i64 0, .bool false, .nilsl, .nilsl, .str [120], .nilsl]], .bool true),
  (24, [.agg [.str [114, 97, 110, 103, 101], .str [112], .int .i64 0, .func 46 [] []], .agg [.int .i64 1, .str [], .str [], .bool false, .nilsl, .nilsl, .int .i64 0, .int .i64 0, .int .i64 4, .int .i64 0, .int .i64 0, .bool false, .nilsl, .nilsl, .str [], .nilsl, .nilsl, .str [], .int .i64 0, .nilsl, .nilsl]], .bool true),
  (140, [.bool false, .isl 1 [.int .u32 16] (some 1), .isl 1 [.int .u32 16, .int .u32 0] (some 2)], .agg [.bool false, .isl 1 [.int .u32 1] (some 1), .isl 1 [.int .u32 1] (some 1)]),
  (69, [.agg [.int .i64 2, .int .i64 0, .bool false, .nilsl, .nilsl, .str [120], .nilsl], .int .i64 3, .int .i64 2], .int .i64 3),
  (298, [.agg [.bool false, .nilsl, .isl 1 [.int .u32 1, .int .u32 0] (some 2)], .agg [.bool false, .isl 1 [.int .u32 1] none, .isl 1 [.int .u32 1, .int .u32 0] (some 2)]], .agg [.bool false, .isl 1 [.int .u32 1, .int .u32 0] (some 2), .isl 1 [.int .u32 1, .int .u32 0] (some 2)])]
def tw11 : Tab := d11 ++ tw10
def d12 : Tab := [
  (394, [.agg [.bool false, .nilsl, .isl 1 [.int .u32 1, .int .u32 0] (some 2), .bool false, .isl 1 [.int .u32 1] (some 1), .isl 1 [.int .u32 1] (some 1), .bool false, .bool false, .bool false]], .agg [.bool false, .nilsl, .nilsl, .bool false, .isl 1 [.int .u32 1] none, .nilsl, .bool false, .bool false]),
  (24, [.agg [.str [101, 109, 112, 116, 121], .str [107, 112], .int .i64 0, .func 50 [] []], .agg [.int .i64 5, .str [], .str [], .bool false, .nilsl, .nilsl, .int .i64 0, .int .i64 0, .int .i64 4, .int .i64 0, .int .i64 0, .bool false, .nilsl, .nilsl, .str [], .nilsl, .nilsl, .str [], .int .i64 0, .nilsl, .nilsl]], .bool true),
  (140, [.bool false, .isl 1 [.int .u32 32] (some 1), .isl 1 [.int .u32 16, .int .u32 0] (some 2)], .agg [.bool false, .isl 1 [.int .u32 2] (some 1), .isl 1 [.int .u32 1] (some 1)]),
  (298, [.agg [.bool false, .isl 1 [.int .u32 1] none, .isl 1 [.int .u32 1, .int .u32 0] (some 2)], .agg [.bool false, .isl 1 [.int .u32 1] none, .isl 1 [.int .u32 1, .int .u32 0] (some 2)]], .agg [.bool false, .isl 1 [.int .u32 2, .int .u32 0] (some 2), .isl 1 [.int .u32 1, .int .u32 0] (some 2)]),
  (67, [.agg [.bool false, .isl 1 [.int .u32 1] none, .nilsl]], .tup [.agg [.bool false, .isl 1 [.int .u32 1] none, .isl 1 [.int .u32 1, .int .u32 0] (some 2)], .bool true]),
  (67, [.agg [.bool false, .isl 1 [.int .u32 2] none, .nilsl]], .tup [.agg [.bool false, .isl 1 [.int .u32 2] none, .isl 1 [.int .u32 1, .int .u32 0] (some 2)], .bool true]),
  (69, [.agg [.int .i64 9, .int .i64 2, .bool false, .nilsl, .nilsl, .str [], .isl 1 [.int .i64 2, .int .i64 0, .bool false, .nilsl, .nilsl, .str [120], .nilsl] (some 1)], .int .i64 2, .int .i64 1], .int .i64 3),
  (217, [.agg [.bool false, .isl 1 [.int .u32 1] none, .nilsl]], .agg [.bool false, .isl 1 [.int .u32 1] none, .isl 1 [.int .u32 1, .int .u32 0] (some 2)]),
  (217, [.agg [.bool false, .isl 1 [.int .u32 2] none, .nilsl]], .agg [.bool false, .isl 1 [.int .u32 2] none, .isl 1 [.int .u32 1, .int .u32 0] (some 2)]),
  (142, [.agg [.int .i64 1, .int .i64 0, .bool false, .isl 1 [.int .u32 1] none, .nilsl, .str [], .nilsl]], .bool true),
  (358, [.agg [.bool false, .nilsl, .isl 1 [.int .u32 1, .int .u32 0] (some 2), .bool false, .isl 1 [.int .u32 1] none, .isl 1 [.int .u32 1, .int .u32 0] (some 2), .bool false, .bool false, .bool false], .int .i64 2], .agg [.bool false, .nilsl, .isl 1 [.int .u32 1, .int .u32 0] (some 2), .bool false, .isl 1 [.int .u32 1, .int .u32 0] (some 2), .isl 1 [.int .u32 1, .int .u32 0] (some 2), .bool false, .bool false, .bool false]),
  (69, [.agg [.int .i64 1, .int .i64 0, .bool false, .isl 1 [.int .u32 1] none, .nilsl, .str [], .nilsl], .int .i64 2, .int .i64 3], .int .i64 4),
  (12, [.agg [.int .i64 1, .str [], .str [], .bool false, .nilsl, .nilsl, .int .i64 0, .int .i64 0, .int .i64 4, .int .i64 0, .int .i64 0, .bool false, .nilsl, .nilsl, .str [], .nilsl, .nilsl, .str [], .int .i64 0, .nilsl, .nilsl]], .bool true),
  (12, [.agg [.int .i64 5, .str [], .str [], .bool false, .nilsl, .nilsl, .int .i64 0, .int .i64 0, .int .i64 4, .int .i64 0, .int .i64 0, .bool false, .nilsl, .nilsl, .str [], .nilsl, .nilsl, .str [], .int .i64 0, .nilsl, .nilsl]], .bool true),
  (11, [.agg [.int .i64 1, .str [], .str [], .bool false, .nilsl, .nilsl, .int .i64 0, .int .i64 0, .int .i64 4, .int .i64 0, .int .i64 0, .bool false, .nilsl, .nilsl, .str [], .nilsl, .nilsl, .str [], .int .i64 0, .nilsl, .nilsl], .func 12 [] []], .bool true),
  (207, [.agg [.bool false, .isl 1 [.int .u32 1] none, .nilsl, .bool false, .isl 1 [.int .u32 1] none, .nilsl, .bool false, .bool false]], .agg [.bool false, .isl 1 [.int .u32 1] none, .isl 1 [.int .u32 1, .int .u32 0] (some 2), .bool false, .isl 1 [.int .u32 1] none, .isl 1 [.int .u32 1, .int .u32 0] (some 2), .bool false, .bool false, .bool false])]
def tw12 : Tab := d12 ++ tw11
def d13 : Tab := [
  (386, [.agg [.bool false, .nilsl, .isl 1 [.int .u32 1, .int .u32 0] (some 2), .bool false, .isl 1 [.int .u32 1] none, .isl 1 [.int .u32 1, .int .u32 0] (some 2), .bool false, .bool false, .bool false], .agg [.bool false, .isl 1 [.int .u32 1] none, .isl 1 [.int .u32 1, .int .u32 0] (some 2), .bool false, .isl 1 [.int .u32 1] none, .isl 1 [.int .u32 1, .int .u32 0] (some 2), .bool false, .bool false, .bool false]], .agg [.bool false, .isl 1 [.int .u32 1, .int .u32 0] (some 2), .isl 1 [.int .u32 1, .int .u32 0] (some 2), .bool false, .isl 1 [.int .u32 2, .int .u32 0] (some 2), .isl 1 [.int .u32 1, .int .u32 0] (some 2), .bool false, .bool false, .bool false]),
  (11, [.agg [.int .i64 5, .str [], .str [], .bool false, .nilsl, .nilsl, .int .i64 0, .int .i64 0, .int .i64 4, .int .i64 0, .int .i64 0, .bool false, .nilsl, .nilsl, .str [], .nilsl, .nilsl, .str [], .int .i64 0, .nilsl, .nilsl], .func 12 [] []], .bool true),
  (207, [.agg [.bool false, .nilsl, .nilsl, .bool false, .isl 1 [.int .u32 1] none, .nilsl, .bool false, .bool false]], .agg [.bool false, .nilsl, .isl 1 [.int .u32 1, .int .u32 0] (some 2), .bool false, .isl 1 [.int .u32 1] none, .isl 1 [.int .u32 1, .int .u32 0] (some 2), .bool false, .bool false, .bool false]),
  (423, [.agg [.bool false, .isl 1 [.int .u32 1, .int .u32 0] (some 2), .isl 1 [.int .u32 1, .int .u32 0] (some 2)], .int .i64 4, .bool false], .agg [.bool false, .isl 1 [.int .u32 1] (some 1), .isl 1 [.int .u32 1] (some 1)]),
  (4, [.agg [.int .i64 5, .str [], .str [], .bool false, .nilsl, .nilsl, .int .i64 0, .int .i64 0, .int .i64 4, .int .i64 0, .int .i64 0, .bool false, .nilsl, .nilsl, .str [], .nilsl, .nilsl, .str [], .int .i64 0, .nilsl, .nilsl]], .int .i64 0),
  (423, [.agg [.bool false, .isl 1 [.int .u32 1] none, .isl 1 [.int .u32 1, .int .u32 0] (some 2)], .int .i64 4, .bool false], .agg [.bool false, .isl 1 [.int .u32 1] (some 1), .isl 1 [.int .u32 1] (some 1)]),
  (423, [.agg [.bool false, .isl 1 [.int .u32 1, .int .u32 0] (some 2), .isl 1 [.int .u32 1, .int .u32 0] (some 2)], .int .i64 4, .bool true], .agg [.bool false, .isl 1 [.int .u32 1] (some 1), .isl 1 [.int .u32 1] (some 1)]),
  (146, [.agg [.bool false, .nilsl, .nilsl, .bool false, .isl 1 [.int .u32 1] none, .nilsl, .bool false, .bool false]], .tup [.bool false, .int .i64 0]),
  (4, [.agg [.int .i64 1, .str [], .str [], .bool false, .nilsl, .nilsl, .int .i64 0, .int .i64 0, .int .i64 4, .int .i64 0, .int .i64 0, .bool false, .nilsl, .nilsl, .str [], .nilsl, .nilsl, .str [], .int .i64 0, .nilsl, .nilsl]], .int .i64 0),
  (423, [.agg [.bool false, .isl 1 [.int .u32 1] none, .isl 1 [.int .u32 1, .int .u32 0] (some 2)], .int .i64 4, .bool true], .agg [.bool false, .isl 1 [.int .u32 1] (some 1), .isl 1 [.int .u32 1] (some 1)]),
  (360, [.agg [.bool false, .isl 1 [.int .u32 1] none, .isl 1 [.int .u32 1, .int .u32 0] (some 2), .bool false, .isl 1 [.int .u32 1] none, .isl 1 [.int .u32 1, .int .u32 0] (some 2), .bool false, .bool false, .bool false], .int .i64 4], .agg [.bool false, .isl 1 [.int .u32 1] (some 1), .isl 1 [.int .u32 1] (some 1), .bool false, .isl 1 [.int .u32 1] (some 1), .isl 1 [.int .u32 1] (some 1), .bool false, .bool false, .bool false]),
  (322, [.agg [.bool false, .isl 1 [.int .u32 1] none, .nilsl, .bool false, .isl 1 [.int .u32 1] none, .nilsl, .bool false, .bool false], .func 323 [] []], .tup [.agg [.bool false, .isl 1 [.int .u32 1] none, .nilsl, .bool false, .isl 1 [.int .u32 1] none, .nilsl, .bool false, .bool false], .int .i64 0]),
  (423, [.agg [.bool false, .isl 1 [.int .u32 2, .int .u32 0] (some 2), .isl 1 [.int .u32 1, .int .u32 0] (some 2)], .int .i64 4, .bool true], .agg [.bool false, .isl 1 [.int .u32 2] (some 1), .isl 1 [.int .u32 1] (some 1)]),
  (237, [.agg [.bool false, .isl 1 [.int .u32 1] none, .nilsl, .bool false, .isl 1 [.int .u32 1] none, .nilsl, .bool false, .bool false]], .tup [.agg [.bool false, .isl 1 [.int .u32 1] none, .nilsl, .bool false, .isl 1 [.int .u32 1] none, .nilsl, .bool false, .bool false], .int .i64 0]),
  (136, [.agg [.bool false, .isl 1 [.int .u32 1] none, .nilsl], .agg [.bool false, .isl 1 [.int .u32 1] none, .nilsl]], .tup [.agg [.bool false, .isl 1 [.int .u32 1] none, .nilsl, .bool false, .isl 1 [.int .u32 1] none, .nilsl, .bool false, .bool false], .int .i64 0]),
  (207, [.agg [.bool false, .isl 1 [.int .u32 1] none, .nilsl, .bool false, .isl 1 [.int .u32 2] none, .nilsl, .bool false, .bool false]], .agg [.bool false, .isl 1 [.int .u32 1] none, .isl 1 [.int .u32 1, .int .u32 0] (some 2), .bool false, .isl 1 [.int .u32 2] none, .isl 1 [.int .u32 1, .int .u32 0] (some 2), .bool false, .bool false, .bool false])]
def tw13 : Tab := d13 ++ tw12
def d14 : Tab := [
  (360, [.agg [.bool false, .nilsl, .isl 1 [.int .u32 1, .int .u32 0] (some 2), .bool false, .isl 1 [.int .u32 1, .int .u32 0] (some 2), .isl 1 [.int .u32 1, .int .u32 0] (some 2), .bool false, .bool false, .bool false], .int .i64 4], .agg [.bool false, .nilsl, .isl 1 [.int .u32 1, .int .u32 0] (some 2), .bool false, .isl 1 [.int .u32 1] (some 1), .isl 1 [.int .u32 1] (some 1), .bool false, .bool false, .bool false]),
  (272, [.agg [.bool false, .isl 1 [.int .u32 1] none, .nilsl]], .tup [.agg [.bool false, .isl 1 [.int .u32 1] none, .nilsl, .bool false, .isl 1 [.int .u32 1] none, .nilsl, .bool false, .bool false], .int .i64 0]),
  (360, [.agg [.bool false, .nilsl, .isl 1 [.int .u32 1, .int .u32 0] (some 2), .bool false, .isl 1 [.int .u32 1] none, .isl 1 [.int .u32 1, .int .u32 0] (some 2), .bool false, .bool false, .bool false], .int .i64 4], .agg [.bool false, .nilsl, .isl 1 [.int .u32 1, .int .u32 0] (some 2), .bool false, .isl 1 [.int .u32 1] (some 1), .isl 1 [.int .u32 1] (some 1), .bool false, .bool false, .bool false]),
  (76, [.isl 1 [.str [120], .bool false, .nilsl, .nilsl, .bool false, .isl 1 [.int .u32 1] none, .nilsl, .bool false, .bool false] (some 1)], .bool true),
  (118, [.agg [.bool false, .isl 1 [.int .u32 1] none, .nilsl, .bool false, .isl 1 [.int .u32 2] none, .nilsl, .bool false, .bool false]], .tup [.int .i64 2, .int .i64 0]),
  (69, [.agg [.int .i64 5, .int .i64 0, .bool false, .nilsl, .nilsl, .str [], .isl 2 [.int .i64 9, .int .i64 2, .bool false, .nilsl, .nilsl, .str [], .isl 1 [.int .i64 2, .int .i64 0, .bool false, .nilsl, .nilsl, .str [120], .nilsl] (some 1), .int .i64 1, .int .i64 0, .bool false, .isl 1 [.int .u32 1] none, .nilsl, .str [], .nilsl] (some 2)], .int .i64 1, .int .i64 0], .int .i64 4),
  (33, [.agg [.int .i64 5, .int .i64 0, .bool false, .nilsl, .nilsl, .str [], .isl 2 [.int .i64 9, .int .i64 2, .bool false, .nilsl, .nilsl, .str [], .isl 1 [.int .i64 2, .int .i64 0, .bool false, .nilsl, .nilsl, .str [120], .nilsl] (some 1), .int .i64 1, .int .i64 0, .bool false, .isl 1 [.int .u32 1] none, .nilsl, .str [], .nilsl] (some 2)]], .bool true),
  (360, [.agg [.bool false, .isl 1 [.int .u32 1, .int .u32 0] (some 2), .isl 1 [.int .u32 1, .int .u32 0] (some 2), .bool false, .isl 1 [.int .u32 2, .int .u32 0] (some 2), .isl 1 [.int .u32 1, .int .u32 0] (some 2), .bool false, .bool false, .bool false], .int .i64 4], .agg [.bool false, .isl 1 [.int .u32 1] (some 1), .isl 1 [.int .u32 1] (some 1), .bool false, .isl 1 [.int .u32 2] (some 1), .isl 1 [.int .u32 1] (some 1), .bool false, .bool false, .bool false]),
  (147, [.agg [.int .i64 5, .int .i64 0, .bool false, .nilsl, .nilsl, .str [], .isl 2 [.int .i64 9, .int .i64 2, .bool false, .nilsl, .nilsl, .str [], .isl 1 [.int .i64 2, .int .i64 0, .bool false, .nilsl, .nilsl, .str [120], .nilsl] (some 1), .int .i64 1, .int .i64 0, .bool false, .isl 1 [.int .u32 1] none, .nilsl, .str [], .nilsl] (some 2)]], .tup [.isl 1 [.str [120]] none, .int .i64 0]),
  (77, [.agg [.int .i64 5, .int .i64 0, .bool false, .nilsl, .nilsl, .str [], .isl 2 [.int .i64 9, .int .i64 2, .bool false, .nilsl, .nilsl, .str [], .isl 1 [.int .i64 2, .int .i64 0, .bool false, .nilsl, .nilsl, .str [120], .nilsl] (some 1), .int .i64 1, .int .i64 0, .bool false, .isl 1 [.int .u32 1] none, .nilsl, .str [], .nilsl] (some 2)], .isl 1 [.str [120], .bool false, .nilsl, .nilsl, .bool false, .isl 1 [.int .u32 1] none, .nilsl, .bool false, .bool false] (some 1)], .bool true),
  (281, [.agg [.bool false, .isl 1 [.int .u32 1] none, .nilsl, .bool false, .isl 1 [.int .u32 1] none, .nilsl, .bool false, .bool false], .int .i64 4], .tup [.agg [.bool false, .isl 1 [.int .u32 1] none, .nilsl, .bool false, .isl 1 [.int .u32 1] none, .nilsl, .bool false, .bool false], .int .i64 0]),
  (173, [.agg [.int .i64 5, .int .i64 0, .bool false, .nilsl, .nilsl, .str [], .isl 2 [.int .i64 9, .int .i64 2, .bool false, .nilsl, .nilsl, .str [], .isl 1 [.int .i64 2, .int .i64 0, .bool false, .nilsl, .nilsl, .str [120], .nilsl] (some 1), .int .i64 1, .int .i64 0, .bool false, .isl 1 [.int .u32 1] none, .nilsl, .str [], .nilsl] (some 2)], .isl 1 [.str [120], .bool false, .nilsl, .nilsl, .bool false, .isl 1 [.int .u32 1] none, .nilsl, .bool false, .bool false] (some 1), .int .i64 4], .int .i64 0),
  (40, [.agg [.int .i64 5, .int .i64 0, .bool false, .nilsl, .nilsl, .str [], .isl 2 [.int .i64 9, .int .i64 2, .bool false, .nilsl, .nilsl, .str [], .isl 1 [.int .i64 2, .int .i64 0, .bool false, .nilsl, .nilsl, .str [120], .nilsl] (some 1), .int .i64 1, .int .i64 0, .bool false, .isl 1 [.int .u32 1] none, .nilsl, .str [], .nilsl] (some 2), .bool false, .isl 1 [.str [120], .bool false, .nilsl, .nilsl, .bool false, .isl 1 [.int .u32 1] none, .nilsl, .bool false, .bool false] (some 1), .nilsl]], .bool true),
  (153, [.agg [.int .i64 5, .int .i64 0, .bool false, .nilsl, .nilsl, .str [], .isl 2 [.int .i64 9, .int .i64 2, .bool false, .nilsl, .nilsl, .str [], .isl 1 [.int .i64 2, .int .i64 0, .bool false, .nilsl, .nilsl, .str [120], .nilsl] (some 1), .int .i64 1, .int .i64 0, .bool false, .isl 1 [.int .u32 1] none, .nilsl, .str [], .nilsl] (some 2), .bool false, .isl 1 [.str [120], .bool false, .nilsl, .nilsl, .bool false, .isl 1 [.int .u32 1] none, .nilsl, .bool false, .bool false] (some 1), .nilsl], .agg [.int .i64 5, .int .i64 0, .bool false, .nilsl, .nilsl, .str [], .isl 2 [.int .i64 9, .int .i64 2, .bool false, .nilsl, .nilsl, .str [], .isl 1 [.int .i64 2, .int .i64 0, .bool false, .nilsl, .nilsl, .str [120], .nilsl] (some 1), .int .i64 1, .int .i64 0, .bool false, .isl 1 [.int .u32 1] none, .nilsl, .str [], .nilsl] (some 2)]], .int .i64 0),
  (343, [.agg [.bool false, .isl 1 [.int .u32 1] none, .nilsl], .int .i64 4], .tup [.agg [.bool false, .isl 1 [.int .u32 1] none, .nilsl, .bool false, .isl 1 [.int .u32 1] none, .nilsl, .bool false, .bool false], .int .i64 0]),
  (281, [.agg [.bool false, .nilsl, .nilsl, .bool false, .isl 1 [.int .u32 1] none, .nilsl, .bool false, .bool false], .int .i64 4], .tup [.agg [.bool false, .nilsl, .nilsl, .bool false, .isl 1 [.int .u32 1] none, .nilsl, .bool false, .bool false], .int .i64 0])]
def tw14 : Tab := d14 ++ tw13
def d15 : Tab := [
  (266, [.agg [.int .i64 1, .int .i64 0, .bool false, .isl 1 [.int .u32 1] none, .nilsl, .str [], .nilsl], .isl 1 [.str [120], .bool false, .nilsl, .nilsl, .bool false, .isl 1 [.int .u32 1] none, .nilsl, .bool false, .bool false] (some 1), .int .i64 4], .tup [.agg [.bool false, .isl 1 [.int .u32 1] none, .nilsl, .bool false, .isl 1 [.int .u32 1] none, .nilsl, .bool false, .bool false], .int .i64 0]),
  (167, [.agg [.int .i64 1, .int .i64 0, .bool false, .isl 1 [.int .u32 1] none, .nilsl, .str [], .nilsl], .isl 1 [.str [120], .bool false, .nilsl, .nilsl, .bool false, .isl 1 [.int .u32 1] none, .nilsl, .bool false, .bool false] (some 1), .int .i64 4], .tup [.agg [.bool false, .isl 1 [.int .u32 1] none, .nilsl, .bool false, .isl 1 [.int .u32 1] none, .nilsl, .bool false, .bool false], .int .i64 0]),
  (79, [.agg [.int .i64 5, .int .i64 0, .bool false, .nilsl, .nilsl, .str [], .isl 2 [.int .i64 9, .int .i64 2, .bool false, .nilsl, .nilsl, .str [], .isl 1 [.int .i64 2, .int .i64 0, .bool false, .nilsl, .nilsl, .str [120], .nilsl] (some 1), .int .i64 1, .int .i64 0, .bool false, .isl 1 [.int .u32 1] none, .nilsl, .str [], .nilsl] (some 2), .bool false, .isl 1 [.str [120], .bool false, .nilsl, .nilsl, .bool false, .isl 1 [.int .u32 1] none, .nilsl, .bool false, .bool false] (some 1), .nilsl], .agg [.int .i64 5, .int .i64 0, .bool false, .nilsl, .nilsl, .str [], .isl 2 [.int .i64 9, .int .i64 2, .bool false, .nilsl, .nilsl, .str [], .isl 1 [.int .i64 2, .int .i64 0, .bool false, .nilsl, .nilsl, .str [120], .nilsl] (some 1), .int .i64 1, .int .i64 0, .bool false, .isl 1 [.int .u32 1] none, .nilsl, .str [], .nilsl] (some 2)], .bool false], .tup [.agg [.int .i64 5, .int .i64 0, .bool false, .nilsl, .nilsl, .str [], .isl 2 [.int .i64 9, .int .i64 2, .bool false, .nilsl, .nilsl, .str [], .isl 1 [.int .i64 2, .int .i64 0, .bool false, .nilsl, .nilsl, .str [120], .nilsl] none, .int .i64 1, .int .i64 0, .bool false, .isl 1 [.int .u32 1] none, .nilsl, .str [], .nilsl] none, .bool false, .isl 1 [.str [120], .bool false, .nilsl, .nilsl, .bool false, .isl 1 [.int .u32 1] none, .nilsl, .bool false, .bool false] none, .nilsl], .int .i64 0]),
  (78, [.nilsl, .agg [.int .i64 5, .int .i64 0, .bool false, .nilsl, .nilsl, .str [], .isl 2 [.int .i64 9, .int .i64 2, .bool false, .nilsl, .nilsl, .str [], .isl 1 [.int .i64 2, .int .i64 0, .bool false, .nilsl, .nilsl, .str [120], .nilsl] (some 1), .int .i64 1, .int .i64 0, .bool false, .isl 1 [.int .u32 1] none, .nilsl, .str [], .nilsl] (some 2), .bool false, .isl 1 [.str [120], .bool false, .nilsl, .nilsl, .bool false, .isl 1 [.int .u32 1] none, .nilsl, .bool false, .bool false] (some 1), .nilsl], .agg [.int .i64 5, .str [], .str [], .bool false, .nilsl, .nilsl, .int .i64 0, .int .i64 0, .int .i64 4, .int .i64 0, .int .i64 0, .bool false, .nilsl, .nilsl, .str [], .nilsl, .nilsl, .str [], .int .i64 0, .nilsl, .nilsl]], .tup [.nilsl, .int .i64 71]),
  (266, [.agg [.int .i64 2, .int .i64 0, .bool false, .nilsl, .nilsl, .str [120], .nilsl], .isl 1 [.str [120], .bool false, .nilsl, .nilsl, .bool false, .isl 1 [.int .u32 1] none, .nilsl, .bool false, .bool false] (some 1), .int .i64 4], .tup [.agg [.bool false, .nilsl, .nilsl, .bool false, .isl 1 [.int .u32 1] none, .nilsl, .bool false, .bool false], .int .i64 0]),
  (167, [.agg [.int .i64 2, .int .i64 0, .bool false, .nilsl, .nilsl, .str [120], .nilsl], .isl 1 [.str [120], .bool false, .nilsl, .nilsl, .bool false, .isl 1 [.int .u32 1] none, .nilsl, .bool false, .bool false] (some 1), .int .i64 4], .tup [.agg [.bool false, .nilsl, .nilsl, .bool false, .isl 1 [.int .u32 1] none, .nilsl, .bool false, .bool false], .int .i64 0]),
  (18, [.nilsl, .agg [.int .i64 5, .int .i64 0, .bool false, .nilsl, .nilsl, .str [], .isl 2 [.int .i64 9, .int .i64 2, .bool false, .nilsl, .nilsl, .str [], .isl 1 [.int .i64 2, .int .i64 0, .bool false, .nilsl, .nilsl, .str [120], .nilsl] (some 1), .int .i64 1, .int .i64 0, .bool false, .isl 1 [.int .u32 1] none, .nilsl, .str [], .nilsl] (some 2), .bool false, .isl 1 [.str [120], .bool false, .nilsl, .nilsl, .bool false, .isl 1 [.int .u32 1] none, .nilsl, .bool false, .bool false] (some 1), .nilsl], .agg [.int .i64 5, .str [], .str [], .bool false, .nilsl, .nilsl, .int .i64 0, .int .i64 0, .int .i64 4, .int .i64 0, .int .i64 0, .bool false, .nilsl, .nilsl, .str [], .nilsl, .nilsl, .str [], .int .i64 0, .nilsl, .nilsl]], .agg [.int .i64 71, .nilsl, .int .i64 0]),
  (273, [.agg [.bool false, .nilsl, .nilsl, .bool false, .isl 1 [.int .u32 1] none, .nilsl, .bool false, .bool false], .int .i64 2, .int .i64 4], .tup [.agg [.bool false, .nilsl, .nilsl, .bool false, .isl 1 [.int .u32 1] none, .nilsl, .bool false, .bool false], .int .i64 0]),
  (167, [.agg [.int .i64 9, .int .i64 2, .bool false, .nilsl, .nilsl, .str [], .isl 1 [.int .i64 2, .int .i64 0, .bool false, .nilsl, .nilsl, .str [120], .nilsl] (some 1)], .isl 1 [.str [120], .bool false, .nilsl, .nilsl, .bool false, .isl 1 [.int .u32 1] none, .nilsl, .bool false, .bool false] (some 1), .int .i64 4], .tup [.agg [.bool false, .nilsl, .nilsl, .bool false, .isl 1 [.int .u32 1] none, .nilsl, .bool false, .bool false], .int .i64 0]),
  (353, [.agg [.bool false, .nilsl, .nilsl, .bool false, .isl 1 [.int .u32 1] none, .nilsl, .bool false, .bool false], .agg [.bool false, .isl 1 [.int .u32 1] none, .nilsl, .bool false, .isl 1 [.int .u32 1] none, .nilsl, .bool false, .bool false], .int .i64 4, .func 386 [] []], .tup [.agg [.bool false, .isl 1 [.int .u32 1] none, .nilsl, .bool false, .isl 1 [.int .u32 2] none, .nilsl, .bool false, .bool false], .int .i64 0]),
  (350, [.agg [.bool false, .nilsl, .nilsl, .bool false, .isl 1 [.int .u32 1] none, .nilsl, .bool false, .bool false], .agg [.bool false, .isl 1 [.int .u32 1] none, .nilsl, .bool false, .isl 1 [.int .u32 1] none, .nilsl, .bool false, .bool false], .int .i64 4], .tup [.agg [.bool false, .isl 1 [.int .u32 1] none, .nilsl, .bool false, .isl 1 [.int .u32 2] none, .nilsl, .bool false, .bool false], .int .i64 0]),
  (167, [.agg [.int .i64 5, .int .i64 0, .bool false, .nilsl, .nilsl, .str [], .isl 2 [.int .i64 9, .int .i64 2, .bool false, .nilsl, .nilsl, .str [], .isl 1 [.int .i64 2, .int .i64 0, .bool false, .nilsl, .nilsl, .str [120], .nilsl] (some 1), .int .i64 1, .int .i64 0, .bool false, .isl 1 [.int .u32 1] none, .nilsl, .str [], .nilsl] (some 2)], .isl 1 [.str [120], .bool false, .nilsl, .nilsl, .bool false, .isl 1 [.int .u32 1] none, .nilsl, .bool false, .bool false] (some 1), .int .i64 4], .tup [.agg [.bool false, .isl 1 [.int .u32 1] none, .nilsl, .bool false, .isl 1 [.int .u32 2] none, .nilsl, .bool false, .bool false], .int .i64 0]),
  (119, [.agg [.int .i64 5, .int .i64 0, .bool false, .nilsl, .nilsl, .str [], .isl 2 [.int .i64 9, .int .i64 2, .bool false, .nilsl, .nilsl, .str [], .isl 1 [.int .i64 2, .int .i64 0, .bool false, .nilsl, .nilsl, .str [120], .nilsl] (some 1), .int .i64 1, .int .i64 0, .bool false, .isl 1 [.int .u32 1] none, .nilsl, .str [], .nilsl] (some 2)], .isl 1 [.str [120], .bool false, .nilsl, .nilsl, .bool false, .isl 1 [.int .u32 1] none, .nilsl, .bool false, .bool false] (some 1), .int .i64 4], .tup [.agg [.bool false, .isl 1 [.int .u32 1] none, .nilsl, .bool false, .isl 1 [.int .u32 2] none, .nilsl, .bool false, .bool false], .int .i64 0]),
  (78, [.nilsl, .agg [.int .i64 5, .int .i64 0, .bool false, .nilsl, .nilsl, .str [], .isl 2 [.int .i64 9, .int .i64 2, .bool false, .nilsl, .nilsl, .str [], .isl 1 [.int .i64 2, .int .i64 0, .bool false, .nilsl, .nilsl, .str [120], .nilsl] (some 1), .int .i64 1, .int .i64 0, .bool false, .isl 1 [.int .u32 1] none, .nilsl, .str [], .nilsl] (some 2), .bool false, .isl 1 [.str [120], .bool false, .nilsl, .nilsl, .bool false, .isl 1 [.int .u32 1] none, .nilsl, .bool false, .bool false] (some 1), .nilsl], .agg [.int .i64 1, .str [], .str [], .bool false, .nilsl, .nilsl, .int .i64 0, .int .i64 0, .int .i64 4, .int .i64 0, .int .i64 0, .bool false, .nilsl, .nilsl, .str [], .nilsl, .nilsl, .str [], .int .i64 0, .nilsl, .nilsl]], .tup [.nilsl, .int .i64 0]),
  (18, [.nilsl, .agg [.int .i64 5, .int .i64 0, .bool false, .nilsl, .nilsl, .str [], .isl 2 [.int .i64 9, .int .i64 2, .bool false, .nilsl, .nilsl, .str [], .isl 1 [.int .i64 2, .int .i64 0, .bool false, .nilsl, .nilsl, .str [120], .nilsl] (some 1), .int .i64 1, .int .i64 0, .bool false, .isl 1 [.int .u32 1] none, .nilsl, .str [], .nilsl] (some 2), .bool false, .isl 1 [.str [120], .bool false, .nilsl, .nilsl, .bool false, .isl 1 [.int .u32 1] none, .nilsl, .bool false, .bool false] (some 1), .nilsl], .agg [.int .i64 1, .str [], .str [], .bool false, .nilsl, .nilsl, .int .i64 0, .int .i64 0, .int .i64 4, .int .i64 0, .int .i64 0, .bool false, .nilsl, .nilsl, .str [], .nilsl, .nilsl, .str [], .int .i64 0, .nilsl, .nilsl]], .agg [.int .i64 0, .nilsl, .int .i64 1]),
  (10, [], .bool true)]
def tw15 : Tab := d15 ++ tw14
def tA : Tab := tw15
end Go.Proofs.YtgmbeedbeahblaaGreatDoor
