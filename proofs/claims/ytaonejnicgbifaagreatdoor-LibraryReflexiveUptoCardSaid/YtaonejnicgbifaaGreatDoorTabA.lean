import Derived.Test.YtaonejnicgbifaaGreatDoorGxF
import Derived.Test.YtaonejnicgbifaaGreatDoorProg
namespace Go.Proofs.YtaonejnicgbifaaGreatDoor
open Go Go.Proofs.YtaonejnicgbifaaGreatDoor.Gx
def tab : List AV := [.int .u8 0, .int .u8 1, .int .u8 28, .int .u8 2, .int .u8 29, .int .u8 14, .int .u8 24, .int .u8 3, .int .u8 30, .int .u8 22, .int .u8 20, .int .u8 15, .int .u8 25, .int .u8 17, .int .u8 4, .int .u8 8, .int .u8 31, .int .u8 27, .int .u8 13, .int .u8 23, .int .u8 21, .int .u8 19, .int .u8 16, .int .u8 7, .int .u8 26, .int .u8 12, .int .u8 18, .int .u8 6, .int .u8 11, .int .u8 5, .int .u8 10, .int .u8 9]
def G0 : Nat → Option (List AV)
  | 0 => some tab
  | _ => none
def X0 : FuncId → Option Ent := fun _ => none
def pol0 : FuncId → Bool := fun _ => true
def fuel0 : Nat := 6000
noncomputable def P0 : Program := Tryz.prog
def tw0 : Tab := []
def dw1 : Tab := [
  (195, [.nilsl, .int .i64 4], .nilsl),
  (192, [.int .u32 16], .int .i64 4),
  (69, [.int .u64 1], .isl 1 [.int .u32 1] none),
  (75, [.isl 1 [.int .u32 1] none], .isl 1 [.int .u32 1] none),
  (76, [.agg [.bool false, .isl 1 [.int .u32 1] none, .isl 1 [.int .u32 1] none]], .bool true),
  (21, [.nilsl, .str [115, 113, 117, 97, 114, 101]], .int .i64 0),
  (132, [.int .u8 115], .bool true),
  (132, [.int .u8 113], .bool true),
  (132, [.int .u8 117], .bool true),
  (132, [.int .u8 97], .bool true),
  (132, [.int .u8 114], .bool true),
  (132, [.int .u8 101], .bool true),
  (151, [], .isl 8 [.str [101, 120, 112], .str [108, 111, 103], .str [115, 105, 110], .str [99, 111, 115], .str [116, 97, 110], .str [97, 115, 105, 110], .str [97, 99, 111, 115], .str [97, 116, 97, 110]] (some 8)),
  (132, [.int .u8 120], .bool true),
  (108, [.nilsl], .nilsl),
  (109, [.nilsl], .bool true)]
def tw1 : Tab := dw1 ++ tw0
def dw2 : Tab := [
  (108, [.isl 2 [.int .u32 1, .int .u32 0] (some 2)], .isl 1 [.int .u32 1, .int .u32 0] (some 2)),
  (146, [.agg [.bool false, .nilsl, .isl 1 [.int .u32 1, .int .u32 0] (some 2)]], .bool true),
  (108, [.isl 1 [.int .u32 1] none], .isl 1 [.int .u32 1] none),
  (109, [.isl 1 [.int .u32 1] none], .bool false),
  (192, [.int .u32 1], .int .i64 0),
  (182, [.int .u32 1], .int .i64 1),
  (146, [.agg [.bool false, .isl 1 [.int .u32 1] none, .isl 1 [.int .u32 1, .int .u32 0] (some 2)]], .bool true),
  (107, [.int .i64 5], .tup [.int .i64 2, .bool true]),
  (107, [.int .i64 9], .tup [.int .i64 1, .bool true]),
  (107, [.int .i64 2], .tup [.int .i64 0, .bool true]),
  (107, [.int .i64 1], .tup [.int .i64 0, .bool true]),
  (79, [.agg [.int .i64 5, .int .i64 0, .bool false, .nilsl, .nilsl, .str [], .isl 2 [.int .i64 9, .int .i64 2, .bool false, .nilsl, .nilsl, .str [], .isl 1 [.int .i64 2, .int .i64 0, .bool false, .nilsl, .nilsl, .str [120], .nilsl] (some 1), .int .i64 1, .int .i64 0, .bool false, .isl 1 [.int .u32 1] none, .nilsl, .str [], .nilsl] (some 2)]], .func 111 [] [.iptr [.int .i64 5, .int .i64 0, .bool false, .nilsl, .nilsl, .str [], .isl 2 [.int .i64 9, .int .i64 2, .bool false, .nilsl, .nilsl, .str [], .isl 1 [.int .i64 2, .int .i64 0, .bool false, .nilsl, .nilsl, .str [120], .nilsl] (some 1), .int .i64 1, .int .i64 0, .bool false, .isl 1 [.int .u32 1] none, .nilsl, .str [], .nilsl] (some 2)]]),
  (183, [.int .u64 1], .int .i64 1),
  (173, [.isl 1 [.str [120]] none, .int .i64 0, .int .i64 1], .tup []),
  (53, [.isl 1 [.str [120], .bool false, .nilsl, .nilsl, .bool false, .isl 1 [.int .u32 1] none, .nilsl, .bool false, .bool false] (some 1), .str [120]], .int .i64 0),
  (135, [.agg [.int .i64 1, .str [], .str [], .bool false, .nilsl, .nilsl, .int .i64 0, .int .i64 0, .int .i64 4, .int .i64 0, .int .i64 0, .bool false, .nilsl, .nilsl, .str [], .nilsl, .nilsl, .str [], .int .i64 0, .nilsl, .nilsl]], .int .i64 1)]
def tw2 : Tab := dw2 ++ tw1
def dw3 : Tab := [
  (153, [.agg [.int .i64 1, .str [], .str [], .bool false, .nilsl, .nilsl, .int .i64 0, .int .i64 0, .int .i64 4, .int .i64 0, .int .i64 0, .bool false, .nilsl, .nilsl, .str [], .nilsl, .nilsl, .str [], .int .i64 0, .nilsl, .nilsl], .int .i64 1], .int .i64 1),
  (184, [], .isl 21 [.str [114, 97, 110, 103, 101], .str [112], .int .i64 0, .func 203 [] [], .str [109, 101, 97, 110], .str [112], .int .i64 0, .func 204 [] [], .str [116, 97, 121, 108, 111, 114], .str [112], .int .i64 0, .func 205 [] [], .str [108, 105, 110, 101, 97, 114], .str [112], .int .i64 0, .func 206 [] [], .str [101, 109, 112, 116, 121], .str [107, 112], .int .i64 0, .func 207 [] [], .str [99, 117, 116], .str [120, 97], .int .i64 2, .func 208 [] [], .str [114, 105, 115, 101], .str [120, 112], .int .i64 1, .func 209 [] [], .str [102, 97, 108, 108], .str [120, 112], .int .i64 1, .func 210 [] [], .str [99, 97, 118, 101], .str [120, 112], .int .i64 2, .func 211 [] [], .str [110, 97, 114, 114, 111, 119], .str [120, 107, 110, 112], .int .i64 1, .func 212 [] [], .str [98, 114, 97, 110, 99, 104], .str [112], .int .i64 2, .func 213 [] [], .str [116, 117, 114, 110], .str [120, 97], .int .i64 1, .func 214 [] [], .str [115, 119, 97, 112], .str [120, 121, 112], .int .i64 1, .func 215 [] [], .str [122, 101, 114, 111], .str [113, 112], .int .i64 0, .func 216 [] [], .str [108, 101, 97, 100], .str [120, 97, 110, 112], .int .i64 0, .func 217 [] [], .str [115, 97, 109, 101], .str [101, 112], .int .i64 1, .func 218 [] [], .str [118, 105, 97], .str [101], .int .i64 2, .func 219 [] [], .str [115, 99, 97, 108, 101], .str [101], .int .i64 2, .func 220 [] [], .str [97, 100, 100], .str [107, 97], .int .i64 1, .func 221 [] [], .str [108, 101, 109, 109, 97], .str [108, 118, 98, 112], .int .i64 1, .func 222 [] [], .str [102, 97, 114], .str [120, 110, 101, 112], .int .i64 1, .func 223 [] []] (some 21)),
  (186, [.nilsl], .nilsl),
  (157, [.agg [.str [114, 97, 110, 103, 101], .str [112], .int .i64 0, .func 203 [] []], .int .u8 112], .bool true),
  (157, [.agg [.str [114, 97, 110, 103, 101], .str [112], .int .i64 0, .func 203 [] []], .int .u8 101], .bool false),
  (338, [.isl 1 [.str [120], .bool false, .nilsl, .nilsl, .bool false, .isl 1 [.int .u32 1] none, .nilsl, .bool false, .bool false] (some 1), .str [120]], .int .i64 0),
  (143, [.nilsl], .nilsl),
  (143, [.isl 1 [.int .u32 1] none], .isl 1 [.int .u32 1] none),
  (416, [.int .i64 4, .int .i64 0, .int .i64 128], .tup []),
  (109, [.isl 1 [.int .u32 1, .int .u32 0] (some 2)], .bool false),
  (89, [.nilsl, .isl 1 [.int .u32 1, .int .u32 0] (some 2)], .int .i64 (-1)),
  (108, [.isl 2 [.int .u32 16, .int .u32 0] (some 2)], .isl 1 [.int .u32 16, .int .u32 0] (some 2)),
  (89, [.isl 1 [.int .u32 16, .int .u32 0] (some 2), .isl 1 [.int .u32 1, .int .u32 0] (some 2)], .int .i64 1),
  (108, [.isl 1 [.int .u32 16] (some 1)], .isl 1 [.int .u32 16] (some 1)),
  (108, [.isl 2 [.int .u32 0, .int .u32 0] (some 2)], .isl 0 [] (some 2)),
  (109, [.isl 0 [] (some 2)], .bool true)]
def tw3 : Tab := dw3 ++ tw2
def dw4 : Tab := [
  (109, [.isl 1 [.int .u32 16] (some 1)], .bool false),
  (108, [.isl 1 [.int .u32 1] (some 1)], .isl 1 [.int .u32 1] (some 1)),
  (171, [.isl 1 [.int .u32 1, .int .u32 0] (some 2)], .bool true),
  (118, [.int .i64 0], .tup []),
  (146, [.agg [.bool false, .isl 1 [.int .u32 1] (some 1), .isl 1 [.int .u32 1] (some 1)]], .bool true),
  (143, [.isl 1 [.int .u32 1] (some 1)], .isl 1 [.int .u32 1] none),
  (171, [.isl 1 [.int .u32 1] (some 1)], .bool true),
  (416, [.int .i64 2, .int .i64 (-32), .int .i64 32], .tup []),
  (88, [.nilsl, .nilsl], .nilsl),
  (88, [.isl 1 [.int .u32 1, .int .u32 0] (some 2), .nilsl], .nilsl),
  (89, [.isl 1 [.int .u32 1, .int .u32 0] (some 2), .isl 1 [.int .u32 1, .int .u32 0] (some 2)], .int .i64 0),
  (399, [.agg [.bool false, .isl 1 [.int .u32 1] none, .isl 1 [.int .u32 1, .int .u32 0] (some 2), .bool false, .isl 1 [.int .u32 1] none, .isl 1 [.int .u32 1, .int .u32 0] (some 2), .bool false, .bool false, .bool false]], .agg [.bool false, .isl 1 [.int .u32 1] none, .isl 1 [.int .u32 1, .int .u32 0] (some 2), .bool false, .isl 1 [.int .u32 1] none, .isl 1 [.int .u32 1, .int .u32 0] (some 2), .bool false, .bool false, .bool false]),
  (88, [.nilsl, .isl 1 [.int .u32 1, .int .u32 0] (some 2)], .nilsl),
  (146, [.agg [.bool false, .isl 1 [.int .u32 2] (some 1), .isl 1 [.int .u32 1] (some 1)]], .bool true),
  (108, [.isl 2 [.int .u32 2, .int .u32 0] (some 2)], .isl 1 [.int .u32 2, .int .u32 0] (some 2)),
  (109, [.isl 1 [.int .u32 2, .int .u32 0] (some 2)], .bool false)]
def tw4 : Tab := dw4 ++ tw3
def dw5 : Tab := [
  (192, [.int .u32 2], .int .i64 1),
  (108, [.isl 2 [.int .u32 32, .int .u32 0] (some 2)], .isl 1 [.int .u32 32, .int .u32 0] (some 2)),
  (89, [.isl 1 [.int .u32 32, .int .u32 0] (some 2), .isl 1 [.int .u32 1, .int .u32 0] (some 2)], .int .i64 1),
  (108, [.isl 1 [.int .u32 32] (some 1)], .isl 1 [.int .u32 32] (some 1)),
  (109, [.isl 1 [.int .u32 32] (some 1)], .bool false),
  (192, [.int .u32 32], .int .i64 5),
  (108, [.isl 1 [.int .u32 2] (some 1)], .isl 1 [.int .u32 2] (some 1)),
  (146, [.agg [.bool false, .isl 1 [.int .u32 2] none, .isl 1 [.int .u32 1, .int .u32 0] (some 2)]], .bool true),
  (143, [.isl 1 [.int .u32 2] (some 1)], .isl 1 [.int .u32 2] none),
  (236, [.bool true], .tup []),
  (108, [.isl 1 [.int .u32 2] none], .isl 1 [.int .u32 2] none),
  (109, [.isl 1 [.int .u32 2] none], .bool false),
  (45, [.nilsl], .nilsl),
  (89, [.isl 1 [.int .u32 1, .int .u32 0] (some 2), .isl 1 [.int .u32 2, .int .u32 0] (some 2)], .int .i64 (-1)),
  (24, [.agg [.str [115, 113, 117, 97, 114, 101], .int .i64 1, .int .i64 5, .int .i64 0, .bool false, .nilsl, .nilsl, .str [], .isl 2 [.int .i64 9, .int .i64 2, .bool false, .nilsl, .nilsl, .str [], .isl 1 [.int .i64 2, .int .i64 0, .bool false, .nilsl, .nilsl, .str [120], .nilsl] none, .int .i64 1, .int .i64 0, .bool false, .isl 1 [.int .u32 1] none, .nilsl, .str [], .nilsl] none, .bool false, .isl 1 [.str [120], .bool false, .nilsl, .nilsl, .bool false, .isl 1 [.int .u32 1] none, .nilsl, .bool false, .bool false] none, .nilsl, .int .i64 1, .str [], .str [], .bool false, .nilsl, .nilsl, .int .i64 0, .int .i64 0, .int .i64 4, .int .i64 0, .int .i64 0, .bool false, .nilsl, .nilsl, .str [], .nilsl, .nilsl, .str [], .int .i64 0, .nilsl, .nilsl]], .agg [.str [115, 113, 117, 97, 114, 101], .int .i64 1]),
  (21, [.isl 1 [.str [115, 113, 117, 97, 114, 101], .int .i64 1, .int .i64 5, .int .i64 0, .bool false, .nilsl, .nilsl, .str [], .isl 2 [.int .i64 9, .int .i64 2, .bool false, .nilsl, .nilsl, .str [], .isl 1 [.int .i64 2, .int .i64 0, .bool false, .nilsl, .nilsl, .str [120], .nilsl] none, .int .i64 1, .int .i64 0, .bool false, .isl 1 [.int .u32 1] none, .nilsl, .str [], .nilsl] none, .bool false, .isl 1 [.str [120], .bool false, .nilsl, .nilsl, .bool false, .isl 1 [.int .u32 1] none, .nilsl, .bool false, .bool false] none, .nilsl, .int .i64 1, .str [], .str [], .bool false, .nilsl, .nilsl, .int .i64 0, .int .i64 0, .int .i64 4, .int .i64 0, .int .i64 0, .bool false, .nilsl, .nilsl, .str [], .nilsl, .nilsl, .str [], .int .i64 0, .nilsl, .nilsl] none, .str [115, 113, 117, 97, 114, 101]], .int .i64 1)]
def tw5 : Tab := dw5 ++ tw4
def dw6 : Tab := [
  (167, [.isl 1 [.int .u32 16, .int .u32 0] (some 2)], .int .i64 4),
  (167, [.isl 1 [.int .u32 2, .int .u32 0] (some 2)], .int .i64 1),
  (87, [.agg [.bool false, .nilsl, .isl 1 [.int .u32 1, .int .u32 0] (some 2)]], .int .i64 0),
  (149, [.int .u64 1], .int .i64 1),
  (167, [.isl 1 [.int .u32 16] (some 1)], .int .i64 4),
  (168, [.isl 1 [.int .u32 16] (some 1), .int .i64 4], .isl 1 [.int .u32 1] (some 1)),
  (168, [.isl 1 [.int .u32 16, .int .u32 0] (some 2), .int .i64 4], .isl 1 [.int .u32 1] (some 1)),
  (167, [.isl 1 [.int .u32 1] (some 1)], .int .i64 0),
  (169, [.isl 1 [.int .u32 1] (some 1)], .int .i64 1),
  (148, [.isl 1 [.str [120]] none, .int .i64 0, .int .i64 1, .int .i64 1], .tup []),
  (456, [.agg [.bool false, .nilsl, .nilsl], .int .i64 0], .agg [.bool false, .nilsl, .nilsl]),
  (100, [.str [120]], .int .i64 1),
  (167, [.isl 1 [.int .u32 1] none], .int .i64 0),
  (136, [.agg [.int .i64 1, .str [], .str [], .bool false, .nilsl, .nilsl, .int .i64 0, .int .i64 0, .int .i64 4, .int .i64 0, .int .i64 0, .bool false, .nilsl, .nilsl, .str [], .nilsl, .nilsl, .str [], .int .i64 0, .nilsl, .nilsl]], .int .i64 1),
  (456, [.agg [.bool false, .isl 1 [.int .u32 1] none, .nilsl], .int .i64 0], .agg [.bool false, .isl 1 [.int .u32 1] none, .nilsl]),
  (70, [.bool false, .isl 1 [.int .u32 1] none, .isl 1 [.int .u32 1] none], .agg [.bool false, .isl 1 [.int .u32 1] none, .isl 1 [.int .u32 1] none])]
def tw6 : Tab := dw6 ++ tw5
def dw7 : Tab := [
  (154, [.int .i64 1], .tup [.agg [.str [114, 97, 110, 103, 101], .str [112], .int .i64 0, .func 203 [] []], .bool true]),
  (167, [.isl 1 [.int .u32 1, .int .u32 0] (some 2)], .int .i64 0),
  (88, [.isl 1 [.int .u32 1, .int .u32 0] (some 2), .isl 1 [.int .u32 1, .int .u32 0] (some 2)], .isl 1 [.int .u32 1, .int .u32 0] (some 2)),
  (88, [.isl 1 [.int .u32 1] none, .isl 1 [.int .u32 1] none], .isl 1 [.int .u32 1, .int .u32 0] (some 2)),
  (88, [.isl 1 [.int .u32 1] none, .isl 1 [.int .u32 1, .int .u32 0] (some 2)], .isl 1 [.int .u32 1, .int .u32 0] (some 2)),
  (156, [.agg [.int .i64 0, .int .i64 0, .bool false, .nilsl, .nilsl, .str [], .nilsl]], .bool true),
  (169, [.isl 1 [.int .u32 1, .int .u32 0] (some 2)], .int .i64 1),
  (438, [.nilsl, .isl 1 [.int .u32 1, .int .u32 0] (some 2)], .isl 1 [.int .u32 1, .int .u32 0] (some 2)),
  (134, [.str [120]], .tup [.int .i64 0, .bool false]),
  (438, [.isl 1 [.int .u32 1, .int .u32 0] (some 2), .isl 1 [.int .u32 1, .int .u32 0] (some 2)], .isl 1 [.int .u32 2, .int .u32 0] (some 2)),
  (167, [.isl 1 [.int .u32 2] none], .int .i64 1),
  (389, [.agg [.bool false, .nilsl, .nilsl]], .agg [.bool false, .nilsl, .nilsl]),
  (195, [.isl 1 [.int .u32 2, .int .u32 0] (some 2), .int .i64 4], .isl 1 [.int .u32 32, .int .u32 0] (some 2)),
  (193, [.isl 1 [.int .u32 32, .int .u32 0] (some 2), .int .u32 1], .tup [.isl 1 [.int .u32 32] (some 1), .int .u32 0]),
  (87, [.agg [.bool false, .isl 1 [.int .u32 1] none, .isl 1 [.int .u32 1, .int .u32 0] (some 2)]], .int .i64 1),
  (167, [.isl 1 [.int .u32 32] (some 1)], .int .i64 5)]
def tw7 : Tab := dw7 ++ tw6
def dw8 : Tab := [
  (168, [.isl 1 [.int .u32 32] (some 1), .int .i64 4], .isl 1 [.int .u32 2] (some 1)),
  (172, [.nilsl, .isl 1 [.int .u32 1, .int .u32 0] (some 2)], .tup [.nilsl, .nilsl]),
  (195, [.isl 1 [.int .u32 1, .int .u32 0] (some 2), .int .i64 4], .isl 1 [.int .u32 16, .int .u32 0] (some 2)),
  (456, [.agg [.bool false, .isl 1 [.int .u32 2] none, .nilsl], .int .i64 0], .agg [.bool false, .isl 1 [.int .u32 2] none, .nilsl]),
  (228, [.agg [.bool false, .isl 1 [.int .u32 1] none, .nilsl, .bool false, .isl 1 [.int .u32 2] none, .nilsl, .bool false, .bool false], .int .i64 0], .agg [.bool false, .isl 1 [.int .u32 1] none, .nilsl, .bool false, .isl 1 [.int .u32 2] none, .nilsl, .bool false, .bool false]),
  (195, [.isl 1 [.int .u32 1] none, .int .i64 4], .isl 1 [.int .u32 16, .int .u32 0] (some 2)),
  (165, [.agg [.bool false, .nilsl, .nilsl]], .agg [.bool false, .nilsl, .nilsl]),
  (87, [.agg [.bool false, .isl 1 [.int .u32 2] none, .isl 1 [.int .u32 1, .int .u32 0] (some 2)]], .int .i64 1),
  (88, [.isl 1 [.int .u32 2] none, .isl 1 [.int .u32 1, .int .u32 0] (some 2)], .isl 1 [.int .u32 2, .int .u32 0] (some 2)),
  (144, [.int .u64 1], .isl 1 [.int .u32 1, .int .u32 0] (some 2)),
  (259, [.int .i64 2, .int .i64 0], .int .i64 2),
  (191, [.agg [.bool false, .nilsl, .nilsl]], .agg [.bool false, .nilsl, .nilsl]),
  (9, [.isl 1 [.str [115, 113, 117, 97, 114, 101], .int .i64 1, .int .i64 5, .int .i64 0, .bool false, .nilsl, .nilsl, .str [], .isl 2 [.int .i64 9, .int .i64 2, .bool false, .nilsl, .nilsl, .str [], .isl 1 [.int .i64 2, .int .i64 0, .bool false, .nilsl, .nilsl, .str [120], .nilsl] none, .int .i64 1, .int .i64 0, .bool false, .isl 1 [.int .u32 1] none, .nilsl, .str [], .nilsl] none, .bool false, .isl 1 [.str [120], .bool false, .nilsl, .nilsl, .bool false, .isl 1 [.int .u32 1] none, .nilsl, .bool false, .bool false] none, .nilsl, .int .i64 1, .str [], .str [], .bool false, .nilsl, .nilsl, .int .i64 0, .int .i64 0, .int .i64 4, .int .i64 0, .int .i64 0, .bool false, .nilsl, .nilsl, .str [], .nilsl, .nilsl, .str [], .int .i64 0, .nilsl, .nilsl] none, .agg [.str [115, 113, 117, 97, 114, 101], .int .i64 1]], .int .i64 0),
  (106, [.agg [.bool false, .nilsl, .nilsl]], .agg [.bool false, .nilsl, .nilsl]),
  (193, [.isl 1 [.int .u32 16, .int .u32 0] (some 2), .int .u32 1], .tup [.isl 1 [.int .u32 16] (some 1), .int .u32 0]),
  (134, [.str [115, 113, 117, 97, 114, 101]], .tup [.int .i64 0, .bool false])]
def tw8 : Tab := dw8 ++ tw7
def dw9 : Tab := [
  (144, [.int .u64 0], .isl 0 [] (some 2)),
  (389, [.agg [.bool false, .isl 1 [.int .u32 1] none, .nilsl]], .agg [.bool false, .isl 1 [.int .u32 1] none, .nilsl]),
  (191, [.agg [.bool false, .isl 1 [.int .u32 1] none, .nilsl]], .agg [.bool false, .isl 1 [.int .u32 1] none, .nilsl]),
  (46, [.agg [.bool false, .isl 1 [.int .u32 1] none, .isl 1 [.int .u32 1] none]], .agg [.bool false, .isl 1 [.int .u32 1] none, .nilsl]),
  (166, [.agg [.int .i64 0, .int .i64 0, .bool false, .nilsl, .nilsl, .str [], .nilsl]], .agg [.int .i64 0, .int .i64 0, .bool false, .nilsl, .nilsl, .str [], .nilsl]),
  (47, [.int .i64 1], .agg [.bool false, .isl 1 [.int .u32 1] none, .isl 1 [.int .u32 1] none]),
  (105, [.agg [.int .i64 2, .int .i64 0, .bool false, .nilsl, .nilsl, .str [120], .nilsl]], .agg [.int .i64 2, .int .i64 0, .bool false, .nilsl, .nilsl, .str [120], .nilsl]),
  (106, [.agg [.bool false, .isl 1 [.int .u32 1] none, .nilsl]], .agg [.bool false, .isl 1 [.int .u32 1] none, .nilsl]),
  (101, [.str [115, 113, 117, 97, 114, 101]], .bool false),
  (8, [.isl 1 [.str [115, 113, 117, 97, 114, 101], .int .i64 1, .int .i64 5, .int .i64 0, .bool false, .nilsl, .nilsl, .str [], .isl 2 [.int .i64 9, .int .i64 2, .bool false, .nilsl, .nilsl, .str [], .isl 1 [.int .i64 2, .int .i64 0, .bool false, .nilsl, .nilsl, .str [120], .nilsl] none, .int .i64 1, .int .i64 0, .bool false, .isl 1 [.int .u32 1] none, .nilsl, .str [], .nilsl] none, .bool false, .isl 1 [.str [120], .bool false, .nilsl, .nilsl, .bool false, .isl 1 [.int .u32 1] none, .nilsl, .bool false, .bool false] none, .nilsl, .int .i64 1, .str [], .str [], .bool false, .nilsl, .nilsl, .int .i64 0, .int .i64 0, .int .i64 4, .int .i64 0, .int .i64 0, .bool false, .nilsl, .nilsl, .str [], .nilsl, .nilsl, .str [], .int .i64 0, .nilsl, .nilsl] none, .agg [.str [115, 113, 117, 97, 114, 101], .int .i64 1]], .tup [.int .i64 0, .bool true]),
  (101, [.str [120]], .bool false),
  (163, [.agg [.int .i64 2, .int .i64 0, .bool false, .nilsl, .nilsl, .str [120], .nilsl]], .agg [.int .i64 2, .int .i64 0, .bool false, .nilsl, .nilsl, .str [120], .nilsl]),
  (145, [.bool false, .nilsl, .isl 1 [.int .u32 1, .int .u32 0] (some 2)], .agg [.bool false, .nilsl, .isl 1 [.int .u32 1, .int .u32 0] (some 2)]),
  (480, [.isl 1 [.int .u32 1, .int .u32 0] (some 2), .int .i64 2], .isl 1 [.int .u32 1, .int .u32 0] (some 2)),
  (342, [.agg [.bool false, .nilsl, .isl 1 [.int .u32 1, .int .u32 0] (some 2)]], .tup [.agg [.bool false, .nilsl, .nilsl], .int .i64 0]),
  (342, [.agg [.bool false, .isl 1 [.int .u32 1] none, .isl 1 [.int .u32 1, .int .u32 0] (some 2)]], .tup [.agg [.bool false, .isl 1 [.int .u32 1] none, .nilsl], .int .i64 0])]
def tw9 : Tab := dw9 ++ tw8
def dw10 : Tab := [
  (163, [.agg [.int .i64 9, .int .i64 2, .bool false, .nilsl, .nilsl, .str [], .isl 1 [.int .i64 2, .int .i64 0, .bool false, .nilsl, .nilsl, .str [120], .nilsl] (some 1)]], .agg [.int .i64 9, .int .i64 2, .bool false, .nilsl, .nilsl, .str [], .isl 1 [.int .i64 2, .int .i64 0, .bool false, .nilsl, .nilsl, .str [120], .nilsl] none]),
  (78, [.agg [.int .i64 5, .int .i64 0, .bool false, .nilsl, .nilsl, .str [], .isl 2 [.int .i64 9, .int .i64 2, .bool false, .nilsl, .nilsl, .str [], .isl 1 [.int .i64 2, .int .i64 0, .bool false, .nilsl, .nilsl, .str [120], .nilsl] (some 1), .int .i64 1, .int .i64 0, .bool false, .isl 1 [.int .u32 1] none, .nilsl, .str [], .nilsl] (some 2)]], .bool true),
  (163, [.agg [.int .i64 1, .int .i64 0, .bool false, .isl 1 [.int .u32 1] none, .nilsl, .str [], .nilsl]], .agg [.int .i64 1, .int .i64 0, .bool false, .isl 1 [.int .u32 1] none, .nilsl, .str [], .nilsl]),
  (142, [.agg [.int .i64 1, .str [], .str [], .bool false, .nilsl, .nilsl, .int .i64 0, .int .i64 0, .int .i64 4, .int .i64 0, .int .i64 0, .bool false, .nilsl, .nilsl, .str [], .nilsl, .nilsl, .str [], .int .i64 0, .nilsl, .nilsl]], .agg [.int .i64 1, .str [], .str [], .bool false, .nilsl, .nilsl, .int .i64 0, .int .i64 0, .int .i64 4, .int .i64 0, .int .i64 0, .bool false, .nilsl, .nilsl, .str [], .nilsl, .nilsl, .str [], .int .i64 0, .nilsl, .nilsl]),
  (342, [.agg [.bool false, .isl 1 [.int .u32 2] (some 1), .isl 1 [.int .u32 1] (some 1)]], .tup [.agg [.bool false, .isl 1 [.int .u32 2] none, .nilsl], .int .i64 0]),
  (342, [.agg [.bool false, .isl 1 [.int .u32 1] (some 1), .isl 1 [.int .u32 1] (some 1)]], .tup [.agg [.bool false, .isl 1 [.int .u32 1] none, .nilsl], .int .i64 0]),
  (105, [.agg [.int .i64 9, .int .i64 2, .bool false, .nilsl, .nilsl, .str [], .isl 1 [.int .i64 2, .int .i64 0, .bool false, .nilsl, .nilsl, .str [120], .nilsl] (some 1)]], .agg [.int .i64 9, .int .i64 2, .bool false, .nilsl, .nilsl, .str [], .isl 1 [.int .i64 2, .int .i64 0, .bool false, .nilsl, .nilsl, .str [120], .nilsl] none]),
  (78, [.agg [.int .i64 9, .int .i64 2, .bool false, .nilsl, .nilsl, .str [], .isl 1 [.int .i64 2, .int .i64 0, .bool false, .nilsl, .nilsl, .str [120], .nilsl] (some 1)]], .bool true),
  (105, [.agg [.int .i64 1, .int .i64 0, .bool false, .isl 1 [.int .u32 1] none, .nilsl, .str [], .nilsl]], .agg [.int .i64 1, .int .i64 0, .bool false, .isl 1 [.int .u32 1] none, .nilsl, .str [], .nilsl]),
  (145, [.bool false, .nilsl, .isl 1 [.int .u32 16, .int .u32 0] (some 2)], .agg [.bool false, .nilsl, .isl 1 [.int .u32 1, .int .u32 0] (some 2)]),
  (104, [.agg [.int .i64 1, .str [], .str [], .bool false, .nilsl, .nilsl, .int .i64 0, .int .i64 0, .int .i64 4, .int .i64 0, .int .i64 0, .bool false, .nilsl, .nilsl, .str [], .nilsl, .nilsl, .str [], .int .i64 0, .nilsl, .nilsl]], .agg [.int .i64 1, .str [], .str [], .bool false, .nilsl, .nilsl, .int .i64 0, .int .i64 0, .int .i64 4, .int .i64 0, .int .i64 0, .bool false, .nilsl, .nilsl, .str [], .nilsl, .nilsl, .str [], .int .i64 0, .nilsl, .nilsl]),
  (480, [.isl 1 [.int .u32 1] none, .int .i64 2], .isl 1 [.int .u32 1, .int .u32 0] (some 2)),
  (114, [.isl 1 [.str [120]] none], .tup []),
  (323, [.agg [.bool false, .isl 1 [.int .u32 1] none, .isl 1 [.int .u32 1, .int .u32 0] (some 2), .bool false, .isl 1 [.int .u32 2] none, .isl 1 [.int .u32 1, .int .u32 0] (some 2), .bool false, .bool false, .bool false]], .tup [.int .i64 1, .int .i64 1]),
  (323, [.agg [.bool false, .nilsl, .isl 1 [.int .u32 1, .int .u32 0] (some 2), .bool false, .isl 1 [.int .u32 1] none, .isl 1 [.int .u32 1, .int .u32 0] (some 2), .bool false, .bool false, .bool false]], .tup [.int .i64 0, .int .i64 1]),
  (480, [.nilsl, .int .i64 2], .nilsl)]
def tw10 : Tab := dw10 ++ tw9
def dw11 : Tab := [
  (324, [.agg [.bool false, .nilsl, .nilsl, .bool false, .isl 1 [.int .u32 1] none, .nilsl, .bool false, .bool false]], .agg [.bool false, .nilsl, .nilsl, .bool false, .isl 1 [.int .u32 1] none, .nilsl, .bool false, .bool false]),
  (58, [.agg [.bool false, .nilsl, .isl 1 [.int .u32 1, .int .u32 0] (some 2)], .agg [.bool false, .isl 1 [.int .u32 1] none, .isl 1 [.int .u32 1, .int .u32 0] (some 2)]], .int .i64 (-1)),
  (190, [.isl 1 [.str [120], .bool false, .nilsl, .nilsl, .bool false, .isl 1 [.int .u32 1] none, .nilsl, .bool false, .bool false] (some 1)], .isl 1 [.str [120], .bool false, .nilsl, .nilsl, .bool false, .isl 1 [.int .u32 1] none, .nilsl, .bool false, .bool false] none),
  (73, [.agg [.int .i64 1, .str [], .str [], .bool false, .nilsl, .nilsl, .int .i64 0, .int .i64 0, .int .i64 4, .int .i64 0, .int .i64 0, .bool false, .nilsl, .nilsl, .str [], .nilsl, .nilsl, .str [], .int .i64 0, .nilsl, .nilsl], .nilsl], .tup [.agg [.int .i64 1, .str [], .str [], .bool false, .nilsl, .nilsl, .int .i64 0, .int .i64 0, .int .i64 4, .int .i64 0, .int .i64 0, .bool false, .nilsl, .nilsl, .str [], .nilsl, .nilsl, .str [], .int .i64 0, .nilsl, .nilsl], .bool true]),
  (71, [.str [120]], .bool true),
  (172, [.isl 1 [.int .u32 16, .int .u32 0] (some 2), .isl 1 [.int .u32 1, .int .u32 0] (some 2)], .tup [.isl 1 [.int .u32 16] (some 1), .isl 0 [] (some 2)]),
  (145, [.bool false, .isl 1 [.int .u32 1, .int .u32 0] (some 2), .isl 1 [.int .u32 1, .int .u32 0] (some 2)], .agg [.bool false, .isl 1 [.int .u32 1, .int .u32 0] (some 2), .isl 1 [.int .u32 1, .int .u32 0] (some 2)]),
  (172, [.isl 1 [.int .u32 32, .int .u32 0] (some 2), .isl 1 [.int .u32 1, .int .u32 0] (some 2)], .tup [.isl 1 [.int .u32 32] (some 1), .isl 0 [] (some 2)]),
  (58, [.agg [.bool false, .isl 1 [.int .u32 1] none, .isl 1 [.int .u32 1, .int .u32 0] (some 2)], .agg [.bool false, .isl 1 [.int .u32 1] none, .isl 1 [.int .u32 1, .int .u32 0] (some 2)]], .int .i64 0),
  (20, [], .agg [.int .i64 5, .int .i64 0, .bool false, .nilsl, .nilsl, .str [], .isl 2 [.int .i64 9, .int .i64 2, .bool false, .nilsl, .nilsl, .str [], .isl 1 [.int .i64 2, .int .i64 0, .bool false, .nilsl, .nilsl, .str [120], .nilsl] (some 1), .int .i64 1, .int .i64 0, .bool false, .isl 1 [.int .u32 1] none, .nilsl, .str [], .nilsl] (some 2), .bool false, .isl 1 [.str [120], .bool false, .nilsl, .nilsl, .bool false, .isl 1 [.int .u32 1] none, .nilsl, .bool false, .bool false] (some 1), .nilsl]),
  (100, [.str [115, 113, 117, 97, 114, 101]], .int .i64 6),
  (453, [.agg [.bool false, .isl 1 [.int .u32 1] none, .isl 1 [.int .u32 1, .int .u32 0] (some 2), .bool false, .isl 1 [.int .u32 1] none, .isl 1 [.int .u32 1, .int .u32 0] (some 2), .bool false, .bool false, .bool false]], .agg [.bool false, .isl 1 [.int .u32 1] none, .nilsl, .bool false, .isl 1 [.int .u32 1] none, .nilsl, .bool false, .bool false]),
  (453, [.agg [.bool false, .isl 1 [.int .u32 1] (some 1), .isl 1 [.int .u32 1] (some 1), .bool false, .isl 1 [.int .u32 1] (some 1), .isl 1 [.int .u32 1] (some 1), .bool false, .bool false, .bool false]], .agg [.bool false, .isl 1 [.int .u32 1] none, .nilsl, .bool false, .isl 1 [.int .u32 1] none, .nilsl, .bool false, .bool false]),
  (110, [.agg [.bool false, .nilsl, .nilsl]], .tup [.agg [.bool false, .nilsl, .isl 1 [.int .u32 1, .int .u32 0] (some 2)], .bool true]),
  (42, [.str [120]], .bool true),
  (145, [.bool false, .isl 1 [.int .u32 1] none, .isl 1 [.int .u32 1, .int .u32 0] (some 2)], .agg [.bool false, .isl 1 [.int .u32 1] none, .isl 1 [.int .u32 1, .int .u32 0] (some 2)])]
def tw11 : Tab := dw11 ++ tw10
def dw12 : Tab := [
  (271, [.isl 1 [.str [120], .bool false, .nilsl, .nilsl, .bool false, .isl 1 [.int .u32 1] none, .nilsl, .bool false, .bool false] (some 1), .str [120]], .tup [.agg [.bool false, .nilsl, .nilsl, .bool false, .isl 1 [.int .u32 1] none, .nilsl, .bool false, .bool false], .bool true]),
  (429, [.agg [.bool false, .isl 1 [.int .u32 1] none, .isl 1 [.int .u32 1, .int .u32 0] (some 2)], .int .i64 2], .agg [.bool false, .isl 1 [.int .u32 1, .int .u32 0] (some 2), .isl 1 [.int .u32 1, .int .u32 0] (some 2)]),
  (145, [.bool false, .isl 1 [.int .u32 2] none, .isl 1 [.int .u32 1, .int .u32 0] (some 2)], .agg [.bool false, .isl 1 [.int .u32 2] none, .isl 1 [.int .u32 1, .int .u32 0] (some 2)]),
  (86, [.agg [.bool false, .nilsl, .nilsl]], .agg [.bool false, .nilsl, .isl 1 [.int .u32 1, .int .u32 0] (some 2)]),
  (163, [.agg [.int .i64 5, .int .i64 0, .bool false, .nilsl, .nilsl, .str [], .isl 2 [.int .i64 9, .int .i64 2, .bool false, .nilsl, .nilsl, .str [], .isl 1 [.int .i64 2, .int .i64 0, .bool false, .nilsl, .nilsl, .str [120], .nilsl] (some 1), .int .i64 1, .int .i64 0, .bool false, .isl 1 [.int .u32 1] none, .nilsl, .str [], .nilsl] (some 2)]], .agg [.int .i64 5, .int .i64 0, .bool false, .nilsl, .nilsl, .str [], .isl 2 [.int .i64 9, .int .i64 2, .bool false, .nilsl, .nilsl, .str [], .isl 1 [.int .i64 2, .int .i64 0, .bool false, .nilsl, .nilsl, .str [120], .nilsl] none, .int .i64 1, .int .i64 0, .bool false, .isl 1 [.int .u32 1] none, .nilsl, .str [], .nilsl] none]),
  (145, [.bool false, .isl 1 [.int .u32 2, .int .u32 0] (some 2), .isl 1 [.int .u32 1, .int .u32 0] (some 2)], .agg [.bool false, .isl 1 [.int .u32 2, .int .u32 0] (some 2), .isl 1 [.int .u32 1, .int .u32 0] (some 2)]),
  (105, [.agg [.int .i64 5, .int .i64 0, .bool false, .nilsl, .nilsl, .str [], .isl 2 [.int .i64 9, .int .i64 2, .bool false, .nilsl, .nilsl, .str [], .isl 1 [.int .i64 2, .int .i64 0, .bool false, .nilsl, .nilsl, .str [120], .nilsl] (some 1), .int .i64 1, .int .i64 0, .bool false, .isl 1 [.int .u32 1] none, .nilsl, .str [], .nilsl] (some 2)]], .agg [.int .i64 5, .int .i64 0, .bool false, .nilsl, .nilsl, .str [], .isl 2 [.int .i64 9, .int .i64 2, .bool false, .nilsl, .nilsl, .str [], .isl 1 [.int .i64 2, .int .i64 0, .bool false, .nilsl, .nilsl, .str [120], .nilsl] none, .int .i64 1, .int .i64 0, .bool false, .isl 1 [.int .u32 1] none, .nilsl, .str [], .nilsl] none]),
  (429, [.agg [.bool false, .nilsl, .isl 1 [.int .u32 1, .int .u32 0] (some 2)], .int .i64 2], .agg [.bool false, .nilsl, .isl 1 [.int .u32 1, .int .u32 0] (some 2)]),
  (74, [.agg [.int .i64 5, .int .i64 0, .bool false, .nilsl, .nilsl, .str [], .isl 2 [.int .i64 9, .int .i64 2, .bool false, .nilsl, .nilsl, .str [], .isl 1 [.int .i64 2, .int .i64 0, .bool false, .nilsl, .nilsl, .str [120], .nilsl] (some 1), .int .i64 1, .int .i64 0, .bool false, .isl 1 [.int .u32 1] none, .nilsl, .str [], .nilsl] (some 2), .bool false, .isl 1 [.str [120], .bool false, .nilsl, .nilsl, .bool false, .isl 1 [.int .u32 1] none, .nilsl, .bool false, .bool false] (some 1), .nilsl]], .agg [.int .i64 5, .int .i64 0, .bool false, .nilsl, .nilsl, .str [], .isl 2 [.int .i64 9, .int .i64 2, .bool false, .nilsl, .nilsl, .str [], .isl 1 [.int .i64 2, .int .i64 0, .bool false, .nilsl, .nilsl, .str [120], .nilsl] none, .int .i64 1, .int .i64 0, .bool false, .isl 1 [.int .u32 1] none, .nilsl, .str [], .nilsl] none, .bool false, .isl 1 [.str [120], .bool false, .nilsl, .nilsl, .bool false, .isl 1 [.int .u32 1] none, .nilsl, .bool false, .bool false] none, .nilsl]),
  (185, [.agg [.bool false, .nilsl, .nilsl]], .tup [.int .i64 0, .int .i64 0]),
  (187, [.agg [.bool false, .nilsl, .nilsl]], .bool true),
  (155, [.agg [.bool false, .nilsl, .nilsl]], .bool true),
  (58, [.agg [.bool false, .isl 1 [.int .u32 1] none, .isl 1 [.int .u32 1, .int .u32 0] (some 2)], .agg [.bool false, .isl 1 [.int .u32 2] none, .isl 1 [.int .u32 1, .int .u32 0] (some 2)]], .int .i64 (-1)),
  (162, [.agg [.int .i64 5, .int .i64 0, .bool false, .nilsl, .nilsl, .str [], .isl 2 [.int .i64 9, .int .i64 2, .bool false, .nilsl, .nilsl, .str [], .isl 1 [.int .i64 2, .int .i64 0, .bool false, .nilsl, .nilsl, .str [120], .nilsl] (some 1), .int .i64 1, .int .i64 0, .bool false, .isl 1 [.int .u32 1] none, .nilsl, .str [], .nilsl] (some 2), .bool false, .isl 1 [.str [120], .bool false, .nilsl, .nilsl, .bool false, .isl 1 [.int .u32 1] none, .nilsl, .bool false, .bool false] (some 1), .nilsl]], .agg [.int .i64 5, .int .i64 0, .bool false, .nilsl, .nilsl, .str [], .isl 2 [.int .i64 9, .int .i64 2, .bool false, .nilsl, .nilsl, .str [], .isl 1 [.int .i64 2, .int .i64 0, .bool false, .nilsl, .nilsl, .str [120], .nilsl] none, .int .i64 1, .int .i64 0, .bool false, .isl 1 [.int .u32 1] none, .nilsl, .str [], .nilsl] none, .bool false, .isl 1 [.str [120], .bool false, .nilsl, .nilsl, .bool false, .isl 1 [.int .u32 1] none, .nilsl, .bool false, .bool false] none, .nilsl]),
  (476, [.agg [.bool false, .nilsl, .isl 1 [.int .u32 1, .int .u32 0] (some 2)], .int .i64 4, .bool false], .agg [.bool false, .nilsl, .isl 1 [.int .u32 1, .int .u32 0] (some 2)]),
  (453, [.agg [.bool false, .isl 1 [.int .u32 1] (some 1), .isl 1 [.int .u32 1] (some 1), .bool false, .isl 1 [.int .u32 2] (some 1), .isl 1 [.int .u32 1] (some 1), .bool false, .bool false, .bool false]], .agg [.bool false, .isl 1 [.int .u32 1] none, .nilsl, .bool false, .isl 1 [.int .u32 2] none, .nilsl, .bool false, .bool false])]
def tw12 : Tab := dw12 ++ tw11
def dw13 : Tab := [
  (71, [.str [115, 113, 117, 97, 114, 101]], .bool true),
  (78, [.agg [.int .i64 2, .int .i64 0, .bool false, .nilsl, .nilsl, .str [120], .nilsl]], .bool true),
  (49, [.agg [.int .i64 2, .int .i64 0, .bool false, .nilsl, .nilsl, .str [120], .nilsl], .int .i64 3, .int .i64 2], .int .i64 3),
  (381, [.agg [.bool false, .nilsl, .isl 1 [.int .u32 1, .int .u32 0] (some 2)], .agg [.bool false, .isl 1 [.int .u32 1] none, .isl 1 [.int .u32 1, .int .u32 0] (some 2)]], .agg [.bool false, .isl 1 [.int .u32 1, .int .u32 0] (some 2), .isl 1 [.int .u32 1, .int .u32 0] (some 2)]),
  (453, [.agg [.bool false, .nilsl, .isl 1 [.int .u32 1, .int .u32 0] (some 2), .bool false, .isl 1 [.int .u32 1] (some 1), .isl 1 [.int .u32 1] (some 1), .bool false, .bool false, .bool false]], .agg [.bool false, .nilsl, .nilsl, .bool false, .isl 1 [.int .u32 1] none, .nilsl, .bool false, .bool false]),
  (42, [.str [115, 113, 117, 97, 114, 101]], .bool true),
  (158, [.agg [.str [114, 97, 110, 103, 101], .str [112], .int .i64 0, .func 203 [] []], .agg [.int .i64 1, .str [], .str [], .bool false, .nilsl, .nilsl, .int .i64 0, .int .i64 0, .int .i64 4, .int .i64 0, .int .i64 0, .bool false, .nilsl, .nilsl, .str [], .nilsl, .nilsl, .str [], .int .i64 0, .nilsl, .nilsl]], .bool true),
  (145, [.bool false, .isl 1 [.int .u32 16] (some 1), .isl 1 [.int .u32 16, .int .u32 0] (some 2)], .agg [.bool false, .isl 1 [.int .u32 1] (some 1), .isl 1 [.int .u32 1] (some 1)]),
  (381, [.agg [.bool false, .isl 1 [.int .u32 1] none, .isl 1 [.int .u32 1, .int .u32 0] (some 2)], .agg [.bool false, .isl 1 [.int .u32 1] none, .isl 1 [.int .u32 1, .int .u32 0] (some 2)]], .agg [.bool false, .isl 1 [.int .u32 2, .int .u32 0] (some 2), .isl 1 [.int .u32 1, .int .u32 0] (some 2)]),
  (110, [.agg [.bool false, .isl 1 [.int .u32 1] none, .nilsl]], .tup [.agg [.bool false, .isl 1 [.int .u32 1] none, .isl 1 [.int .u32 1, .int .u32 0] (some 2)], .bool true]),
  (145, [.bool false, .isl 1 [.int .u32 32] (some 1), .isl 1 [.int .u32 16, .int .u32 0] (some 2)], .agg [.bool false, .isl 1 [.int .u32 2] (some 1), .isl 1 [.int .u32 1] (some 1)]),
  (110, [.agg [.bool false, .isl 1 [.int .u32 2] none, .nilsl]], .tup [.agg [.bool false, .isl 1 [.int .u32 2] none, .isl 1 [.int .u32 1, .int .u32 0] (some 2)], .bool true]),
  (86, [.agg [.bool false, .isl 1 [.int .u32 1] none, .nilsl]], .agg [.bool false, .isl 1 [.int .u32 1] none, .isl 1 [.int .u32 1, .int .u32 0] (some 2)]),
  (44, [.agg [.str [115, 113, 117, 97, 114, 101], .int .i64 1, .int .i64 5, .int .i64 0, .bool false, .nilsl, .nilsl, .str [], .isl 2 [.int .i64 9, .int .i64 2, .bool false, .nilsl, .nilsl, .str [], .isl 1 [.int .i64 2, .int .i64 0, .bool false, .nilsl, .nilsl, .str [120], .nilsl] (some 1), .int .i64 1, .int .i64 0, .bool false, .isl 1 [.int .u32 1] none, .nilsl, .str [], .nilsl] (some 2), .bool false, .isl 1 [.str [120], .bool false, .nilsl, .nilsl, .bool false, .isl 1 [.int .u32 1] none, .nilsl, .bool false, .bool false] (some 1), .nilsl, .int .i64 1, .str [], .str [], .bool false, .nilsl, .nilsl, .int .i64 0, .int .i64 0, .int .i64 4, .int .i64 0, .int .i64 0, .bool false, .nilsl, .nilsl, .str [], .nilsl, .nilsl, .str [], .int .i64 0, .nilsl, .nilsl]], .agg [.str [115, 113, 117, 97, 114, 101], .int .i64 1, .int .i64 5, .int .i64 0, .bool false, .nilsl, .nilsl, .str [], .isl 2 [.int .i64 9, .int .i64 2, .bool false, .nilsl, .nilsl, .str [], .isl 1 [.int .i64 2, .int .i64 0, .bool false, .nilsl, .nilsl, .str [120], .nilsl] none, .int .i64 1, .int .i64 0, .bool false, .isl 1 [.int .u32 1] none, .nilsl, .str [], .nilsl] none, .bool false, .isl 1 [.str [120], .bool false, .nilsl, .nilsl, .bool false, .isl 1 [.int .u32 1] none, .nilsl, .bool false, .bool false] none, .nilsl, .int .i64 1, .str [], .str [], .bool false, .nilsl, .nilsl, .int .i64 0, .int .i64 0, .int .i64 4, .int .i64 0, .int .i64 0, .bool false, .nilsl, .nilsl, .str [], .nilsl, .nilsl, .str [], .int .i64 0, .nilsl, .nilsl]),
  (49, [.agg [.int .i64 9, .int .i64 2, .bool false, .nilsl, .nilsl, .str [], .isl 1 [.int .i64 2, .int .i64 0, .bool false, .nilsl, .nilsl, .str [120], .nilsl] (some 1)], .int .i64 2, .int .i64 1], .int .i64 3),
  (86, [.agg [.bool false, .isl 1 [.int .u32 2] none, .nilsl]], .agg [.bool false, .isl 1 [.int .u32 2] none, .isl 1 [.int .u32 1, .int .u32 0] (some 2)])]
def tw13 : Tab := dw13 ++ tw12
def dw14 : Tab := [
  (418, [.agg [.bool false, .nilsl, .isl 1 [.int .u32 1, .int .u32 0] (some 2), .bool false, .isl 1 [.int .u32 1] none, .isl 1 [.int .u32 1, .int .u32 0] (some 2), .bool false, .bool false, .bool false], .int .i64 2], .agg [.bool false, .nilsl, .isl 1 [.int .u32 1, .int .u32 0] (some 2), .bool false, .isl 1 [.int .u32 1, .int .u32 0] (some 2), .isl 1 [.int .u32 1, .int .u32 0] (some 2), .bool false, .bool false, .bool false]),
  (78, [.agg [.int .i64 1, .int .i64 0, .bool false, .isl 1 [.int .u32 1] none, .nilsl, .str [], .nilsl]], .bool true),
  (49, [.agg [.int .i64 1, .int .i64 0, .bool false, .isl 1 [.int .u32 1] none, .nilsl, .str [], .nilsl], .int .i64 2, .int .i64 3], .int .i64 4),
  (138, [.agg [.int .i64 1, .str [], .str [], .bool false, .nilsl, .nilsl, .int .i64 0, .int .i64 0, .int .i64 4, .int .i64 0, .int .i64 0, .bool false, .nilsl, .nilsl, .str [], .nilsl, .nilsl, .str [], .int .i64 0, .nilsl, .nilsl]], .bool true),
  (137, [.agg [.int .i64 1, .str [], .str [], .bool false, .nilsl, .nilsl, .int .i64 0, .int .i64 0, .int .i64 4, .int .i64 0, .int .i64 0, .bool false, .nilsl, .nilsl, .str [], .nilsl, .nilsl, .str [], .int .i64 0, .nilsl, .nilsl], .func 138 [] []], .bool true),
  (57, [.agg [.bool false, .isl 1 [.int .u32 1] none, .nilsl, .bool false, .isl 1 [.int .u32 1] none, .nilsl, .bool false, .bool false]], .agg [.bool false, .isl 1 [.int .u32 1] none, .isl 1 [.int .u32 1, .int .u32 0] (some 2), .bool false, .isl 1 [.int .u32 1] none, .isl 1 [.int .u32 1, .int .u32 0] (some 2), .bool false, .bool false, .bool false]),
  (446, [.agg [.bool false, .nilsl, .isl 1 [.int .u32 1, .int .u32 0] (some 2), .bool false, .isl 1 [.int .u32 1] none, .isl 1 [.int .u32 1, .int .u32 0] (some 2), .bool false, .bool false, .bool false], .agg [.bool false, .isl 1 [.int .u32 1] none, .isl 1 [.int .u32 1, .int .u32 0] (some 2), .bool false, .isl 1 [.int .u32 1] none, .isl 1 [.int .u32 1, .int .u32 0] (some 2), .bool false, .bool false, .bool false]], .agg [.bool false, .isl 1 [.int .u32 1, .int .u32 0] (some 2), .isl 1 [.int .u32 1, .int .u32 0] (some 2), .bool false, .isl 1 [.int .u32 2, .int .u32 0] (some 2), .isl 1 [.int .u32 1, .int .u32 0] (some 2), .bool false, .bool false, .bool false]),
  (476, [.agg [.bool false, .isl 1 [.int .u32 1, .int .u32 0] (some 2), .isl 1 [.int .u32 1, .int .u32 0] (some 2)], .int .i64 4, .bool false], .agg [.bool false, .isl 1 [.int .u32 1] (some 1), .isl 1 [.int .u32 1] (some 1)]),
  (57, [.agg [.bool false, .nilsl, .nilsl, .bool false, .isl 1 [.int .u32 1] none, .nilsl, .bool false, .bool false]], .agg [.bool false, .nilsl, .isl 1 [.int .u32 1, .int .u32 0] (some 2), .bool false, .isl 1 [.int .u32 1] none, .isl 1 [.int .u32 1, .int .u32 0] (some 2), .bool false, .bool false, .bool false]),
  (48, [.agg [.bool false, .nilsl, .nilsl, .bool false, .isl 1 [.int .u32 1] none, .nilsl, .bool false, .bool false]], .tup [.bool false, .int .i64 0]),
  (476, [.agg [.bool false, .isl 1 [.int .u32 1, .int .u32 0] (some 2), .isl 1 [.int .u32 1, .int .u32 0] (some 2)], .int .i64 4, .bool true], .agg [.bool false, .isl 1 [.int .u32 1] (some 1), .isl 1 [.int .u32 1] (some 1)]),
  (476, [.agg [.bool false, .isl 1 [.int .u32 1] none, .isl 1 [.int .u32 1, .int .u32 0] (some 2)], .int .i64 4, .bool false], .agg [.bool false, .isl 1 [.int .u32 1] (some 1), .isl 1 [.int .u32 1] (some 1)]),
  (102, [.agg [.int .i64 1, .str [], .str [], .bool false, .nilsl, .nilsl, .int .i64 0, .int .i64 0, .int .i64 4, .int .i64 0, .int .i64 0, .bool false, .nilsl, .nilsl, .str [], .nilsl, .nilsl, .str [], .int .i64 0, .nilsl, .nilsl]], .int .i64 0),
  (476, [.agg [.bool false, .isl 1 [.int .u32 1] none, .isl 1 [.int .u32 1, .int .u32 0] (some 2)], .int .i64 4, .bool true], .agg [.bool false, .isl 1 [.int .u32 1] (some 1), .isl 1 [.int .u32 1] (some 1)]),
  (420, [.agg [.bool false, .isl 1 [.int .u32 1] none, .isl 1 [.int .u32 1, .int .u32 0] (some 2), .bool false, .isl 1 [.int .u32 1] none, .isl 1 [.int .u32 1, .int .u32 0] (some 2), .bool false, .bool false, .bool false], .int .i64 4], .agg [.bool false, .isl 1 [.int .u32 1] (some 1), .isl 1 [.int .u32 1] (some 1), .bool false, .isl 1 [.int .u32 1] (some 1), .isl 1 [.int .u32 1] (some 1), .bool false, .bool false, .bool false]),
  (476, [.agg [.bool false, .isl 1 [.int .u32 2, .int .u32 0] (some 2), .isl 1 [.int .u32 1, .int .u32 0] (some 2)], .int .i64 4, .bool true], .agg [.bool false, .isl 1 [.int .u32 2] (some 1), .isl 1 [.int .u32 1] (some 1)])]
def tw14 : Tab := dw14 ++ tw13
def dw15 : Tab := [
  (398, [.agg [.bool false, .isl 1 [.int .u32 1] none, .nilsl, .bool false, .isl 1 [.int .u32 1] none, .nilsl, .bool false, .bool false], .func 399 [] []], .tup [.agg [.bool false, .isl 1 [.int .u32 1] none, .nilsl, .bool false, .isl 1 [.int .u32 1] none, .nilsl, .bool false, .bool false], .int .i64 0]),
  (345, [.agg [.bool false, .isl 1 [.int .u32 1] none, .nilsl, .bool false, .isl 1 [.int .u32 1] none, .nilsl, .bool false, .bool false]], .tup [.agg [.bool false, .isl 1 [.int .u32 1] none, .nilsl, .bool false, .isl 1 [.int .u32 1] none, .nilsl, .bool false, .bool false], .int .i64 0]),
  (277, [.agg [.bool false, .isl 1 [.int .u32 1] none, .nilsl], .agg [.bool false, .isl 1 [.int .u32 1] none, .nilsl]], .tup [.agg [.bool false, .isl 1 [.int .u32 1] none, .nilsl, .bool false, .isl 1 [.int .u32 1] none, .nilsl, .bool false, .bool false], .int .i64 0]),
  (355, [.agg [.bool false, .isl 1 [.int .u32 1] none, .nilsl]], .tup [.agg [.bool false, .isl 1 [.int .u32 1] none, .nilsl, .bool false, .isl 1 [.int .u32 1] none, .nilsl, .bool false, .bool false], .int .i64 0]),
  (420, [.agg [.bool false, .nilsl, .isl 1 [.int .u32 1, .int .u32 0] (some 2), .bool false, .isl 1 [.int .u32 1, .int .u32 0] (some 2), .isl 1 [.int .u32 1, .int .u32 0] (some 2), .bool false, .bool false, .bool false], .int .i64 4], .agg [.bool false, .nilsl, .isl 1 [.int .u32 1, .int .u32 0] (some 2), .bool false, .isl 1 [.int .u32 1] (some 1), .isl 1 [.int .u32 1] (some 1), .bool false, .bool false, .bool false]),
  (57, [.agg [.bool false, .isl 1 [.int .u32 1] none, .nilsl, .bool false, .isl 1 [.int .u32 2] none, .nilsl, .bool false, .bool false]], .agg [.bool false, .isl 1 [.int .u32 1] none, .isl 1 [.int .u32 1, .int .u32 0] (some 2), .bool false, .isl 1 [.int .u32 2] none, .isl 1 [.int .u32 1, .int .u32 0] (some 2), .bool false, .bool false, .bool false]),
  (25, [.isl 1 [.str [120], .bool false, .nilsl, .nilsl, .bool false, .isl 1 [.int .u32 1] none, .nilsl, .bool false, .bool false] (some 1)], .bool true),
  (420, [.agg [.bool false, .nilsl, .isl 1 [.int .u32 1, .int .u32 0] (some 2), .bool false, .isl 1 [.int .u32 1] none, .isl 1 [.int .u32 1, .int .u32 0] (some 2), .bool false, .bool false, .bool false], .int .i64 4], .agg [.bool false, .nilsl, .isl 1 [.int .u32 1, .int .u32 0] (some 2), .bool false, .isl 1 [.int .u32 1] (some 1), .isl 1 [.int .u32 1] (some 1), .bool false, .bool false, .bool false]),
  (260, [.agg [.bool false, .isl 1 [.int .u32 1] none, .nilsl, .bool false, .isl 1 [.int .u32 2] none, .nilsl, .bool false, .bool false]], .tup [.int .i64 2, .int .i64 0]),
  (49, [.agg [.int .i64 5, .int .i64 0, .bool false, .nilsl, .nilsl, .str [], .isl 2 [.int .i64 9, .int .i64 2, .bool false, .nilsl, .nilsl, .str [], .isl 1 [.int .i64 2, .int .i64 0, .bool false, .nilsl, .nilsl, .str [120], .nilsl] (some 1), .int .i64 1, .int .i64 0, .bool false, .isl 1 [.int .u32 1] none, .nilsl, .str [], .nilsl] (some 2)], .int .i64 1, .int .i64 0], .int .i64 4),
  (26, [.agg [.int .i64 5, .int .i64 0, .bool false, .nilsl, .nilsl, .str [], .isl 2 [.int .i64 9, .int .i64 2, .bool false, .nilsl, .nilsl, .str [], .isl 1 [.int .i64 2, .int .i64 0, .bool false, .nilsl, .nilsl, .str [120], .nilsl] (some 1), .int .i64 1, .int .i64 0, .bool false, .isl 1 [.int .u32 1] none, .nilsl, .str [], .nilsl] (some 2)]], .bool true),
  (420, [.agg [.bool false, .isl 1 [.int .u32 1, .int .u32 0] (some 2), .isl 1 [.int .u32 1, .int .u32 0] (some 2), .bool false, .isl 1 [.int .u32 2, .int .u32 0] (some 2), .isl 1 [.int .u32 1, .int .u32 0] (some 2), .bool false, .bool false, .bool false], .int .i64 4], .agg [.bool false, .isl 1 [.int .u32 1] (some 1), .isl 1 [.int .u32 1] (some 1), .bool false, .isl 1 [.int .u32 2] (some 1), .isl 1 [.int .u32 1] (some 1), .bool false, .bool false, .bool false]),
  (50, [.agg [.int .i64 5, .int .i64 0, .bool false, .nilsl, .nilsl, .str [], .isl 2 [.int .i64 9, .int .i64 2, .bool false, .nilsl, .nilsl, .str [], .isl 1 [.int .i64 2, .int .i64 0, .bool false, .nilsl, .nilsl, .str [120], .nilsl] (some 1), .int .i64 1, .int .i64 0, .bool false, .isl 1 [.int .u32 1] none, .nilsl, .str [], .nilsl] (some 2)]], .tup [.isl 1 [.str [120]] none, .int .i64 0]),
  (27, [.agg [.int .i64 5, .int .i64 0, .bool false, .nilsl, .nilsl, .str [], .isl 2 [.int .i64 9, .int .i64 2, .bool false, .nilsl, .nilsl, .str [], .isl 1 [.int .i64 2, .int .i64 0, .bool false, .nilsl, .nilsl, .str [120], .nilsl] (some 1), .int .i64 1, .int .i64 0, .bool false, .isl 1 [.int .u32 1] none, .nilsl, .str [], .nilsl] (some 2)], .isl 1 [.str [120], .bool false, .nilsl, .nilsl, .bool false, .isl 1 [.int .u32 1] none, .nilsl, .bool false, .bool false] (some 1)], .bool true),
  (364, [.agg [.bool false, .isl 1 [.int .u32 1] none, .nilsl, .bool false, .isl 1 [.int .u32 1] none, .nilsl, .bool false, .bool false], .int .i64 4], .tup [.agg [.bool false, .isl 1 [.int .u32 1] none, .nilsl, .bool false, .isl 1 [.int .u32 1] none, .nilsl, .bool false, .bool false], .int .i64 0]),
  (289, [.agg [.int .i64 5, .int .i64 0, .bool false, .nilsl, .nilsl, .str [], .isl 2 [.int .i64 9, .int .i64 2, .bool false, .nilsl, .nilsl, .str [], .isl 1 [.int .i64 2, .int .i64 0, .bool false, .nilsl, .nilsl, .str [120], .nilsl] (some 1), .int .i64 1, .int .i64 0, .bool false, .isl 1 [.int .u32 1] none, .nilsl, .str [], .nilsl] (some 2)], .isl 1 [.str [120], .bool false, .nilsl, .nilsl, .bool false, .isl 1 [.int .u32 1] none, .nilsl, .bool false, .bool false] (some 1), .int .i64 4], .int .i64 0)]
def tw15 : Tab := dw15 ++ tw14
def dw16 : Tab := [
  (10, [.agg [.int .i64 5, .int .i64 0, .bool false, .nilsl, .nilsl, .str [], .isl 2 [.int .i64 9, .int .i64 2, .bool false, .nilsl, .nilsl, .str [], .isl 1 [.int .i64 2, .int .i64 0, .bool false, .nilsl, .nilsl, .str [120], .nilsl] (some 1), .int .i64 1, .int .i64 0, .bool false, .isl 1 [.int .u32 1] none, .nilsl, .str [], .nilsl] (some 2), .bool false, .isl 1 [.str [120], .bool false, .nilsl, .nilsl, .bool false, .isl 1 [.int .u32 1] none, .nilsl, .bool false, .bool false] (some 1), .nilsl]], .bool true),
  (161, [.agg [.int .i64 5, .int .i64 0, .bool false, .nilsl, .nilsl, .str [], .isl 2 [.int .i64 9, .int .i64 2, .bool false, .nilsl, .nilsl, .str [], .isl 1 [.int .i64 2, .int .i64 0, .bool false, .nilsl, .nilsl, .str [120], .nilsl] (some 1), .int .i64 1, .int .i64 0, .bool false, .isl 1 [.int .u32 1] none, .nilsl, .str [], .nilsl] (some 2), .bool false, .isl 1 [.str [120], .bool false, .nilsl, .nilsl, .bool false, .isl 1 [.int .u32 1] none, .nilsl, .bool false, .bool false] (some 1), .nilsl], .agg [.int .i64 5, .int .i64 0, .bool false, .nilsl, .nilsl, .str [], .isl 2 [.int .i64 9, .int .i64 2, .bool false, .nilsl, .nilsl, .str [], .isl 1 [.int .i64 2, .int .i64 0, .bool false, .nilsl, .nilsl, .str [120], .nilsl] (some 1), .int .i64 1, .int .i64 0, .bool false, .isl 1 [.int .u32 1] none, .nilsl, .str [], .nilsl] (some 2)]], .int .i64 0),
  (403, [.agg [.bool false, .isl 1 [.int .u32 1] none, .nilsl], .int .i64 4], .tup [.agg [.bool false, .isl 1 [.int .u32 1] none, .nilsl, .bool false, .isl 1 [.int .u32 1] none, .nilsl, .bool false, .bool false], .int .i64 0]),
  (349, [.agg [.int .i64 1, .int .i64 0, .bool false, .isl 1 [.int .u32 1] none, .nilsl, .str [], .nilsl], .isl 1 [.str [120], .bool false, .nilsl, .nilsl, .bool false, .isl 1 [.int .u32 1] none, .nilsl, .bool false, .bool false] (some 1), .int .i64 4], .tup [.agg [.bool false, .isl 1 [.int .u32 1] none, .nilsl, .bool false, .isl 1 [.int .u32 1] none, .nilsl, .bool false, .bool false], .int .i64 0]),
  (364, [.agg [.bool false, .nilsl, .nilsl, .bool false, .isl 1 [.int .u32 1] none, .nilsl, .bool false, .bool false], .int .i64 4], .tup [.agg [.bool false, .nilsl, .nilsl, .bool false, .isl 1 [.int .u32 1] none, .nilsl, .bool false, .bool false], .int .i64 0]),
  (283, [.agg [.int .i64 1, .int .i64 0, .bool false, .isl 1 [.int .u32 1] none, .nilsl, .str [], .nilsl], .isl 1 [.str [120], .bool false, .nilsl, .nilsl, .bool false, .isl 1 [.int .u32 1] none, .nilsl, .bool false, .bool false] (some 1), .int .i64 4], .tup [.agg [.bool false, .isl 1 [.int .u32 1] none, .nilsl, .bool false, .isl 1 [.int .u32 1] none, .nilsl, .bool false, .bool false], .int .i64 0]),
  (140, [.agg [.int .i64 5, .int .i64 0, .bool false, .nilsl, .nilsl, .str [], .isl 2 [.int .i64 9, .int .i64 2, .bool false, .nilsl, .nilsl, .str [], .isl 1 [.int .i64 2, .int .i64 0, .bool false, .nilsl, .nilsl, .str [120], .nilsl] (some 1), .int .i64 1, .int .i64 0, .bool false, .isl 1 [.int .u32 1] none, .nilsl, .str [], .nilsl] (some 2), .bool false, .isl 1 [.str [120], .bool false, .nilsl, .nilsl, .bool false, .isl 1 [.int .u32 1] none, .nilsl, .bool false, .bool false] (some 1), .nilsl], .agg [.int .i64 5, .int .i64 0, .bool false, .nilsl, .nilsl, .str [], .isl 2 [.int .i64 9, .int .i64 2, .bool false, .nilsl, .nilsl, .str [], .isl 1 [.int .i64 2, .int .i64 0, .bool false, .nilsl, .nilsl, .str [120], .nilsl] (some 1), .int .i64 1, .int .i64 0, .bool false, .isl 1 [.int .u32 1] none, .nilsl, .str [], .nilsl] (some 2)], .bool false], .tup [.agg [.int .i64 5, .int .i64 0, .bool false, .nilsl, .nilsl, .str [], .isl 2 [.int .i64 9, .int .i64 2, .bool false, .nilsl, .nilsl, .str [], .isl 1 [.int .i64 2, .int .i64 0, .bool false, .nilsl, .nilsl, .str [120], .nilsl] none, .int .i64 1, .int .i64 0, .bool false, .isl 1 [.int .u32 1] none, .nilsl, .str [], .nilsl] none, .bool false, .isl 1 [.str [120], .bool false, .nilsl, .nilsl, .bool false, .isl 1 [.int .u32 1] none, .nilsl, .bool false, .bool false] none, .nilsl], .int .i64 0]),
  (349, [.agg [.int .i64 2, .int .i64 0, .bool false, .nilsl, .nilsl, .str [120], .nilsl], .isl 1 [.str [120], .bool false, .nilsl, .nilsl, .bool false, .isl 1 [.int .u32 1] none, .nilsl, .bool false, .bool false] (some 1), .int .i64 4], .tup [.agg [.bool false, .nilsl, .nilsl, .bool false, .isl 1 [.int .u32 1] none, .nilsl, .bool false, .bool false], .int .i64 0]),
  (283, [.agg [.int .i64 2, .int .i64 0, .bool false, .nilsl, .nilsl, .str [120], .nilsl], .isl 1 [.str [120], .bool false, .nilsl, .nilsl, .bool false, .isl 1 [.int .u32 1] none, .nilsl, .bool false, .bool false] (some 1), .int .i64 4], .tup [.agg [.bool false, .nilsl, .nilsl, .bool false, .isl 1 [.int .u32 1] none, .nilsl, .bool false, .bool false], .int .i64 0]),
  (356, [.agg [.bool false, .nilsl, .nilsl, .bool false, .isl 1 [.int .u32 1] none, .nilsl, .bool false, .bool false], .int .i64 2, .int .i64 4], .tup [.agg [.bool false, .nilsl, .nilsl, .bool false, .isl 1 [.int .u32 1] none, .nilsl, .bool false, .bool false], .int .i64 0]),
  (283, [.agg [.int .i64 9, .int .i64 2, .bool false, .nilsl, .nilsl, .str [], .isl 1 [.int .i64 2, .int .i64 0, .bool false, .nilsl, .nilsl, .str [120], .nilsl] (some 1)], .isl 1 [.str [120], .bool false, .nilsl, .nilsl, .bool false, .isl 1 [.int .u32 1] none, .nilsl, .bool false, .bool false] (some 1), .int .i64 4], .tup [.agg [.bool false, .nilsl, .nilsl, .bool false, .isl 1 [.int .u32 1] none, .nilsl, .bool false, .bool false], .int .i64 0]),
  (413, [.agg [.bool false, .nilsl, .nilsl, .bool false, .isl 1 [.int .u32 1] none, .nilsl, .bool false, .bool false], .agg [.bool false, .isl 1 [.int .u32 1] none, .nilsl, .bool false, .isl 1 [.int .u32 1] none, .nilsl, .bool false, .bool false], .int .i64 4, .func 446 [] []], .tup [.agg [.bool false, .isl 1 [.int .u32 1] none, .nilsl, .bool false, .isl 1 [.int .u32 2] none, .nilsl, .bool false, .bool false], .int .i64 0]),
  (410, [.agg [.bool false, .nilsl, .nilsl, .bool false, .isl 1 [.int .u32 1] none, .nilsl, .bool false, .bool false], .agg [.bool false, .isl 1 [.int .u32 1] none, .nilsl, .bool false, .isl 1 [.int .u32 1] none, .nilsl, .bool false, .bool false], .int .i64 4], .tup [.agg [.bool false, .isl 1 [.int .u32 1] none, .nilsl, .bool false, .isl 1 [.int .u32 2] none, .nilsl, .bool false, .bool false], .int .i64 0]),
  (283, [.agg [.int .i64 5, .int .i64 0, .bool false, .nilsl, .nilsl, .str [], .isl 2 [.int .i64 9, .int .i64 2, .bool false, .nilsl, .nilsl, .str [], .isl 1 [.int .i64 2, .int .i64 0, .bool false, .nilsl, .nilsl, .str [120], .nilsl] (some 1), .int .i64 1, .int .i64 0, .bool false, .isl 1 [.int .u32 1] none, .nilsl, .str [], .nilsl] (some 2)], .isl 1 [.str [120], .bool false, .nilsl, .nilsl, .bool false, .isl 1 [.int .u32 1] none, .nilsl, .bool false, .bool false] (some 1), .int .i64 4], .tup [.agg [.bool false, .isl 1 [.int .u32 1] none, .nilsl, .bool false, .isl 1 [.int .u32 2] none, .nilsl, .bool false, .bool false], .int .i64 0]),
  (261, [.agg [.int .i64 5, .int .i64 0, .bool false, .nilsl, .nilsl, .str [], .isl 2 [.int .i64 9, .int .i64 2, .bool false, .nilsl, .nilsl, .str [], .isl 1 [.int .i64 2, .int .i64 0, .bool false, .nilsl, .nilsl, .str [120], .nilsl] (some 1), .int .i64 1, .int .i64 0, .bool false, .isl 1 [.int .u32 1] none, .nilsl, .str [], .nilsl] (some 2)], .isl 1 [.str [120], .bool false, .nilsl, .nilsl, .bool false, .isl 1 [.int .u32 1] none, .nilsl, .bool false, .bool false] (some 1), .int .i64 4], .tup [.agg [.bool false, .isl 1 [.int .u32 1] none, .nilsl, .bool false, .isl 1 [.int .u32 2] none, .nilsl, .bool false, .bool false], .int .i64 0]),
  (139, [.nilsl, .agg [.int .i64 5, .int .i64 0, .bool false, .nilsl, .nilsl, .str [], .isl 2 [.int .i64 9, .int .i64 2, .bool false, .nilsl, .nilsl, .str [], .isl 1 [.int .i64 2, .int .i64 0, .bool false, .nilsl, .nilsl, .str [120], .nilsl] (some 1), .int .i64 1, .int .i64 0, .bool false, .isl 1 [.int .u32 1] none, .nilsl, .str [], .nilsl] (some 2), .bool false, .isl 1 [.str [120], .bool false, .nilsl, .nilsl, .bool false, .isl 1 [.int .u32 1] none, .nilsl, .bool false, .bool false] (some 1), .nilsl], .agg [.int .i64 1, .str [], .str [], .bool false, .nilsl, .nilsl, .int .i64 0, .int .i64 0, .int .i64 4, .int .i64 0, .int .i64 0, .bool false, .nilsl, .nilsl, .str [], .nilsl, .nilsl, .str [], .int .i64 0, .nilsl, .nilsl]], .tup [.nilsl, .int .i64 0])]
def tw16 : Tab := dw16 ++ tw15
def dw17 : Tab := [
  (43, [.nilsl, .agg [.int .i64 5, .int .i64 0, .bool false, .nilsl, .nilsl, .str [], .isl 2 [.int .i64 9, .int .i64 2, .bool false, .nilsl, .nilsl, .str [], .isl 1 [.int .i64 2, .int .i64 0, .bool false, .nilsl, .nilsl, .str [120], .nilsl] (some 1), .int .i64 1, .int .i64 0, .bool false, .isl 1 [.int .u32 1] none, .nilsl, .str [], .nilsl] (some 2), .bool false, .isl 1 [.str [120], .bool false, .nilsl, .nilsl, .bool false, .isl 1 [.int .u32 1] none, .nilsl, .bool false, .bool false] (some 1), .nilsl], .agg [.int .i64 1, .str [], .str [], .bool false, .nilsl, .nilsl, .int .i64 0, .int .i64 0, .int .i64 4, .int .i64 0, .int .i64 0, .bool false, .nilsl, .nilsl, .str [], .nilsl, .nilsl, .str [], .int .i64 0, .nilsl, .nilsl]], .agg [.int .i64 0, .nilsl, .int .i64 1]),
  (19, [.nilsl, .str [115, 113, 117, 97, 114, 101], .agg [.int .i64 5, .int .i64 0, .bool false, .nilsl, .nilsl, .str [], .isl 2 [.int .i64 9, .int .i64 2, .bool false, .nilsl, .nilsl, .str [], .isl 1 [.int .i64 2, .int .i64 0, .bool false, .nilsl, .nilsl, .str [120], .nilsl] (some 1), .int .i64 1, .int .i64 0, .bool false, .isl 1 [.int .u32 1] none, .nilsl, .str [], .nilsl] (some 2), .bool false, .isl 1 [.str [120], .bool false, .nilsl, .nilsl, .bool false, .isl 1 [.int .u32 1] none, .nilsl, .bool false, .bool false] (some 1), .nilsl], .agg [.int .i64 1, .str [], .str [], .bool false, .nilsl, .nilsl, .int .i64 0, .int .i64 0, .int .i64 4, .int .i64 0, .int .i64 0, .bool false, .nilsl, .nilsl, .str [], .nilsl, .nilsl, .str [], .int .i64 0, .nilsl, .nilsl]], .tup [.isl 1 [.str [115, 113, 117, 97, 114, 101], .int .i64 1, .int .i64 5, .int .i64 0, .bool false, .nilsl, .nilsl, .str [], .isl 2 [.int .i64 9, .int .i64 2, .bool false, .nilsl, .nilsl, .str [], .isl 1 [.int .i64 2, .int .i64 0, .bool false, .nilsl, .nilsl, .str [120], .nilsl] none, .int .i64 1, .int .i64 0, .bool false, .isl 1 [.int .u32 1] none, .nilsl, .str [], .nilsl] none, .bool false, .isl 1 [.str [120], .bool false, .nilsl, .nilsl, .bool false, .isl 1 [.int .u32 1] none, .nilsl, .bool false, .bool false] none, .nilsl, .int .i64 1, .str [], .str [], .bool false, .nilsl, .nilsl, .int .i64 0, .int .i64 0, .int .i64 4, .int .i64 0, .int .i64 0, .bool false, .nilsl, .nilsl, .str [], .nilsl, .nilsl, .str [], .int .i64 0, .nilsl, .nilsl] none, .int .i64 1, .int .i64 0]),
  (7, [], .bool true)]
def tw17 : Tab := dw17 ++ tw16
end Go.Proofs.YtaonejnicgbifaaGreatDoor
