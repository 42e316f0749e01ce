/-
  The tables of the closed calls below awake().
-/
import Derived.Test.YtfhjhnofkaiceaaGreatDoorGxE
import Derived.Test.YtfhjhnofkaiceaaGreatDoorProg
namespace Go.Proofs.YtfhjhnofkaiceaaGreatDoor
open Go Go.Proofs.YtfhjhnofkaiceaaGreatDoor.Gx
def tab : List AV := [.int .u8 0, .int .u8 1, .int .u8 28, .int .u8 2, .int .u8 29, .int .u8 14, .int .u8 24, .int .u8 3, .int .u8 30, .int .u8 22, .int .u8 20, .int .u8 15, .int .u8 25, .int .u8 17, .int .u8 4, .int .u8 8, .int .u8 31, .int .u8 27, .int .u8 13, .int .u8 23, .int .u8 21, .int .u8 19, .int .u8 16, .int .u8 7, .int .u8 26, .int .u8 12, .int .u8 18, .int .u8 6, .int .u8 11, .int .u8 5, .int .u8 10, .int .u8 9]
def G0 : Nat → Option (List AV)
  | 0 => some tab
  | _ => none
def X0 : FuncId → Option Ent := fun _ => none
def pol0 : FuncId → Bool := fun _ => true
def fuel0 : Nat := 6000
noncomputable def P0 : Program := Tryz.prog
def t0 : Tab := []
def d1 : Tab := [
  (370, [.nilsl, .int .i64 4], .nilsl),
  (367, [.int .u32 16], .int .i64 4),
  (73, [.int .u64 1], .isl 1 [.int .u32 1] none),
  (70, [.isl 1 [.int .u32 1] none], .isl 1 [.int .u32 1] none),
  (71, [.agg [.bool false, .isl 1 [.int .u32 1] none, .isl 1 [.int .u32 1] none]], .bool true),
  (9, [.nilsl, .str [115, 113, 117, 97, 114, 101]], .int .i64 0),
  (109, [.int .u8 115], .bool true),
  (109, [.int .u8 113], .bool true),
  (109, [.int .u8 117], .bool true),
  (109, [.int .u8 97], .bool true),
  (109, [.int .u8 114], .bool true),
  (109, [.int .u8 101], .bool true),
  (137, [], .isl 8 [.str [101, 120, 112], .str [108, 111, 103], .str [115, 105, 110], .str [99, 111, 115], .str [116, 97, 110], .str [97, 115, 105, 110], .str [97, 99, 111, 115], .str [97, 116, 97, 110]] (some 8)),
  (109, [.int .u8 120], .bool true),
  (187, [.nilsl], .nilsl),
  (188, [.nilsl], .bool true)]
def t1 : Tab := d1 ++ t0
def d2 : Tab := [
  (187, [.isl 2 [.int .u32 1, .int .u32 0] (some 2)], .isl 1 [.int .u32 1, .int .u32 0] (some 2)),
  (222, [.agg [.bool false, .nilsl, .isl 1 [.int .u32 1, .int .u32 0] (some 2)]], .bool true),
  (187, [.isl 1 [.int .u32 1] none], .isl 1 [.int .u32 1] none),
  (188, [.isl 1 [.int .u32 1] none], .bool false),
  (367, [.int .u32 1], .int .i64 0),
  (101, [.int .u32 1], .int .i64 1),
  (222, [.agg [.bool false, .isl 1 [.int .u32 1] none, .isl 1 [.int .u32 1, .int .u32 0] (some 2)]], .bool true),
  (186, [.int .i64 5], .tup [.int .i64 2, .bool true]),
  (186, [.int .i64 9], .tup [.int .i64 1, .bool true]),
  (186, [.int .i64 2], .tup [.int .i64 0, .bool true]),
  (186, [.int .i64 1], .tup [.int .i64 0, .bool true]),
  (167, [.agg [.int .i64 5, .int .i64 0, .bool false, .nilsl, .nilsl, .str [], .isl 2 [.int .i64 9, .int .i64 2, .bool false, .nilsl, .nilsl, .str [], .isl 1 [.int .i64 2, .int .i64 0, .bool false, .nilsl, .nilsl, .str [120], .nilsl] (some 1), .int .i64 1, .int .i64 0, .bool false, .isl 1 [.int .u32 1] none, .nilsl, .str [], .nilsl] (some 2)]], .func 191 [] [.iptr [.int .i64 5, .int .i64 0, .bool false, .nilsl, .nilsl, .str [], .isl 2 [.int .i64 9, .int .i64 2, .bool false, .nilsl, .nilsl, .str [], .isl 1 [.int .i64 2, .int .i64 0, .bool false, .nilsl, .nilsl, .str [120], .nilsl] (some 1), .int .i64 1, .int .i64 0, .bool false, .isl 1 [.int .u32 1] none, .nilsl, .str [], .nilsl] (some 2)]]),
  (102, [.int .u64 1], .int .i64 1),
  (285, [.isl 1 [.str [120]] none, .int .i64 0, .int .i64 1], .tup []),
  (143, [.isl 1 [.str [120], .bool false, .nilsl, .nilsl, .bool false, .isl 1 [.int .u32 1] none, .nilsl, .bool false, .bool false] (some 1), .str [120]], .int .i64 0),
  (115, [.agg [.int .i64 1, .str [], .str [], .bool false, .nilsl, .nilsl, .int .i64 0, .int .i64 0, .int .i64 4, .int .i64 0, .int .i64 0, .bool false, .nilsl, .nilsl, .str [], .nilsl, .nilsl, .str [], .int .i64 0, .nilsl, .nilsl]], .int .i64 1)]
def t2 : Tab := d2 ++ t1
def d3 : Tab := [
  (145, [.agg [.int .i64 1, .str [], .str [], .bool false, .nilsl, .nilsl, .int .i64 0, .int .i64 0, .int .i64 4, .int .i64 0, .int .i64 0, .bool false, .nilsl, .nilsl, .str [], .nilsl, .nilsl, .str [], .int .i64 0, .nilsl, .nilsl], .int .i64 1], .int .i64 1),
  (173, [], .isl 21 [.str [114, 97, 110, 103, 101], .str [112], .int .i64 0, .func 196 [] [], .str [109, 101, 97, 110], .str [112], .int .i64 0, .func 197 [] [], .str [116, 97, 121, 108, 111, 114], .str [112], .int .i64 0, .func 198 [] [], .str [108, 105, 110, 101, 97, 114], .str [112], .int .i64 0, .func 199 [] [], .str [101, 109, 112, 116, 121], .str [107, 112], .int .i64 0, .func 200 [] [], .str [99, 117, 116], .str [120, 97], .int .i64 2, .func 201 [] [], .str [114, 105, 115, 101], .str [120, 112], .int .i64 1, .func 202 [] [], .str [102, 97, 108, 108], .str [120, 112], .int .i64 1, .func 203 [] [], .str [99, 97, 118, 101], .str [120, 112], .int .i64 2, .func 204 [] [], .str [110, 97, 114, 114, 111, 119], .str [120, 107, 110, 112], .int .i64 1, .func 205 [] [], .str [98, 114, 97, 110, 99, 104], .str [112], .int .i64 2, .func 206 [] [], .str [116, 117, 114, 110], .str [120, 97], .int .i64 1, .func 207 [] [], .str [115, 119, 97, 112], .str [120, 121, 112], .int .i64 1, .func 208 [] [], .str [122, 101, 114, 111], .str [113, 112], .int .i64 0, .func 209 [] [], .str [108, 101, 97, 100], .str [120, 97, 110, 112], .int .i64 0, .func 210 [] [], .str [115, 97, 109, 101], .str [101, 112], .int .i64 1, .func 211 [] [], .str [118, 105, 97], .str [101], .int .i64 2, .func 212 [] [], .str [115, 99, 97, 108, 101], .str [101], .int .i64 2, .func 213 [] [], .str [97, 100, 100], .str [107, 97], .int .i64 1, .func 214 [] [], .str [108, 101, 109, 109, 97], .str [108, 118, 98, 112], .int .i64 1, .func 215 [] [], .str [102, 97, 114], .str [120, 110, 101, 112], .int .i64 1, .func 216 [] []] (some 21)),
  (175, [.nilsl], .nilsl),
  (149, [.agg [.str [114, 97, 110, 103, 101], .str [112], .int .i64 0, .func 196 [] []], .int .u8 112], .bool true),
  (149, [.agg [.str [114, 97, 110, 103, 101], .str [112], .int .i64 0, .func 196 [] []], .int .u8 101], .bool false),
  (358, [.isl 1 [.str [120], .bool false, .nilsl, .nilsl, .bool false, .isl 1 [.int .u32 1] none, .nilsl, .bool false, .bool false] (some 1), .str [120]], .int .i64 0),
  (122, [.nilsl], .nilsl),
  (122, [.isl 1 [.int .u32 1] none], .isl 1 [.int .u32 1] none),
  (447, [.int .i64 4, .int .i64 0, .int .i64 128], .tup []),
  (188, [.isl 1 [.int .u32 1, .int .u32 0] (some 2)], .bool false),
  (219, [.nilsl, .isl 1 [.int .u32 1, .int .u32 0] (some 2)], .int .i64 (-1)),
  (187, [.isl 2 [.int .u32 16, .int .u32 0] (some 2)], .isl 1 [.int .u32 16, .int .u32 0] (some 2)),
  (219, [.isl 1 [.int .u32 16, .int .u32 0] (some 2), .isl 1 [.int .u32 1, .int .u32 0] (some 2)], .int .i64 1),
  (187, [.isl 1 [.int .u32 16] (some 1)], .isl 1 [.int .u32 16] (some 1)),
  (187, [.isl 2 [.int .u32 0, .int .u32 0] (some 2)], .isl 0 [] (some 2)),
  (188, [.isl 0 [] (some 2)], .bool true)]
def t3 : Tab := d3 ++ t2
def d4 : Tab := [
  (188, [.isl 1 [.int .u32 16] (some 1)], .bool false),
  (187, [.isl 1 [.int .u32 1] (some 1)], .isl 1 [.int .u32 1] (some 1)),
  (283, [.isl 1 [.int .u32 1, .int .u32 0] (some 2)], .bool true),
  (217, [.int .i64 0], .tup []),
  (222, [.agg [.bool false, .isl 1 [.int .u32 1] (some 1), .isl 1 [.int .u32 1] (some 1)]], .bool true),
  (122, [.isl 1 [.int .u32 1] (some 1)], .isl 1 [.int .u32 1] none),
  (283, [.isl 1 [.int .u32 1] (some 1)], .bool true),
  (447, [.int .i64 2, .int .i64 (-32), .int .i64 32], .tup []),
  (218, [.nilsl, .nilsl], .nilsl),
  (218, [.isl 1 [.int .u32 1, .int .u32 0] (some 2), .nilsl], .nilsl),
  (219, [.isl 1 [.int .u32 1, .int .u32 0] (some 2), .isl 1 [.int .u32 1, .int .u32 0] (some 2)], .int .i64 0),
  (429, [.agg [.bool false, .isl 1 [.int .u32 1] none, .isl 1 [.int .u32 1, .int .u32 0] (some 2), .bool false, .isl 1 [.int .u32 1] none, .isl 1 [.int .u32 1, .int .u32 0] (some 2), .bool false, .bool false, .bool false]], .agg [.bool false, .isl 1 [.int .u32 1] none, .isl 1 [.int .u32 1, .int .u32 0] (some 2), .bool false, .isl 1 [.int .u32 1] none, .isl 1 [.int .u32 1, .int .u32 0] (some 2), .bool false, .bool false, .bool false]),
  (218, [.nilsl, .isl 1 [.int .u32 1, .int .u32 0] (some 2)], .nilsl),
  (222, [.agg [.bool false, .isl 1 [.int .u32 2] (some 1), .isl 1 [.int .u32 1] (some 1)]], .bool true),
  (187, [.isl 2 [.int .u32 2, .int .u32 0] (some 2)], .isl 1 [.int .u32 2, .int .u32 0] (some 2)),
  (188, [.isl 1 [.int .u32 2, .int .u32 0] (some 2)], .bool false)]
def t4 : Tab := d4 ++ t3
def d5 : Tab := [
  (367, [.int .u32 2], .int .i64 1),
  (187, [.isl 2 [.int .u32 32, .int .u32 0] (some 2)], .isl 1 [.int .u32 32, .int .u32 0] (some 2)),
  (219, [.isl 1 [.int .u32 32, .int .u32 0] (some 2), .isl 1 [.int .u32 1, .int .u32 0] (some 2)], .int .i64 1),
  (187, [.isl 1 [.int .u32 32] (some 1)], .isl 1 [.int .u32 32] (some 1)),
  (188, [.isl 1 [.int .u32 32] (some 1)], .bool false),
  (367, [.int .u32 32], .int .i64 5),
  (187, [.isl 1 [.int .u32 2] (some 1)], .isl 1 [.int .u32 2] (some 1)),
  (222, [.agg [.bool false, .isl 1 [.int .u32 2] none, .isl 1 [.int .u32 1, .int .u32 0] (some 2)]], .bool true),
  (122, [.isl 1 [.int .u32 2] (some 1)], .isl 1 [.int .u32 2] none),
  (236, [.bool true], .tup []),
  (187, [.isl 1 [.int .u32 2] none], .isl 1 [.int .u32 2] none),
  (188, [.isl 1 [.int .u32 2] none], .bool false),
  (35, [.nilsl], .nilsl),
  (219, [.isl 1 [.int .u32 1, .int .u32 0] (some 2), .isl 1 [.int .u32 2, .int .u32 0] (some 2)], .int .i64 (-1)),
  (28, [.agg [.str [115, 113, 117, 97, 114, 101], .int .i64 1, .int .i64 5, .int .i64 0, .bool false, .nilsl, .nilsl, .str [], .isl 2 [.int .i64 9, .int .i64 2, .bool false, .nilsl, .nilsl, .str [], .isl 1 [.int .i64 2, .int .i64 0, .bool false, .nilsl, .nilsl, .str [120], .nilsl] none, .int .i64 1, .int .i64 0, .bool false, .isl 1 [.int .u32 1] none, .nilsl, .str [], .nilsl] none, .bool false, .isl 1 [.str [120], .bool false, .nilsl, .nilsl, .bool false, .isl 1 [.int .u32 1] none, .nilsl, .bool false, .bool false] none, .nilsl, .int .i64 1, .str [], .str [], .bool false, .nilsl, .nilsl, .int .i64 0, .int .i64 0, .int .i64 4, .int .i64 0, .int .i64 0, .bool false, .nilsl, .nilsl, .str [], .nilsl, .nilsl, .str [], .int .i64 0, .nilsl, .nilsl]], .agg [.str [115, 113, 117, 97, 114, 101], .int .i64 1]),
  (9, [.isl 1 [.str [115, 113, 117, 97, 114, 101], .int .i64 1, .int .i64 5, .int .i64 0, .bool false, .nilsl, .nilsl, .str [], .isl 2 [.int .i64 9, .int .i64 2, .bool false, .nilsl, .nilsl, .str [], .isl 1 [.int .i64 2, .int .i64 0, .bool false, .nilsl, .nilsl, .str [120], .nilsl] none, .int .i64 1, .int .i64 0, .bool false, .isl 1 [.int .u32 1] none, .nilsl, .str [], .nilsl] none, .bool false, .isl 1 [.str [120], .bool false, .nilsl, .nilsl, .bool false, .isl 1 [.int .u32 1] none, .nilsl, .bool false, .bool false] none, .nilsl, .int .i64 1, .str [], .str [], .bool false, .nilsl, .nilsl, .int .i64 0, .int .i64 0, .int .i64 4, .int .i64 0, .int .i64 0, .bool false, .nilsl, .nilsl, .str [], .nilsl, .nilsl, .str [], .int .i64 0, .nilsl, .nilsl] none, .str [115, 113, 117, 97, 114, 101]], .int .i64 1)]
def t5 : Tab := d5 ++ t4
def d6 : Tab := [
  (279, [.isl 1 [.int .u32 16, .int .u32 0] (some 2)], .int .i64 4),
  (279, [.isl 1 [.int .u32 2, .int .u32 0] (some 2)], .int .i64 1),
  (190, [.agg [.bool false, .nilsl, .isl 1 [.int .u32 1, .int .u32 0] (some 2)]], .int .i64 0),
  (75, [.int .u64 1], .int .i64 1),
  (279, [.isl 1 [.int .u32 16] (some 1)], .int .i64 4),
  (280, [.isl 1 [.int .u32 16] (some 1), .int .i64 4], .isl 1 [.int .u32 1] (some 1)),
  (280, [.isl 1 [.int .u32 16, .int .u32 0] (some 2), .int .i64 4], .isl 1 [.int .u32 1] (some 1)),
  (279, [.isl 1 [.int .u32 1] (some 1)], .int .i64 0),
  (281, [.isl 1 [.int .u32 1] (some 1)], .int .i64 1),
  (224, [.isl 1 [.str [120]] none, .int .i64 0, .int .i64 1, .int .i64 1], .tup []),
  (488, [.agg [.bool false, .nilsl, .nilsl], .int .i64 0], .agg [.bool false, .nilsl, .nilsl]),
  (83, [.str [120]], .int .i64 1),
  (279, [.isl 1 [.int .u32 1] none], .int .i64 0),
  (116, [.agg [.int .i64 1, .str [], .str [], .bool false, .nilsl, .nilsl, .int .i64 0, .int .i64 0, .int .i64 4, .int .i64 0, .int .i64 0, .bool false, .nilsl, .nilsl, .str [], .nilsl, .nilsl, .str [], .int .i64 0, .nilsl, .nilsl]], .int .i64 1),
  (488, [.agg [.bool false, .isl 1 [.int .u32 1] none, .nilsl], .int .i64 0], .agg [.bool false, .isl 1 [.int .u32 1] none, .nilsl]),
  (72, [.bool false, .isl 1 [.int .u32 1] none, .isl 1 [.int .u32 1] none], .agg [.bool false, .isl 1 [.int .u32 1] none, .isl 1 [.int .u32 1] none])]
def t6 : Tab := d6 ++ t5
def d7 : Tab := [
  (146, [.int .i64 1], .tup [.agg [.str [114, 97, 110, 103, 101], .str [112], .int .i64 0, .func 196 [] []], .bool true]),
  (279, [.isl 1 [.int .u32 1, .int .u32 0] (some 2)], .int .i64 0),
  (218, [.isl 1 [.int .u32 1, .int .u32 0] (some 2), .isl 1 [.int .u32 1, .int .u32 0] (some 2)], .isl 1 [.int .u32 1, .int .u32 0] (some 2)),
  (218, [.isl 1 [.int .u32 1] none, .isl 1 [.int .u32 1] none], .isl 1 [.int .u32 1, .int .u32 0] (some 2)),
  (218, [.isl 1 [.int .u32 1] none, .isl 1 [.int .u32 1, .int .u32 0] (some 2)], .isl 1 [.int .u32 1, .int .u32 0] (some 2)),
  (148, [.agg [.int .i64 0, .int .i64 0, .bool false, .nilsl, .nilsl, .str [], .nilsl]], .bool true),
  (281, [.isl 1 [.int .u32 1, .int .u32 0] (some 2)], .int .i64 1),
  (469, [.nilsl, .isl 1 [.int .u32 1, .int .u32 0] (some 2)], .isl 1 [.int .u32 1, .int .u32 0] (some 2)),
  (111, [.str [120]], .tup [.int .i64 0, .bool false]),
  (469, [.isl 1 [.int .u32 1, .int .u32 0] (some 2), .isl 1 [.int .u32 1, .int .u32 0] (some 2)], .isl 1 [.int .u32 2, .int .u32 0] (some 2)),
  (279, [.isl 1 [.int .u32 2] none], .int .i64 1),
  (417, [.agg [.bool false, .nilsl, .nilsl]], .agg [.bool false, .nilsl, .nilsl]),
  (370, [.isl 1 [.int .u32 2, .int .u32 0] (some 2), .int .i64 4], .isl 1 [.int .u32 32, .int .u32 0] (some 2)),
  (368, [.isl 1 [.int .u32 32, .int .u32 0] (some 2), .int .u32 1], .tup [.isl 1 [.int .u32 32] (some 1), .int .u32 0]),
  (190, [.agg [.bool false, .isl 1 [.int .u32 1] none, .isl 1 [.int .u32 1, .int .u32 0] (some 2)]], .int .i64 1),
  (279, [.isl 1 [.int .u32 32] (some 1)], .int .i64 5)]
def t7 : Tab := d7 ++ t6
def d8 : Tab := [
  (280, [.isl 1 [.int .u32 32] (some 1), .int .i64 4], .isl 1 [.int .u32 2] (some 1)),
  (284, [.nilsl, .isl 1 [.int .u32 1, .int .u32 0] (some 2)], .tup [.nilsl, .nilsl]),
  (370, [.isl 1 [.int .u32 1, .int .u32 0] (some 2), .int .i64 4], .isl 1 [.int .u32 16, .int .u32 0] (some 2)),
  (488, [.agg [.bool false, .isl 1 [.int .u32 2] none, .nilsl], .int .i64 0], .agg [.bool false, .isl 1 [.int .u32 2] none, .nilsl]),
  (228, [.agg [.bool false, .isl 1 [.int .u32 1] none, .nilsl, .bool false, .isl 1 [.int .u32 2] none, .nilsl, .bool false, .bool false], .int .i64 0], .agg [.bool false, .isl 1 [.int .u32 1] none, .nilsl, .bool false, .isl 1 [.int .u32 2] none, .nilsl, .bool false, .bool false]),
  (370, [.isl 1 [.int .u32 1] none, .int .i64 4], .isl 1 [.int .u32 16, .int .u32 0] (some 2)),
  (157, [.agg [.bool false, .nilsl, .nilsl]], .agg [.bool false, .nilsl, .nilsl]),
  (190, [.agg [.bool false, .isl 1 [.int .u32 2] none, .isl 1 [.int .u32 1, .int .u32 0] (some 2)]], .int .i64 1),
  (218, [.isl 1 [.int .u32 2] none, .isl 1 [.int .u32 1, .int .u32 0] (some 2)], .isl 1 [.int .u32 2, .int .u32 0] (some 2)),
  (220, [.int .u64 1], .isl 1 [.int .u32 1, .int .u32 0] (some 2)),
  (259, [.int .i64 2, .int .i64 0], .int .i64 2),
  (180, [.agg [.bool false, .nilsl, .nilsl]], .agg [.bool false, .nilsl, .nilsl]),
  (26, [.isl 1 [.str [115, 113, 117, 97, 114, 101], .int .i64 1, .int .i64 5, .int .i64 0, .bool false, .nilsl, .nilsl, .str [], .isl 2 [.int .i64 9, .int .i64 2, .bool false, .nilsl, .nilsl, .str [], .isl 1 [.int .i64 2, .int .i64 0, .bool false, .nilsl, .nilsl, .str [120], .nilsl] none, .int .i64 1, .int .i64 0, .bool false, .isl 1 [.int .u32 1] none, .nilsl, .str [], .nilsl] none, .bool false, .isl 1 [.str [120], .bool false, .nilsl, .nilsl, .bool false, .isl 1 [.int .u32 1] none, .nilsl, .bool false, .bool false] none, .nilsl, .int .i64 1, .str [], .str [], .bool false, .nilsl, .nilsl, .int .i64 0, .int .i64 0, .int .i64 4, .int .i64 0, .int .i64 0, .bool false, .nilsl, .nilsl, .str [], .nilsl, .nilsl, .str [], .int .i64 0, .nilsl, .nilsl] none, .agg [.str [115, 113, 117, 97, 114, 101], .int .i64 1]], .int .i64 0),
  (90, [.agg [.bool false, .nilsl, .nilsl]], .agg [.bool false, .nilsl, .nilsl]),
  (368, [.isl 1 [.int .u32 16, .int .u32 0] (some 2), .int .u32 1], .tup [.isl 1 [.int .u32 16] (some 1), .int .u32 0]),
  (111, [.str [115, 113, 117, 97, 114, 101]], .tup [.int .i64 0, .bool false])]
def t8 : Tab := d8 ++ t7
def d9 : Tab := [
  (220, [.int .u64 0], .isl 0 [] (some 2)),
  (417, [.agg [.bool false, .isl 1 [.int .u32 1] none, .nilsl]], .agg [.bool false, .isl 1 [.int .u32 1] none, .nilsl]),
  (180, [.agg [.bool false, .isl 1 [.int .u32 1] none, .nilsl]], .agg [.bool false, .isl 1 [.int .u32 1] none, .nilsl]),
  (50, [.agg [.bool false, .isl 1 [.int .u32 1] none, .isl 1 [.int .u32 1] none]], .agg [.bool false, .isl 1 [.int .u32 1] none, .nilsl]),
  (158, [.agg [.int .i64 0, .int .i64 0, .bool false, .nilsl, .nilsl, .str [], .nilsl]], .agg [.int .i64 0, .int .i64 0, .bool false, .nilsl, .nilsl, .str [], .nilsl]),
  (51, [.int .i64 1], .agg [.bool false, .isl 1 [.int .u32 1] none, .isl 1 [.int .u32 1] none]),
  (89, [.agg [.int .i64 2, .int .i64 0, .bool false, .nilsl, .nilsl, .str [120], .nilsl]], .agg [.int .i64 2, .int .i64 0, .bool false, .nilsl, .nilsl, .str [120], .nilsl]),
  (90, [.agg [.bool false, .isl 1 [.int .u32 1] none, .nilsl]], .agg [.bool false, .isl 1 [.int .u32 1] none, .nilsl]),
  (84, [.str [115, 113, 117, 97, 114, 101]], .bool false),
  (7, [.isl 1 [.str [115, 113, 117, 97, 114, 101], .int .i64 1, .int .i64 5, .int .i64 0, .bool false, .nilsl, .nilsl, .str [], .isl 2 [.int .i64 9, .int .i64 2, .bool false, .nilsl, .nilsl, .str [], .isl 1 [.int .i64 2, .int .i64 0, .bool false, .nilsl, .nilsl, .str [120], .nilsl] none, .int .i64 1, .int .i64 0, .bool false, .isl 1 [.int .u32 1] none, .nilsl, .str [], .nilsl] none, .bool false, .isl 1 [.str [120], .bool false, .nilsl, .nilsl, .bool false, .isl 1 [.int .u32 1] none, .nilsl, .bool false, .bool false] none, .nilsl, .int .i64 1, .str [], .str [], .bool false, .nilsl, .nilsl, .int .i64 0, .int .i64 0, .int .i64 4, .int .i64 0, .int .i64 0, .bool false, .nilsl, .nilsl, .str [], .nilsl, .nilsl, .str [], .int .i64 0, .nilsl, .nilsl] none, .agg [.str [115, 113, 117, 97, 114, 101], .int .i64 1]], .tup [.int .i64 0, .bool true]),
  (84, [.str [120]], .bool false),
  (155, [.agg [.int .i64 2, .int .i64 0, .bool false, .nilsl, .nilsl, .str [120], .nilsl]], .agg [.int .i64 2, .int .i64 0, .bool false, .nilsl, .nilsl, .str [120], .nilsl]),
  (221, [.bool false, .nilsl, .isl 1 [.int .u32 1, .int .u32 0] (some 2)], .agg [.bool false, .nilsl, .isl 1 [.int .u32 1, .int .u32 0] (some 2)]),
  (512, [.isl 1 [.int .u32 1, .int .u32 0] (some 2), .int .i64 2], .isl 1 [.int .u32 1, .int .u32 0] (some 2)),
  (362, [.agg [.bool false, .nilsl, .isl 1 [.int .u32 1, .int .u32 0] (some 2)]], .tup [.agg [.bool false, .nilsl, .nilsl], .int .i64 0]),
  (362, [.agg [.bool false, .isl 1 [.int .u32 1] none, .isl 1 [.int .u32 1, .int .u32 0] (some 2)]], .tup [.agg [.bool false, .isl 1 [.int .u32 1] none, .nilsl], .int .i64 0])]
def t9 : Tab := d9 ++ t8
def d10 : Tab := [
  (155, [.agg [.int .i64 9, .int .i64 2, .bool false, .nilsl, .nilsl, .str [], .isl 1 [.int .i64 2, .int .i64 0, .bool false, .nilsl, .nilsl, .str [120], .nilsl] (some 1)]], .agg [.int .i64 9, .int .i64 2, .bool false, .nilsl, .nilsl, .str [], .isl 1 [.int .i64 2, .int .i64 0, .bool false, .nilsl, .nilsl, .str [120], .nilsl] none]),
  (166, [.agg [.int .i64 5, .int .i64 0, .bool false, .nilsl, .nilsl, .str [], .isl 2 [.int .i64 9, .int .i64 2, .bool false, .nilsl, .nilsl, .str [], .isl 1 [.int .i64 2, .int .i64 0, .bool false, .nilsl, .nilsl, .str [120], .nilsl] (some 1), .int .i64 1, .int .i64 0, .bool false, .isl 1 [.int .u32 1] none, .nilsl, .str [], .nilsl] (some 2)]], .bool true),
  (155, [.agg [.int .i64 1, .int .i64 0, .bool false, .isl 1 [.int .u32 1] none, .nilsl, .str [], .nilsl]], .agg [.int .i64 1, .int .i64 0, .bool false, .isl 1 [.int .u32 1] none, .nilsl, .str [], .nilsl]),
  (121, [.agg [.int .i64 1, .str [], .str [], .bool false, .nilsl, .nilsl, .int .i64 0, .int .i64 0, .int .i64 4, .int .i64 0, .int .i64 0, .bool false, .nilsl, .nilsl, .str [], .nilsl, .nilsl, .str [], .int .i64 0, .nilsl, .nilsl]], .agg [.int .i64 1, .str [], .str [], .bool false, .nilsl, .nilsl, .int .i64 0, .int .i64 0, .int .i64 4, .int .i64 0, .int .i64 0, .bool false, .nilsl, .nilsl, .str [], .nilsl, .nilsl, .str [], .int .i64 0, .nilsl, .nilsl]),
  (362, [.agg [.bool false, .isl 1 [.int .u32 2] (some 1), .isl 1 [.int .u32 1] (some 1)]], .tup [.agg [.bool false, .isl 1 [.int .u32 2] none, .nilsl], .int .i64 0]),
  (362, [.agg [.bool false, .isl 1 [.int .u32 1] (some 1), .isl 1 [.int .u32 1] (some 1)]], .tup [.agg [.bool false, .isl 1 [.int .u32 1] none, .nilsl], .int .i64 0]),
  (89, [.agg [.int .i64 9, .int .i64 2, .bool false, .nilsl, .nilsl, .str [], .isl 1 [.int .i64 2, .int .i64 0, .bool false, .nilsl, .nilsl, .str [120], .nilsl] (some 1)]], .agg [.int .i64 9, .int .i64 2, .bool false, .nilsl, .nilsl, .str [], .isl 1 [.int .i64 2, .int .i64 0, .bool false, .nilsl, .nilsl, .str [120], .nilsl] none]),
  (166, [.agg [.int .i64 9, .int .i64 2, .bool false, .nilsl, .nilsl, .str [], .isl 1 [.int .i64 2, .int .i64 0, .bool false, .nilsl, .nilsl, .str [120], .nilsl] (some 1)]], .bool true),
  (89, [.agg [.int .i64 1, .int .i64 0, .bool false, .isl 1 [.int .u32 1] none, .nilsl, .str [], .nilsl]], .agg [.int .i64 1, .int .i64 0, .bool false, .isl 1 [.int .u32 1] none, .nilsl, .str [], .nilsl]),
  (221, [.bool false, .nilsl, .isl 1 [.int .u32 16, .int .u32 0] (some 2)], .agg [.bool false, .nilsl, .isl 1 [.int .u32 1, .int .u32 0] (some 2)]),
  (88, [.agg [.int .i64 1, .str [], .str [], .bool false, .nilsl, .nilsl, .int .i64 0, .int .i64 0, .int .i64 4, .int .i64 0, .int .i64 0, .bool false, .nilsl, .nilsl, .str [], .nilsl, .nilsl, .str [], .int .i64 0, .nilsl, .nilsl]], .agg [.int .i64 1, .str [], .str [], .bool false, .nilsl, .nilsl, .int .i64 0, .int .i64 0, .int .i64 4, .int .i64 0, .int .i64 0, .bool false, .nilsl, .nilsl, .str [], .nilsl, .nilsl, .str [], .int .i64 0, .nilsl, .nilsl]),
  (512, [.isl 1 [.int .u32 1] none, .int .i64 2], .isl 1 [.int .u32 1, .int .u32 0] (some 2)),
  (194, [.isl 1 [.str [120]] none], .tup []),
  (339, [.agg [.bool false, .isl 1 [.int .u32 1] none, .isl 1 [.int .u32 1, .int .u32 0] (some 2), .bool false, .isl 1 [.int .u32 2] none, .isl 1 [.int .u32 1, .int .u32 0] (some 2), .bool false, .bool false, .bool false]], .tup [.int .i64 1, .int .i64 1]),
  (339, [.agg [.bool false, .nilsl, .isl 1 [.int .u32 1, .int .u32 0] (some 2), .bool false, .isl 1 [.int .u32 1] none, .isl 1 [.int .u32 1, .int .u32 0] (some 2), .bool false, .bool false, .bool false]], .tup [.int .i64 0, .int .i64 1]),
  (512, [.nilsl, .int .i64 2], .nilsl)]
def t10 : Tab := d10 ++ t9
def d11 : Tab := [
  (341, [.agg [.bool false, .nilsl, .nilsl, .bool false, .isl 1 [.int .u32 1] none, .nilsl, .bool false, .bool false]], .agg [.bool false, .nilsl, .nilsl, .bool false, .isl 1 [.int .u32 1] none, .nilsl, .bool false, .bool false]),
  (185, [.agg [.bool false, .nilsl, .isl 1 [.int .u32 1, .int .u32 0] (some 2)], .agg [.bool false, .isl 1 [.int .u32 1] none, .isl 1 [.int .u32 1, .int .u32 0] (some 2)]], .int .i64 (-1)),
  (179, [.isl 1 [.str [120], .bool false, .nilsl, .nilsl, .bool false, .isl 1 [.int .u32 1] none, .nilsl, .bool false, .bool false] (some 1)], .isl 1 [.str [120], .bool false, .nilsl, .nilsl, .bool false, .isl 1 [.int .u32 1] none, .nilsl, .bool false, .bool false] none),
  (68, [.agg [.int .i64 1, .str [], .str [], .bool false, .nilsl, .nilsl, .int .i64 0, .int .i64 0, .int .i64 4, .int .i64 0, .int .i64 0, .bool false, .nilsl, .nilsl, .str [], .nilsl, .nilsl, .str [], .int .i64 0, .nilsl, .nilsl], .nilsl], .tup [.agg [.int .i64 1, .str [], .str [], .bool false, .nilsl, .nilsl, .int .i64 0, .int .i64 0, .int .i64 4, .int .i64 0, .int .i64 0, .bool false, .nilsl, .nilsl, .str [], .nilsl, .nilsl, .str [], .int .i64 0, .nilsl, .nilsl], .bool true]),
  (66, [.str [120]], .bool true),
  (284, [.isl 1 [.int .u32 16, .int .u32 0] (some 2), .isl 1 [.int .u32 1, .int .u32 0] (some 2)], .tup [.isl 1 [.int .u32 16] (some 1), .isl 0 [] (some 2)]),
  (221, [.bool false, .isl 1 [.int .u32 1, .int .u32 0] (some 2), .isl 1 [.int .u32 1, .int .u32 0] (some 2)], .agg [.bool false, .isl 1 [.int .u32 1, .int .u32 0] (some 2), .isl 1 [.int .u32 1, .int .u32 0] (some 2)]),
  (284, [.isl 1 [.int .u32 32, .int .u32 0] (some 2), .isl 1 [.int .u32 1, .int .u32 0] (some 2)], .tup [.isl 1 [.int .u32 32] (some 1), .isl 0 [] (some 2)]),
  (185, [.agg [.bool false, .isl 1 [.int .u32 1] none, .isl 1 [.int .u32 1, .int .u32 0] (some 2)], .agg [.bool false, .isl 1 [.int .u32 1] none, .isl 1 [.int .u32 1, .int .u32 0] (some 2)]], .int .i64 0),
  (32, [], .agg [.int .i64 5, .int .i64 0, .bool false, .nilsl, .nilsl, .str [], .isl 2 [.int .i64 9, .int .i64 2, .bool false, .nilsl, .nilsl, .str [], .isl 1 [.int .i64 2, .int .i64 0, .bool false, .nilsl, .nilsl, .str [120], .nilsl] (some 1), .int .i64 1, .int .i64 0, .bool false, .isl 1 [.int .u32 1] none, .nilsl, .str [], .nilsl] (some 2), .bool false, .isl 1 [.str [120], .bool false, .nilsl, .nilsl, .bool false, .isl 1 [.int .u32 1] none, .nilsl, .bool false, .bool false] (some 1), .nilsl]),
  (83, [.str [115, 113, 117, 97, 114, 101]], .int .i64 6),
  (485, [.agg [.bool false, .isl 1 [.int .u32 1] none, .isl 1 [.int .u32 1, .int .u32 0] (some 2), .bool false, .isl 1 [.int .u32 1] none, .isl 1 [.int .u32 1, .int .u32 0] (some 2), .bool false, .bool false, .bool false]], .agg [.bool false, .isl 1 [.int .u32 1] none, .nilsl, .bool false, .isl 1 [.int .u32 1] none, .nilsl, .bool false, .bool false]),
  (485, [.agg [.bool false, .isl 1 [.int .u32 1] (some 1), .isl 1 [.int .u32 1] (some 1), .bool false, .isl 1 [.int .u32 1] (some 1), .isl 1 [.int .u32 1] (some 1), .bool false, .bool false, .bool false]], .agg [.bool false, .isl 1 [.int .u32 1] none, .nilsl, .bool false, .isl 1 [.int .u32 1] none, .nilsl, .bool false, .bool false]),
  (189, [.agg [.bool false, .nilsl, .nilsl]], .tup [.agg [.bool false, .nilsl, .isl 1 [.int .u32 1, .int .u32 0] (some 2)], .bool true]),
  (47, [.str [120]], .bool true),
  (221, [.bool false, .isl 1 [.int .u32 1] none, .isl 1 [.int .u32 1, .int .u32 0] (some 2)], .agg [.bool false, .isl 1 [.int .u32 1] none, .isl 1 [.int .u32 1, .int .u32 0] (some 2)])]
def t11 : Tab := d11 ++ t10
def d12 : Tab := [
  (272, [.isl 1 [.str [120], .bool false, .nilsl, .nilsl, .bool false, .isl 1 [.int .u32 1] none, .nilsl, .bool false, .bool false] (some 1), .str [120]], .tup [.agg [.bool false, .nilsl, .nilsl, .bool false, .isl 1 [.int .u32 1] none, .nilsl, .bool false, .bool false], .bool true]),
  (460, [.agg [.bool false, .isl 1 [.int .u32 1] none, .isl 1 [.int .u32 1, .int .u32 0] (some 2)], .int .i64 2], .agg [.bool false, .isl 1 [.int .u32 1, .int .u32 0] (some 2), .isl 1 [.int .u32 1, .int .u32 0] (some 2)]),
  (221, [.bool false, .isl 1 [.int .u32 2] none, .isl 1 [.int .u32 1, .int .u32 0] (some 2)], .agg [.bool false, .isl 1 [.int .u32 2] none, .isl 1 [.int .u32 1, .int .u32 0] (some 2)]),
  (184, [.agg [.bool false, .nilsl, .nilsl]], .agg [.bool false, .nilsl, .isl 1 [.int .u32 1, .int .u32 0] (some 2)]),
  (155, [.agg [.int .i64 5, .int .i64 0, .bool false, .nilsl, .nilsl, .str [], .isl 2 [.int .i64 9, .int .i64 2, .bool false, .nilsl, .nilsl, .str [], .isl 1 [.int .i64 2, .int .i64 0, .bool false, .nilsl, .nilsl, .str [120], .nilsl] (some 1), .int .i64 1, .int .i64 0, .bool false, .isl 1 [.int .u32 1] none, .nilsl, .str [], .nilsl] (some 2)]], .agg [.int .i64 5, .int .i64 0, .bool false, .nilsl, .nilsl, .str [], .isl 2 [.int .i64 9, .int .i64 2, .bool false, .nilsl, .nilsl, .str [], .isl 1 [.int .i64 2, .int .i64 0, .bool false, .nilsl, .nilsl, .str [120], .nilsl] none, .int .i64 1, .int .i64 0, .bool false, .isl 1 [.int .u32 1] none, .nilsl, .str [], .nilsl] none]),
  (221, [.bool false, .isl 1 [.int .u32 2, .int .u32 0] (some 2), .isl 1 [.int .u32 1, .int .u32 0] (some 2)], .agg [.bool false, .isl 1 [.int .u32 2, .int .u32 0] (some 2), .isl 1 [.int .u32 1, .int .u32 0] (some 2)]),
  (89, [.agg [.int .i64 5, .int .i64 0, .bool false, .nilsl, .nilsl, .str [], .isl 2 [.int .i64 9, .int .i64 2, .bool false, .nilsl, .nilsl, .str [], .isl 1 [.int .i64 2, .int .i64 0, .bool false, .nilsl, .nilsl, .str [120], .nilsl] (some 1), .int .i64 1, .int .i64 0, .bool false, .isl 1 [.int .u32 1] none, .nilsl, .str [], .nilsl] (some 2)]], .agg [.int .i64 5, .int .i64 0, .bool false, .nilsl, .nilsl, .str [], .isl 2 [.int .i64 9, .int .i64 2, .bool false, .nilsl, .nilsl, .str [], .isl 1 [.int .i64 2, .int .i64 0, .bool false, .nilsl, .nilsl, .str [120], .nilsl] none, .int .i64 1, .int .i64 0, .bool false, .isl 1 [.int .u32 1] none, .nilsl, .str [], .nilsl] none]),
  (460, [.agg [.bool false, .nilsl, .isl 1 [.int .u32 1, .int .u32 0] (some 2)], .int .i64 2], .agg [.bool false, .nilsl, .isl 1 [.int .u32 1, .int .u32 0] (some 2)]),
  (69, [.agg [.int .i64 5, .int .i64 0, .bool false, .nilsl, .nilsl, .str [], .isl 2 [.int .i64 9, .int .i64 2, .bool false, .nilsl, .nilsl, .str [], .isl 1 [.int .i64 2, .int .i64 0, .bool false, .nilsl, .nilsl, .str [120], .nilsl] (some 1), .int .i64 1, .int .i64 0, .bool false, .isl 1 [.int .u32 1] none, .nilsl, .str [], .nilsl] (some 2), .bool false, .isl 1 [.str [120], .bool false, .nilsl, .nilsl, .bool false, .isl 1 [.int .u32 1] none, .nilsl, .bool false, .bool false] (some 1), .nilsl]], .agg [.int .i64 5, .int .i64 0, .bool false, .nilsl, .nilsl, .str [], .isl 2 [.int .i64 9, .int .i64 2, .bool false, .nilsl, .nilsl, .str [], .isl 1 [.int .i64 2, .int .i64 0, .bool false, .nilsl, .nilsl, .str [120], .nilsl] none, .int .i64 1, .int .i64 0, .bool false, .isl 1 [.int .u32 1] none, .nilsl, .str [], .nilsl] none, .bool false, .isl 1 [.str [120], .bool false, .nilsl, .nilsl, .bool false, .isl 1 [.int .u32 1] none, .nilsl, .bool false, .bool false] none, .nilsl]),
  (174, [.agg [.bool false, .nilsl, .nilsl]], .tup [.int .i64 0, .int .i64 0]),
  (176, [.agg [.bool false, .nilsl, .nilsl]], .bool true),
  (147, [.agg [.bool false, .nilsl, .nilsl]], .bool true),
  (185, [.agg [.bool false, .isl 1 [.int .u32 1] none, .isl 1 [.int .u32 1, .int .u32 0] (some 2)], .agg [.bool false, .isl 1 [.int .u32 2] none, .isl 1 [.int .u32 1, .int .u32 0] (some 2)]], .int .i64 (-1)),
  (154, [.agg [.int .i64 5, .int .i64 0, .bool false, .nilsl, .nilsl, .str [], .isl 2 [.int .i64 9, .int .i64 2, .bool false, .nilsl, .nilsl, .str [], .isl 1 [.int .i64 2, .int .i64 0, .bool false, .nilsl, .nilsl, .str [120], .nilsl] (some 1), .int .i64 1, .int .i64 0, .bool false, .isl 1 [.int .u32 1] none, .nilsl, .str [], .nilsl] (some 2), .bool false, .isl 1 [.str [120], .bool false, .nilsl, .nilsl, .bool false, .isl 1 [.int .u32 1] none, .nilsl, .bool false, .bool false] (some 1), .nilsl]], .agg [.int .i64 5, .int .i64 0, .bool false, .nilsl, .nilsl, .str [], .isl 2 [.int .i64 9, .int .i64 2, .bool false, .nilsl, .nilsl, .str [], .isl 1 [.int .i64 2, .int .i64 0, .bool false, .nilsl, .nilsl, .str [120], .nilsl] none, .int .i64 1, .int .i64 0, .bool false, .isl 1 [.int .u32 1] none, .nilsl, .str [], .nilsl] none, .bool false, .isl 1 [.str [120], .bool false, .nilsl, .nilsl, .bool false, .isl 1 [.int .u32 1] none, .nilsl, .bool false, .bool false] none, .nilsl]),
  (508, [.agg [.bool false, .nilsl, .isl 1 [.int .u32 1, .int .u32 0] (some 2)], .int .i64 4, .bool false], .agg [.bool false, .nilsl, .isl 1 [.int .u32 1, .int .u32 0] (some 2)]),
  (485, [.agg [.bool false, .isl 1 [.int .u32 1] (some 1), .isl 1 [.int .u32 1] (some 1), .bool false, .isl 1 [.int .u32 2] (some 1), .isl 1 [.int .u32 1] (some 1), .bool false, .bool false, .bool false]], .agg [.bool false, .isl 1 [.int .u32 1] none, .nilsl, .bool false, .isl 1 [.int .u32 2] none, .nilsl, .bool false, .bool false])]
def t12 : Tab := d12 ++ t11
def d13 : Tab := [
  (66, [.str [115, 113, 117, 97, 114, 101]], .bool true),
  (166, [.agg [.int .i64 2, .int .i64 0, .bool false, .nilsl, .nilsl, .str [120], .nilsl]], .bool true),
  (139, [.agg [.int .i64 2, .int .i64 0, .bool false, .nilsl, .nilsl, .str [120], .nilsl], .int .i64 3, .int .i64 2], .int .i64 3),
  (409, [.agg [.bool false, .nilsl, .isl 1 [.int .u32 1, .int .u32 0] (some 2)], .agg [.bool false, .isl 1 [.int .u32 1] none, .isl 1 [.int .u32 1, .int .u32 0] (some 2)]], .agg [.bool false, .isl 1 [.int .u32 1, .int .u32 0] (some 2), .isl 1 [.int .u32 1, .int .u32 0] (some 2)]),
  (485, [.agg [.bool false, .nilsl, .isl 1 [.int .u32 1, .int .u32 0] (some 2), .bool false, .isl 1 [.int .u32 1] (some 1), .isl 1 [.int .u32 1] (some 1), .bool false, .bool false, .bool false]], .agg [.bool false, .nilsl, .nilsl, .bool false, .isl 1 [.int .u32 1] none, .nilsl, .bool false, .bool false]),
  (47, [.str [115, 113, 117, 97, 114, 101]], .bool true),
  (150, [.agg [.str [114, 97, 110, 103, 101], .str [112], .int .i64 0, .func 196 [] []], .agg [.int .i64 1, .str [], .str [], .bool false, .nilsl, .nilsl, .int .i64 0, .int .i64 0, .int .i64 4, .int .i64 0, .int .i64 0, .bool false, .nilsl, .nilsl, .str [], .nilsl, .nilsl, .str [], .int .i64 0, .nilsl, .nilsl]], .bool true),
  (221, [.bool false, .isl 1 [.int .u32 16] (some 1), .isl 1 [.int .u32 16, .int .u32 0] (some 2)], .agg [.bool false, .isl 1 [.int .u32 1] (some 1), .isl 1 [.int .u32 1] (some 1)]),
  (409, [.agg [.bool false, .isl 1 [.int .u32 1] none, .isl 1 [.int .u32 1, .int .u32 0] (some 2)], .agg [.bool false, .isl 1 [.int .u32 1] none, .isl 1 [.int .u32 1, .int .u32 0] (some 2)]], .agg [.bool false, .isl 1 [.int .u32 2, .int .u32 0] (some 2), .isl 1 [.int .u32 1, .int .u32 0] (some 2)]),
  (189, [.agg [.bool false, .isl 1 [.int .u32 1] none, .nilsl]], .tup [.agg [.bool false, .isl 1 [.int .u32 1] none, .isl 1 [.int .u32 1, .int .u32 0] (some 2)], .bool true]),
  (221, [.bool false, .isl 1 [.int .u32 32] (some 1), .isl 1 [.int .u32 16, .int .u32 0] (some 2)], .agg [.bool false, .isl 1 [.int .u32 2] (some 1), .isl 1 [.int .u32 1] (some 1)]),
  (189, [.agg [.bool false, .isl 1 [.int .u32 2] none, .nilsl]], .tup [.agg [.bool false, .isl 1 [.int .u32 2] none, .isl 1 [.int .u32 1, .int .u32 0] (some 2)], .bool true]),
  (184, [.agg [.bool false, .isl 1 [.int .u32 1] none, .nilsl]], .agg [.bool false, .isl 1 [.int .u32 1] none, .isl 1 [.int .u32 1, .int .u32 0] (some 2)]),
  (49, [.agg [.str [115, 113, 117, 97, 114, 101], .int .i64 1, .int .i64 5, .int .i64 0, .bool false, .nilsl, .nilsl, .str [], .isl 2 [.int .i64 9, .int .i64 2, .bool false, .nilsl, .nilsl, .str [], .isl 1 [.int .i64 2, .int .i64 0, .bool false, .nilsl, .nilsl, .str [120], .nilsl] (some 1), .int .i64 1, .int .i64 0, .bool false, .isl 1 [.int .u32 1] none, .nilsl, .str [], .nilsl] (some 2), .bool false, .isl 1 [.str [120], .bool false, .nilsl, .nilsl, .bool false, .isl 1 [.int .u32 1] none, .nilsl, .bool false, .bool false] (some 1), .nilsl, .int .i64 1, .str [], .str [], .bool false, .nilsl, .nilsl, .int .i64 0, .int .i64 0, .int .i64 4, .int .i64 0, .int .i64 0, .bool false, .nilsl, .nilsl, .str [], .nilsl, .nilsl, .str [], .int .i64 0, .nilsl, .nilsl]], .agg [.str [115, 113, 117, 97, 114, 101], .int .i64 1, .int .i64 5, .int .i64 0, .bool false, .nilsl, .nilsl, .str [], .isl 2 [.int .i64 9, .int .i64 2, .bool false, .nilsl, .nilsl, .str [], .isl 1 [.int .i64 2, .int .i64 0, .bool false, .nilsl, .nilsl, .str [120], .nilsl] none, .int .i64 1, .int .i64 0, .bool false, .isl 1 [.int .u32 1] none, .nilsl, .str [], .nilsl] none, .bool false, .isl 1 [.str [120], .bool false, .nilsl, .nilsl, .bool false, .isl 1 [.int .u32 1] none, .nilsl, .bool false, .bool false] none, .nilsl, .int .i64 1, .str [], .str [], .bool false, .nilsl, .nilsl, .int .i64 0, .int .i64 0, .int .i64 4, .int .i64 0, .int .i64 0, .bool false, .nilsl, .nilsl, .str [], .nilsl, .nilsl, .str [], .int .i64 0, .nilsl, .nilsl]),
  (139, [.agg [.int .i64 9, .int .i64 2, .bool false, .nilsl, .nilsl, .str [], .isl 1 [.int .i64 2, .int .i64 0, .bool false, .nilsl, .nilsl, .str [120], .nilsl] (some 1)], .int .i64 2, .int .i64 1], .int .i64 3),
  (184, [.agg [.bool false, .isl 1 [.int .u32 2] none, .nilsl]], .agg [.bool false, .isl 1 [.int .u32 2] none, .isl 1 [.int .u32 1, .int .u32 0] (some 2)])]
def t13 : Tab := d13 ++ t12
def d14 : Tab := [
  (449, [.agg [.bool false, .nilsl, .isl 1 [.int .u32 1, .int .u32 0] (some 2), .bool false, .isl 1 [.int .u32 1] none, .isl 1 [.int .u32 1, .int .u32 0] (some 2), .bool false, .bool false, .bool false], .int .i64 2], .agg [.bool false, .nilsl, .isl 1 [.int .u32 1, .int .u32 0] (some 2), .bool false, .isl 1 [.int .u32 1, .int .u32 0] (some 2), .isl 1 [.int .u32 1, .int .u32 0] (some 2), .bool false, .bool false, .bool false]),
  (166, [.agg [.int .i64 1, .int .i64 0, .bool false, .isl 1 [.int .u32 1] none, .nilsl, .str [], .nilsl]], .bool true),
  (139, [.agg [.int .i64 1, .int .i64 0, .bool false, .isl 1 [.int .u32 1] none, .nilsl, .str [], .nilsl], .int .i64 2, .int .i64 3], .int .i64 4),
  (117, [.agg [.int .i64 1, .str [], .str [], .bool false, .nilsl, .nilsl, .int .i64 0, .int .i64 0, .int .i64 4, .int .i64 0, .int .i64 0, .bool false, .nilsl, .nilsl, .str [], .nilsl, .nilsl, .str [], .int .i64 0, .nilsl, .nilsl]], .bool true),
  (53, [.agg [.int .i64 1, .str [], .str [], .bool false, .nilsl, .nilsl, .int .i64 0, .int .i64 0, .int .i64 4, .int .i64 0, .int .i64 0, .bool false, .nilsl, .nilsl, .str [], .nilsl, .nilsl, .str [], .int .i64 0, .nilsl, .nilsl], .func 117 [] []], .bool true),
  (165, [.agg [.bool false, .isl 1 [.int .u32 1] none, .nilsl, .bool false, .isl 1 [.int .u32 1] none, .nilsl, .bool false, .bool false]], .agg [.bool false, .isl 1 [.int .u32 1] none, .isl 1 [.int .u32 1, .int .u32 0] (some 2), .bool false, .isl 1 [.int .u32 1] none, .isl 1 [.int .u32 1, .int .u32 0] (some 2), .bool false, .bool false, .bool false]),
  (477, [.agg [.bool false, .nilsl, .isl 1 [.int .u32 1, .int .u32 0] (some 2), .bool false, .isl 1 [.int .u32 1] none, .isl 1 [.int .u32 1, .int .u32 0] (some 2), .bool false, .bool false, .bool false], .agg [.bool false, .isl 1 [.int .u32 1] none, .isl 1 [.int .u32 1, .int .u32 0] (some 2), .bool false, .isl 1 [.int .u32 1] none, .isl 1 [.int .u32 1, .int .u32 0] (some 2), .bool false, .bool false, .bool false]], .agg [.bool false, .isl 1 [.int .u32 1, .int .u32 0] (some 2), .isl 1 [.int .u32 1, .int .u32 0] (some 2), .bool false, .isl 1 [.int .u32 2, .int .u32 0] (some 2), .isl 1 [.int .u32 1, .int .u32 0] (some 2), .bool false, .bool false, .bool false]),
  (508, [.agg [.bool false, .isl 1 [.int .u32 1, .int .u32 0] (some 2), .isl 1 [.int .u32 1, .int .u32 0] (some 2)], .int .i64 4, .bool false], .agg [.bool false, .isl 1 [.int .u32 1] (some 1), .isl 1 [.int .u32 1] (some 1)]),
  (165, [.agg [.bool false, .nilsl, .nilsl, .bool false, .isl 1 [.int .u32 1] none, .nilsl, .bool false, .bool false]], .agg [.bool false, .nilsl, .isl 1 [.int .u32 1, .int .u32 0] (some 2), .bool false, .isl 1 [.int .u32 1] none, .isl 1 [.int .u32 1, .int .u32 0] (some 2), .bool false, .bool false, .bool false]),
  (138, [.agg [.bool false, .nilsl, .nilsl, .bool false, .isl 1 [.int .u32 1] none, .nilsl, .bool false, .bool false]], .tup [.bool false, .int .i64 0]),
  (508, [.agg [.bool false, .isl 1 [.int .u32 1, .int .u32 0] (some 2), .isl 1 [.int .u32 1, .int .u32 0] (some 2)], .int .i64 4, .bool true], .agg [.bool false, .isl 1 [.int .u32 1] (some 1), .isl 1 [.int .u32 1] (some 1)]),
  (508, [.agg [.bool false, .isl 1 [.int .u32 1] none, .isl 1 [.int .u32 1, .int .u32 0] (some 2)], .int .i64 4, .bool false], .agg [.bool false, .isl 1 [.int .u32 1] (some 1), .isl 1 [.int .u32 1] (some 1)]),
  (86, [.agg [.int .i64 1, .str [], .str [], .bool false, .nilsl, .nilsl, .int .i64 0, .int .i64 0, .int .i64 4, .int .i64 0, .int .i64 0, .bool false, .nilsl, .nilsl, .str [], .nilsl, .nilsl, .str [], .int .i64 0, .nilsl, .nilsl]], .int .i64 0),
  (508, [.agg [.bool false, .isl 1 [.int .u32 1] none, .isl 1 [.int .u32 1, .int .u32 0] (some 2)], .int .i64 4, .bool true], .agg [.bool false, .isl 1 [.int .u32 1] (some 1), .isl 1 [.int .u32 1] (some 1)]),
  (451, [.agg [.bool false, .isl 1 [.int .u32 1] none, .isl 1 [.int .u32 1, .int .u32 0] (some 2), .bool false, .isl 1 [.int .u32 1] none, .isl 1 [.int .u32 1, .int .u32 0] (some 2), .bool false, .bool false, .bool false], .int .i64 4], .agg [.bool false, .isl 1 [.int .u32 1] (some 1), .isl 1 [.int .u32 1] (some 1), .bool false, .isl 1 [.int .u32 1] (some 1), .isl 1 [.int .u32 1] (some 1), .bool false, .bool false, .bool false]),
  (508, [.agg [.bool false, .isl 1 [.int .u32 2, .int .u32 0] (some 2), .isl 1 [.int .u32 1, .int .u32 0] (some 2)], .int .i64 4, .bool true], .agg [.bool false, .isl 1 [.int .u32 2] (some 1), .isl 1 [.int .u32 1] (some 1)])]
def t14 : Tab := d14 ++ t13
def d15 : Tab := [
  (428, [.agg [.bool false, .isl 1 [.int .u32 1] none, .nilsl, .bool false, .isl 1 [.int .u32 1] none, .nilsl, .bool false, .bool false], .func 429 [] []], .tup [.agg [.bool false, .isl 1 [.int .u32 1] none, .nilsl, .bool false, .isl 1 [.int .u32 1] none, .nilsl, .bool false, .bool false], .int .i64 0]),
  (365, [.agg [.bool false, .isl 1 [.int .u32 1] none, .nilsl, .bool false, .isl 1 [.int .u32 1] none, .nilsl, .bool false, .bool false]], .tup [.agg [.bool false, .isl 1 [.int .u32 1] none, .nilsl, .bool false, .isl 1 [.int .u32 1] none, .nilsl, .bool false, .bool false], .int .i64 0]),
  (278, [.agg [.bool false, .isl 1 [.int .u32 1] none, .nilsl], .agg [.bool false, .isl 1 [.int .u32 1] none, .nilsl]], .tup [.agg [.bool false, .isl 1 [.int .u32 1] none, .nilsl, .bool false, .isl 1 [.int .u32 1] none, .nilsl, .bool false, .bool false], .int .i64 0]),
  (383, [.agg [.bool false, .isl 1 [.int .u32 1] none, .nilsl]], .tup [.agg [.bool false, .isl 1 [.int .u32 1] none, .nilsl, .bool false, .isl 1 [.int .u32 1] none, .nilsl, .bool false, .bool false], .int .i64 0]),
  (451, [.agg [.bool false, .nilsl, .isl 1 [.int .u32 1, .int .u32 0] (some 2), .bool false, .isl 1 [.int .u32 1, .int .u32 0] (some 2), .isl 1 [.int .u32 1, .int .u32 0] (some 2), .bool false, .bool false, .bool false], .int .i64 4], .agg [.bool false, .nilsl, .isl 1 [.int .u32 1, .int .u32 0] (some 2), .bool false, .isl 1 [.int .u32 1] (some 1), .isl 1 [.int .u32 1] (some 1), .bool false, .bool false, .bool false]),
  (165, [.agg [.bool false, .isl 1 [.int .u32 1] none, .nilsl, .bool false, .isl 1 [.int .u32 2] none, .nilsl, .bool false, .bool false]], .agg [.bool false, .isl 1 [.int .u32 1] none, .isl 1 [.int .u32 1, .int .u32 0] (some 2), .bool false, .isl 1 [.int .u32 2] none, .isl 1 [.int .u32 1, .int .u32 0] (some 2), .bool false, .bool false, .bool false]),
  (112, [.isl 1 [.str [120], .bool false, .nilsl, .nilsl, .bool false, .isl 1 [.int .u32 1] none, .nilsl, .bool false, .bool false] (some 1)], .bool true),
  (451, [.agg [.bool false, .nilsl, .isl 1 [.int .u32 1, .int .u32 0] (some 2), .bool false, .isl 1 [.int .u32 1] none, .isl 1 [.int .u32 1, .int .u32 0] (some 2), .bool false, .bool false, .bool false], .int .i64 4], .agg [.bool false, .nilsl, .isl 1 [.int .u32 1, .int .u32 0] (some 2), .bool false, .isl 1 [.int .u32 1] (some 1), .isl 1 [.int .u32 1] (some 1), .bool false, .bool false, .bool false]),
  (260, [.agg [.bool false, .isl 1 [.int .u32 1] none, .nilsl, .bool false, .isl 1 [.int .u32 2] none, .nilsl, .bool false, .bool false]], .tup [.int .i64 2, .int .i64 0]),
  (139, [.agg [.int .i64 5, .int .i64 0, .bool false, .nilsl, .nilsl, .str [], .isl 2 [.int .i64 9, .int .i64 2, .bool false, .nilsl, .nilsl, .str [], .isl 1 [.int .i64 2, .int .i64 0, .bool false, .nilsl, .nilsl, .str [120], .nilsl] (some 1), .int .i64 1, .int .i64 0, .bool false, .isl 1 [.int .u32 1] none, .nilsl, .str [], .nilsl] (some 2)], .int .i64 1, .int .i64 0], .int .i64 4),
  (113, [.agg [.int .i64 5, .int .i64 0, .bool false, .nilsl, .nilsl, .str [], .isl 2 [.int .i64 9, .int .i64 2, .bool false, .nilsl, .nilsl, .str [], .isl 1 [.int .i64 2, .int .i64 0, .bool false, .nilsl, .nilsl, .str [120], .nilsl] (some 1), .int .i64 1, .int .i64 0, .bool false, .isl 1 [.int .u32 1] none, .nilsl, .str [], .nilsl] (some 2)]], .bool true),
  (451, [.agg [.bool false, .isl 1 [.int .u32 1, .int .u32 0] (some 2), .isl 1 [.int .u32 1, .int .u32 0] (some 2), .bool false, .isl 1 [.int .u32 2, .int .u32 0] (some 2), .isl 1 [.int .u32 1, .int .u32 0] (some 2), .bool false, .bool false, .bool false], .int .i64 4], .agg [.bool false, .isl 1 [.int .u32 1] (some 1), .isl 1 [.int .u32 1] (some 1), .bool false, .isl 1 [.int .u32 2] (some 1), .isl 1 [.int .u32 1] (some 1), .bool false, .bool false, .bool false]),
  (140, [.agg [.int .i64 5, .int .i64 0, .bool false, .nilsl, .nilsl, .str [], .isl 2 [.int .i64 9, .int .i64 2, .bool false, .nilsl, .nilsl, .str [], .isl 1 [.int .i64 2, .int .i64 0, .bool false, .nilsl, .nilsl, .str [120], .nilsl] (some 1), .int .i64 1, .int .i64 0, .bool false, .isl 1 [.int .u32 1] none, .nilsl, .str [], .nilsl] (some 2)]], .tup [.isl 1 [.str [120]] none, .int .i64 0]),
  (114, [.agg [.int .i64 5, .int .i64 0, .bool false, .nilsl, .nilsl, .str [], .isl 2 [.int .i64 9, .int .i64 2, .bool false, .nilsl, .nilsl, .str [], .isl 1 [.int .i64 2, .int .i64 0, .bool false, .nilsl, .nilsl, .str [120], .nilsl] (some 1), .int .i64 1, .int .i64 0, .bool false, .isl 1 [.int .u32 1] none, .nilsl, .str [], .nilsl] (some 2)], .isl 1 [.str [120], .bool false, .nilsl, .nilsl, .bool false, .isl 1 [.int .u32 1] none, .nilsl, .bool false, .bool false] (some 1)], .bool true),
  (392, [.agg [.bool false, .isl 1 [.int .u32 1] none, .nilsl, .bool false, .isl 1 [.int .u32 1] none, .nilsl, .bool false, .bool false], .int .i64 4], .tup [.agg [.bool false, .isl 1 [.int .u32 1] none, .nilsl, .bool false, .isl 1 [.int .u32 1] none, .nilsl, .bool false, .bool false], .int .i64 0]),
  (305, [.agg [.int .i64 5, .int .i64 0, .bool false, .nilsl, .nilsl, .str [], .isl 2 [.int .i64 9, .int .i64 2, .bool false, .nilsl, .nilsl, .str [], .isl 1 [.int .i64 2, .int .i64 0, .bool false, .nilsl, .nilsl, .str [120], .nilsl] (some 1), .int .i64 1, .int .i64 0, .bool false, .isl 1 [.int .u32 1] none, .nilsl, .str [], .nilsl] (some 2)], .isl 1 [.str [120], .bool false, .nilsl, .nilsl, .bool false, .isl 1 [.int .u32 1] none, .nilsl, .bool false, .bool false] (some 1), .int .i64 4], .int .i64 0)]
def t15 : Tab := d15 ++ t14
def d16 : Tab := [
  (85, [.agg [.int .i64 5, .int .i64 0, .bool false, .nilsl, .nilsl, .str [], .isl 2 [.int .i64 9, .int .i64 2, .bool false, .nilsl, .nilsl, .str [], .isl 1 [.int .i64 2, .int .i64 0, .bool false, .nilsl, .nilsl, .str [120], .nilsl] (some 1), .int .i64 1, .int .i64 0, .bool false, .isl 1 [.int .u32 1] none, .nilsl, .str [], .nilsl] (some 2), .bool false, .isl 1 [.str [120], .bool false, .nilsl, .nilsl, .bool false, .isl 1 [.int .u32 1] none, .nilsl, .bool false, .bool false] (some 1), .nilsl]], .bool true),
  (153, [.agg [.int .i64 5, .int .i64 0, .bool false, .nilsl, .nilsl, .str [], .isl 2 [.int .i64 9, .int .i64 2, .bool false, .nilsl, .nilsl, .str [], .isl 1 [.int .i64 2, .int .i64 0, .bool false, .nilsl, .nilsl, .str [120], .nilsl] (some 1), .int .i64 1, .int .i64 0, .bool false, .isl 1 [.int .u32 1] none, .nilsl, .str [], .nilsl] (some 2), .bool false, .isl 1 [.str [120], .bool false, .nilsl, .nilsl, .bool false, .isl 1 [.int .u32 1] none, .nilsl, .bool false, .bool false] (some 1), .nilsl], .agg [.int .i64 5, .int .i64 0, .bool false, .nilsl, .nilsl, .str [], .isl 2 [.int .i64 9, .int .i64 2, .bool false, .nilsl, .nilsl, .str [], .isl 1 [.int .i64 2, .int .i64 0, .bool false, .nilsl, .nilsl, .str [120], .nilsl] (some 1), .int .i64 1, .int .i64 0, .bool false, .isl 1 [.int .u32 1] none, .nilsl, .str [], .nilsl] (some 2)]], .int .i64 0),
  (434, [.agg [.bool false, .isl 1 [.int .u32 1] none, .nilsl], .int .i64 4], .tup [.agg [.bool false, .isl 1 [.int .u32 1] none, .nilsl, .bool false, .isl 1 [.int .u32 1] none, .nilsl, .bool false, .bool false], .int .i64 0]),
  (377, [.agg [.int .i64 1, .int .i64 0, .bool false, .isl 1 [.int .u32 1] none, .nilsl, .str [], .nilsl], .isl 1 [.str [120], .bool false, .nilsl, .nilsl, .bool false, .isl 1 [.int .u32 1] none, .nilsl, .bool false, .bool false] (some 1), .int .i64 4], .tup [.agg [.bool false, .isl 1 [.int .u32 1] none, .nilsl, .bool false, .isl 1 [.int .u32 1] none, .nilsl, .bool false, .bool false], .int .i64 0]),
  (392, [.agg [.bool false, .nilsl, .nilsl, .bool false, .isl 1 [.int .u32 1] none, .nilsl, .bool false, .bool false], .int .i64 4], .tup [.agg [.bool false, .nilsl, .nilsl, .bool false, .isl 1 [.int .u32 1] none, .nilsl, .bool false, .bool false], .int .i64 0]),
  (299, [.agg [.int .i64 1, .int .i64 0, .bool false, .isl 1 [.int .u32 1] none, .nilsl, .str [], .nilsl], .isl 1 [.str [120], .bool false, .nilsl, .nilsl, .bool false, .isl 1 [.int .u32 1] none, .nilsl, .bool false, .bool false] (some 1), .int .i64 4], .tup [.agg [.bool false, .isl 1 [.int .u32 1] none, .nilsl, .bool false, .isl 1 [.int .u32 1] none, .nilsl, .bool false, .bool false], .int .i64 0]),
  (119, [.agg [.int .i64 5, .int .i64 0, .bool false, .nilsl, .nilsl, .str [], .isl 2 [.int .i64 9, .int .i64 2, .bool false, .nilsl, .nilsl, .str [], .isl 1 [.int .i64 2, .int .i64 0, .bool false, .nilsl, .nilsl, .str [120], .nilsl] (some 1), .int .i64 1, .int .i64 0, .bool false, .isl 1 [.int .u32 1] none, .nilsl, .str [], .nilsl] (some 2), .bool false, .isl 1 [.str [120], .bool false, .nilsl, .nilsl, .bool false, .isl 1 [.int .u32 1] none, .nilsl, .bool false, .bool false] (some 1), .nilsl], .agg [.int .i64 5, .int .i64 0, .bool false, .nilsl, .nilsl, .str [], .isl 2 [.int .i64 9, .int .i64 2, .bool false, .nilsl, .nilsl, .str [], .isl 1 [.int .i64 2, .int .i64 0, .bool false, .nilsl, .nilsl, .str [120], .nilsl] (some 1), .int .i64 1, .int .i64 0, .bool false, .isl 1 [.int .u32 1] none, .nilsl, .str [], .nilsl] (some 2)], .bool false], .tup [.agg [.int .i64 5, .int .i64 0, .bool false, .nilsl, .nilsl, .str [], .isl 2 [.int .i64 9, .int .i64 2, .bool false, .nilsl, .nilsl, .str [], .isl 1 [.int .i64 2, .int .i64 0, .bool false, .nilsl, .nilsl, .str [120], .nilsl] none, .int .i64 1, .int .i64 0, .bool false, .isl 1 [.int .u32 1] none, .nilsl, .str [], .nilsl] none, .bool false, .isl 1 [.str [120], .bool false, .nilsl, .nilsl, .bool false, .isl 1 [.int .u32 1] none, .nilsl, .bool false, .bool false] none, .nilsl], .int .i64 0]),
  (377, [.agg [.int .i64 2, .int .i64 0, .bool false, .nilsl, .nilsl, .str [120], .nilsl], .isl 1 [.str [120], .bool false, .nilsl, .nilsl, .bool false, .isl 1 [.int .u32 1] none, .nilsl, .bool false, .bool false] (some 1), .int .i64 4], .tup [.agg [.bool false, .nilsl, .nilsl, .bool false, .isl 1 [.int .u32 1] none, .nilsl, .bool false, .bool false], .int .i64 0]),
  (299, [.agg [.int .i64 2, .int .i64 0, .bool false, .nilsl, .nilsl, .str [120], .nilsl], .isl 1 [.str [120], .bool false, .nilsl, .nilsl, .bool false, .isl 1 [.int .u32 1] none, .nilsl, .bool false, .bool false] (some 1), .int .i64 4], .tup [.agg [.bool false, .nilsl, .nilsl, .bool false, .isl 1 [.int .u32 1] none, .nilsl, .bool false, .bool false], .int .i64 0]),
  (384, [.agg [.bool false, .nilsl, .nilsl, .bool false, .isl 1 [.int .u32 1] none, .nilsl, .bool false, .bool false], .int .i64 2, .int .i64 4], .tup [.agg [.bool false, .nilsl, .nilsl, .bool false, .isl 1 [.int .u32 1] none, .nilsl, .bool false, .bool false], .int .i64 0]),
  (299, [.agg [.int .i64 9, .int .i64 2, .bool false, .nilsl, .nilsl, .str [], .isl 1 [.int .i64 2, .int .i64 0, .bool false, .nilsl, .nilsl, .str [120], .nilsl] (some 1)], .isl 1 [.str [120], .bool false, .nilsl, .nilsl, .bool false, .isl 1 [.int .u32 1] none, .nilsl, .bool false, .bool false] (some 1), .int .i64 4], .tup [.agg [.bool false, .nilsl, .nilsl, .bool false, .isl 1 [.int .u32 1] none, .nilsl, .bool false, .bool false], .int .i64 0]),
  (444, [.agg [.bool false, .nilsl, .nilsl, .bool false, .isl 1 [.int .u32 1] none, .nilsl, .bool false, .bool false], .agg [.bool false, .isl 1 [.int .u32 1] none, .nilsl, .bool false, .isl 1 [.int .u32 1] none, .nilsl, .bool false, .bool false], .int .i64 4, .func 477 [] []], .tup [.agg [.bool false, .isl 1 [.int .u32 1] none, .nilsl, .bool false, .isl 1 [.int .u32 2] none, .nilsl, .bool false, .bool false], .int .i64 0]),
  (441, [.agg [.bool false, .nilsl, .nilsl, .bool false, .isl 1 [.int .u32 1] none, .nilsl, .bool false, .bool false], .agg [.bool false, .isl 1 [.int .u32 1] none, .nilsl, .bool false, .isl 1 [.int .u32 1] none, .nilsl, .bool false, .bool false], .int .i64 4], .tup [.agg [.bool false, .isl 1 [.int .u32 1] none, .nilsl, .bool false, .isl 1 [.int .u32 2] none, .nilsl, .bool false, .bool false], .int .i64 0]),
  (299, [.agg [.int .i64 5, .int .i64 0, .bool false, .nilsl, .nilsl, .str [], .isl 2 [.int .i64 9, .int .i64 2, .bool false, .nilsl, .nilsl, .str [], .isl 1 [.int .i64 2, .int .i64 0, .bool false, .nilsl, .nilsl, .str [120], .nilsl] (some 1), .int .i64 1, .int .i64 0, .bool false, .isl 1 [.int .u32 1] none, .nilsl, .str [], .nilsl] (some 2)], .isl 1 [.str [120], .bool false, .nilsl, .nilsl, .bool false, .isl 1 [.int .u32 1] none, .nilsl, .bool false, .bool false] (some 1), .int .i64 4], .tup [.agg [.bool false, .isl 1 [.int .u32 1] none, .nilsl, .bool false, .isl 1 [.int .u32 2] none, .nilsl, .bool false, .bool false], .int .i64 0]),
  (261, [.agg [.int .i64 5, .int .i64 0, .bool false, .nilsl, .nilsl, .str [], .isl 2 [.int .i64 9, .int .i64 2, .bool false, .nilsl, .nilsl, .str [], .isl 1 [.int .i64 2, .int .i64 0, .bool false, .nilsl, .nilsl, .str [120], .nilsl] (some 1), .int .i64 1, .int .i64 0, .bool false, .isl 1 [.int .u32 1] none, .nilsl, .str [], .nilsl] (some 2)], .isl 1 [.str [120], .bool false, .nilsl, .nilsl, .bool false, .isl 1 [.int .u32 1] none, .nilsl, .bool false, .bool false] (some 1), .int .i64 4], .tup [.agg [.bool false, .isl 1 [.int .u32 1] none, .nilsl, .bool false, .isl 1 [.int .u32 2] none, .nilsl, .bool false, .bool false], .int .i64 0]),
  (118, [.nilsl, .agg [.int .i64 5, .int .i64 0, .bool false, .nilsl, .nilsl, .str [], .isl 2 [.int .i64 9, .int .i64 2, .bool false, .nilsl, .nilsl, .str [], .isl 1 [.int .i64 2, .int .i64 0, .bool false, .nilsl, .nilsl, .str [120], .nilsl] (some 1), .int .i64 1, .int .i64 0, .bool false, .isl 1 [.int .u32 1] none, .nilsl, .str [], .nilsl] (some 2), .bool false, .isl 1 [.str [120], .bool false, .nilsl, .nilsl, .bool false, .isl 1 [.int .u32 1] none, .nilsl, .bool false, .bool false] (some 1), .nilsl], .agg [.int .i64 1, .str [], .str [], .bool false, .nilsl, .nilsl, .int .i64 0, .int .i64 0, .int .i64 4, .int .i64 0, .int .i64 0, .bool false, .nilsl, .nilsl, .str [], .nilsl, .nilsl, .str [], .int .i64 0, .nilsl, .nilsl]], .tup [.nilsl, .int .i64 0])]
def t16 : Tab := d16 ++ t15
def d17 : Tab := [
  (48, [.nilsl, .agg [.int .i64 5, .int .i64 0, .bool false, .nilsl, .nilsl, .str [], .isl 2 [.int .i64 9, .int .i64 2, .bool false, .nilsl, .nilsl, .str [], .isl 1 [.int .i64 2, .int .i64 0, .bool false, .nilsl, .nilsl, .str [120], .nilsl] (some 1), .int .i64 1, .int .i64 0, .bool false, .isl 1 [.int .u32 1] none, .nilsl, .str [], .nilsl] (some 2), .bool false, .isl 1 [.str [120], .bool false, .nilsl, .nilsl, .bool false, .isl 1 [.int .u32 1] none, .nilsl, .bool false, .bool false] (some 1), .nilsl], .agg [.int .i64 1, .str [], .str [], .bool false, .nilsl, .nilsl, .int .i64 0, .int .i64 0, .int .i64 4, .int .i64 0, .int .i64 0, .bool false, .nilsl, .nilsl, .str [], .nilsl, .nilsl, .str [], .int .i64 0, .nilsl, .nilsl]], .agg [.int .i64 0, .nilsl, .int .i64 1]),
  (31, [.nilsl, .str [115, 113, 117, 97, 114, 101], .agg [.int .i64 5, .int .i64 0, .bool false, .nilsl, .nilsl, .str [], .isl 2 [.int .i64 9, .int .i64 2, .bool false, .nilsl, .nilsl, .str [], .isl 1 [.int .i64 2, .int .i64 0, .bool false, .nilsl, .nilsl, .str [120], .nilsl] (some 1), .int .i64 1, .int .i64 0, .bool false, .isl 1 [.int .u32 1] none, .nilsl, .str [], .nilsl] (some 2), .bool false, .isl 1 [.str [120], .bool false, .nilsl, .nilsl, .bool false, .isl 1 [.int .u32 1] none, .nilsl, .bool false, .bool false] (some 1), .nilsl], .agg [.int .i64 1, .str [], .str [], .bool false, .nilsl, .nilsl, .int .i64 0, .int .i64 0, .int .i64 4, .int .i64 0, .int .i64 0, .bool false, .nilsl, .nilsl, .str [], .nilsl, .nilsl, .str [], .int .i64 0, .nilsl, .nilsl]], .tup [.isl 1 [.str [115, 113, 117, 97, 114, 101], .int .i64 1, .int .i64 5, .int .i64 0, .bool false, .nilsl, .nilsl, .str [], .isl 2 [.int .i64 9, .int .i64 2, .bool false, .nilsl, .nilsl, .str [], .isl 1 [.int .i64 2, .int .i64 0, .bool false, .nilsl, .nilsl, .str [120], .nilsl] none, .int .i64 1, .int .i64 0, .bool false, .isl 1 [.int .u32 1] none, .nilsl, .str [], .nilsl] none, .bool false, .isl 1 [.str [120], .bool false, .nilsl, .nilsl, .bool false, .isl 1 [.int .u32 1] none, .nilsl, .bool false, .bool false] none, .nilsl, .int .i64 1, .str [], .str [], .bool false, .nilsl, .nilsl, .int .i64 0, .int .i64 0, .int .i64 4, .int .i64 0, .int .i64 0, .bool false, .nilsl, .nilsl, .str [], .nilsl, .nilsl, .str [], .int .i64 0, .nilsl, .nilsl] none, .int .i64 1, .int .i64 0]),
  (14, [], .bool true)]
def t17 : Tab := d17 ++ t16
def tA : Tab := t17
end Go.Proofs.YtfhjhnofkaiceaaGreatDoor
