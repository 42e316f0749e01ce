/-
  The tables of the closed calls below awake().
-/
import Derived.Test.YtlmifjdbjhcceaaGreatDoorGxE
import Derived.Test.YtlmifjdbjhcceaaGreatDoorProg
namespace Go.Proofs.YtlmifjdbjhcceaaGreatDoor
open Go Go.Proofs.YtlmifjdbjhcceaaGreatDoor.Gx
def tab : List AV := [.int .u8 0, .int .u8 1, .int .u8 28, .int .u8 2, .int .u8 29, .int .u8 14, .int .u8 24, .int .u8 3, .int .u8 30, .int .u8 22, .int .u8 20, .int .u8 15, .int .u8 25, .int .u8 17, .int .u8 4, .int .u8 8, .int .u8 31, .int .u8 27, .int .u8 13, .int .u8 23, .int .u8 21, .int .u8 19, .int .u8 16, .int .u8 7, .int .u8 26, .int .u8 12, .int .u8 18, .int .u8 6, .int .u8 11, .int .u8 5, .int .u8 10, .int .u8 9]
def G0 : Nat → Option (List AV)
  | 0 => some tab
  | _ => none
def X0 : FuncId → Option Ent := fun _ => none
def pol0 : FuncId → Bool := fun _ => true
def fuel0 : Nat := 6000
noncomputable def P0 : Program := Tryz.prog
def t0 : Tab := []
def d1 : Tab := [
  (147, [.isl 2 [.int .u32 0, .int .u32 0] (some 2)], .isl 0 [] (some 2)),
  (74, [.int .u64 1], .isl 1 [.int .u32 1] none),
  (71, [.isl 1 [.int .u32 1] none], .isl 1 [.int .u32 1] none),
  (72, [.agg [.bool false, .isl 1 [.int .u32 1] none, .isl 1 [.int .u32 1] none]], .bool true),
  (177, [.int .u8 120], .bool true),
  (242, [], .isl 8 [.str [101, 120, 112], .str [108, 111, 103], .str [115, 105, 110], .str [99, 111, 115], .str [116, 97, 110], .str [97, 115, 105, 110], .str [97, 99, 111, 115], .str [97, 116, 97, 110]] (some 8)),
  (147, [.nilsl], .nilsl),
  (148, [.nilsl], .bool true),
  (147, [.isl 2 [.int .u32 1, .int .u32 0] (some 2)], .isl 1 [.int .u32 1, .int .u32 0] (some 2)),
  (185, [.agg [.bool false, .nilsl, .isl 1 [.int .u32 1, .int .u32 0] (some 2)]], .bool true),
  (147, [.isl 1 [.int .u32 1] none], .isl 1 [.int .u32 1] none),
  (148, [.isl 1 [.int .u32 1] none], .bool false),
  (331, [.int .u32 1], .int .i64 0),
  (63, [.int .u32 1], .int .i64 1),
  (185, [.agg [.bool false, .isl 1 [.int .u32 1] none, .isl 1 [.int .u32 1, .int .u32 0] (some 2)]], .bool true),
  (146, [.int .i64 5], .tup [.int .i64 2, .bool true])]
def t1 : Tab := d1 ++ t0
def d2 : Tab := [
  (146, [.int .i64 9], .tup [.int .i64 1, .bool true]),
  (146, [.int .i64 2], .tup [.int .i64 0, .bool true]),
  (146, [.int .i64 1], .tup [.int .i64 0, .bool true]),
  (126, [.agg [.int .i64 5, .int .i64 0, .bool false, .nilsl, .nilsl, .str [], .isl 2 [.int .i64 9, .int .i64 2, .bool false, .nilsl, .nilsl, .str [], .isl 1 [.int .i64 2, .int .i64 0, .bool false, .nilsl, .nilsl, .str [120], .nilsl] (some 1), .int .i64 1, .int .i64 0, .bool false, .isl 1 [.int .u32 1] none, .nilsl, .str [], .nilsl] (some 2)]], .func 151 [] [.iptr [.int .i64 5, .int .i64 0, .bool false, .nilsl, .nilsl, .str [], .isl 2 [.int .i64 9, .int .i64 2, .bool false, .nilsl, .nilsl, .str [], .isl 1 [.int .i64 2, .int .i64 0, .bool false, .nilsl, .nilsl, .str [120], .nilsl] (some 1), .int .i64 1, .int .i64 0, .bool false, .isl 1 [.int .u32 1] none, .nilsl, .str [], .nilsl] (some 2)]]),
  (64, [.int .u64 1], .int .i64 1),
  (249, [.isl 1 [.str [120]] none, .int .i64 0, .int .i64 1], .tup []),
  (103, [.isl 1 [.str [120], .bool false, .nilsl, .nilsl, .bool false, .isl 1 [.int .u32 1] none, .nilsl, .bool false, .bool false] (some 1), .str [120]], .int .i64 0),
  (87, [.agg [.int .i64 1, .str [], .str [], .bool false, .nilsl, .nilsl, .int .i64 0, .int .i64 0, .int .i64 4, .int .i64 0, .int .i64 0, .bool false, .nilsl, .nilsl, .str [], .nilsl, .nilsl, .str [], .int .i64 0, .nilsl, .nilsl]], .int .i64 1),
  (105, [.agg [.int .i64 1, .str [], .str [], .bool false, .nilsl, .nilsl, .int .i64 0, .int .i64 0, .int .i64 4, .int .i64 0, .int .i64 0, .bool false, .nilsl, .nilsl, .str [], .nilsl, .nilsl, .str [], .int .i64 0, .nilsl, .nilsl], .int .i64 1], .int .i64 1),
  (132, [], .isl 21 [.str [114, 97, 110, 103, 101], .str [112], .int .i64 0, .func 156 [] [], .str [109, 101, 97, 110], .str [112], .int .i64 0, .func 157 [] [], .str [116, 97, 121, 108, 111, 114], .str [112], .int .i64 0, .func 158 [] [], .str [108, 105, 110, 101, 97, 114], .str [112], .int .i64 0, .func 159 [] [], .str [101, 109, 112, 116, 121], .str [107, 112], .int .i64 0, .func 160 [] [], .str [99, 117, 116], .str [120, 97], .int .i64 2, .func 161 [] [], .str [114, 105, 115, 101], .str [120, 112], .int .i64 1, .func 162 [] [], .str [102, 97, 108, 108], .str [120, 112], .int .i64 1, .func 163 [] [], .str [99, 97, 118, 101], .str [120, 112], .int .i64 2, .func 164 [] [], .str [110, 97, 114, 114, 111, 119], .str [120, 107, 110, 112], .int .i64 1, .func 165 [] [], .str [98, 114, 97, 110, 99, 104], .str [112], .int .i64 2, .func 166 [] [], .str [116, 117, 114, 110], .str [120, 97], .int .i64 1, .func 167 [] [], .str [115, 119, 97, 112], .str [120, 121, 112], .int .i64 1, .func 168 [] [], .str [122, 101, 114, 111], .str [113, 112], .int .i64 0, .func 169 [] [], .str [108, 101, 97, 100], .str [120, 97, 110, 112], .int .i64 0, .func 170 [] [], .str [115, 97, 109, 101], .str [101, 112], .int .i64 1, .func 171 [] [], .str [118, 105, 97], .str [101], .int .i64 2, .func 172 [] [], .str [115, 99, 97, 108, 101], .str [101], .int .i64 2, .func 173 [] [], .str [97, 100, 100], .str [107, 97], .int .i64 1, .func 174 [] [], .str [108, 101, 109, 109, 97], .str [108, 118, 98, 112], .int .i64 1, .func 175 [] [], .str [102, 97, 114], .str [120, 110, 101, 112], .int .i64 1, .func 176 [] []] (some 21)),
  (46, [.nilsl], .nilsl),
  (109, [.agg [.str [114, 97, 110, 103, 101], .str [112], .int .i64 0, .func 156 [] []], .int .u8 112], .bool true),
  (109, [.agg [.str [114, 97, 110, 103, 101], .str [112], .int .i64 0, .func 156 [] []], .int .u8 101], .bool false),
  (322, [.isl 1 [.str [120], .bool false, .nilsl, .nilsl, .bool false, .isl 1 [.int .u32 1] none, .nilsl, .bool false, .bool false] (some 1), .str [120]], .int .i64 0),
  (95, [.nilsl], .nilsl),
  (95, [.isl 1 [.int .u32 1] none], .isl 1 [.int .u32 1] none)]
def t2 : Tab := d2 ++ t1
def d3 : Tab := [
  (411, [.int .i64 4, .int .i64 0, .int .i64 128], .tup []),
  (334, [.nilsl, .int .i64 4], .nilsl),
  (182, [.nilsl, .isl 1 [.int .u32 1, .int .u32 0] (some 2)], .int .i64 (-1)),
  (147, [.isl 2 [.int .u32 16, .int .u32 0] (some 2)], .isl 1 [.int .u32 16, .int .u32 0] (some 2)),
  (182, [.isl 1 [.int .u32 16, .int .u32 0] (some 2), .isl 1 [.int .u32 1, .int .u32 0] (some 2)], .int .i64 1),
  (147, [.isl 1 [.int .u32 16] (some 1)], .isl 1 [.int .u32 16] (some 1)),
  (331, [.int .u32 2], .int .i64 1),
  (148, [.isl 0 [] (some 2)], .bool true),
  (148, [.isl 1 [.int .u32 16] (some 1)], .bool false),
  (331, [.int .u32 16], .int .i64 4),
  (147, [.isl 1 [.int .u32 1] (some 1)], .isl 1 [.int .u32 1] (some 1)),
  (247, [.isl 1 [.int .u32 1, .int .u32 0] (some 2)], .bool true),
  (180, [.int .i64 0], .tup []),
  (185, [.agg [.bool false, .isl 1 [.int .u32 1] (some 1), .isl 1 [.int .u32 1] (some 1)]], .bool true),
  (95, [.isl 1 [.int .u32 1] (some 1)], .isl 1 [.int .u32 1] none),
  (247, [.isl 1 [.int .u32 1] (some 1)], .bool true)]
def t3 : Tab := d3 ++ t2
def d4 : Tab := [
  (411, [.int .i64 2, .int .i64 (-32), .int .i64 32], .tup []),
  (181, [.nilsl, .nilsl], .nilsl),
  (181, [.isl 1 [.int .u32 1, .int .u32 0] (some 2), .nilsl], .nilsl),
  (182, [.isl 1 [.int .u32 1, .int .u32 0] (some 2), .isl 1 [.int .u32 1, .int .u32 0] (some 2)], .int .i64 0),
  (393, [.agg [.bool false, .isl 1 [.int .u32 1] none, .isl 1 [.int .u32 1, .int .u32 0] (some 2), .bool false, .isl 1 [.int .u32 1] none, .isl 1 [.int .u32 1, .int .u32 0] (some 2), .bool false, .bool false, .bool false]], .agg [.bool false, .isl 1 [.int .u32 1] none, .isl 1 [.int .u32 1, .int .u32 0] (some 2), .bool false, .isl 1 [.int .u32 1] none, .isl 1 [.int .u32 1, .int .u32 0] (some 2), .bool false, .bool false, .bool false]),
  (181, [.nilsl, .isl 1 [.int .u32 1, .int .u32 0] (some 2)], .nilsl),
  (148, [.isl 1 [.int .u32 1, .int .u32 0] (some 2)], .bool false),
  (147, [.isl 2 [.int .u32 2, .int .u32 0] (some 2)], .isl 1 [.int .u32 2, .int .u32 0] (some 2)),
  (148, [.isl 1 [.int .u32 2, .int .u32 0] (some 2)], .bool false),
  (199, [.bool true], .tup []),
  (147, [.isl 2 [.int .u32 32, .int .u32 0] (some 2)], .isl 1 [.int .u32 32, .int .u32 0] (some 2)),
  (182, [.isl 1 [.int .u32 32, .int .u32 0] (some 2), .isl 1 [.int .u32 1, .int .u32 0] (some 2)], .int .i64 1),
  (147, [.isl 1 [.int .u32 32] (some 1)], .isl 1 [.int .u32 32] (some 1)),
  (148, [.isl 1 [.int .u32 32] (some 1)], .bool false),
  (331, [.int .u32 32], .int .i64 5),
  (147, [.isl 1 [.int .u32 2] (some 1)], .isl 1 [.int .u32 2] (some 1))]
def t4 : Tab := d4 ++ t3
def d5 : Tab := [
  (185, [.agg [.bool false, .isl 1 [.int .u32 2] (some 1), .isl 1 [.int .u32 1] (some 1)]], .bool true),
  (95, [.isl 1 [.int .u32 2] (some 1)], .isl 1 [.int .u32 2] none),
  (87, [.agg [.int .i64 5, .str [], .str [], .bool false, .nilsl, .nilsl, .int .i64 0, .int .i64 0, .int .i64 4, .int .i64 0, .int .i64 0, .bool false, .nilsl, .nilsl, .str [], .nilsl, .nilsl, .str [], .int .i64 0, .nilsl, .nilsl]], .int .i64 1),
  (147, [.isl 1 [.int .u32 2] none], .isl 1 [.int .u32 2] none),
  (148, [.isl 1 [.int .u32 2] none], .bool false),
  (185, [.agg [.bool false, .isl 1 [.int .u32 2] none, .isl 1 [.int .u32 1, .int .u32 0] (some 2)]], .bool true),
  (182, [.isl 1 [.int .u32 1, .int .u32 0] (some 2), .isl 1 [.int .u32 2, .int .u32 0] (some 2)], .int .i64 (-1)),
  (109, [.agg [.str [101, 109, 112, 116, 121], .str [107, 112], .int .i64 0, .func 160 [] []], .int .u8 112], .bool true),
  (105, [.agg [.int .i64 5, .str [], .str [], .bool false, .nilsl, .nilsl, .int .i64 0, .int .i64 0, .int .i64 4, .int .i64 0, .int .i64 0, .bool false, .nilsl, .nilsl, .str [], .nilsl, .nilsl, .str [], .int .i64 0, .nilsl, .nilsl], .int .i64 1], .int .i64 1),
  (109, [.agg [.str [101, 109, 112, 116, 121], .str [107, 112], .int .i64 0, .func 160 [] []], .int .u8 101], .bool false),
  (243, [.isl 1 [.int .u32 16, .int .u32 0] (some 2)], .int .i64 4),
  (334, [.isl 1 [.int .u32 2, .int .u32 0] (some 2), .int .i64 4], .isl 1 [.int .u32 32, .int .u32 0] (some 2)),
  (187, [.isl 1 [.str [120]] none, .int .i64 0, .int .i64 1, .int .i64 1], .tup []),
  (244, [.isl 1 [.int .u32 16] (some 1), .int .i64 4], .isl 1 [.int .u32 1] (some 1)),
  (243, [.isl 1 [.int .u32 1] (some 1)], .int .i64 0),
  (244, [.isl 1 [.int .u32 16, .int .u32 0] (some 2), .int .i64 4], .isl 1 [.int .u32 1] (some 1))]
def t5 : Tab := d5 ++ t4
def d6 : Tab := [
  (245, [.isl 1 [.int .u32 1] (some 1)], .int .i64 1),
  (243, [.isl 1 [.int .u32 1] none], .int .i64 0),
  (451, [.agg [.bool false, .nilsl, .nilsl], .int .i64 0], .agg [.bool false, .nilsl, .nilsl]),
  (179, [.str [120]], .tup [.int .i64 0, .bool false]),
  (88, [.agg [.int .i64 1, .str [], .str [], .bool false, .nilsl, .nilsl, .int .i64 0, .int .i64 0, .int .i64 4, .int .i64 0, .int .i64 0, .bool false, .nilsl, .nilsl, .str [], .nilsl, .nilsl, .str [], .int .i64 0, .nilsl, .nilsl]], .int .i64 1),
  (243, [.isl 1 [.int .u32 1, .int .u32 0] (some 2)], .int .i64 0),
  (106, [.int .i64 1], .tup [.agg [.str [114, 97, 110, 103, 101], .str [112], .int .i64 0, .func 156 [] []], .bool true]),
  (451, [.agg [.bool false, .isl 1 [.int .u32 1] none, .nilsl], .int .i64 0], .agg [.bool false, .isl 1 [.int .u32 1] none, .nilsl]),
  (245, [.isl 1 [.int .u32 1, .int .u32 0] (some 2)], .int .i64 1),
  (108, [.agg [.int .i64 0, .int .i64 0, .bool false, .nilsl, .nilsl, .str [], .nilsl]], .bool true),
  (334, [.isl 1 [.int .u32 1, .int .u32 0] (some 2), .int .i64 4], .isl 1 [.int .u32 16, .int .u32 0] (some 2)),
  (181, [.isl 1 [.int .u32 1, .int .u32 0] (some 2), .isl 1 [.int .u32 1, .int .u32 0] (some 2)], .isl 1 [.int .u32 1, .int .u32 0] (some 2)),
  (181, [.isl 1 [.int .u32 1] none, .isl 1 [.int .u32 1] none], .isl 1 [.int .u32 1, .int .u32 0] (some 2)),
  (181, [.isl 1 [.int .u32 1] none, .isl 1 [.int .u32 1, .int .u32 0] (some 2)], .isl 1 [.int .u32 1, .int .u32 0] (some 2)),
  (191, [.agg [.bool false, .isl 1 [.int .u32 1] none, .nilsl, .bool false, .isl 1 [.int .u32 2] none, .nilsl, .bool false, .bool false], .int .i64 0], .agg [.bool false, .isl 1 [.int .u32 1] none, .nilsl, .bool false, .isl 1 [.int .u32 2] none, .nilsl, .bool false, .bool false]),
  (150, [.agg [.bool false, .nilsl, .isl 1 [.int .u32 1, .int .u32 0] (some 2)]], .int .i64 0)]
def t6 : Tab := d6 ++ t5
def d7 : Tab := [
  (433, [.nilsl, .isl 1 [.int .u32 1, .int .u32 0] (some 2)], .isl 1 [.int .u32 1, .int .u32 0] (some 2)),
  (433, [.isl 1 [.int .u32 1, .int .u32 0] (some 2), .isl 1 [.int .u32 1, .int .u32 0] (some 2)], .isl 1 [.int .u32 2, .int .u32 0] (some 2)),
  (381, [.agg [.bool false, .nilsl, .nilsl]], .agg [.bool false, .nilsl, .nilsl]),
  (150, [.agg [.bool false, .isl 1 [.int .u32 1] none, .isl 1 [.int .u32 1, .int .u32 0] (some 2)]], .int .i64 1),
  (243, [.isl 1 [.int .u32 2, .int .u32 0] (some 2)], .int .i64 1),
  (332, [.isl 1 [.int .u32 16, .int .u32 0] (some 2), .int .u32 1], .tup [.isl 1 [.int .u32 16] (some 1), .int .u32 0]),
  (181, [.isl 1 [.int .u32 2] none, .isl 1 [.int .u32 1, .int .u32 0] (some 2)], .isl 1 [.int .u32 2, .int .u32 0] (some 2)),
  (150, [.agg [.bool false, .isl 1 [.int .u32 2] none, .isl 1 [.int .u32 1, .int .u32 0] (some 2)]], .int .i64 1),
  (332, [.isl 1 [.int .u32 32, .int .u32 0] (some 2), .int .u32 1], .tup [.isl 1 [.int .u32 32] (some 1), .int .u32 0]),
  (248, [.nilsl, .isl 1 [.int .u32 1, .int .u32 0] (some 2)], .tup [.nilsl, .nilsl]),
  (243, [.isl 1 [.int .u32 32] (some 1)], .int .i64 5),
  (183, [.int .u64 1], .isl 1 [.int .u32 1, .int .u32 0] (some 2)),
  (244, [.isl 1 [.int .u32 32] (some 1), .int .i64 4], .isl 1 [.int .u32 2] (some 1)),
  (451, [.agg [.bool false, .isl 1 [.int .u32 2] none, .nilsl], .int .i64 0], .agg [.bool false, .isl 1 [.int .u32 2] none, .nilsl]),
  (334, [.isl 1 [.int .u32 1] none, .int .i64 4], .isl 1 [.int .u32 16, .int .u32 0] (some 2)),
  (243, [.isl 1 [.int .u32 2] none], .int .i64 1)]
def t7 : Tab := d7 ++ t6
def d8 : Tab := [
  (88, [.agg [.int .i64 5, .str [], .str [], .bool false, .nilsl, .nilsl, .int .i64 0, .int .i64 0, .int .i64 4, .int .i64 0, .int .i64 0, .bool false, .nilsl, .nilsl, .str [], .nilsl, .nilsl, .str [], .int .i64 0, .nilsl, .nilsl]], .int .i64 1),
  (141, [.str [120]], .int .i64 1),
  (222, [.int .i64 2, .int .i64 0], .int .i64 2),
  (139, [.agg [.bool false, .nilsl, .nilsl]], .agg [.bool false, .nilsl, .nilsl]),
  (183, [.int .u64 0], .isl 0 [] (some 2)),
  (38, [.int .u64 1], .int .i64 1),
  (106, [.int .i64 5], .tup [.agg [.str [101, 109, 112, 116, 121], .str [107, 112], .int .i64 0, .func 160 [] []], .bool true]),
  (73, [.bool false, .isl 1 [.int .u32 1] none, .isl 1 [.int .u32 1] none], .agg [.bool false, .isl 1 [.int .u32 1] none, .isl 1 [.int .u32 1] none]),
  (243, [.isl 1 [.int .u32 16] (some 1)], .int .i64 4),
  (142, [.str [120]], .bool false),
  (44, [.agg [.bool false, .isl 1 [.int .u32 1] none, .isl 1 [.int .u32 1] none]], .agg [.bool false, .isl 1 [.int .u32 1] none, .nilsl]),
  (45, [.int .i64 1], .agg [.bool false, .isl 1 [.int .u32 1] none, .isl 1 [.int .u32 1] none]),
  (381, [.agg [.bool false, .isl 1 [.int .u32 1] none, .nilsl]], .agg [.bool false, .isl 1 [.int .u32 1] none, .nilsl]),
  (115, [.agg [.int .i64 2, .int .i64 0, .bool false, .nilsl, .nilsl, .str [120], .nilsl]], .agg [.int .i64 2, .int .i64 0, .bool false, .nilsl, .nilsl, .str [120], .nilsl]),
  (139, [.agg [.bool false, .isl 1 [.int .u32 1] none, .nilsl]], .agg [.bool false, .isl 1 [.int .u32 1] none, .nilsl]),
  (125, [.agg [.int .i64 5, .int .i64 0, .bool false, .nilsl, .nilsl, .str [], .isl 2 [.int .i64 9, .int .i64 2, .bool false, .nilsl, .nilsl, .str [], .isl 1 [.int .i64 2, .int .i64 0, .bool false, .nilsl, .nilsl, .str [120], .nilsl] (some 1), .int .i64 1, .int .i64 0, .bool false, .isl 1 [.int .u32 1] none, .nilsl, .str [], .nilsl] (some 2)]], .bool true)]
def t8 : Tab := d8 ++ t7
def d9 : Tab := [
  (326, [.agg [.bool false, .isl 1 [.int .u32 1] (some 1), .isl 1 [.int .u32 1] (some 1)]], .tup [.agg [.bool false, .isl 1 [.int .u32 1] none, .nilsl], .int .i64 0]),
  (115, [.agg [.int .i64 9, .int .i64 2, .bool false, .nilsl, .nilsl, .str [], .isl 1 [.int .i64 2, .int .i64 0, .bool false, .nilsl, .nilsl, .str [120], .nilsl] (some 1)]], .agg [.int .i64 9, .int .i64 2, .bool false, .nilsl, .nilsl, .str [], .isl 1 [.int .i64 2, .int .i64 0, .bool false, .nilsl, .nilsl, .str [120], .nilsl] none]),
  (326, [.agg [.bool false, .nilsl, .isl 1 [.int .u32 1, .int .u32 0] (some 2)]], .tup [.agg [.bool false, .nilsl, .nilsl], .int .i64 0]),
  (184, [.bool false, .nilsl, .isl 1 [.int .u32 1, .int .u32 0] (some 2)], .agg [.bool false, .nilsl, .isl 1 [.int .u32 1, .int .u32 0] (some 2)]),
  (115, [.agg [.int .i64 1, .int .i64 0, .bool false, .isl 1 [.int .u32 1] none, .nilsl, .str [], .nilsl]], .agg [.int .i64 1, .int .i64 0, .bool false, .isl 1 [.int .u32 1] none, .nilsl, .str [], .nilsl]),
  (326, [.agg [.bool false, .isl 1 [.int .u32 1] none, .isl 1 [.int .u32 1, .int .u32 0] (some 2)]], .tup [.agg [.bool false, .isl 1 [.int .u32 1] none, .nilsl], .int .i64 0]),
  (326, [.agg [.bool false, .isl 1 [.int .u32 2] (some 1), .isl 1 [.int .u32 1] (some 1)]], .tup [.agg [.bool false, .isl 1 [.int .u32 2] none, .nilsl], .int .i64 0]),
  (475, [.isl 1 [.int .u32 1, .int .u32 0] (some 2), .int .i64 2], .isl 1 [.int .u32 1, .int .u32 0] (some 2)),
  (125, [.agg [.int .i64 9, .int .i64 2, .bool false, .nilsl, .nilsl, .str [], .isl 1 [.int .i64 2, .int .i64 0, .bool false, .nilsl, .nilsl, .str [120], .nilsl] (some 1)]], .bool true),
  (184, [.bool false, .nilsl, .isl 1 [.int .u32 16, .int .u32 0] (some 2)], .agg [.bool false, .nilsl, .isl 1 [.int .u32 1, .int .u32 0] (some 2)]),
  (303, [.agg [.bool false, .isl 1 [.int .u32 1] none, .isl 1 [.int .u32 1, .int .u32 0] (some 2), .bool false, .isl 1 [.int .u32 2] none, .isl 1 [.int .u32 1, .int .u32 0] (some 2), .bool false, .bool false, .bool false]], .tup [.int .i64 1, .int .i64 1]),
  (145, [.agg [.bool false, .nilsl, .isl 1 [.int .u32 1, .int .u32 0] (some 2)], .agg [.bool false, .isl 1 [.int .u32 1] none, .isl 1 [.int .u32 1, .int .u32 0] (some 2)]], .int .i64 (-1)),
  (305, [.agg [.bool false, .nilsl, .nilsl, .bool false, .isl 1 [.int .u32 1] none, .nilsl, .bool false, .bool false]], .agg [.bool false, .nilsl, .nilsl, .bool false, .isl 1 [.int .u32 1] none, .nilsl, .bool false, .bool false]),
  (138, [.isl 1 [.str [120], .bool false, .nilsl, .nilsl, .bool false, .isl 1 [.int .u32 1] none, .nilsl, .bool false, .bool false] (some 1)], .isl 1 [.str [120], .bool false, .nilsl, .nilsl, .bool false, .isl 1 [.int .u32 1] none, .nilsl, .bool false, .bool false] none),
  (475, [.isl 1 [.int .u32 1] none, .int .i64 2], .isl 1 [.int .u32 1, .int .u32 0] (some 2)),
  (475, [.nilsl, .int .i64 2], .nilsl)]
def t9 : Tab := d9 ++ t8
def d10 : Tab := [
  (154, [.isl 1 [.str [120]] none], .tup []),
  (303, [.agg [.bool false, .nilsl, .isl 1 [.int .u32 1, .int .u32 0] (some 2), .bool false, .isl 1 [.int .u32 1] none, .isl 1 [.int .u32 1, .int .u32 0] (some 2), .bool false, .bool false, .bool false]], .tup [.int .i64 0, .int .i64 1]),
  (248, [.isl 1 [.int .u32 16, .int .u32 0] (some 2), .isl 1 [.int .u32 1, .int .u32 0] (some 2)], .tup [.isl 1 [.int .u32 16] (some 1), .isl 0 [] (some 2)]),
  (184, [.bool false, .isl 1 [.int .u32 1, .int .u32 0] (some 2), .isl 1 [.int .u32 1, .int .u32 0] (some 2)], .agg [.bool false, .isl 1 [.int .u32 1, .int .u32 0] (some 2), .isl 1 [.int .u32 1, .int .u32 0] (some 2)]),
  (248, [.isl 1 [.int .u32 32, .int .u32 0] (some 2), .isl 1 [.int .u32 1, .int .u32 0] (some 2)], .tup [.isl 1 [.int .u32 32] (some 1), .isl 0 [] (some 2)]),
  (121, [.str [120]], .bool true),
  (145, [.agg [.bool false, .isl 1 [.int .u32 1] none, .isl 1 [.int .u32 1, .int .u32 0] (some 2)], .agg [.bool false, .isl 1 [.int .u32 1] none, .isl 1 [.int .u32 1, .int .u32 0] (some 2)]], .int .i64 0),
  (24, [], .agg [.int .i64 5, .int .i64 0, .bool false, .nilsl, .nilsl, .str [], .isl 2 [.int .i64 9, .int .i64 2, .bool false, .nilsl, .nilsl, .str [], .isl 1 [.int .i64 2, .int .i64 0, .bool false, .nilsl, .nilsl, .str [120], .nilsl] (some 1), .int .i64 1, .int .i64 0, .bool false, .isl 1 [.int .u32 1] none, .nilsl, .str [], .nilsl] (some 2), .bool false, .isl 1 [.str [120], .bool false, .nilsl, .nilsl, .bool false, .isl 1 [.int .u32 1] none, .nilsl, .bool false, .bool false] (some 1), .nilsl]),
  (448, [.agg [.bool false, .isl 1 [.int .u32 1] (some 1), .isl 1 [.int .u32 1] (some 1), .bool false, .isl 1 [.int .u32 1] (some 1), .isl 1 [.int .u32 1] (some 1), .bool false, .bool false, .bool false]], .agg [.bool false, .isl 1 [.int .u32 1] none, .nilsl, .bool false, .isl 1 [.int .u32 1] none, .nilsl, .bool false, .bool false]),
  (235, [.isl 1 [.str [120], .bool false, .nilsl, .nilsl, .bool false, .isl 1 [.int .u32 1] none, .nilsl, .bool false, .bool false] (some 1), .str [120]], .tup [.agg [.bool false, .nilsl, .nilsl, .bool false, .isl 1 [.int .u32 1] none, .nilsl, .bool false, .bool false], .bool true]),
  (184, [.bool false, .isl 1 [.int .u32 1] none, .isl 1 [.int .u32 1, .int .u32 0] (some 2)], .agg [.bool false, .isl 1 [.int .u32 1] none, .isl 1 [.int .u32 1, .int .u32 0] (some 2)]),
  (448, [.agg [.bool false, .isl 1 [.int .u32 1] none, .isl 1 [.int .u32 1, .int .u32 0] (some 2), .bool false, .isl 1 [.int .u32 1] none, .isl 1 [.int .u32 1, .int .u32 0] (some 2), .bool false, .bool false, .bool false]], .agg [.bool false, .isl 1 [.int .u32 1] none, .nilsl, .bool false, .isl 1 [.int .u32 1] none, .nilsl, .bool false, .bool false]),
  (97, [.str [120]], .bool true),
  (149, [.agg [.bool false, .nilsl, .nilsl]], .tup [.agg [.bool false, .nilsl, .isl 1 [.int .u32 1, .int .u32 0] (some 2)], .bool true]),
  (424, [.agg [.bool false, .isl 1 [.int .u32 1] none, .isl 1 [.int .u32 1, .int .u32 0] (some 2)], .int .i64 2], .agg [.bool false, .isl 1 [.int .u32 1, .int .u32 0] (some 2), .isl 1 [.int .u32 1, .int .u32 0] (some 2)]),
  (184, [.bool false, .isl 1 [.int .u32 2, .int .u32 0] (some 2), .isl 1 [.int .u32 1, .int .u32 0] (some 2)], .agg [.bool false, .isl 1 [.int .u32 2, .int .u32 0] (some 2), .isl 1 [.int .u32 1, .int .u32 0] (some 2)])]
def t10 : Tab := d10 ++ t9
def d11 : Tab := [
  (115, [.agg [.int .i64 5, .int .i64 0, .bool false, .nilsl, .nilsl, .str [], .isl 2 [.int .i64 9, .int .i64 2, .bool false, .nilsl, .nilsl, .str [], .isl 1 [.int .i64 2, .int .i64 0, .bool false, .nilsl, .nilsl, .str [120], .nilsl] (some 1), .int .i64 1, .int .i64 0, .bool false, .isl 1 [.int .u32 1] none, .nilsl, .str [], .nilsl] (some 2)]], .agg [.int .i64 5, .int .i64 0, .bool false, .nilsl, .nilsl, .str [], .isl 2 [.int .i64 9, .int .i64 2, .bool false, .nilsl, .nilsl, .str [], .isl 1 [.int .i64 2, .int .i64 0, .bool false, .nilsl, .nilsl, .str [120], .nilsl] none, .int .i64 1, .int .i64 0, .bool false, .isl 1 [.int .u32 1] none, .nilsl, .str [], .nilsl] none]),
  (184, [.bool false, .isl 1 [.int .u32 2] none, .isl 1 [.int .u32 1, .int .u32 0] (some 2)], .agg [.bool false, .isl 1 [.int .u32 2] none, .isl 1 [.int .u32 1, .int .u32 0] (some 2)]),
  (144, [.agg [.bool false, .nilsl, .nilsl]], .agg [.bool false, .nilsl, .isl 1 [.int .u32 1, .int .u32 0] (some 2)]),
  (424, [.agg [.bool false, .nilsl, .isl 1 [.int .u32 1, .int .u32 0] (some 2)], .int .i64 2], .agg [.bool false, .nilsl, .isl 1 [.int .u32 1, .int .u32 0] (some 2)]),
  (133, [.agg [.bool false, .nilsl, .nilsl]], .tup [.int .i64 0, .int .i64 0]),
  (134, [.agg [.bool false, .nilsl, .nilsl]], .bool true),
  (114, [.agg [.int .i64 5, .int .i64 0, .bool false, .nilsl, .nilsl, .str [], .isl 2 [.int .i64 9, .int .i64 2, .bool false, .nilsl, .nilsl, .str [], .isl 1 [.int .i64 2, .int .i64 0, .bool false, .nilsl, .nilsl, .str [120], .nilsl] (some 1), .int .i64 1, .int .i64 0, .bool false, .isl 1 [.int .u32 1] none, .nilsl, .str [], .nilsl] (some 2), .bool false, .isl 1 [.str [120], .bool false, .nilsl, .nilsl, .bool false, .isl 1 [.int .u32 1] none, .nilsl, .bool false, .bool false] (some 1), .nilsl]], .agg [.int .i64 5, .int .i64 0, .bool false, .nilsl, .nilsl, .str [], .isl 2 [.int .i64 9, .int .i64 2, .bool false, .nilsl, .nilsl, .str [], .isl 1 [.int .i64 2, .int .i64 0, .bool false, .nilsl, .nilsl, .str [120], .nilsl] none, .int .i64 1, .int .i64 0, .bool false, .isl 1 [.int .u32 1] none, .nilsl, .str [], .nilsl] none, .bool false, .isl 1 [.str [120], .bool false, .nilsl, .nilsl, .bool false, .isl 1 [.int .u32 1] none, .nilsl, .bool false, .bool false] none, .nilsl]),
  (107, [.agg [.bool false, .nilsl, .nilsl]], .bool true),
  (471, [.agg [.bool false, .nilsl, .isl 1 [.int .u32 1, .int .u32 0] (some 2)], .int .i64 4, .bool false], .agg [.bool false, .nilsl, .isl 1 [.int .u32 1, .int .u32 0] (some 2)]),
  (145, [.agg [.bool false, .isl 1 [.int .u32 1] none, .isl 1 [.int .u32 1, .int .u32 0] (some 2)], .agg [.bool false, .isl 1 [.int .u32 2] none, .isl 1 [.int .u32 1, .int .u32 0] (some 2)]], .int .i64 (-1)),
  (448, [.agg [.bool false, .isl 1 [.int .u32 1] (some 1), .isl 1 [.int .u32 1] (some 1), .bool false, .isl 1 [.int .u32 2] (some 1), .isl 1 [.int .u32 1] (some 1), .bool false, .bool false, .bool false]], .agg [.bool false, .isl 1 [.int .u32 1] none, .nilsl, .bool false, .isl 1 [.int .u32 2] none, .nilsl, .bool false, .bool false]),
  (125, [.agg [.int .i64 2, .int .i64 0, .bool false, .nilsl, .nilsl, .str [120], .nilsl]], .bool true),
  (110, [.agg [.str [114, 97, 110, 103, 101], .str [112], .int .i64 0, .func 156 [] []], .agg [.int .i64 1, .str [], .str [], .bool false, .nilsl, .nilsl, .int .i64 0, .int .i64 0, .int .i64 4, .int .i64 0, .int .i64 0, .bool false, .nilsl, .nilsl, .str [], .nilsl, .nilsl, .str [], .int .i64 0, .nilsl, .nilsl]], .bool true),
  (184, [.bool false, .isl 1 [.int .u32 16] (some 1), .isl 1 [.int .u32 16, .int .u32 0] (some 2)], .agg [.bool false, .isl 1 [.int .u32 1] (some 1), .isl 1 [.int .u32 1] (some 1)]),
  (99, [.agg [.int .i64 2, .int .i64 0, .bool false, .nilsl, .nilsl, .str [120], .nilsl], .int .i64 3, .int .i64 2], .int .i64 3),
  (373, [.agg [.bool false, .nilsl, .isl 1 [.int .u32 1, .int .u32 0] (some 2)], .agg [.bool false, .isl 1 [.int .u32 1] none, .isl 1 [.int .u32 1, .int .u32 0] (some 2)]], .agg [.bool false, .isl 1 [.int .u32 1, .int .u32 0] (some 2), .isl 1 [.int .u32 1, .int .u32 0] (some 2)])]
def t11 : Tab := d11 ++ t10
def d12 : Tab := [
  (448, [.agg [.bool false, .nilsl, .isl 1 [.int .u32 1, .int .u32 0] (some 2), .bool false, .isl 1 [.int .u32 1] (some 1), .isl 1 [.int .u32 1] (some 1), .bool false, .bool false, .bool false]], .agg [.bool false, .nilsl, .nilsl, .bool false, .isl 1 [.int .u32 1] none, .nilsl, .bool false, .bool false]),
  (110, [.agg [.str [101, 109, 112, 116, 121], .str [107, 112], .int .i64 0, .func 160 [] []], .agg [.int .i64 5, .str [], .str [], .bool false, .nilsl, .nilsl, .int .i64 0, .int .i64 0, .int .i64 4, .int .i64 0, .int .i64 0, .bool false, .nilsl, .nilsl, .str [], .nilsl, .nilsl, .str [], .int .i64 0, .nilsl, .nilsl]], .bool true),
  (184, [.bool false, .isl 1 [.int .u32 32] (some 1), .isl 1 [.int .u32 16, .int .u32 0] (some 2)], .agg [.bool false, .isl 1 [.int .u32 2] (some 1), .isl 1 [.int .u32 1] (some 1)]),
  (373, [.agg [.bool false, .isl 1 [.int .u32 1] none, .isl 1 [.int .u32 1, .int .u32 0] (some 2)], .agg [.bool false, .isl 1 [.int .u32 1] none, .isl 1 [.int .u32 1, .int .u32 0] (some 2)]], .agg [.bool false, .isl 1 [.int .u32 2, .int .u32 0] (some 2), .isl 1 [.int .u32 1, .int .u32 0] (some 2)]),
  (149, [.agg [.bool false, .isl 1 [.int .u32 1] none, .nilsl]], .tup [.agg [.bool false, .isl 1 [.int .u32 1] none, .isl 1 [.int .u32 1, .int .u32 0] (some 2)], .bool true]),
  (149, [.agg [.bool false, .isl 1 [.int .u32 2] none, .nilsl]], .tup [.agg [.bool false, .isl 1 [.int .u32 2] none, .isl 1 [.int .u32 1, .int .u32 0] (some 2)], .bool true]),
  (99, [.agg [.int .i64 9, .int .i64 2, .bool false, .nilsl, .nilsl, .str [], .isl 1 [.int .i64 2, .int .i64 0, .bool false, .nilsl, .nilsl, .str [120], .nilsl] (some 1)], .int .i64 2, .int .i64 1], .int .i64 3),
  (144, [.agg [.bool false, .isl 1 [.int .u32 1] none, .nilsl]], .agg [.bool false, .isl 1 [.int .u32 1] none, .isl 1 [.int .u32 1, .int .u32 0] (some 2)]),
  (144, [.agg [.bool false, .isl 1 [.int .u32 2] none, .nilsl]], .agg [.bool false, .isl 1 [.int .u32 2] none, .isl 1 [.int .u32 1, .int .u32 0] (some 2)]),
  (125, [.agg [.int .i64 1, .int .i64 0, .bool false, .isl 1 [.int .u32 1] none, .nilsl, .str [], .nilsl]], .bool true),
  (413, [.agg [.bool false, .nilsl, .isl 1 [.int .u32 1, .int .u32 0] (some 2), .bool false, .isl 1 [.int .u32 1] none, .isl 1 [.int .u32 1, .int .u32 0] (some 2), .bool false, .bool false, .bool false], .int .i64 2], .agg [.bool false, .nilsl, .isl 1 [.int .u32 1, .int .u32 0] (some 2), .bool false, .isl 1 [.int .u32 1, .int .u32 0] (some 2), .isl 1 [.int .u32 1, .int .u32 0] (some 2), .bool false, .bool false, .bool false]),
  (99, [.agg [.int .i64 1, .int .i64 0, .bool false, .isl 1 [.int .u32 1] none, .nilsl, .str [], .nilsl], .int .i64 2, .int .i64 3], .int .i64 4),
  (89, [.agg [.int .i64 1, .str [], .str [], .bool false, .nilsl, .nilsl, .int .i64 0, .int .i64 0, .int .i64 4, .int .i64 0, .int .i64 0, .bool false, .nilsl, .nilsl, .str [], .nilsl, .nilsl, .str [], .int .i64 0, .nilsl, .nilsl]], .bool true),
  (89, [.agg [.int .i64 5, .str [], .str [], .bool false, .nilsl, .nilsl, .int .i64 0, .int .i64 0, .int .i64 4, .int .i64 0, .int .i64 0, .bool false, .nilsl, .nilsl, .str [], .nilsl, .nilsl, .str [], .int .i64 0, .nilsl, .nilsl]], .bool true),
  (17, [.agg [.int .i64 1, .str [], .str [], .bool false, .nilsl, .nilsl, .int .i64 0, .int .i64 0, .int .i64 4, .int .i64 0, .int .i64 0, .bool false, .nilsl, .nilsl, .str [], .nilsl, .nilsl, .str [], .int .i64 0, .nilsl, .nilsl], .func 89 [] []], .bool true),
  (124, [.agg [.bool false, .isl 1 [.int .u32 1] none, .nilsl, .bool false, .isl 1 [.int .u32 1] none, .nilsl, .bool false, .bool false]], .agg [.bool false, .isl 1 [.int .u32 1] none, .isl 1 [.int .u32 1, .int .u32 0] (some 2), .bool false, .isl 1 [.int .u32 1] none, .isl 1 [.int .u32 1, .int .u32 0] (some 2), .bool false, .bool false, .bool false])]
def t12 : Tab := d12 ++ t11
def d13 : Tab := [
  (441, [.agg [.bool false, .nilsl, .isl 1 [.int .u32 1, .int .u32 0] (some 2), .bool false, .isl 1 [.int .u32 1] none, .isl 1 [.int .u32 1, .int .u32 0] (some 2), .bool false, .bool false, .bool false], .agg [.bool false, .isl 1 [.int .u32 1] none, .isl 1 [.int .u32 1, .int .u32 0] (some 2), .bool false, .isl 1 [.int .u32 1] none, .isl 1 [.int .u32 1, .int .u32 0] (some 2), .bool false, .bool false, .bool false]], .agg [.bool false, .isl 1 [.int .u32 1, .int .u32 0] (some 2), .isl 1 [.int .u32 1, .int .u32 0] (some 2), .bool false, .isl 1 [.int .u32 2, .int .u32 0] (some 2), .isl 1 [.int .u32 1, .int .u32 0] (some 2), .bool false, .bool false, .bool false]),
  (17, [.agg [.int .i64 5, .str [], .str [], .bool false, .nilsl, .nilsl, .int .i64 0, .int .i64 0, .int .i64 4, .int .i64 0, .int .i64 0, .bool false, .nilsl, .nilsl, .str [], .nilsl, .nilsl, .str [], .int .i64 0, .nilsl, .nilsl], .func 89 [] []], .bool true),
  (124, [.agg [.bool false, .nilsl, .nilsl, .bool false, .isl 1 [.int .u32 1] none, .nilsl, .bool false, .bool false]], .agg [.bool false, .nilsl, .isl 1 [.int .u32 1, .int .u32 0] (some 2), .bool false, .isl 1 [.int .u32 1] none, .isl 1 [.int .u32 1, .int .u32 0] (some 2), .bool false, .bool false, .bool false]),
  (471, [.agg [.bool false, .isl 1 [.int .u32 1, .int .u32 0] (some 2), .isl 1 [.int .u32 1, .int .u32 0] (some 2)], .int .i64 4, .bool false], .agg [.bool false, .isl 1 [.int .u32 1] (some 1), .isl 1 [.int .u32 1] (some 1)]),
  (69, [.agg [.int .i64 5, .str [], .str [], .bool false, .nilsl, .nilsl, .int .i64 0, .int .i64 0, .int .i64 4, .int .i64 0, .int .i64 0, .bool false, .nilsl, .nilsl, .str [], .nilsl, .nilsl, .str [], .int .i64 0, .nilsl, .nilsl]], .int .i64 0),
  (471, [.agg [.bool false, .isl 1 [.int .u32 1] none, .isl 1 [.int .u32 1, .int .u32 0] (some 2)], .int .i64 4, .bool false], .agg [.bool false, .isl 1 [.int .u32 1] (some 1), .isl 1 [.int .u32 1] (some 1)]),
  (471, [.agg [.bool false, .isl 1 [.int .u32 1, .int .u32 0] (some 2), .isl 1 [.int .u32 1, .int .u32 0] (some 2)], .int .i64 4, .bool true], .agg [.bool false, .isl 1 [.int .u32 1] (some 1), .isl 1 [.int .u32 1] (some 1)]),
  (98, [.agg [.bool false, .nilsl, .nilsl, .bool false, .isl 1 [.int .u32 1] none, .nilsl, .bool false, .bool false]], .tup [.bool false, .int .i64 0]),
  (69, [.agg [.int .i64 1, .str [], .str [], .bool false, .nilsl, .nilsl, .int .i64 0, .int .i64 0, .int .i64 4, .int .i64 0, .int .i64 0, .bool false, .nilsl, .nilsl, .str [], .nilsl, .nilsl, .str [], .int .i64 0, .nilsl, .nilsl]], .int .i64 0),
  (471, [.agg [.bool false, .isl 1 [.int .u32 1] none, .isl 1 [.int .u32 1, .int .u32 0] (some 2)], .int .i64 4, .bool true], .agg [.bool false, .isl 1 [.int .u32 1] (some 1), .isl 1 [.int .u32 1] (some 1)]),
  (415, [.agg [.bool false, .isl 1 [.int .u32 1] none, .isl 1 [.int .u32 1, .int .u32 0] (some 2), .bool false, .isl 1 [.int .u32 1] none, .isl 1 [.int .u32 1, .int .u32 0] (some 2), .bool false, .bool false, .bool false], .int .i64 4], .agg [.bool false, .isl 1 [.int .u32 1] (some 1), .isl 1 [.int .u32 1] (some 1), .bool false, .isl 1 [.int .u32 1] (some 1), .isl 1 [.int .u32 1] (some 1), .bool false, .bool false, .bool false]),
  (392, [.agg [.bool false, .isl 1 [.int .u32 1] none, .nilsl, .bool false, .isl 1 [.int .u32 1] none, .nilsl, .bool false, .bool false], .func 393 [] []], .tup [.agg [.bool false, .isl 1 [.int .u32 1] none, .nilsl, .bool false, .isl 1 [.int .u32 1] none, .nilsl, .bool false, .bool false], .int .i64 0]),
  (471, [.agg [.bool false, .isl 1 [.int .u32 2, .int .u32 0] (some 2), .isl 1 [.int .u32 1, .int .u32 0] (some 2)], .int .i64 4, .bool true], .agg [.bool false, .isl 1 [.int .u32 2] (some 1), .isl 1 [.int .u32 1] (some 1)]),
  (329, [.agg [.bool false, .isl 1 [.int .u32 1] none, .nilsl, .bool false, .isl 1 [.int .u32 1] none, .nilsl, .bool false, .bool false]], .tup [.agg [.bool false, .isl 1 [.int .u32 1] none, .nilsl, .bool false, .isl 1 [.int .u32 1] none, .nilsl, .bool false, .bool false], .int .i64 0]),
  (241, [.agg [.bool false, .isl 1 [.int .u32 1] none, .nilsl], .agg [.bool false, .isl 1 [.int .u32 1] none, .nilsl]], .tup [.agg [.bool false, .isl 1 [.int .u32 1] none, .nilsl, .bool false, .isl 1 [.int .u32 1] none, .nilsl, .bool false, .bool false], .int .i64 0]),
  (124, [.agg [.bool false, .isl 1 [.int .u32 1] none, .nilsl, .bool false, .isl 1 [.int .u32 2] none, .nilsl, .bool false, .bool false]], .agg [.bool false, .isl 1 [.int .u32 1] none, .isl 1 [.int .u32 1, .int .u32 0] (some 2), .bool false, .isl 1 [.int .u32 2] none, .isl 1 [.int .u32 1, .int .u32 0] (some 2), .bool false, .bool false, .bool false])]
def t13 : Tab := d13 ++ t12
def d14 : Tab := [
  (415, [.agg [.bool false, .nilsl, .isl 1 [.int .u32 1, .int .u32 0] (some 2), .bool false, .isl 1 [.int .u32 1, .int .u32 0] (some 2), .isl 1 [.int .u32 1, .int .u32 0] (some 2), .bool false, .bool false, .bool false], .int .i64 4], .agg [.bool false, .nilsl, .isl 1 [.int .u32 1, .int .u32 0] (some 2), .bool false, .isl 1 [.int .u32 1] (some 1), .isl 1 [.int .u32 1] (some 1), .bool false, .bool false, .bool false]),
  (347, [.agg [.bool false, .isl 1 [.int .u32 1] none, .nilsl]], .tup [.agg [.bool false, .isl 1 [.int .u32 1] none, .nilsl, .bool false, .isl 1 [.int .u32 1] none, .nilsl, .bool false, .bool false], .int .i64 0]),
  (415, [.agg [.bool false, .nilsl, .isl 1 [.int .u32 1, .int .u32 0] (some 2), .bool false, .isl 1 [.int .u32 1] none, .isl 1 [.int .u32 1, .int .u32 0] (some 2), .bool false, .bool false, .bool false], .int .i64 4], .agg [.bool false, .nilsl, .isl 1 [.int .u32 1, .int .u32 0] (some 2), .bool false, .isl 1 [.int .u32 1] (some 1), .isl 1 [.int .u32 1] (some 1), .bool false, .bool false, .bool false]),
  (84, [.isl 1 [.str [120], .bool false, .nilsl, .nilsl, .bool false, .isl 1 [.int .u32 1] none, .nilsl, .bool false, .bool false] (some 1)], .bool true),
  (223, [.agg [.bool false, .isl 1 [.int .u32 1] none, .nilsl, .bool false, .isl 1 [.int .u32 2] none, .nilsl, .bool false, .bool false]], .tup [.int .i64 2, .int .i64 0]),
  (99, [.agg [.int .i64 5, .int .i64 0, .bool false, .nilsl, .nilsl, .str [], .isl 2 [.int .i64 9, .int .i64 2, .bool false, .nilsl, .nilsl, .str [], .isl 1 [.int .i64 2, .int .i64 0, .bool false, .nilsl, .nilsl, .str [120], .nilsl] (some 1), .int .i64 1, .int .i64 0, .bool false, .isl 1 [.int .u32 1] none, .nilsl, .str [], .nilsl] (some 2)], .int .i64 1, .int .i64 0], .int .i64 4),
  (85, [.agg [.int .i64 5, .int .i64 0, .bool false, .nilsl, .nilsl, .str [], .isl 2 [.int .i64 9, .int .i64 2, .bool false, .nilsl, .nilsl, .str [], .isl 1 [.int .i64 2, .int .i64 0, .bool false, .nilsl, .nilsl, .str [120], .nilsl] (some 1), .int .i64 1, .int .i64 0, .bool false, .isl 1 [.int .u32 1] none, .nilsl, .str [], .nilsl] (some 2)]], .bool true),
  (415, [.agg [.bool false, .isl 1 [.int .u32 1, .int .u32 0] (some 2), .isl 1 [.int .u32 1, .int .u32 0] (some 2), .bool false, .isl 1 [.int .u32 2, .int .u32 0] (some 2), .isl 1 [.int .u32 1, .int .u32 0] (some 2), .bool false, .bool false, .bool false], .int .i64 4], .agg [.bool false, .isl 1 [.int .u32 1] (some 1), .isl 1 [.int .u32 1] (some 1), .bool false, .isl 1 [.int .u32 2] (some 1), .isl 1 [.int .u32 1] (some 1), .bool false, .bool false, .bool false]),
  (100, [.agg [.int .i64 5, .int .i64 0, .bool false, .nilsl, .nilsl, .str [], .isl 2 [.int .i64 9, .int .i64 2, .bool false, .nilsl, .nilsl, .str [], .isl 1 [.int .i64 2, .int .i64 0, .bool false, .nilsl, .nilsl, .str [120], .nilsl] (some 1), .int .i64 1, .int .i64 0, .bool false, .isl 1 [.int .u32 1] none, .nilsl, .str [], .nilsl] (some 2)]], .tup [.isl 1 [.str [120]] none, .int .i64 0]),
  (86, [.agg [.int .i64 5, .int .i64 0, .bool false, .nilsl, .nilsl, .str [], .isl 2 [.int .i64 9, .int .i64 2, .bool false, .nilsl, .nilsl, .str [], .isl 1 [.int .i64 2, .int .i64 0, .bool false, .nilsl, .nilsl, .str [120], .nilsl] (some 1), .int .i64 1, .int .i64 0, .bool false, .isl 1 [.int .u32 1] none, .nilsl, .str [], .nilsl] (some 2)], .isl 1 [.str [120], .bool false, .nilsl, .nilsl, .bool false, .isl 1 [.int .u32 1] none, .nilsl, .bool false, .bool false] (some 1)], .bool true),
  (356, [.agg [.bool false, .isl 1 [.int .u32 1] none, .nilsl, .bool false, .isl 1 [.int .u32 1] none, .nilsl, .bool false, .bool false], .int .i64 4], .tup [.agg [.bool false, .isl 1 [.int .u32 1] none, .nilsl, .bool false, .isl 1 [.int .u32 1] none, .nilsl, .bool false, .bool false], .int .i64 0]),
  (269, [.agg [.int .i64 5, .int .i64 0, .bool false, .nilsl, .nilsl, .str [], .isl 2 [.int .i64 9, .int .i64 2, .bool false, .nilsl, .nilsl, .str [], .isl 1 [.int .i64 2, .int .i64 0, .bool false, .nilsl, .nilsl, .str [120], .nilsl] (some 1), .int .i64 1, .int .i64 0, .bool false, .isl 1 [.int .u32 1] none, .nilsl, .str [], .nilsl] (some 2)], .isl 1 [.str [120], .bool false, .nilsl, .nilsl, .bool false, .isl 1 [.int .u32 1] none, .nilsl, .bool false, .bool false] (some 1), .int .i64 4], .int .i64 0),
  (68, [.agg [.int .i64 5, .int .i64 0, .bool false, .nilsl, .nilsl, .str [], .isl 2 [.int .i64 9, .int .i64 2, .bool false, .nilsl, .nilsl, .str [], .isl 1 [.int .i64 2, .int .i64 0, .bool false, .nilsl, .nilsl, .str [120], .nilsl] (some 1), .int .i64 1, .int .i64 0, .bool false, .isl 1 [.int .u32 1] none, .nilsl, .str [], .nilsl] (some 2), .bool false, .isl 1 [.str [120], .bool false, .nilsl, .nilsl, .bool false, .isl 1 [.int .u32 1] none, .nilsl, .bool false, .bool false] (some 1), .nilsl]], .bool true),
  (113, [.agg [.int .i64 5, .int .i64 0, .bool false, .nilsl, .nilsl, .str [], .isl 2 [.int .i64 9, .int .i64 2, .bool false, .nilsl, .nilsl, .str [], .isl 1 [.int .i64 2, .int .i64 0, .bool false, .nilsl, .nilsl, .str [120], .nilsl] (some 1), .int .i64 1, .int .i64 0, .bool false, .isl 1 [.int .u32 1] none, .nilsl, .str [], .nilsl] (some 2), .bool false, .isl 1 [.str [120], .bool false, .nilsl, .nilsl, .bool false, .isl 1 [.int .u32 1] none, .nilsl, .bool false, .bool false] (some 1), .nilsl], .agg [.int .i64 5, .int .i64 0, .bool false, .nilsl, .nilsl, .str [], .isl 2 [.int .i64 9, .int .i64 2, .bool false, .nilsl, .nilsl, .str [], .isl 1 [.int .i64 2, .int .i64 0, .bool false, .nilsl, .nilsl, .str [120], .nilsl] (some 1), .int .i64 1, .int .i64 0, .bool false, .isl 1 [.int .u32 1] none, .nilsl, .str [], .nilsl] (some 2)]], .int .i64 0),
  (398, [.agg [.bool false, .isl 1 [.int .u32 1] none, .nilsl], .int .i64 4], .tup [.agg [.bool false, .isl 1 [.int .u32 1] none, .nilsl, .bool false, .isl 1 [.int .u32 1] none, .nilsl, .bool false, .bool false], .int .i64 0]),
  (356, [.agg [.bool false, .nilsl, .nilsl, .bool false, .isl 1 [.int .u32 1] none, .nilsl, .bool false, .bool false], .int .i64 4], .tup [.agg [.bool false, .nilsl, .nilsl, .bool false, .isl 1 [.int .u32 1] none, .nilsl, .bool false, .bool false], .int .i64 0])]
def t14 : Tab := d14 ++ t13
def d15 : Tab := [
  (341, [.agg [.int .i64 1, .int .i64 0, .bool false, .isl 1 [.int .u32 1] none, .nilsl, .str [], .nilsl], .isl 1 [.str [120], .bool false, .nilsl, .nilsl, .bool false, .isl 1 [.int .u32 1] none, .nilsl, .bool false, .bool false] (some 1), .int .i64 4], .tup [.agg [.bool false, .isl 1 [.int .u32 1] none, .nilsl, .bool false, .isl 1 [.int .u32 1] none, .nilsl, .bool false, .bool false], .int .i64 0]),
  (263, [.agg [.int .i64 1, .int .i64 0, .bool false, .isl 1 [.int .u32 1] none, .nilsl, .str [], .nilsl], .isl 1 [.str [120], .bool false, .nilsl, .nilsl, .bool false, .isl 1 [.int .u32 1] none, .nilsl, .bool false, .bool false] (some 1), .int .i64 4], .tup [.agg [.bool false, .isl 1 [.int .u32 1] none, .nilsl, .bool false, .isl 1 [.int .u32 1] none, .nilsl, .bool false, .bool false], .int .i64 0]),
  (91, [.agg [.int .i64 5, .int .i64 0, .bool false, .nilsl, .nilsl, .str [], .isl 2 [.int .i64 9, .int .i64 2, .bool false, .nilsl, .nilsl, .str [], .isl 1 [.int .i64 2, .int .i64 0, .bool false, .nilsl, .nilsl, .str [120], .nilsl] (some 1), .int .i64 1, .int .i64 0, .bool false, .isl 1 [.int .u32 1] none, .nilsl, .str [], .nilsl] (some 2), .bool false, .isl 1 [.str [120], .bool false, .nilsl, .nilsl, .bool false, .isl 1 [.int .u32 1] none, .nilsl, .bool false, .bool false] (some 1), .nilsl], .agg [.int .i64 5, .int .i64 0, .bool false, .nilsl, .nilsl, .str [], .isl 2 [.int .i64 9, .int .i64 2, .bool false, .nilsl, .nilsl, .str [], .isl 1 [.int .i64 2, .int .i64 0, .bool false, .nilsl, .nilsl, .str [120], .nilsl] (some 1), .int .i64 1, .int .i64 0, .bool false, .isl 1 [.int .u32 1] none, .nilsl, .str [], .nilsl] (some 2)], .bool false], .tup [.agg [.int .i64 5, .int .i64 0, .bool false, .nilsl, .nilsl, .str [], .isl 2 [.int .i64 9, .int .i64 2, .bool false, .nilsl, .nilsl, .str [], .isl 1 [.int .i64 2, .int .i64 0, .bool false, .nilsl, .nilsl, .str [120], .nilsl] none, .int .i64 1, .int .i64 0, .bool false, .isl 1 [.int .u32 1] none, .nilsl, .str [], .nilsl] none, .bool false, .isl 1 [.str [120], .bool false, .nilsl, .nilsl, .bool false, .isl 1 [.int .u32 1] none, .nilsl, .bool false, .bool false] none, .nilsl], .int .i64 0]),
  (90, [.nilsl, .agg [.int .i64 5, .int .i64 0, .bool false, .nilsl, .nilsl, .str [], .isl 2 [.int .i64 9, .int .i64 2, .bool false, .nilsl, .nilsl, .str [], .isl 1 [.int .i64 2, .int .i64 0, .bool false, .nilsl, .nilsl, .str [120], .nilsl] (some 1), .int .i64 1, .int .i64 0, .bool false, .isl 1 [.int .u32 1] none, .nilsl, .str [], .nilsl] (some 2), .bool false, .isl 1 [.str [120], .bool false, .nilsl, .nilsl, .bool false, .isl 1 [.int .u32 1] none, .nilsl, .bool false, .bool false] (some 1), .nilsl], .agg [.int .i64 5, .str [], .str [], .bool false, .nilsl, .nilsl, .int .i64 0, .int .i64 0, .int .i64 4, .int .i64 0, .int .i64 0, .bool false, .nilsl, .nilsl, .str [], .nilsl, .nilsl, .str [], .int .i64 0, .nilsl, .nilsl]], .tup [.nilsl, .int .i64 71]),
  (341, [.agg [.int .i64 2, .int .i64 0, .bool false, .nilsl, .nilsl, .str [120], .nilsl], .isl 1 [.str [120], .bool false, .nilsl, .nilsl, .bool false, .isl 1 [.int .u32 1] none, .nilsl, .bool false, .bool false] (some 1), .int .i64 4], .tup [.agg [.bool false, .nilsl, .nilsl, .bool false, .isl 1 [.int .u32 1] none, .nilsl, .bool false, .bool false], .int .i64 0]),
  (263, [.agg [.int .i64 2, .int .i64 0, .bool false, .nilsl, .nilsl, .str [120], .nilsl], .isl 1 [.str [120], .bool false, .nilsl, .nilsl, .bool false, .isl 1 [.int .u32 1] none, .nilsl, .bool false, .bool false] (some 1), .int .i64 4], .tup [.agg [.bool false, .nilsl, .nilsl, .bool false, .isl 1 [.int .u32 1] none, .nilsl, .bool false, .bool false], .int .i64 0]),
  (23, [.nilsl, .agg [.int .i64 5, .int .i64 0, .bool false, .nilsl, .nilsl, .str [], .isl 2 [.int .i64 9, .int .i64 2, .bool false, .nilsl, .nilsl, .str [], .isl 1 [.int .i64 2, .int .i64 0, .bool false, .nilsl, .nilsl, .str [120], .nilsl] (some 1), .int .i64 1, .int .i64 0, .bool false, .isl 1 [.int .u32 1] none, .nilsl, .str [], .nilsl] (some 2), .bool false, .isl 1 [.str [120], .bool false, .nilsl, .nilsl, .bool false, .isl 1 [.int .u32 1] none, .nilsl, .bool false, .bool false] (some 1), .nilsl], .agg [.int .i64 5, .str [], .str [], .bool false, .nilsl, .nilsl, .int .i64 0, .int .i64 0, .int .i64 4, .int .i64 0, .int .i64 0, .bool false, .nilsl, .nilsl, .str [], .nilsl, .nilsl, .str [], .int .i64 0, .nilsl, .nilsl]], .agg [.int .i64 71, .nilsl, .int .i64 0]),
  (348, [.agg [.bool false, .nilsl, .nilsl, .bool false, .isl 1 [.int .u32 1] none, .nilsl, .bool false, .bool false], .int .i64 2, .int .i64 4], .tup [.agg [.bool false, .nilsl, .nilsl, .bool false, .isl 1 [.int .u32 1] none, .nilsl, .bool false, .bool false], .int .i64 0]),
  (263, [.agg [.int .i64 9, .int .i64 2, .bool false, .nilsl, .nilsl, .str [], .isl 1 [.int .i64 2, .int .i64 0, .bool false, .nilsl, .nilsl, .str [120], .nilsl] (some 1)], .isl 1 [.str [120], .bool false, .nilsl, .nilsl, .bool false, .isl 1 [.int .u32 1] none, .nilsl, .bool false, .bool false] (some 1), .int .i64 4], .tup [.agg [.bool false, .nilsl, .nilsl, .bool false, .isl 1 [.int .u32 1] none, .nilsl, .bool false, .bool false], .int .i64 0]),
  (408, [.agg [.bool false, .nilsl, .nilsl, .bool false, .isl 1 [.int .u32 1] none, .nilsl, .bool false, .bool false], .agg [.bool false, .isl 1 [.int .u32 1] none, .nilsl, .bool false, .isl 1 [.int .u32 1] none, .nilsl, .bool false, .bool false], .int .i64 4, .func 441 [] []], .tup [.agg [.bool false, .isl 1 [.int .u32 1] none, .nilsl, .bool false, .isl 1 [.int .u32 2] none, .nilsl, .bool false, .bool false], .int .i64 0]),
  (405, [.agg [.bool false, .nilsl, .nilsl, .bool false, .isl 1 [.int .u32 1] none, .nilsl, .bool false, .bool false], .agg [.bool false, .isl 1 [.int .u32 1] none, .nilsl, .bool false, .isl 1 [.int .u32 1] none, .nilsl, .bool false, .bool false], .int .i64 4], .tup [.agg [.bool false, .isl 1 [.int .u32 1] none, .nilsl, .bool false, .isl 1 [.int .u32 2] none, .nilsl, .bool false, .bool false], .int .i64 0]),
  (263, [.agg [.int .i64 5, .int .i64 0, .bool false, .nilsl, .nilsl, .str [], .isl 2 [.int .i64 9, .int .i64 2, .bool false, .nilsl, .nilsl, .str [], .isl 1 [.int .i64 2, .int .i64 0, .bool false, .nilsl, .nilsl, .str [120], .nilsl] (some 1), .int .i64 1, .int .i64 0, .bool false, .isl 1 [.int .u32 1] none, .nilsl, .str [], .nilsl] (some 2)], .isl 1 [.str [120], .bool false, .nilsl, .nilsl, .bool false, .isl 1 [.int .u32 1] none, .nilsl, .bool false, .bool false] (some 1), .int .i64 4], .tup [.agg [.bool false, .isl 1 [.int .u32 1] none, .nilsl, .bool false, .isl 1 [.int .u32 2] none, .nilsl, .bool false, .bool false], .int .i64 0]),
  (224, [.agg [.int .i64 5, .int .i64 0, .bool false, .nilsl, .nilsl, .str [], .isl 2 [.int .i64 9, .int .i64 2, .bool false, .nilsl, .nilsl, .str [], .isl 1 [.int .i64 2, .int .i64 0, .bool false, .nilsl, .nilsl, .str [120], .nilsl] (some 1), .int .i64 1, .int .i64 0, .bool false, .isl 1 [.int .u32 1] none, .nilsl, .str [], .nilsl] (some 2)], .isl 1 [.str [120], .bool false, .nilsl, .nilsl, .bool false, .isl 1 [.int .u32 1] none, .nilsl, .bool false, .bool false] (some 1), .int .i64 4], .tup [.agg [.bool false, .isl 1 [.int .u32 1] none, .nilsl, .bool false, .isl 1 [.int .u32 2] none, .nilsl, .bool false, .bool false], .int .i64 0]),
  (90, [.nilsl, .agg [.int .i64 5, .int .i64 0, .bool false, .nilsl, .nilsl, .str [], .isl 2 [.int .i64 9, .int .i64 2, .bool false, .nilsl, .nilsl, .str [], .isl 1 [.int .i64 2, .int .i64 0, .bool false, .nilsl, .nilsl, .str [120], .nilsl] (some 1), .int .i64 1, .int .i64 0, .bool false, .isl 1 [.int .u32 1] none, .nilsl, .str [], .nilsl] (some 2), .bool false, .isl 1 [.str [120], .bool false, .nilsl, .nilsl, .bool false, .isl 1 [.int .u32 1] none, .nilsl, .bool false, .bool false] (some 1), .nilsl], .agg [.int .i64 1, .str [], .str [], .bool false, .nilsl, .nilsl, .int .i64 0, .int .i64 0, .int .i64 4, .int .i64 0, .int .i64 0, .bool false, .nilsl, .nilsl, .str [], .nilsl, .nilsl, .str [], .int .i64 0, .nilsl, .nilsl]], .tup [.nilsl, .int .i64 0]),
  (23, [.nilsl, .agg [.int .i64 5, .int .i64 0, .bool false, .nilsl, .nilsl, .str [], .isl 2 [.int .i64 9, .int .i64 2, .bool false, .nilsl, .nilsl, .str [], .isl 1 [.int .i64 2, .int .i64 0, .bool false, .nilsl, .nilsl, .str [120], .nilsl] (some 1), .int .i64 1, .int .i64 0, .bool false, .isl 1 [.int .u32 1] none, .nilsl, .str [], .nilsl] (some 2), .bool false, .isl 1 [.str [120], .bool false, .nilsl, .nilsl, .bool false, .isl 1 [.int .u32 1] none, .nilsl, .bool false, .bool false] (some 1), .nilsl], .agg [.int .i64 1, .str [], .str [], .bool false, .nilsl, .nilsl, .int .i64 0, .int .i64 0, .int .i64 4, .int .i64 0, .int .i64 0, .bool false, .nilsl, .nilsl, .str [], .nilsl, .nilsl, .str [], .int .i64 0, .nilsl, .nilsl]], .agg [.int .i64 0, .nilsl, .int .i64 1]),
  (9, [], .bool true)]
def t15 : Tab := d15 ++ t14
def tA : Tab := t15
end Go.Proofs.YtlmifjdbjhcceaaGreatDoor
