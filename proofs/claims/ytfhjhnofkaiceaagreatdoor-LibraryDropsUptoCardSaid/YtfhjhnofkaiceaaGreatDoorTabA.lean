import Derived.Test.YtfhjhnofkaiceaaGreatDoorGxE
import Derived.Test.YtfhjhnofkaiceaaGreatDoorProg
namespace Go.Proofs.YtfhjhnofkaiceaaGreatDoor
open Go Go.Proofs.YtfhjhnofkaiceaaGreatDoor.Gx
def q3:List AV:=[.int .i64 1,.str [],.str [],.bool false,.nilsl,.nilsl,.int .i64 0,.int .i64 0,.int .i64 4,.int .i64 0,.int .i64 0,.bool false,.nilsl,.nilsl,.str [],.nilsl,.nilsl,.str [],.int .i64 0,.nilsl,.nilsl]
def q4:List AV:=[.str [120],.bool false,.nilsl,.nilsl,.bool false,.isl 1 [.int .u32 1] none,.nilsl,.bool false,.bool false]
def q5:List AV:=[.int .u32 1,.int .u32 0]
def q6:List AV:=[.bool false,.isl 1 [.int .u32 1] none,.nilsl,.bool false,.isl 1 [.int .u32 1] none,.nilsl,.bool false,.bool false]
def q7:List AV:=[.int .i64 2,.int .i64 0,.bool false,.nilsl,.nilsl,.str [120],.nilsl]
def q8:List AV:=[.bool false,.nilsl,.nilsl,.bool false,.isl 1 [.int .u32 1] none,.nilsl,.bool false,.bool false]
def q11:List AV:=[.bool false,.isl 1 [.int .u32 1] none,.nilsl,.bool false,.isl 1 [.int .u32 2] none,.nilsl,.bool false,.bool false]
def q12:List AV:=[.bool false,.isl 1 [.int .u32 1] none,.isl 1 q5 (some 2)]
def q13:List AV:=[.int .i64 9,.int .i64 2,.bool false,.nilsl,.nilsl,.str [],.isl 1 q7 none,.int .i64 1,.int .i64 0,.bool false,.isl 1 [.int .u32 1] none,.nilsl,.str [],.nilsl]
def q14:List AV:=[.bool false,.isl 1 [.int .u32 1] none,.isl 1 q5 (some 2),.bool false,.isl 1 [.int .u32 1] none,.isl 1 q5 (some 2),.bool false,.bool false,.bool false]
def q15:List AV:=[.bool false,.isl 1 [.int .u32 1] none,.nilsl]
def q16:List AV:=[.int .i64 1,.int .i64 0,.bool false,.isl 1 [.int .u32 1] none,.nilsl,.str [],.nilsl]
def q17:List AV:=[.bool false,.nilsl,.isl 1 q5 (some 2),.bool false,.isl 1 [.int .u32 1] none,.isl 1 q5 (some 2),.bool false,.bool false,.bool false]
def q18:List AV:=[.bool false,.nilsl,.isl 1 q5 (some 2)]
def q19:List AV:=[.bool false,.isl 1 [.int .u32 1] (some 1),.isl 1 [.int .u32 1] (some 1)]
def q20:List AV:=[.bool false,.nilsl,.nilsl]
def q21:List AV:=[.bool false,.isl 1 [.int .u32 2] none,.isl 1 q5 (some 2)]
def q22:List AV:=[.int .i64 9,.int .i64 2,.bool false,.nilsl,.nilsl,.str [],.isl 1 q7 (some 1)]
def q23:List AV:=[.bool false,.nilsl,.isl 1 q5 (some 2),.bool false,.isl 1 [.int .u32 1] (some 1),.isl 1 [.int .u32 1] (some 1),.bool false,.bool false,.bool false]
def q24:List AV:=[.int .u32 2,.int .u32 0]
def q25:List AV:=[.int .u32 16,.int .u32 0]
def q26:List AV:=[.bool false,.isl 1 [.int .u32 1] none,.isl 1 [.int .u32 1] none]
def q27:List AV:=[.bool false,.isl 1 q5 (some 2),.isl 1 q5 (some 2)]
def q28:List AV:=[.int .i64 5,.int .i64 0,.bool false,.nilsl,.nilsl,.str [],.isl 2 q13 none,.bool false,.isl 1 q4 none,.nilsl]
def q29:List AV:=[.bool false,.isl 1 [.int .u32 2] (some 1),.isl 1 [.int .u32 1] (some 1)]
def q30:List AV:=[.str [114,97,110,103,101],.str [112],.int .i64 0,.func 196 [] []]
def q31:List AV:=[.bool false,.isl 1 [.int .u32 1] (some 1),.isl 1 [.int .u32 1] (some 1),.bool false,.isl 1 [.int .u32 2] (some 1),.isl 1 [.int .u32 1] (some 1),.bool false,.bool false,.bool false]
def q32:List AV:=[.bool false,.isl 1 [.int .u32 1] (some 1),.isl 1 [.int .u32 1] (some 1),.bool false,.isl 1 [.int .u32 1] (some 1),.isl 1 [.int .u32 1] (some 1),.bool false,.bool false,.bool false]
def q33:List AV:=[.bool false,.isl 1 [.int .u32 2] none,.nilsl]
def q34:List AV:=[.bool false,.isl 1 [.int .u32 1] none,.isl 1 q5 (some 2),.bool false,.isl 1 [.int .u32 2] none,.isl 1 q5 (some 2),.bool false,.bool false,.bool false]
def q35:List AV:=[.bool false,.isl 1 q24 (some 2),.isl 1 q5 (some 2)]
def q36:List AV:=[.bool false,.isl 1 q5 (some 2),.isl 1 q5 (some 2),.bool false,.isl 1 q24 (some 2),.isl 1 q5 (some 2),.bool false,.bool false,.bool false]
def q37:List AV:=[.int .i64 0,.int .i64 0,.bool false,.nilsl,.nilsl,.str [],.nilsl]
def q38:List AV:=[.bool false,.nilsl,.isl 1 q5 (some 2),.bool false,.isl 1 q5 (some 2),.isl 1 q5 (some 2),.bool false,.bool false,.bool false]
def q39:List AV:=[.str [115,113,117,97,114,101]]
def q40:List AV:=[.int .u32 32,.int .u32 0]
def q41:List AV:=[.isl 1 [.int .u32 1] (some 1)]
def q42:List AV:=[.isl 1 [.int .u32 1] none]
def q43:List AV:=[.str [115,113,117,97,114,101],.int .i64 1]
def q1:List AV:=[.int .i64 9,.int .i64 2,.bool false,.nilsl,.nilsl,.str [],.isl 1 q7 (some 1),.int .i64 1,.int .i64 0,.bool false,.isl 1 [.int .u32 1] none,.nilsl,.str [],.nilsl]
def q2:List AV:=[.str [115,113,117,97,114,101],.int .i64 1,.int .i64 5,.int .i64 0,.bool false,.nilsl,.nilsl,.str [],.isl 2 q13 none,.bool false,.isl 1 q4 none,.nilsl,.int .i64 1,.str [],.str [],.bool false,.nilsl,.nilsl,.int .i64 0,.int .i64 0,.int .i64 4,.int .i64 0,.int .i64 0,.bool false,.nilsl,.nilsl,.str [],.nilsl,.nilsl,.str [],.int .i64 0,.nilsl,.nilsl]
def q9:List AV:=[.int .i64 5,.int .i64 0,.bool false,.nilsl,.nilsl,.str [],.isl 2 q1 (some 2)]
def q10:List AV:=[.int .i64 5,.int .i64 0,.bool false,.nilsl,.nilsl,.str [],.isl 2 q1 (some 2),.bool false,.isl 1 q4 (some 1),.nilsl]
def tab:List AV:=[.int .u8 0,.int .u8 1,.int .u8 28,.int .u8 2,.int .u8 29,.int .u8 14,.int .u8 24,.int .u8 3,.int .u8 30,.int .u8 22,.int .u8 20,.int .u8 15,.int .u8 25,.int .u8 17,.int .u8 4,.int .u8 8,.int .u8 31,.int .u8 27,.int .u8 13,.int .u8 23,.int .u8 21,.int .u8 19,.int .u8 16,.int .u8 7,.int .u8 26,.int .u8 12,.int .u8 18,.int .u8 6,.int .u8 11,.int .u8 5,.int .u8 10,.int .u8 9]
def G0:Nat->Option (List AV)
 | 0=>some tab
 | _=>none
def X0:FuncId->Option Ent:=fun _=>none
def pol0:FuncId->Bool:=fun _=>true
def fuel0:Nat:=6000
noncomputable def P0:Program:=Tryz.prog
def t0:Tab:=[]
def d1:Tab:=[
 (370,[.nilsl,.int .i64 4],.nilsl),
 (367,[.int .u32 16],.int .i64 4),
 (73,[.int .u64 1],.isl 1 [.int .u32 1] none),
 (70,q42,.isl 1 [.int .u32 1] none),
 (71,[.agg q26],.bool true),
 (9,[.nilsl,.str [115,113,117,97,114,101]],.int .i64 0),
 (109,[.int .u8 115],.bool true),
 (109,[.int .u8 113],.bool true),
 (109,[.int .u8 117],.bool true),
 (109,[.int .u8 97],.bool true),
 (109,[.int .u8 114],.bool true),
 (109,[.int .u8 101],.bool true),
 (137,[],.isl 8 [.str [101,120,112],.str [108,111,103],.str [115,105,110],.str [99,111,115],.str [116,97,110],.str [97,115,105,110],.str [97,99,111,115],.str [97,116,97,110]] (some 8)),
 (109,[.int .u8 120],.bool true),
 (187,[.nilsl],.nilsl),
 (188,[.nilsl],.bool true)]
def t1:Tab:=d1++t0
def d2:Tab:=[
 (187,[.isl 2 q5 (some 2)],.isl 1 q5 (some 2)),
 (222,[.agg q18],.bool true),
 (187,q42,.isl 1 [.int .u32 1] none),
 (188,q42,.bool false),
 (367,[.int .u32 1],.int .i64 0),
 (101,[.int .u32 1],.int .i64 1),
 (222,[.agg q12],.bool true),
 (186,[.int .i64 5],.tup [.int .i64 2,.bool true]),
 (186,[.int .i64 9],.tup [.int .i64 1,.bool true]),
 (186,[.int .i64 2],.tup [.int .i64 0,.bool true]),
 (186,[.int .i64 1],.tup [.int .i64 0,.bool true]),
 (167,[.agg q9],.func 191 [] [.iptr q9]),
 (102,[.int .u64 1],.int .i64 1),
 (285,[.isl 1 [.str [120]] none,.int .i64 0,.int .i64 1],.tup []),
 (143,[.isl 1 q4 (some 1),.str [120]],.int .i64 0),
 (115,[.agg q3],.int .i64 1)]
def t2:Tab:=d2++t1
def d3:Tab:=[
 (145,[.agg q3,.int .i64 1],.int .i64 1),
 (173,[],.isl 21 [.str [114,97,110,103,101],.str [112],.int .i64 0,.func 196 [] [],.str [109,101,97,110],.str [112],.int .i64 0,.func 197 [] [],.str [116,97,121,108,111,114],.str [112],.int .i64 0,.func 198 [] [],.str [108,105,110,101,97,114],.str [112],.int .i64 0,.func 199 [] [],.str [101,109,112,116,121],.str [107,112],.int .i64 0,.func 200 [] [],.str [99,117,116],.str [120,97],.int .i64 2,.func 201 [] [],.str [114,105,115,101],.str [120,112],.int .i64 1,.func 202 [] [],.str [102,97,108,108],.str [120,112],.int .i64 1,.func 203 [] [],.str [99,97,118,101],.str [120,112],.int .i64 2,.func 204 [] [],.str [110,97,114,114,111,119],.str [120,107,110,112],.int .i64 1,.func 205 [] [],.str [98,114,97,110,99,104],.str [112],.int .i64 2,.func 206 [] [],.str [116,117,114,110],.str [120,97],.int .i64 1,.func 207 [] [],.str [115,119,97,112],.str [120,121,112],.int .i64 1,.func 208 [] [],.str [122,101,114,111],.str [113,112],.int .i64 0,.func 209 [] [],.str [108,101,97,100],.str [120,97,110,112],.int .i64 0,.func 210 [] [],.str [115,97,109,101],.str [101,112],.int .i64 1,.func 211 [] [],.str [118,105,97],.str [101],.int .i64 2,.func 212 [] [],.str [115,99,97,108,101],.str [101],.int .i64 2,.func 213 [] [],.str [97,100,100],.str [107,97],.int .i64 1,.func 214 [] [],.str [108,101,109,109,97],.str [108,118,98,112],.int .i64 1,.func 215 [] [],.str [102,97,114],.str [120,110,101,112],.int .i64 1,.func 216 [] []] (some 21)),
 (175,[.nilsl],.nilsl),
 (149,[.agg q30,.int .u8 112],.bool true),
 (149,[.agg q30,.int .u8 101],.bool false),
 (358,[.isl 1 q4 (some 1),.str [120]],.int .i64 0),
 (122,[.nilsl],.nilsl),
 (122,q42,.isl 1 [.int .u32 1] none),
 (447,[.int .i64 4,.int .i64 0,.int .i64 128],.tup []),
 (188,[.isl 1 q5 (some 2)],.bool false),
 (219,[.nilsl,.isl 1 q5 (some 2)],.int .i64 (-1)),
 (187,[.isl 2 q25 (some 2)],.isl 1 q25 (some 2)),
 (219,[.isl 1 q25 (some 2),.isl 1 q5 (some 2)],.int .i64 1),
 (187,[.isl 1 [.int .u32 16] (some 1)],.isl 1 [.int .u32 16] (some 1)),
 (187,[.isl 2 [.int .u32 0,.int .u32 0] (some 2)],.isl 0 [] (some 2)),
 (188,[.isl 0 [] (some 2)],.bool true)]
def t3:Tab:=d3++t2
def d4:Tab:=[
 (188,[.isl 1 [.int .u32 16] (some 1)],.bool false),
 (187,q41,.isl 1 [.int .u32 1] (some 1)),
 (283,[.isl 1 q5 (some 2)],.bool true),
 (217,[.int .i64 0],.tup []),
 (222,[.agg q19],.bool true),
 (122,q41,.isl 1 [.int .u32 1] none),
 (283,q41,.bool true),
 (447,[.int .i64 2,.int .i64 (-32),.int .i64 32],.tup []),
 (218,[.nilsl,.nilsl],.nilsl),
 (218,[.isl 1 q5 (some 2),.nilsl],.nilsl),
 (219,[.isl 1 q5 (some 2),.isl 1 q5 (some 2)],.int .i64 0),
 (429,[.agg q14],.agg q14),
 (218,[.nilsl,.isl 1 q5 (some 2)],.nilsl),
 (222,[.agg q29],.bool true),
 (187,[.isl 2 q24 (some 2)],.isl 1 q24 (some 2)),
 (188,[.isl 1 q24 (some 2)],.bool false)]
def t4:Tab:=d4++t3
def d5:Tab:=[
 (367,[.int .u32 2],.int .i64 1),
 (187,[.isl 2 q40 (some 2)],.isl 1 q40 (some 2)),
 (219,[.isl 1 q40 (some 2),.isl 1 q5 (some 2)],.int .i64 1),
 (187,[.isl 1 [.int .u32 32] (some 1)],.isl 1 [.int .u32 32] (some 1)),
 (188,[.isl 1 [.int .u32 32] (some 1)],.bool false),
 (367,[.int .u32 32],.int .i64 5),
 (187,[.isl 1 [.int .u32 2] (some 1)],.isl 1 [.int .u32 2] (some 1)),
 (222,[.agg q21],.bool true),
 (122,[.isl 1 [.int .u32 2] (some 1)],.isl 1 [.int .u32 2] none),
 (236,[.bool true],.tup []),
 (187,[.isl 1 [.int .u32 2] none],.isl 1 [.int .u32 2] none),
 (188,[.isl 1 [.int .u32 2] none],.bool false),
 (35,[.nilsl],.nilsl),
 (219,[.isl 1 q5 (some 2),.isl 1 q24 (some 2)],.int .i64 (-1)),
 (28,[.agg q2],.agg q43),
 (9,[.isl 1 q2 none,.str [115,113,117,97,114,101]],.int .i64 1)]
def t5:Tab:=d5++t4
def d6:Tab:=[
 (279,[.isl 1 q25 (some 2)],.int .i64 4),
 (279,[.isl 1 q24 (some 2)],.int .i64 1),
 (190,[.agg q18],.int .i64 0),
 (75,[.int .u64 1],.int .i64 1),
 (279,[.isl 1 [.int .u32 16] (some 1)],.int .i64 4),
 (280,[.isl 1 [.int .u32 16] (some 1),.int .i64 4],.isl 1 [.int .u32 1] (some 1)),
 (280,[.isl 1 q25 (some 2),.int .i64 4],.isl 1 [.int .u32 1] (some 1)),
 (279,q41,.int .i64 0),
 (281,q41,.int .i64 1),
 (224,[.isl 1 [.str [120]] none,.int .i64 0,.int .i64 1,.int .i64 1],.tup []),
 (488,[.agg q20,.int .i64 0],.agg q20),
 (83,[.str [120]],.int .i64 1),
 (279,q42,.int .i64 0),
 (116,[.agg q3],.int .i64 1),
 (488,[.agg q15,.int .i64 0],.agg q15),
 (72,q26,.agg q26)]
def t6:Tab:=d6++t5
def d7:Tab:=[
 (146,[.int .i64 1],.tup [.agg q30,.bool true]),
 (279,[.isl 1 q5 (some 2)],.int .i64 0),
 (218,[.isl 1 q5 (some 2),.isl 1 q5 (some 2)],.isl 1 q5 (some 2)),
 (218,[.isl 1 [.int .u32 1] none,.isl 1 [.int .u32 1] none],.isl 1 q5 (some 2)),
 (218,[.isl 1 [.int .u32 1] none,.isl 1 q5 (some 2)],.isl 1 q5 (some 2)),
 (148,[.agg q37],.bool true),
 (281,[.isl 1 q5 (some 2)],.int .i64 1),
 (469,[.nilsl,.isl 1 q5 (some 2)],.isl 1 q5 (some 2)),
 (111,[.str [120]],.tup [.int .i64 0,.bool false]),
 (469,[.isl 1 q5 (some 2),.isl 1 q5 (some 2)],.isl 1 q24 (some 2)),
 (279,[.isl 1 [.int .u32 2] none],.int .i64 1),
 (417,[.agg q20],.agg q20),
 (370,[.isl 1 q24 (some 2),.int .i64 4],.isl 1 q40 (some 2)),
 (368,[.isl 1 q40 (some 2),.int .u32 1],.tup [.isl 1 [.int .u32 32] (some 1),.int .u32 0]),
 (190,[.agg q12],.int .i64 1),
 (279,[.isl 1 [.int .u32 32] (some 1)],.int .i64 5)]
def t7:Tab:=d7++t6
def d8:Tab:=[
 (280,[.isl 1 [.int .u32 32] (some 1),.int .i64 4],.isl 1 [.int .u32 2] (some 1)),
 (284,[.nilsl,.isl 1 q5 (some 2)],.tup [.nilsl,.nilsl]),
 (370,[.isl 1 q5 (some 2),.int .i64 4],.isl 1 q25 (some 2)),
 (488,[.agg q33,.int .i64 0],.agg q33),
 (228,[.agg q11,.int .i64 0],.agg q11),
 (370,[.isl 1 [.int .u32 1] none,.int .i64 4],.isl 1 q25 (some 2)),
 (157,[.agg q20],.agg q20),
 (190,[.agg q21],.int .i64 1),
 (218,[.isl 1 [.int .u32 2] none,.isl 1 q5 (some 2)],.isl 1 q24 (some 2)),
 (220,[.int .u64 1],.isl 1 q5 (some 2)),
 (259,[.int .i64 2,.int .i64 0],.int .i64 2),
 (180,[.agg q20],.agg q20),
 (26,[.isl 1 q2 none,.agg q43],.int .i64 0),
 (90,[.agg q20],.agg q20),
 (368,[.isl 1 q25 (some 2),.int .u32 1],.tup [.isl 1 [.int .u32 16] (some 1),.int .u32 0]),
 (111,q39,.tup [.int .i64 0,.bool false])]
def t8:Tab:=d8++t7
def d9:Tab:=[
 (220,[.int .u64 0],.isl 0 [] (some 2)),
 (417,[.agg q15],.agg q15),
 (180,[.agg q15],.agg q15),
 (50,[.agg q26],.agg q15),
 (158,[.agg q37],.agg q37),
 (51,[.int .i64 1],.agg q26),
 (89,[.agg q7],.agg q7),
 (90,[.agg q15],.agg q15),
 (84,q39,.bool false),
 (7,[.isl 1 q2 none,.agg q43],.tup [.int .i64 0,.bool true]),
 (84,[.str [120]],.bool false),
 (155,[.agg q7],.agg q7),
 (221,q18,.agg q18),
 (512,[.isl 1 q5 (some 2),.int .i64 2],.isl 1 q5 (some 2)),
 (362,[.agg q18],.tup [.agg q20,.int .i64 0]),
 (362,[.agg q12],.tup [.agg q15,.int .i64 0])]
def t9:Tab:=d9++t8
def d10:Tab:=[
 (155,[.agg q22],.agg [.int .i64 9,.int .i64 2,.bool false,.nilsl,.nilsl,.str [],.isl 1 q7 none]),
 (166,[.agg q9],.bool true),
 (155,[.agg q16],.agg q16),
 (121,[.agg q3],.agg q3),
 (362,[.agg q29],.tup [.agg q33,.int .i64 0]),
 (362,[.agg q19],.tup [.agg q15,.int .i64 0]),
 (89,[.agg q22],.agg [.int .i64 9,.int .i64 2,.bool false,.nilsl,.nilsl,.str [],.isl 1 q7 none]),
 (166,[.agg q22],.bool true),
 (89,[.agg q16],.agg q16),
 (221,[.bool false,.nilsl,.isl 1 q25 (some 2)],.agg q18),
 (88,[.agg q3],.agg q3),
 (512,[.isl 1 [.int .u32 1] none,.int .i64 2],.isl 1 q5 (some 2)),
 (194,[.isl 1 [.str [120]] none],.tup []),
 (339,[.agg q34],.tup [.int .i64 1,.int .i64 1]),
 (339,[.agg q17],.tup [.int .i64 0,.int .i64 1]),
 (512,[.nilsl,.int .i64 2],.nilsl)]
def t10:Tab:=d10++t9
def d11:Tab:=[
 (341,[.agg q8],.agg q8),
 (185,[.agg q18,.agg q12],.int .i64 (-1)),
 (179,[.isl 1 q4 (some 1)],.isl 1 q4 none),
 (68,[.agg q3,.nilsl],.tup [.agg q3,.bool true]),
 (66,[.str [120]],.bool true),
 (284,[.isl 1 q25 (some 2),.isl 1 q5 (some 2)],.tup [.isl 1 [.int .u32 16] (some 1),.isl 0 [] (some 2)]),
 (221,q27,.agg q27),
 (284,[.isl 1 q40 (some 2),.isl 1 q5 (some 2)],.tup [.isl 1 [.int .u32 32] (some 1),.isl 0 [] (some 2)]),
 (185,[.agg q12,.agg q12],.int .i64 0),
 (32,[],.agg q10),
 (83,q39,.int .i64 6),
 (485,[.agg q14],.agg q6),
 (485,[.agg q32],.agg q6),
 (189,[.agg q20],.tup [.agg q18,.bool true]),
 (47,[.str [120]],.bool true),
 (221,q12,.agg q12)]
def t11:Tab:=d11++t10
def d12:Tab:=[
 (272,[.isl 1 q4 (some 1),.str [120]],.tup [.agg q8,.bool true]),
 (460,[.agg q12,.int .i64 2],.agg q27),
 (221,q21,.agg q21),
 (184,[.agg q20],.agg q18),
 (155,[.agg q9],.agg [.int .i64 5,.int .i64 0,.bool false,.nilsl,.nilsl,.str [],.isl 2 q13 none]),
 (221,q35,.agg q35),
 (89,[.agg q9],.agg [.int .i64 5,.int .i64 0,.bool false,.nilsl,.nilsl,.str [],.isl 2 q13 none]),
 (460,[.agg q18,.int .i64 2],.agg q18),
 (69,[.agg q10],.agg q28),
 (174,[.agg q20],.tup [.int .i64 0,.int .i64 0]),
 (176,[.agg q20],.bool true),
 (147,[.agg q20],.bool true),
 (185,[.agg q12,.agg q21],.int .i64 (-1)),
 (154,[.agg q10],.agg q28),
 (508,[.agg q18,.int .i64 4,.bool false],.agg q18),
 (485,[.agg q31],.agg q11)]
def t12:Tab:=d12++t11
def d13:Tab:=[
 (66,q39,.bool true),
 (166,[.agg q7],.bool true),
 (139,[.agg q7,.int .i64 3,.int .i64 2],.int .i64 3),
 (409,[.agg q18,.agg q12],.agg q27),
 (485,[.agg q23],.agg q8),
 (47,q39,.bool true),
 (150,[.agg q30,.agg q3],.bool true),
 (221,[.bool false,.isl 1 [.int .u32 16] (some 1),.isl 1 q25 (some 2)],.agg q19),
 (409,[.agg q12,.agg q12],.agg q35),
 (189,[.agg q15],.tup [.agg q12,.bool true]),
 (221,[.bool false,.isl 1 [.int .u32 32] (some 1),.isl 1 q25 (some 2)],.agg q29),
 (189,[.agg q33],.tup [.agg q21,.bool true]),
 (184,[.agg q15],.agg q12),
 (49,[.agg [.str [115,113,117,97,114,101],.int .i64 1,.int .i64 5,.int .i64 0,.bool false,.nilsl,.nilsl,.str [],.isl 2 q1 (some 2),.bool false,.isl 1 q4 (some 1),.nilsl,.int .i64 1,.str [],.str [],.bool false,.nilsl,.nilsl,.int .i64 0,.int .i64 0,.int .i64 4,.int .i64 0,.int .i64 0,.bool false,.nilsl,.nilsl,.str [],.nilsl,.nilsl,.str [],.int .i64 0,.nilsl,.nilsl]],.agg q2),
 (139,[.agg q22,.int .i64 2,.int .i64 1],.int .i64 3),
 (184,[.agg q33],.agg q21)]
def t13:Tab:=d13++t12
def d14:Tab:=[
 (449,[.agg q17,.int .i64 2],.agg q38),
 (166,[.agg q16],.bool true),
 (139,[.agg q16,.int .i64 2,.int .i64 3],.int .i64 4),
 (117,[.agg q3],.bool true),
 (53,[.agg q3,.func 117 [] []],.bool true),
 (165,[.agg q6],.agg q14),
 (477,[.agg q17,.agg q14],.agg q36),
 (508,[.agg q27,.int .i64 4,.bool false],.agg q19),
 (165,[.agg q8],.agg q17),
 (138,[.agg q8],.tup [.bool false,.int .i64 0]),
 (508,[.agg q27,.int .i64 4,.bool true],.agg q19),
 (508,[.agg q12,.int .i64 4,.bool false],.agg q19),
 (86,[.agg q3],.int .i64 0),
 (508,[.agg q12,.int .i64 4,.bool true],.agg q19),
 (451,[.agg q14,.int .i64 4],.agg q32),
 (508,[.agg q35,.int .i64 4,.bool true],.agg q29)]
def t14:Tab:=d14++t13
def d15:Tab:=[
 (428,[.agg q6,.func 429 [] []],.tup [.agg q6,.int .i64 0]),
 (365,[.agg q6],.tup [.agg q6,.int .i64 0]),
 (278,[.agg q15,.agg q15],.tup [.agg q6,.int .i64 0]),
 (383,[.agg q15],.tup [.agg q6,.int .i64 0]),
 (451,[.agg q38,.int .i64 4],.agg q23),
 (165,[.agg q11],.agg q34),
 (112,[.isl 1 q4 (some 1)],.bool true),
 (451,[.agg q17,.int .i64 4],.agg q23),
 (260,[.agg q11],.tup [.int .i64 2,.int .i64 0]),
 (139,[.agg q9,.int .i64 1,.int .i64 0],.int .i64 4),
 (113,[.agg q9],.bool true),
 (451,[.agg q36,.int .i64 4],.agg q31),
 (140,[.agg q9],.tup [.isl 1 [.str [120]] none,.int .i64 0]),
 (114,[.agg q9,.isl 1 q4 (some 1)],.bool true),
 (392,[.agg q6,.int .i64 4],.tup [.agg q6,.int .i64 0]),
 (305,[.agg q9,.isl 1 q4 (some 1),.int .i64 4],.int .i64 0)]
def t15:Tab:=d15++t14
def d16:Tab:=[
 (85,[.agg q10],.bool true),
 (153,[.agg q10,.agg q9],.int .i64 0),
 (434,[.agg q15,.int .i64 4],.tup [.agg q6,.int .i64 0]),
 (377,[.agg q16,.isl 1 q4 (some 1),.int .i64 4],.tup [.agg q6,.int .i64 0]),
 (392,[.agg q8,.int .i64 4],.tup [.agg q8,.int .i64 0]),
 (299,[.agg q16,.isl 1 q4 (some 1),.int .i64 4],.tup [.agg q6,.int .i64 0]),
 (119,[.agg q10,.agg q9,.bool false],.tup [.agg q28,.int .i64 0]),
 (377,[.agg q7,.isl 1 q4 (some 1),.int .i64 4],.tup [.agg q8,.int .i64 0]),
 (299,[.agg q7,.isl 1 q4 (some 1),.int .i64 4],.tup [.agg q8,.int .i64 0]),
 (384,[.agg q8,.int .i64 2,.int .i64 4],.tup [.agg q8,.int .i64 0]),
 (299,[.agg q22,.isl 1 q4 (some 1),.int .i64 4],.tup [.agg q8,.int .i64 0]),
 (444,[.agg q8,.agg q6,.int .i64 4,.func 477 [] []],.tup [.agg q11,.int .i64 0]),
 (441,[.agg q8,.agg q6,.int .i64 4],.tup [.agg q11,.int .i64 0]),
 (299,[.agg q9,.isl 1 q4 (some 1),.int .i64 4],.tup [.agg q11,.int .i64 0]),
 (261,[.agg q9,.isl 1 q4 (some 1),.int .i64 4],.tup [.agg q11,.int .i64 0]),
 (118,[.nilsl,.agg q10,.agg q3],.tup [.nilsl,.int .i64 0])]
def t16:Tab:=d16++t15
def d17:Tab:=[
 (48,[.nilsl,.agg q10,.agg q3],.agg [.int .i64 0,.nilsl,.int .i64 1]),
 (31,[.nilsl,.str [115,113,117,97,114,101],.agg q10,.agg q3],.tup [.isl 1 q2 none,.int .i64 1,.int .i64 0]),
 (14,[],.bool true)]
def t17:Tab:=d17++t16
end Go.Proofs.YtfhjhnofkaiceaaGreatDoor
