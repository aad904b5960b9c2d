/- Results of isometry.Find, by the kernel (gengen.py) -/
import Derived.Test.YtmmfnpbjolpfmaaGreatDoorGM
namespace Go.Proofs.YtmmfnpbjolpfmaaGreatDoor.AD
set_option linter.unusedSimpArgs false
set_option linter.unusedVariables false
open Go Go.AL Go.Proofs
set_option maxRecDepth 1000000
def b2 : LR := [rY h100 h224 2000000 [[1,1,2],[0,0,1],[1,0,2]]]
theorem b2_ok : MO 33 b2 := fD u22_c4 u211_c4 u213_c4 (by kernel_rfl)
def b6 : LR := [rY h105 h228 2000000 [[1,0,1],[0,1,0],[1,0,0]]]
theorem b6_ok : MO 33 b6 := fD u22_c6 u211_c6 u213_c6 (by kernel_rfl)
def b10 : LR := [rY h108 h233 2000000 [[1,1,0],[0,2,0],[0,0,2]]]
theorem b10_ok : MO 33 b10 := fD u22_c7 u211_c7 u213_c7 (by kernel_rfl)
def b14 : LR := [rY h121 h248 2000000 [[1,1,0],[0,2,0],[0,0,1]]]
theorem b14_ok : MO 33 b14 := fD u22_c10 u211_c10 u213_c10 (by kernel_rfl)
def b19 : LR := [rY h132 h254 2000000 [[1,1,1],[0,0,2],[0,1,0]]]
theorem b19_ok : MO 33 b19 := fD u22_c12 u211_c12 u213_c12 (by kernel_rfl)
def b23 : LR := [rY h135 h258 2000000 [[1,1,0],[0,2,0],[0,0,2]]]
theorem b23_ok : MO 33 b23 := fD u22_c13 u211_c13 u213_c13 (by kernel_rfl)
def b27 : LR := [rY h140 h265 2000000 [[1,0,1],[0,1,0],[0,0,1]]]
theorem b27_ok : MO 33 b27 := fD u22_c14 u211_c14 u213_c14 (by kernel_rfl)
def b31 : LR := [rY h153 h281 2000000 [[1,1,0],[0,2,0],[0,0,1]]]
theorem b31_ok : MO 33 b31 := fD u22_c16 u211_c16 u213_c16 (by kernel_rfl)
def b35 : LR := [rY h159 h283 2000000 [[1,1,0],[0,2,0],[0,0,2]]]
theorem b35_ok : MO 33 b35 := fD u22_c17 u211_c17 u213_c17 (by kernel_rfl)
def b39 : LR := [rY h170 h297 2000000 [[1,1,1],[0,2,0],[0,0,1]]]
theorem b39_ok : MO 33 b39 := fD u22_c19 u211_c19 u213_c19 (by kernel_rfl)
def b43 : LR := [rY h180 h308 2000000 [[1,0,1],[0,1,0],[0,0,1]]]
theorem b43_ok : MO 33 b43 := fD u22_c20 u211_c20 u213_c20 (by kernel_rfl)
def b47 : LR := [rY h187 h315 2000000 [[1,0,1],[0,1,0],[0,0,1]]]
theorem b47_ok : MO 33 b47 := fD u22_c21 u211_c21 u213_c21 (by kernel_rfl)
def b51 : LR := [rY h188 h320 2000000 [[0,0,2],[0,1,0],[1,0,0]]]
theorem b51_ok : MO 33 b51 := fD u22_c21 u211_c21 u213_c21 (by kernel_rfl)
def b55 : LR := [rY h192 h324 2000000 [[1,1,1],[0,2,0],[0,0,1]]]
theorem b55_ok : MO 33 b55 := fD u22_c22 u211_c22 u213_c22 (by kernel_rfl)
def b59 : LR := [rY h206 h333 2000000 [[1,0,1],[0,1,0],[0,0,1]]]
theorem b59_ok : MO 33 b59 := fD u22_c24 u211_c24 u213_c24 (by kernel_rfl)
def b62 : LR := [rN h210 h337 2000000]
theorem b62_ok : MO 33 b62 := fD u22_c24 u211_c24 u213_c24 (by kernel_rfl)
def b65 : LR := [rY h212 h339 2000000 [[1,0,0],[0,1,0],[0,0,2]]]
theorem b65_ok : MO 33 b65 := fD u22_c24 u211_c24 u213_c24 (by kernel_rfl)
end Go.Proofs.YtmmfnpbjolpfmaaGreatDoor.AD

/- Results of existence.Genera, by the kernel (gengen.py) -/
namespace Go.Proofs.YtmmfnpbjolpfmaaGreatDoor.AD
set_option linter.unusedSimpArgs false
set_option linter.unusedVariables false
open Go Go.AL Go.Proofs
set_option maxRecDepth 1000000
def n2 : LR2 := [([J 1, .ptr 1 0, .ptr 35 0, .ptr 37 0, .ptr 38 0], [(bk [2112, 41117]), (some [.sl 0 0 2 5 none]), (bk [12100, 21111]), (bk [12100, 21117]), (bk [12111, 21110]), (bk [12113, 21110]), (bk [12115, 21110]), (bk [12117, 21110]), (bk [1111, 22100]), (bk [1111, 22110]), (bk [1111, 22112]), (bk [1111, 22116]), (bk [1013, 22000]), (bk [1015, 22000]), (bk [1117, 22100]), (bk [1117, 22110]), (bk [1117, 22112]), (bk [1117, 22116]), (bk [1110, 11110, 31111]), (bk [1010, 11010, 31111]), (bk [1110, 11110, 31117]), (bk [1010, 11010, 31117]), (bk [1112, 11110, 31111]), (bk [1112, 11110, 31117]), (bk [1116, 11110, 31111]), (bk [1116, 11110, 31117]), (bk [2100, 41111]), (bk [2000, 41013]), (bk [2000, 41015]), (bk [2100, 41117]), (bk [2110, 41111]), (bk [2110, 41117]), (bl [(2, 2), (3, 2), (4, 2), (5, 2), (6, 2), (7, 2), (8, 2), (9, 2), (10, 2), (11, 2), (12, 2), (13, 2), (14, 2), (15, 2), (16, 2), (17, 2), (18, 3), (19, 3), (20, 3), (21, 3), (22, 3), (23, 3), (24, 3), (25, 3), (26, 2), (27, 2), (28, 2), (29, 2), (30, 2), (31, 2)]), (some [.sl 32 0 30 2 none]), (some [J 16]), (some [.clo 38 [.ptr 33 0, .ptr 34 0]]), (bk [2100, 41100]), (some [.sl 36 0 2 5 none]), (some [.clo 92 [.ptr 1 0, .ptr 35 0, .ptr 37 0, .ptr 38 0]])], .tup [], [(bk [2112, 41117]), (some [.sl 0 0 2 5 none]), (bk [12100, 21111]), (bk [12100, 21117]), (bk [12111, 21110]), (bk [12113, 21110]), (bk [12115, 21110]), (bk [12117, 21110]), (bk [1111, 22100]), (bk [1111, 22110]), (bk [1111, 22112]), (bk [1111, 22116]), (bk [1013, 22000]), (bk [1015, 22000]), (bk [1117, 22100]), (bk [1117, 22110]), (bk [1117, 22112]), (bk [1117, 22116]), (bk [1110, 11110, 31111]), (bk [1010, 11010, 31111]), (bk [1110, 11110, 31117]), (bk [1010, 11010, 31117]), (bk [1112, 11110, 31111]), (bk [1112, 11110, 31117]), (bk [1116, 11110, 31111]), (bk [1116, 11110, 31117]), (bk [2100, 41111]), (bk [2000, 41013]), (bk [2000, 41015]), (bk [2100, 41117]), (bk [2110, 41111]), (bk [2110, 41117]), none, (some [.sl 43 0 34 2 none]), (some [J 16]), (some [.clo 38 [.ptr 33 0, .ptr 34 0]]), (bk [2100, 41100]), (some [.sl 36 0 2 5 none]), (some [.clo 92 [.ptr 1 0, .ptr 35 0, .ptr 37 0, .ptr 38 0]]), (bk [2112, 41111]), (bk [2012, 41013]), (bk [2012, 41015]), (bk [2112, 41117]), (bl [(2, 2), (3, 2), (4, 2), (5, 2), (6, 2), (7, 2), (8, 2), (9, 2), (10, 2), (11, 2), (12, 2), (13, 2), (14, 2), (15, 2), (16, 2), (17, 2), (18, 3), (19, 3), (20, 3), (21, 3), (22, 3), (23, 3), (24, 3), (25, 3), (26, 2), (27, 2), (28, 2), (29, 2), (30, 2), (31, 2), (39, 2), (40, 2), (41, 2), (42, 2)])])]
theorem n2_ok : Memo2 Tryz.prog G 92 n2 := nD u39_3_4 u44_3_4 u93_3_4 (by kernel_rfl)
def kk1 : LR2 := [([.sl 0 0 3 5 none, .ptr 6 0, .ptr 7 0], [(bk [1100, 11100, 21100]), (bk [13111]), (bk [13113]), (bk [13115]), (bk [13117]), (bl [(1, 1), (2, 1), (3, 1), (4, 1)]), (some [.sl 5 0 4 2 none]), (some [J 8])], .tup [], [(bk [1100, 11100, 21100]), (bk [13111]), (bk [13113]), (bk [13115]), (bk [13117]), none, (some [.sl 12 0 8 2 none]), (some [J 8]), (bk [1111, 11110, 21110]), (bk [1113, 11110, 21110]), (bk [1115, 11110, 21110]), (bk [1117, 11110, 21110]), (bl [(1, 1), (2, 1), (3, 1), (4, 1), (8, 3), (9, 3), (10, 3), (11, 3)])])]
theorem kk1_ok : Memo2 Tryz.prog G 36 kk1 := hD u39_3_3 u44_3_3 u93_3_3 (by kernel_rfl)
def kk5 : LR2 := [([.sl 0 0 3 5 none, .ptr 18 0, .ptr 19 0], [(bk [1100, 11100, 31100]), (bk [12100, 21111]), (bk [12100, 21117]), (bk [12111, 21110]), (bk [12113, 21110]), (bk [12115, 21110]), (bk [12117, 21110]), (bk [1111, 22100]), (bk [1111, 22110]), (bk [1111, 22112]), (bk [1111, 22116]), (bk [1013, 22000]), (bk [1015, 22000]), (bk [1117, 22100]), (bk [1117, 22110]), (bk [1117, 22112]), (bk [1117, 22116]), (bl [(1, 2), (2, 2), (3, 2), (4, 2), (5, 2), (6, 2), (7, 2), (8, 2), (9, 2), (10, 2), (11, 2), (12, 2), (13, 2), (14, 2), (15, 2), (16, 2)]), (some [.sl 17 0 16 2 none]), (some [J 16])], .tup [], [(bk [1100, 11100, 31100]), (bk [12100, 21111]), (bk [12100, 21117]), (bk [12111, 21110]), (bk [12113, 21110]), (bk [12115, 21110]), (bk [12117, 21110]), (bk [1111, 22100]), (bk [1111, 22110]), (bk [1111, 22112]), (bk [1111, 22116]), (bk [1013, 22000]), (bk [1015, 22000]), (bk [1117, 22100]), (bk [1117, 22110]), (bk [1117, 22112]), (bk [1117, 22116]), none, (some [.sl 28 0 24 2 none]), (some [J 16]), (bk [1110, 11110, 31111]), (bk [1010, 11010, 31111]), (bk [1110, 11110, 31117]), (bk [1010, 11010, 31117]), (bk [1112, 11110, 31111]), (bk [1112, 11110, 31117]), (bk [1116, 11110, 31111]), (bk [1116, 11110, 31117]), (bl [(1, 2), (2, 2), (3, 2), (4, 2), (5, 2), (6, 2), (7, 2), (8, 2), (9, 2), (10, 2), (11, 2), (12, 2), (13, 2), (14, 2), (15, 2), (16, 2), (20, 3), (21, 3), (22, 3), (23, 3), (24, 3), (25, 3), (26, 3), (27, 3)])])]
theorem kk5_ok : Memo2 Tryz.prog G 36 kk5 := hD u39_3_4 u44_3_4 u93_3_4 (by kernel_rfl)
def ge2 : LR := [r5 1 21 [g20], r5 1 23 [g22]]
theorem ge2_ok : MO 5 ge2 := gD u39_1_0 u44_1_0 u93_1_0 (by kernel_rfl)
def ge3 : LR := [r5 1 2 [g1], r5 1 6 [g5], r5 1 10 [g9], r5 1 14 [g13], r5 1 18 [g17]]
theorem ge3_ok : MO 5 ge3 := gD u39_1_1 u44_1_1 u93_1_1 (by kernel_rfl)
def ge6 : LR := [r5 1 8 [g7], r5 1 24 [g23]]
theorem ge6_ok : MO 5 ge6 := gD u39_1_3 u44_1_3 u93_1_3 (by kernel_rfl)
def ge7 : LR := [r5 1 16 [g15]]
theorem ge7_ok : MO 5 ge7 := gD u39_1_4 u44_1_4 u93_1_4 (by kernel_rfl)
def ge9 : LR := [r5 2 7 [g34, g35], r5 2 9 [g39, g40, g41]]
theorem ge9_ok : MO 5 ge9 := gD u39_2_0 u44_2_0 u93_2_0 (by kernel_rfl)
def ge13 : LR := [r5 2 21 [g73, g74, g75, g76]]
theorem ge13_ok : MO 5 ge13 := gD u39_2_0 u44_2_0 u93_2_0 (by kernel_rfl)
def ge17 : LR := [r5 2 10 [g42, g43]]
theorem ge17_ok : MO 5 ge17 := gD u39_2_1 u44_2_1 u93_2_1 (by kernel_rfl)
def ge22 : LR := [r5 2 12 [g46, g47, g48, g49]]
theorem ge22_ok : MO 5 ge22 := gD u39_2_2 u44_2_2 u93_2_2 (by kernel_rfl)
def ge25 : LR := [r5 2 24 [g81, g82, g83, g84, g85, g86]]
theorem ge25_ok : MO 5 ge25 := gD u39_2_3 u44_2_3 u93_2_3 (by kernel_rfl)
def ge31 : LR := [r5 3 17 [g140, g141], r5 3 19 [g147, g148]]
theorem ge31_ok : MO 5 ge31 := gD u39_3_0 u44_3_0 u93_3_0 (by kernel_rfl)
def ge36 : LR := [r5 3 10 [g110, g111, g112]]
theorem ge36_ok : MO 5 ge36 := gD u39_3_1 u44_3_1 u93_3_1 (by kernel_rfl)
def ge40 : LR := [r5 3 4 [g91, g92, g93]]
theorem ge40_ok : MO 5 ge40 := gD u39_3_2 u44_3_2 u93_3_2 (by kernel_rfl)
end Go.Proofs.YtmmfnpbjolpfmaaGreatDoor.AD
