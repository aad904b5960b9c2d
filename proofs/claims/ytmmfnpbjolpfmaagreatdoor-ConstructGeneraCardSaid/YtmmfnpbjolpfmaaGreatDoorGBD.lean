/- Results of isometry.Find, by the kernel (gengen.py) -/
import Derived.Test.YtmmfnpbjolpfmaaGreatDoorGM
namespace Go.Proofs.YtmmfnpbjolpfmaaGreatDoor.AD
set_option linter.unusedSimpArgs false
set_option linter.unusedVariables false
open Go Go.AL Go.Proofs
set_option maxRecDepth 1000000
def b3 : LR := [rY h100 h222 2000000 [[1,1,0],[0,0,1],[1,0,0]]]
theorem b3_ok : MO 33 b3 := fD u22_c4 u211_c4 u213_c4 (by kernel_rfl)
def b7 : LR := [rY h105 h230 2000000 [[1,1,0],[0,0,1],[1,0,0]]]
theorem b7_ok : MO 33 b7 := fD u22_c6 u211_c6 u213_c6 (by kernel_rfl)
def b11 : LR := [rY h112 h237 2000000 [[1,0,1],[0,1,0],[0,0,1]]]
theorem b11_ok : MO 33 b11 := fD u22_c8 u211_c8 u213_c8 (by kernel_rfl)
def b15 : LR := [rY h121 h244 2000000 [[1,1,1],[0,2,0],[0,0,1]]]
theorem b15_ok : MO 33 b15 := fD u22_c10 u211_c10 u213_c10 (by kernel_rfl)
def b20 : LR := [rY h132 h255 2000000 [[1,1,0],[0,0,1],[0,1,0]]]
theorem b20_ok : MO 33 b20 := fD u22_c12 u211_c12 u213_c12 (by kernel_rfl)
def b24 : LR := [rY h136 h259 2000000 [[1,0,1],[0,1,0],[0,0,1]]]
theorem b24_ok : MO 33 b24 := fD u22_c13 u211_c13 u213_c13 (by kernel_rfl)
def b28 : LR := [rY h146 h268 2000000 [[1,0,1],[0,1,0],[0,0,1]]]
theorem b28_ok : MO 33 b28 := fD u22_c15 u211_c15 u213_c15 (by kernel_rfl)
def b32 : LR := [rY h153 h276 2000000 [[1,1,1],[0,2,0],[0,0,1]]]
theorem b32_ok : MO 33 b32 := fD u22_c16 u211_c16 u213_c16 (by kernel_rfl)
def b36 : LR := [rY h163 h288 2000000 [[0,1,1],[1,0,0],[0,0,1]]]
theorem b36_ok : MO 33 b36 := fD u22_c18 u211_c18 u213_c18 (by kernel_rfl)
def b40 : LR := [rY h170 h298 2000000 [[1,1,0],[0,2,0],[0,0,2]]]
theorem b40_ok : MO 33 b40 := fD u22_c19 u211_c19 u213_c19 (by kernel_rfl)
def b44 : LR := [rY h180 h309 2000000 [[1,1,0],[0,0,2],[0,1,1]]]
theorem b44_ok : MO 33 b44 := fD u22_c20 u211_c20 u213_c20 (by kernel_rfl)
def b48 : LR := [rY h188 h317 2000000 [[1,0,0],[0,2,0],[0,0,2]]]
theorem b48_ok : MO 33 b48 := fD u22_c21 u211_c21 u213_c21 (by kernel_rfl)
def b52 : LR := [rY h191 h321 2000000 [[0,1,1],[1,0,0],[0,0,1]]]
theorem b52_ok : MO 33 b52 := fD u22_c22 u211_c22 u213_c22 (by kernel_rfl)
def b56 : LR := [rY h192 h325 2000000 [[1,1,0],[0,2,0],[0,0,2]]]
theorem b56_ok : MO 33 b56 := fD u22_c22 u211_c22 u213_c22 (by kernel_rfl)
def b61 : LR := [rY h211 h336 2000000 [[1,1,1],[0,0,2],[0,1,0]]]
theorem b61_ok : MO 33 b61 := fD u22_c24 u211_c24 u213_c24 (by kernel_rfl)
def b66 : LR := [rY h212 h340 2000000 [[1,0,0],[0,0,1],[0,2,0]]]
theorem b66_ok : MO 33 b66 := fD u22_c24 u211_c24 u213_c24 (by kernel_rfl)
end Go.Proofs.YtmmfnpbjolpfmaaGreatDoor.AD

/- Results of existence.Genera, by the kernel (gengen.py) -/
namespace Go.Proofs.YtmmfnpbjolpfmaaGreatDoor.AD
set_option linter.unusedSimpArgs false
set_option linter.unusedVariables false
open Go Go.AL Go.Proofs
set_option maxRecDepth 1000000
def n3 : LR2 := [([J 1, .ptr 1 0, .ptr 39 0, .ptr 41 0, .ptr 42 0], [(bk [2114, 41117]), (some [.sl 0 0 2 5 none]), (bk [12100, 21111]), (bk [12100, 21117]), (bk [12111, 21110]), (bk [12113, 21110]), (bk [12115, 21110]), (bk [12117, 21110]), (bk [1111, 22100]), (bk [1111, 22110]), (bk [1111, 22112]), (bk [1111, 22116]), (bk [1013, 22000]), (bk [1015, 22000]), (bk [1117, 22100]), (bk [1117, 22110]), (bk [1117, 22112]), (bk [1117, 22116]), (bk [1110, 11110, 31111]), (bk [1010, 11010, 31111]), (bk [1110, 11110, 31117]), (bk [1010, 11010, 31117]), (bk [1112, 11110, 31111]), (bk [1112, 11110, 31117]), (bk [1116, 11110, 31111]), (bk [1116, 11110, 31117]), (bk [2100, 41111]), (bk [2000, 41013]), (bk [2000, 41015]), (bk [2100, 41117]), (bk [2110, 41111]), (bk [2110, 41117]), (bk [2112, 41111]), (bk [2012, 41013]), (bk [2012, 41015]), (bk [2112, 41117]), (bl [(2, 2), (3, 2), (4, 2), (5, 2), (6, 2), (7, 2), (8, 2), (9, 2), (10, 2), (11, 2), (12, 2), (13, 2), (14, 2), (15, 2), (16, 2), (17, 2), (18, 3), (19, 3), (20, 3), (21, 3), (22, 3), (23, 3), (24, 3), (25, 3), (26, 2), (27, 2), (28, 2), (29, 2), (30, 2), (31, 2), (32, 2), (33, 2), (34, 2), (35, 2)]), (some [.sl 36 0 34 2 none]), (some [J 16]), (some [.clo 38 [.ptr 37 0, .ptr 38 0]]), (bk [2100, 41100]), (some [.sl 40 0 2 5 none]), (some [.clo 92 [.ptr 1 0, .ptr 39 0, .ptr 41 0, .ptr 42 0]])], .tup [], [(bk [2114, 41117]), (some [.sl 0 0 2 5 none]), (bk [12100, 21111]), (bk [12100, 21117]), (bk [12111, 21110]), (bk [12113, 21110]), (bk [12115, 21110]), (bk [12117, 21110]), (bk [1111, 22100]), (bk [1111, 22110]), (bk [1111, 22112]), (bk [1111, 22116]), (bk [1013, 22000]), (bk [1015, 22000]), (bk [1117, 22100]), (bk [1117, 22110]), (bk [1117, 22112]), (bk [1117, 22116]), (bk [1110, 11110, 31111]), (bk [1010, 11010, 31111]), (bk [1110, 11110, 31117]), (bk [1010, 11010, 31117]), (bk [1112, 11110, 31111]), (bk [1112, 11110, 31117]), (bk [1116, 11110, 31111]), (bk [1116, 11110, 31117]), (bk [2100, 41111]), (bk [2000, 41013]), (bk [2000, 41015]), (bk [2100, 41117]), (bk [2110, 41111]), (bk [2110, 41117]), (bk [2112, 41111]), (bk [2012, 41013]), (bk [2012, 41015]), (bk [2112, 41117]), none, (some [.sl 45 0 36 2 none]), (some [J 16]), (some [.clo 38 [.ptr 37 0, .ptr 38 0]]), (bk [2100, 41100]), (some [.sl 40 0 2 5 none]), (some [.clo 92 [.ptr 1 0, .ptr 39 0, .ptr 41 0, .ptr 42 0]]), (bk [2014, 41013]), (bk [2014, 41015]), (bl [(2, 2), (3, 2), (4, 2), (5, 2), (6, 2), (7, 2), (8, 2), (9, 2), (10, 2), (11, 2), (12, 2), (13, 2), (14, 2), (15, 2), (16, 2), (17, 2), (18, 3), (19, 3), (20, 3), (21, 3), (22, 3), (23, 3), (24, 3), (25, 3), (26, 2), (27, 2), (28, 2), (29, 2), (30, 2), (31, 2), (32, 2), (33, 2), (34, 2), (35, 2), (43, 2), (44, 2)])])]
theorem n3_ok : Memo2 Tryz.prog G 92 n3 := nD u39_3_4 u44_3_4 u93_3_4 (by kernel_rfl)
def kk2 : LR2 := [([.sl 0 0 2 5 none, .ptr 10 0, .ptr 11 0], [(bk [2100, 31100]), (bk [13111]), (bk [13113]), (bk [13115]), (bk [13117]), (bk [1111, 11110, 21110]), (bk [1113, 11110, 21110]), (bk [1115, 11110, 21110]), (bk [1117, 11110, 21110]), (bl [(1, 1), (2, 1), (3, 1), (4, 1), (5, 3), (6, 3), (7, 3), (8, 3)]), (some [.sl 9 0 8 2 none]), (some [J 8])], .tup [], [(bk [2100, 31100]), (bk [13111]), (bk [13113]), (bk [13115]), (bk [13117]), (bk [1111, 11110, 21110]), (bk [1113, 11110, 21110]), (bk [1115, 11110, 21110]), (bk [1117, 11110, 21110]), none, (some [.sl 28 0 24 2 none]), (some [J 8]), (bk [2100, 31111]), (bk [2000, 31013]), (bk [2000, 31015]), (bk [2100, 31117]), (bk [2110, 31111]), (bk [2110, 31117]), (bk [2112, 31111]), (bk [2012, 31013]), (bk [2012, 31015]), (bk [2112, 31117]), (bk [2014, 31013]), (bk [2014, 31015]), (bk [2116, 31111]), (bk [2016, 31013]), (bk [2016, 31015]), (bk [2116, 31117]), (bl [(1, 1), (2, 1), (3, 1), (4, 1), (5, 3), (6, 3), (7, 3), (8, 3), (12, 2), (13, 2), (14, 2), (15, 2), (16, 2), (17, 2), (18, 2), (19, 2), (20, 2), (21, 2), (22, 2), (23, 2), (24, 2), (25, 2), (26, 2), (27, 2)])])]
theorem kk2_ok : Memo2 Tryz.prog G 36 kk2 := hD u39_3_3 u44_3_3 u93_3_3 (by kernel_rfl)
def kk7 : LR2 := [([.sl 0 0 1 5 none, .ptr 1 0, .ptr 2 0], [(bk [13100]), (some [.vec [] 0 (some 0)]), (some [J 24])], .tup [], [(bk [13100]), (some [.sl 7 0 4 2 none]), (some [J 24]), (bk [13011]), (bk [13013]), (bk [13015]), (bk [13017]), (bl [(3, 1), (4, 1), (5, 1), (6, 1)])])]
theorem kk7_ok : Memo2 Tryz.prog G 36 kk7 := hD u39_3_3 u44_3_3 u93_3_3 (by kernel_rfl)
def ge0 : LR := [r5 1 1 [g0], r5 1 3 [g2], r5 1 5 [g4], r5 1 7 [g6], r5 1 9 [g8]]
theorem ge0_ok : MO 5 ge0 := gD u39_1_0 u44_1_0 u93_1_0 (by kernel_rfl)
def ge1 : LR := [r5 1 11 [g10], r5 1 13 [g12], r5 1 15 [g14], r5 1 17 [g16], r5 1 19 [g18]]
theorem ge1_ok : MO 5 ge1 := gD u39_1_0 u44_1_0 u93_1_0 (by kernel_rfl)
def ge5 : LR := [r5 1 4 [g3], r5 1 12 [g11], r5 1 20 [g19]]
theorem ge5_ok : MO 5 ge5 := gD u39_1_2 u44_1_2 u93_1_2 (by kernel_rfl)
def ge10 : LR := [r5 2 11 [g44, g45], r5 2 13 [g50, g51]]
theorem ge10_ok : MO 5 ge10 := gD u39_2_0 u44_2_0 u93_2_0 (by kernel_rfl)
def ge14 : LR := [r5 2 23 [g79, g80]]
theorem ge14_ok : MO 5 ge14 := gD u39_2_0 u44_2_0 u93_2_0 (by kernel_rfl)
def ge20 : LR := [r5 2 22 [g77, g78]]
theorem ge20_ok : MO 5 ge20 := gD u39_2_1 u44_2_1 u93_2_1 (by kernel_rfl)
def ge21 : LR := [r5 2 4 [g28, g29]]
theorem ge21_ok : MO 5 ge21 := gD u39_2_2 u44_2_2 u93_2_2 (by kernel_rfl)
def ge24 : LR := [r5 2 8 [g36, g37, g38]]
theorem ge24_ok : MO 5 ge24 := gD u39_2_3 u44_2_3 u93_2_3 (by kernel_rfl)
def ge29 : LR := [r5 3 11 [g113, g114], r5 3 13 [g123, g124]]
theorem ge29_ok : MO 5 ge29 := gD u39_3_0 u44_3_0 u93_3_0 (by kernel_rfl)
def ge37 : LR := [r5 3 14 [g125, g126, g127]]
theorem ge37_ok : MO 5 ge37 := gD u39_3_1 u44_3_1 u93_3_1 (by kernel_rfl)
def ge42 : LR := [r5 3 20 [g149, g150, g151, g152, g153, g154, g155, g156]]
theorem ge42_ok : MO 5 ge42 := gD u39_3_2 u44_3_2 u93_3_2 (by kernel_rfl)
end Go.Proofs.YtmmfnpbjolpfmaaGreatDoor.AD
