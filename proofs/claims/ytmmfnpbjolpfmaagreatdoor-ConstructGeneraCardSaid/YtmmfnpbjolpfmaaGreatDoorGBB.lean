/- Results of isometry.Find, by the kernel (gengen.py) -/
import Derived.Test.YtmmfnpbjolpfmaaGreatDoorGM
namespace Go.Proofs.YtmmfnpbjolpfmaaGreatDoor.AD
set_option linter.unusedSimpArgs false
set_option linter.unusedVariables false
open Go Go.AL Go.Proofs
set_option maxRecDepth 1000000
def b1 : LR := [rY h100 h220 2000000 [[1,1,0],[0,0,2],[1,0,0]]]
theorem b1_ok : MO 33 b1 := fD u22_c4 u211_c4 u213_c4 (by kernel_rfl)
def b5 : LR := [rY h105 h227 2000000 [[0,1,1],[1,0,0],[0,1,0]]]
theorem b5_ok : MO 33 b5 := fD u22_c6 u211_c6 u213_c6 (by kernel_rfl)
def b9 : LR := [rY h108 h232 2000000 [[1,1,1],[0,2,0],[0,0,1]]]
theorem b9_ok : MO 33 b9 := fD u22_c7 u211_c7 u213_c7 (by kernel_rfl)
def b13 : LR := [rY h120 h242 2000000 [[1,0,1],[0,1,0],[0,0,1]]]
theorem b13_ok : MO 33 b13 := fD u22_c10 u211_c10 u213_c10 (by kernel_rfl)
def b17 : LR := [rY h129 h251 2000000 [[1,0,1],[0,1,0],[0,0,1]]]
theorem b17_ok : MO 33 b17 := fD u22_c12 u211_c12 u213_c12 (by kernel_rfl)
def b18 : LR := [rN h129 h131 2000000]
theorem b18_ok : MO 33 b18 := fD u22_c12 u211_c12 u213_c12 (by kernel_rfl)
def b22 : LR := [rY h135 h257 2000000 [[1,1,1],[0,2,0],[0,0,1]]]
theorem b22_ok : MO 33 b22 := fD u22_c13 u211_c13 u213_c13 (by kernel_rfl)
def b26 : LR := [rY h140 h264 2000000 [[0,1,1],[1,0,0],[0,0,1]]]
theorem b26_ok : MO 33 b26 := fD u22_c14 u211_c14 u213_c14 (by kernel_rfl)
def b30 : LR := [rY h151 h274 2000000 [[1,0,1],[0,1,0],[0,0,1]]]
theorem b30_ok : MO 33 b30 := fD u22_c16 u211_c16 u213_c16 (by kernel_rfl)
def b34 : LR := [rY h159 h282 2000000 [[1,1,1],[0,2,0],[0,0,1]]]
theorem b34_ok : MO 33 b34 := fD u22_c17 u211_c17 u213_c17 (by kernel_rfl)
def b38 : LR := [rY h170 h302 2000000 [[1,1,0],[0,2,0],[0,0,1]]]
theorem b38_ok : MO 33 b38 := fD u22_c19 u211_c19 u213_c19 (by kernel_rfl)
def b42 : LR := [rY h177 h305 2000000 [[1,0,1],[0,1,0],[0,0,1]]]
theorem b42_ok : MO 33 b42 := fD u22_c20 u211_c20 u213_c20 (by kernel_rfl)
def b46 : LR := [rY h180 h311 2000000 [[1,1,1],[0,0,2],[0,1,1]]]
theorem b46_ok : MO 33 b46 := fD u22_c20 u211_c20 u213_c20 (by kernel_rfl)
def b50 : LR := [rY h188 h319 2000000 [[1,0,0],[0,0,2],[0,2,0]]]
theorem b50_ok : MO 33 b50 := fD u22_c21 u211_c21 u213_c21 (by kernel_rfl)
def b54 : LR := [rY h192 h329 2000000 [[1,1,0],[0,2,0],[0,0,1]]]
theorem b54_ok : MO 33 b54 := fD u22_c22 u211_c22 u213_c22 (by kernel_rfl)
def b58 : LR := [rY h194 h327 2000000 [[1,1,0],[0,2,0],[0,0,2]]]
theorem b58_ok : MO 33 b58 := fD u22_c22 u211_c22 u213_c22 (by kernel_rfl)
def b64 : LR := [rY h212 h338 2000000 [[0,1,0],[1,0,0],[0,0,2]]]
theorem b64_ok : MO 33 b64 := fD u22_c24 u211_c24 u213_c24 (by kernel_rfl)
end Go.Proofs.YtmmfnpbjolpfmaaGreatDoor.AD

/- Results of existence.Genera, by the kernel (gengen.py) -/
namespace Go.Proofs.YtmmfnpbjolpfmaaGreatDoor.AD
set_option linter.unusedSimpArgs false
set_option linter.unusedVariables false
open Go Go.AL Go.Proofs
set_option maxRecDepth 1000000
def n1 : LR2 := [([J 1, .ptr 1 0, .ptr 33 0, .ptr 35 0, .ptr 36 0], [(bk [2110, 41117]), (some [.sl 0 0 2 5 none]), (bk [12100, 21111]), (bk [12100, 21117]), (bk [12111, 21110]), (bk [12113, 21110]), (bk [12115, 21110]), (bk [12117, 21110]), (bk [1111, 22100]), (bk [1111, 22110]), (bk [1111, 22112]), (bk [1111, 22116]), (bk [1013, 22000]), (bk [1015, 22000]), (bk [1117, 22100]), (bk [1117, 22110]), (bk [1117, 22112]), (bk [1117, 22116]), (bk [1110, 11110, 31111]), (bk [1010, 11010, 31111]), (bk [1110, 11110, 31117]), (bk [1010, 11010, 31117]), (bk [1112, 11110, 31111]), (bk [1112, 11110, 31117]), (bk [1116, 11110, 31111]), (bk [1116, 11110, 31117]), (bk [2100, 41111]), (bk [2000, 41013]), (bk [2000, 41015]), (bk [2100, 41117]), (bl [(2, 2), (3, 2), (4, 2), (5, 2), (6, 2), (7, 2), (8, 2), (9, 2), (10, 2), (11, 2), (12, 2), (13, 2), (14, 2), (15, 2), (16, 2), (17, 2), (18, 3), (19, 3), (20, 3), (21, 3), (22, 3), (23, 3), (24, 3), (25, 3), (26, 2), (27, 2), (28, 2), (29, 2)]), (some [.sl 30 0 28 2 none]), (some [J 16]), (some [.clo 38 [.ptr 31 0, .ptr 32 0]]), (bk [2100, 41100]), (some [.sl 34 0 2 5 none]), (some [.clo 92 [.ptr 1 0, .ptr 33 0, .ptr 35 0, .ptr 36 0]])], .tup [], [(bk [2110, 41117]), (some [.sl 0 0 2 5 none]), (bk [12100, 21111]), (bk [12100, 21117]), (bk [12111, 21110]), (bk [12113, 21110]), (bk [12115, 21110]), (bk [12117, 21110]), (bk [1111, 22100]), (bk [1111, 22110]), (bk [1111, 22112]), (bk [1111, 22116]), (bk [1013, 22000]), (bk [1015, 22000]), (bk [1117, 22100]), (bk [1117, 22110]), (bk [1117, 22112]), (bk [1117, 22116]), (bk [1110, 11110, 31111]), (bk [1010, 11010, 31111]), (bk [1110, 11110, 31117]), (bk [1010, 11010, 31117]), (bk [1112, 11110, 31111]), (bk [1112, 11110, 31117]), (bk [1116, 11110, 31111]), (bk [1116, 11110, 31117]), (bk [2100, 41111]), (bk [2000, 41013]), (bk [2000, 41015]), (bk [2100, 41117]), none, (some [.sl 39 0 30 2 none]), (some [J 16]), (some [.clo 38 [.ptr 31 0, .ptr 32 0]]), (bk [2100, 41100]), (some [.sl 34 0 2 5 none]), (some [.clo 92 [.ptr 1 0, .ptr 33 0, .ptr 35 0, .ptr 36 0]]), (bk [2110, 41111]), (bk [2110, 41117]), (bl [(2, 2), (3, 2), (4, 2), (5, 2), (6, 2), (7, 2), (8, 2), (9, 2), (10, 2), (11, 2), (12, 2), (13, 2), (14, 2), (15, 2), (16, 2), (17, 2), (18, 3), (19, 3), (20, 3), (21, 3), (22, 3), (23, 3), (24, 3), (25, 3), (26, 2), (27, 2), (28, 2), (29, 2), (37, 2), (38, 2)])])]
theorem n1_ok : Memo2 Tryz.prog G 92 n1 := nD u39_3_4 u44_3_4 u93_3_4 (by kernel_rfl)
def kk0 : LR2 := [([.sl 0 0 1 5 none, .ptr 1 0, .ptr 2 0], [(bk [13100]), (some [.vec [] 0 (some 0)]), (some [J 8])], .tup [], [(bk [13100]), (some [.sl 7 0 4 2 none]), (some [J 8]), (bk [13111]), (bk [13113]), (bk [13115]), (bk [13117]), (bl [(3, 1), (4, 1), (5, 1), (6, 1)])])]
theorem kk0_ok : Memo2 Tryz.prog G 36 kk0 := hD u39_3_3 u44_3_3 u93_3_3 (by kernel_rfl)
def kk4 : LR2 := [([.sl 0 0 2 5 none, .ptr 8 0, .ptr 9 0], [(bk [1100, 22100]), (bk [12100, 21111]), (bk [12100, 21117]), (bk [12111, 21110]), (bk [12113, 21110]), (bk [12115, 21110]), (bk [12117, 21110]), (bl [(1, 2), (2, 2), (3, 2), (4, 2), (5, 2), (6, 2)]), (some [.sl 7 0 6 2 none]), (some [J 16])], .tup [], [(bk [1100, 22100]), (bk [12100, 21111]), (bk [12100, 21117]), (bk [12111, 21110]), (bk [12113, 21110]), (bk [12115, 21110]), (bk [12117, 21110]), none, (some [.sl 20 0 16 2 none]), (some [J 16]), (bk [1111, 22100]), (bk [1111, 22110]), (bk [1111, 22112]), (bk [1111, 22116]), (bk [1013, 22000]), (bk [1015, 22000]), (bk [1117, 22100]), (bk [1117, 22110]), (bk [1117, 22112]), (bk [1117, 22116]), (bl [(1, 2), (2, 2), (3, 2), (4, 2), (5, 2), (6, 2), (10, 2), (11, 2), (12, 2), (13, 2), (14, 2), (15, 2), (16, 2), (17, 2), (18, 2), (19, 2)])])]
theorem kk4_ok : Memo2 Tryz.prog G 36 kk4 := hD u39_3_4 u44_3_4 u93_3_4 (by kernel_rfl)
def kk9 : LR2 := [([.sl 0 0 2 5 none, .ptr 10 0, .ptr 11 0], [(bk [2100, 31100]), (bk [13011]), (bk [13013]), (bk [13015]), (bk [13017]), (bk [1011, 11110, 21110]), (bk [1013, 11110, 21110]), (bk [1015, 11110, 21110]), (bk [1017, 11110, 21110]), (bl [(1, 1), (2, 1), (3, 1), (4, 1), (5, 3), (6, 3), (7, 3), (8, 3)]), (some [.sl 9 0 8 2 none]), (some [J 24])], .tup [], [(bk [2100, 31100]), (bk [13011]), (bk [13013]), (bk [13015]), (bk [13017]), (bk [1011, 11110, 21110]), (bk [1013, 11110, 21110]), (bk [1015, 11110, 21110]), (bk [1017, 11110, 21110]), none, (some [.sl 28 0 24 2 none]), (some [J 24]), (bk [2000, 31111]), (bk [2100, 31013]), (bk [2100, 31015]), (bk [2000, 31117]), (bk [2110, 31013]), (bk [2110, 31015]), (bk [2012, 31111]), (bk [2112, 31013]), (bk [2112, 31015]), (bk [2012, 31117]), (bk [2014, 31111]), (bk [2014, 31117]), (bk [2016, 31111]), (bk [2116, 31013]), (bk [2116, 31015]), (bk [2016, 31117]), (bl [(1, 1), (2, 1), (3, 1), (4, 1), (5, 3), (6, 3), (7, 3), (8, 3), (12, 2), (13, 2), (14, 2), (15, 2), (16, 2), (17, 2), (18, 2), (19, 2), (20, 2), (21, 2), (22, 2), (23, 2), (24, 2), (25, 2), (26, 2), (27, 2)])])]
theorem kk9_ok : Memo2 Tryz.prog G 36 kk9 := hD u39_3_3 u44_3_3 u93_3_3 (by kernel_rfl)
def ge4 : LR := [r5 1 22 [g21]]
theorem ge4_ok : MO 5 ge4 := gD u39_1_1 u44_1_1 u93_1_1 (by kernel_rfl)
def ge11 : LR := [r5 2 15 [g54, g55, g56, g57]]
theorem ge11_ok : MO 5 ge11 := gD u39_2_0 u44_2_0 u93_2_0 (by kernel_rfl)
def ge27 : LR := [r5 3 1 [g87], r5 3 3 [g89, g90], r5 3 5 [g94, g95]]
theorem ge27_ok : MO 5 ge27 := gD u39_3_0 u44_3_0 u93_3_0 (by kernel_rfl)
def ge28 : LR := [r5 3 7 [g99, g100], r5 3 9 [g106, g107, g108, g109]]
theorem ge28_ok : MO 5 ge28 := gD u39_3_0 u44_3_0 u93_3_0 (by kernel_rfl)
def ge30 : LR := [r5 3 15 [g128, g129, g130, g131]]
theorem ge30_ok : MO 5 ge30 := gD u39_3_0 u44_3_0 u93_3_0 (by kernel_rfl)
def ge32 : LR := [r5 3 21 [g157, g158, g159, g160]]
theorem ge32_ok : MO 5 ge32 := gD u39_3_0 u44_3_0 u93_3_0 (by kernel_rfl)
def ge35 : LR := [r5 3 6 [g96, g97, g98]]
theorem ge35_ok : MO 5 ge35 := gD u39_3_1 u44_3_1 u93_3_1 (by kernel_rfl)
def ge38 : LR := [r5 3 18 [g142, g143, g144, g145, g146]]
theorem ge38_ok : MO 5 ge38 := gD u39_3_1 u44_3_1 u93_3_1 (by kernel_rfl)
def ge39 : LR := [r5 3 22 [g161, g162, g163]]
theorem ge39_ok : MO 5 ge39 := gD u39_3_1 u44_3_1 u93_3_1 (by kernel_rfl)
def ge41 : LR := [r5 3 12 [g115, g116, g117, g118, g119, g120, g121, g122]]
theorem ge41_ok : MO 5 ge41 := gD u39_3_2 u44_3_2 u93_3_2 (by kernel_rfl)
end Go.Proofs.YtmmfnpbjolpfmaaGreatDoor.AD
