/- Results of some calls, by the kernel (genex.py) -/
import Derived.Test.YtgkpcjahopacjaaGreatDoorXC
namespace Go.Proofs.YtgkpcjahopacjaaGreatDoor.AD
set_option linter.unusedSimpArgs false
set_option linter.unusedVariables false
open Go Go.AL Go.Proofs
set_option maxRecDepth 1000000
def p13 : LR := [rT h205, rT h206, rT h463, rT h464, rF h465, rF h466, rT h467, rT h468, rT h469, rT h204, rT h470, rF h471]
theorem p13_ok : MO 64 p13 := q1 (by kernel_rfl)
def p21 : LR := [rT h479, rF h480, rT h481, rT h482, rF h483, rT h323, rT h322, rT h694, rT h695, rF h696, rT h697, rT h698, rT h699]
theorem p21_ok : MO 64 p21 := q1 (by kernel_rfl)
def p34 : LR := [rT h259, rT h571, rF h572, rT h249, rT h254, rT h573, rT h574, rF h575, rT h576, rF h577, rT h578, rT h579]
theorem p34_ok : MO 64 p34 := q1 (by kernel_rfl)
def p38 : LR := [rT h508, rT h509, rF h510, rF h511, rF h512, rF h513, rT h335, rT h334, rT h746, rT h747, rT h748, rT h749, rT h750]
theorem p38_ok : MO 64 p38 := q1 (by kernel_rfl)
def p53 : LR := [rT h438, rT h195, rF h439, rT h193, rT h440, rT h441]
theorem p53_ok : MO 64 p53 := q1 (by kernel_rfl)
def p63 : LR := [rR h37 h37, rR h38 h38, rR h39 h39]
theorem p63_ok : MO 20 p63 := q1 (by kernel_rfl)
def p66 : LR := [rR h56 h56, rR h55 h55, rR h57 h57, rR h58 h58, rR h59 h59, rR h61 h61, rR h60 h60, rR h63 h63, rR h65 h65]
theorem p66_ok : MO 20 p66 := q1 (by kernel_rfl)
def p101 : LR := [rR h671 h671, rR h672 h672, rR h673 h673]
theorem p101_ok : MO 20 p101 := q1 (by kernel_rfl)
def p104 : LR := [rR h238 h238, rR h242 h242, rR h539 h539]
theorem p104_ok : MO 20 p104 := q1 (by kernel_rfl)
def p121 : LR := [rR h303 h303, rR h638 h638]
theorem p121_ok : MO 20 p121 := q1 (by kernel_rfl)
def p129 : LR := [rR h486 h486, rR h487 h487, rR h488 h488]
theorem p129_ok : MO 20 p129 := q1 (by kernel_rfl)
def p131 : LR := [rR h328 h328, rR h329 h329]
theorem p131_ok : MO 20 p131 := q1 (by kernel_rfl)
def p141 : LR := [rR h736 h736, rR h331 h331]
theorem p141_ok : MO 20 p141 := q1 (by kernel_rfl)
def p162 : LR := [rR h166 h166, rR h191 h191, rR h192 h192]
theorem p162_ok : MO 20 p162 := q1 (by kernel_rfl)
def p171 : LR := [rR h175 h175, rR h174 h174, rR h387 h387]
theorem p171_ok : MO 20 p171 := q1 (by kernel_rfl)
def p192 : LR := [r7 h40 2 1 g40, r7 h41 2 2 g41, r7 h43 2 3 g43, r7 h42 2 3 g42, r7 h44 2 4 g44, r7 h45 2 4 g45, r7 h47 2 5 g47, r7 h46 2 5 g46, r7 h49 2 6 g49, r7 h48 2 6 g48, r7 h51 2 7 g51, r7 h50 2 7 g50, r7 h53 2 8 g53, r7 h54 2 8 g54]
theorem p192_ok : MO 68 p192 := q1 (by kernel_rfl)
def p201 : LR := [r7 h115 2 28 g115, r7 h113 2 28 g113, r7 h114 2 28 g114, r7 h117 2 29 g117, r7 h116 2 29 g116, r7 h121 2 30 g121, r7 h120 2 30 g120, r7 h119 2 30 g119, r7 h118 2 30 g118]
theorem p201_ok : MO 68 p201 := q1 (by kernel_rfl)
def p224 : LR := [r7 h681 3 27 g319, r7 h682 3 27 g317, r7 h683 3 27 g317, r7 h684 3 27 g317, r7 h685 3 27 g321]
theorem p224_ok : MO 68 p224 := q1 (by kernel_rfl)
def p241 : LR := [r7 h332 3 35 g332, r7 h735 3 35 g333, r7 h736 3 35 g332]
theorem p241_ok : MO 68 p241 := q1 (by kernel_rfl)
def p259 : LR := [r7 h226 3 12 g226]
theorem p259_ok : MO 68 p259 := q1 (by kernel_rfl)
def p263 : LR := [r7 h388 3 15 g175, r7 h177 3 15 g177, r7 h176 3 15 g176, r7 h271 3 16 g271, r7 h268 3 16 g268]
theorem p263_ok : MO 68 p263 := q1 (by kernel_rfl)
def p278 : LR := [rT h96, rT h97, rT h98, rT h99, rT h100, rT h101, rT h102]
theorem p278_ok : MO 7 p278 := q1 (by kernel_rfl)
def p279 : LR := [rT h103, rT h104, rT h105, rT h106, rT h107, rT h108, rT h109, rT h110, rT h111, rT h112, rT h113, rT h114, rT h115, rT h116, rT h117, rT h118, rT h119, rT h120, rT h121]
theorem p279_ok : MO 7 p279 := q1 (by kernel_rfl)
def p287 : LR := [rT h273, rT h274, rT h275, rT h276, rT h277]
theorem p287_ok : MO 7 p287 := q1 (by kernel_rfl)
def p308 : LR := [rT h290, rT h291, rT h292, rT h293, rT h294]
theorem p308_ok : MO 7 p308 := q1 (by kernel_rfl)
def p314 : LR := [rT h166, rT h167, rT h168, rT h169, rT h190]
theorem p314_ok : MO 7 p314 := q1 (by kernel_rfl)
def p321 : LR := [rT h271, rT h272]
theorem p321_ok : MO 7 p321 := q1 (by kernel_rfl)
def p325 : LR := [rT h233, rT h234, rT h235, rT h236, rT h237]
theorem p325_ok : MO 7 p325 := q1 (by kernel_rfl)
def p341 : LR := [r9 h273 3 24 g273, r9 h274 3 24 g274, r9 h275 3 24 g275, r9 h276 3 24 g276, r9 h277 3 24 g277]
theorem p341_ok : MO 9 p341 := q1 (by kernel_rfl)
def p343 : LR := [r9 h283 3 24 g283, r9 h284 3 24 g284, r9 h309 3 23 g309, r9 h310 3 23 g310]
theorem p343_ok : MO 9 p343 := q1 (by kernel_rfl)
def p353 : LR := [r9 h213 3 34 g213, r9 h214 3 34 g214, r9 h215 3 34 g215, r9 h326 3 33 g326]
theorem p353_ok : MO 9 p353 := q1 (by kernel_rfl)
def p372 : LR := [r9 h265 3 16 g265, r9 h266 3 16 g266, r9 h267 3 16 g267, r9 h268 3 16 g268, r9 h269 3 16 g269, r9 h270 3 16 g270, r9 h271 3 16 g271, r9 h272 3 16 g272]
theorem p372_ok : MO 9 p372 := q1 (by kernel_rfl)
def p379 : LR1 := rt [([21110, 31110], [[0],[1]]), ([21112, 31110], [[0,1]]), ([21114, 31110], [[0],[1]]), ([21116, 31110], [[0,1]]), ([11111, 41111], [[0],[1]]), ([11111, 41113], [[0],[1]]), ([11111, 41115], [[0],[1]]), ([11111, 41117], [[0],[1]]), ([11113, 41111], [[0],[1]]), ([11113, 41113], [[0],[1]]), ([11113, 41115], [[0],[1]]), ([11113, 41117], [[0],[1]]), ([11115, 41111], [[0],[1]]), ([11115, 41113], [[0],[1]]), ([11115, 41115], [[0],[1]]), ([11115, 41117], [[0],[1]]), ([11117, 41111], [[0],[1]]), ([11117, 41113], [[0],[1]]), ([11117, 41115], [[0],[1]]), ([11117, 41117], [[0],[1]]), ([1111, 51111], [[0],[1]]), ([1111, 51113], [[0],[1]]), ([1111, 51115], [[0],[1]]), ([1111, 51117], [[0],[1]]), ([1113, 51111], [[0],[1]]), ([1113, 51113], [[0],[1]]), ([1113, 51115], [[0],[1]]), ([1113, 51117], [[0],[1]]), ([1115, 51111], [[0],[1]]), ([1115, 51113], [[0],[1]]), ([1115, 51115], [[0],[1]]), ([1115, 51117], [[0],[1]]), ([1117, 51111], [[0],[1]]), ([1117, 51113], [[0],[1]]), ([1117, 51115], [[0],[1]]), ([1117, 51117], [[0],[1]])]
theorem p379_ok : M1O 36 p379 := qh (by kernel_rfl)
def p393 : LR1 := rc [([1111, 12100], 1), ([1011, 12100], 0), ([1111, 12110], 1), ([1011, 12110], 1), ([1113, 12100], 0), ([1013, 12100], 1), ([1113, 12110], 1), ([1013, 12110], 1), ([1115, 12100], 0), ([1015, 12100], 1), ([1115, 12110], 1), ([1015, 12110], 1), ([1117, 12100], 1), ([1017, 12100], 0), ([1117, 12110], 1), ([1017, 12110], 1), ([2100, 21111], 1), ([2100, 21011], 0), ([2000, 21111], 1), ([2000, 21011], 0), ([2100, 21113], 0), ([2100, 21013], 1), ([2000, 21113], 0), ([2000, 21013], 1), ([2100, 21115], 0), ([2100, 21015], 1), ([2000, 21115], 0), ([2000, 21015], 1), ([2100, 21117], 1), ([2100, 21017], 0), ([2000, 21117], 1), ([2000, 21017], 0), ([2110, 21111], 1), ([2010, 21111], 0), ([2110, 21113], 0), ([2010, 21113], 0), ([2110, 21115], 0), ([2010, 21115], 0), ([2110, 21117], 1), ([2010, 21117], 0), ([2112, 21111], 1), ([2012, 21111], 1), ([2112, 21113], 0), ([2012, 21113], 0)]
theorem p393_ok : M1O 41 p393 := qh (by kernel_rfl)
def p410 : LR1 := rc [([1114, 11110, 41111], 0), ([1114, 11110, 41011], 0), ([1114, 11010, 41111], 1), ([1114, 11010, 41011], 0), ([1014, 11110, 41111], 1), ([1014, 11110, 41011], 0), ([1014, 11010, 41111], 0), ([1014, 11010, 41011], 0), ([1114, 11110, 41113], 0), ([1114, 11110, 41013], 0), ([1114, 11010, 41113], 0), ([1114, 11010, 41013], 1), ([1014, 11110, 41113], 0), ([1014, 11110, 41013], 1), ([1014, 11010, 41113], 0), ([1014, 11010, 41013], 0), ([1114, 11110, 41115], 0), ([1114, 11110, 41015], 0), ([1114, 11010, 41115], 0), ([1114, 11010, 41015], 1)]
theorem p410_ok : M1O 41 p410 := qh (by kernel_rfl)
end Go.Proofs.YtgkpcjahopacjaaGreatDoor.AD

/- Results of some calls, by the kernel (genex.py) -/
namespace Go.Proofs.YtgkpcjahopacjaaGreatDoor.AD
set_option linter.unusedSimpArgs false
set_option linter.unusedVariables false
open Go Go.AL Go.Proofs
set_option maxRecDepth 1000000
def p10 : LR := [rT h281, rT h274, rT h277, rT h273, rT h280, rT h278, rF h593, rT h276, rT h284, rT h594, rF h595, rT h275]
theorem p10_ok : MO 64 p10 := q1 (by kernel_rfl)
def p11 : LR := [rT h596, rF h597, rT h283, rT h279, rT h598, rT h599, rT h282, rT h600, rT h601, rT h602, rT h603, rF h604, rF h605]
theorem p11_ok : MO 64 p11 := q1 (by kernel_rfl)
def p15 : LR := [rF h675, rF h676]
theorem p15_ok : MO 64 p15 := q1 (by kernel_rfl)
def p27 : LR := [rT h713, rT h714, rT h715, rF h716, rF h717, rF h718]
theorem p27_ok : MO 64 p27 := q1 (by kernel_rfl)
def p32 : LR := [rT h258, rT h247, rT h255, rT h556, rT h248, rT h257, rT h250, rF h557, rT h253, rT h558, rT h559, rF h560]
theorem p32_ok : MO 64 p32 := q1 (by kernel_rfl)
def p37 : LR := [rT h217, rT h218, rT h499, rT h500, rF h501, rT h216, rT h502, rT h503, rF h504, rT h505, rT h506, rT h507]
theorem p37_ok : MO 64 p37 := q1 (by kernel_rfl)
def p44 : LR := [rT h767, rT h768, rF h769, rF h770, rF h771, rT h338, rT h339, rT h772, rT h773, rT h774, rT h775, rF h776, rF h777]
theorem p44_ok : MO 64 p44 := q1 (by kernel_rfl)
def p56 : LR := [rF h589, rF h590, rT h266, rF h591]
theorem p56_ok : MO 64 p56 := q1 (by kernel_rfl)
def p57 : LR := [rT h178, rT h396, rT h179, rT h397, rT h398, rT h399, rF h400, rF h401, rF h402, rT h199, rT h198, rT h197, rF h442]
theorem p57_ok : MO 64 p57 := q1 (by kernel_rfl)
def p65 : LR := [rR h48 h48, rR h51 h51, rR h50 h50, rR h53 h53, rR h54 h54, rR h52 h52]
theorem p65_ok : MO 20 p65 := q1 (by kernel_rfl)
def p68 : LR := [rR h70 h70, rR h72 h72, rR h71 h71, rR h75 h75, rR h76 h76, rR h77 h77, rR h74 h74]
theorem p68_ok : MO 20 p68 := q1 (by kernel_rfl)
def p73 : LR := [rR h104 h104, rR h103 h103, rR h105 h105, rR h106 h106, rR h107 h107, rR h110 h110, rR h108 h108, rR h111 h111, rR h352 h352]
theorem p73_ok : MO 20 p73 := q1 (by kernel_rfl)
def p80 : LR := [rR h149 h149, rR h367 h367, rR h150 h150, rR h151 h151, rR h155 h155, rR h157 h157, rR h158 h158, rR h153 h153]
theorem p80_ok : MO 20 p80 := q1 (by kernel_rfl)
def p83 : LR := [rR h161 h161, rR h160 h160, rR h221 h221]
theorem p83_ok : MO 20 p83 := q1 (by kernel_rfl)
def p102 : LR := [rR h314 h314]
theorem p102_ok : MO 20 p102 := q1 (by kernel_rfl)
def p103 : LR := [rR h244 h244, rR h239 h239, rR h243 h243]
theorem p103_ok : MO 20 p103 := q1 (by kernel_rfl)
def p118 : LR := [rR h305 h305, rR h301 h301, rR h304 h304]
theorem p118_ok : MO 20 p118 := q1 (by kernel_rfl)
def p152 : LR := [rR h621 h621, rR h294 h294, rR h337 h337]
theorem p152_ok : MO 20 p152 := q1 (by kernel_rfl)
def p153 : LR := [rR h336 h336, rR h765 h765, rR h766 h766]
theorem p153_ok : MO 20 p153 := q1 (by kernel_rfl)
def p157 : LR := [rR h189 h189, rR h187 h187]
theorem p157_ok : MO 20 p157 := q1 (by kernel_rfl)
def p170 : LR := [rR h438 h438, rR h195 h195, rR h193 h193]
theorem p170_ok : MO 20 p170 := q1 (by kernel_rfl)
def p178 : LR := [rR h266 h266]
theorem p178_ok : MO 20 p178 := q1 (by kernel_rfl)
def p185 : LR := [rR h232 h232, rR h233 h233, rR h529 h529]
theorem p185_ok : MO 20 p185 := q1 (by kernel_rfl)
def p205 : LR := [r7 h139 2 36 g139, r7 h144 2 36 g144, r7 h146 2 37 g146, r7 h145 2 37 g145, r7 h148 2 38 g148, r7 h147 2 38 g147, r7 h152 2 39 g152, r7 h149 2 39 g149, r7 h367 2 39 g152, r7 h150 2 39 g150]
theorem p205_ok : MO 68 p205 := q1 (by kernel_rfl)
def p230 : LR := [r7 h637 3 32 g305, r7 h303 3 32 g303, r7 h638 3 32 g303, r7 h639 3 32 g303, r7 h306 3 32 g306, r7 h299 3 32 g299, r7 h297 3 32 g297]
theorem p230_ok : MO 68 p230 := q1 (by kernel_rfl)
def p274 : LR := [rT h40, rT h41, rT h42, rT h43, rT h44, rT h45, rT h46, rT h47, rT h48, rT h49, rT h50, rT h51, rT h52, rT h53, rT h54]
theorem p274_ok : MO 7 p274 := q1 (by kernel_rfl)
def p282 : LR := [rT h147, rT h148, rT h149, rT h150, rT h151, rT h152, rT h153, rT h154, rT h155, rT h156, rT h157, rT h158]
theorem p282_ok : MO 7 p282 := q1 (by kernel_rfl)
def p330 : LR := [r9 h78 2 17 g78, r9 h79 2 17 g79, r9 h80 2 18 g80, r9 h81 2 18 g81, r9 h82 2 18 g82, r9 h83 2 19 g83, r9 h84 2 19 g84, r9 h85 2 20 g85, r9 h86 2 20 g86, r9 h87 2 20 g87, r9 h88 2 20 g88, r9 h89 2 21 g89, r9 h90 2 21 g90]
theorem p330_ok : MO 9 p330 := q1 (by kernel_rfl)
def p348 : LR := [r9 h317 3 27 g317, r9 h318 3 27 g318, r9 h319 3 27 g319, r9 h320 3 27 g320, r9 h321 3 27 g321]
theorem p348_ok : MO 9 p348 := q1 (by kernel_rfl)
def p350 : LR := [r9 h211 3 30 g211, r9 h212 3 30 g212, r9 h322 3 29 g322, r9 h323 3 29 g323]
theorem p350_ok : MO 9 p350 := q1 (by kernel_rfl)
def p371 : LR := [r9 h174 3 15 g174, r9 h175 3 15 g175, r9 h176 3 15 g176, r9 h177 3 15 g177]
theorem p371_ok : MO 9 p371 := q1 (by kernel_rfl)
def p376 : LR := [r9 h233 3 20 g233, r9 h234 3 20 g234, r9 h235 3 20 g235, r9 h236 3 20 g236, r9 h237 3 20 g237]
theorem p376_ok : MO 9 p376 := q1 (by kernel_rfl)
def p392 : LR1 := rc [([1117, 51111], 1), ([1117, 51011], 0), ([1017, 51111], 0), ([1017, 51011], 0), ([1117, 51113], 0), ([1117, 51013], 1), ([1017, 51113], 0), ([1017, 51013], 0), ([1117, 51115], 0), ([1117, 51015], 1), ([1017, 51115], 0), ([1017, 51015], 0), ([1117, 51117], 1), ([1117, 51017], 0), ([1017, 51117], 0), ([1017, 51017], 0)]
theorem p392_ok : M1O 41 p392 := qh (by kernel_rfl)
def p403 : LR1 := rc [([2014, 41011], 0), ([2114, 41113], 0), ([2114, 41013], 0), ([2014, 41113], 0), ([2014, 41013], 1), ([2114, 41115], 0), ([2114, 41015], 0), ([2014, 41115], 0), ([2014, 41015], 1), ([2114, 41117], 0), ([2114, 41017], 0), ([2014, 41117], 1), ([2014, 41017], 0), ([2116, 41111], 1), ([2116, 41011], 0), ([2016, 41111], 1), ([2016, 41011], 0), ([2116, 41113], 0), ([2116, 41013], 1), ([2016, 41113], 0), ([2016, 41013], 1), ([2116, 41115], 0), ([2116, 41015], 1), ([2016, 41115], 0), ([2016, 41015], 1), ([2116, 41117], 1), ([2116, 41017], 0), ([2016, 41117], 1), ([2016, 41017], 0)]
theorem p403_ok : M1O 41 p403 := qh (by kernel_rfl)
def p406 : LR1 := rc [([1113, 21110, 31110], 0), ([1113, 21110, 31010], 0), ([1013, 21110, 31110], 1), ([1013, 21110, 31010], 0), ([1113, 21112, 31110], 0), ([1013, 21112, 31110], 1), ([1113, 21114, 31110], 0), ([1113, 21114, 31010], 0), ([1013, 21114, 31110], 0), ([1013, 21114, 31010], 1), ([1113, 21116, 31110], 0), ([1013, 21116, 31110], 1), ([1115, 21110, 31110], 0), ([1115, 21110, 31010], 0), ([1015, 21110, 31110], 1), ([1015, 21110, 31010], 0), ([1115, 21112, 31110], 0), ([1015, 21112, 31110], 1), ([1115, 21114, 31110], 0), ([1115, 21114, 31010], 0), ([1015, 21114, 31110], 0), ([1015, 21114, 31010], 1), ([1115, 21116, 31110], 0), ([1015, 21116, 31110], 1)]
theorem p406_ok : M1O 41 p406 := qh (by kernel_rfl)
end Go.Proofs.YtgkpcjahopacjaaGreatDoor.AD
