/- Results of some calls, by the kernel (genex.py) -/
import Derived.Test.YtgkpcjahopacjaaGreatDoorXC
namespace Go.Proofs.YtgkpcjahopacjaaGreatDoor.AD
set_option linter.unusedSimpArgs false
set_option linter.unusedVariables false
open Go Go.AL Go.Proofs
set_option maxRecDepth 1000000
def p1 : LR := [rT h56, rT h55, rT h57, rT h58, rT h59, rT h61, rT h60, rT h340, rT h63, rT h65, rT h62, rF h341, rT h64, rT h67, rT h66, rT h69, rT h342, rT h68, rT h73, rT h70, rT h72, rT h71, rT h75, rT h76, rT h77, rT h74]
theorem p1_ok : MO 64 p1 := q1 (by kernel_rfl)
def p4 : LR := [rT h130, rT h129, rT h131, rT h132, rT h133, rT h360, rT h134, rT h138, rT h135, rT h137, rT h361, rT h362, rT h136, rT h140, rT h142, rT h141, rT h363, rT h143, rT h139, rT h144, rT h146, rT h145, rT h148, rT h147, rT h364, rT h365, rF h366, rT h152, rT h149, rT h367, rT h150, rT h151, rT h368, rT h155, rT h157, rT h158, rT h153, rT h154, rT h156]
theorem p4_ok : MO 64 p4 := q1 (by kernel_rfl)
def p16 : LR := [rT h244, rT h239, rT h243, rT h238, rF h538, rT h242, rT h539, rT h540, rT h241, rT h541, rT h542, rT h543]
theorem p16_ok : MO 64 p16 := q1 (by kernel_rfl)
def p30 : LR := [rT h721, rT h722, rT h723, rF h724, rT h725, rF h726, rT h727, rF h728, rF h729, rT h730, rT h731, rT h732, rF h733]
theorem p30_ok : MO 64 p30 := q1 (by kernel_rfl)
def p46 : LR := [rT h164, rT h370, rT h165, rT h371, rT h372, rT h373, rT h263, rT h260, rT h262, rF h580, rF h581, rT h261]
theorem p46_ok : MO 64 p46 := q1 (by kernel_rfl)
def p55 : LR := [rT h268, rT h267, rT h270, rF h583, rT h584, rT h272, rT h585, rT h269, rT h586, rT h587, rT h588, rT h265]
theorem p55_ok : MO 64 p55 := q1 (by kernel_rfl)
def p95 : LR := [rR h310 h310]
theorem p95_ok : MO 20 p95 := q1 (by kernel_rfl)
def p108 : LR := [rR h321 h321, rR h317 h317, rR h320 h320]
theorem p108_ok : MO 20 p108 := q1 (by kernel_rfl)
def p116 : LR := [rR h475 h475, rR h207 h207, rR h323 h323]
theorem p116_ok : MO 20 p116 := q1 (by kernel_rfl)
def p136 : LR := [rR h561 h561, rR h252 h252, rR h562 h562]
theorem p136_ok : MO 20 p136 := q1 (by kernel_rfl)
def p149 : LR := [rR h612 h612, rR h613 h613, rR h614 h614]
theorem p149_ok : MO 20 p149 := q1 (by kernel_rfl)
def p151 : LR := [rR h291 h291, rR h619 h619, rR h620 h620]
theorem p151_ok : MO 20 p151 := q1 (by kernel_rfl)
def p177 : LR := [rR h588 h588, rR h265 h265]
theorem p177_ok : MO 20 p177 := q1 (by kernel_rfl)
def p187 : LR := [rR h533 h533, rR h534 h534]
theorem p187_ok : MO 20 p187 := q1 (by kernel_rfl)
def p195 : LR := [r7 h67 2 13 g67, r7 h66 2 13 g66, r7 h69 2 14 g69, r7 h342 2 14 g69, r7 h68 2 14 g68, r7 h73 2 15 g73, r7 h70 2 15 g70, r7 h72 2 15 g72, r7 h71 2 15 g71, r7 h75 2 16 g75]
theorem p195_ok : MO 68 p195 := q1 (by kernel_rfl)
def p202 : LR := [r7 h123 2 31 g123, r7 h122 2 31 g122, r7 h125 2 32 g125, r7 h127 2 32 g127, r7 h124 2 32 g124, r7 h128 2 32 g128, r7 h359 2 32 g125, r7 h126 2 32 g126]
theorem p202_ok : MO 68 p202 := q1 (by kernel_rfl)
def p204 : LR := [r7 h137 2 35 g137, r7 h361 2 35 g138, r7 h362 2 35 g137, r7 h136 2 35 g136, r7 h140 2 36 g140, r7 h142 2 36 g142, r7 h141 2 36 g141, r7 h363 2 36 g140, r7 h143 2 36 g143]
theorem p204_ok : MO 68 p204 := q1 (by kernel_rfl)
def p206 : LR := [r7 h151 2 39 g151, r7 h155 2 40 g155, r7 h157 2 40 g157, r7 h158 2 40 g158, r7 h153 2 40 g153, r7 h154 2 40 g154, r7 h156 2 40 g156]
theorem p206_ok : MO 68 p206 := q1 (by kernel_rfl)
def p232 : LR := [r7 h704 3 31 g324, r7 h705 3 31 g324, r7 h706 3 31 g324, r7 h325 3 31 g325]
theorem p232_ok : MO 68 p232 := q1 (by kernel_rfl)
def p236 : LR := [r7 h258 3 36 g258, r7 h247 3 36 g247, r7 h255 3 36 g255, r7 h556 3 36 g258, r7 h248 3 36 g248]
theorem p236_ok : MO 68 p236 := q1 (by kernel_rfl)
def p239 : LR := [r7 h563 3 36 g252, r7 h256 3 36 g256, r7 h565 3 36 g256, r7 h259 3 36 g259, r7 h571 3 36 g247]
theorem p239_ok : MO 68 p239 := q1 (by kernel_rfl)
def p257 : LR := [r7 h171 3 11 g171, r7 h170 3 11 g170, r7 h228 3 12 g228, r7 h222 3 12 g222, r7 h227 3 12 g227]
theorem p257_ok : MO 68 p257 := q1 (by kernel_rfl)
def p275 : LR := [rT h55, rT h56, rT h57, rT h58, rT h59, rT h60, rT h61, rT h62, rT h63, rT h64, rT h65, rT h66, rT h67, rT h68, rT h69, rT h70, rT h71, rT h72]
theorem p275_ok : MO 7 p275 := q1 (by kernel_rfl)
def p312 : LR := [rT h164, rT h165, rT h260, rT h261, rT h262]
theorem p312_ok : MO 7 p312 := q1 (by kernel_rfl)
def p318 : LR := [rT h172, rT h173, rT h193, rT h194, rT h195]
theorem p318_ok : MO 7 p318 := q1 (by kernel_rfl)
def p319 : LR := [rT h174, rT h175, rT h176, rT h177, rT h265]
theorem p319_ok : MO 7 p319 := q1 (by kernel_rfl)
def p337 : LR := [r9 h159 3 1 g159, r9 h186 3 2 g186]
theorem p337_ok : MO 9 p337 := q1 (by kernel_rfl)
def p347 : LR := [r9 h243 3 28 g243, r9 h244 3 28 g244, r9 h245 3 28 g245, r9 h315 3 27 g315, r9 h316 3 27 g316]
theorem p347_ok : MO 9 p347 := q1 (by kernel_rfl)
def p351 : LR := [r9 h297 3 32 g297, r9 h298 3 32 g298, r9 h299 3 32 g299, r9 h300 3 32 g300, r9 h301 3 32 g301, r9 h302 3 32 g302, r9 h303 3 32 g303, r9 h304 3 32 g304]
theorem p351_ok : MO 9 p351 := q1 (by kernel_rfl)
def p373 : LR := [r9 h178 3 17 g178, r9 h179 3 17 g179, r9 h196 3 18 g196, r9 h197 3 18 g197, r9 h198 3 18 g198]
theorem p373_ok : MO 9 p373 := q1 (by kernel_rfl)
def p374 : LR := [r9 h199 3 18 g199, r9 h200 3 18 g200]
theorem p374_ok : MO 9 p374 := q1 (by kernel_rfl)
def p377 : LR1 := rt [([11110, 21110], [[0],[1]]), ([11112, 21110], [[0,1]]), ([11114, 21110], [[0],[1]]), ([11116, 21110], [[0,1]]), ([1111, 31111], [[0],[1]]), ([1111, 31113], [[0],[1]]), ([1111, 31115], [[0],[1]]), ([1111, 31117], [[0],[1]]), ([1113, 31111], [[0],[1]]), ([1113, 31113], [[0],[1]]), ([1113, 31115], [[0],[1]]), ([1113, 31117], [[0],[1]]), ([1115, 31111], [[0],[1]]), ([1115, 31113], [[0],[1]]), ([1115, 31115], [[0],[1]]), ([1115, 31117], [[0],[1]]), ([1117, 31111], [[0],[1]]), ([1117, 31113], [[0],[1]]), ([1117, 31115], [[0],[1]]), ([1117, 31117], [[0],[1]])]
theorem p377_ok : M1O 36 p377 := qh (by kernel_rfl)
def p378 : LR1 := rt [([22100], [[0]]), ([22110], [[0]]), ([22112], [[0]]), ([22114], [[0]]), ([22116], [[0]]), ([11111, 31111], [[0,1]]), ([11111, 31113], [[0,1]]), ([11111, 31115], [[0,1]]), ([11111, 31117], [[0,1]]), ([11113, 31111], [[0,1]]), ([11113, 31113], [[0,1]]), ([11113, 31115], [[0,1]]), ([11113, 31117], [[0,1]]), ([11115, 31111], [[0,1]]), ([11115, 31113], [[0,1]]), ([11115, 31115], [[0,1]]), ([11115, 31117], [[0,1]]), ([11117, 31111], [[0,1]]), ([11117, 31113], [[0,1]]), ([11117, 31115], [[0,1]]), ([11117, 31117], [[0,1]]), ([1111, 41111], [[0],[1]]), ([1111, 41113], [[0],[1]]), ([1111, 41115], [[0],[1]]), ([1111, 41117], [[0],[1]]), ([1113, 41111], [[0],[1]]), ([1113, 41113], [[0],[1]]), ([1113, 41115], [[0],[1]]), ([1113, 41117], [[0],[1]]), ([1115, 41111], [[0],[1]]), ([1115, 41113], [[0],[1]]), ([1115, 41115], [[0],[1]]), ([1115, 41117], [[0],[1]]), ([1117, 41111], [[0],[1]]), ([1117, 41113], [[0],[1]]), ([1117, 41115], [[0],[1]]), ([1117, 41117], [[0],[1]])]
theorem p378_ok : M1O 36 p378 := qh (by kernel_rfl)
def p395 : LR1 := rc [([13111], 1), ([13011], 1), ([13113], 1), ([13013], 1), ([13115], 1), ([13015], 1), ([13117], 1), ([13017], 1), ([1111, 11110, 21110], 1), ([1011, 11110, 21110], 1), ([1113, 11110, 21110], 1), ([1013, 11110, 21110], 1), ([1115, 11110, 21110], 1), ([1015, 11110, 21110], 1), ([1117, 11110, 21110], 1), ([1017, 11110, 21110], 1), ([2100, 31111], 1), ([2100, 31011], 0), ([2000, 31111], 1), ([2000, 31011], 0), ([2100, 31113], 0), ([2100, 31013], 1), ([2000, 31113], 0), ([2000, 31013], 1), ([2100, 31115], 0), ([2100, 31015], 1)]
theorem p395_ok : M1O 41 p395 := qh (by kernel_rfl)
def p404 : LR1 := rc [([11111, 22100], 1), ([11011, 22100], 0), ([11111, 22110], 1), ([11011, 22110], 1), ([11113, 22100], 0), ([11013, 22100], 1), ([11113, 22110], 1), ([11013, 22110], 1), ([11115, 22100], 0), ([11015, 22100], 1), ([11115, 22110], 1), ([11015, 22110], 1), ([11117, 22100], 1), ([11017, 22100], 0), ([11117, 22110], 1), ([11017, 22110], 1), ([12100, 31111], 1), ([12100, 31011], 0), ([12000, 31111], 1), ([12000, 31011], 0), ([12100, 31113], 0), ([12100, 31013], 1), ([12000, 31113], 0), ([12000, 31013], 1), ([12100, 31115], 0), ([12100, 31015], 1), ([12000, 31115], 0), ([12000, 31015], 1), ([12100, 31117], 1), ([12100, 31017], 0), ([12000, 31117], 1), ([12000, 31017], 0), ([12110, 31111], 1), ([12010, 31111], 0), ([12110, 31113], 0), ([12010, 31113], 0), ([12110, 31115], 0), ([12010, 31115], 0), ([12110, 31117], 1), ([12010, 31117], 0), ([12112, 31111], 1), ([12012, 31111], 1), ([12112, 31113], 0), ([12012, 31113], 0)]
theorem p404_ok : M1O 41 p404 := qh (by kernel_rfl)
end Go.Proofs.YtgkpcjahopacjaaGreatDoor.AD

/- Results of some calls, by the kernel (genex.py) -/
namespace Go.Proofs.YtgkpcjahopacjaaGreatDoor.AD
set_option linter.unusedSimpArgs false
set_option linter.unusedVariables false
open Go Go.AL Go.Proofs
set_option maxRecDepth 1000000
def p8 : LR := [rT h421, rT h422, rT h423, rT h202, rT h203, rT h201, rT h452, rT h453, rT h454, rT h455, rT h456]
theorem p8_ok : MO 64 p8 := q1 (by kernel_rfl)
def p19 : LR := [rT h684, rT h685, rT h686, rT h687, rF h688, rF h689, rF h690, rF h691, rF h692, rT h318]
theorem p19_ok : MO 64 p19 := q1 (by kernel_rfl)
def p28 : LR := [rT h214, rT h484, rT h215, rF h485, rT h486, rT h487, rT h488, rT h213, rT h489, rT h490, rT h491, rT h492]
theorem p28_ok : MO 64 p28 := q1 (by kernel_rfl)
def p72 : LR := [rR h98 h98]
theorem p72_ok : MO 20 p72 := q1 (by kernel_rfl)
def p74 : LR := [rR h109 h109, rR h112 h112, rR h115 h115, rR h113 h113, rR h114 h114, rR h117 h117, rR h116 h116, rR h121 h121, rR h120 h120]
theorem p74_ok : MO 20 p74 := q1 (by kernel_rfl)
def p99 : LR := [rR h312 h312, rR h311 h311, rR h668 h668]
theorem p99_ok : MO 20 p99 := q1 (by kernel_rfl)
def p111 : LR := [rR h683 h683, rR h684 h684]
theorem p111_ok : MO 20 p111 := q1 (by kernel_rfl)
def p120 : LR := [rR h636 h636, rR h308 h308, rR h637 h637]
theorem p120_ok : MO 20 p120 := q1 (by kernel_rfl)
def p132 : LR := [rR h258 h258, rR h247 h247, rR h255 h255]
theorem p132_ok : MO 20 p132 := q1 (by kernel_rfl)
def p184 : LR := [rR h231 h231, rR h235 h235, rR h526 h526]
theorem p184_ok : MO 20 p184 := q1 (by kernel_rfl)
def p188 : LR := [rR h535 h537, rR h536 h536]
theorem p188_ok : MO 20 p188 := q1 (by kernel_rfl)
def p199 : LR := [r7 h99 2 24 g99, r7 h102 2 24 g102, r7 h97 2 24 g97, r7 h101 2 24 g101, r7 h100 2 24 g100, r7 h98 2 24 g98]
theorem p199_ok : MO 68 p199 := q1 (by kernel_rfl)
def p203 : LR := [r7 h130 2 33 g130, r7 h129 2 33 g129, r7 h131 2 33 g131, r7 h132 2 33 g132, r7 h133 2 34 g133, r7 h360 2 34 g133, r7 h134 2 34 g134, r7 h138 2 35 g138, r7 h135 2 35 g135]
theorem p203_ok : MO 68 p203 := q1 (by kernel_rfl)
def p211 : LR := [r7 h281 3 24 g281, r7 h274 3 24 g274, r7 h277 3 24 g277, r7 h273 3 24 g273, r7 h280 3 24 g280]
theorem p211_ok : MO 68 p211 := q1 (by kernel_rfl)
def p231 : LR := [r7 h298 3 32 g298, r7 h642 3 32 g304, r7 h644 3 32 g304, r7 h662 3 32 g304, r7 h646 3 32 g304, r7 h307 3 32 g307, r7 h324 3 31 g324]
theorem p231_ok : MO 68 p231 := q1 (by kernel_rfl)
def p234 : LR := [r7 h488 3 34 g214, r7 h213 3 34 g213, r7 h327 3 33 g327, r7 h326 3 33 g326]
theorem p234_ok : MO 68 p234 := q1 (by kernel_rfl)
def p235 : LR := [r7 h328 3 33 g328, r7 h329 3 33 g329]
theorem p235_ok : MO 68 p235 := q1 (by kernel_rfl)
def p238 : LR := [r7 h251 3 36 g251, r7 h246 3 36 g246, r7 h561 3 36 g257, r7 h252 3 36 g252, r7 h562 3 36 g257]
theorem p238_ok : MO 68 p238 := q1 (by kernel_rfl)
def p243 : LR := [r7 h217 3 38 g217, r7 h218 3 38 g218, r7 h499 3 38 g218, r7 h500 3 38 g217, r7 h216 3 38 g216]
theorem p243_ok : MO 68 p243 := q1 (by kernel_rfl)
def p248 : LR := [r7 h616 3 40 g286, r7 h295 3 40 g295, r7 h291 3 40 g291, r7 h619 3 40 g293, r7 h620 3 40 g293]
theorem p248_ok : MO 68 p248 := q1 (by kernel_rfl)
def p251 : LR := [r7 h768 3 39 g336, r7 h338 3 39 g338, r7 h339 3 39 g339]
theorem p251_ok : MO 68 p251 := q1 (by kernel_rfl)
def p256 : LR := [r7 h192 3 10 g192, r7 h430 3 10 g191, r7 h431 3 10 g191, r7 h432 3 10 g191, r7 h190 3 10 g190]
theorem p256_ok : MO 68 p256 := q1 (by kernel_rfl)
def p261 : LR := [r7 h193 3 14 g193]
theorem p261_ok : MO 68 p261 := q1 (by kernel_rfl)
def p292 : LR := [rT h238, rT h239, rT h240, rT h241, rT h242]
theorem p292_ok : MO 7 p292 := q1 (by kernel_rfl)
def p301 : LR := [rT h328, rT h329]
theorem p301_ok : MO 7 p301 := q1 (by kernel_rfl)
def p304 : LR := [rT h256, rT h257, rT h258, rT h259, rT h330]
theorem p304_ok : MO 7 p304 := q1 (by kernel_rfl)
def p306 : LR := [rT h216, rT h217, rT h218, rT h334, rT h335]
theorem p306_ok : MO 7 p306 := q1 (by kernel_rfl)
def p315 : LR := [rT h191, rT h192]
theorem p315_ok : MO 7 p315 := q1 (by kernel_rfl)
def p333 : LR := [r9 h117 2 29 g117, r9 h118 2 30 g118, r9 h119 2 30 g119, r9 h120 2 30 g120, r9 h121 2 30 g121, r9 h122 2 31 g122, r9 h123 2 31 g123, r9 h124 2 32 g124, r9 h125 2 32 g125, r9 h126 2 32 g126, r9 h127 2 32 g127, r9 h128 2 32 g128]
theorem p333_ok : MO 9 p333 := q1 (by kernel_rfl)
def p334 : LR := [r9 h129 2 33 g129, r9 h130 2 33 g130, r9 h131 2 33 g131, r9 h132 2 33 g132, r9 h133 2 34 g133, r9 h134 2 34 g134, r9 h135 2 35 g135, r9 h136 2 35 g136, r9 h137 2 35 g137, r9 h138 2 35 g138]
theorem p334_ok : MO 9 p334 := q1 (by kernel_rfl)
def p339 : LR := [r9 h182 3 21 g182, r9 h183 3 21 g183, r9 h184 3 21 g184, r9 h185 3 21 g185]
theorem p339_ok : MO 9 p339 := q1 (by kernel_rfl)
def p375 : LR := [r9 h180 3 19 g180, r9 h181 3 19 g181, r9 h230 3 20 g230, r9 h231 3 20 g231, r9 h232 3 20 g232]
theorem p375_ok : MO 9 p375 := q1 (by kernel_rfl)
def p387 : LR1 := rc [([1111, 41115], 0), ([1111, 41015], 1), ([1011, 41115], 0), ([1011, 41015], 0), ([1111, 41117], 1), ([1111, 41017], 0), ([1011, 41117], 0), ([1011, 41017], 0), ([1113, 41111], 0), ([1113, 41011], 0), ([1013, 41111], 1), ([1013, 41011], 0), ([1113, 41113], 0), ([1113, 41013], 0), ([1013, 41113], 0), ([1013, 41013], 1), ([1113, 41115], 0), ([1113, 41015], 0), ([1013, 41115], 0), ([1013, 41015], 1), ([1113, 41117], 0), ([1113, 41017], 0), ([1013, 41117], 1), ([1013, 41017], 0), ([1115, 41111], 0), ([1115, 41011], 0), ([1015, 41111], 1), ([1015, 41011], 0), ([1115, 41113], 0), ([1115, 41013], 0), ([1015, 41113], 0), ([1015, 41013], 1), ([1115, 41115], 0), ([1115, 41015], 0), ([1015, 41115], 0), ([1015, 41015], 1), ([1115, 41117], 0), ([1115, 41017], 0), ([1015, 41117], 1), ([1015, 41017], 0), ([1117, 41111], 1), ([1117, 41011], 0), ([1017, 41111], 0), ([1017, 41011], 0)]
theorem p387_ok : M1O 41 p387 := qh (by kernel_rfl)
def p405 : LR1 := rc [([12112, 31115], 0), ([12012, 31115], 0), ([12112, 31117], 1), ([12012, 31117], 1), ([12114, 31111], 0), ([12014, 31111], 1), ([12114, 31113], 0), ([12014, 31113], 0), ([12114, 31115], 0), ([12014, 31115], 0), ([12114, 31117], 0), ([12014, 31117], 1), ([12116, 31111], 1), ([12016, 31111], 1), ([12116, 31113], 0), ([12016, 31113], 0), ([12116, 31115], 0), ([12016, 31115], 0), ([12116, 31117], 1), ([12016, 31117], 1), ([1111, 21110, 31110], 1), ([1111, 21110, 31010], 0), ([1011, 21110, 31110], 0), ([1011, 21110, 31010], 0), ([1111, 21112, 31110], 1), ([1011, 21112, 31110], 0), ([1111, 21114, 31110], 0), ([1111, 21114, 31010], 1), ([1011, 21114, 31110], 0), ([1011, 21114, 31010], 0), ([1111, 21116, 31110], 1), ([1011, 21116, 31110], 0)]
theorem p405_ok : M1O 41 p405 := qh (by kernel_rfl)
def p414 : LR1 := rc [([2116, 51013], 1), ([2016, 51113], 0), ([2016, 51013], 1), ([2116, 51115], 0), ([2116, 51015], 1), ([2016, 51115], 0), ([2016, 51015], 1), ([2116, 51117], 1), ([2116, 51017], 0), ([2016, 51117], 1), ([2016, 51017], 0)]
theorem p414_ok : M1O 41 p414 := qh (by kernel_rfl)
end Go.Proofs.YtgkpcjahopacjaaGreatDoor.AD
