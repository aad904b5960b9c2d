/- The compiled code of some functions, by program (gencode.py). -/
import Derived.Test.YthkpeakeoepocaaGreatDoorAL24
import Derived.Test.YthkpeakeoepocaaGreatDoorXB
import Derived.KernelRfl

namespace Go.Proofs.YthkpeakeoepocaaGreatDoor
set_option linter.unusedSimpArgs false
set_option linter.unusedVariables false
open Go Go.AL Go.Proofs
set_option maxRecDepth 100000
-- integer.trim (function 61)
def r61_0 : List COp := [⟨(some 2), none, (.mov (.k (.vec [] 0 (some 0))))⟩]
def r61_1 : List COp := [⟨(some 3), none, (.mov (.t 0))⟩, ⟨(some 4), none, (.len false (.t 3))⟩, ⟨(some 5), none, (.bin .gtr (.t 4) (.k (.int .i64 0)))⟩, ⟨(some 6), none, (.mov (.t 5))⟩, ⟨(some 7), (some (6, true)), (.mov (.t 0))⟩, ⟨(some 8), (some (6, true)), (.mov (.t 0))⟩, ⟨(some 9), (some (6, true)), (.len false (.t 8))⟩, ⟨(some 10), (some (6, true)), (.bin .sub (.t 9) (.k (.int .i64 1)))⟩, ⟨(some 11), (some (6, true)), (.idx 1 (.t 7) (.t 10))⟩, ⟨(some 12), (some (6, true)), (.load false 1 (.t 11))⟩, ⟨(some 13), (some (6, true)), (.bin .eql (.t 12) (.k (.int .u32 0)))⟩, ⟨(some 14), none, (.pick (.t 6) (.t 13) (.k (.bool false)))⟩]
def r61_2 : List COp := [⟨(some 15), none, (.mov (.t 0))⟩, ⟨(some 16), none, (.mov (.t 0))⟩, ⟨(some 17), none, (.len false (.t 16))⟩, ⟨(some 18), none, (.bin .sub (.t 17) (.k (.int .i64 1)))⟩, ⟨(some 19), none, (.slice 1 (.t 15) none (some (.t 18)) none)⟩, ⟨(some 0), none, (.mov (.t 19))⟩]
def l61_0 : CC := (.seq (.seq (.reg r61_1 none) (.cond (.t 14) .skip (.exit 0))) (.block 1 (.reg r61_2 none)))
def r61_3 : List COp := [⟨(some 20), none, (.mov (.t 0))⟩, ⟨(some 2), none, (.mov (.t 20))⟩]
def c61 : CC := (.seq (.reg r61_0 none) (.seq (.block 0 (.loop l61_0)) (.seq (.reg r61_3 none) .ret)))
theorem comp61 : Tryz.f61.body.bind (compC Tryz.prog G Tryz.f61.ntmps) = some c61 := by kernel_rfl
theorem res61 : Tryz.f61.results.toList = [(.tmp 2)] := by kernel_rfl
-- integer.word (function 102)
def r102_0 : List COp := [⟨(some 2), none, (.mov (.k (.int .u64 0)))⟩]
def r102_1 : List COp := [⟨(some 3), none, (.mov (.k (.int .u64 0)))⟩]
def r102_2 : List COp := [⟨(some 6), none, (.mov (.t 0))⟩, ⟨(some 7), none, (.len false (.t 6))⟩, ⟨(some 8), none, (.mov (.k (.int .i64 0)))⟩]
def r102_3 : List COp := [⟨(some 9), none, (.bin .lss (.t 8) (.t 7))⟩]
def r102_4 : List COp := [⟨(some 10), none, (.mov (.t 8))⟩, ⟨(some 11), none, (.idx 1 (.t 6) (.t 8))⟩, ⟨(some 12), none, (.load false 1 (.t 11))⟩, ⟨(some 4), none, (.mov (.t 10))⟩, ⟨(some 5), none, (.mov (.t 12))⟩]
def r102_5 : List COp := [⟨(some 13), none, (.mov (.t 3))⟩, ⟨(some 14), none, (.mov (.t 5))⟩, ⟨(some 15), none, (.conv .u64 (.t 14))⟩, ⟨(some 16), none, (.mov (.t 4))⟩, ⟨(some 17), none, (.bin .mul (.k (.int .i64 32)) (.t 16))⟩, ⟨(some 18), none, (.bin .shl (.t 15) (.t 17))⟩, ⟨(some 19), none, (.bin .or (.t 13) (.t 18))⟩, ⟨(some 3), none, (.mov (.t 19))⟩]
def r102_6 : List COp := [⟨(some 20), none, (.bin .add (.t 8) (.k (.int .i64 1)))⟩, ⟨(some 8), none, (.mov (.t 20))⟩]
def l102_0 : CC := (.seq (.reg r102_3 none) (.seq (.cond (.t 9) .skip (.exit 0)) (.seq (.block 1 (.seq (.reg r102_4 none) (.reg r102_5 none))) (.reg r102_6 none))))
def r102_7 : List COp := [⟨(some 21), none, (.mov (.t 3))⟩, ⟨(some 2), none, (.mov (.t 21))⟩]
def c102 : CC := (.seq (.reg r102_0 none) (.seq (.reg r102_1 none) (.seq (.seq (.reg r102_2 none) (.block 0 (.loop l102_0))) (.seq (.reg r102_7 none) .ret))))
theorem comp102 : Tryz.f102.body.bind (compC Tryz.prog G Tryz.f102.ntmps) = some c102 := by kernel_rfl
theorem res102 : Tryz.f102.results.toList = [(.tmp 2)] := by kernel_rfl
-- integer.build (function 58)
def r58_0 : List COp := [⟨(some 4), none, (.box (.k (.agg [(.bool false), (.vec [] 0 (some 0))])))⟩]
def r58_1 : List COp := [⟨(some 5), none, (.mov (.t 1))⟩, ⟨(some 6), none, (.len false (.t 5))⟩, ⟨(some 7), none, (.bin .eql (.t 6) (.k (.int .i64 0)))⟩]
def r58_2 : List COp := [⟨(some 8), none, (.build [(.bool false), (.vec [] 0 (some 0))] [])⟩, ⟨none, none, (.store 2 (.t 4) (.t 8))⟩]
def r58_3 : List COp := [⟨(some 9), none, (.mov (.t 0))⟩, ⟨(some 10), none, (.mov (.t 1))⟩, ⟨(some 11), none, (.build [(.bool false), (.vec [] 0 (some 0))] [(0, (1, (.t 9))), (1, (1, (.t 10)))])⟩, ⟨none, none, (.store 2 (.t 4) (.t 11))⟩]
def c58 : CC := (.seq (.reg r58_0 none) (.seq (.seq (.reg r58_1 none) (.cond (.t 7) (.seq (.reg r58_2 none) .ret) .skip)) (.seq (.reg r58_3 none) .ret)))
theorem comp58 : Tryz.f58.body.bind (compC Tryz.prog G Tryz.f58.ntmps) = some c58 := by kernel_rfl
theorem res58 : Tryz.f58.results.toList = [(.cell 4 39)] := by kernel_rfl
-- integer.fromWord (function 59)
def r59_0 : List COp := [⟨(some 2), none, (.mov (.k (.vec [] 0 (some 0))))⟩]
def r59_1 : List COp := [⟨(some 3), none, (.mov (.t 0))⟩, ⟨(some 4), none, (.conv .u32 (.t 3))⟩, ⟨(some 5), none, (.mov (.t 0))⟩, ⟨(some 6), none, (.bin .shr (.t 5) (.k (.int .u64 32)))⟩, ⟨(some 7), none, (.conv .u32 (.t 6))⟩, ⟨(some 8), none, (.bsl 2 1 [(.int .u32 0), (.int .u32 0)] [(0, (1, (.t 4))), (1, (1, (.t 7)))])⟩, ⟨(some 9), none, (.call 61 [(.t 8)])⟩, ⟨(some 2), none, (.mov (.t 9))⟩]
def c59 : CC := (.seq (.reg r59_0 none) (.seq (.reg r59_1 none) .ret))
theorem comp59 : Tryz.f59.body.bind (compC Tryz.prog G Tryz.f59.ntmps) = some c59 := by kernel_rfl
theorem res59 : Tryz.f59.results.toList = [(.tmp 2)] := by kernel_rfl
-- integer.mulNat (function 60)
def r60_0 : List COp := [⟨(some 4), none, (.mov (.k (.vec [] 0 (some 0))))⟩]
def r60_1 : List COp := [⟨(some 12), none, (.mov (.t 0))⟩, ⟨(some 13), none, (.len false (.t 12))⟩, ⟨(some 14), none, (.bin .leq (.t 13) (.k (.int .i64 1)))⟩, ⟨(some 15), none, (.mov (.t 14))⟩, ⟨(some 16), (some (15, true)), (.mov (.t 1))⟩, ⟨(some 17), (some (15, true)), (.len false (.t 16))⟩, ⟨(some 18), (some (15, true)), (.bin .leq (.t 17) (.k (.int .i64 1)))⟩, ⟨(some 19), none, (.pick (.t 15) (.t 18) (.k (.bool false)))⟩]
def r60_2 : List COp := [⟨(some 20), none, (.mov (.t 0))⟩, ⟨(some 21), none, (.call 102 [(.t 20)])⟩, ⟨(some 22), none, (.mov (.t 1))⟩, ⟨(some 23), none, (.call 102 [(.t 22)])⟩, ⟨(some 24), none, (.bin .mul (.t 21) (.t 23))⟩, ⟨(some 25), none, (.call 59 [(.t 24)])⟩, ⟨(some 4), none, (.mov (.t 25))⟩]
def r60_3 : List COp := [⟨(some 26), none, (.mov (.t 0))⟩, ⟨(some 27), none, (.len false (.t 26))⟩, ⟨(some 28), none, (.mov (.t 1))⟩, ⟨(some 29), none, (.len false (.t 28))⟩, ⟨(some 30), none, (.bin .add (.t 27) (.t 29))⟩, ⟨(some 31), none, (.mksl 1 4 [(.int .u32 0)] (.t 30) (.t 30))⟩, ⟨(some 5), none, (.mov (.t 31))⟩]
def r60_4 : List COp := [⟨(some 32), none, (.mov (.t 0))⟩, ⟨(some 33), none, (.len false (.t 32))⟩, ⟨(some 34), none, (.mov (.k (.int .i64 0)))⟩]
def r60_5 : List COp := [⟨(some 35), none, (.bin .lss (.t 34) (.t 33))⟩]
def r60_6 : List COp := [⟨(some 36), none, (.mov (.t 34))⟩, ⟨(some 37), none, (.idx 1 (.t 32) (.t 34))⟩, ⟨(some 38), none, (.load false 1 (.t 37))⟩, ⟨(some 6), none, (.mov (.t 36))⟩, ⟨(some 7), none, (.mov (.t 38))⟩]
def r60_7 : List COp := [⟨(some 39), none, (.mov (.t 7))⟩, ⟨(some 40), none, (.bin .eql (.t 39) (.k (.int .u32 0)))⟩]
def r60_8 : List COp := [⟨(some 41), none, (.mov (.t 5))⟩, ⟨(some 42), none, (.mov (.t 6))⟩, ⟨(some 43), none, (.mov (.t 6))⟩, ⟨(some 44), none, (.mov (.t 1))⟩, ⟨(some 45), none, (.len false (.t 44))⟩, ⟨(some 46), none, (.bin .add (.t 43) (.t 45))⟩, ⟨(some 47), none, (.bin .add (.t 46) (.k (.int .i64 1)))⟩, ⟨(some 48), none, (.slice 1 (.t 41) (some (.t 42)) (some (.t 47)) none)⟩, ⟨(some 8), none, (.mov (.t 48))⟩]
def r60_9 : List COp := [⟨(some 9), none, (.mov (.k (.int .u64 0)))⟩]
def r60_10 : List COp := [⟨(some 49), none, (.mov (.t 1))⟩, ⟨(some 50), none, (.len false (.t 49))⟩, ⟨(some 51), none, (.mov (.k (.int .i64 0)))⟩]
def r60_11 : List COp := [⟨(some 52), none, (.bin .lss (.t 51) (.t 50))⟩]
def r60_12 : List COp := [⟨(some 53), none, (.mov (.t 51))⟩, ⟨(some 54), none, (.idx 1 (.t 49) (.t 51))⟩, ⟨(some 55), none, (.load false 1 (.t 54))⟩, ⟨(some 10), none, (.mov (.t 53))⟩, ⟨(some 11), none, (.mov (.t 55))⟩]
def r60_13 : List COp := [⟨(some 56), none, (.mov (.t 9))⟩, ⟨(some 57), none, (.mov (.t 7))⟩, ⟨(some 58), none, (.conv .u64 (.t 57))⟩, ⟨(some 59), none, (.mov (.t 11))⟩, ⟨(some 60), none, (.conv .u64 (.t 59))⟩, ⟨(some 61), none, (.bin .mul (.t 58) (.t 60))⟩, ⟨(some 62), none, (.mov (.t 8))⟩, ⟨(some 63), none, (.mov (.t 10))⟩, ⟨(some 64), none, (.idx 1 (.t 62) (.t 63))⟩, ⟨(some 65), none, (.load false 1 (.t 64))⟩, ⟨(some 66), none, (.conv .u64 (.t 65))⟩, ⟨(some 67), none, (.bin .add (.t 61) (.t 66))⟩, ⟨(some 68), none, (.bin .add (.t 56) (.t 67))⟩, ⟨(some 9), none, (.mov (.t 68))⟩]
def r60_14 : List COp := [⟨(some 69), none, (.mov (.t 8))⟩, ⟨(some 70), none, (.mov (.t 10))⟩, ⟨(some 71), none, (.mov (.t 9))⟩, ⟨(some 72), none, (.conv .u32 (.t 71))⟩, ⟨(some 73), none, (.idx 1 (.t 69) (.t 70))⟩, ⟨none, none, (.store 1 (.t 73) (.t 72))⟩]
def r60_15 : List COp := [⟨(some 74), none, (.mov (.t 9))⟩, ⟨(some 75), none, (.bin .shr (.t 74) (.k (.int .u64 32)))⟩, ⟨(some 9), none, (.mov (.t 75))⟩]
def r60_16 : List COp := [⟨(some 76), none, (.bin .add (.t 51) (.k (.int .i64 1)))⟩, ⟨(some 51), none, (.mov (.t 76))⟩]
def l60_1 : CC := (.seq (.reg r60_11 none) (.seq (.cond (.t 52) .skip (.exit 2)) (.seq (.block 3 (.seq (.reg r60_12 none) (.seq (.reg r60_13 none) (.seq (.reg r60_14 none) (.reg r60_15 none))))) (.reg r60_16 none))))
def r60_17 : List COp := [⟨(some 77), none, (.mov (.t 8))⟩, ⟨(some 78), none, (.mov (.t 1))⟩, ⟨(some 79), none, (.len false (.t 78))⟩, ⟨(some 80), none, (.mov (.t 9))⟩, ⟨(some 81), none, (.conv .u32 (.t 80))⟩, ⟨(some 82), none, (.idx 1 (.t 77) (.t 79))⟩, ⟨none, none, (.store 1 (.t 82) (.t 81))⟩]
def r60_18 : List COp := [⟨(some 83), none, (.bin .add (.t 34) (.k (.int .i64 1)))⟩, ⟨(some 34), none, (.mov (.t 83))⟩]
def l60_0 : CC := (.seq (.reg r60_5 none) (.seq (.cond (.t 35) .skip (.exit 0)) (.seq (.block 1 (.seq (.reg r60_6 none) (.seq (.seq (.reg r60_7 none) (.cond (.t 40) (.exit 1) .skip)) (.seq (.reg r60_8 none) (.seq (.reg r60_9 none) (.seq (.seq (.reg r60_10 none) (.block 2 (.loop l60_1))) (.reg r60_17 none))))))) (.reg r60_18 none))))
def r60_19 : List COp := [⟨(some 84), none, (.mov (.t 5))⟩, ⟨(some 85), none, (.call 61 [(.t 84)])⟩, ⟨(some 4), none, (.mov (.t 85))⟩]
def c60 : CC := (.seq (.reg r60_0 none) (.seq (.seq (.reg r60_1 none) (.cond (.t 19) (.seq (.reg r60_2 none) .ret) .skip)) (.seq (.reg r60_3 none) (.seq (.seq (.reg r60_4 none) (.block 0 (.loop l60_0))) (.seq (.reg r60_19 none) .ret)))))
theorem comp60 : Tryz.f60.body.bind (compC Tryz.prog G Tryz.f60.ntmps) = some c60 := by kernel_rfl
theorem res60 : Tryz.f60.results.toList = [(.tmp 4)] := by kernel_rfl
-- integer.Mul (function 28)
def r28_0 : List COp := [⟨(some 2), none, (.box (.t 0))⟩, ⟨(some 3), none, (.box (.t 1))⟩, ⟨(some 4), none, (.box (.k (.agg [(.bool false), (.vec [] 0 (some 0))])))⟩]
def r28_1 : List COp := [⟨(some 5), none, (.fld 0 (.t 2))⟩, ⟨(some 6), none, (.load false 1 (.t 5))⟩, ⟨(some 7), none, (.fld 0 (.t 3))⟩, ⟨(some 8), none, (.load false 1 (.t 7))⟩, ⟨(some 9), none, (.beq true (.t 6) (.t 8))⟩, ⟨(some 10), none, (.fld 1 (.t 2))⟩, ⟨(some 11), none, (.load false 1 (.t 10))⟩, ⟨(some 12), none, (.call 61 [(.t 11)])⟩, ⟨(some 13), none, (.fld 1 (.t 3))⟩, ⟨(some 14), none, (.load false 1 (.t 13))⟩, ⟨(some 15), none, (.call 61 [(.t 14)])⟩, ⟨(some 16), none, (.call 60 [(.t 12), (.t 15)])⟩, ⟨(some 17), none, (.call 58 [(.t 9), (.t 16)])⟩, ⟨none, none, (.store 2 (.t 4) (.t 17))⟩]
def c28 : CC := (.seq (.reg r28_0 none) (.seq (.reg r28_1 (some [(1, 3), (1, 6), (3, 6), (1, 7), (3, 7), (1, 9), (3, 9), (6, 9), (7, 9), (1, 10), (3, 10), (1, 11), (3, 11)])) .ret))
theorem comp28 : Tryz.f28.body.bind (compC Tryz.prog G Tryz.f28.ntmps) = some c28 := by kernel_rfl
theorem res28 : Tryz.f28.results.toList = [(.cell 4 39)] := by kernel_rfl
-- integer.Small (function 27)
def r27_0 : List COp := [⟨(some 2), none, (.box (.k (.agg [(.bool false), (.vec [] 0 (some 0))])))⟩]
def r27_1 : List COp := [⟨(some 3), none, (.mov (.t 0))⟩, ⟨(some 4), none, (.bin .lss (.t 3) (.k (.int .i64 0)))⟩]
def r27_2 : List COp := [⟨(some 5), none, (.mov (.t 0))⟩, ⟨(some 6), none, (.conv .u64 (.t 5))⟩, ⟨(some 7), none, (.un .neg (.t 6))⟩, ⟨(some 8), none, (.call 59 [(.t 7)])⟩, ⟨(some 9), none, (.call 58 [(.k (.bool true)), (.t 8)])⟩, ⟨none, none, (.store 2 (.t 2) (.t 9))⟩]
def r27_3 : List COp := [⟨(some 10), none, (.mov (.t 0))⟩, ⟨(some 11), none, (.conv .u64 (.t 10))⟩, ⟨(some 12), none, (.call 59 [(.t 11)])⟩, ⟨(some 13), none, (.call 58 [(.k (.bool false)), (.t 12)])⟩, ⟨none, none, (.store 2 (.t 2) (.t 13))⟩]
def c27 : CC := (.seq (.reg r27_0 none) (.seq (.seq (.reg r27_1 none) (.cond (.t 4) (.seq (.reg r27_2 none) .ret) .skip)) (.seq (.reg r27_3 none) .ret)))
theorem comp27 : Tryz.f27.body.bind (compC Tryz.prog G Tryz.f27.ntmps) = some c27 := by kernel_rfl
theorem res27 : Tryz.f27.results.toList = [(.cell 2 39)] := by kernel_rfl
-- integer.Sign (function 107)
def r107_0 : List COp := [⟨(some 1), none, (.box (.t 0))⟩, ⟨(some 2), none, (.mov (.k (.int .i64 0)))⟩]
def r107_1 : List COp := [⟨(some 4), none, (.fld 1 (.t 1))⟩, ⟨(some 5), none, (.load false 1 (.t 4))⟩, ⟨(some 6), none, (.call 61 [(.t 5)])⟩, ⟨(some 7), none, (.len false (.t 6))⟩, ⟨(some 8), none, (.bin .eql (.t 7) (.k (.int .i64 0)))⟩, ⟨(some 3), none, (.mov (.t 8))⟩]
def r107_2 : List COp := [⟨(some 2), none, (.mov (.k (.int .i64 0)))⟩]
def r107_3 : List COp := [⟨(some 10), none, (.fld 0 (.t 1))⟩, ⟨(some 11), none, (.load false 1 (.t 10))⟩, ⟨(some 9), none, (.mov (.t 11))⟩]
def r107_4 : List COp := [⟨(some 2), none, (.mov (.k (.int .i64 (-1))))⟩]
def r107_5 : List COp := [⟨(some 2), none, (.mov (.k (.int .i64 1)))⟩]
def c107 : CC := (.seq (.reg r107_0 none) (.seq (.block 0 (.seq (.reg r107_1 none) (.cond (.t 3) (.seq (.reg r107_2 none) .ret) (.seq (.reg r107_3 none) (.cond (.t 9) (.seq (.reg r107_4 none) .ret) .skip))))) (.seq (.reg r107_5 none) .ret)))
theorem comp107 : Tryz.f107.body.bind (compC Tryz.prog G Tryz.f107.ntmps) = some c107 := by kernel_rfl
theorem res107 : Tryz.f107.results.toList = [(.tmp 2)] := by kernel_rfl
-- integer.compareNat (function 108)
def r108_0 : List COp := [⟨(some 4), none, (.mov (.k (.int .i64 0)))⟩]
def r108_1 : List COp := [⟨(some 7), none, (.mov (.t 0))⟩, ⟨(some 8), none, (.len false (.t 7))⟩, ⟨(some 9), none, (.mov (.t 1))⟩, ⟨(some 10), none, (.len false (.t 9))⟩, ⟨(some 11), none, (.bin .lss (.t 8) (.t 10))⟩, ⟨(some 6), none, (.mov (.t 11))⟩]
def r108_2 : List COp := [⟨(some 4), none, (.mov (.k (.int .i64 (-1))))⟩]
def r108_3 : List COp := [⟨(some 13), none, (.mov (.t 0))⟩, ⟨(some 14), none, (.len false (.t 13))⟩, ⟨(some 15), none, (.mov (.t 1))⟩, ⟨(some 16), none, (.len false (.t 15))⟩, ⟨(some 17), none, (.bin .gtr (.t 14) (.t 16))⟩, ⟨(some 12), none, (.mov (.t 17))⟩]
def r108_4 : List COp := [⟨(some 4), none, (.mov (.k (.int .i64 1)))⟩]
def r108_5 : List COp := [⟨(some 18), none, (.mov (.t 0))⟩, ⟨(some 19), none, (.len false (.t 18))⟩, ⟨(some 20), none, (.bin .sub (.t 19) (.k (.int .i64 1)))⟩, ⟨(some 5), none, (.mov (.t 20))⟩]
def r108_6 : List COp := [⟨(some 21), none, (.mov (.t 5))⟩, ⟨(some 22), none, (.bin .geq (.t 21) (.k (.int .i64 0)))⟩]
def r108_7 : List COp := [⟨(some 26), none, (.mov (.t 0))⟩, ⟨(some 27), none, (.mov (.t 5))⟩, ⟨(some 28), none, (.idx 1 (.t 26) (.t 27))⟩, ⟨(some 29), none, (.load false 1 (.t 28))⟩, ⟨(some 30), none, (.mov (.t 1))⟩, ⟨(some 31), none, (.mov (.t 5))⟩, ⟨(some 32), none, (.idx 1 (.t 30) (.t 31))⟩, ⟨(some 33), none, (.load false 1 (.t 32))⟩, ⟨(some 34), none, (.bin .lss (.t 29) (.t 33))⟩, ⟨(some 25), none, (.mov (.t 34))⟩]
def r108_8 : List COp := [⟨(some 4), none, (.mov (.k (.int .i64 (-1))))⟩]
def r108_9 : List COp := [⟨(some 36), none, (.mov (.t 0))⟩, ⟨(some 37), none, (.mov (.t 5))⟩, ⟨(some 38), none, (.idx 1 (.t 36) (.t 37))⟩, ⟨(some 39), none, (.load false 1 (.t 38))⟩, ⟨(some 40), none, (.mov (.t 1))⟩, ⟨(some 41), none, (.mov (.t 5))⟩, ⟨(some 42), none, (.idx 1 (.t 40) (.t 41))⟩, ⟨(some 43), none, (.load false 1 (.t 42))⟩, ⟨(some 44), none, (.bin .gtr (.t 39) (.t 43))⟩, ⟨(some 35), none, (.mov (.t 44))⟩]
def r108_10 : List COp := [⟨(some 4), none, (.mov (.k (.int .i64 1)))⟩]
def r108_11 : List COp := [⟨(some 23), none, (.mov (.t 5))⟩, ⟨(some 24), none, (.bin .sub (.t 23) (.k (.int .i64 1)))⟩, ⟨(some 5), none, (.mov (.t 24))⟩]
def l108_0 : CC := (.seq (.seq (.reg r108_6 none) (.cond (.t 22) .skip (.exit 1))) (.seq (.block 2 (.block 3 (.seq (.reg r108_7 (some [(3, 7)])) (.cond (.t 25) (.seq (.reg r108_8 none) .ret) (.seq (.reg r108_9 (some [(3, 7)])) (.cond (.t 35) (.seq (.reg r108_10 none) .ret) .skip)))))) (.reg r108_11 none)))
def r108_12 : List COp := [⟨(some 4), none, (.mov (.k (.int .i64 0)))⟩]
def c108 : CC := (.seq (.reg r108_0 none) (.seq (.block 0 (.seq (.reg r108_1 none) (.cond (.t 6) (.seq (.reg r108_2 none) .ret) (.seq (.reg r108_3 none) (.cond (.t 12) (.seq (.reg r108_4 none) .ret) .skip))))) (.seq (.seq (.reg r108_5 none) (.block 1 (.loop l108_0))) (.seq (.reg r108_12 none) .ret))))
theorem comp108 : Tryz.f108.body.bind (compC Tryz.prog G Tryz.f108.ntmps) = some c108 := by kernel_rfl
theorem res108 : Tryz.f108.results.toList = [(.tmp 4)] := by kernel_rfl
-- integer.Cmp (function 69)
def r69_0 : List COp := [⟨(some 2), none, (.box (.t 0))⟩, ⟨(some 3), none, (.box (.t 1))⟩, ⟨(some 4), none, (.mov (.k (.int .i64 0)))⟩]
def r69_1 : List COp := [⟨(some 7), none, (.load true 2 (.t 2))⟩, ⟨(some 8), none, (.call 107 [(.t 7)])⟩, ⟨(some 9), none, (.load true 2 (.t 3))⟩, ⟨(some 10), none, (.call 107 [(.t 9)])⟩, ⟨(some 5), none, (.mov (.t 8))⟩, ⟨(some 6), none, (.mov (.t 10))⟩]
def r69_2 : List COp := [⟨(some 12), none, (.mov (.t 5))⟩, ⟨(some 13), none, (.mov (.t 6))⟩, ⟨(some 14), none, (.bin .lss (.t 12) (.t 13))⟩, ⟨(some 11), none, (.mov (.t 14))⟩]
def r69_3 : List COp := [⟨(some 4), none, (.mov (.k (.int .i64 (-1))))⟩]
def r69_4 : List COp := [⟨(some 16), none, (.mov (.t 5))⟩, ⟨(some 17), none, (.mov (.t 6))⟩, ⟨(some 18), none, (.bin .gtr (.t 16) (.t 17))⟩, ⟨(some 15), none, (.mov (.t 18))⟩]
def r69_5 : List COp := [⟨(some 4), none, (.mov (.k (.int .i64 1)))⟩]
def r69_6 : List COp := [⟨(some 19), none, (.mov (.t 5))⟩, ⟨(some 20), none, (.fld 1 (.t 2))⟩, ⟨(some 21), none, (.load false 1 (.t 20))⟩, ⟨(some 22), none, (.call 61 [(.t 21)])⟩, ⟨(some 23), none, (.fld 1 (.t 3))⟩, ⟨(some 24), none, (.load false 1 (.t 23))⟩, ⟨(some 25), none, (.call 61 [(.t 24)])⟩, ⟨(some 26), none, (.call 108 [(.t 22), (.t 25)])⟩, ⟨(some 27), none, (.bin .mul (.t 19) (.t 26))⟩, ⟨(some 4), none, (.mov (.t 27))⟩]
def c69 : CC := (.seq (.reg r69_0 none) (.seq (.reg r69_1 (some [(0, 2), (1, 2)])) (.seq (.block 0 (.seq (.reg r69_2 none) (.cond (.t 11) (.seq (.reg r69_3 none) .ret) (.seq (.reg r69_4 none) (.cond (.t 15) (.seq (.reg r69_5 none) .ret) .skip))))) (.seq (.reg r69_6 (some [(2, 5), (3, 5)])) .ret))))
theorem comp69 : Tryz.f69.body.bind (compC Tryz.prog G Tryz.f69.ntmps) = some c69 := by kernel_rfl
theorem res69 : Tryz.f69.results.toList = [(.tmp 4)] := by kernel_rfl
-- integer.addNat (function 200)
def r200_0 : List COp := [⟨(some 4), none, (.mov (.k (.vec [] 0 (some 0))))⟩]
def r200_1 : List COp := [⟨(some 9), none, (.mov (.t 0))⟩, ⟨(some 10), none, (.len false (.t 9))⟩, ⟨(some 11), none, (.mov (.t 1))⟩, ⟨(some 12), none, (.len false (.t 11))⟩, ⟨(some 13), none, (.bin .lss (.t 10) (.t 12))⟩]
def r200_2 : List COp := [⟨(some 14), none, (.mov (.t 1))⟩, ⟨(some 15), none, (.mov (.t 0))⟩, ⟨(some 0), none, (.mov (.t 14))⟩, ⟨(some 1), none, (.mov (.t 15))⟩]
def r200_3 : List COp := [⟨(some 16), none, (.mov (.t 0))⟩, ⟨(some 17), none, (.len false (.t 16))⟩, ⟨(some 18), none, (.bin .add (.t 17) (.k (.int .i64 1)))⟩, ⟨(some 19), none, (.mksl 1 4 [(.int .u32 0)] (.t 18) (.t 18))⟩, ⟨(some 5), none, (.mov (.t 19))⟩]
def r200_4 : List COp := [⟨(some 6), none, (.mov (.k (.int .u64 0)))⟩]
def r200_5 : List COp := [⟨(some 20), none, (.mov (.t 1))⟩, ⟨(some 21), none, (.len false (.t 20))⟩, ⟨(some 22), none, (.mov (.k (.int .i64 0)))⟩]
def r200_6 : List COp := [⟨(some 23), none, (.bin .lss (.t 22) (.t 21))⟩]
def r200_7 : List COp := [⟨(some 24), none, (.mov (.t 22))⟩, ⟨(some 7), none, (.mov (.t 24))⟩]
def r200_8 : List COp := [⟨(some 25), none, (.mov (.t 6))⟩, ⟨(some 26), none, (.mov (.t 0))⟩, ⟨(some 27), none, (.mov (.t 7))⟩, ⟨(some 28), none, (.idx 1 (.t 26) (.t 27))⟩, ⟨(some 29), none, (.load false 1 (.t 28))⟩, ⟨(some 30), none, (.conv .u64 (.t 29))⟩, ⟨(some 31), none, (.mov (.t 1))⟩, ⟨(some 32), none, (.mov (.t 7))⟩, ⟨(some 33), none, (.idx 1 (.t 31) (.t 32))⟩, ⟨(some 34), none, (.load false 1 (.t 33))⟩, ⟨(some 35), none, (.conv .u64 (.t 34))⟩, ⟨(some 36), none, (.bin .add (.t 30) (.t 35))⟩, ⟨(some 37), none, (.bin .add (.t 25) (.t 36))⟩, ⟨(some 6), none, (.mov (.t 37))⟩]
def r200_9 : List COp := [⟨(some 38), none, (.mov (.t 5))⟩, ⟨(some 39), none, (.mov (.t 7))⟩, ⟨(some 40), none, (.mov (.t 6))⟩, ⟨(some 41), none, (.conv .u32 (.t 40))⟩, ⟨(some 42), none, (.idx 1 (.t 38) (.t 39))⟩, ⟨none, none, (.store 1 (.t 42) (.t 41))⟩]
def r200_10 : List COp := [⟨(some 43), none, (.mov (.t 6))⟩, ⟨(some 44), none, (.bin .shr (.t 43) (.k (.int .u64 32)))⟩, ⟨(some 6), none, (.mov (.t 44))⟩]
def r200_11 : List COp := [⟨(some 45), none, (.bin .add (.t 22) (.k (.int .i64 1)))⟩, ⟨(some 22), none, (.mov (.t 45))⟩]
def l200_0 : CC := (.seq (.reg r200_6 none) (.seq (.cond (.t 23) .skip (.exit 0)) (.seq (.block 1 (.seq (.reg r200_7 none) (.seq (.reg r200_8 (some [(4, 9)])) (.seq (.reg r200_9 none) (.reg r200_10 none))))) (.reg r200_11 none))))
def r200_12 : List COp := [⟨(some 46), none, (.mov (.t 0))⟩, ⟨(some 47), none, (.len false (.t 46))⟩, ⟨(some 48), none, (.mov (.t 1))⟩, ⟨(some 49), none, (.len false (.t 48))⟩, ⟨(some 50), none, (.bin .sub (.t 47) (.t 49))⟩, ⟨(some 51), none, (.mov (.k (.int .i64 0)))⟩]
def r200_13 : List COp := [⟨(some 52), none, (.bin .lss (.t 51) (.t 50))⟩]
def r200_14 : List COp := [⟨(some 53), none, (.mov (.t 51))⟩, ⟨(some 8), none, (.mov (.t 53))⟩]
def r200_15 : List COp := [⟨(some 54), none, (.mov (.t 6))⟩, ⟨(some 55), none, (.mov (.t 0))⟩, ⟨(some 56), none, (.mov (.t 1))⟩, ⟨(some 57), none, (.len false (.t 56))⟩, ⟨(some 58), none, (.mov (.t 8))⟩, ⟨(some 59), none, (.bin .add (.t 57) (.t 58))⟩, ⟨(some 60), none, (.idx 1 (.t 55) (.t 59))⟩, ⟨(some 61), none, (.load false 1 (.t 60))⟩, ⟨(some 62), none, (.conv .u64 (.t 61))⟩, ⟨(some 63), none, (.bin .add (.t 54) (.t 62))⟩, ⟨(some 6), none, (.mov (.t 63))⟩]
def r200_16 : List COp := [⟨(some 64), none, (.mov (.t 5))⟩, ⟨(some 65), none, (.mov (.t 1))⟩, ⟨(some 66), none, (.len false (.t 65))⟩, ⟨(some 67), none, (.mov (.t 8))⟩, ⟨(some 68), none, (.bin .add (.t 66) (.t 67))⟩, ⟨(some 69), none, (.mov (.t 6))⟩, ⟨(some 70), none, (.conv .u32 (.t 69))⟩, ⟨(some 71), none, (.idx 1 (.t 64) (.t 68))⟩, ⟨none, none, (.store 1 (.t 71) (.t 70))⟩]
def r200_17 : List COp := [⟨(some 72), none, (.mov (.t 6))⟩, ⟨(some 73), none, (.bin .shr (.t 72) (.k (.int .u64 32)))⟩, ⟨(some 6), none, (.mov (.t 73))⟩]
def r200_18 : List COp := [⟨(some 74), none, (.bin .add (.t 51) (.k (.int .i64 1)))⟩, ⟨(some 51), none, (.mov (.t 74))⟩]
def l200_1 : CC := (.seq (.reg r200_13 none) (.seq (.cond (.t 52) .skip (.exit 2)) (.seq (.block 3 (.seq (.reg r200_14 none) (.seq (.reg r200_15 none) (.seq (.reg r200_16 none) (.reg r200_17 none))))) (.reg r200_18 none))))
def r200_19 : List COp := [⟨(some 75), none, (.mov (.t 5))⟩, ⟨(some 76), none, (.mov (.t 0))⟩, ⟨(some 77), none, (.len false (.t 76))⟩, ⟨(some 78), none, (.mov (.t 6))⟩, ⟨(some 79), none, (.conv .u32 (.t 78))⟩, ⟨(some 80), none, (.idx 1 (.t 75) (.t 77))⟩, ⟨none, none, (.store 1 (.t 80) (.t 79))⟩]
def r200_20 : List COp := [⟨(some 81), none, (.mov (.t 5))⟩, ⟨(some 82), none, (.call 61 [(.t 81)])⟩, ⟨(some 4), none, (.mov (.t 82))⟩]
def c200 : CC := (.seq (.reg r200_0 none) (.seq (.seq (.reg r200_1 none) (.cond (.t 13) (.reg r200_2 none) .skip)) (.seq (.reg r200_3 none) (.seq (.reg r200_4 none) (.seq (.seq (.reg r200_5 none) (.block 0 (.loop l200_0))) (.seq (.seq (.reg r200_12 none) (.block 2 (.loop l200_1))) (.seq (.reg r200_19 none) (.seq (.reg r200_20 none) .ret))))))))
theorem comp200 : Tryz.f200.body.bind (compC Tryz.prog G Tryz.f200.ntmps) = some c200 := by kernel_rfl
theorem res200 : Tryz.f200.results.toList = [(.tmp 4)] := by kernel_rfl
-- integer.subNat (function 201)
def r201_0 : List COp := [⟨(some 4), none, (.mov (.k (.vec [] 0 (some 0))))⟩]
def r201_1 : List COp := [⟨(some 9), none, (.mov (.t 0))⟩, ⟨(some 10), none, (.len false (.t 9))⟩, ⟨(some 11), none, (.mksl 1 4 [(.int .u32 0)] (.t 10) (.t 10))⟩, ⟨(some 5), none, (.mov (.t 11))⟩]
def r201_2 : List COp := [⟨(some 6), none, (.mov (.k (.int .u64 0)))⟩]
def r201_3 : List COp := [⟨(some 12), none, (.mov (.t 0))⟩, ⟨(some 13), none, (.len false (.t 12))⟩, ⟨(some 14), none, (.mov (.k (.int .i64 0)))⟩]
def r201_4 : List COp := [⟨(some 15), none, (.bin .lss (.t 14) (.t 13))⟩]
def r201_5 : List COp := [⟨(some 16), none, (.mov (.t 14))⟩, ⟨(some 7), none, (.mov (.t 16))⟩]
def r201_6 : List COp := [⟨(some 17), none, (.mov (.t 0))⟩, ⟨(some 18), none, (.mov (.t 7))⟩, ⟨(some 19), none, (.idx 1 (.t 17) (.t 18))⟩, ⟨(some 20), none, (.load false 1 (.t 19))⟩, ⟨(some 21), none, (.conv .u64 (.t 20))⟩, ⟨(some 22), none, (.mov (.t 6))⟩, ⟨(some 23), none, (.bin .sub (.t 21) (.t 22))⟩, ⟨(some 8), none, (.mov (.t 23))⟩]
def r201_7 : List COp := [⟨(some 24), none, (.mov (.t 7))⟩, ⟨(some 25), none, (.mov (.t 1))⟩, ⟨(some 26), none, (.len false (.t 25))⟩, ⟨(some 27), none, (.bin .lss (.t 24) (.t 26))⟩]
def r201_8 : List COp := [⟨(some 28), none, (.mov (.t 8))⟩, ⟨(some 29), none, (.mov (.t 1))⟩, ⟨(some 30), none, (.mov (.t 7))⟩, ⟨(some 31), none, (.idx 1 (.t 29) (.t 30))⟩, ⟨(some 32), none, (.load false 1 (.t 31))⟩, ⟨(some 33), none, (.conv .u64 (.t 32))⟩, ⟨(some 34), none, (.bin .sub (.t 28) (.t 33))⟩, ⟨(some 8), none, (.mov (.t 34))⟩]
def r201_9 : List COp := [⟨(some 35), none, (.mov (.t 5))⟩, ⟨(some 36), none, (.mov (.t 7))⟩, ⟨(some 37), none, (.mov (.t 8))⟩, ⟨(some 38), none, (.conv .u32 (.t 37))⟩, ⟨(some 39), none, (.idx 1 (.t 35) (.t 36))⟩, ⟨none, none, (.store 1 (.t 39) (.t 38))⟩]
def r201_10 : List COp := [⟨(some 40), none, (.mov (.t 8))⟩, ⟨(some 41), none, (.bin .shr (.t 40) (.k (.int .u64 63)))⟩, ⟨(some 6), none, (.mov (.t 41))⟩]
def r201_11 : List COp := [⟨(some 42), none, (.bin .add (.t 14) (.k (.int .i64 1)))⟩, ⟨(some 14), none, (.mov (.t 42))⟩]
def l201_0 : CC := (.seq (.reg r201_4 none) (.seq (.cond (.t 15) .skip (.exit 0)) (.seq (.block 1 (.seq (.reg r201_5 none) (.seq (.reg r201_6 none) (.seq (.seq (.reg r201_7 none) (.cond (.t 27) (.reg r201_8 none) .skip)) (.seq (.reg r201_9 none) (.reg r201_10 none)))))) (.reg r201_11 none))))
def r201_12 : List COp := [⟨(some 43), none, (.mov (.t 5))⟩, ⟨(some 44), none, (.call 61 [(.t 43)])⟩, ⟨(some 4), none, (.mov (.t 44))⟩]
def c201 : CC := (.seq (.reg r201_0 none) (.seq (.reg r201_1 none) (.seq (.reg r201_2 none) (.seq (.seq (.reg r201_3 none) (.block 0 (.loop l201_0))) (.seq (.reg r201_12 none) .ret)))))
theorem comp201 : Tryz.f201.body.bind (compC Tryz.prog G Tryz.f201.ntmps) = some c201 := by kernel_rfl
theorem res201 : Tryz.f201.results.toList = [(.tmp 4)] := by kernel_rfl
-- integer.addSigned (function 198)
def r198_0 : List COp := [⟨(some 8), none, (.box (.k (.agg [(.bool false), (.vec [] 0 (some 0))])))⟩]
def r198_1 : List COp := [⟨(some 10), none, (.mov (.t 0))⟩, ⟨(some 11), none, (.mov (.t 2))⟩, ⟨(some 12), none, (.beq false (.t 10) (.t 11))⟩, ⟨(some 9), none, (.mov (.t 12))⟩]
def r198_2 : List COp := [⟨(some 13), none, (.mov (.t 0))⟩, ⟨(some 14), none, (.mov (.t 1))⟩, ⟨(some 15), none, (.mov (.t 3))⟩, ⟨(some 16), none, (.call 200 [(.t 14), (.t 15)])⟩, ⟨(some 17), none, (.call 58 [(.t 13), (.t 16)])⟩, ⟨none, none, (.store 2 (.t 8) (.t 17))⟩]
def r198_3 : List COp := [⟨(some 19), none, (.mov (.t 1))⟩, ⟨(some 20), none, (.mov (.t 3))⟩, ⟨(some 21), none, (.call 108 [(.t 19), (.t 20)])⟩, ⟨(some 22), none, (.bin .geq (.t 21) (.k (.int .i64 0)))⟩, ⟨(some 18), none, (.mov (.t 22))⟩]
def r198_4 : List COp := [⟨(some 23), none, (.mov (.t 0))⟩, ⟨(some 24), none, (.mov (.t 1))⟩, ⟨(some 25), none, (.mov (.t 3))⟩, ⟨(some 26), none, (.call 201 [(.t 24), (.t 25)])⟩, ⟨(some 27), none, (.call 58 [(.t 23), (.t 26)])⟩, ⟨none, none, (.store 2 (.t 8) (.t 27))⟩]
def r198_5 : List COp := [⟨(some 28), none, (.mov (.t 2))⟩, ⟨(some 29), none, (.mov (.t 3))⟩, ⟨(some 30), none, (.mov (.t 1))⟩, ⟨(some 31), none, (.call 201 [(.t 29), (.t 30)])⟩, ⟨(some 32), none, (.call 58 [(.t 28), (.t 31)])⟩, ⟨none, none, (.store 2 (.t 8) (.t 32))⟩]
def c198 : CC := (.seq (.reg r198_0 none) (.seq (.block 0 (.seq (.reg r198_1 none) (.cond (.t 9) (.seq (.reg r198_2 none) .ret) (.seq (.reg r198_3 none) (.cond (.t 18) (.seq (.reg r198_4 none) .ret) .skip))))) (.seq (.reg r198_5 none) .ret)))
theorem comp198 : Tryz.f198.body.bind (compC Tryz.prog G Tryz.f198.ntmps) = some c198 := by kernel_rfl
theorem res198 : Tryz.f198.results.toList = [(.cell 8 39)] := by kernel_rfl
-- integer.Add (function 164)
def r164_0 : List COp := [⟨(some 2), none, (.box (.t 0))⟩, ⟨(some 3), none, (.box (.t 1))⟩, ⟨(some 4), none, (.box (.k (.agg [(.bool false), (.vec [] 0 (some 0))])))⟩]
def r164_1 : List COp := [⟨(some 5), none, (.fld 0 (.t 2))⟩, ⟨(some 6), none, (.load false 1 (.t 5))⟩, ⟨(some 7), none, (.fld 1 (.t 2))⟩, ⟨(some 8), none, (.load false 1 (.t 7))⟩, ⟨(some 9), none, (.call 61 [(.t 8)])⟩, ⟨(some 10), none, (.fld 0 (.t 3))⟩, ⟨(some 11), none, (.load false 1 (.t 10))⟩, ⟨(some 12), none, (.fld 1 (.t 3))⟩, ⟨(some 13), none, (.load false 1 (.t 12))⟩, ⟨(some 14), none, (.call 61 [(.t 13)])⟩, ⟨(some 15), none, (.call 198 [(.t 6), (.t 9), (.t 11), (.t 14)])⟩, ⟨none, none, (.store 2 (.t 4) (.t 15))⟩]
def c164 : CC := (.seq (.reg r164_0 none) (.seq (.reg r164_1 (some [(1, 3), (1, 4), (1, 6), (3, 6), (4, 6), (1, 8), (3, 8), (4, 8), (6, 8), (1, 9), (6, 9)])) .ret))
theorem comp164 : Tryz.f164.body.bind (compC Tryz.prog G Tryz.f164.ntmps) = some c164 := by kernel_rfl
theorem res164 : Tryz.f164.results.toList = [(.cell 4 39)] := by kernel_rfl
-- integer.Sub (function 167)
def r167_0 : List COp := [⟨(some 2), none, (.box (.t 0))⟩, ⟨(some 3), none, (.box (.t 1))⟩, ⟨(some 4), none, (.box (.k (.agg [(.bool false), (.vec [] 0 (some 0))])))⟩]
def r167_1 : List COp := [⟨(some 5), none, (.fld 0 (.t 2))⟩, ⟨(some 6), none, (.load false 1 (.t 5))⟩, ⟨(some 7), none, (.fld 1 (.t 2))⟩, ⟨(some 8), none, (.load false 1 (.t 7))⟩, ⟨(some 9), none, (.call 61 [(.t 8)])⟩, ⟨(some 10), none, (.fld 0 (.t 3))⟩, ⟨(some 11), none, (.load false 1 (.t 10))⟩, ⟨(some 12), none, (.un .not (.t 11))⟩, ⟨(some 13), none, (.fld 1 (.t 3))⟩, ⟨(some 14), none, (.load false 1 (.t 13))⟩, ⟨(some 15), none, (.call 61 [(.t 14)])⟩, ⟨(some 16), none, (.call 198 [(.t 6), (.t 9), (.t 12), (.t 15)])⟩, ⟨none, none, (.store 2 (.t 4) (.t 16))⟩]
def c167 : CC := (.seq (.reg r167_0 none) (.seq (.reg r167_1 (some [(1, 3), (1, 4), (1, 6), (3, 6), (4, 6), (1, 9), (3, 9), (4, 9), (6, 9), (1, 10), (6, 10)])) .ret))
theorem comp167 : Tryz.f167.body.bind (compC Tryz.prog G Tryz.f167.ntmps) = some c167 := by kernel_rfl
theorem res167 : Tryz.f167.results.toList = [(.cell 4 39)] := by kernel_rfl
-- integer.Neg (function 165)
def r165_0 : List COp := [⟨(some 1), none, (.box (.t 0))⟩, ⟨(some 2), none, (.box (.k (.agg [(.bool false), (.vec [] 0 (some 0))])))⟩]
def r165_1 : List COp := [⟨(some 3), none, (.fld 0 (.t 1))⟩, ⟨(some 4), none, (.load false 1 (.t 3))⟩, ⟨(some 5), none, (.un .not (.t 4))⟩, ⟨(some 6), none, (.fld 1 (.t 1))⟩, ⟨(some 7), none, (.load false 1 (.t 6))⟩, ⟨(some 8), none, (.call 61 [(.t 7)])⟩, ⟨(some 9), none, (.call 171 [(.t 8)])⟩, ⟨(some 10), none, (.call 58 [(.t 5), (.t 9)])⟩, ⟨none, none, (.store 2 (.t 2) (.t 10))⟩]
def c165 : CC := (.seq (.reg r165_0 none) (.seq (.reg r165_1 (some [(1, 4), (1, 5), (1, 6)])) .ret))
theorem comp165 : Tryz.f165.body.bind (compC Tryz.prog G Tryz.f165.ntmps) = some c165 := by kernel_rfl
theorem res165 : Tryz.f165.results.toList = [(.cell 2 39)] := by kernel_rfl
-- integer.Normalize (function 117)
def r117_0 : List COp := [⟨(some 1), none, (.box (.t 0))⟩, ⟨(some 2), none, (.box (.k (.agg [(.bool false), (.vec [] 0 (some 0))])))⟩]
def r117_1 : List COp := [⟨(some 3), none, (.fld 0 (.t 1))⟩, ⟨(some 4), none, (.load false 1 (.t 3))⟩, ⟨(some 5), none, (.fld 1 (.t 1))⟩, ⟨(some 6), none, (.load false 1 (.t 5))⟩, ⟨(some 7), none, (.call 61 [(.t 6)])⟩, ⟨(some 8), none, (.call 171 [(.t 7)])⟩, ⟨(some 9), none, (.call 58 [(.t 4), (.t 8)])⟩, ⟨none, none, (.store 2 (.t 2) (.t 9))⟩]
def c117 : CC := (.seq (.reg r117_0 none) (.seq (.reg r117_1 (some [(1, 3), (1, 4), (1, 5)])) .ret))
theorem comp117 : Tryz.f117.body.bind (compC Tryz.prog G Tryz.f117.ntmps) = some c117 := by kernel_rfl
theorem res117 : Tryz.f117.results.toList = [(.cell 2 39)] := by kernel_rfl
-- integer.divNat (function 199)
def r199_0 : List COp := [⟨(some 4), none, (.mov (.k (.vec [] 0 (some 0))))⟩, ⟨(some 5), none, (.mov (.k (.vec [] 0 (some 0))))⟩]
def r199_1 : List COp := [⟨(some 14), none, (.mov (.t 0))⟩, ⟨(some 15), none, (.mov (.t 1))⟩, ⟨(some 16), none, (.call 108 [(.t 14), (.t 15)])⟩, ⟨(some 17), none, (.bin .lss (.t 16) (.k (.int .i64 0)))⟩, ⟨(some 13), none, (.mov (.t 17))⟩]
def r199_2 : List COp := [⟨(some 18), none, (.mov (.t 0))⟩, ⟨(some 19), none, (.call 171 [(.t 18)])⟩, ⟨(some 4), none, (.mov (.k (.vec [] 0 (some 0))))⟩, ⟨(some 5), none, (.mov (.t 19))⟩]
def r199_3 : List COp := [⟨(some 21), none, (.mov (.t 0))⟩, ⟨(some 22), none, (.len false (.t 21))⟩, ⟨(some 23), none, (.bin .leq (.t 22) (.k (.int .i64 2)))⟩, ⟨(some 20), none, (.mov (.t 23))⟩]
def r199_4 : List COp := [⟨(some 24), none, (.mov (.t 0))⟩, ⟨(some 25), none, (.call 102 [(.t 24)])⟩, ⟨(some 26), none, (.mov (.t 1))⟩, ⟨(some 27), none, (.call 102 [(.t 26)])⟩, ⟨(some 6), none, (.mov (.t 25))⟩, ⟨(some 7), none, (.mov (.t 27))⟩]
def r199_5 : List COp := [⟨(some 28), none, (.mov (.t 6))⟩, ⟨(some 29), none, (.mov (.t 7))⟩, ⟨(some 30), none, (.bin .quo (.t 28) (.t 29))⟩, ⟨(some 31), none, (.call 59 [(.t 30)])⟩, ⟨(some 32), none, (.mov (.t 6))⟩, ⟨(some 33), none, (.mov (.t 7))⟩, ⟨(some 34), none, (.bin .rem (.t 32) (.t 33))⟩, ⟨(some 35), none, (.call 59 [(.t 34)])⟩, ⟨(some 4), none, (.mov (.t 31))⟩, ⟨(some 5), none, (.mov (.t 35))⟩]
def r199_6 : List COp := [⟨(some 37), none, (.mov (.t 1))⟩, ⟨(some 38), none, (.len false (.t 37))⟩, ⟨(some 39), none, (.bin .eql (.t 38) (.k (.int .i64 1)))⟩, ⟨(some 36), none, (.mov (.t 39))⟩]
def r199_7 : List COp := [⟨(some 40), none, (.mov (.t 0))⟩, ⟨(some 41), none, (.call 171 [(.t 40)])⟩, ⟨(some 4), none, (.mov (.t 41))⟩]
def r199_8 : List COp := [⟨(some 42), none, (.mov (.t 4))⟩, ⟨(some 43), none, (.mov (.t 1))⟩, ⟨(some 44), none, (.idx 1 (.t 43) (.k (.int .i64 0)))⟩, ⟨(some 45), none, (.load false 1 (.t 44))⟩, ⟨(some 46), none, (.call 225 [(.t 42), (.t 45)])⟩, ⟨(some 8), none, (.mov (.t 46))⟩]
def r199_9 : List COp := [⟨(some 47), none, (.mov (.t 4))⟩, ⟨(some 48), none, (.call 61 [(.t 47)])⟩, ⟨(some 49), none, (.mov (.t 8))⟩, ⟨(some 50), none, (.conv .u64 (.t 49))⟩, ⟨(some 51), none, (.call 59 [(.t 50)])⟩, ⟨(some 4), none, (.mov (.t 48))⟩, ⟨(some 5), none, (.mov (.t 51))⟩]
def r199_10 : List COp := [⟨(some 52), none, (.mov (.t 1))⟩, ⟨(some 53), none, (.mov (.t 1))⟩, ⟨(some 54), none, (.len false (.t 53))⟩, ⟨(some 55), none, (.bin .sub (.t 54) (.k (.int .i64 1)))⟩, ⟨(some 56), none, (.idx 1 (.t 52) (.t 55))⟩, ⟨(some 57), none, (.load false 1 (.t 56))⟩, ⟨(some 58), none, (.call 226 [(.t 57)])⟩, ⟨(some 9), none, (.mov (.t 58))⟩]
def r199_11 : List COp := [⟨(some 59), none, (.mov (.t 1))⟩, ⟨(some 60), none, (.mov (.t 9))⟩, ⟨(some 61), none, (.call 227 [(.t 59), (.t 60)])⟩, ⟨(some 62), none, (.mov (.t 1))⟩, ⟨(some 63), none, (.len false (.t 62))⟩, ⟨(some 64), none, (.slice 1 (.t 61) none (some (.t 63)) none)⟩, ⟨(some 10), none, (.mov (.t 64))⟩]
def r199_12 : List COp := [⟨(some 65), none, (.mov (.t 0))⟩, ⟨(some 66), none, (.mov (.t 9))⟩, ⟨(some 67), none, (.call 227 [(.t 65), (.t 66)])⟩, ⟨(some 11), none, (.mov (.t 67))⟩]
def r199_13 : List COp := [⟨(some 68), none, (.mov (.t 0))⟩, ⟨(some 69), none, (.len false (.t 68))⟩, ⟨(some 70), none, (.mov (.t 1))⟩, ⟨(some 71), none, (.len false (.t 70))⟩, ⟨(some 72), none, (.bin .sub (.t 69) (.t 71))⟩, ⟨(some 73), none, (.bin .add (.t 72) (.k (.int .i64 1)))⟩, ⟨(some 74), none, (.mksl 1 4 [(.int .u32 0)] (.t 73) (.t 73))⟩, ⟨(some 4), none, (.mov (.t 74))⟩]
def r199_14 : List COp := [⟨(some 75), none, (.mov (.t 0))⟩, ⟨(some 76), none, (.len false (.t 75))⟩, ⟨(some 77), none, (.mov (.t 1))⟩, ⟨(some 78), none, (.len false (.t 77))⟩, ⟨(some 79), none, (.bin .sub (.t 76) (.t 78))⟩, ⟨(some 12), none, (.mov (.t 79))⟩]
def r199_15 : List COp := [⟨(some 80), none, (.mov (.t 12))⟩, ⟨(some 81), none, (.bin .geq (.t 80) (.k (.int .i64 0)))⟩]
def r199_16 : List COp := [⟨(some 84), none, (.mov (.t 4))⟩, ⟨(some 85), none, (.mov (.t 12))⟩, ⟨(some 86), none, (.mov (.t 11))⟩, ⟨(some 87), none, (.mov (.t 12))⟩, ⟨(some 88), none, (.mov (.t 12))⟩, ⟨(some 89), none, (.mov (.t 1))⟩, ⟨(some 90), none, (.len false (.t 89))⟩, ⟨(some 91), none, (.bin .add (.t 88) (.t 90))⟩, ⟨(some 92), none, (.bin .add (.t 91) (.k (.int .i64 1)))⟩, ⟨(some 93), none, (.slice 1 (.t 86) (some (.t 87)) (some (.t 92)) none)⟩, ⟨(some 94), none, (.mov (.t 10))⟩, ⟨(some 95), none, (.call 228 [(.t 93), (.t 94)])⟩, ⟨(some 96), none, (.idx 1 (.t 84) (.t 85))⟩, ⟨none, none, (.store 1 (.t 96) (.t 95))⟩]
def r199_17 : List COp := [⟨(some 82), none, (.mov (.t 12))⟩, ⟨(some 83), none, (.bin .sub (.t 82) (.k (.int .i64 1)))⟩, ⟨(some 12), none, (.mov (.t 83))⟩]
def l199_0 : CC := (.seq (.seq (.reg r199_15 none) (.cond (.t 81) .skip (.exit 1))) (.seq (.block 2 (.reg r199_16 none)) (.reg r199_17 none)))
def r199_18 : List COp := [⟨(some 97), none, (.mov (.t 11))⟩, ⟨(some 98), none, (.mov (.t 9))⟩, ⟨(some 99), none, (.call 229 [(.t 97), (.t 98)])⟩]
def r199_19 : List COp := [⟨(some 100), none, (.mov (.t 4))⟩, ⟨(some 101), none, (.call 61 [(.t 100)])⟩, ⟨(some 102), none, (.mov (.t 11))⟩, ⟨(some 103), none, (.call 61 [(.t 102)])⟩, ⟨(some 4), none, (.mov (.t 101))⟩, ⟨(some 5), none, (.mov (.t 103))⟩]
def c199 : CC := (.seq (.reg r199_0 none) (.seq (.block 0 (.seq (.reg r199_1 none) (.cond (.t 13) (.seq (.reg r199_2 none) .ret) (.seq (.reg r199_3 none) (.cond (.t 20) (.seq (.reg r199_4 none) (.seq (.reg r199_5 (some [])) .ret)) (.seq (.reg r199_6 none) (.cond (.t 36) (.seq (.reg r199_7 none) (.seq (.reg r199_8 none) (.seq (.reg r199_9 none) .ret))) .skip))))))) (.seq (.reg r199_10 none) (.seq (.reg r199_11 none) (.seq (.reg r199_12 none) (.seq (.reg r199_13 none) (.seq (.seq (.reg r199_14 none) (.block 1 (.loop l199_0))) (.seq (.reg r199_18 none) (.seq (.reg r199_19 none) .ret)))))))))
theorem comp199 : Tryz.f199.body.bind (compC Tryz.prog G Tryz.f199.ntmps) = some c199 := by kernel_rfl
theorem res199 : Tryz.f199.results.toList = [(.tmp 4), (.tmp 5)] := by kernel_rfl
-- integer.DivMod (function 168)
def r168_0 : List COp := [⟨(some 2), none, (.box (.t 0))⟩, ⟨(some 3), none, (.box (.t 1))⟩, ⟨(some 4), none, (.box (.k (.agg [(.bool false), (.vec [] 0 (some 0))])))⟩, ⟨(some 5), none, (.box (.k (.agg [(.bool false), (.vec [] 0 (some 0))])))⟩, ⟨(some 6), none, (.mov (.k (.bool false)))⟩]
def r168_1 : List COp := [⟨(some 11), none, (.fld 1 (.t 3))⟩, ⟨(some 12), none, (.load false 1 (.t 11))⟩, ⟨(some 13), none, (.call 61 [(.t 12)])⟩, ⟨(some 7), none, (.mov (.t 13))⟩]
def r168_2 : List COp := [⟨(some 14), none, (.mov (.t 7))⟩, ⟨(some 15), none, (.len false (.t 14))⟩, ⟨(some 16), none, (.bin .eql (.t 15) (.k (.int .i64 0)))⟩]
def r168_3 : List COp := [⟨(some 17), none, (.build [(.bool false), (.vec [] 0 (some 0))] [])⟩, ⟨(some 18), none, (.build [(.bool false), (.vec [] 0 (some 0))] [])⟩, ⟨none, none, (.store 2 (.t 4) (.t 17))⟩, ⟨none, none, (.store 2 (.t 5) (.t 18))⟩, ⟨(some 6), none, (.mov (.k (.bool false)))⟩]
def r168_4 : List COp := [⟨(some 20), none, (.fld 1 (.t 2))⟩, ⟨(some 21), none, (.load false 1 (.t 20))⟩, ⟨(some 22), none, (.call 61 [(.t 21)])⟩, ⟨(some 23), none, (.mov (.t 7))⟩, ⟨(some 24), none, (.call 199 [(.t 22), (.t 23)])⟩, ⟨(some 19), none, (.mov (.t 24))⟩, ⟨(some 25), none, (.ext (.t 19) 0)⟩, ⟨(some 26), none, (.ext (.t 19) 1)⟩, ⟨(some 8), none, (.mov (.t 25))⟩, ⟨(some 9), none, (.mov (.t 26))⟩]
def r168_5 : List COp := [⟨(some 27), none, (.fld 0 (.t 3))⟩, ⟨(some 28), none, (.load false 1 (.t 27))⟩, ⟨(some 10), none, (.mov (.t 28))⟩]
def r168_6 : List COp := [⟨(some 30), none, (.fld 0 (.t 2))⟩, ⟨(some 31), none, (.load false 1 (.t 30))⟩, ⟨(some 32), none, (.mov (.t 31))⟩, ⟨(some 33), (some (32, true)), (.mov (.t 9))⟩, ⟨(some 34), (some (32, true)), (.len false (.t 33))⟩, ⟨(some 35), (some (32, true)), (.bin .gtr (.t 34) (.k (.int .i64 0)))⟩, ⟨(some 36), none, (.pick (.t 32) (.t 35) (.k (.bool false)))⟩, ⟨(some 29), none, (.mov (.t 36))⟩]
def r168_7 : List COp := [⟨(some 38), none, (.fld 0 (.t 2))⟩, ⟨(some 39), none, (.load false 1 (.t 38))⟩, ⟨(some 37), none, (.mov (.t 39))⟩]
def r168_8 : List COp := [⟨(some 40), none, (.mov (.t 8))⟩, ⟨(some 41), none, (.bsl 1 1 [(.int .u32 0)] [(0, (1, (.k (.int .u32 1))))])⟩, ⟨(some 42), none, (.call 200 [(.t 40), (.t 41)])⟩, ⟨(some 8), none, (.mov (.t 42))⟩]
def r168_9 : List COp := [⟨(some 43), none, (.mov (.t 7))⟩, ⟨(some 44), none, (.mov (.t 9))⟩, ⟨(some 45), none, (.call 201 [(.t 43), (.t 44)])⟩, ⟨(some 9), none, (.mov (.t 45))⟩]
def r168_10 : List COp := [⟨(some 46), none, (.mov (.t 10))⟩, ⟨(some 47), none, (.un .not (.t 46))⟩, ⟨(some 10), none, (.mov (.t 47))⟩]
def r168_11 : List COp := [⟨(some 48), none, (.mov (.t 10))⟩, ⟨(some 49), none, (.mov (.t 8))⟩, ⟨(some 50), none, (.call 58 [(.t 48), (.t 49)])⟩, ⟨(some 51), none, (.mov (.t 9))⟩, ⟨(some 52), none, (.call 58 [(.k (.bool false)), (.t 51)])⟩, ⟨none, none, (.store 2 (.t 4) (.t 50))⟩, ⟨none, none, (.store 2 (.t 5) (.t 52))⟩, ⟨(some 6), none, (.mov (.k (.bool true)))⟩]
def c168 : CC := (.seq (.reg r168_0 none) (.seq (.reg r168_1 none) (.seq (.seq (.reg r168_2 none) (.cond (.t 16) (.seq (.reg r168_3 none) .ret) .skip)) (.seq (.reg r168_4 none) (.seq (.reg r168_5 none) (.seq (.block 0 (.seq (.block 2 (.seq (.block 1 (.seq (.seq (.seq (.reg r168_6 none) (.cond (.t 29) (.exit 1) .skip)) (.seq (.reg r168_7 none) (.cond (.t 37) (.exit 2) .skip))) (.exit 0))) (.seq (.reg r168_8 none) (.reg r168_9 none)))) (.seq (.reg r168_10 none) (.exit 0)))) (.seq (.reg r168_11 none) .ret)))))))
theorem comp168 : Tryz.f168.body.bind (compC Tryz.prog G Tryz.f168.ntmps) = some c168 := by kernel_rfl
theorem res168 : Tryz.f168.results.toList = [(.cell 4 39), (.cell 5 39), (.tmp 6)] := by kernel_rfl
-- integer.Int64 (function 123)
def r123_0 : List COp := [⟨(some 1), none, (.box (.t 0))⟩, ⟨(some 2), none, (.mov (.k (.int .i64 0)))⟩, ⟨(some 3), none, (.mov (.k (.bool false)))⟩]
def r123_1 : List COp := [⟨(some 6), none, (.fld 1 (.t 1))⟩, ⟨(some 7), none, (.load false 1 (.t 6))⟩, ⟨(some 8), none, (.call 61 [(.t 7)])⟩, ⟨(some 4), none, (.mov (.t 8))⟩]
def r123_2 : List COp := [⟨(some 9), none, (.mov (.t 4))⟩, ⟨(some 10), none, (.len false (.t 9))⟩, ⟨(some 11), none, (.bin .gtr (.t 10) (.k (.int .i64 2)))⟩]
def r123_3 : List COp := [⟨(some 2), none, (.mov (.k (.int .i64 0)))⟩, ⟨(some 3), none, (.mov (.k (.bool false)))⟩]
def r123_4 : List COp := [⟨(some 12), none, (.mov (.t 4))⟩, ⟨(some 13), none, (.call 102 [(.t 12)])⟩, ⟨(some 5), none, (.mov (.t 13))⟩]
def r123_5 : List COp := [⟨(some 15), none, (.fld 0 (.t 1))⟩, ⟨(some 16), none, (.load false 1 (.t 15))⟩, ⟨(some 17), none, (.mov (.t 16))⟩, ⟨(some 18), (some (17, true)), (.mov (.t 5))⟩, ⟨(some 19), (some (17, true)), (.bin .leq (.t 18) (.k (.int .u64 9223372036854775808)))⟩, ⟨(some 20), none, (.pick (.t 17) (.t 19) (.k (.bool false)))⟩, ⟨(some 14), none, (.mov (.t 20))⟩]
def r123_6 : List COp := [⟨(some 21), none, (.mov (.t 5))⟩, ⟨(some 22), none, (.un .neg (.t 21))⟩, ⟨(some 23), none, (.conv .i64 (.t 22))⟩, ⟨(some 2), none, (.mov (.t 23))⟩, ⟨(some 3), none, (.mov (.k (.bool true)))⟩]
def r123_7 : List COp := [⟨(some 25), none, (.fld 0 (.t 1))⟩, ⟨(some 26), none, (.load false 1 (.t 25))⟩, ⟨(some 27), none, (.un .not (.t 26))⟩, ⟨(some 28), none, (.mov (.t 27))⟩, ⟨(some 29), (some (28, true)), (.mov (.t 5))⟩, ⟨(some 30), (some (28, true)), (.bin .lss (.t 29) (.k (.int .u64 9223372036854775808)))⟩, ⟨(some 31), none, (.pick (.t 28) (.t 30) (.k (.bool false)))⟩, ⟨(some 24), none, (.mov (.t 31))⟩]
def r123_8 : List COp := [⟨(some 32), none, (.mov (.t 5))⟩, ⟨(some 33), none, (.conv .i64 (.t 32))⟩, ⟨(some 2), none, (.mov (.t 33))⟩, ⟨(some 3), none, (.mov (.k (.bool true)))⟩]
def r123_9 : List COp := [⟨(some 2), none, (.mov (.k (.int .i64 0)))⟩, ⟨(some 3), none, (.mov (.k (.bool false)))⟩]
def c123 : CC := (.seq (.reg r123_0 none) (.seq (.reg r123_1 none) (.seq (.seq (.reg r123_2 none) (.cond (.t 11) (.seq (.reg r123_3 none) .ret) .skip)) (.seq (.reg r123_4 none) (.seq (.block 0 (.seq (.reg r123_5 none) (.cond (.t 14) (.seq (.reg r123_6 none) .ret) (.seq (.reg r123_7 none) (.cond (.t 24) (.seq (.reg r123_8 none) .ret) .skip))))) (.seq (.reg r123_9 none) .ret))))))
theorem comp123 : Tryz.f123.body.bind (compC Tryz.prog G Tryz.f123.ntmps) = some c123 := by kernel_rfl
theorem res123 : Tryz.f123.results.toList = [(.tmp 2), (.tmp 3)] := by kernel_rfl
end Go.Proofs.YthkpeakeoepocaaGreatDoor
