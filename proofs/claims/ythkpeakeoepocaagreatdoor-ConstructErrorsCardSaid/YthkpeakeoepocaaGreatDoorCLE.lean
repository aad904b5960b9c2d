/- The compiled code of some functions, by program (gencode.py). -/
import Derived.Test.YthkpeakeoepocaaGreatDoorAL24
import Derived.Test.YthkpeakeoepocaaGreatDoorXB
import Derived.KernelRfl

namespace Go.Proofs.YthkpeakeoepocaaGreatDoor
set_option linter.unusedSimpArgs false
set_option linter.unusedVariables false
open Go Go.AL Go.Proofs
set_option maxRecDepth 100000
-- quadformlaw30.ConstructErrors (function 3)
def r3_0 : List COp := [⟨(some 6), none, (.mov (.k (.bool false)))⟩]
def r3_1 : List COp := [⟨(some 12), none, (.mov (.t 2))⟩]
def r3_2 : List COp := [⟨(some 13), none, (.mov (.t 0))⟩, ⟨(some 14), none, (.bin .rem (.t 13) (.k (.int .i64 10)))⟩, ⟨(some 15), none, (.mov (.t 1))⟩, ⟨(some 16), none, (.bin .rem (.t 15) (.k (.int .i64 11000)))⟩, ⟨(some 0), none, (.mov (.t 14))⟩, ⟨(some 1), none, (.mov (.t 16))⟩]
def r3_3 : List COp := [⟨(some 7), none, (.mov (.k (.int .i64 0)))⟩]
def r3_4 : List COp := [⟨(some 18), none, (.mov (.t 0))⟩, ⟨(some 19), none, (.bin .lss (.t 18) (.k (.int .i64 1)))⟩, ⟨(some 20), none, (.mov (.t 19))⟩, ⟨(some 21), (some (20, false)), (.mov (.t 0))⟩, ⟨(some 22), (some (20, false)), (.bin .gtr (.t 21) (.k (.int .i64 8)))⟩, ⟨(some 23), none, (.pick (.t 20) (.k (.bool true)) (.t 22))⟩, ⟨(some 24), none, (.mov (.t 23))⟩, ⟨(some 25), (some (24, false)), (.mov (.t 1))⟩, ⟨(some 26), (some (24, false)), (.bin .lss (.t 25) (.k (.int .i64 1)))⟩, ⟨(some 27), none, (.pick (.t 24) (.k (.bool true)) (.t 26))⟩, ⟨(some 28), none, (.mov (.t 27))⟩, ⟨(some 29), (some (28, false)), (.mov (.t 1))⟩, ⟨(some 30), (some (28, false)), (.bin .gtr (.t 29) (.k (.int .i64 10000)))⟩, ⟨(some 31), none, (.pick (.t 28) (.k (.bool true)) (.t 30))⟩, ⟨(some 17), none, (.mov (.t 31))⟩]
def r3_5 : List COp := [⟨(some 7), none, (.mov (.k (.int .i64 1)))⟩]
def r3_6 : List COp := [⟨(some 33), none, (.mov (.t 0))⟩, ⟨(some 34), none, (.bin .gtr (.t 33) (.k (.int .i64 3)))⟩, ⟨(some 35), none, (.mov (.t 34))⟩, ⟨(some 36), (some (35, false)), (.mov (.t 1))⟩, ⟨(some 37), (some (35, false)), (.bin .gtr (.t 36) (.k (.int .i64 200)))⟩, ⟨(some 38), none, (.pick (.t 35) (.k (.bool true)) (.t 37))⟩, ⟨(some 32), none, (.mov (.t 38))⟩]
def r3_7 : List COp := [⟨(some 7), none, (.mov (.k (.int .i64 7)))⟩]
def r3_8 : List COp := [⟨(some 39), none, (.mov (.t 7))⟩, ⟨(some 40), none, (.bin .eql (.t 39) (.k (.int .i64 0)))⟩]
def r3_9 : List COp := [⟨(some 41), none, (.call 7 [])⟩, ⟨(some 6), none, (.mov (.t 41))⟩]
def r3_10 : List COp := [⟨(some 43), none, (.mov (.t 0))⟩, ⟨(some 44), none, (.mov (.t 1))⟩, ⟨(some 45), none, (.call 8 [(.t 43), (.t 44)])⟩, ⟨(some 42), none, (.mov (.t 45))⟩, ⟨(some 46), none, (.ext (.t 42) 0)⟩, ⟨(some 47), none, (.ext (.t 42) 1)⟩, ⟨(some 8), none, (.mov (.t 46))⟩, ⟨(some 9), none, (.mov (.t 47))⟩]
def r3_11 : List COp := [⟨(some 49), none, (.mov (.t 0))⟩, ⟨(some 50), none, (.mov (.t 1))⟩, ⟨(some 51), none, (.call 9 [(.t 49), (.t 50)])⟩, ⟨(some 48), none, (.mov (.t 51))⟩, ⟨(some 52), none, (.ext (.t 48) 0)⟩, ⟨(some 53), none, (.ext (.t 48) 1)⟩, ⟨(some 10), none, (.mov (.t 52))⟩, ⟨(some 11), none, (.mov (.t 53))⟩]
def r3_12 : List COp := [⟨(some 54), none, (.mov (.t 9))⟩, ⟨(some 55), none, (.mov (.t 7))⟩, ⟨(some 56), none, (.bin .eql (.t 54) (.t 55))⟩, ⟨(some 57), none, (.mov (.t 56))⟩, ⟨(some 58), (some (57, true)), (.mov (.t 11))⟩, ⟨(some 59), (some (57, true)), (.mov (.t 7))⟩, ⟨(some 60), (some (57, true)), (.bin .eql (.t 58) (.t 59))⟩, ⟨(some 61), none, (.pick (.t 57) (.t 60) (.k (.bool false)))⟩, ⟨(some 62), none, (.mov (.t 61))⟩, ⟨(some 63), (some (62, true)), (.mov (.t 8))⟩, ⟨(some 64), (some (62, true)), (.len false (.t 63))⟩, ⟨(some 65), (some (62, true)), (.bin .eql (.t 64) (.k (.int .i64 0)))⟩, ⟨(some 66), none, (.pick (.t 62) (.t 65) (.k (.bool false)))⟩, ⟨(some 67), none, (.mov (.t 66))⟩, ⟨(some 68), (some (67, true)), (.mov (.t 10))⟩, ⟨(some 69), (some (67, true)), (.bin .eql (.t 68) (.k (.int .i64 0)))⟩, ⟨(some 70), none, (.pick (.t 67) (.t 69) (.k (.bool false)))⟩, ⟨(some 71), none, (.mov (.t 70))⟩, ⟨(some 72), (some (71, true)), (.call 7 [])⟩, ⟨(some 73), none, (.pick (.t 71) (.t 72) (.k (.bool false)))⟩, ⟨(some 6), none, (.mov (.t 73))⟩]
def c3 : CC := (.seq (.reg r3_0 none) (.seq (.seq (.reg r3_1 none) (.cond (.t 12) (.reg r3_2 none) .skip)) (.seq (.reg r3_3 none) (.seq (.block 0 (.seq (.reg r3_4 none) (.cond (.t 17) (.reg r3_5 none) (.seq (.reg r3_6 none) (.cond (.t 32) (.reg r3_7 none) .skip))))) (.seq (.seq (.reg r3_8 none) (.cond (.t 40) (.seq (.reg r3_9 none) .ret) .skip)) (.seq (.reg r3_10 none) (.seq (.reg r3_11 none) (.seq (.reg r3_12 none) .ret))))))))
theorem comp3 : Tryz.f3.body.bind (compC Tryz.prog G Tryz.f3.ntmps) = some c3 := by kernel_rfl
theorem res3 : Tryz.f3.results.toList = [(.tmp 6)] := by kernel_rfl
-- quadformlaw30.awake (function 7)
def r7_0 : List COp := [⟨(some 0), none, (.mov (.k (.bool false)))⟩]
def r7_1 : List COp := [⟨(some 6), none, (.call 9 [(.k (.int .i64 2)), (.k (.int .i64 5))])⟩, ⟨(some 5), none, (.mov (.t 6))⟩, ⟨(some 7), none, (.ext (.t 5) 0)⟩, ⟨(some 8), none, (.ext (.t 5) 1)⟩, ⟨(some 1), none, (.mov (.t 7))⟩, ⟨(some 2), none, (.mov (.t 8))⟩]
def r7_2 : List COp := [⟨(some 10), none, (.call 9 [(.k (.int .i64 3)), (.k (.int .i64 1))])⟩, ⟨(some 9), none, (.mov (.t 10))⟩, ⟨(some 11), none, (.ext (.t 9) 0)⟩, ⟨(some 12), none, (.ext (.t 9) 1)⟩, ⟨(some 3), none, (.mov (.t 11))⟩, ⟨(some 4), none, (.mov (.t 12))⟩]
def r7_3 : List COp := [⟨(some 13), none, (.mov (.t 2))⟩, ⟨(some 14), none, (.bin .eql (.t 13) (.k (.int .i64 0)))⟩, ⟨(some 15), none, (.mov (.t 14))⟩, ⟨(some 16), (some (15, true)), (.mov (.t 4))⟩, ⟨(some 17), (some (15, true)), (.bin .eql (.t 16) (.k (.int .i64 0)))⟩, ⟨(some 18), none, (.pick (.t 15) (.t 17) (.k (.bool false)))⟩, ⟨(some 19), none, (.mov (.t 18))⟩, ⟨(some 20), (some (19, true)), (.mov (.t 1))⟩, ⟨(some 21), (some (19, true)), (.bin .eql (.t 20) (.k (.int .i64 2)))⟩, ⟨(some 22), none, (.pick (.t 19) (.t 21) (.k (.bool false)))⟩, ⟨(some 23), none, (.mov (.t 22))⟩, ⟨(some 24), (some (23, true)), (.mov (.t 3))⟩, ⟨(some 25), (some (23, true)), (.bin .eql (.t 24) (.k (.int .i64 1)))⟩, ⟨(some 26), none, (.pick (.t 23) (.t 25) (.k (.bool false)))⟩, ⟨(some 0), none, (.mov (.t 26))⟩]
def c7 : CC := (.seq (.reg r7_0 none) (.seq (.reg r7_1 none) (.seq (.reg r7_2 none) (.seq (.reg r7_3 none) .ret))))
theorem comp7 : Tryz.f7.body.bind (compC Tryz.prog G Tryz.f7.ntmps) = some c7 := by kernel_rfl
theorem res7 : Tryz.f7.results.toList = [(.tmp 0)] := by kernel_rfl
-- construct.All (function 8)
def r8_0 : List COp := [⟨(some 4), none, (.mov (.k (.vec [] 0 (some 0))))⟩, ⟨(some 5), none, (.mov (.k (.int .i64 0)))⟩]
def r8_1 : List COp := [⟨(some 13), none, (.mov (.t 0))⟩, ⟨(some 14), none, (.bin .lss (.t 13) (.k (.int .i64 1)))⟩, ⟨(some 15), none, (.mov (.t 14))⟩, ⟨(some 16), (some (15, false)), (.mov (.t 0))⟩, ⟨(some 17), (some (15, false)), (.bin .gtr (.t 16) (.k (.int .i64 8)))⟩, ⟨(some 18), none, (.pick (.t 15) (.k (.bool true)) (.t 17))⟩, ⟨(some 19), none, (.mov (.t 18))⟩, ⟨(some 20), (some (19, false)), (.mov (.t 1))⟩, ⟨(some 21), (some (19, false)), (.bin .lss (.t 20) (.k (.int .i64 1)))⟩, ⟨(some 22), none, (.pick (.t 19) (.k (.bool true)) (.t 21))⟩, ⟨(some 23), none, (.mov (.t 22))⟩, ⟨(some 24), (some (23, false)), (.mov (.t 1))⟩, ⟨(some 25), (some (23, false)), (.bin .gtr (.t 24) (.k (.int .i64 10000)))⟩, ⟨(some 26), none, (.pick (.t 23) (.k (.bool true)) (.t 25))⟩]
def r8_2 : List COp := [⟨(some 4), none, (.mov (.k (.vec [] 0 (some 0))))⟩, ⟨(some 5), none, (.mov (.k (.int .i64 1)))⟩]
def r8_3 : List COp := [⟨(some 27), none, (.mov (.t 0))⟩, ⟨(some 28), none, (.bin .gtr (.t 27) (.k (.int .i64 3)))⟩, ⟨(some 29), none, (.mov (.t 28))⟩, ⟨(some 30), (some (29, false)), (.mov (.t 1))⟩, ⟨(some 31), (some (29, false)), (.bin .gtr (.t 30) (.k (.int .i64 200)))⟩, ⟨(some 32), none, (.pick (.t 29) (.k (.bool true)) (.t 31))⟩]
def r8_4 : List COp := [⟨(some 4), none, (.mov (.k (.vec [] 0 (some 0))))⟩, ⟨(some 5), none, (.mov (.k (.int .i64 7)))⟩]
def r8_5 : List COp := [⟨(some 6), none, (.mov (.k (.vec [] 0 (some 0))))⟩]
def r8_6 : List COp := [⟨(some 33), none, .mkmap⟩, ⟨(some 7), none, (.mov (.t 33))⟩]
def r8_7 : List COp := [⟨(some 34), none, (.mov (.t 0))⟩, ⟨(some 35), none, (.mov (.t 1))⟩, ⟨(some 36), none, (.call 14 [(.t 34), (.t 35)])⟩, ⟨(some 37), none, (.len false (.t 36))⟩, ⟨(some 38), none, (.mov (.k (.int .i64 0)))⟩]
def r8_8 : List COp := [⟨(some 39), none, (.bin .lss (.t 38) (.t 37))⟩]
def r8_9 : List COp := [⟨(some 40), none, (.idx 1 (.t 36) (.t 38))⟩, ⟨(some 41), none, (.load false 1 (.t 40))⟩, ⟨(some 9), none, (.mov (.t 41))⟩]
def r8_10 : List COp := [⟨(some 43), none, (.mov (.t 9))⟩, ⟨(some 44), none, (.call 15 [(.t 43)])⟩, ⟨(some 42), none, (.mov (.t 44))⟩, ⟨(some 45), none, (.ext (.t 42) 0)⟩, ⟨(some 46), none, (.ext (.t 42) 1)⟩, ⟨(some 10), none, (.mov (.t 45))⟩, ⟨(some 11), none, (.mov (.t 46))⟩]
def r8_11 : List COp := [⟨(some 47), none, (.mov (.t 11))⟩, ⟨(some 48), none, (.un .not (.t 47))⟩]
def r8_12 : List COp := [⟨(some 49), none, (.mov (.t 9))⟩, ⟨(some 50), none, (.call 16 [(.t 49)])⟩, ⟨(some 12), none, (.box (.k (.agg [(.int .i64 0), (.int .i64 0), (.int .i64 0)])))⟩, ⟨none, none, (.store 3 (.t 12) (.t 50))⟩]
def r8_13 : List COp := [⟨(some 51), none, (.mov (.t 7))⟩, ⟨(some 52), none, (.load true 3 (.t 12))⟩, ⟨(some 53), none, (.mlook [.i64, .i64, .i64] (.vec [] 0 (some 0)) (.t 51) (.t 52))⟩, ⟨(some 54), none, (.mov (.t 10))⟩, ⟨(some 55), none, (.call 17 [(.t 53), (.t 54)])⟩, ⟨(some 56), none, (.un .not (.t 55))⟩]
def r8_14 : List COp := [⟨(some 57), none, (.mov (.t 7))⟩, ⟨(some 58), none, (.load true 3 (.t 12))⟩, ⟨(some 60), none, (.mov (.t 10))⟩, ⟨(some 61), none, (.bsl 1 1 [(.vec [] 0 (some 0))] [(0, (1, (.t 60)))])⟩, ⟨(some 62), none, (.mentry [.i64, .i64, .i64] (.vec [] 0 (some 0)) (.t 57) (.t 58))⟩, ⟨(some 59), none, (.ext (.t 62) 0)⟩, ⟨(some 63), none, (.append 1 24 (.t 59) (.t 61))⟩, ⟨(some 64), none, (.ext (.t 62) 1)⟩, ⟨none, none, (.mstore (.t 57) (.t 64) (.t 63))⟩]
def r8_15 : List COp := [⟨(some 65), none, (.mov (.t 6))⟩, ⟨(some 66), none, (.mov (.t 10))⟩, ⟨(some 67), none, (.bsl 1 1 [(.vec [] 0 (some 0))] [(0, (1, (.t 66)))])⟩, ⟨(some 68), none, (.append 1 24 (.t 65) (.t 67))⟩, ⟨(some 6), none, (.mov (.t 68))⟩]
def r8_16 : List COp := [⟨(some 69), none, (.bin .add (.t 38) (.k (.int .i64 1)))⟩, ⟨(some 38), none, (.mov (.t 69))⟩]
def l8_0 : CC := (.seq (.reg r8_8 none) (.seq (.cond (.t 39) .skip (.exit 0)) (.seq (.block 1 (.seq (.reg r8_9 none) (.seq (.reg r8_10 none) (.seq (.seq (.reg r8_11 none) (.cond (.t 48) (.exit 1) .skip)) (.seq (.reg r8_12 none) (.seq (.reg r8_13 none) (.cond (.t 56) (.seq (.reg r8_14 none) (.reg r8_15 none)) .skip))))))) (.reg r8_16 none))))
def r8_17 : List COp := [⟨(some 70), none, (.mov (.t 6))⟩, ⟨(some 4), none, (.mov (.t 70))⟩, ⟨(some 5), none, (.mov (.k (.int .i64 0)))⟩]
def c8 : CC := (.seq (.reg r8_0 none) (.seq (.seq (.reg r8_1 none) (.cond (.t 26) (.seq (.reg r8_2 none) .ret) .skip)) (.seq (.seq (.reg r8_3 none) (.cond (.t 32) (.seq (.reg r8_4 none) .ret) .skip)) (.seq (.reg r8_5 none) (.seq (.reg r8_6 none) (.seq (.seq (.reg r8_7 none) (.block 0 (.loop l8_0))) (.seq (.reg r8_17 none) .ret)))))))
theorem comp8 : Tryz.f8.body.bind (compC Tryz.prog G Tryz.f8.ntmps) = some c8 := by kernel_rfl
theorem res8 : Tryz.f8.results.toList = [(.tmp 4), (.tmp 5)] := by kernel_rfl
-- construct.Number (function 9)
def r9_0 : List COp := [⟨(some 4), none, (.mov (.k (.int .i64 0)))⟩, ⟨(some 5), none, (.mov (.k (.int .i64 0)))⟩]
def r9_1 : List COp := [⟨(some 9), none, (.mov (.t 0))⟩, ⟨(some 10), none, (.mov (.t 1))⟩, ⟨(some 11), none, (.call 8 [(.t 9), (.t 10)])⟩, ⟨(some 8), none, (.mov (.t 11))⟩, ⟨(some 12), none, (.ext (.t 8) 0)⟩, ⟨(some 13), none, (.ext (.t 8) 1)⟩, ⟨(some 6), none, (.mov (.t 12))⟩, ⟨(some 7), none, (.mov (.t 13))⟩]
def r9_2 : List COp := [⟨(some 14), none, (.mov (.t 6))⟩, ⟨(some 15), none, (.len false (.t 14))⟩, ⟨(some 16), none, (.mov (.t 7))⟩, ⟨(some 4), none, (.mov (.t 15))⟩, ⟨(some 5), none, (.mov (.t 16))⟩]
def c9 : CC := (.seq (.reg r9_0 none) (.seq (.reg r9_1 none) (.seq (.reg r9_2 none) .ret)))
theorem comp9 : Tryz.f9.body.bind (compC Tryz.prog G Tryz.f9.ntmps) = some c9 := by kernel_rfl
theorem res9 : Tryz.f9.results.toList = [(.tmp 4), (.tmp 5)] := by kernel_rfl
end Go.Proofs.YthkpeakeoepocaaGreatDoor
