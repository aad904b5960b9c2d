/- The compiled code of some functions, by program (gencode.py). -/
import Derived.Test.YtbcjjalhomlaaaaGreatDoorRRAL24
import Derived.Test.YtbcjjalhomlaaaaGreatDoorRRXB
import Derived.KernelRfl

namespace Go.Proofs.YtbcjjalhomlaaaaGreatDoorRR
set_option linter.unusedSimpArgs false
set_option linter.unusedVariables false
open Go Go.AL Go.Proofs
set_option maxRecDepth 100000
-- slices.Clone[[]uint32,uint32] (function 59)
def r59_0 : List COp := [⟨(some 2), none, (.mov (.k (.vec [] 0 (some 0))))⟩]
def r59_1 : List COp := [⟨(some 3), none, (.mov (.t 0))⟩, ⟨(some 4), none, (.snil false (.t 3))⟩]
def r59_2 : List COp := [⟨(some 2), none, (.mov (.k (.vec [] 0 (some 0))))⟩]
def r59_3 : List COp := [⟨(some 5), none, (.bsl 0 1 [] [])⟩, ⟨(some 6), none, (.mov (.t 0))⟩, ⟨(some 7), none, (.append 1 4 (.t 5) (.t 6))⟩, ⟨(some 2), none, (.mov (.t 7))⟩]
def c59 : CC := (.seq (.reg r59_0 none) (.seq (.seq (.reg r59_1 none) (.cond (.t 4) (.seq (.reg r59_2 none) .ret) .skip)) (.seq (.reg r59_3 none) .ret)))
theorem comp59 : Tryz.f59.body.bind (compC Tryz.prog G Tryz.f59.ntmps) = some c59 := by kernel_rfl
theorem res59 : Tryz.f59.results.toList = [(.tmp 2)] := by kernel_rfl
-- siegel.count (function 79)
def r79_0 : List COp := [⟨(some 4), none, (.mov (.k (.vec [] 0 (some 0))))⟩]
def r79_1 : List COp := [⟨(some 16), none, (.mov (.t 0))⟩, ⟨(some 17), none, (.mov (.t 1))⟩, ⟨(some 18), none, (.call 95 [(.t 16), (.t 17)])⟩, ⟨(some 15), none, (.mov (.t 18))⟩, ⟨(some 19), none, (.ext (.t 15) 0)⟩, ⟨(some 20), none, (.ext (.t 15) 1)⟩, ⟨(some 5), none, (.mov (.t 19))⟩, ⟨(some 6), none, (.mov (.t 20))⟩]
def r79_2 : List COp := [⟨(some 21), none, (.mov (.t 1))⟩, ⟨(some 22), none, (.mksl 1 8 [(.int .i64 0)] (.t 21) (.t 21))⟩, ⟨(some 7), none, (.mov (.t 22))⟩]
def r79_3 : List COp := [⟨(some 23), none, (.mov (.t 0))⟩, ⟨(some 24), none, (.len false (.t 23))⟩, ⟨(some 25), none, (.mksl 1 8 [(.int .i64 0)] (.t 24) (.t 24))⟩, ⟨(some 8), none, (.mov (.t 25))⟩]
def r79_4 : List COp := [⟨(some 26), none, (.mov (.t 0))⟩, ⟨(some 27), none, (.len false (.t 26))⟩, ⟨(some 28), none, (.mksl 1 8 [(.int .i64 0)] (.t 27) (.t 27))⟩, ⟨(some 9), none, (.mov (.t 28))⟩]
def r79_5 : List COp := [⟨(some 10), none, (.mov (.k (.int .i64 0)))⟩]
def r79_6 : List COp := [⟨(some 29), none, (.mov (.t 7))⟩, ⟨(some 30), none, (.mov (.t 10))⟩, ⟨(some 31), none, (.idx 1 (.t 29) (.t 30))⟩, ⟨(some 32), none, (.load false 1 (.t 31))⟩, ⟨(some 33), none, (.bin .add (.t 32) (.k (.int .i64 1)))⟩, ⟨(some 34), none, (.idx 1 (.t 29) (.t 30))⟩, ⟨none, none, (.store 1 (.t 34) (.t 33))⟩]
def r79_7 : List COp := [⟨(some 35), none, (.mov (.t 5))⟩, ⟨(some 36), none, (.len false (.t 35))⟩, ⟨(some 37), none, (.mov (.k (.int .i64 0)))⟩]
def r79_8 : List COp := [⟨(some 38), none, (.bin .lss (.t 37) (.t 36))⟩]
def r79_9 : List COp := [⟨(some 39), none, (.mov (.t 37))⟩, ⟨(some 40), none, (.idx 1 (.t 35) (.t 37))⟩, ⟨(some 41), none, (.load false 1 (.t 40))⟩, ⟨(some 11), none, (.mov (.t 39))⟩, ⟨(some 12), none, (.mov (.t 41))⟩]
def r79_10 : List COp := [⟨(some 42), none, (.mov (.t 10))⟩, ⟨(some 43), none, (.mov (.t 9))⟩, ⟨(some 44), none, (.mov (.t 11))⟩, ⟨(some 45), none, (.idx 1 (.t 43) (.t 44))⟩, ⟨(some 46), none, (.load false 1 (.t 45))⟩, ⟨(some 47), none, (.bin .mul (.k (.int .i64 2)) (.t 46))⟩, ⟨(some 48), none, (.bin .add (.t 42) (.t 47))⟩, ⟨(some 49), none, (.mov (.t 12))⟩, ⟨(some 50), none, (.mov (.t 11))⟩, ⟨(some 51), none, (.idx 1 (.t 49) (.t 50))⟩, ⟨(some 52), none, (.load false 1 (.t 51))⟩, ⟨(some 53), none, (.bin .add (.t 48) (.t 52))⟩, ⟨(some 54), none, (.mov (.t 1))⟩, ⟨(some 55), none, (.bin .rem (.t 53) (.t 54))⟩, ⟨(some 10), none, (.mov (.t 55))⟩]
def r79_11 : List COp := [⟨(some 56), none, (.mov (.t 12))⟩, ⟨(some 57), none, (.len false (.t 56))⟩, ⟨(some 58), none, (.mov (.k (.int .i64 0)))⟩]
def r79_12 : List COp := [⟨(some 59), none, (.bin .lss (.t 58) (.t 57))⟩]
def r79_13 : List COp := [⟨(some 60), none, (.mov (.t 58))⟩, ⟨(some 61), none, (.idx 1 (.t 56) (.t 58))⟩, ⟨(some 62), none, (.load false 1 (.t 61))⟩, ⟨(some 13), none, (.mov (.t 60))⟩, ⟨(some 14), none, (.mov (.t 62))⟩]
def r79_14 : List COp := [⟨(some 63), none, (.mov (.t 9))⟩, ⟨(some 64), none, (.mov (.t 13))⟩, ⟨(some 65), none, (.mov (.t 9))⟩, ⟨(some 66), none, (.mov (.t 13))⟩, ⟨(some 67), none, (.idx 1 (.t 65) (.t 66))⟩, ⟨(some 68), none, (.load false 1 (.t 67))⟩, ⟨(some 69), none, (.mov (.t 14))⟩, ⟨(some 70), none, (.bin .add (.t 68) (.t 69))⟩, ⟨(some 71), none, (.mov (.t 1))⟩, ⟨(some 72), none, (.bin .rem (.t 70) (.t 71))⟩, ⟨(some 73), none, (.idx 1 (.t 63) (.t 64))⟩, ⟨none, none, (.store 1 (.t 73) (.t 72))⟩]
def r79_15 : List COp := [⟨(some 74), none, (.bin .add (.t 58) (.k (.int .i64 1)))⟩, ⟨(some 58), none, (.mov (.t 74))⟩]
def l79_1 : CC := (.seq (.reg r79_12 none) (.seq (.cond (.t 59) .skip (.exit 2)) (.seq (.block 3 (.seq (.reg r79_13 none) (.reg r79_14 none))) (.reg r79_15 none))))
def r79_16 : List COp := [⟨(some 75), none, (.mov (.t 8))⟩, ⟨(some 76), none, (.mov (.t 11))⟩, ⟨(some 77), none, (.idx 1 (.t 75) (.t 76))⟩, ⟨(some 78), none, (.load false 1 (.t 77))⟩, ⟨(some 79), none, (.bin .add (.t 78) (.k (.int .i64 1)))⟩, ⟨(some 80), none, (.idx 1 (.t 75) (.t 76))⟩, ⟨none, none, (.store 1 (.t 80) (.t 79))⟩]
def r79_17 : List COp := [⟨(some 81), none, (.mov (.t 8))⟩, ⟨(some 82), none, (.mov (.t 11))⟩, ⟨(some 83), none, (.idx 1 (.t 81) (.t 82))⟩, ⟨(some 84), none, (.load false 1 (.t 83))⟩, ⟨(some 85), none, (.mov (.t 1))⟩, ⟨(some 86), none, (.bin .lss (.t 84) (.t 85))⟩]
def r79_18 : List COp := [⟨(some 87), none, (.mov (.t 8))⟩, ⟨(some 88), none, (.mov (.t 11))⟩, ⟨(some 89), none, (.idx 1 (.t 87) (.t 88))⟩, ⟨none, none, (.store 1 (.t 89) (.k (.int .i64 0)))⟩]
def r79_19 : List COp := [⟨(some 90), none, (.bin .add (.t 37) (.k (.int .i64 1)))⟩, ⟨(some 37), none, (.mov (.t 90))⟩]
def l79_0 : CC := (.seq (.reg r79_8 none) (.seq (.cond (.t 38) .skip (.exit 0)) (.seq (.block 1 (.seq (.reg r79_9 none) (.seq (.reg r79_10 (some [(4, 10)])) (.seq (.seq (.reg r79_11 none) (.block 2 (.loop l79_1))) (.seq (.seq (.reg r79_16 none) (.seq (.reg r79_17 none) (.cond (.t 86) (.goto 0) .skip))) (.reg r79_18 none)))))) (.reg r79_19 none))))
def r79_20 : List COp := [⟨(some 91), none, (.mov (.t 7))⟩, ⟨(some 4), none, (.mov (.t 91))⟩]
def c79 : CC := (.seq (.reg r79_0 none) (.scope (.seq (.reg r79_1 none) (.seq (.reg r79_2 none) (.seq (.reg r79_3 none) (.seq (.reg r79_4 none) (.seq (.reg r79_5 none) (.seq (.label 0) (.seq (.reg r79_6 none) (.seq (.seq (.reg r79_7 none) (.block 0 (.loop l79_0))) (.seq (.reg r79_20 none) .ret)))))))))))
theorem comp79 : Tryz.f79.body.bind (compC Tryz.prog G Tryz.f79.ntmps) = some c79 := by kernel_rfl
theorem res79 : Tryz.f79.results.toList = [(.tmp 4)] := by kernel_rfl
end Go.Proofs.YtbcjjalhomlaaaaGreatDoorRR
