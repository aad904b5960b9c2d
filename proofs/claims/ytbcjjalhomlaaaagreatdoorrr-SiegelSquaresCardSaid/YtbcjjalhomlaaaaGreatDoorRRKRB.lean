/- Rounds of siegel.count, in portions (genchunks.py). -/
import Derived.Test.YtbcjjalhomlaaaaGreatDoorRRKCC
namespace Go.Proofs.YtbcjjalhomlaaaaGreatDoorRR
set_option linter.unusedSimpArgs false
set_option linter.unusedVariables false
open Go Go.AL Go.Proofs
set_option maxRecDepth 1000000
def G4_8 : List (List Nat) := [[1, 0, 0, 0], [0, 1, 0, 0], [0, 0, 1, 0], [0, 0, 0, 1]]
theorem z4_8_0 : endB G4_8 4 8 10000000 [0, 0, 0, 0, 0, 0, 0, 0] 0 [0, 0, 0, 0] [0, 0, 0, 0] [128, 512, 768, 512, 384, 512, 768, 512] = true := by kernel_rfl
theorem x4_8_0 : runC G4_8 4 8 10000000 [0, 0, 0, 0, 0, 0, 0, 0] 0 [0, 0, 0, 0] [0, 0, 0, 0] = some [128, 512, 768, 512, 384, 512, 768, 512] := endB_ok _ _ _ z4_8_0
end Go.Proofs.YtbcjjalhomlaaaaGreatDoorRR

/- Rounds of siegel.count, in portions (genchunks.py). -/
namespace Go.Proofs.YtbcjjalhomlaaaaGreatDoorRR
set_option linter.unusedSimpArgs false
set_option linter.unusedVariables false
open Go Go.AL Go.Proofs
set_option maxRecDepth 1000000
def G5_8 : List (List Nat) := [[1, 0, 0, 0, 0], [0, 1, 0, 0, 0], [0, 0, 1, 0, 0], [0, 0, 0, 1, 0], [0, 0, 0, 0, 1]]
theorem y5_8_0 : stepsB G5_8 5 8 6600 [0, 0, 0, 0, 0, 0, 0, 0] 0 [0, 0, 0, 0, 0] [0, 0, 0, 0, 0] [384, 608, 1114, 980, 688, 736, 1114, 976] 3 [0, 1, 7, 4, 1] [0, 1, 7, 4, 1] = true := by kernel_rfl
theorem y5_8_1 : stepsB G5_8 5 8 6600 [384, 608, 1114, 980, 688, 736, 1114, 976] 3 [0, 1, 7, 4, 1] [0, 1, 7, 4, 1] [1092, 1184, 2170, 1962, 1168, 1488, 2170, 1966] 2 [0, 2, 6, 1, 3] [0, 2, 6, 1, 3] = true := by kernel_rfl
theorem y5_8_2 : stepsB G5_8 5 8 6600 [1092, 1184, 2170, 1962, 1168, 1488, 2170, 1966] 2 [0, 2, 6, 1, 3] [0, 2, 6, 1, 3] [1656, 1732, 3190, 2976, 1848, 2244, 3206, 2948] 6 [0, 3, 5, 6, 4] [0, 3, 5, 6, 4] = true := by kernel_rfl
theorem y5_8_3 : stepsB G5_8 5 8 6600 [1656, 1732, 3190, 2976, 1848, 2244, 3206, 2948] 6 [0, 3, 5, 6, 4] [0, 3, 5, 6, 4] [2336, 2164, 4184, 4048, 2496, 2932, 4184, 4056] 5 [0, 4, 4, 3, 6] [0, 4, 4, 3, 6] = true := by kernel_rfl
theorem z5_8_4 : endB G5_8 5 8 9973600 [2336, 2164, 4184, 4048, 2496, 2932, 4184, 4056] 5 [0, 4, 4, 3, 6] [0, 4, 4, 3, 6] [3072, 2560, 5120, 5120, 3072, 3584, 5120, 5120] = true := by kernel_rfl
theorem x5_8_4 : runC G5_8 5 8 9973600 [2336, 2164, 4184, 4048, 2496, 2932, 4184, 4056] 5 [0, 4, 4, 3, 6] [0, 4, 4, 3, 6] = some [3072, 2560, 5120, 5120, 3072, 3584, 5120, 5120] := endB_ok _ _ _ z5_8_4
theorem x5_8_3 : runC G5_8 5 8 9980200 [1656, 1732, 3190, 2976, 1848, 2244, 3206, 2948] 6 [0, 3, 5, 6, 4] [0, 3, 5, 6, 4] = some [3072, 2560, 5120, 5120, 3072, 3584, 5120, 5120] := (runC_to _ _ _ (f := 9973600) (stepsB_ok _ _ _ y5_8_3)).trans x5_8_4
theorem x5_8_2 : runC G5_8 5 8 9986800 [1092, 1184, 2170, 1962, 1168, 1488, 2170, 1966] 2 [0, 2, 6, 1, 3] [0, 2, 6, 1, 3] = some [3072, 2560, 5120, 5120, 3072, 3584, 5120, 5120] := (runC_to _ _ _ (f := 9980200) (stepsB_ok _ _ _ y5_8_2)).trans x5_8_3
theorem x5_8_1 : runC G5_8 5 8 9993400 [384, 608, 1114, 980, 688, 736, 1114, 976] 3 [0, 1, 7, 4, 1] [0, 1, 7, 4, 1] = some [3072, 2560, 5120, 5120, 3072, 3584, 5120, 5120] := (runC_to _ _ _ (f := 9986800) (stepsB_ok _ _ _ y5_8_1)).trans x5_8_2
theorem x5_8_0 : runC G5_8 5 8 10000000 [0, 0, 0, 0, 0, 0, 0, 0] 0 [0, 0, 0, 0, 0] [0, 0, 0, 0, 0] = some [3072, 2560, 5120, 5120, 3072, 3584, 5120, 5120] := (runC_to _ _ _ (f := 9993400) (stepsB_ok _ _ _ y5_8_0)).trans x5_8_1
end Go.Proofs.YtbcjjalhomlaaaaGreatDoorRR
