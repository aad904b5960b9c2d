/- construct.Number at some determinants, by the kernel (gennb.py). -/
import Derived.Test.YthkpeakeoepocaaGreatDoorBTN
namespace Go.Proofs.YthkpeakeoepocaaGreatDoor
set_option linter.unusedSimpArgs false
set_option linter.unusedVariables false
open Go Go.AL Go.Proofs
set_option maxRecDepth 1000000
theorem n2_19 : Num 2 19 3 := n_run (by kernel_rfl)
theorem n2_31 : Num 2 31 4 := n_run (by kernel_rfl)
theorem n2_32 : Num 2 32 6 := n_run (by kernel_rfl)
theorem n2_59 : Num 2 59 7 := n_run (by kernel_rfl)
theorem n2_75 : Num 2 75 8 := n_run (by kernel_rfl)
theorem n2_88 : Num 2 88 6 := n_run (by kernel_rfl)
theorem n2_108 : Num 2 108 11 := n_run (by kernel_rfl)
theorem n2_126 : Num 2 126 9 := n_run (by kernel_rfl)
theorem n2_130 : Num 2 130 4 := n_run (by kernel_rfl)
theorem n2_149 : Num 2 149 8 := n_run (by kernel_rfl)
theorem n2_177 : Num 2 177 4 := n_run (by kernel_rfl)
theorem n2_180 : Num 2 180 15 := n_run (by kernel_rfl)
end Go.Proofs.YthkpeakeoepocaaGreatDoor

/- construct.Number at some determinants, by the kernel (gennb.py). -/
namespace Go.Proofs.YthkpeakeoepocaaGreatDoor
set_option linter.unusedSimpArgs false
set_option linter.unusedVariables false
open Go Go.AL Go.Proofs
set_option maxRecDepth 1000000
theorem n2_11 : Num 2 11 3 := n_run (by kernel_rfl)
theorem n2_26 : Num 2 26 4 := n_run (by kernel_rfl)
theorem n2_60 : Num 2 60 8 := n_run (by kernel_rfl)
theorem n2_74 : Num 2 74 6 := n_run (by kernel_rfl)
theorem n2_84 : Num 2 84 10 := n_run (by kernel_rfl)
theorem n2_102 : Num 2 102 4 := n_run (by kernel_rfl)
theorem n2_125 : Num 2 125 8 := n_run (by kernel_rfl)
theorem n2_148 : Num 2 148 5 := n_run (by kernel_rfl)
theorem n2_154 : Num 2 154 6 := n_run (by kernel_rfl)
theorem n2_179 : Num 2 179 11 := n_run (by kernel_rfl)
theorem n2_187 : Num 2 187 6 := n_run (by kernel_rfl)
theorem n2_191 : Num 2 191 14 := n_run (by kernel_rfl)
end Go.Proofs.YthkpeakeoepocaaGreatDoor

/- construct.Number at some determinants, by the kernel (gennb.py). -/
namespace Go.Proofs.YthkpeakeoepocaaGreatDoor
set_option linter.unusedSimpArgs false
set_option linter.unusedVariables false
open Go Go.AL Go.Proofs
set_option maxRecDepth 1000000
theorem n2_10 : Num 2 10 2 := n_run (by kernel_rfl)
theorem n2_15 : Num 2 15 4 := n_run (by kernel_rfl)
theorem n2_37 : Num 2 37 2 := n_run (by kernel_rfl)
theorem n2_55 : Num 2 55 6 := n_run (by kernel_rfl)
theorem n2_70 : Num 2 70 4 := n_run (by kernel_rfl)
theorem n2_94 : Num 2 94 5 := n_run (by kernel_rfl)
theorem n2_117 : Num 2 117 8 := n_run (by kernel_rfl)
theorem n2_127 : Num 2 127 6 := n_run (by kernel_rfl)
theorem n2_139 : Num 2 139 7 := n_run (by kernel_rfl)
theorem n2_156 : Num 2 156 12 := n_run (by kernel_rfl)
theorem n2_186 : Num 2 186 8 := n_run (by kernel_rfl)
theorem n2_195 : Num 2 195 12 := n_run (by kernel_rfl)
theorem n2_196 : Num 2 196 10 := n_run (by kernel_rfl)
end Go.Proofs.YthkpeakeoepocaaGreatDoor

/- construct.Number at some determinants, by the kernel (gennb.py). -/
namespace Go.Proofs.YthkpeakeoepocaaGreatDoor
set_option linter.unusedSimpArgs false
set_option linter.unusedVariables false
open Go Go.AL Go.Proofs
set_option maxRecDepth 1000000
theorem n2_4 : Num 2 4 2 := n_run (by kernel_rfl)
theorem n2_41 : Num 2 41 5 := n_run (by kernel_rfl)
theorem n2_45 : Num 2 45 6 := n_run (by kernel_rfl)
theorem n2_46 : Num 2 46 3 := n_run (by kernel_rfl)
theorem n2_49 : Num 2 49 4 := n_run (by kernel_rfl)
theorem n2_83 : Num 2 83 7 := n_run (by kernel_rfl)
theorem n2_101 : Num 2 101 8 := n_run (by kernel_rfl)
theorem n2_114 : Num 2 114 6 := n_run (by kernel_rfl)
theorem n2_120 : Num 2 120 12 := n_run (by kernel_rfl)
theorem n2_142 : Num 2 142 3 := n_run (by kernel_rfl)
theorem n2_161 : Num 2 161 10 := n_run (by kernel_rfl)
theorem n2_167 : Num 2 167 12 := n_run (by kernel_rfl)
theorem n2_170 : Num 2 170 8 := n_run (by kernel_rfl)
end Go.Proofs.YthkpeakeoepocaaGreatDoor
