/- construct.Number at some determinants, by the kernel (gennb.py). -/
import Derived.Test.YthkpeakeoepocaaGreatDoorBTN
namespace Go.Proofs.YthkpeakeoepocaaGreatDoor
set_option linter.unusedSimpArgs false
set_option linter.unusedVariables false
open Go Go.AL Go.Proofs
set_option maxRecDepth 1000000
theorem n2_18 : Num 2 18 3 := n_run (by kernel_rfl)
theorem n2_24 : Num 2 24 6 := n_run (by kernel_rfl)
theorem n2_30 : Num 2 30 4 := n_run (by kernel_rfl)
theorem n2_44 : Num 2 44 7 := n_run (by kernel_rfl)
theorem n2_71 : Num 2 71 8 := n_run (by kernel_rfl)
theorem n2_80 : Num 2 80 11 := n_run (by kernel_rfl)
theorem n2_86 : Num 2 86 6 := n_run (by kernel_rfl)
theorem n2_99 : Num 2 99 9 := n_run (by kernel_rfl)
theorem n2_118 : Num 2 118 4 := n_run (by kernel_rfl)
theorem n2_147 : Num 2 147 8 := n_run (by kernel_rfl)
theorem n2_157 : Num 2 157 4 := n_run (by kernel_rfl)
theorem n2_176 : Num 2 176 15 := n_run (by kernel_rfl)
end Go.Proofs.YthkpeakeoepocaaGreatDoor

/- construct.Number at some determinants, by the kernel (gennb.py). -/
namespace Go.Proofs.YthkpeakeoepocaaGreatDoor
set_option linter.unusedSimpArgs false
set_option linter.unusedVariables false
open Go Go.AL Go.Proofs
set_option maxRecDepth 1000000
theorem n2_9 : Num 2 9 3 := n_run (by kernel_rfl)
theorem n2_23 : Num 2 23 4 := n_run (by kernel_rfl)
theorem n2_48 : Num 2 48 8 := n_run (by kernel_rfl)
theorem n2_69 : Num 2 69 6 := n_run (by kernel_rfl)
theorem n2_72 : Num 2 72 9 := n_run (by kernel_rfl)
theorem n2_93 : Num 2 93 4 := n_run (by kernel_rfl)
theorem n2_131 : Num 2 131 11 := n_run (by kernel_rfl)
theorem n2_137 : Num 2 137 5 := n_run (by kernel_rfl)
theorem n2_145 : Num 2 145 6 := n_run (by kernel_rfl)
theorem n2_164 : Num 2 164 14 := n_run (by kernel_rfl)
theorem n2_181 : Num 2 181 6 := n_run (by kernel_rfl)
theorem n2_184 : Num 2 184 9 := n_run (by kernel_rfl)
end Go.Proofs.YthkpeakeoepocaaGreatDoor

/- construct.Number at some determinants, by the kernel (gennb.py). -/
namespace Go.Proofs.YthkpeakeoepocaaGreatDoor
set_option linter.unusedSimpArgs false
set_option linter.unusedVariables false
open Go Go.AL Go.Proofs
set_option maxRecDepth 1000000
theorem n2_7 : Num 2 7 2 := n_run (by kernel_rfl)
theorem n2_12 : Num 2 12 4 := n_run (by kernel_rfl)
theorem n2_22 : Num 2 22 2 := n_run (by kernel_rfl)
theorem n2_54 : Num 2 54 6 := n_run (by kernel_rfl)
theorem n2_61 : Num 2 61 4 := n_run (by kernel_rfl)
theorem n2_62 : Num 2 62 5 := n_run (by kernel_rfl)
theorem n2_107 : Num 2 107 7 := n_run (by kernel_rfl)
theorem n2_112 : Num 2 112 8 := n_run (by kernel_rfl)
theorem n2_123 : Num 2 123 6 := n_run (by kernel_rfl)
theorem n2_152 : Num 2 152 12 := n_run (by kernel_rfl)
theorem n2_182 : Num 2 182 8 := n_run (by kernel_rfl)
theorem n2_185 : Num 2 185 10 := n_run (by kernel_rfl)
theorem n2_189 : Num 2 189 12 := n_run (by kernel_rfl)
end Go.Proofs.YthkpeakeoepocaaGreatDoor

/- construct.Number at some determinants, by the kernel (gennb.py). -/
namespace Go.Proofs.YthkpeakeoepocaaGreatDoor
set_option linter.unusedSimpArgs false
set_option linter.unusedVariables false
open Go Go.AL Go.Proofs
set_option maxRecDepth 1000000
theorem n2_3 : Num 2 3 2 := n_run (by kernel_rfl)
theorem n2_27 : Num 2 27 5 := n_run (by kernel_rfl)
theorem n2_40 : Num 2 40 6 := n_run (by kernel_rfl)
theorem n2_42 : Num 2 42 4 := n_run (by kernel_rfl)
theorem n2_43 : Num 2 43 3 := n_run (by kernel_rfl)
theorem n2_81 : Num 2 81 7 := n_run (by kernel_rfl)
theorem n2_92 : Num 2 92 8 := n_run (by kernel_rfl)
theorem n2_97 : Num 2 97 3 := n_run (by kernel_rfl)
theorem n2_103 : Num 2 103 6 := n_run (by kernel_rfl)
theorem n2_119 : Num 2 119 12 := n_run (by kernel_rfl)
theorem n2_155 : Num 2 155 10 := n_run (by kernel_rfl)
theorem n2_160 : Num 2 160 12 := n_run (by kernel_rfl)
theorem n2_165 : Num 2 165 8 := n_run (by kernel_rfl)
end Go.Proofs.YthkpeakeoepocaaGreatDoor
