/- construct.Number at some determinants, by the kernel (gennb.py). -/
import Derived.Test.YthkpeakeoepocaaGreatDoorBTN
namespace Go.Proofs.YthkpeakeoepocaaGreatDoor
set_option linter.unusedSimpArgs false
set_option linter.unusedVariables false
open Go Go.AL Go.Proofs
set_option maxRecDepth 1000000
theorem n2_1 : Num 2 1 1 := n_run (by kernel_rfl)
theorem n2_25 : Num 2 25 3 := n_run (by kernel_rfl)
theorem n2_33 : Num 2 33 4 := n_run (by kernel_rfl)
theorem n2_35 : Num 2 35 6 := n_run (by kernel_rfl)
theorem n2_64 : Num 2 64 7 := n_run (by kernel_rfl)
theorem n2_87 : Num 2 87 8 := n_run (by kernel_rfl)
theorem n2_91 : Num 2 91 6 := n_run (by kernel_rfl)
theorem n2_116 : Num 2 116 11 := n_run (by kernel_rfl)
theorem n2_133 : Num 2 133 4 := n_run (by kernel_rfl)
theorem n2_136 : Num 2 136 9 := n_run (by kernel_rfl)
theorem n2_150 : Num 2 150 8 := n_run (by kernel_rfl)
theorem n2_190 : Num 2 190 4 := n_run (by kernel_rfl)
theorem n2_200 : Num 2 200 15 := n_run (by kernel_rfl)
end Go.Proofs.YthkpeakeoepocaaGreatDoor

/- construct.Number at some determinants, by the kernel (gennb.py). -/
namespace Go.Proofs.YthkpeakeoepocaaGreatDoor
set_option linter.unusedSimpArgs false
set_option linter.unusedVariables false
open Go Go.AL Go.Proofs
set_option maxRecDepth 1000000
theorem n2_14 : Num 2 14 3 := n_run (by kernel_rfl)
theorem n2_28 : Num 2 28 4 := n_run (by kernel_rfl)
theorem n2_63 : Num 2 63 8 := n_run (by kernel_rfl)
theorem n2_77 : Num 2 77 6 := n_run (by kernel_rfl)
theorem n2_95 : Num 2 95 10 := n_run (by kernel_rfl)
theorem n2_106 : Num 2 106 4 := n_run (by kernel_rfl)
theorem n2_129 : Num 2 129 8 := n_run (by kernel_rfl)
theorem n2_158 : Num 2 158 5 := n_run (by kernel_rfl)
theorem n2_166 : Num 2 166 6 := n_run (by kernel_rfl)
theorem n2_192 : Num 2 192 14 := n_run (by kernel_rfl)
theorem n2_194 : Num 2 194 11 := n_run (by kernel_rfl)
theorem n2_197 : Num 2 197 6 := n_run (by kernel_rfl)
end Go.Proofs.YthkpeakeoepocaaGreatDoor

/- construct.Number at some determinants, by the kernel (gennb.py). -/
namespace Go.Proofs.YthkpeakeoepocaaGreatDoor
set_option linter.unusedSimpArgs false
set_option linter.unusedVariables false
open Go Go.AL Go.Proofs
set_option maxRecDepth 1000000
theorem n2_13 : Num 2 13 2 := n_run (by kernel_rfl)
theorem n2_16 : Num 2 16 4 := n_run (by kernel_rfl)
theorem n2_58 : Num 2 58 2 := n_run (by kernel_rfl)
theorem n2_65 : Num 2 65 6 := n_run (by kernel_rfl)
theorem n2_78 : Num 2 78 4 := n_run (by kernel_rfl)
theorem n2_96 : Num 2 96 12 := n_run (by kernel_rfl)
theorem n2_113 : Num 2 113 5 := n_run (by kernel_rfl)
theorem n2_124 : Num 2 124 8 := n_run (by kernel_rfl)
theorem n2_138 : Num 2 138 6 := n_run (by kernel_rfl)
theorem n2_146 : Num 2 146 9 := n_run (by kernel_rfl)
theorem n2_162 : Num 2 162 7 := n_run (by kernel_rfl)
theorem n2_171 : Num 2 171 13 := n_run (by kernel_rfl)
theorem n2_198 : Num 2 198 8 := n_run (by kernel_rfl)
end Go.Proofs.YthkpeakeoepocaaGreatDoor

/- construct.Number at some determinants, by the kernel (gennb.py). -/
namespace Go.Proofs.YthkpeakeoepocaaGreatDoor
set_option linter.unusedSimpArgs false
set_option linter.unusedVariables false
open Go Go.AL Go.Proofs
set_option maxRecDepth 1000000
theorem n2_5 : Num 2 5 2 := n_run (by kernel_rfl)
theorem n2_47 : Num 2 47 6 := n_run (by kernel_rfl)
theorem n2_50 : Num 2 50 5 := n_run (by kernel_rfl)
theorem n2_53 : Num 2 53 4 := n_run (by kernel_rfl)
theorem n2_67 : Num 2 67 3 := n_run (by kernel_rfl)
theorem n2_89 : Num 2 89 7 := n_run (by kernel_rfl)
theorem n2_105 : Num 2 105 8 := n_run (by kernel_rfl)
theorem n2_115 : Num 2 115 6 := n_run (by kernel_rfl)
theorem n2_135 : Num 2 135 12 := n_run (by kernel_rfl)
theorem n2_163 : Num 2 163 3 := n_run (by kernel_rfl)
theorem n2_168 : Num 2 168 12 := n_run (by kernel_rfl)
theorem n2_173 : Num 2 173 8 := n_run (by kernel_rfl)
theorem n2_175 : Num 2 175 10 := n_run (by kernel_rfl)
end Go.Proofs.YthkpeakeoepocaaGreatDoor
