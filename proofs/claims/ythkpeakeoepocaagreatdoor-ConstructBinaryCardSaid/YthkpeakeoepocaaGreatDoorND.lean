/- construct.Number at some determinants, by the kernel (gennb.py). -/
import Derived.Test.YthkpeakeoepocaaGreatDoorBTN
namespace Go.Proofs.YthkpeakeoepocaaGreatDoor
set_option linter.unusedSimpArgs false
set_option linter.unusedVariables false
open Go Go.AL Go.Proofs
set_option maxRecDepth 1000000
theorem n2_17 : Num 2 17 3 := n_run (by kernel_rfl)
theorem n2_29 : Num 2 29 4 := n_run (by kernel_rfl)
theorem n2_36 : Num 2 36 7 := n_run (by kernel_rfl)
theorem n2_68 : Num 2 68 8 := n_run (by kernel_rfl)
theorem n2_79 : Num 2 79 6 := n_run (by kernel_rfl)
theorem n2_109 : Num 2 109 4 := n_run (by kernel_rfl)
theorem n2_111 : Num 2 111 10 := n_run (by kernel_rfl)
theorem n2_134 : Num 2 134 8 := n_run (by kernel_rfl)
theorem n2_144 : Num 2 144 15 := n_run (by kernel_rfl)
theorem n2_169 : Num 2 169 5 := n_run (by kernel_rfl)
theorem n2_178 : Num 2 178 5 := n_run (by kernel_rfl)
theorem n2_199 : Num 2 199 10 := n_run (by kernel_rfl)
end Go.Proofs.YthkpeakeoepocaaGreatDoor

/- construct.Number at some determinants, by the kernel (gennb.py). -/
namespace Go.Proofs.YthkpeakeoepocaaGreatDoor
set_option linter.unusedSimpArgs false
set_option linter.unusedVariables false
open Go Go.AL Go.Proofs
set_option maxRecDepth 1000000
theorem n2_8 : Num 2 8 3 := n_run (by kernel_rfl)
theorem n2_21 : Num 2 21 4 := n_run (by kernel_rfl)
theorem n2_56 : Num 2 56 9 := n_run (by kernel_rfl)
theorem n2_66 : Num 2 66 6 := n_run (by kernel_rfl)
theorem n2_85 : Num 2 85 4 := n_run (by kernel_rfl)
theorem n2_121 : Num 2 121 5 := n_run (by kernel_rfl)
theorem n2_128 : Num 2 128 11 := n_run (by kernel_rfl)
theorem n2_140 : Num 2 140 14 := n_run (by kernel_rfl)
theorem n2_141 : Num 2 141 6 := n_run (by kernel_rfl)
theorem n2_153 : Num 2 153 9 := n_run (by kernel_rfl)
theorem n2_172 : Num 2 172 7 := n_run (by kernel_rfl)
theorem n3_1 : Num 3 1 1 := n_run (by kernel_rfl)
end Go.Proofs.YthkpeakeoepocaaGreatDoor

/- construct.Number at some determinants, by the kernel (gennb.py). -/
namespace Go.Proofs.YthkpeakeoepocaaGreatDoor
set_option linter.unusedSimpArgs false
set_option linter.unusedVariables false
open Go Go.AL Go.Proofs
set_option maxRecDepth 1000000
theorem n2_6 : Num 2 6 2 := n_run (by kernel_rfl)
theorem n2_51 : Num 2 51 6 := n_run (by kernel_rfl)
theorem n2_52 : Num 2 52 5 := n_run (by kernel_rfl)
theorem n2_57 : Num 2 57 4 := n_run (by kernel_rfl)
theorem n2_73 : Num 2 73 3 := n_run (by kernel_rfl)
theorem n2_100 : Num 2 100 7 := n_run (by kernel_rfl)
theorem n2_110 : Num 2 110 8 := n_run (by kernel_rfl)
theorem n2_122 : Num 2 122 6 := n_run (by kernel_rfl)
theorem n2_143 : Num 2 143 12 := n_run (by kernel_rfl)
theorem n2_174 : Num 2 174 8 := n_run (by kernel_rfl)
theorem n2_183 : Num 2 183 10 := n_run (by kernel_rfl)
theorem n2_188 : Num 2 188 12 := n_run (by kernel_rfl)
theorem n2_193 : Num 2 193 3 := n_run (by kernel_rfl)
end Go.Proofs.YthkpeakeoepocaaGreatDoor

/- construct.Number at some determinants, by the kernel (gennb.py). -/
namespace Go.Proofs.YthkpeakeoepocaaGreatDoor
set_option linter.unusedSimpArgs false
set_option linter.unusedVariables false
open Go Go.AL Go.Proofs
set_option maxRecDepth 1000000
theorem n2_2 : Num 2 2 1 := n_run (by kernel_rfl)
theorem n2_20 : Num 2 20 5 := n_run (by kernel_rfl)
theorem n2_34 : Num 2 34 3 := n_run (by kernel_rfl)
theorem n2_38 : Num 2 38 4 := n_run (by kernel_rfl)
theorem n2_39 : Num 2 39 6 := n_run (by kernel_rfl)
theorem n2_76 : Num 2 76 7 := n_run (by kernel_rfl)
theorem n2_82 : Num 2 82 3 := n_run (by kernel_rfl)
theorem n2_90 : Num 2 90 8 := n_run (by kernel_rfl)
theorem n2_98 : Num 2 98 6 := n_run (by kernel_rfl)
theorem n2_104 : Num 2 104 12 := n_run (by kernel_rfl)
theorem n2_132 : Num 2 132 10 := n_run (by kernel_rfl)
theorem n2_151 : Num 2 151 8 := n_run (by kernel_rfl)
theorem n2_159 : Num 2 159 12 := n_run (by kernel_rfl)
end Go.Proofs.YthkpeakeoepocaaGreatDoor
