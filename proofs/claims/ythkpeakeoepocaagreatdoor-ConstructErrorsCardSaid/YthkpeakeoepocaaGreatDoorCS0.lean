/- The compiled code of some functions, by program (gencode.py). -/
import Derived.Test.YthkpeakeoepocaaGreatDoorAL24
import Derived.Test.YthkpeakeoepocaaGreatDoorXB
import Derived.KernelRfl

namespace Go.Proofs.YthkpeakeoepocaaGreatDoor
set_option linter.unusedSimpArgs false
set_option linter.unusedVariables false
open Go Go.AL Go.Proofs
set_option maxRecDepth 100000
-- slices.Clone[[]uint32,uint32] (function 171)
def r171_0 : List COp := [⟨(some 2), none, (.mov (.k (.vec [] 0 (some 0))))⟩]
def r171_1 : List COp := [⟨(some 3), none, (.mov (.t 0))⟩, ⟨(some 4), none, (.snil false (.t 3))⟩]
def r171_2 : List COp := [⟨(some 2), none, (.mov (.k (.vec [] 0 (some 0))))⟩]
def r171_3 : List COp := [⟨(some 5), none, (.bsl 0 1 [] [])⟩, ⟨(some 6), none, (.mov (.t 0))⟩, ⟨(some 7), none, (.append 1 4 (.t 5) (.t 6))⟩, ⟨(some 2), none, (.mov (.t 7))⟩]
def c171 : CC := (.seq (.reg r171_0 none) (.seq (.seq (.reg r171_1 none) (.cond (.t 4) (.seq (.reg r171_2 none) .ret) .skip)) (.seq (.reg r171_3 none) .ret)))
theorem comp171 : Tryz.f171.body.bind (compC Tryz.prog G Tryz.f171.ntmps) = some c171 := by kernel_rfl
theorem res171 : Tryz.f171.results.toList = [(.tmp 2)] := by kernel_rfl
end Go.Proofs.YthkpeakeoepocaaGreatDoor
