/- The base of the threaded code: the globals, the functions that stand behind function values. -/
import Derived.Test.YthkpeakeoepocaaGreatDoorAL35
import Derived.Test.YthkpeakeoepocaaGreatDoorProg
import Derived.KernelRfl
namespace Go.Proofs.YthkpeakeoepocaaGreatDoor
set_option linter.unusedSimpArgs false
set_option linter.unusedVariables false
open Go Go.AL Go.Proofs
set_option maxRecDepth 100000
def G : Glob := [(0, [.int .i64 1, .int .i64 3, .int .i64 9, .int .i64 27])]
theorem mixed : Tryz.prog.follows .mixedOrders = true := by kernel_rfl
def okS : List Nat := [67, 111, 116, 122, 160, 161, 172, 173, 197]
def okB (f : Nat) : Bool := hasN okS f
theorem okB_all : (okS.all fun f => okFn Tryz.prog f) = true := by kernel_rfl
theorem okB_ok : ∀ f, okB f = true → okFn Tryz.prog f = true := fun f h => List.all_eq_true.1 okB_all f (hasN_mem _ _ h)
end Go.Proofs.YthkpeakeoepocaaGreatDoor
