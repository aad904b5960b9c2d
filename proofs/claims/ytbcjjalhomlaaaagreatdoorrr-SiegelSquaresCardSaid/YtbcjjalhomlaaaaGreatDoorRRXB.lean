/- The base of the threaded code: the globals, the functions that stand behind function values. -/
import Derived.Test.YtbcjjalhomlaaaaGreatDoorRRAL35
import Derived.Test.YtbcjjalhomlaaaaGreatDoorRRProg
import Derived.KernelRfl
namespace Go.Proofs.YtbcjjalhomlaaaaGreatDoorRR
set_option linter.unusedSimpArgs false
set_option linter.unusedVariables false
open Go Go.AL Go.Proofs
set_option maxRecDepth 100000
def G : Glob := [(0, [.int .i64 7, .int .i64 11, .int .i64 13, .int .i64 17, .int .i64 19, .int .i64 23, .int .i64 29, .int .i64 31])]
theorem mixed : Tryz.prog.follows .mixedOrders = true := by kernel_rfl
def okS : List Nat := [65, 75]
def okB (f : Nat) : Bool := hasN okS f
theorem okB_all : (okS.all fun f => okFn Tryz.prog f) = true := by kernel_rfl
theorem okB_ok : ∀ f, okB f = true → okFn Tryz.prog f = true := fun f h => List.all_eq_true.1 okB_all f (hasN_mem _ _ h)
end Go.Proofs.YtbcjjalhomlaaaaGreatDoorRR
