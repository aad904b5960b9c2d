/- construct.Number at the examples of the law's sanity check, by the evaluator. -/
import Derived.Test.YthkpeakeoepocaaGreatDoorXT
namespace Go.Proofs.YthkpeakeoepocaaGreatDoor
set_option linter.unusedSimpArgs false
set_option linter.unusedVariables false
open Go Go.AL Go.Proofs
set_option maxRecDepth 1000000
def i64 (n : Nat) : AV := .int .i64 (.ofNat n)
def chkN (r : O) (m : Nat) : Bool := match r with
  | some (.tup [.int .i64 (.ofNat k), .int .i64 (.ofNat 0)], []) => Nat.beq k m
  | _ => false
theorem chkN_ok {r : O} {m : Nat} (h : chkN r m = true) : r = some (.tup [i64 m, i64 0], []) := by
  unfold chkN at h
  split at h
  · rw [Nat.beq_eq] at h
    subst h
    rfl
  · simp at h
theorem n_run {n f : Nat} {args : List AV} {m : Nat} (h : chkN (frun (exT T n) f args []) m = true) : Ret Tryz.prog G f args [] (.tup [i64 m, i64 0]) [] := run_ok (chkN_ok h)
theorem c25 : chkN (frun (exT T 1000) 9 [i64 2, i64 5] []) 2 = true := by kernel_rfl
theorem num25 : Ret Tryz.prog G 9 [i64 2, i64 5] [] (.tup [i64 2, i64 0]) [] := n_run c25
theorem c31 : chkN (frun (exT T 1000) 9 [i64 3, i64 1] []) 1 = true := by kernel_rfl
theorem num31 : Ret Tryz.prog G 9 [i64 3, i64 1] [] (.tup [i64 1, i64 0]) [] := n_run c31
end Go.Proofs.YthkpeakeoepocaaGreatDoor
