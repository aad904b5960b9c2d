/- Values for the runs of the law. -/
import Derived.Test.YtbcjjalhomlaaaaGreatDoorRRXT
namespace Go.Proofs.YtbcjjalhomlaaaaGreatDoorRR
set_option linter.unusedSimpArgs false
set_option linter.unusedVariables false
open Go Go.AL Go.Proofs

def i64 (n : Nat) : AV := .int .i64 (.ofNat n)
def idn (n : Nat) : AV := .vec ((List.range n).map fun i => .vec ((List.range n).map fun j => i64 (if i = j then 1 else 0)) n (some n)) n (some n)
def I3 : AV := .vec [.vec [i64 1, i64 0, i64 0] 3 (some 3), .vec [i64 0, i64 1, i64 0] 3 (some 3), .vec [i64 0, i64 0, i64 1] 3 (some 3)] 3 (some 3)
def I4 : AV := .vec [.vec [i64 1, i64 0, i64 0, i64 0] 4 (some 4), .vec [i64 0, i64 1, i64 0, i64 0] 4 (some 4), .vec [i64 0, i64 0, i64 1, i64 0] 4 (some 4), .vec [i64 0, i64 0, i64 0, i64 1] 4 (some 4)] 4 (some 4)
def I5 : AV := .vec [.vec [i64 1, i64 0, i64 0, i64 0, i64 0] 5 (some 5), .vec [i64 0, i64 1, i64 0, i64 0, i64 0] 5 (some 5), .vec [i64 0, i64 0, i64 1, i64 0, i64 0] 5 (some 5), .vec [i64 0, i64 0, i64 0, i64 1, i64 0] 5 (some 5), .vec [i64 0, i64 0, i64 0, i64 0, i64 1] 5 (some 5)] 5 (some 5)
def str (l : List UInt8) : AV := .str (ByteArray.mk l.toArray)

def chkStr (r : O) (l : List UInt8) : Bool := match r with
  | some (.str s, []) => decide (s.data.toList = l)
  | _ => false
theorem chkStr_ok {r : O} {l : List UInt8} (h : chkStr r l = true) : r = some (str l, []) := by
  unfold chkStr at h
  split at h
  · rename_i s
    simp only [decide_eq_true_eq] at h
    cases s with
    | mk a => cases a with
      | mk d =>
        have h : d = _ := h
        subst h
        rfl
  · simp at h
theorem str_run {n f : Nat} {args : List AV} {l : List UInt8} (h : chkStr (frun (exT T n) f args []) l = true) : Ret Tryz.prog G f args [] (str l) [] := run_ok (chkStr_ok h)

end Go.Proofs.YtbcjjalhomlaaaaGreatDoorRR
