/- An evaluator on abstract values, for closed calls. -/
import Derived.Test.YtgkpcjahopacjaaGreatDoorAL25
namespace Go.AL
set_option linter.unusedSimpArgs false
set_option linter.unusedVariables false
open Go

inductive BT (α : Type) where
  | lf
  | nd (v : α) (l r : BT α)

section
variable {α : Type}

def BT.get (d : α) : BT α → Nat → α
  | .lf, _ => d
  | .nd v l r, n => match n with
    | 0 => v
    | n + 1 => match n % 2 with
      | 0 => l.get d (n / 2)
      | _ + 1 => r.get d (n / 2)

def BT.one (d : α) (x : α) : Nat → Nat → BT α
  | 0, _ => .lf
  | f + 1, n => match n with
    | 0 => .nd x .lf .lf
    | n + 1 => match n % 2 with
      | 0 => .nd d (one d x f (n / 2)) .lf
      | _ + 1 => .nd d .lf (one d x f (n / 2))

def BT.set (d : α) (x : α) : BT α → Nat → BT α
  | .lf, n => BT.one d x (n + 1) n
  | .nd v l r, n => match n with
    | 0 => .nd x l r
    | n + 1 => match n % 2 with
      | 0 => .nd v (l.set d x (n / 2)) r
      | _ + 1 => .nd v l (r.set d x (n / 2))

theorem BT.get_one (d x : α) : ∀ (f n m : Nat), n < f → (BT.one d x f n).get d m = if m = n then x else d := by
  intro f
  induction f with
  | zero => intro n m h; omega
  | succ f ih =>
    intro n m h
    cases n with
    | zero => cases m with
      | zero => simp [BT.one, BT.get]
      | succ m => simp only [BT.one, BT.get]; split <;> simp [BT.get]
    | succ n =>
      cases m with
      | zero => simp only [BT.one]; split <;> simp [BT.get]
      | succ m =>
        simp only [BT.one]
        split
        · rename_i h1
          simp only [BT.get]
          split
          · rename_i h2; rw [ih _ _ (by omega)]; congr 1; apply propext; omega
          · rename_i h2; rw [if_neg (by omega)]
        · rename_i k h1
          simp only [BT.get]
          split
          · rename_i h2; rw [if_neg (by omega)]
          · rename_i h2; rw [ih _ _ (by omega)]; congr 1; apply propext; omega

theorem BT.get_set (d x : α) : ∀ (t : BT α) (n m : Nat), (t.set d x n).get d m = if m = n then x else t.get d m := by
  intro t
  induction t with
  | lf => intro n m; simp only [BT.set]; rw [BT.get_one _ _ _ _ _ (by omega)]; simp [BT.get]
  | nd v l r ihl ihr =>
    intro n m
    cases n with
    | zero => cases m with
      | zero => simp [BT.set, BT.get]
      | succ m => simp [BT.set, BT.get]
    | succ n =>
      cases m with
      | zero => simp only [BT.set]; split <;> simp [BT.get]
      | succ m =>
        simp only [BT.set]
        split
        · rename_i h1
          simp only [BT.get]
          split
          · rename_i h2; rw [ihl]; congr 1; apply propext; omega
          · rename_i h2; rw [if_neg (by omega)]
        · rename_i k h1
          simp only [BT.get]
          split
          · rename_i h2; rw [if_neg (by omega)]
          · rename_i h2; rw [ihr]; congr 1; apply propext; omega

def BT.all (p : Nat → α → Prop) : BT α → Prop
  | .lf => True
  | .nd v l r => p 0 v ∧ l.all (fun n => p (2 * n + 1)) ∧ r.all (fun n => p (2 * n + 2))

end

abbrev ET := BT AV
def BT.env (E : ET) : Env := fun n => E.get .junk n
def ET.setO (E : ET) : Option Nat → AV → ET
  | none, _ => E
  | some d, v => E.set .junk v d

theorem env_setO (E : ET) (d : Option Nat) (v : AV) : (ET.setO E d v).env = updO E.env d v := by
  cases d with
  | none => rfl
  | some d => funext t; simp only [ET.setO, BT.env, BT.get_set, updO, upd]

abbrev CRes := AV × Eff × List Nat × Nat
abbrev Caller := FuncId → List AV → Heap → Option CRes
abbrev Out := Option (Exit × ET × Heap)

def padH (H : Heap) : Nat → Heap
  | 0 => H
  | c + 1 => H ++ List.replicate (c + 1) none

theorem padH_eq (H : Heap) (c : Nat) : padH H c = H ++ List.replicate c none := by cases c <;> simp [padH]

section
variable {P : Program} {ok : FuncId → Bool} {Γ : Glob} {n0 nt : Nat}

end
end Go.AL
