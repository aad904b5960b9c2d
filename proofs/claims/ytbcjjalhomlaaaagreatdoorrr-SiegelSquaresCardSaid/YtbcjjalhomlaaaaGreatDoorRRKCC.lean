/- The rounds of siegel.count in portions. -/
import Derived.Test.YtbcjjalhomlaaaaGreatDoorRRKCE
namespace Go.Proofs.YtbcjjalhomlaaaaGreatDoorRR
set_option linter.unusedSimpArgs false
set_option linter.unusedVariables false
open Go Go.AL Go.Proofs
set_option maxRecDepth 100000

section
variable (g : List (List Nat)) (n M : Nat)

/-- m rounds, none of which is the last. -/
def runTo : Nat → List Nat → Nat → List Nat → List Nat → Option (List Nat × Nat × List Nat × List Nat)
  | 0, cts, norm, inner, x => some (cts, norm, inner, x)
  | f + 1, cts, norm, inner, x => match bump g n M n 0 norm inner x with
    | none => none
    | some (norm', inner', x') => runTo f (cts.set norm (cts.getD norm 0 + 1)) norm' inner' x'

theorem runC_to {f : Nat} {cts' : List Nat} {norm' : Nat} {inner' x' : List Nat} : ∀ {m : Nat} {cts : List Nat} {norm : Nat} {inner x : List Nat}, runTo g n M m cts norm inner x = some (cts', norm', inner', x') →
    runC g n M (f + m) cts norm inner x = runC g n M f cts' norm' inner' x' := by
  intro m
  induction m with
  | zero =>
    intro cts norm inner x h
    simp only [runTo, Option.some.injEq, Prod.mk.injEq] at h
    obtain ⟨rfl, rfl, rfl, rfl⟩ := h
    rfl
  | succ m ih =>
    intro cts norm inner x h
    simp only [runTo] at h
    split at h
    · simp at h
    · rename_i a b c hb
      show runC g n M ((f + m) + 1) cts norm inner x = _
      simp only [runC, hb]
      exact ih h

noncomputable def toK (f : Nat) : List Nat → Nat → List Nat → List Nat → (List Nat → Nat → List Nat → List Nat → O) → O :=
  Nat.rec (motive := fun _ => List Nat → Nat → List Nat → List Nat → (List Nat → Nat → List Nat → List Nat → O) → O) (fun cts norm inner x k => k cts norm inner x)
    (fun _ ih cts norm inner x k => incK cts norm fun cts => bumpK g n M n 0 norm inner x none fun norm inner x => ih cts norm inner x k) f
theorem toK_inv {k : List Nat → Nat → List Nat → List Nat → O} {R : AV × Heap} : ∀ {f : Nat} {cts : List Nat} {norm : Nat} {inner x : List Nat}, toK g n M f cts norm inner x k = some R →
    ∃ c' a' b' x', runTo g n M f cts norm inner x = some (c', a', b', x') ∧ k c' a' b' x' = some R := by
  intro f
  induction f with
  | zero => intro cts norm inner x h; exact ⟨_, _, _, _, rfl, h⟩
  | succ f ih =>
    intro cts norm inner x h
    have h := incK_inv (show incK cts norm (fun cts => bumpK g n M n 0 norm inner x none fun norm inner x => toK g n M f cts norm inner x k) = some R from h)
    rcases bumpK_inv g n M h with ⟨hb, h⟩ | ⟨norm', inner', x', hb, h⟩
    · simp at h
    · obtain ⟨c', a', b', x'', h1, h2⟩ := ih h
      exact ⟨c', a', b', x'', by simp only [runTo, hb]; exact h1, h2⟩

noncomputable def eqL (l m : List Nat) : Bool :=
  List.rec (motive := fun _ => List Nat → Bool) (fun m => List.rec (motive := fun _ => Bool) true (fun _ _ _ => false) m) (fun a _ ih m => List.rec (motive := fun _ => Nat → (List Nat → Bool) → Bool) (fun _ _ => false) (fun b r _ a ih => Bool.rec (motive := fun _ => Bool → Bool) (fun _ => false) (fun x => x) (Nat.beq a b) (ih r)) m a ih) l m
theorem eqL_ok : ∀ {l m : List Nat}, eqL l m = true → l = m := by
  intro l
  induction l with
  | nil => intro m h; cases m with
    | nil => rfl
    | cons b r => exact absurd (show false = true from h) (by simp)
  | cons a l ih =>
    intro m h
    cases m with
    | nil => exact absurd (show false = true from h) (by simp)
    | cons b r =>
      have h : Bool.rec (motive := fun _ => Bool → Bool) (fun _ => false) (fun x => x) (Nat.beq a b) (eqL l r) = true := h
      cases hb : Nat.beq a b with
      | false => rw [hb] at h; exact absurd (show false = true from h) (by simp)
      | true => rw [hb] at h; rw [Nat.eq_of_beq_eq_true hb, ih h]

def isJ : O → Bool
  | some _ => true
  | none => false
noncomputable def stepsB (f : Nat) (cts : List Nat) (norm : Nat) (inner x : List Nat) (cts' : List Nat) (norm' : Nat) (inner' x' : List Nat) : Bool :=
  isJ (toK g n M f cts norm inner x fun c a b y => ifK (eqL c cts') (ifK (Nat.beq a norm') (ifK (eqL b inner') (ifK (eqL y x') (some (.junk, []))))))
theorem stepsB_ok {f : Nat} {cts : List Nat} {norm : Nat} {inner x : List Nat} {cts' : List Nat} {norm' : Nat} {inner' x' : List Nat} (h : stepsB g n M f cts norm inner x cts' norm' inner' x' = true) : runTo g n M f cts norm inner x = some (cts', norm', inner', x') := by
  unfold stepsB at h
  cases hr : toK g n M f cts norm inner x (fun c a b y => ifK (eqL c cts') (ifK (Nat.beq a norm') (ifK (eqL b inner') (ifK (eqL y x') (some (.junk, [])))))) with
  | none => rw [hr] at h; simp [isJ] at h
  | some R =>
    obtain ⟨c', a', b', y', h1, h2⟩ := toK_inv g n M hr
    obtain ⟨e1, h2⟩ := ifK_inv h2
    obtain ⟨e2, h2⟩ := ifK_inv h2
    obtain ⟨e3, h2⟩ := ifK_inv h2
    obtain ⟨e4, h2⟩ := ifK_inv h2
    rw [eqL_ok e1, Nat.eq_of_beq_eq_true e2, eqL_ok e3, eqL_ok e4] at h1
    exact h1
noncomputable def endB (f : Nat) (cts : List Nat) (norm : Nat) (inner x : List Nat) (fin : List Nat) : Bool :=
  isJ (runK g n M f cts norm inner x fun c => ifK (eqL c fin) (some (.junk, [])))
theorem endB_ok {f : Nat} {cts : List Nat} {norm : Nat} {inner x : List Nat} {fin : List Nat} (h : endB g n M f cts norm inner x fin = true) : runC g n M f cts norm inner x = some fin := by
  unfold endB at h
  cases hr : runK g n M f cts norm inner x (fun c => ifK (eqL c fin) (some (.junk, []))) with
  | none => rw [hr] at h; simp [isJ] at h
  | some R =>
    obtain ⟨c', h1, h2⟩ := runK_inv g n M hr
    obtain ⟨e1, h2⟩ := ifK_inv h2
    rw [eqL_ok e1] at h1
    exact h1
end

def gI (n : Nat) : List (List Nat) := (List.range n).map fun i => (List.range n).map fun j => if i = j then 1 else 0
end Go.Proofs.YtbcjjalhomlaaaaGreatDoorRR
