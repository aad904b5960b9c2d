/- Entries of the evaluator by a table of results that are proved one by one. -/
import Derived.Test.YthkpeakeoepocaaGreatDoorAL55
namespace Go.AL
set_option linter.unusedSimpArgs false
set_option linter.unusedVariables false
open Go

def memoF : List (List AV × AV) → List AV → Option AV
  | [], _ => none
  | (a, v) :: r, args => match eqL2 (eqA2 8) a args with
    | true => some v
    | false => memoF r args
def memoK (l : List (List AV × AV)) (args : List AV) (H : Heap) : O := match H with
  | [] => match memoF l args with
    | some v => some (v, [])
    | none => none
  | _ :: _ => none

section
variable {P : Program} {Γ : Glob} {ok : FuncId → Bool} {f : FuncId}

def MemoOK (P : Program) (Γ : Glob) (f : FuncId) : List (List AV × AV) → Prop
  | [] => True
  | m :: r => Ret P Γ f m.1 [] m.2 [] ∧ MemoOK P Γ f r

theorem memoF_ok : ∀ (l : List (List AV × AV)) (args : List AV) (v : AV), MemoOK P Γ f l → memoF l args = some v → Ret P Γ f args [] v [] := by
  intro l
  induction l with
  | nil => intro args v _ h; simp [memoF] at h
  | cons m r ih =>
    obtain ⟨a, v0⟩ := m
    intro args v hm h
    simp only [memoF] at h
    split at h
    · rename_i he
      simp only [Option.some.injEq] at h
      subst h
      have := eqL2_eq (eqA2_eq 8) a args he
      subst this
      exact hm.1
    · exact ih args v hm.2 h

theorem memo_ok {l : List (List AV × AV)} (hl : MemoOK P Γ f l) : EOT P Γ ok f (.known (memoK l)) := by
  intro args H v H' h
  unfold memoK at h
  split at h
  · split at h
    · rename_i v0 hv
      simp only [Option.some.injEq, Prod.mk.injEq] at h
      obtain ⟨rfl, rfl⟩ := h
      exact memoF_ok l args _ hl hv
    · simp at h
  · simp at h

theorem MemoOK.append : ∀ (l r : List (List AV × AV)), MemoOK P Γ f l → MemoOK P Γ f r → MemoOK P Γ f (l ++ r) := by
  intro l
  induction l with
  | nil => intro r _ h; exact h
  | cons m l ih => intro r h h'; exact ⟨h.1, ih r h.2 h'⟩

end
end Go.AL
