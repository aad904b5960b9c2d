/- The table of the counts. -/
import Derived.Test.YtbcjjalhomlaaaaGreatDoorRRKRA
import Derived.Test.YtbcjjalhomlaaaaGreatDoorRRKRB
namespace Go.Proofs.YtbcjjalhomlaaaaGreatDoorRR
set_option linter.unusedSimpArgs false
set_option linter.unusedVariables false
open Go Go.AL Go.Proofs
set_option maxRecDepth 1000000
noncomputable def eqG (a b : List (List Nat)) : Bool :=
  List.rec (motive := fun _ => List (List Nat) → Bool) (fun m => List.rec (motive := fun _ => Bool) true (fun _ _ _ => false) m) (fun a _ ih m => List.rec (motive := fun _ => List Nat → (List (List Nat) → Bool) → Bool) (fun _ _ => false) (fun b r _ a ih => Bool.rec (motive := fun _ => Bool → Bool) (fun _ => false) (fun x => x) (eqL a b) (ih r)) m a ih) a b
theorem eqG_ok : ∀ {l m : List (List Nat)}, eqG l m = true → l = m := by
  intro l
  induction l with
  | nil => intro m h; cases m with
    | nil => rfl
    | cons b r => exact absurd (show false = true from h) (by simp)
  | cons a l ih =>
    intro m h
    cases m with
    | nil => exact absurd (show false = true from h) (by simp)
    | cons b r =>
      have h : Bool.rec (motive := fun _ => Bool → Bool) (fun _ => false) (fun x => x) (eqL a b) (eqG l r) = true := h
      cases hb : eqL a b with
      | false => rw [hb] at h; exact absurd (show false = true from h) (by simp)
      | true => rw [hb] at h; rw [eqL_ok hb, ih h]
noncomputable def andB (a b : Bool) : Bool := Bool.rec (motive := fun _ => Bool → Bool) (fun _ => false) (fun b => b) a b
theorem andB_ok {a b : Bool} (h : andB a b = true) : a = true ∧ b = true := by cases a <;> cases b <;> first | exact ⟨rfl, rfl⟩ | exact absurd (show false = true from h) (by simp)
/-- The counts: out of the table, or by the rounds. -/
noncomputable def cntK (g : List (List Nat)) (n M : Nat) (k : List Nat → O) : O :=
  bsel (andB (Nat.beq n 3) (andB (Nat.beq M 32) (eqG g G3_32))) (k [256, 1536, 1536, 1024, 768, 1536, 1536, 0, 768, 1536, 1536, 1024, 512, 1536, 1536, 0, 256, 1536, 1536, 1024, 768, 1536, 1536, 0, 768, 1536, 1536, 1024, 0, 1536, 1536, 0]) (bsel (andB (Nat.beq n 3) (andB (Nat.beq M 27) (eqG g G3_27))) (k [891, 486, 972, 648, 486, 972, 648, 486, 972, 810, 486, 972, 648, 486, 972, 648, 486, 972, 972, 486, 972, 648, 486, 972, 648, 486, 972]) (bsel (andB (Nat.beq n 4) (andB (Nat.beq M 8) (eqG g G4_8))) (k [128, 512, 768, 512, 384, 512, 768, 512]) (bsel (andB (Nat.beq n 5) (andB (Nat.beq M 8) (eqG g G5_8))) (k [3072, 2560, 5120, 5120, 3072, 3584, 5120, 5120]) (runK g n M (nat_lit 10000000) (List.replicate M 0) 0 (List.replicate n 0) (List.replicate n 0) k))))
theorem cntK_inv {g : List (List Nat)} {n M : Nat} {k : List Nat → O} {R : AV × Heap} (h : cntK g n M k = some R) : ∃ fin, runC g n M 10000000 (List.replicate M 0) 0 (List.replicate n 0) (List.replicate n 0) = some fin ∧ k fin = some R := by
  unfold cntK at h
  rcases bsel_inv h with ⟨hb, h⟩ | h
  · obtain ⟨h1, h2⟩ := andB_ok hb
    obtain ⟨h2, h3⟩ := andB_ok h2
    have e1 := Nat.eq_of_beq_eq_true h1
    have e2 := Nat.eq_of_beq_eq_true h2
    have e3 := eqG_ok h3
    subst e1 e2 e3
    exact ⟨_, x3_32_0, h⟩
  rcases bsel_inv h with ⟨hb, h⟩ | h
  · obtain ⟨h1, h2⟩ := andB_ok hb
    obtain ⟨h2, h3⟩ := andB_ok h2
    have e1 := Nat.eq_of_beq_eq_true h1
    have e2 := Nat.eq_of_beq_eq_true h2
    have e3 := eqG_ok h3
    subst e1 e2 e3
    exact ⟨_, x3_27_0, h⟩
  rcases bsel_inv h with ⟨hb, h⟩ | h
  · obtain ⟨h1, h2⟩ := andB_ok hb
    obtain ⟨h2, h3⟩ := andB_ok h2
    have e1 := Nat.eq_of_beq_eq_true h1
    have e2 := Nat.eq_of_beq_eq_true h2
    have e3 := eqG_ok h3
    subst e1 e2 e3
    exact ⟨_, x4_8_0, h⟩
  rcases bsel_inv h with ⟨hb, h⟩ | h
  · obtain ⟨h1, h2⟩ := andB_ok hb
    obtain ⟨h2, h3⟩ := andB_ok h2
    have e1 := Nat.eq_of_beq_eq_true h1
    have e2 := Nat.eq_of_beq_eq_true h2
    have e3 := eqG_ok h3
    subst e1 e2 e3
    exact ⟨_, x5_8_0, h⟩
  exact runK_inv g n M h
end Go.Proofs.YtbcjjalhomlaaaaGreatDoorRR
