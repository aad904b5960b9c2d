/- Strict primitives in continuation style, which the kernel runs fast: 16-ary nodes for environments and tables, cases on values, lists. -/
import Derived.Test.YtgkpcjahopacjaaGreatDoorAL27
namespace Go.AL
set_option linter.unusedSimpArgs false
set_option linter.unusedVariables false
open Go

theorem blt_t {n m : Nat} : Nat.blt n m = true ↔ n < m := by
  unfold Nat.blt
  rw [Nat.ble_eq]
  exact Iff.rfl

structure N16 (α : Type) where
  a0 : α
  a1 : α
  a2 : α
  a3 : α
  a4 : α
  a5 : α
  a6 : α
  a7 : α
  a8 : α
  a9 : α
  a10 : α
  a11 : α
  a12 : α
  a13 : α
  a14 : α
  a15 : α

section
variable {α : Type}

def N16.toL (t : N16 α) : List α := [t.a0, t.a1, t.a2, t.a3, t.a4, t.a5, t.a6, t.a7, t.a8, t.a9, t.a10, t.a11, t.a12, t.a13, t.a14, t.a15]
noncomputable def N16.nth (t : N16 α) (n : Nat) : α := (Nat.rec (motive := fun _ => α) t.a0 (fun n _ => (Nat.rec (motive := fun _ => α) t.a1 (fun n _ => (Nat.rec (motive := fun _ => α) t.a2 (fun n _ => (Nat.rec (motive := fun _ => α) t.a3 (fun n _ => (Nat.rec (motive := fun _ => α) t.a4 (fun n _ => (Nat.rec (motive := fun _ => α) t.a5 (fun n _ => (Nat.rec (motive := fun _ => α) t.a6 (fun n _ => (Nat.rec (motive := fun _ => α) t.a7 (fun n _ => (Nat.rec (motive := fun _ => α) t.a8 (fun n _ => (Nat.rec (motive := fun _ => α) t.a9 (fun n _ => (Nat.rec (motive := fun _ => α) t.a10 (fun n _ => (Nat.rec (motive := fun _ => α) t.a11 (fun n _ => (Nat.rec (motive := fun _ => α) t.a12 (fun n _ => (Nat.rec (motive := fun _ => α) t.a13 (fun n _ => (Nat.rec (motive := fun _ => α) t.a14 (fun n _ => t.a15) n)) n)) n)) n)) n)) n)) n)) n)) n)) n)) n)) n)) n)) n)) n)
def N16.put (t : N16 α) (x : α) : Nat → N16 α
  | 0 => ⟨x, t.a1, t.a2, t.a3, t.a4, t.a5, t.a6, t.a7, t.a8, t.a9, t.a10, t.a11, t.a12, t.a13, t.a14, t.a15⟩
  | 1 => ⟨t.a0, x, t.a2, t.a3, t.a4, t.a5, t.a6, t.a7, t.a8, t.a9, t.a10, t.a11, t.a12, t.a13, t.a14, t.a15⟩
  | 2 => ⟨t.a0, t.a1, x, t.a3, t.a4, t.a5, t.a6, t.a7, t.a8, t.a9, t.a10, t.a11, t.a12, t.a13, t.a14, t.a15⟩
  | 3 => ⟨t.a0, t.a1, t.a2, x, t.a4, t.a5, t.a6, t.a7, t.a8, t.a9, t.a10, t.a11, t.a12, t.a13, t.a14, t.a15⟩
  | 4 => ⟨t.a0, t.a1, t.a2, t.a3, x, t.a5, t.a6, t.a7, t.a8, t.a9, t.a10, t.a11, t.a12, t.a13, t.a14, t.a15⟩
  | 5 => ⟨t.a0, t.a1, t.a2, t.a3, t.a4, x, t.a6, t.a7, t.a8, t.a9, t.a10, t.a11, t.a12, t.a13, t.a14, t.a15⟩
  | 6 => ⟨t.a0, t.a1, t.a2, t.a3, t.a4, t.a5, x, t.a7, t.a8, t.a9, t.a10, t.a11, t.a12, t.a13, t.a14, t.a15⟩
  | 7 => ⟨t.a0, t.a1, t.a2, t.a3, t.a4, t.a5, t.a6, x, t.a8, t.a9, t.a10, t.a11, t.a12, t.a13, t.a14, t.a15⟩
  | 8 => ⟨t.a0, t.a1, t.a2, t.a3, t.a4, t.a5, t.a6, t.a7, x, t.a9, t.a10, t.a11, t.a12, t.a13, t.a14, t.a15⟩
  | 9 => ⟨t.a0, t.a1, t.a2, t.a3, t.a4, t.a5, t.a6, t.a7, t.a8, x, t.a10, t.a11, t.a12, t.a13, t.a14, t.a15⟩
  | 10 => ⟨t.a0, t.a1, t.a2, t.a3, t.a4, t.a5, t.a6, t.a7, t.a8, t.a9, x, t.a11, t.a12, t.a13, t.a14, t.a15⟩
  | 11 => ⟨t.a0, t.a1, t.a2, t.a3, t.a4, t.a5, t.a6, t.a7, t.a8, t.a9, t.a10, x, t.a12, t.a13, t.a14, t.a15⟩
  | 12 => ⟨t.a0, t.a1, t.a2, t.a3, t.a4, t.a5, t.a6, t.a7, t.a8, t.a9, t.a10, t.a11, x, t.a13, t.a14, t.a15⟩
  | 13 => ⟨t.a0, t.a1, t.a2, t.a3, t.a4, t.a5, t.a6, t.a7, t.a8, t.a9, t.a10, t.a11, t.a12, x, t.a14, t.a15⟩
  | 14 => ⟨t.a0, t.a1, t.a2, t.a3, t.a4, t.a5, t.a6, t.a7, t.a8, t.a9, t.a10, t.a11, t.a12, t.a13, x, t.a15⟩
  | _ => ⟨t.a0, t.a1, t.a2, t.a3, t.a4, t.a5, t.a6, t.a7, t.a8, t.a9, t.a10, t.a11, t.a12, t.a13, t.a14, x⟩

theorem N16.toL_put (t : N16 α) (x : α) : ∀ i, i < 16 → (t.put x i).toL = t.toL.set i x
  | 0, _ => rfl
  | 1, _ => rfl
  | 2, _ => rfl
  | 3, _ => rfl
  | 4, _ => rfl
  | 5, _ => rfl
  | 6, _ => rfl
  | 7, _ => rfl
  | 8, _ => rfl
  | 9, _ => rfl
  | 10, _ => rfl
  | 11, _ => rfl
  | 12, _ => rfl
  | 13, _ => rfl
  | 14, _ => rfl
  | 15, _ => rfl
  | n + 16, h => absurd h (by omega)

theorem N16.nth_toL (t : N16 α) : ∀ i, i < 16 → t.toL[i]? = some (t.nth i)
  | 0, _ => rfl
  | 1, _ => rfl
  | 2, _ => rfl
  | 3, _ => rfl
  | 4, _ => rfl
  | 5, _ => rfl
  | 6, _ => rfl
  | 7, _ => rfl
  | 8, _ => rfl
  | 9, _ => rfl
  | 10, _ => rfl
  | 11, _ => rfl
  | 12, _ => rfl
  | 13, _ => rfl
  | 14, _ => rfl
  | 15, _ => rfl
  | n + 16, h => absurd h (by omega)

theorem N16.nth_put (t : N16 α) (x : α) {i j : Nat} (hi : i < 16) (hj : j < 16) : (t.put x i).nth j = if j = i then x else t.nth j := by
  have h1 := (t.put x i).nth_toL j hj
  rw [N16.toL_put t x i hi, List.getElem?_set] at h1
  have h2 := t.nth_toL j hj
  have hl : i < t.toL.length := hi
  by_cases h : i = j
  · subst h
    rw [if_pos rfl, if_pos hl] at h1
    rw [if_pos rfl]
    exact (Option.some.inj h1).symm
  · rw [if_neg h, h2] at h1
    rw [if_neg (fun e => h e.symm)]
    exact (Option.some.inj h1).symm
end

abbrev O := Option (AV × Heap)
abbrev E16 := N16 (N16 AV)
abbrev Row := N16 AV
abbrev GT := E16 → AV
abbrev RT := Row → AV
abbrev ST := E16 → AV → (E16 → O) → O
abbrev UT := Row → AV → (Row → O) → O

noncomputable def E16.env (E : E16) : Env := fun n => match Nat.blt n 256 with
  | true => (E.nth (n / 16)).nth (n % 16)
  | false => .junk
noncomputable def E16.setN (E : E16) (n : Nat) (v : AV) : E16 := E.put ((E.nth (n / 16)).put v (n % 16)) (n / 16)
noncomputable def E16.setO (E : E16) (d : Option Nat) (v : AV) : E16 := match d with
  | none => E
  | some d => E.setN d v

theorem E16.env_eq (E : E16) {n : Nat} (h : n < 256) : E.env n = (E.nth (n / 16)).nth (n % 16) := by
  have : Nat.blt n 256 = true := blt_t.2 h
  simp only [E16.env, this]
theorem E16.env_big (E : E16) {n : Nat} (h : ¬ n < 256) : E.env n = .junk := by
  have : Nat.blt n 256 = false := by
    cases hb : Nat.blt n 256 with
    | false => rfl
    | true => exact absurd (blt_t.1 hb) h
  simp only [E16.env, this]

theorem E16.env_setN (E : E16) {n : Nat} (v : AV) (h : n < 256) : (E.setN n v).env = upd E.env n v := by
  funext m
  unfold upd
  by_cases hm : m < 256
  · rw [E16.env_eq _ hm, E16.env_eq _ hm]
    unfold E16.setN
    rw [N16.nth_put _ _ (by omega) (by omega)]
    by_cases h1 : m / 16 = n / 16
    · rw [if_pos h1, N16.nth_put _ _ (by omega) (by omega), h1]
      by_cases h2 : m % 16 = n % 16
      · rw [if_pos h2, if_pos (by omega)]
      · rw [if_neg h2, if_neg (by omega)]
    · rw [if_neg h1, if_neg (by omega)]
  · rw [if_neg (by omega), E16.env_big _ hm, E16.env_big _ hm]

def okD (d : Option Nat) : Bool := match d with
  | none => true
  | some d => Nat.blt d 256

theorem E16.env_setO (E : E16) {d : Option Nat} (v : AV) (h : okD d = true) : (E.setO d v).env = updO E.env d v := by
  cases d with
  | none => rfl
  | some d => exact E16.env_setN E v (blt_t.1 h)

def h0 (r : Row) : AV := r.a0
def h1 (r : Row) : AV := r.a1
def h2 (r : Row) : AV := r.a2
def h3 (r : Row) : AV := r.a3
def h4 (r : Row) : AV := r.a4
def h5 (r : Row) : AV := r.a5
def h6 (r : Row) : AV := r.a6
def h7 (r : Row) : AV := r.a7
def h8 (r : Row) : AV := r.a8
def h9 (r : Row) : AV := r.a9
def h10 (r : Row) : AV := r.a10
def h11 (r : Row) : AV := r.a11
def h12 (r : Row) : AV := r.a12
def h13 (r : Row) : AV := r.a13
def h14 (r : Row) : AV := r.a14
def h15 (r : Row) : AV := r.a15
def g0 (h : RT) (E : E16) : AV := h E.a0
def g1 (h : RT) (E : E16) : AV := h E.a1
def g2 (h : RT) (E : E16) : AV := h E.a2
def g3 (h : RT) (E : E16) : AV := h E.a3
def g4 (h : RT) (E : E16) : AV := h E.a4
def g5 (h : RT) (E : E16) : AV := h E.a5
def g6 (h : RT) (E : E16) : AV := h E.a6
def g7 (h : RT) (E : E16) : AV := h E.a7
def g8 (h : RT) (E : E16) : AV := h E.a8
def g9 (h : RT) (E : E16) : AV := h E.a9
def g10 (h : RT) (E : E16) : AV := h E.a10
def g11 (h : RT) (E : E16) : AV := h E.a11
def g12 (h : RT) (E : E16) : AV := h E.a12
def g13 (h : RT) (E : E16) : AV := h E.a13
def g14 (h : RT) (E : E16) : AV := h E.a14
def g15 (h : RT) (E : E16) : AV := h E.a15
noncomputable def u0 (r : Row) (v : AV) (k : Row → O) : O := N16.rec (motive := fun _ => AV → (Row → O) → O) (fun _ a1 a2 a3 a4 a5 a6 a7 a8 a9 a10 a11 a12 a13 a14 a15 v k => k ⟨v, a1, a2, a3, a4, a5, a6, a7, a8, a9, a10, a11, a12, a13, a14, a15⟩) r v k
noncomputable def u1 (r : Row) (v : AV) (k : Row → O) : O := N16.rec (motive := fun _ => AV → (Row → O) → O) (fun a0 _ a2 a3 a4 a5 a6 a7 a8 a9 a10 a11 a12 a13 a14 a15 v k => k ⟨a0, v, a2, a3, a4, a5, a6, a7, a8, a9, a10, a11, a12, a13, a14, a15⟩) r v k
noncomputable def u2 (r : Row) (v : AV) (k : Row → O) : O := N16.rec (motive := fun _ => AV → (Row → O) → O) (fun a0 a1 _ a3 a4 a5 a6 a7 a8 a9 a10 a11 a12 a13 a14 a15 v k => k ⟨a0, a1, v, a3, a4, a5, a6, a7, a8, a9, a10, a11, a12, a13, a14, a15⟩) r v k
noncomputable def u3 (r : Row) (v : AV) (k : Row → O) : O := N16.rec (motive := fun _ => AV → (Row → O) → O) (fun a0 a1 a2 _ a4 a5 a6 a7 a8 a9 a10 a11 a12 a13 a14 a15 v k => k ⟨a0, a1, a2, v, a4, a5, a6, a7, a8, a9, a10, a11, a12, a13, a14, a15⟩) r v k
noncomputable def u4 (r : Row) (v : AV) (k : Row → O) : O := N16.rec (motive := fun _ => AV → (Row → O) → O) (fun a0 a1 a2 a3 _ a5 a6 a7 a8 a9 a10 a11 a12 a13 a14 a15 v k => k ⟨a0, a1, a2, a3, v, a5, a6, a7, a8, a9, a10, a11, a12, a13, a14, a15⟩) r v k
noncomputable def u5 (r : Row) (v : AV) (k : Row → O) : O := N16.rec (motive := fun _ => AV → (Row → O) → O) (fun a0 a1 a2 a3 a4 _ a6 a7 a8 a9 a10 a11 a12 a13 a14 a15 v k => k ⟨a0, a1, a2, a3, a4, v, a6, a7, a8, a9, a10, a11, a12, a13, a14, a15⟩) r v k
noncomputable def u6 (r : Row) (v : AV) (k : Row → O) : O := N16.rec (motive := fun _ => AV → (Row → O) → O) (fun a0 a1 a2 a3 a4 a5 _ a7 a8 a9 a10 a11 a12 a13 a14 a15 v k => k ⟨a0, a1, a2, a3, a4, a5, v, a7, a8, a9, a10, a11, a12, a13, a14, a15⟩) r v k
noncomputable def u7 (r : Row) (v : AV) (k : Row → O) : O := N16.rec (motive := fun _ => AV → (Row → O) → O) (fun a0 a1 a2 a3 a4 a5 a6 _ a8 a9 a10 a11 a12 a13 a14 a15 v k => k ⟨a0, a1, a2, a3, a4, a5, a6, v, a8, a9, a10, a11, a12, a13, a14, a15⟩) r v k
noncomputable def u8 (r : Row) (v : AV) (k : Row → O) : O := N16.rec (motive := fun _ => AV → (Row → O) → O) (fun a0 a1 a2 a3 a4 a5 a6 a7 _ a9 a10 a11 a12 a13 a14 a15 v k => k ⟨a0, a1, a2, a3, a4, a5, a6, a7, v, a9, a10, a11, a12, a13, a14, a15⟩) r v k
noncomputable def u9 (r : Row) (v : AV) (k : Row → O) : O := N16.rec (motive := fun _ => AV → (Row → O) → O) (fun a0 a1 a2 a3 a4 a5 a6 a7 a8 _ a10 a11 a12 a13 a14 a15 v k => k ⟨a0, a1, a2, a3, a4, a5, a6, a7, a8, v, a10, a11, a12, a13, a14, a15⟩) r v k
noncomputable def u10 (r : Row) (v : AV) (k : Row → O) : O := N16.rec (motive := fun _ => AV → (Row → O) → O) (fun a0 a1 a2 a3 a4 a5 a6 a7 a8 a9 _ a11 a12 a13 a14 a15 v k => k ⟨a0, a1, a2, a3, a4, a5, a6, a7, a8, a9, v, a11, a12, a13, a14, a15⟩) r v k
noncomputable def u11 (r : Row) (v : AV) (k : Row → O) : O := N16.rec (motive := fun _ => AV → (Row → O) → O) (fun a0 a1 a2 a3 a4 a5 a6 a7 a8 a9 a10 _ a12 a13 a14 a15 v k => k ⟨a0, a1, a2, a3, a4, a5, a6, a7, a8, a9, a10, v, a12, a13, a14, a15⟩) r v k
noncomputable def u12 (r : Row) (v : AV) (k : Row → O) : O := N16.rec (motive := fun _ => AV → (Row → O) → O) (fun a0 a1 a2 a3 a4 a5 a6 a7 a8 a9 a10 a11 _ a13 a14 a15 v k => k ⟨a0, a1, a2, a3, a4, a5, a6, a7, a8, a9, a10, a11, v, a13, a14, a15⟩) r v k
noncomputable def u13 (r : Row) (v : AV) (k : Row → O) : O := N16.rec (motive := fun _ => AV → (Row → O) → O) (fun a0 a1 a2 a3 a4 a5 a6 a7 a8 a9 a10 a11 a12 _ a14 a15 v k => k ⟨a0, a1, a2, a3, a4, a5, a6, a7, a8, a9, a10, a11, a12, v, a14, a15⟩) r v k
noncomputable def u14 (r : Row) (v : AV) (k : Row → O) : O := N16.rec (motive := fun _ => AV → (Row → O) → O) (fun a0 a1 a2 a3 a4 a5 a6 a7 a8 a9 a10 a11 a12 a13 _ a15 v k => k ⟨a0, a1, a2, a3, a4, a5, a6, a7, a8, a9, a10, a11, a12, a13, v, a15⟩) r v k
noncomputable def u15 (r : Row) (v : AV) (k : Row → O) : O := N16.rec (motive := fun _ => AV → (Row → O) → O) (fun a0 a1 a2 a3 a4 a5 a6 a7 a8 a9 a10 a11 a12 a13 a14 _ v k => k ⟨a0, a1, a2, a3, a4, a5, a6, a7, a8, a9, a10, a11, a12, a13, a14, v⟩) r v k
noncomputable def o0 (E : E16) (v : Row) (k : E16 → O) : O := N16.rec (motive := fun _ => Row → (E16 → O) → O) (fun _ a1 a2 a3 a4 a5 a6 a7 a8 a9 a10 a11 a12 a13 a14 a15 v k => k ⟨v, a1, a2, a3, a4, a5, a6, a7, a8, a9, a10, a11, a12, a13, a14, a15⟩) E v k
noncomputable def o1 (E : E16) (v : Row) (k : E16 → O) : O := N16.rec (motive := fun _ => Row → (E16 → O) → O) (fun a0 _ a2 a3 a4 a5 a6 a7 a8 a9 a10 a11 a12 a13 a14 a15 v k => k ⟨a0, v, a2, a3, a4, a5, a6, a7, a8, a9, a10, a11, a12, a13, a14, a15⟩) E v k
noncomputable def o2 (E : E16) (v : Row) (k : E16 → O) : O := N16.rec (motive := fun _ => Row → (E16 → O) → O) (fun a0 a1 _ a3 a4 a5 a6 a7 a8 a9 a10 a11 a12 a13 a14 a15 v k => k ⟨a0, a1, v, a3, a4, a5, a6, a7, a8, a9, a10, a11, a12, a13, a14, a15⟩) E v k
noncomputable def o3 (E : E16) (v : Row) (k : E16 → O) : O := N16.rec (motive := fun _ => Row → (E16 → O) → O) (fun a0 a1 a2 _ a4 a5 a6 a7 a8 a9 a10 a11 a12 a13 a14 a15 v k => k ⟨a0, a1, a2, v, a4, a5, a6, a7, a8, a9, a10, a11, a12, a13, a14, a15⟩) E v k
noncomputable def o4 (E : E16) (v : Row) (k : E16 → O) : O := N16.rec (motive := fun _ => Row → (E16 → O) → O) (fun a0 a1 a2 a3 _ a5 a6 a7 a8 a9 a10 a11 a12 a13 a14 a15 v k => k ⟨a0, a1, a2, a3, v, a5, a6, a7, a8, a9, a10, a11, a12, a13, a14, a15⟩) E v k
noncomputable def o5 (E : E16) (v : Row) (k : E16 → O) : O := N16.rec (motive := fun _ => Row → (E16 → O) → O) (fun a0 a1 a2 a3 a4 _ a6 a7 a8 a9 a10 a11 a12 a13 a14 a15 v k => k ⟨a0, a1, a2, a3, a4, v, a6, a7, a8, a9, a10, a11, a12, a13, a14, a15⟩) E v k
noncomputable def o6 (E : E16) (v : Row) (k : E16 → O) : O := N16.rec (motive := fun _ => Row → (E16 → O) → O) (fun a0 a1 a2 a3 a4 a5 _ a7 a8 a9 a10 a11 a12 a13 a14 a15 v k => k ⟨a0, a1, a2, a3, a4, a5, v, a7, a8, a9, a10, a11, a12, a13, a14, a15⟩) E v k
noncomputable def o7 (E : E16) (v : Row) (k : E16 → O) : O := N16.rec (motive := fun _ => Row → (E16 → O) → O) (fun a0 a1 a2 a3 a4 a5 a6 _ a8 a9 a10 a11 a12 a13 a14 a15 v k => k ⟨a0, a1, a2, a3, a4, a5, a6, v, a8, a9, a10, a11, a12, a13, a14, a15⟩) E v k
noncomputable def o8 (E : E16) (v : Row) (k : E16 → O) : O := N16.rec (motive := fun _ => Row → (E16 → O) → O) (fun a0 a1 a2 a3 a4 a5 a6 a7 _ a9 a10 a11 a12 a13 a14 a15 v k => k ⟨a0, a1, a2, a3, a4, a5, a6, a7, v, a9, a10, a11, a12, a13, a14, a15⟩) E v k
noncomputable def o9 (E : E16) (v : Row) (k : E16 → O) : O := N16.rec (motive := fun _ => Row → (E16 → O) → O) (fun a0 a1 a2 a3 a4 a5 a6 a7 a8 _ a10 a11 a12 a13 a14 a15 v k => k ⟨a0, a1, a2, a3, a4, a5, a6, a7, a8, v, a10, a11, a12, a13, a14, a15⟩) E v k
noncomputable def o10 (E : E16) (v : Row) (k : E16 → O) : O := N16.rec (motive := fun _ => Row → (E16 → O) → O) (fun a0 a1 a2 a3 a4 a5 a6 a7 a8 a9 _ a11 a12 a13 a14 a15 v k => k ⟨a0, a1, a2, a3, a4, a5, a6, a7, a8, a9, v, a11, a12, a13, a14, a15⟩) E v k
noncomputable def o11 (E : E16) (v : Row) (k : E16 → O) : O := N16.rec (motive := fun _ => Row → (E16 → O) → O) (fun a0 a1 a2 a3 a4 a5 a6 a7 a8 a9 a10 _ a12 a13 a14 a15 v k => k ⟨a0, a1, a2, a3, a4, a5, a6, a7, a8, a9, a10, v, a12, a13, a14, a15⟩) E v k
noncomputable def o12 (E : E16) (v : Row) (k : E16 → O) : O := N16.rec (motive := fun _ => Row → (E16 → O) → O) (fun a0 a1 a2 a3 a4 a5 a6 a7 a8 a9 a10 a11 _ a13 a14 a15 v k => k ⟨a0, a1, a2, a3, a4, a5, a6, a7, a8, a9, a10, a11, v, a13, a14, a15⟩) E v k
noncomputable def o13 (E : E16) (v : Row) (k : E16 → O) : O := N16.rec (motive := fun _ => Row → (E16 → O) → O) (fun a0 a1 a2 a3 a4 a5 a6 a7 a8 a9 a10 a11 a12 _ a14 a15 v k => k ⟨a0, a1, a2, a3, a4, a5, a6, a7, a8, a9, a10, a11, a12, v, a14, a15⟩) E v k
noncomputable def o14 (E : E16) (v : Row) (k : E16 → O) : O := N16.rec (motive := fun _ => Row → (E16 → O) → O) (fun a0 a1 a2 a3 a4 a5 a6 a7 a8 a9 a10 a11 a12 a13 _ a15 v k => k ⟨a0, a1, a2, a3, a4, a5, a6, a7, a8, a9, a10, a11, a12, a13, v, a15⟩) E v k
noncomputable def o15 (E : E16) (v : Row) (k : E16 → O) : O := N16.rec (motive := fun _ => Row → (E16 → O) → O) (fun a0 a1 a2 a3 a4 a5 a6 a7 a8 a9 a10 a11 a12 a13 a14 _ v k => k ⟨a0, a1, a2, a3, a4, a5, a6, a7, a8, a9, a10, a11, a12, a13, a14, v⟩) E v k
noncomputable def s0 (u : UT) (E : E16) (v : AV) (k : E16 → O) : O := u E.a0 v fun r => o0 E r k
noncomputable def s1 (u : UT) (E : E16) (v : AV) (k : E16 → O) : O := u E.a1 v fun r => o1 E r k
noncomputable def s2 (u : UT) (E : E16) (v : AV) (k : E16 → O) : O := u E.a2 v fun r => o2 E r k
noncomputable def s3 (u : UT) (E : E16) (v : AV) (k : E16 → O) : O := u E.a3 v fun r => o3 E r k
noncomputable def s4 (u : UT) (E : E16) (v : AV) (k : E16 → O) : O := u E.a4 v fun r => o4 E r k
noncomputable def s5 (u : UT) (E : E16) (v : AV) (k : E16 → O) : O := u E.a5 v fun r => o5 E r k
noncomputable def s6 (u : UT) (E : E16) (v : AV) (k : E16 → O) : O := u E.a6 v fun r => o6 E r k
noncomputable def s7 (u : UT) (E : E16) (v : AV) (k : E16 → O) : O := u E.a7 v fun r => o7 E r k
noncomputable def s8 (u : UT) (E : E16) (v : AV) (k : E16 → O) : O := u E.a8 v fun r => o8 E r k
noncomputable def s9 (u : UT) (E : E16) (v : AV) (k : E16 → O) : O := u E.a9 v fun r => o9 E r k
noncomputable def s10 (u : UT) (E : E16) (v : AV) (k : E16 → O) : O := u E.a10 v fun r => o10 E r k
noncomputable def s11 (u : UT) (E : E16) (v : AV) (k : E16 → O) : O := u E.a11 v fun r => o11 E r k
noncomputable def s12 (u : UT) (E : E16) (v : AV) (k : E16 → O) : O := u E.a12 v fun r => o12 E r k
noncomputable def s13 (u : UT) (E : E16) (v : AV) (k : E16 → O) : O := u E.a13 v fun r => o13 E r k
noncomputable def s14 (u : UT) (E : E16) (v : AV) (k : E16 → O) : O := u E.a14 v fun r => o14 E r k
noncomputable def s15 (u : UT) (E : E16) (v : AV) (k : E16 → O) : O := u E.a15 v fun r => o15 E r k
noncomputable def sx (E : E16) (_ : AV) (k : E16 → O) : O := k E
def gk (a : AV) (_ : E16) : AV := a

def hN : Nat → RT
  | 0 => h0
  | 1 => h1
  | 2 => h2
  | 3 => h3
  | 4 => h4
  | 5 => h5
  | 6 => h6
  | 7 => h7
  | 8 => h8
  | 9 => h9
  | 10 => h10
  | 11 => h11
  | 12 => h12
  | 13 => h13
  | 14 => h14
  | _ => h15
def gN : Nat → RT → GT
  | 0 => g0
  | 1 => g1
  | 2 => g2
  | 3 => g3
  | 4 => g4
  | 5 => g5
  | 6 => g6
  | 7 => g7
  | 8 => g8
  | 9 => g9
  | 10 => g10
  | 11 => g11
  | 12 => g12
  | 13 => g13
  | 14 => g14
  | _ => g15
noncomputable def uN : Nat → UT
  | 0 => u0
  | 1 => u1
  | 2 => u2
  | 3 => u3
  | 4 => u4
  | 5 => u5
  | 6 => u6
  | 7 => u7
  | 8 => u8
  | 9 => u9
  | 10 => u10
  | 11 => u11
  | 12 => u12
  | 13 => u13
  | 14 => u14
  | _ => u15
noncomputable def sN : Nat → UT → ST
  | 0 => s0
  | 1 => s1
  | 2 => s2
  | 3 => s3
  | 4 => s4
  | 5 => s5
  | 6 => s6
  | 7 => s7
  | 8 => s8
  | 9 => s9
  | 10 => s10
  | 11 => s11
  | 12 => s12
  | 13 => s13
  | 14 => s14
  | _ => s15

theorem hN_eq (r : Row) : ∀ i, i < 16 → hN i r = r.nth i
  | 0, _ => rfl
  | 1, _ => rfl
  | 2, _ => rfl
  | 3, _ => rfl
  | 4, _ => rfl
  | 5, _ => rfl
  | 6, _ => rfl
  | 7, _ => rfl
  | 8, _ => rfl
  | 9, _ => rfl
  | 10, _ => rfl
  | 11, _ => rfl
  | 12, _ => rfl
  | 13, _ => rfl
  | 14, _ => rfl
  | 15, _ => rfl
  | n + 16, h => absurd h (by omega)
theorem gN_eq (h : RT) (E : E16) : ∀ i, i < 16 → gN i h E = h (E.nth i)
  | 0, _ => rfl
  | 1, _ => rfl
  | 2, _ => rfl
  | 3, _ => rfl
  | 4, _ => rfl
  | 5, _ => rfl
  | 6, _ => rfl
  | 7, _ => rfl
  | 8, _ => rfl
  | 9, _ => rfl
  | 10, _ => rfl
  | 11, _ => rfl
  | 12, _ => rfl
  | 13, _ => rfl
  | 14, _ => rfl
  | 15, _ => rfl
  | n + 16, h => absurd h (by omega)
theorem uN_eq (r : Row) (v : AV) (k : Row → O) : ∀ i, i < 16 → uN i r v k = k (r.put v i)
  | 0, _ => rfl
  | 1, _ => rfl
  | 2, _ => rfl
  | 3, _ => rfl
  | 4, _ => rfl
  | 5, _ => rfl
  | 6, _ => rfl
  | 7, _ => rfl
  | 8, _ => rfl
  | 9, _ => rfl
  | 10, _ => rfl
  | 11, _ => rfl
  | 12, _ => rfl
  | 13, _ => rfl
  | 14, _ => rfl
  | 15, _ => rfl
  | n + 16, h => absurd h (by omega)
theorem sN_eq (u : UT) (E : E16) (v : AV) (k : E16 → O) : ∀ i, i < 16 → sN i u E v k = u (E.nth i) v fun r => k (E.put r i)
  | 0, _ => rfl
  | 1, _ => rfl
  | 2, _ => rfl
  | 3, _ => rfl
  | 4, _ => rfl
  | 5, _ => rfl
  | 6, _ => rfl
  | 7, _ => rfl
  | 8, _ => rfl
  | 9, _ => rfl
  | 10, _ => rfl
  | 11, _ => rfl
  | 12, _ => rfl
  | 13, _ => rfl
  | 14, _ => rfl
  | 15, _ => rfl
  | n + 16, h => absurd h (by omega)

def gS (n : Nat) : GT := match Nat.blt n 256 with
  | true => gN (n / 16) (hN (n % 16))
  | false => gk .junk
noncomputable def sS (n : Nat) : ST := sN (n / 16) (uN (n % 16))

theorem gS_eq (n : Nat) (E : E16) : gS n E = E.env n := by
  by_cases h : n < 256
  · have hb : Nat.blt n 256 = true := blt_t.2 h
    rw [E16.env_eq _ h]
    unfold gS
    rw [hb]
    show gN (n / 16) (hN (n % 16)) E = _
    rw [gN_eq _ _ _ (by omega), hN_eq _ _ (by omega)]
  · have hb : Nat.blt n 256 = false := by
      cases hb : Nat.blt n 256 with
      | false => rfl
      | true => exact absurd (blt_t.1 hb) h
    rw [E16.env_big _ h]
    unfold gS
    rw [hb]
    rfl
theorem sS_eq {n : Nat} (h : n < 256) (E : E16) (v : AV) (k : E16 → O) : sS n E v k = k (E.setN n v) := by
  unfold sS E16.setN
  rw [sN_eq _ _ _ _ _ (by omega), uN_eq _ _ _ _ (by omega)]

def trG : Opd → GT
  | .t n => gS n
  | .k a => gk a
theorem trG_eq (x : Opd) (E : E16) : trG x E = val E.env x := by
  cases x with
  | t n => exact gS_eq n E
  | k a => rfl
noncomputable def trD (d : Option Nat) : ST := match d with
  | none => sx
  | some d => sS d
theorem trD_eq {d : Option Nat} (h : okD d = true) (E : E16) (v : AV) (k : E16 → O) : trD d E v k = k (E.setO d v) := by
  cases d with
  | none => rfl
  | some d => exact sS_eq (blt_t.1 h) E v k

-- numbers
noncomputable def natK (n : Nat) (k : Nat → O) : O := Nat.rec (motive := fun _ => (Nat → O) → O) (fun k => k 0) (fun p _ k => k (Nat.succ p)) n k
theorem natK_eq (n : Nat) (k : Nat → O) : natK n k = k n := by cases n <;> rfl
noncomputable def intK (n : Int) (k : Int → O) : O := Int.rec (motive := fun _ => (Int → O) → O) (fun m k => natK m fun m => k (.ofNat m)) (fun m k => natK m fun m => k (.negSucc m)) n k
theorem intK_eq (n : Int) (k : Int → O) : intK n k = k n := by
  cases n with
  | ofNat m => exact natK_eq m _
  | negSucc m => exact natK_eq m _
noncomputable def boK (b : Bool) (k : Bool → O) : O := Bool.rec (motive := fun _ => (Bool → O) → O) (fun k => k false) (fun k => k true) b k
theorem boK_eq (b : Bool) (k : Bool → O) : boK b k = k b := by cases b <;> rfl
noncomputable def ifK (b : Bool) (x : O) : O := Bool.rec (motive := fun _ => O → O) (fun _ => none) (fun x => x) b x
theorem ifK_eq (b : Bool) (x : O) : ifK b x = if b = true then x else none := by cases b <;> rfl
noncomputable def onK (c : Option Nat) (k : Option Nat → O) : O := Option.rec (motive := fun _ => (Option Nat → O) → O) (fun k => k none) (fun n k => natK n fun n => k (some n)) c k
theorem onK_eq (c : Option Nat) (k : Option Nat → O) : onK c k = k c := by
  cases c with
  | none => rfl
  | some n => exact natK_eq n _

-- lists
section
variable {α : Type}
noncomputable def nthK (l : List α) (i : Nat) (k : α → O) : O :=
  List.rec (motive := fun _ => Nat → (α → O) → O) (fun _ _ => none)
    (fun a _ ih i k => Nat.rec (motive := fun _ => α → (Nat → (α → O) → O) → (α → O) → O) (fun a _ k => k a) (fun p _ _ ih k => ih p k) i a ih k) l i k
theorem nthK_eq : ∀ (l : List α) (i : Nat) (k : α → O), nthK l i k = match l[i]? with | some a => k a | none => none := by
  intro l
  induction l with
  | nil => intro i k; rfl
  | cons a l ih =>
    intro i k
    cases i with
    | zero => rfl
    | succ i => exact (ih i k).trans (by simp)
noncomputable def putK (l : List α) (i : Nat) (x : α) (k : List α → O) : O :=
  List.rec (motive := fun _ => Nat → α → (List α → O) → O) (fun _ _ k => k [])
    (fun a r ih i x k => Nat.rec (motive := fun _ => α → List α → (Nat → α → (List α → O) → O) → α → (List α → O) → O) (fun _ r _ x k => k (x :: r))
      (fun p _ a _ ih x k => ih p x fun r => k (a :: r)) i a r ih x k) l i x k
theorem putK_eq (x : α) : ∀ (l : List α) (i : Nat) (k : List α → O), putK l i x k = k (l.set i x) := by
  intro l
  induction l with
  | nil => intro i k; rfl
  | cons a l ih =>
    intro i k
    cases i with
    | zero => rfl
    | succ i => exact ih i _
noncomputable def spK (l : List α) (k : List α → O) : O :=
  List.rec (motive := fun _ => (List α → O) → O) (fun k => k []) (fun a _ ih k => ih fun r => k (a :: r)) l k
theorem spK_eq : ∀ (l : List α) (k : List α → O), spK l k = k l := by
  intro l
  induction l with
  | nil => intro k; rfl
  | cons a l ih => intro k; exact ih _
noncomputable def snocK (l : List α) (x : α) (k : List α → O) : O :=
  List.rec (motive := fun _ => α → (List α → O) → O) (fun x k => k [x]) (fun a _ ih x k => ih x fun r => k (a :: r)) l x k
theorem snocK_eq (x : α) : ∀ (l : List α) (k : List α → O), snocK l x k = k (l ++ [x]) := by
  intro l
  induction l with
  | nil => intro k; rfl
  | cons a l ih => intro k; exact ih _
noncomputable def lenK (l : List α) (k : Nat → O) : O :=
  List.rec (motive := fun _ => Nat → (Nat → O) → O) (fun n k => natK n k) (fun _ _ ih n k => ih (Nat.succ n) k) l 0 k
theorem lenK_eq (l : List α) (k : Nat → O) : lenK l k = k l.length := by
  have : ∀ (l : List α) (n : Nat), List.rec (motive := fun _ => Nat → (Nat → O) → O) (fun n k => natK n k) (fun _ _ ih n k => ih (Nat.succ n) k) l n k = k (n + l.length) := by
    intro l
    induction l with
    | nil => intro n; exact natK_eq _ _
    | cons a l ih => intro n; exact (ih (n + 1)).trans (by rw [List.length_cons]; congr 1; omega)
  exact (this l 0).trans (by rw [Nat.zero_add])
end
noncomputable def optK (b : Option (List AV)) (k : List AV → O) : O := Option.rec (motive := fun _ => (List AV → O) → O) (fun _ => none) (fun cs k => k cs) b k
noncomputable def blkK (H : Heap) (i : Nat) (k : List AV → O) : O := nthK H i fun b => optK b k
theorem blkK_eq (H : Heap) (i : Nat) (k : List AV → O) : blkK H i k = match getB H i with | some cs => k cs | none => none := by
  unfold blkK
  rw [nthK_eq]
  unfold getB
  cases H[i]? with
  | none => rfl
  | some b => cases b <;> rfl

-- cases on values
noncomputable def onInt (v : AV) (k0 : IntKind → Int → O) : O := AV.rec (motive_1 := fun _ => (IntKind → Int → O) → O) (motive_2 := fun _ => Unit) (fun _ _ => none) (fun a b k => k a b) (fun _ _ => none) (fun _ _ _ _ _ => none) (fun _ _ _ _ _ _ => none) (fun _ _ _ => none) (fun _ _ _ _ => none) (fun _ _ _ _ => none) (fun _ _ _ => none) (fun _ _ _ => none) (fun _ => none) (fun _ => none) () (fun _ _ _ _ => ()) v k0
noncomputable def onBool (v : AV) (k0 : Bool → O) : O := AV.rec (motive_1 := fun _ => (Bool → O) → O) (motive_2 := fun _ => Unit) (fun b k => k b) (fun _ _ _ => none) (fun _ _ => none) (fun _ _ _ _ _ => none) (fun _ _ _ _ _ _ => none) (fun _ _ _ => none) (fun _ _ _ _ => none) (fun _ _ _ _ => none) (fun _ _ _ => none) (fun _ _ _ => none) (fun _ => none) (fun _ => none) () (fun _ _ _ _ => ()) v k0
noncomputable def onTup (v : AV) (k0 : List AV → O) : O := AV.rec (motive_1 := fun _ => (List AV → O) → O) (motive_2 := fun _ => Unit) (fun _ _ => none) (fun _ _ _ => none) (fun _ _ => none) (fun _ _ _ _ _ => none) (fun _ _ _ _ _ _ => none) (fun _ _ _ => none) (fun _ _ _ _ => none) (fun _ _ _ _ => none) (fun _ _ _ => none) (fun vs _ k => k vs) (fun _ => none) (fun _ => none) () (fun _ _ _ _ => ()) v k0
noncomputable def onAgg (v : AV) (k0 : List AV → O) : O := AV.rec (motive_1 := fun _ => (List AV → O) → O) (motive_2 := fun _ => Unit) (fun _ _ => none) (fun _ _ _ => none) (fun _ _ => none) (fun _ _ _ _ _ => none) (fun _ _ _ _ _ _ => none) (fun _ _ _ => none) (fun _ _ _ _ => none) (fun _ _ _ _ => none) (fun vs _ k => k vs) (fun _ _ _ => none) (fun _ => none) (fun _ => none) () (fun _ _ _ _ => ()) v k0
noncomputable def onPtr (v : AV) (k0 : Nat → Nat → O) (k1 : List AV → Nat → O) : O := AV.rec (motive_1 := fun _ => (Nat → Nat → O) → (List AV → Nat → O) → O) (motive_2 := fun _ => Unit) (fun _ _ _ => none) (fun _ _ _ _ => none) (fun _ _ _ => none) (fun _ _ _ _ _ _ => none) (fun _ _ _ _ _ _ _ => none) (fun a b k _ => k a b) (fun cs p _ _ k => k cs p) (fun _ _ _ _ _ => none) (fun _ _ _ _ => none) (fun _ _ _ _ => none) (fun _ _ => none) (fun _ _ => none) () (fun _ _ _ _ => ()) v k0 k1
noncomputable def onSl (v : AV) (k0 : Nat → Nat → Nat → Nat → Option Nat → O) (k1 : List AV → Nat → Option Nat → O) : O := AV.rec (motive_1 := fun _ => (Nat → Nat → Nat → Nat → Option Nat → O) → (List AV → Nat → Option Nat → O) → O) (motive_2 := fun _ => Unit) (fun _ _ _ => none) (fun _ _ _ _ => none) (fun _ _ _ => none) (fun cs n c _ _ k => k cs n c) (fun a b c d e k _ => k a b c d e) (fun _ _ _ _ => none) (fun _ _ _ _ _ => none) (fun _ _ _ _ _ => none) (fun _ _ _ _ => none) (fun _ _ _ _ => none) (fun _ _ => none) (fun _ _ => none) () (fun _ _ _ _ => ()) v k0 k1
noncomputable def fv (v : AV) (k : AV → O) : O := AV.rec (motive_1 := fun _ => (AV → O) → O) (motive_2 := fun _ => Unit) (fun b k => k (.bool b)) (fun a b k => k (.int a b)) (fun s k => k (.str s)) (fun cs n c _ k => k (.vec cs n c)) (fun a b c d e k => k (.sl a b c d e)) (fun a b k => k (.ptr a b)) (fun cs p _ k => k (.iptr cs p)) (fun f cs _ k => k (.clo f cs)) (fun cs _ k => k (.agg cs)) (fun cs _ k => k (.tup cs)) (fun k => k .anyb) (fun k => k .junk) () (fun _ _ _ _ => ()) v k
theorem fv_eq (v : AV) (k : AV → O) : fv v k = k v := by cases v <;> rfl
noncomputable def nfK (v : AV) (k : AV → O) : O := AV.rec (motive_1 := fun _ => (AV → O) → O) (motive_2 := fun _ => Unit) (fun b k => boK b fun b => k (.bool b)) (fun a b k => intK b fun b => k (.int a b)) (fun s k => k (.str s)) (fun cs n c _ k => spK cs fun cs => natK n fun n => onK c fun c => k (.vec cs n c)) (fun a b c d e k => natK a fun a => natK b fun b => natK c fun c => natK d fun d => onK e fun e => k (.sl a b c d e)) (fun a b k => natK a fun a => natK b fun b => k (.ptr a b)) (fun cs p _ k => spK cs fun cs => natK p fun p => k (.iptr cs p)) (fun f cs _ k => spK cs fun cs => k (.clo f cs)) (fun cs _ k => spK cs fun cs => k (.agg cs)) (fun cs _ k => spK cs fun cs => k (.tup cs)) (fun k => k .anyb) (fun k => k .junk) () (fun _ _ _ _ => ()) v k
theorem nfK_eq (v : AV) (k : AV → O) : nfK v k = k v := by
  cases v
  case bool b => exact boK_eq b _
  case int a b => exact intK_eq b _
  case vec cs n c => show (spK cs fun cs => natK n fun n => onK c fun c => k (.vec cs n c)) = _; simp only [spK_eq, natK_eq, onK_eq]
  case sl a b c d e => show (natK a fun a => natK b fun b => natK c fun c => natK d fun d => onK e fun e => k (.sl a b c d e)) = _; simp only [natK_eq, onK_eq]
  case ptr a b => show (natK a fun a => natK b fun b => k (.ptr a b)) = _; simp only [natK_eq]
  case iptr cs p => show (spK cs fun cs => natK p fun p => k (.iptr cs p)) = _; simp only [spK_eq, natK_eq]
  case clo f cs => exact spK_eq cs _
  case agg cs => exact spK_eq cs _
  case tup cs => exact spK_eq cs _
  all_goals rfl

noncomputable def hpK (H : Heap) (k : Heap → O) : O :=
  List.rec (motive := fun _ => (Heap → O) → O) (fun k => k []) (fun b _ ih k => Option.rec (motive := fun _ => ((Heap → O) → O) → (Heap → O) → O) (fun ih k => ih fun r => k (none :: r)) (fun cs ih k => spK cs fun cs => ih fun r => k (some cs :: r)) b ih k) H k
theorem hpK_eq : ∀ (H : Heap) (k : Heap → O), hpK H k = k H := by
  intro H
  induction H with
  | nil => intro k; rfl
  | cons b H ih =>
    intro k
    cases b with
    | none => exact ih _
    | some cs => exact (spK_eq cs _).trans (ih _)

end Go.AL
