/- siegel.count as an entry of the fast evaluator: its rounds, run by the kernel. -/
import Derived.Test.YtbcjjalhomlaaaaGreatDoorRRKCT
namespace Go.Proofs.YtbcjjalhomlaaaaGreatDoorRR
set_option linter.unusedSimpArgs false
set_option linter.unusedVariables false
open Go Go.AL Go.Proofs
set_option maxRecDepth 100000

theorem nthN {l : List Nat} {i : Nat} {k : Nat → O} {R : AV × Heap} (h : nthK l i k = some R) : i < l.length ∧ k (l.getD i 0) = some R := by
  obtain ⟨a, ha, h⟩ := nthK_inv h
  have hl : i < l.length := by
    rcases Nat.lt_or_ge i l.length with h' | h'
    · exact h'
    · rw [List.getElem?_eq_none h'] at ha; simp at ha
  exact ⟨hl, by rw [List.getD_eq_getElem?_getD, ha]; exact h⟩

noncomputable def addK (M : Nat) (row : List Nat) (k : Nat) : Nat → List Nat → (List Nat → O) → O :=
  Nat.rec (motive := fun _ => Nat → List Nat → (List Nat → O) → O) (fun _ l c => c l) (fun _ ih j l c => nthK l j fun a => nthK row j fun r => natK (Nat.mod (Nat.add a r) M) fun s => putK l j s fun l => ih (Nat.succ j) l c) k
theorem addK_inv {M : Nat} {row : List Nat} {c : List Nat → O} {R : AV × Heap} : ∀ {k j : Nat} {l : List Nat}, addK M row k j l c = some R → c (addR M row k j l) = some R := by
  intro k
  induction k with
  | zero => intro j l h; exact h
  | succ k ih =>
    intro j l h
    obtain ⟨_, h⟩ := nthN (show nthK l j (fun a => nthK row j fun r => natK (Nat.mod (Nat.add a r) M) fun s => putK l j s fun l => addK M row k (Nat.succ j) l c) = some R from h)
    obtain ⟨_, h⟩ := nthN h
    rw [natK_eq, putK_eq] at h
    exact ih h

section
variable (g : List (List Nat)) (n M : Nat)
noncomputable def bumpK (k : Nat) : Nat → Nat → List Nat → List Nat → O → (Nat → List Nat → List Nat → O) → O :=
  Nat.rec (motive := fun _ => Nat → Nat → List Nat → List Nat → O → (Nat → List Nat → List Nat → O) → O) (fun _ _ _ _ z _ => z)
    (fun _ ih i norm inner x z c => nthK g i fun row => nthK inner i fun a => nthK row i fun r => natK (Nat.mod (Nat.add (Nat.add norm (Nat.mul 2 a)) r) M) fun norm => addK M row n 0 inner fun inner => nthK x i fun b =>
      bsel (Nat.ble (Nat.succ (Nat.succ b)) M) (natK (Nat.succ b) fun b => putK x i b fun x => c norm inner x) (ifK (Nat.ble M (Nat.succ b)) (putK x i 0 fun x => ih (Nat.succ i) norm inner x z c))) k
theorem bumpK_inv {z : O} {c : Nat → List Nat → List Nat → O} {R : AV × Heap} : ∀ {k i norm : Nat} {inner x : List Nat}, bumpK g n M k i norm inner x z c = some R →
    (bump g n M k i norm inner x = none ∧ z = some R) ∨ ∃ norm' inner' x', bump g n M k i norm inner x = some (norm', inner', x') ∧ c norm' inner' x' = some R := by
  intro k
  induction k with
  | zero => intro i norm inner x h; exact .inl ⟨rfl, h⟩
  | succ k ih =>
    intro i norm inner x h
    obtain ⟨row, hrow, h⟩ := nthK_inv (show nthK g i (fun row => nthK inner i fun a => nthK row i fun r => natK (Nat.mod (Nat.add (Nat.add norm (Nat.mul 2 a)) r) M) fun norm => addK M row n 0 inner fun inner => nthK x i fun b =>
      bsel (Nat.ble (Nat.succ (Nat.succ b)) M) (natK (Nat.succ b) fun b => putK x i b fun x => c norm inner x) (ifK (Nat.ble M (Nat.succ b)) (putK x i 0 fun x => bumpK g n M k (Nat.succ i) norm inner x z c))) = some R from h)
    have hg : g.getD i [] = row := by rw [List.getD_eq_getElem?_getD, hrow]; rfl
    obtain ⟨_, h⟩ := nthN h
    obtain ⟨_, h⟩ := nthN h
    rw [natK_eq] at h
    have h := addK_inv h
    obtain ⟨_, h⟩ := nthN h
    rw [← hg] at h
    simp only [bump]
    rcases bsel_inv h with ⟨hb, h⟩ | h
    · rw [Nat.ble_eq] at hb
      rw [natK_eq, putK_eq] at h
      rw [if_pos (by omega)]
      exact .inr ⟨_, _, _, rfl, h⟩
    · obtain ⟨hb, h⟩ := ifK_inv h
      rw [Nat.ble_eq] at hb
      rw [putK_eq] at h
      rw [if_neg (by omega), List.set_set]
      exact ih h
noncomputable def incK (l : List Nat) (i : Nat) (k : List Nat → O) : O :=
  List.rec (motive := fun _ => Nat → (List Nat → O) → O) (fun _ _ => none)
    (fun a r ih i k => Nat.rec (motive := fun _ => Nat → List Nat → (Nat → (List Nat → O) → O) → (List Nat → O) → O) (fun a r _ k => natK (Nat.succ a) fun a => k (a :: r)) (fun p _ a _ ih k => ih p fun r => k (a :: r)) i a r ih k) l i k
theorem incK_inv {R : AV × Heap} : ∀ {l : List Nat} {i : Nat} {k : List Nat → O}, incK l i k = some R → k (l.set i (l.getD i 0 + 1)) = some R := by
  intro l
  induction l with
  | nil => intro i k h; exact absurd (show (none : O) = some R from h) (by simp)
  | cons a l ih =>
    intro i k h
    cases i with
    | zero =>
      have h : natK (Nat.succ a) (fun a => k (a :: l)) = some R := h
      rw [natK_eq] at h
      exact h
    | succ i => exact ih (show incK l i (fun r => k (a :: r)) = some R from h)
noncomputable def runK (f : Nat) : List Nat → Nat → List Nat → List Nat → (List Nat → O) → O :=
  Nat.rec (motive := fun _ => List Nat → Nat → List Nat → List Nat → (List Nat → O) → O) (fun _ _ _ _ _ => none)
    (fun _ ih cts norm inner x k => incK cts norm fun cts => bumpK g n M n 0 norm inner x (k cts) fun norm inner x => ih cts norm inner x k) f
theorem runK_inv {k : List Nat → O} {R : AV × Heap} : ∀ {f : Nat} {cts : List Nat} {norm : Nat} {inner x : List Nat}, runK g n M f cts norm inner x k = some R → ∃ fin, runC g n M f cts norm inner x = some fin ∧ k fin = some R := by
  intro f
  induction f with
  | zero => intro cts norm inner x h; exact absurd (show (none : O) = some R from h) (by simp)
  | succ f ih =>
    intro cts norm inner x h
    have h := incK_inv (show incK cts norm (fun cts => bumpK g n M n 0 norm inner x (k cts) fun norm inner x => runK g n M f cts norm inner x k) = some R from h)
    rcases bumpK_inv g n M h with ⟨hb, h⟩ | ⟨norm', inner', x', hb, h⟩
    · exact ⟨_, by simp only [runC, hb], h⟩
    · obtain ⟨fin, h1, h2⟩ := ih h
      exact ⟨fin, by simp only [runC, hb]; exact h1, h2⟩
end

theorem runC_len {g : List (List Nat)} {n M : Nat} {fin : List Nat} : ∀ {f : Nat} {cts : List Nat} {norm : Nat} {inner x : List Nat}, runC g n M f cts norm inner x = some fin → fin.length = cts.length := by
  intro f
  induction f with
  | zero => intro cts norm inner x h; simp [runC] at h
  | succ f ih =>
    intro cts norm inner x h
    simp only [runC] at h
    split at h
    · simp at h; subst h; simp
    · exact (ih h).trans (by simp)

noncomputable def natI (v : Int) (k : Nat → O) : O := Int.rec (motive := fun _ => (Nat → O) → O) (fun m k => k m) (fun _ _ => none) v k
theorem natI_inv {v : Int} {k : Nat → O} {R : AV × Heap} (h : natI v k = some R) : ∃ m : Nat, v = (m : Int) ∧ k m = some R := by
  cases v with
  | ofNat m => exact ⟨m, rfl, h⟩
  | negSucc m => exact absurd (show (none : O) = some R from h) (by simp)
noncomputable def rowK (M : Nat) (cs : List AV) : (List Nat → O) → O :=
  List.rec (motive := fun _ => (List Nat → O) → O) (fun k => k []) (fun a _ ih k => onInt a fun kd v => sameK kd .i64 (natI v fun m => ifK (Nat.ble (Nat.succ m) M) (ih fun r => k (m :: r)))) cs
theorem rowK_inv {M : Nat} {R : AV × Heap} : ∀ {cs : List AV} {k : List Nat → O}, rowK M cs k = some R → ∃ l, cs = ints l ∧ (∀ a ∈ l, a < M) ∧ k l = some R := by
  intro cs
  induction cs with
  | nil => intro k h; exact ⟨[], rfl, by simp, h⟩
  | cons a cs ih =>
    intro k h
    obtain ⟨kd, v, rfl, h⟩ := onInt_inv (show onInt a (fun kd v => sameK kd .i64 (natI v fun m => ifK (Nat.ble (Nat.succ m) M) (rowK M cs fun r => k (m :: r)))) = some R from h)
    have e := (sameK_inv h).1
    replace h := (sameK_inv h).2
    subst e
    obtain ⟨m, hv, h5⟩ := natI_inv h
    obtain ⟨hm, h6⟩ := ifK_inv h5
    rw [Nat.ble_eq] at hm
    obtain ⟨l, rfl, h2, h3⟩ := ih h6
    subst hv
    refine ⟨m :: l, rfl, ?_, h3⟩
    intro a ha
    rcases List.mem_cons.1 ha with rfl | ha
    · exact hm
    · exact h2 a ha
noncomputable def onVec (v : AV) (k : List AV → Nat → O) : O := onSl v (fun _ _ _ _ _ => none) (fun cs n _ => k cs n)
noncomputable def matK (n M : Nat) (rows : List AV) : (List (List Nat) → O) → O :=
  List.rec (motive := fun _ => (List (List Nat) → O) → O) (fun k => k []) (fun a _ ih k => onVec a fun cs m => ifK (Nat.beq m n) (rowK M cs fun r => ifK (Nat.beq r.length n) (ih fun g => k (r :: g)))) rows
theorem matK_inv {n M : Nat} {R : AV × Heap} : ∀ {rows : List AV} {k : List (List Nat) → O}, matK n M rows k = some R → ∃ g : List (List Nat), (∀ i, i < rows.length → (∃ c, rows[i]? = some (.vec (ints (g.getD i [])) n c)) ∧ (g.getD i []).length = n ∧ ∀ a ∈ g.getD i [], a < M) ∧ k g = some R := by
  intro rows
  induction rows with
  | nil => intro k h; exact ⟨[], by simp, h⟩
  | cons a rows ih =>
    intro k h
    rcases onSl_inv (show onSl a (fun _ _ _ _ _ => none) (fun cs m _ => ifK (Nat.beq m n) (rowK M cs fun r => ifK (Nat.beq r.length n) (matK n M rows fun g => k (r :: g)))) = some R from h) with ⟨_, _, _, _, _, _, h⟩ | ⟨cs, m, c, rfl, h⟩
    · simp at h
    · obtain ⟨hm, h⟩ := ifK_inv h
      have hm := Nat.eq_of_beq_eq_true hm
      subst hm
      obtain ⟨l, rfl, hl, h⟩ := rowK_inv h
      obtain ⟨hll, h⟩ := ifK_inv h
      have hll := Nat.eq_of_beq_eq_true hll
      obtain ⟨g, hg, h⟩ := ih h
      refine ⟨l :: g, fun i hi => ?_, h⟩
      cases i with
      | zero => exact ⟨⟨c, rfl⟩, hll, hl⟩
      | succ i =>
        obtain ⟨⟨c', h1⟩, h2, h3⟩ := hg i (by simpa using hi)
        exact ⟨⟨c', by simpa using h1⟩, by simpa using h2, by simpa using h3⟩

noncomputable def hd2 (l : List AV) (k : AV → AV → O) : O :=
  List.rec (motive := fun _ => (AV → AV → O) → O) (fun _ => none) (fun a r _ k => List.rec (motive := fun _ => AV → (AV → AV → O) → O) (fun _ _ => none) (fun b r _ a k => List.rec (motive := fun _ => AV → AV → (AV → AV → O) → O) (fun a b k => k a b) (fun _ _ _ _ _ _ => none) r a b k) r a k) l k
theorem hd2_inv {l : List AV} {k : AV → AV → O} {R : AV × Heap} (h : hd2 l k = some R) : ∃ a b, l = [a, b] ∧ k a b = some R := by
  match l, h with
  | [], h => exact absurd (show (none : O) = some R from h) (by simp)
  | [a], h => exact absurd (show (none : O) = some R from h) (by simp)
  | [a, b], h => exact ⟨a, b, rfl, h⟩
  | a :: b :: c :: r, h => exact absurd (show (none : O) = some R from h) (by simp)
noncomputable def nilK (H : Heap) (x : O) : O := List.rec (motive := fun _ => O → O) (fun x => x) (fun _ _ _ _ => none) H x
theorem nilK_inv {H : Heap} {x : O} {R : AV × Heap} (h : nilK H x = some R) : H = [] ∧ x = some R := by
  cases H with
  | nil => exact ⟨rfl, h⟩
  | cons a r => exact absurd (show (none : O) = some R from h) (by simp)

end Go.Proofs.YtbcjjalhomlaaaaGreatDoorRR
