/- The evaluator: calls and functions. -/
import Derived.Test.YtgkpcjahopacjaaGreatDoorAL26
namespace Go.AL
set_option linter.unusedSimpArgs false
set_option linter.unusedVariables false
open Go

def AV.ids : AV → List Nat
  | .sl id _ _ _ _ => [id]
  | .ptr id _ => [id]
  | .agg cs => idsL cs
  | .tup cs => idsL cs
  | .clo _ cs => idsL cs
  | _ => []
  where idsL : List AV → List Nat
  | [] => []
  | a :: r => a.ids ++ idsL r

def hasN : List Nat → Nat → Bool
  | [], _ => false
  | x :: r, i => match Nat.beq x i with
    | true => true
    | false => hasN r i

theorem hasN_mem : ∀ (l : List Nat) (i : Nat), hasN l i = true → i ∈ l := by
  intro l i
  induction l with
  | nil => intro h; simp [hasN] at h
  | cons x r ih =>
    intro h
    simp only [hasN] at h
    split at h
    · rename_i e; have := Nat.eq_of_beq_eq_true e; subst this; simp
    · exact List.mem_cons_of_mem _ (ih h)

def AV.inn (l : List Nat) : AV → Bool
  | .sl id _ _ _ _ => hasN l id
  | .ptr id _ => hasN l id
  | .agg cs => innL l cs
  | .tup cs => innL l cs
  | .clo _ cs => innL l cs
  | _ => true
  where innL (l : List Nat) : List AV → Bool
  | [] => true
  | a :: r => a.inn l && innL l r

def pos : List Nat → Nat → Nat
  | [], _ => 0
  | x :: r, i => if x = i then 0 else pos r i + 1

theorem pos_spec : ∀ (l : List Nat) (i : Nat), i ∈ l → ∃ h : pos l i < l.length, l[pos l i] = i := by
  intro l i
  induction l with
  | nil => intro h; simp at h
  | cons x r ih =>
    intro h
    by_cases e : x = i
    · refine ⟨by simp [pos, e], ?_⟩
      simp [pos, e]
    · have hr : i ∈ r := by
        rcases List.mem_cons.1 h with h | h
        · exact absurd h.symm e
        · exact h
      obtain ⟨h1, h2⟩ := ih hr
      refine ⟨by simp [pos, e]; omega, ?_⟩
      simp [pos, e, h2]

theorem names_pos {l : List Nat} {k i : Nat} (h : i ∈ l) : names l k (pos l i) = i := by
  obtain ⟨h1, h2⟩ := pos_spec l i h
  simp [names, h1, h2]

theorem ren_back (l : List Nat) (k : Nat) (a : AV) : a.inn l = true → (a.ren (pos l)).ren (names l k) = a ∧ (a.ren (pos l)).under l.length = true := by
  induction a using AV.rec (motive_2 := fun cs => AV.inn.innL l cs = true → AV.ren.renL (names l k) (AV.ren.renL (pos l) cs) = cs ∧ AV.under.underL l.length (AV.ren.renL (pos l) cs) = true) with
  | sl id off n sz c =>
    intro h
    simp only [AV.inn] at h
    have hm := hasN_mem _ _ h
    obtain ⟨h1, h2⟩ := pos_spec l id hm
    simp [AV.ren, AV.under, names_pos hm, h1]
  | ptr id off =>
    intro h
    simp only [AV.inn] at h
    have hm := hasN_mem _ _ h
    obtain ⟨h1, h2⟩ := pos_spec l id hm
    simp [AV.ren, AV.under, names_pos hm, h1]
  | agg cs ih => intro h; simp only [AV.inn] at h; obtain ⟨h1, h2⟩ := ih h; simp [AV.ren, AV.under, h1, h2]
  | tup cs ih => intro h; simp only [AV.inn] at h; obtain ⟨h1, h2⟩ := ih h; simp [AV.ren, AV.under, h1, h2]
  | clo f cs ih => intro h; simp only [AV.inn] at h; obtain ⟨h1, h2⟩ := ih h; simp [AV.ren, AV.under, h1, h2]
  | nil => exact ⟨rfl, rfl⟩
  | cons x r hx hr =>
    rename_i h
    simp only [AV.inn.innL, Bool.and_eq_true] at h
    obtain ⟨h1, h2⟩ := hx h.1
    obtain ⟨h3, h4⟩ := hr h.2
    simp [AV.ren.renL, AV.under.underL, h1, h2, h3, h4]
  | _ => intro _; exact ⟨rfl, rfl⟩

theorem renL_back (l : List Nat) (k : Nat) : ∀ (cs : List AV), AV.inn.innL l cs = true → (cs.map (AV.ren (pos l))).map (AV.ren (names l k)) = cs ∧ AV.under.underL l.length (cs.map (AV.ren (pos l))) = true := by
  intro cs
  induction cs with
  | nil => intro _; exact ⟨rfl, rfl⟩
  | cons x r ih =>
    intro h
    simp only [AV.inn.innL, Bool.and_eq_true] at h
    obtain ⟨h1, h2⟩ := ren_back l k x h.1
    obtain ⟨h3, h4⟩ := ih h.2
    simp only [List.map_cons, AV.under.underL, h1, h2, h3, h4]
    simp

def reach : Nat → Heap → List Nat → List Nat → List Nat
  | 0, _, done, _ => done
  | _ + 1, _, done, [] => done
  | n + 1, H, done, i :: todo => match hasN done i with
    | true => reach n H done todo
    | false => match getB H i with
      | some cs => reach n H (done ++ [i]) (AV.ids.idsL cs ++ todo)
      | none => reach n H done todo

def nodupN : List Nat → Bool
  | [] => true
  | x :: r => !hasN r x && nodupN r

theorem hasN_of_mem : ∀ (l : List Nat) (i : Nat), i ∈ l → hasN l i = true := by
  intro l i
  induction l with
  | nil => intro h; simp at h
  | cons x r ih =>
    intro h
    simp only [hasN]
    split
    · rfl
    · rename_i e
      rcases List.mem_cons.1 h with h | h
      · subst h; simp at e
      · exact ih h

theorem nodupN_spec : ∀ l : List Nat, nodupN l = true → l.Nodup := by
  intro l
  induction l with
  | nil => intro _; exact .nil
  | cons x r ih =>
    intro h
    simp only [nodupN, Bool.and_eq_true, Bool.not_eq_true'] at h
    refine List.nodup_cons.2 ⟨fun hm => ?_, ih h.2⟩
    rw [hasN_of_mem _ _ hm] at h
    simp at h

abbrev FRun := FuncId → List AV → Heap → Option (AV × Heap)

def subH (ids : List Nat) (H : Heap) : Heap := ids.map fun i => renB (pos ids) (getB H i)

def okIds (ids : List Nat) (H : Heap) : Bool :=
  nodupN ids && ids.all fun i => match getB H i with
    | some cs => AV.inn.innL ids cs
    | none => false

def callX (f0 : FRun) : Caller := fun f args H =>
  match AV.closed.closedL args with
  | true => match f0 f args [] with
    | some (v, []) => if v.closed = true then some (v, [], [], 0) else none
    | some (v, c :: r) => some (v.ren (names [] H.length), effs (names [] H.length) 0 (c :: r), [], r.length + 1)
    | none => none
  | false =>
    let ids := reach 200 H [] (AV.ids.idsL args)
    if AV.inn.innL ids args = true ∧ okIds ids H = true then
      match f0 f (args.map (AV.ren (pos ids))) (subH ids H) with
      | some (v, H') => some (v.ren (names ids H.length), effs (names ids H.length) 0 H', ids, H'.length - ids.length)
      | none => none
    else none

theorem getB_ltX {H : Heap} {i : Nat} {cs : List AV} (h : getB H i = some cs) : i < H.length ∧ H[i]? = some (some cs) := by
  unfold getB at h
  split at h
  · rename_i c e
    simp at h
    subst h
    refine ⟨?_, e⟩
    rcases Nat.lt_or_ge i H.length with h' | h'
    · exact h'
    · rw [List.getElem?_eq_none h'] at e; simp at e
  · simp at h

inductive RV where
  | t (n : Nat)
  | c (a : Nat) (ag : Bool) (sz : Nat)

def resOneB (E : Env) (H : Heap) : RV → Option AV
  | .t n => some (E n)
  | .c a ag sz => match E a with
    | .ptr id off => match getB H id with
      | some cs => need (off + sz ≤ cs.length) (some (ldv ag sz off cs))
      | none => none
    | _ => none

def resB (rs : List RV) (E : Env) (H : Heap) : Option AV :=
  match rs.mapM (resOneB E H) with
  | some [v] => some v
  | some vs => some (.tup vs)
  | none => none

def cRes (P : Program) : ResultVar → Option RV
  | .tmp t => some (.t t)
  | .cell a t => (ldSz P t).map fun x => .c a x.1 x.2

theorem resB_eq {P : Program} {E : Env} {H : Heap} : ∀ (l : List ResultVar) (rs : List RV), l.mapM (cRes P) = some rs → l.mapM (resOne P E H) = rs.mapM (resOneB E H) := by
  intro l
  induction l with
  | nil => intro rs h; simp at h; subst h; rfl
  | cons x l ih =>
    intro rs h
    rw [List.mapM_cons] at h
    cases hx : cRes P x with
    | none => simp [hx] at h
    | some y =>
      cases hl : l.mapM (cRes P) with
      | none => simp [hx, hl] at h
      | some rs' =>
        simp [hx, hl] at h
        subst h
        rw [List.mapM_cons, List.mapM_cons, ih rs' hl]
        have : resOne P E H x = resOneB E H y := by
          cases x with
          | tmp t => simp [cRes] at hx; subst hx; rfl
          | cell a t =>
            simp only [cRes, Option.map_eq_some_iff] at hx
            obtain ⟨z, hz, rfl⟩ := hx
            simp only [resOne, resOneB, hz]
            cases E a <;> rfl
        rw [this]

inductive Entry where
  | no
  | known (g : List AV → Heap → Option (AV × Heap))
  | code (c : CC) (nt : Nat) (rs : List RV) (keep : Bool)

def okOld (n0 : Nat) (H : Heap) : Bool := match n0 with
  | 0 => true
  | n + 1 => Nat.ble (n + 1) H.length && (H.take (n + 1)).all fun c => match c with
    | some cs => AV.under.underL (n + 1) cs
    | none => true

theorem okOld_spec {n0 : Nat} {H : Heap} (h : okOld n0 H = true) : n0 ≤ H.length ∧ ∀ (i : Nat) (cs : List AV), i < n0 → H[i]? = some (some cs) → AV.under.underL n0 cs = true := by
  cases n0 with
  | zero => exact ⟨by omega, fun i cs hi => by omega⟩
  | succ n =>
    simp only [okOld, Bool.and_eq_true, List.all_eq_true] at h
    refine ⟨Nat.le_of_ble_eq_true h.1, fun i cs hi e => ?_⟩
    have hm : some cs ∈ H.take (n + 1) := by
      apply List.mem_of_getElem? (i := i)
      rw [List.getElem?_take, if_pos hi]
      exact e
    exact h.2 _ hm

def finX (n0 : Nat) (keep : Bool) (v : Option AV) (H : Heap) : Option (AV × Heap) :=
  match v with
  | none => none
  | some v => match keep with
    | true => if n0 ≤ H.length then some (v, H) else none
    | false => match okOld n0 H with
      | true => match frzI n0 H 8 v with
        | some v' => some (v', H.take n0)
        | none => if v.under n0 = true then some (v, H.take n0) else none
      | false => none

theorem finX_sound {n0 : Nat} {keep : Bool} {v : AV} {H : Heap} {v' : AV} {H' : Heap} (h : finX n0 keep (some v) H = some (v', H')) : Fin n0 v H v' H' ∧ n0 ≤ H'.length := by
  simp only [finX] at h
  split at h
  · split at h
    · rename_i hl
      simp only [Option.some.injEq, Prod.mk.injEq] at h
      obtain ⟨rfl, rfl⟩ := h
      exact ⟨.keep _ _, hl⟩
    · simp at h
  · split at h
    · rename_i ho
      obtain ⟨hl, hH⟩ := okOld_spec ho
      split at h
      · rename_i x hx
        simp only [Option.some.injEq, Prod.mk.injEq] at h
        obtain ⟨rfl, rfl⟩ := h
        exact ⟨.freeze 8 _ _ _ hx hH, by simp; omega⟩
      · split at h
        · rename_i hu
          simp only [Option.some.injEq, Prod.mk.injEq] at h
          obtain ⟨rfl, rfl⟩ := h
          exact ⟨.drop _ _ hu hH, by simp; omega⟩
        · simp at h
    · simp at h

end Go.AL
