/- The fast evaluator: operations. -/
import Derived.Test.YtgkpcjahopacjaaGreatDoorAL32
namespace Go.AL
set_option linter.unusedSimpArgs false
set_option linter.unusedVariables false
open Go

inductive Dg where
  | d0
  | d1
  | d2
  | d3
  | d4
  | d5
  | d6
  | d7
  | d8
  | d9
  | d10
  | d11
  | d12
  | d13
  | d14
  | d15

def dg : Nat → Dg
  | 0 => .d0
  | 1 => .d1
  | 2 => .d2
  | 3 => .d3
  | 4 => .d4
  | 5 => .d5
  | 6 => .d6
  | 7 => .d7
  | 8 => .d8
  | 9 => .d9
  | 10 => .d10
  | 11 => .d11
  | 12 => .d12
  | 13 => .d13
  | 14 => .d14
  | _ => .d15

section
variable {α : Type}
noncomputable def N16.sel (t : N16 α) (d : Dg) : α := Dg.rec (motive := fun _ => N16 α → α) (fun t => t.a0) (fun t => t.a1) (fun t => t.a2) (fun t => t.a3) (fun t => t.a4) (fun t => t.a5) (fun t => t.a6) (fun t => t.a7) (fun t => t.a8) (fun t => t.a9) (fun t => t.a10) (fun t => t.a11) (fun t => t.a12) (fun t => t.a13) (fun t => t.a14) (fun t => t.a15) d t
theorem N16.sel_dg (t : N16 α) : ∀ i, i < 16 → t.sel (dg i) = t.nth i
  | 0, _ => rfl
  | 1, _ => rfl
  | 2, _ => rfl
  | 3, _ => rfl
  | 4, _ => rfl
  | 5, _ => rfl
  | 6, _ => rfl
  | 7, _ => rfl
  | 8, _ => rfl
  | 9, _ => rfl
  | 10, _ => rfl
  | 11, _ => rfl
  | 12, _ => rfl
  | 13, _ => rfl
  | 14, _ => rfl
  | 15, _ => rfl
  | n + 16, h => absurd h (by omega)
end

abbrev FR := Dg → Dg → Dg → List AV → Heap → O
abbrev Kn := E16 → Heap → O
abbrev Kx := Exit → E16 → Heap → O
abbrev OR := FR → Nat → Kn → E16 → Heap → O
abbrev RunT := FR → Nat → Kn → Kx → E16 → Heap → O

def frun (c : FR) : FRun := fun f args H => match Nat.blt f 4096 with
  | true => c (dg (f / 256)) (dg (f / 16 % 16)) (dg (f % 16)) args H
  | false => none

def opBE (ok : FuncId → Bool) (call : Caller) (n0 : Nat) (k : CK) (E : Env) (H : Heap) : Option CRes :=
  match k with
  | .call f args => call f (args.map (val E)) H
  | .callc x args => match val E x with
    | .clo f caps => if okC ok f = true then call (cloF f) (cloA f (args.map (val E)) caps) H else none
    | _ => none
  | k => match evK n0 H.length k (val E) H with
    | some (v, e, rd) => some (v, e, rd, cntK k)
    | none => none

inductive CallS (f0 : FRun) (f : FuncId) (args : List AV) (H : Heap) : AV → Eff → List Nat → Nat → Prop
  | pure (v : AV) (h1 : AV.closed.closedL args = true) (h2 : f0 f args [] = some (v, [])) (h3 : v.closed = true) : CallS f0 f args H v [] [] 0
  | gen (ids : List Nat) (v : AV) (H' : Heap) (h1 : AV.inn.innL ids args = true) (h2 : okIds ids H = true) (h3 : f0 f (args.map (AV.ren (pos ids))) (subH ids H) = some (v, H')) :
      CallS f0 f args H (v.ren (names ids H.length)) (effs (names ids H.length) 0 H') ids (H'.length - ids.length)
  | thin {v : AV} {e : Eff} {rd : List Nat} {c : Nat} (p : Nat → Bool) (h : CallS f0 f args H v e rd c) (hp : ∀ x ∈ e, p x.1 = false → x.1 ∈ rd ∧ ∃ cs, x.2 = some cs ∧ getB H x.1 = some cs) : CallS f0 f args H v (e.filter fun x => p x.1) rd c

theorem CallS.sound {P : Program} {Γ : Glob} {f0 : FRun} (h0 : ∀ f args H v H', f0 f args H = some (v, H') → Ret P Γ f args H v H') {f : FuncId} {args : List AV} {H : Heap} {v : AV} {e : Eff} {rd : List Nat} {c : Nat} (h : CallS f0 f args H v e rd c) :
    CallR P Γ f args H.length (H ++ List.replicate c none) v e rd c := by
  induction h with
  | thin p h hp ih => exact .thin p ih (fun x hx hpx => by obtain ⟨h1, cs, h2, h3⟩ := hp x hx hpx; exact ⟨h1, cs, h2, by rw [getB_pad]; exact h3⟩)
  | pure v h1 h2 h3 => exact CallR.pure (h0 _ _ _ _ _ h2) h1 h3
  | gen rd v H' h1 h2 hr =>
    simp only [okIds, Bool.and_eq_true, List.all_eq_true] at h2
    obtain ⟨h2, h3⟩ := h2
    have hblk : ∀ i ∈ rd, ∃ cs, getB H i = some cs ∧ AV.inn.innL rd cs = true := by
      intro i hi
      have := h3 i hi
      split at this
      · rename_i cs e; exact ⟨cs, e, this⟩
      · simp at this
    obtain ⟨g1, g2⟩ := renL_back rd H.length args h1
    have hl : (subH rd H).length = rd.length := by simp [subH]
    have := CallR0.mk (P := P) (Γ := Γ) (f := f) (args := args) (k := H.length) (H := H ++ List.replicate (H'.length - rd.length) none) rd (args.map (AV.ren (pos rd))) (subH rd H) v H' (h0 _ _ _ _ _ hr) hl.symm (nodupN_spec _ h2)
      (fun i hi => by obtain ⟨cs, e, _⟩ := hblk i hi; exact (getB_ltX e).1) g1.symm g2 (by
        intro i c hi
        simp only [subH, List.getElem?_map, Option.map_eq_some_iff] at hi
        obtain ⟨j, hj, rfl⟩ := hi
        have hil : i < rd.length := by
          rcases Nat.lt_or_ge i rd.length with h' | h'
          · exact h'
          · rw [List.getElem?_eq_none h'] at hj; simp at hj
        have hjm : j ∈ rd := List.mem_of_getElem? hj
        obtain ⟨cs, e, hin⟩ := hblk j hjm
        obtain ⟨b1, b2⟩ := renL_back rd H.length cs hin
        refine ⟨cs.map (AV.ren (pos rd)), by rw [e]; rfl, b2, ?_⟩
        have hn : names rd H.length i = j := by
          rw [List.getElem?_eq_getElem hil] at hj
          simp at hj
          simp [names, hil, hj]
        rw [hn, List.getElem?_append_left (getB_ltX e).1, (getB_ltX e).2, e]
        simp only [renB, b1])
    rw [hl] at this
    exact .base this

theorem callX_S {f0 : FRun} {f : FuncId} {args : List AV} {H : Heap} {v : AV} {e : Eff} {rd : List Nat} {c : Nat} (h : callX f0 f args H = some (v, e, rd, c)) : CallS f0 f args H v e rd c := by
  unfold callX at h
  split at h
  · rename_i ha
    split at h
    · rename_i v' hr
      split at h
      · rename_i hcl
        simp only [Option.some.injEq, Prod.mk.injEq] at h
        obtain ⟨rfl, rfl, rfl, rfl⟩ := h
        exact .pure _ ha hr hcl
      · simp at h
    · rename_i v' b r hr
      simp only [Option.some.injEq, Prod.mk.injEq] at h
      obtain ⟨rfl, rfl, rfl, rfl⟩ := h
      have inn0 : ∀ l : List AV, AV.closed.closedL l = true → AV.inn.innL [] l = true := by
        have one : ∀ a : AV, a.closed = true → a.inn [] = true := by
          intro a
          induction a using AV.rec (motive_2 := fun l => AV.closed.closedL l = true → AV.inn.innL [] l = true) with
          | sl id off n sz c => intro h; simp [AV.closed] at h
          | ptr id off => intro h; simp [AV.closed] at h
          | clo f cs ih => intro h; simp only [AV.closed] at h; simp only [AV.inn]; exact ih h
          | agg cs ih => intro h; simp only [AV.closed] at h; simp only [AV.inn]; exact ih h
          | tup cs ih => intro h; simp only [AV.closed] at h; simp only [AV.inn]; exact ih h
          | nil => rfl
          | cons a l ha hl =>
            rename_i h
            simp only [AV.closed.closedL, Bool.and_eq_true] at h
            simp only [AV.inn.innL, Bool.and_eq_true]
            exact ⟨ha h.1, hl h.2⟩
          | _ => intro _; rfl
        intro l
        induction l with
        | nil => intro _; rfl
        | cons a l ih =>
          intro h
          simp only [AV.closed.closedL, Bool.and_eq_true] at h
          simp only [AV.inn.innL, Bool.and_eq_true]
          exact ⟨one a h.1, ih h.2⟩
      exact .gen [] v' (b :: r) (inn0 _ ha) rfl (by rw [map_ren_closed _ _ ha]; exact hr)
    · simp at h
  · simp only at h
    generalize hids : reach 200 H [] (AV.ids.idsL args) = ids at h
    split at h
    · rename_i hok
      split at h
      · rename_i v' H' hr
        simp only [Option.some.injEq, Prod.mk.injEq] at h
        obtain ⟨rfl, rfl, rfl, rfl⟩ := h
        exact .gen ids v' H' hok.1 hok.2 hr
      · simp at h
    · simp at h

def opBP (ok : FuncId → Bool) (f0 : FRun) (n0 : Nat) (k : CK) (E : Env) (H : Heap) (v : AV) (e : Eff) (rd : List Nat) (c : Nat) : Prop :=
  match k with
  | .call f args => CallS f0 f (args.map (val E)) H v e rd c
  | .callc x args => ∃ f caps, val E x = .clo f caps ∧ okC ok f = true ∧ CallS f0 (cloF f) (cloA f (args.map (val E)) caps) H v e rd c
  | k => evK n0 H.length k (val E) H = some (v, e, rd) ∧ c = cntK k

def opSP (ok : FuncId → Bool) (f0 : FRun) (n0 : Nat) (o : COp) (E : Env) (H : Heap) (v : AV) (e : Eff) (rd : List Nat) (c : Nat) : Prop :=
  match o.g with
  | none => opBP ok f0 n0 o.k E H v e rd c
  | some (d, want) => ∃ b, gdB (E d) want = some b ∧ (b = true → opBP ok f0 n0 o.k E H v e rd c) ∧ (b = false → v = .tup [] ∧ e = [] ∧ rd = [] ∧ c = 0)

theorem opBE_P {ok : FuncId → Bool} {f0 : FRun} {n0 : Nat} {k : CK} {E : Env} {H : Heap} {v : AV} {e : Eff} {rd : List Nat} {c : Nat} (h : opBE ok (callX f0) n0 k E H = some (v, e, rd, c)) : opBP ok f0 n0 k E H v e rd c := by
  cases k <;> simp only [opBE] at h
  case call f args => exact callX_S h
  case callc x args =>
    split at h
    · rename_i f caps hx
      split at h
      · rename_i ho; exact ⟨f, caps, hx, ho, callX_S h⟩
      · simp at h
    · simp at h
  all_goals
    split at h
    · rename_i v' e' rd' hev
      simp only [Option.some.injEq, Prod.mk.injEq] at h
      obtain ⟨rfl, rfl, rfl, rfl⟩ := h
      exact ⟨hev, rfl⟩
    · simp at h

def Good (ok : FuncId → Bool) (o : COp) (f : OR → OR) : Prop := ∀ next c n kn E H R, f next c n kn E H = some R →
  ∃ v e rd cc, opSP ok (frun c) n o (E16.env E) H v e rd cc ∧ next c n kn (E16.setO E o.dst v) (applyE e (padH H cc)) = some R

section
variable {ok : FuncId → Bool} {dd : Option Nat}

theorem good_ev {k : CK} {c : FR} {n : Nat} {kn : Kn} {E : E16} {H : Heap} {R : AV × Heap} {next : OR} {v : AV} {e : Eff} {rd : List Nat} (hev : evK n H.length k (val E.env) H = some (v, e, rd)) (h : next c n kn (E.setO dd v) (applyE e (padH H (cntK k))) = some R) :
    ∃ v e rd cc, opSP ok (frun c) n ⟨dd, none, k⟩ E.env H v e rd cc ∧ next c n kn (E.setO dd v) (applyE e (padH H cc)) = some R := by
  refine ⟨v, e, rd, cntK k, ?_, h⟩
  simp only [opSP]
  cases k <;> first | (simp [evK] at hev; done) | exact ⟨hev, rfl⟩

theorem good_pure {k : CK} {c : FR} {n : Nat} {kn : Kn} {E : E16} {H : Heap} {R : AV × Heap} {next : OR} {v : AV} {rd : List Nat} (hc : cntK k = 0) (hev : evK n H.length k (val E.env) H = some (v, [], rd)) (h : next c n kn (E.setO dd v) H = some R) :
    ∃ v e rd cc, opSP ok (frun c) n ⟨dd, none, k⟩ E.env H v e rd cc ∧ next c n kn (E.setO dd v) (applyE e (padH H cc)) = some R :=
  good_ev hev (by rw [hc]; exact h)

noncomputable def o_mov (d : ST) (x : GT) (next : OR) : OR := fun c n kn E H => fv (x E) fun v => d E v fun E => next c n kn E H
theorem good_mov (hd : okD dd = true) (x : Opd) : Good ok ⟨dd, none, .mov x⟩ (o_mov (trD dd) (trG x)) := by
  intro next c n kn E H R h
  simp only [o_mov, fv_eq, trD_eq hd, trG_eq] at h
  exact good_pure rfl (by simp only [evK]; rfl) h

noncomputable def pickV (t : Bool) (a b : AV) : AV := Bool.rec (motive := fun _ => AV → AV → AV) (fun _ b => b) (fun a _ => a) t a b
theorem pickV_eq (t : Bool) (a b : AV) : pickV t a b = if t then a else b := by cases t <;> rfl
noncomputable def o_pick (d : ST) (x a b : GT) (next : OR) : OR := fun c n kn E H => onBool (x E) fun t => fv (pickV t (a E) (b E)) fun v => d E v fun E => next c n kn E H
theorem good_pick (hd : okD dd = true) (x a b : Opd) : Good ok ⟨dd, none, .pick x a b⟩ (o_pick (trD dd) (trG x) (trG a) (trG b)) := by
  intro next c n kn E H R h
  obtain ⟨t, ht, h⟩ := onBool_inv h
  rw [trG_eq] at ht
  simp only [fv_eq, trD_eq hd, trG_eq, pickV_eq] at h
  exact good_pure rfl (by simp only [evK, ht]; rfl) h

noncomputable def boxK (v : AV) (k : List AV → O) : O := AV.rec (motive_1 := fun _ => (List AV → O) → O) (motive_2 := fun _ => Unit) (fun b k => k [.bool b]) (fun a b k => k [.int a b]) (fun s k => k [.str s]) (fun cs n c _ k => k [.vec cs n c]) (fun a b c d e k => k [.sl a b c d e]) (fun a b k => k [.ptr a b]) (fun cs p _ k => k [.iptr cs p]) (fun f cs _ k => k [.clo f cs]) (fun cs _ k => k cs) (fun _ _ _ => none) (fun k => k [.anyb]) (fun _ => none) () (fun _ _ _ _ => ()) v k
theorem boxK_inv {v : AV} {k : List AV → O} {R : AV × Heap} (h : boxK v k = some R) : v.firm = true ∧ k v.cells = some R := by
  cases v <;> first | exact ⟨rfl, h⟩ | (simp [boxK] at h)
theorem set_snoc (H : Heap) (x : Option (List AV)) : (padH H 1).set H.length x = H ++ [x] := by
  simp [padH]
noncomputable def o_box (d : ST) (x : GT) (next : OR) : OR := fun c n kn E H => boxK (x E) fun cs => lenK H fun m => snocK H (some cs) fun H' => d E (.ptr m 0) fun E => next c n kn E H'
theorem good_box (hd : okD dd = true) (x : Opd) : Good ok ⟨dd, none, .box x⟩ (o_box (trD dd) (trG x)) := by
  intro next c n kn E H R h
  obtain ⟨hf, h⟩ := boxK_inv h
  simp only [trG_eq] at hf h
  simp only [lenK_eq, snocK_eq, trD_eq hd] at h
  exact good_ev (v := .ptr H.length 0) (e := [(H.length, some (val E.env x).cells)]) (rd := []) (by simp only [evK, hf, need, if_true]) (by simp only [cntK, applyE, set_snoc]; exact h)

noncomputable def o_load (d : ST) (x : GT) (next : OR) : OR := fun c n kn E H => onPtr (x E) (fun id off => blkK H id fun cs => nthK cs off fun v => d E v fun E => next c n kn E H) (fun cs p => nthK cs p fun v => d E v fun E => next c n kn E H)
theorem good_load (hd : okD dd = true) (x : Opd) : Good ok ⟨dd, none, .load false 1 x⟩ (o_load (trD dd) (trG x)) := by
  intro next c n kn E H R h
  have key : ∀ (cs : List AV) (p : Nat) (v : AV), cs[p]? = some v → p + 1 ≤ cs.length ∧ ldv false 1 p cs = v := by
    intro cs p v hv
    have hl : p < cs.length := by
      rcases Nat.lt_or_ge p cs.length with h' | h'
      · exact h'
      · rw [List.getElem?_eq_none h'] at hv; simp at hv
    exact ⟨hl, by simp [ldv, List.getD_eq_getElem?_getD, hv]⟩
  rcases onPtr_inv h with ⟨id, off, hx, h⟩ | ⟨cs, p, hx, h⟩
  · obtain ⟨cs, hg, h⟩ := blkK_inv h
    obtain ⟨v, hv, h⟩ := nthK_inv h
    rw [trG_eq] at hx
    rw [trD_eq hd] at h
    obtain ⟨h1, h2⟩ := key _ _ _ hv
    exact good_pure rfl (by simp only [evK, hx, hg, need, h1, h2]; simp; rfl) h
  · obtain ⟨v, hv, h⟩ := nthK_inv h
    rw [trG_eq] at hx
    rw [trD_eq hd] at h
    obtain ⟨h1, h2⟩ := key _ _ _ hv
    exact good_pure rfl (by simp only [evK, hx, need, h1, h2]; simp; rfl) h

noncomputable def takeK (l : List AV) (n : Nat) (k : List AV → O) : O :=
  List.rec (motive := fun _ => Nat → (List AV → O) → O) (fun n k => Nat.rec (motive := fun _ => (List AV → O) → O) (fun k => k []) (fun _ _ _ => none) n k)
    (fun a _ ih n k => Nat.rec (motive := fun _ => AV → (Nat → (List AV → O) → O) → (List AV → O) → O) (fun _ _ k => k []) (fun p _ a ih k => ih p fun r => k (a :: r)) n a ih k) l n k
theorem takeK_inv : ∀ {l : List AV} {n : Nat} {k : List AV → O} {R : AV × Heap}, takeK l n k = some R → n ≤ l.length ∧ k (l.take n) = some R := by
  intro l
  induction l with
  | nil =>
    intro n k R h
    cases n with
    | zero => exact ⟨Nat.le_refl _, h⟩
    | succ n => simp [takeK] at h
  | cons a l ih =>
    intro n k R h
    cases n with
    | zero => exact ⟨Nat.zero_le _, h⟩
    | succ n =>
      obtain ⟨h1, h2⟩ := ih (show takeK l n (fun r => k (a :: r)) = some R from h)
      exact ⟨by simp; omega, by simpa using h2⟩
noncomputable def cutK (l : List AV) (off n : Nat) (k : List AV → O) : O :=
  List.rec (motive := fun _ => Nat → Nat → (List AV → O) → O) (fun off n k => Nat.rec (motive := fun _ => Nat → (List AV → O) → O) (fun n k => takeK [] n k) (fun _ _ _ _ => none) off n k)
    (fun a r ih off n k => Nat.rec (motive := fun _ => AV → List AV → (Nat → Nat → (List AV → O) → O) → Nat → (List AV → O) → O) (fun a r _ n k => takeK (a :: r) n k) (fun p _ _ _ ih n k => ih p n k) off a r ih n k) l off n k
theorem cutK_inv : ∀ {l : List AV} {off n : Nat} {k : List AV → O} {R : AV × Heap}, cutK l off n k = some R → off + n ≤ l.length ∧ k ((l.drop off).take n) = some R := by
  intro l
  induction l with
  | nil =>
    intro off n k R h
    cases off with
    | zero =>
      obtain ⟨h1, h2⟩ := takeK_inv (show takeK [] n k = some R from h)
      exact ⟨by simpa using h1, by simpa using h2⟩
    | succ off => simp [cutK] at h
  | cons a l ih =>
    intro off n k R h
    cases off with
    | zero =>
      obtain ⟨h1, h2⟩ := takeK_inv (show takeK (a :: l) n k = some R from h)
      exact ⟨by omega, by simpa using h2⟩
    | succ off =>
      obtain ⟨h1, h2⟩ := ih (show cutK l off n k = some R from h)
      exact ⟨by simp; omega, by simpa using h2⟩

noncomputable def o_loada (sz : Nat) (d : ST) (x : GT) (next : OR) : OR := fun c n kn E H => onPtr (x E) (fun id off => blkK H id fun cs => cutK cs off sz fun v => d E (.agg v) fun E => next c n kn E H) (fun cs p => cutK cs p sz fun v => d E (.agg v) fun E => next c n kn E H)
theorem good_loada (hd : okD dd = true) (sz : Nat) (x : Opd) : Good ok ⟨dd, none, .load true sz x⟩ (o_loada sz (trD dd) (trG x)) := by
  intro next c n kn E H R h
  rcases onPtr_inv h with ⟨id, off, hx, h⟩ | ⟨cs, p, hx, h⟩
  · obtain ⟨cs, hg, h⟩ := blkK_inv h
    obtain ⟨h1, h⟩ := cutK_inv h
    rw [trG_eq] at hx
    rw [trD_eq hd] at h
    exact good_pure rfl (by simp only [evK, hx, hg, need, h1, ldv]; simp; rfl) h
  · obtain ⟨h1, h⟩ := cutK_inv h
    rw [trG_eq] at hx
    rw [trD_eq hd] at h
    exact good_pure rfl (by simp only [evK, hx, need, h1, ldv]; simp; rfl) h

noncomputable def scK (v : AV) (k : AV → O) : O := AV.rec (motive_1 := fun _ => (AV → O) → O) (motive_2 := fun _ => Unit) (fun b k => k (.bool b)) (fun a b k => k (.int a b)) (fun s k => k (.str s)) (fun cs n c _ k => k (.vec cs n c)) (fun a b c d e k => k (.sl a b c d e)) (fun a b k => k (.ptr a b)) (fun cs p _ k => k (.iptr cs p)) (fun f cs _ k => k (.clo f cs)) (fun _ _ _ => none) (fun _ _ _ => none) (fun k => k .anyb) (fun _ => none) () (fun _ _ _ _ => ()) v k
theorem scK_inv {v : AV} {k : AV → O} {R : AV × Heap} (h : scK v k = some R) : v.firm = true ∧ v.cells = [v] ∧ v.scal = true ∧ k v = some R := by
  cases v <;> first | exact ⟨rfl, rfl, rfl, h⟩ | (simp [scK] at h)
noncomputable def sc2K (v : AV) (k : AV → O) : O := AV.rec (motive_1 := fun _ => (AV → O) → O) (motive_2 := fun _ => Unit) (fun b k => k (.bool b)) (fun a b k => k (.int a b)) (fun s k => k (.str s)) (fun cs n c _ k => k (.vec cs n c)) (fun a b c d e k => k (.sl a b c d e)) (fun a b k => k (.ptr a b)) (fun cs p _ k => k (.iptr cs p)) (fun f cs _ k => k (.clo f cs)) (fun cs _ k => List.rec (motive := fun _ => (AV → O) → O) (fun _ => none) (fun x r _ k => List.rec (motive := fun _ => AV → (AV → O) → O) (fun x k => scK x k) (fun _ _ _ _ _ => none) r x k) cs k) (fun _ _ _ => none) (fun k => k .anyb) (fun _ => none) () (fun _ _ _ _ => ()) v k
theorem sc2K_inv {v : AV} {k : AV → O} {R : AV × Heap} (h : sc2K v k = some R) : ∃ x, v.firm = true ∧ v.cells = [x] ∧ x.scal = true ∧ k x = some R := by
  cases v <;> first | exact ⟨_, rfl, rfl, rfl, h⟩ | skip
  case agg cs =>
    cases cs with
    | nil => exact absurd (show (none : O) = some R from h) (by simp)
    | cons x r =>
      cases r with
      | cons y r => exact absurd (show (none : O) = some R from h) (by simp)
      | nil =>
        obtain ⟨_, _, h3, h4⟩ := scK_inv (show scK x k = some R from h)
        exact ⟨x, rfl, rfl, h3, h4⟩
  all_goals exact absurd (show (none : O) = some R from h) (by simp)
noncomputable def o_store (x y : GT) (next : OR) : OR := fun c n kn E H => onPtr (x E) (fun id off => blkK H id fun cs => sc2K (y E) fun w => nthK cs off fun _ => putK cs off w fun cs => putK H id (some cs) fun H => next c n kn E H) (fun _ _ => none)
theorem good_store (x y : Opd) : Good ok ⟨none, none, .store 1 x y⟩ (o_store (trG x) (trG y)) := by
  intro next c n kn E H R h
  rcases onPtr_inv h with ⟨id, off, hx, h⟩ | ⟨cs, p, hx, h⟩
  · obtain ⟨cs, hg, h⟩ := blkK_inv h
    obtain ⟨z, h1, h2, h3, h⟩ := sc2K_inv h
    obtain ⟨v, hv, h⟩ := nthK_inv h
    rw [trG_eq] at hx
    rw [trG_eq] at h1 h2
    simp only [putK_eq] at h
    have hl : off < cs.length := by
      rcases Nat.lt_or_ge off cs.length with h' | h'
      · exact h'
      · rw [List.getElem?_eq_none h'] at hv; simp at hv
    refine good_ev (v := .junk) (e := [(id, some (cs.set off z))]) (rd := [id]) ?_ (by simp only [cntK, padH, applyE, E16.setO]; exact h)
    simp only [evK, hx, hg, need, h1, h2, AV.scalL, h3, setL]
    simp
    omega
  · simp at h

noncomputable def o_nilck (d : ST) (x : GT) (next : OR) : OR := fun c n kn E H => onPtr (x E) (fun a b => d E (.ptr a b) fun E => next c n kn E H) (fun a b => d E (.iptr a b) fun E => next c n kn E H)
theorem good_nilck (hd : okD dd = true) (x : Opd) : Good ok ⟨dd, none, .nilck x⟩ (o_nilck (trD dd) (trG x)) := by
  intro next c n kn E H R h
  rcases onPtr_inv h with ⟨id, off, hx, h⟩ | ⟨cs, p, hx, h⟩ <;> rw [trG_eq] at hx <;> rw [trD_eq hd] at h <;> exact good_pure rfl (by simp only [evK, hx]; rfl) h

noncomputable def onIntD (v : AV) (k : IntKind → Int → O) (z : O) : O := AV.rec (motive_1 := fun _ => (IntKind → Int → O) → O → O) (motive_2 := fun _ => Unit) (fun _ _ z => z) (fun a b k _ => k a b) (fun _ _ z => z) (fun _ _ _ _ _ z => z) (fun _ _ _ _ _ _ z => z) (fun _ _ _ z => z) (fun _ _ _ _ z => z) (fun _ _ _ _ z => z) (fun _ _ _ z => z) (fun _ _ _ z => z) (fun _ z => z) (fun _ z => z) () (fun _ _ _ _ => ()) v k z
theorem onIntD_inv {v : AV} {k : IntKind → Int → O} {z : O} {R : AV × Heap} (h : onIntD v k z = some R) : (∃ a b, v = .int a b ∧ k a b = some R) ∨ z = some R := by
  cases v <;> first | exact .inl ⟨_, _, rfl, h⟩ | exact .inr h
noncomputable def o_bin (op : BinOp) (f : BinI) (d : ST) (x y : GT) (next : OR) : OR := fun c n kn E H => onIntD (x E) (fun k a => onInt (y E) fun k' b => f k k' a b fun v => d E v fun E => next c n kn E H) (vK (binA op (x E) (y E)) fun v => d E v fun E => next c n kn E H)
theorem good_bin (hd : okD dd = true) (op : BinOp) (x y : Opd) : Good ok ⟨dd, none, .bin op x y⟩ (o_bin op (trB op) (trD dd) (trG x) (trG y)) := by
  intro next c n kn E H R h
  rcases onIntD_inv h with ⟨k, a, hx, h⟩ | h
  · obtain ⟨k', b, hy, h⟩ := onInt_inv h
    obtain ⟨v, hv, h⟩ := trB_ok op _ _ _ _ _ _ h
    rw [trG_eq] at hx hy
    rw [trD_eq hd] at h
    exact good_pure rfl (by simp only [evK, hx, hy, hv]; rfl) h
  · obtain ⟨v, hv, h⟩ := vK_inv h
    rw [trG_eq, trG_eq] at hv
    rw [trD_eq hd] at h
    exact good_pure rfl (by simp only [evK, hv]; rfl) h

noncomputable def beqB (neg a b : Bool) : Bool := Bool.rec (motive := fun _ => Bool → Bool → Bool) (fun a b => Bool.rec (motive := fun _ => Bool → Bool) (fun b => Bool.rec (motive := fun _ => Bool) true false b) (fun b => b) a b) (fun a b => Bool.rec (motive := fun _ => Bool → Bool) (fun b => b) (fun b => Bool.rec (motive := fun _ => Bool) true false b) a b) neg a b
theorem beqB_eq (neg a b : Bool) : beqB neg a b = if neg then !(a == b) else (a == b) := by cases neg <;> cases a <;> cases b <;> rfl
noncomputable def o_beq (neg : Bool) (d : ST) (x y : GT) (next : OR) : OR := fun c n kn E H => onBool (x E) fun a => onBool (y E) fun b => boK (beqB neg a b) fun r => d E (.bool r) fun E => next c n kn E H
theorem good_beq (hd : okD dd = true) (neg : Bool) (x y : Opd) : Good ok ⟨dd, none, .beq neg x y⟩ (o_beq neg (trD dd) (trG x) (trG y)) := by
  intro next c n kn E H R h
  obtain ⟨a, hx, h⟩ := onBool_inv h
  obtain ⟨b, hy, h⟩ := onBool_inv h
  rw [trG_eq] at hx hy
  rw [boK_eq, beqB_eq, trD_eq hd] at h
  exact good_pure rfl (by simp only [evK, hx, hy]; rfl) h

noncomputable def o_un (op : UnOp) (d : ST) (x : GT) (next : OR) : OR := fun c n kn E H => vK (unA op (x E)) fun v => d E v fun E => next c n kn E H
theorem good_un (hd : okD dd = true) (op : UnOp) (x : Opd) : Good ok ⟨dd, none, .un op x⟩ (o_un op (trD dd) (trG x)) := by
  intro next c n kn E H R h
  obtain ⟨v, hv, h⟩ := vK_inv h
  rw [trG_eq] at hv
  rw [trD_eq hd] at h
  exact good_pure rfl (by simp only [evK, hv]; rfl) h

noncomputable def o_conv (k : IntKind) (d : ST) (x : GT) (next : OR) : OR := fun c n kn E H => onInt (x E) fun _ a => wrK k a fun r => d E (.int k r) fun E => next c n kn E H
theorem good_conv (hd : okD dd = true) (k : IntKind) (x : Opd) : Good ok ⟨dd, none, .conv k x⟩ (o_conv k (trD dd) (trG x)) := by
  intro next c n kn E H R h
  obtain ⟨k', a, hx, h⟩ := onInt_inv h
  rw [trG_eq] at hx
  rw [wrK_eq, trD_eq hd] at h
  exact good_pure rfl (by simp only [evK, hx]; rfl) h

noncomputable def o_fld (off : Nat) (d : ST) (x : GT) (next : OR) : OR := fun c n kn E H => onPtr (x E) (fun a b => natK (Nat.add b off) fun b => d E (.ptr a b) fun E => next c n kn E H) (fun a b => natK (Nat.add b off) fun b => d E (.iptr a b) fun E => next c n kn E H)
theorem good_fld (hd : okD dd = true) (off : Nat) (x : Opd) : Good ok ⟨dd, none, .fld off x⟩ (o_fld off (trD dd) (trG x)) := by
  intro next c n kn E H R h
  rcases onPtr_inv h with ⟨id, o, hx, h⟩ | ⟨cs, p, hx, h⟩ <;> rw [trG_eq] at hx <;> rw [natK_eq, trD_eq hd] at h <;> exact good_pure rfl (by simp only [evK, hx]; rfl) h

noncomputable def o_part (off : Nat) (d : ST) (x : GT) (next : OR) : OR := fun c n kn E H => onAgg (x E) fun cs => nthK cs off fun v => d E v fun E => next c n kn E H
theorem good_part (hd : okD dd = true) (off : Nat) (x : Opd) : Good ok ⟨dd, none, .part false 1 off x⟩ (o_part off (trD dd) (trG x)) := by
  intro next c n kn E H R h
  obtain ⟨cs, hx, h⟩ := onAgg_inv h
  obtain ⟨v, hv, h⟩ := nthK_inv h
  rw [trG_eq] at hx
  rw [trD_eq hd] at h
  have hl : off < cs.length := by
    rcases Nat.lt_or_ge off cs.length with h' | h'
    · exact h'
    · rw [List.getElem?_eq_none h'] at hv; simp at hv
  exact good_pure (v := v) rfl (by simp only [evK, hx, need, ldv, List.getD_eq_getElem?_getD, hv]; simp; exact ⟨hl, rfl⟩) h
noncomputable def o_parta (sz off : Nat) (d : ST) (x : GT) (next : OR) : OR := fun c n kn E H => onAgg (x E) fun cs => cutK cs off sz fun v => d E (.agg v) fun E => next c n kn E H
theorem good_parta (hd : okD dd = true) (sz off : Nat) (x : Opd) : Good ok ⟨dd, none, .part true sz off x⟩ (o_parta sz off (trD dd) (trG x)) := by
  intro next c n kn E H R h
  obtain ⟨cs, hx, h⟩ := onAgg_inv h
  obtain ⟨h1, h⟩ := cutK_inv h
  rw [trG_eq] at hx
  rw [trD_eq hd] at h
  exact good_pure (rd := []) rfl (by simp only [evK, hx, need, ldv]; simp; exact h1) h

noncomputable def inxK (j : Int) (n : Nat) (k : Nat → O) : O := Int.rec (motive := fun _ => Nat → (Nat → O) → O) (fun m n k => ifK (Nat.ble (Nat.succ m) n) (k m)) (fun _ _ _ => none) j n k
theorem inxK_inv {j : Int} {n : Nat} {k : Nat → O} {R : AV × Heap} (h : inxK j n k = some R) : (0 ≤ j ∧ j < n) ∧ k j.toNat = some R := by
  cases j with
  | ofNat m =>
    obtain ⟨h1, h2⟩ := ifK_inv (show ifK (Nat.ble (Nat.succ m) n) (k m) = some R from h)
    rw [Nat.ble_eq] at h1
    exact ⟨⟨by simp, by simp; omega⟩, h2⟩
  | negSucc m => simp [inxK] at h
noncomputable def o_idx (sz : Nat) (d : ST) (x i : GT) (next : OR) : OR := fun c n kn E H => onSl (x E)
  (fun id off m s _ => onInt (i E) fun _ j => inxK j m fun j => ifK (Nat.beq s sz) (natK (Nat.add off (Nat.mul j sz)) fun o => d E (.ptr id o) fun E => next c n kn E H))
  (fun cs m _ => onInt (i E) fun _ j => inxK j m fun j => natK (Nat.mul j sz) fun o => d E (.iptr cs o) fun E => next c n kn E H)
theorem good_idx (hd : okD dd = true) (sz : Nat) (x i : Opd) : Good ok ⟨dd, none, .idx sz x i⟩ (o_idx sz (trD dd) (trG x) (trG i)) := by
  intro next c n kn E H R h
  rcases onSl_inv h with ⟨id, off, m, s, q, hx, h⟩ | ⟨cs, m, q, hx, h⟩
  · obtain ⟨k, j, hj, h⟩ := onInt_inv h
    obtain ⟨h1, h⟩ := inxK_inv h
    obtain ⟨h2, h⟩ := ifK_inv h
    have h2 := Nat.eq_of_beq_eq_true h2
    rw [trG_eq] at hx hj
    rw [natK_eq, trD_eq hd] at h
    exact good_pure rfl (by simp only [evK, hx, hj, need, h2, h1, and_self, if_true]; rfl) h
  · obtain ⟨k, j, hj, h⟩ := onInt_inv h
    obtain ⟨h1, h⟩ := inxK_inv h
    rw [trG_eq] at hx hj
    rw [natK_eq, trD_eq hd] at h
    exact good_pure rfl (by simp only [evK, hx, hj, need, h1, and_self, if_true]; rfl) h

noncomputable def o_ext (i : Nat) (d : ST) (x : GT) (next : OR) : OR := fun c n kn E H => onTup (x E) fun vs => nthK vs i fun v => fv v fun v => d E v fun E => next c n kn E H
theorem good_ext (hd : okD dd = true) (i : Nat) (x : Opd) : Good ok ⟨dd, none, .ext x i⟩ (o_ext i (trD dd) (trG x)) := by
  intro next c n kn E H R h
  obtain ⟨vs, hx, h⟩ := onTup_inv h
  obtain ⟨v, hv, h⟩ := nthK_inv h
  rw [trG_eq] at hx
  rw [fv_eq, trD_eq hd] at h
  exact good_pure rfl (by simp only [evK, hx, hv]; rfl) h

noncomputable def o_len (d : ST) (x : GT) (next : OR) : OR := fun c n kn E H => onSl (x E) (fun _ _ m _ _ => d E (.int .i64 (.ofNat m)) fun E => next c n kn E H) (fun _ m _ => d E (.int .i64 (.ofNat m)) fun E => next c n kn E H)
theorem good_len (hd : okD dd = true) (x : Opd) : Good ok ⟨dd, none, .len false x⟩ (o_len (trD dd) (trG x)) := by
  intro next c n kn E H R h
  rcases onSl_inv h with ⟨id, off, m, s, q, hx, h⟩ | ⟨cs, m, q, hx, h⟩ <;> rw [trG_eq] at hx <;> rw [trD_eq hd] at h <;> exact good_pure rfl (by simp only [evK, hx]; rfl) h

-- anything else, and calls in general
noncomputable def bsK (b : Option (List AV)) (k : Option (List AV) → O) : O := Option.rec (motive := fun _ => (Option (List AV) → O) → O) (fun k => k none) (fun cs k => spK cs fun cs => k (some cs)) b k
theorem bsK_eq (b : Option (List AV)) (k : Option (List AV) → O) : bsK b k = k b := by
  cases b with
  | none => rfl
  | some cs => exact spK_eq cs _
noncomputable def effK (e : Eff) (H : Heap) (k : Heap → O) : O :=
  List.rec (motive := fun _ => Heap → (Heap → O) → O) (fun H k => k H) (fun p _ ih H k => Prod.rec (motive := fun _ => (Heap → (Heap → O) → O) → Heap → (Heap → O) → O) (fun i b ih H k => bsK b fun b => putK H i b fun H => ih H k) p ih H k) e H k
theorem effK_eq : ∀ (e : Eff) (H : Heap) (k : Heap → O), effK e H k = k (applyE e H) := by
  intro e
  induction e with
  | nil => intro H k; rfl
  | cons p e ih =>
    intro H k
    obtain ⟨i, b⟩ := p
    show bsK b (fun b => putK H i b fun H => effK e H k) = _
    rw [bsK_eq, putK_eq, ih]
    rfl
noncomputable def resK (r : Option CRes) (k : AV → Eff → List Nat → Nat → O) : O :=
  Option.rec (motive := fun _ => (AV → Eff → List Nat → Nat → O) → O) (fun _ => none) (fun p k => Prod.rec (motive := fun _ => (AV → Eff → List Nat → Nat → O) → O) (fun v q k => Prod.rec (motive := fun _ => AV → (AV → Eff → List Nat → Nat → O) → O) (fun e q v k => Prod.rec (motive := fun _ => Eff → AV → (AV → Eff → List Nat → Nat → O) → O) (fun rd cc e v k => k v e rd cc) q e v k) q v k) p k) r k
theorem resK_inv {r : Option CRes} {k : AV → Eff → List Nat → Nat → O} {R : AV × Heap} (h : resK r k = some R) : ∃ v e rd cc, r = some (v, e, rd, cc) ∧ k v e rd cc = some R := by
  cases r with
  | none => simp [resK] at h
  | some p => obtain ⟨v, e, rd, cc⟩ := p; exact ⟨v, e, rd, cc, rfl, h⟩
noncomputable def nxt (d : ST) (next : OR) (c : FR) (n : Nat) (kn : Kn) (E : E16) (H : Heap) (r : Option CRes) : O :=
  resK r fun v e _ cc => nfK v fun v => hpK (padH H cc) fun H => effK e H fun H => d E v fun E => next c n kn E H
theorem nxt_inv (hd : okD dd = true) {next : OR} {c : FR} {n : Nat} {kn : Kn} {E : E16} {H : Heap} {r : Option CRes} {R : AV × Heap} (h : nxt (trD dd) next c n kn E H r = some R) :
    ∃ v e rd cc, r = some (v, e, rd, cc) ∧ next c n kn (E.setO dd v) (applyE e (padH H cc)) = some R := by
  obtain ⟨v, e, rd, cc, h1, h⟩ := resK_inv h
  rw [nfK_eq, hpK_eq, effK_eq, trD_eq hd] at h
  exact ⟨v, e, rd, cc, h1, h⟩
def CK.sub (V : Opd → Opd) : CK → CK
  | .mov x => .mov (V x)
  | .pick c a b => .pick (V c) (V a) (V b)
  | .box x => .box (V x)
  | .build z ps => .build z (ps.map fun p => (p.1, p.2.1, V p.2.2))
  | .bsl n sz z ps => .bsl n sz z (ps.map fun p => (p.1, p.2.1, V p.2.2))
  | .load ag sz x => .load ag sz (V x)
  | .store sz x v => .store sz (V x) (V v)
  | .nilck x => .nilck (V x)
  | .bin op x y => .bin op (V x) (V y)
  | .beq neg x y => .beq neg (V x) (V y)
  | .snil neg x => .snil neg (V x)
  | .un op x => .un op (V x)
  | .conv k x => .conv k (V x)
  | .b2s x => .b2s (V x)
  | .mksl sz bytes z l c => .mksl sz bytes z (V l) (V c)
  | .slice sz x lo hi mx => .slice sz (V x) (lo.map V) (hi.map V) (mx.map V)
  | .slarr n sz x lo hi mx => .slarr n sz (V x) (lo.map V) (hi.map V) (mx.map V)
  | .fld off x => .fld off (V x)
  | .part ag sz off x => .part ag sz off (V x)
  | .idx sz x i => .idx sz (V x) (V i)
  | .idxa n sz x i => .idxa n sz (V x) (V i)
  | .idxv n ag sz x i => .idxv n ag sz (V x) (V i)
  | .idxs x i => .idxs (V x) (V i)
  | .ext x i => .ext (V x) i
  | .len st x => .len st (V x)
  | .lenk n => .lenk n
  | .append sz bytes s x => .append sz bytes (V s) (V x)
  | .copy sz d s => .copy sz (V d) (V s)
  | .max x y => .max (V x) (V y)
  | .mkfn f caps => .mkfn f (caps.map V)
  | .call f args => .call f (args.map V)
  | .callc x args => .callc (V x) (args.map V)
  | .aeq neg ks x y => .aeq neg ks (V x) (V y)
  | .pnil neg x => .pnil neg (V x)
  | .mkbnd f l => .mkbnd f (l.map V)
  | .mkmap => .mkmap
  | .mlook ks z x k => .mlook ks z (V x) (V k)
  | .mentry ks z x k => .mentry ks z (V x) (V k)
  | .mstore x s v => .mstore (V x) (V s) (V v)
  | .bits64 b x y z => .bits64 b (V x) (V y) (V z)
  | .clr sz z x => .clr sz z (V x)
  | .apz sz bytes z s x => .apz sz bytes z (V s) (V x)

theorem fillA_sub (W : Opd → Opd) (V V' : Opd → AV) (h : ∀ x, V' (W x) = V x) : ∀ (ps : List (Nat × Nat × Opd)) (cs : List AV), fillA V' cs (ps.map fun p => (p.1, p.2.1, W p.2.2)) = fillA V cs ps := by
  intro ps
  induction ps with
  | nil => intro cs; rfl
  | cons p ps ih =>
    intro cs
    obtain ⟨off, sz, x⟩ := p
    simp only [List.map_cons, fillA, h, ih]
theorem sliceA_sub (W : Opd → Opd) (V V' : Opd → AV) (h : ∀ x, V' (W x) = V x) (sz : Nat) (x : AV) (lo hi mx : Option Opd) : sliceA V' sz x (lo.map W) (hi.map W) (mx.map W) = sliceA V sz x lo hi mx := by
  have ho : ∀ (d : Nat) (o : Option Opd), optNat V' d (o.map W) = optNat V d o := by
    intro d o
    cases o with
    | none => rfl
    | some y => simp only [Option.map_some, optNat, h]
  unfold sliceA
  cases x <;> simp only [ho] <;> cases mx <;> simp only [Option.map_none, Option.map_some, h, Option.isSome_map]
theorem evK_sub (W : Opd → Opd) (V V' : Opd → AV) (h : ∀ x, V' (W x) = V x) (n0 fresh : Nat) (H : Heap) (k : CK) : evK n0 fresh (k.sub W) V' H = evK n0 fresh k V H := by
  cases k <;> simp only [CK.sub, evK, h, fillA_sub W V V' h, sliceA_sub W V V' h, List.map_map]
  case mkfn f caps =>
    have : V' ∘ W = V := funext h
    rw [this]
  case mkbnd f l =>
    have : V' ∘ W = V := funext h
    rw [this]
theorem opBE_sub (call : Caller) (n0 : Nat) (k : CK) (E E' : Env) (H : Heap) (W : Opd → Opd) (h : ∀ x, val E' (W x) = val E x) : opBE ok call n0 (k.sub W) E' H = opBE ok call n0 k E H := by
  have hc : cntK (k.sub W) = cntK k := by cases k <;> rfl
  have hm : ∀ l : List Opd, (l.map W).map (val E') = l.map (val E) := by
    intro l
    rw [List.map_map]
    congr 1
    funext x
    exact h x
  have he := evK_sub W (val E) (val E') h n0 H.length H k
  cases k <;> simp only [CK.sub] at he hc ⊢ <;> simp only [opBE, hm, h, he, hc]

def env0 : Env := fun _ => .junk
noncomputable def o_sub (ok : FuncId → Bool) (k : E16 → CK) (d : ST) (next : OR) : OR := fun c n kn E H => nxt d next c n kn E H (opBE ok (callX (frun c)) n (k E) env0 H)
theorem good_sub (hd : okD dd = true) (k : CK) : Good ok ⟨dd, none, k⟩ (o_sub ok (fun E => k.sub fun x => .k (trG x E)) (trD dd)) := by
  intro next c n kn E H R h
  obtain ⟨v, e, rd, cc, h1, h2⟩ := nxt_inv hd h
  rw [opBE_sub (E := E.env)] at h1
  · exact ⟨v, e, rd, cc, opBE_P h1, h2⟩
  · intro x
    exact trG_eq x E

noncomputable def argsK (l : List GT) (E : E16) (k : List AV → O) : O :=
  List.rec (motive := fun _ => E16 → (List AV → O) → O) (fun _ k => k []) (fun g _ ih E k => fv (g E) fun a => ih E fun r => k (a :: r)) l E k
theorem argsK_eq (E : E16) : ∀ (l : List Opd) (k : List AV → O), argsK (l.map trG) E k = k (l.map (val E.env)) := by
  intro l
  induction l with
  | nil => intro k; rfl
  | cons x l ih =>
    intro k
    show fv (trG x E) (fun a => argsK (l.map trG) E fun r => k (a :: r)) = _
    rw [fv_eq, ih, trG_eq]
    rfl
noncomputable def clV (v : AV) : Bool := AV.rec (motive_1 := fun _ => Bool) (motive_2 := fun _ => Bool) (fun _ => true) (fun _ _ => true) (fun _ => true) (fun _ _ _ _ => true) (fun _ _ _ _ _ => false) (fun _ _ => false) (fun _ _ _ => true) (fun _ _ ih => ih) (fun _ ih => ih) (fun _ ih => ih) true true true (fun _ _ a b => Bool.rec (motive := fun _ => Bool → Bool) (fun _ => false) (fun b => b) a b) v
noncomputable def clL (l : List AV) : Bool := List.rec (motive := fun _ => Bool) true (fun a _ ih => Bool.rec (motive := fun _ => Bool → Bool) (fun _ => false) (fun b => b) (clV a) ih) l
theorem clV_eq (v : AV) : clV v = v.closed := by
  induction v using AV.rec (motive_2 := fun l => (AV.rec_1 (motive_1 := fun _ => Bool) (motive_2 := fun _ => Bool) (fun _ => true) (fun _ _ => true) (fun _ => true) (fun _ _ _ _ => true) (fun _ _ _ _ _ => false) (fun _ _ => false) (fun _ _ _ => true) (fun _ _ ih => ih) (fun _ ih => ih) (fun _ ih => ih) true true true (fun _ _ a b => Bool.rec (motive := fun _ => Bool → Bool) (fun _ => false) (fun b => b) a b) l : Bool) = AV.closed.closedL l) with
  | clo f cs ih => exact ih.trans (by simp only [AV.closed])
  | agg cs ih => exact ih.trans (by simp only [AV.closed])
  | tup cs ih => exact ih.trans (by simp only [AV.closed])
  | nil => rfl
  | cons a l iha ihl =>
    show Bool.rec (motive := fun _ => Bool → Bool) (fun _ => false) (fun b => b) (clV a) _ = _
    rw [iha]
    simp only [AV.closed.closedL]
    cases a.closed with
    | false => rfl
    | true => exact ihl
  | _ => rfl
theorem clL_eq : ∀ l : List AV, clL l = AV.closed.closedL l := by
  intro l
  induction l with
  | nil => rfl
  | cons a l ih =>
    show Bool.rec (motive := fun _ => Bool → Bool) (fun _ => false) (fun b => b) (clV a) (clL l) = _
    rw [ih, clV_eq]
    simp only [AV.closed.closedL]
    cases a.closed <;> rfl
noncomputable def rtK (r : O) (k : AV → Heap → O) : O := Option.rec (motive := fun _ => (AV → Heap → O) → O) (fun _ => none) (fun p k => Prod.rec (motive := fun _ => (AV → Heap → O) → O) (fun v h k => k v h) p k) r k
theorem rtK_inv {r : O} {k : AV → Heap → O} {R : AV × Heap} (h : rtK r k = some R) : ∃ v H, r = some (v, H) ∧ k v H = some R := by
  cases r with
  | none => simp [rtK] at h
  | some p => obtain ⟨v, H⟩ := p; exact ⟨v, H, rfl, h⟩

noncomputable def dnK (v : AV) (k : AV → O) : O := AV.rec (motive_1 := fun _ => (AV → O) → O) (motive_2 := fun _ => (List AV → O) → O) (fun b k => boK b fun b => k (.bool b)) (fun a b k => intK b fun b => k (.int a b)) (fun s k => k (.str s)) (fun cs n c _ k => spK cs fun cs => natK n fun n => onK c fun c => k (.vec cs n c)) (fun a b c d e k => natK a fun a => natK b fun b => natK c fun c => natK d fun d => onK e fun e => k (.sl a b c d e)) (fun a b k => natK a fun a => natK b fun b => k (.ptr a b)) (fun cs p _ k => spK cs fun cs => natK p fun p => k (.iptr cs p)) (fun f _ ih k => ih fun cs => k (.clo f cs)) (fun _ ih k => ih fun cs => k (.agg cs)) (fun _ ih k => ih fun cs => k (.tup cs)) (fun k => k .anyb) (fun k => k .junk) (fun k => k []) (fun _ _ a b k => a fun a => b fun b => k (a :: b)) v k
noncomputable def dnL (l : List AV) (k : List AV → O) : O := List.rec (motive := fun _ => (List AV → O) → O) (fun k => k []) (fun a _ ih k => dnK a fun a => ih fun r => k (a :: r)) l k
theorem dnK_eq (v : AV) : ∀ k : AV → O, dnK v k = k v := by
  induction v using AV.rec (motive_2 := fun l => ∀ k : List AV → O, (AV.rec_1 (motive_1 := fun _ => (AV → O) → O) (motive_2 := fun _ => (List AV → O) → O) (fun b k => boK b fun b => k (.bool b)) (fun a b k => intK b fun b => k (.int a b)) (fun s k => k (.str s)) (fun cs n c _ k => spK cs fun cs => natK n fun n => onK c fun c => k (.vec cs n c)) (fun a b c d e k => natK a fun a => natK b fun b => natK c fun c => natK d fun d => onK e fun e => k (.sl a b c d e)) (fun a b k => natK a fun a => natK b fun b => k (.ptr a b)) (fun cs p _ k => spK cs fun cs => natK p fun p => k (.iptr cs p)) (fun f _ ih k => ih fun cs => k (.clo f cs)) (fun _ ih k => ih fun cs => k (.agg cs)) (fun _ ih k => ih fun cs => k (.tup cs)) (fun k => k .anyb) (fun k => k .junk) (fun k => k []) (fun _ _ a b k => a fun a => b fun b => k (a :: b)) l k : O) = k l) with
  | bool b => intro k; exact boK_eq b _
  | int a b => intro k; exact intK_eq b _
  | str s => intro k; rfl
  | vec cs n c => intro k; show (spK cs fun cs => natK n fun n => onK c fun c => k (.vec cs n c)) = _; simp only [spK_eq, natK_eq, onK_eq]
  | sl a b c d e => intro k; show (natK a fun a => natK b fun b => natK c fun c => natK d fun d => onK e fun e => k (.sl a b c d e)) = _; simp only [natK_eq, onK_eq]
  | ptr a b => intro k; show (natK a fun a => natK b fun b => k (.ptr a b)) = _; simp only [natK_eq]
  | iptr cs p => intro k; show (spK cs fun cs => natK p fun p => k (.iptr cs p)) = _; simp only [spK_eq, natK_eq]
  | clo f cs ih => intro k; exact ih _
  | agg cs ih => intro k; exact ih _
  | tup cs ih => intro k; exact ih _
  | anyb => intro k; rfl
  | junk => intro k; rfl
  | nil => rename_i k; rfl
  | cons a l iha ihl => rename_i k; exact (iha _).trans (ihl _)
theorem dnL_eq : ∀ (l : List AV) (k : List AV → O), dnL l k = k l := by
  intro l
  induction l with
  | nil => intro k; rfl
  | cons a l ih => intro k; exact (dnK_eq a _).trans (ih _)
noncomputable def dbK (b : Option (List AV)) (k : Option (List AV) → O) : O := Option.rec (motive := fun _ => (Option (List AV) → O) → O) (fun k => k none) (fun cs k => dnL cs fun cs => k (some cs)) b k
theorem dbK_eq (b : Option (List AV)) (k : Option (List AV) → O) : dbK b k = k b := by
  cases b with
  | none => rfl
  | some cs => exact dnL_eq cs _
noncomputable def effD (e : Eff) (H : Heap) (k : Heap → O) : O :=
  List.rec (motive := fun _ => Heap → (Heap → O) → O) (fun H k => k H) (fun p _ ih H k => Prod.rec (motive := fun _ => (Heap → (Heap → O) → O) → Heap → (Heap → O) → O) (fun i b ih H k => dbK b fun b => putK H i b fun H => ih H k) p ih H k) e H k
theorem effD_eq : ∀ (e : Eff) (H : Heap) (k : Heap → O), effD e H k = k (applyE e H) := by
  intro e
  induction e with
  | nil => intro H k; rfl
  | cons p e ih =>
    intro H k
    obtain ⟨i, b⟩ := p
    show dbK b (fun b => putK H i b fun H => effD e H k) = _
    rw [dbK_eq, putK_eq, ih]
    rfl
-- calls that hand in blocks of the caller
noncomputable def memN (l : List Nat) (x : Nat) : Bool := List.rec (motive := fun _ => Nat → Bool) (fun _ => false) (fun y _ ih x => Bool.rec (motive := fun _ => (Nat → Bool) → Nat → Bool) (fun ih x => ih x) (fun _ _ => true) (Nat.beq y x) ih x) l x
theorem memN_eq : ∀ (l : List Nat) (x : Nat), memN l x = hasN l x := by
  intro l
  induction l with
  | nil => intro x; rfl
  | cons y l ih =>
    intro x
    show Bool.rec (motive := fun _ => (Nat → Bool) → Nat → Bool) (fun ih x => ih x) (fun _ _ => true) (Nat.beq y x) (memN l) x = _
    simp only [hasN]
    cases Nat.beq y x with
    | true => rfl
    | false => exact ih x
noncomputable def insN (x : Nat) (l : List Nat) : List Nat := Bool.rec (motive := fun _ => Nat → List Nat → List Nat) (fun x l => x :: l) (fun _ l => l) (memN l x) x l
noncomputable def idsV (v : AV) (a : List Nat) : List Nat := AV.rec (motive_1 := fun _ => List Nat → List Nat) (motive_2 := fun _ => List Nat → List Nat) (fun _ a => a) (fun _ _ a => a) (fun _ a => a) (fun _ _ _ _ a => a) (fun id _ _ _ _ a => insN id a) (fun id _ a => insN id a) (fun _ _ _ a => a) (fun _ _ ih a => ih a) (fun _ ih a => ih a) (fun _ ih a => ih a) (fun a => a) (fun a => a) (fun a => a) (fun _ _ x y a => y (x a)) v a
noncomputable def idsA (l : List AV) (a : List Nat) : List Nat := List.rec (motive := fun _ => List Nat → List Nat) (fun a => a) (fun v _ ih a => ih (idsV v a)) l a
noncomputable def innV (l : List Nat) (v : AV) : Bool := AV.rec (motive_1 := fun _ => Bool) (motive_2 := fun _ => Bool) (fun _ => true) (fun _ _ => true) (fun _ => true) (fun _ _ _ _ => true) (fun id _ _ _ _ => memN l id) (fun id _ => memN l id) (fun _ _ _ => true) (fun _ _ ih => ih) (fun _ ih => ih) (fun _ ih => ih) true true true (fun _ _ a b => Bool.rec (motive := fun _ => Bool → Bool) (fun _ => false) (fun b => b) a b) v
noncomputable def innA (l : List Nat) (cs : List AV) : Bool := List.rec (motive := fun _ => Bool) true (fun a _ ih => Bool.rec (motive := fun _ => Bool → Bool) (fun _ => false) (fun b => b) (innV l a) ih) cs
theorem innV_eq (l : List Nat) (v : AV) : innV l v = v.inn l := by
  induction v using AV.rec (motive_2 := fun cs => (AV.rec_1 (motive_1 := fun _ => Bool) (motive_2 := fun _ => Bool) (fun _ => true) (fun _ _ => true) (fun _ => true) (fun _ _ _ _ => true) (fun id _ _ _ _ => memN l id) (fun id _ => memN l id) (fun _ _ _ => true) (fun _ _ ih => ih) (fun _ ih => ih) (fun _ ih => ih) true true true (fun _ _ a b => Bool.rec (motive := fun _ => Bool → Bool) (fun _ => false) (fun b => b) a b) cs : Bool) = AV.inn.innL l cs) with
  | sl id off n sz c => exact memN_eq l id
  | ptr id off => exact memN_eq l id
  | clo f cs ih => exact ih.trans (by simp only [AV.inn])
  | agg cs ih => exact ih.trans (by simp only [AV.inn])
  | tup cs ih => exact ih.trans (by simp only [AV.inn])
  | nil => rfl
  | cons a cs iha ihl =>
    show Bool.rec (motive := fun _ => Bool → Bool) (fun _ => false) (fun b => b) (innV l a) _ = _
    rw [iha]
    simp only [AV.inn.innL]
    cases a.inn l with
    | false => rfl
    | true => exact ihl
  | _ => rfl
theorem inn_closed (l : List Nat) : ∀ a : AV, a.closed = true → a.inn l = true := by
  intro a
  induction a using AV.rec (motive_2 := fun cs => AV.closed.closedL cs = true → AV.inn.innL l cs = true) with
  | bool b => intro _; rfl
  | int k n => intro _; rfl
  | str s => intro _; rfl
  | vec cs n c => intro _; rfl
  | sl id off n sz c => intro h; simp [AV.closed] at h
  | ptr id off => intro h; simp [AV.closed] at h
  | iptr cs p => intro _; rfl
  | clo f cs ih => intro h; simp only [AV.inn]; exact ih (by simpa [AV.closed] using h)
  | agg cs ih => intro h; simp only [AV.inn]; exact ih (by simpa [AV.closed] using h)
  | tup cs ih => intro h; simp only [AV.inn]; exact ih (by simpa [AV.closed] using h)
  | anyb => intro _; rfl
  | junk => intro _; rfl
  | nil => rfl
  | cons x cs hx hl =>
    rename_i h
    simp only [AV.closed.closedL, Bool.and_eq_true] at h
    simp only [AV.inn.innL, Bool.and_eq_true]
    exact ⟨hx h.1, hl h.2⟩
theorem innL_closed (l : List Nat) : ∀ cs : List AV, AV.closed.closedL cs = true → AV.inn.innL l cs = true := by
  intro cs
  induction cs with
  | nil => intro _; rfl
  | cons x cs ih =>
    intro h
    simp only [AV.closed.closedL, Bool.and_eq_true] at h
    simp only [AV.inn.innL, Bool.and_eq_true]
    exact ⟨inn_closed l x h.1, ih h.2⟩
theorem innA_eq (l : List Nat) : ∀ cs : List AV, innA l cs = AV.inn.innL l cs := by
  intro cs
  induction cs with
  | nil => rfl
  | cons a cs ih =>
    show Bool.rec (motive := fun _ => Bool → Bool) (fun _ => false) (fun b => b) (innV l a) (innA l cs) = _
    rw [ih, innV_eq]
    simp only [AV.inn.innL]
    cases a.inn l <;> rfl
noncomputable def posN (l : List Nat) (x : Nat) : Nat := List.rec (motive := fun _ => Nat → Nat) (fun _ => 0) (fun y _ ih x => Bool.rec (motive := fun _ => (Nat → Nat) → Nat → Nat) (fun ih x => Nat.succ (ih x)) (fun _ _ => 0) (Nat.beq y x) ih x) l x
theorem posN_eq : ∀ (l : List Nat) (x : Nat), posN l x = pos l x := by
  intro l
  induction l with
  | nil => intro x; rfl
  | cons y l ih =>
    intro x
    show Bool.rec (motive := fun _ => (Nat → Nat) → Nat → Nat) (fun ih x => Nat.succ (ih x)) (fun _ _ => 0) (Nat.beq y x) (posN l) x = _
    simp only [pos]
    cases h : Nat.beq y x with
    | true => rw [if_pos (Nat.eq_of_beq_eq_true h)]
    | false =>
      rw [if_neg (fun e => by subst e; rw [Nat.beq_refl] at h; simp at h)]
      show Nat.succ (posN l x) = _
      rw [ih]
noncomputable def namN (l : List Nat) (k : Nat) (i : Nat) : Nat := List.rec (motive := fun _ => Nat → Nat → Nat) (fun k i => Nat.add k i) (fun y _ ih k i => Nat.rec (motive := fun _ => Nat → (Nat → Nat → Nat) → Nat → Nat) (fun y _ _ => y) (fun p _ _ ih k => ih k p) i y ih k) l k i
theorem namN_eq : ∀ (l : List Nat) (k i : Nat), namN l k i = names l k i := by
  intro l
  induction l with
  | nil => intro k i; show k + i = _; simp [names]
  | cons y l ih =>
    intro k i
    cases i with
    | zero => simp [names]; rfl
    | succ i =>
      refine (show namN (y :: l) k (i + 1) = namN l k i from rfl).trans ((ih k i).trans ?_)
      unfold names
      by_cases h : i < l.length
      · rw [dif_pos h, dif_pos (by simp; omega)]; simp
      · rw [dif_neg h, dif_neg (by simp; omega)]; simp
noncomputable def rnK (σ : Nat → Nat) (v : AV) (k : AV → O) : O := AV.rec (motive_1 := fun _ => (AV → O) → O) (motive_2 := fun _ => (List AV → O) → O) (fun b k => k (.bool b)) (fun a b k => k (.int a b)) (fun s k => k (.str s)) (fun cs n c _ k => k (.vec cs n c)) (fun a b c d e k => natK (σ a) fun a => k (.sl a b c d e)) (fun a b k => natK (σ a) fun a => k (.ptr a b)) (fun cs p _ k => k (.iptr cs p)) (fun f _ ih k => ih fun cs => k (.clo f cs)) (fun _ ih k => ih fun cs => k (.agg cs)) (fun _ ih k => ih fun cs => k (.tup cs)) (fun k => k .anyb) (fun k => k .junk) (fun k => k []) (fun _ _ a b k => a fun a => b fun b => k (a :: b)) v k
theorem rnK_eq (σ : Nat → Nat) (v : AV) : ∀ k : AV → O, rnK σ v k = k (v.ren σ) := by
  induction v using AV.rec (motive_2 := fun l => ∀ k : List AV → O, (AV.rec_1 (motive_1 := fun _ => (AV → O) → O) (motive_2 := fun _ => (List AV → O) → O) (fun b k => k (.bool b)) (fun a b k => k (.int a b)) (fun s k => k (.str s)) (fun cs n c _ k => k (.vec cs n c)) (fun a b c d e k => natK (σ a) fun a => k (.sl a b c d e)) (fun a b k => natK (σ a) fun a => k (.ptr a b)) (fun cs p _ k => k (.iptr cs p)) (fun f _ ih k => ih fun cs => k (.clo f cs)) (fun _ ih k => ih fun cs => k (.agg cs)) (fun _ ih k => ih fun cs => k (.tup cs)) (fun k => k .anyb) (fun k => k .junk) (fun k => k []) (fun _ _ a b k => a fun a => b fun b => k (a :: b)) l k : O) = k (AV.ren.renL σ l)) with
  | sl a b c d e => intro k; exact natK_eq _ _
  | ptr a b => intro k; exact natK_eq _ _
  | clo f cs ih => intro k; exact ih _
  | agg cs ih => intro k; exact ih _
  | tup cs ih => intro k; exact ih _
  | nil => rename_i k; rfl
  | cons a l iha ihl => rename_i k; exact (iha _).trans (ihl _)
  | _ => intro k; rfl
noncomputable def rnL (σ : Nat → Nat) (l : List AV) (k : List AV → O) : O := List.rec (motive := fun _ => (List AV → O) → O) (fun k => k []) (fun a _ ih k => rnK σ a fun a => ih fun r => k (a :: r)) l k
theorem rnL_eq (σ : Nat → Nat) : ∀ (l : List AV) (k : List AV → O), rnL σ l k = k (l.map (AV.ren σ)) := by
  intro l
  induction l with
  | nil => intro k; rfl
  | cons a l ih => intro k; exact (rnK_eq σ a _).trans (ih _)
noncomputable def rcK (σ : Nat → Nat) (cs : List AV) (k : List AV → O) : O := Bool.rec (motive := fun _ => (Nat → Nat) → List AV → (List AV → O) → O) (fun σ cs k => rnL σ cs k) (fun _ cs k => k cs) (clL cs) σ cs k
theorem rcK_eq (σ : Nat → Nat) (cs : List AV) (k : List AV → O) : rcK σ cs k = k (cs.map (AV.ren σ)) := by
  unfold rcK
  cases h : clL cs with
  | false => exact rnL_eq σ cs k
  | true =>
    rw [clL_eq] at h
    rw [map_ren_closed σ cs h]
noncomputable def icK (all : List Nat) (cs : List AV) (k : List AV → O) : O := bsel (clL cs) (k cs) (ifK (innA all cs) (rnL (posN all) cs k))
theorem icK_inv {all : List Nat} {cs : List AV} {k : List AV → O} {R : AV × Heap} (h : icK all cs k = some R) : AV.inn.innL all cs = true ∧ k (cs.map (AV.ren (pos all))) = some R := by
  have hp : posN all = pos all := funext (posN_eq all)
  unfold icK at h
  cases hc : clL cs with
  | true =>
    rw [hc] at h
    have h : k cs = some R := h
    rw [clL_eq] at hc
    rw [map_ren_closed _ cs hc]
    exact ⟨innL_closed all cs hc, h⟩
  | false =>
    rw [hc] at h
    obtain ⟨h1, h⟩ := ifK_inv (show ifK (innA all cs) (rnL (posN all) cs k) = some R from h)
    rw [rnL_eq, hp] at h
    rw [innA_eq] at h1
    exact ⟨h1, h⟩
noncomputable def subK (ids all : List Nat) (H : Heap) (k : Heap → O) : O :=
  List.rec (motive := fun _ => List Nat → Heap → (Heap → O) → O) (fun _ _ k => k []) (fun i _ ih all H k => blkK H i fun cs => icK all cs fun cs => ih all H fun r => k (some cs :: r)) ids all H k
theorem subK_inv (all : List Nat) (H : Heap) {R : AV × Heap} : ∀ (ids : List Nat) {k : Heap → O}, subK ids all H k = some R → (ids.all fun i => match getB H i with | some cs => AV.inn.innL all cs | none => false) = true ∧ k (ids.map fun i => renB (pos all) (getB H i)) = some R := by
  intro ids
  induction ids with
  | nil => intro k h; exact ⟨rfl, h⟩
  | cons i ids ih =>
    intro k h
    obtain ⟨cs, hg, h⟩ := blkK_inv (show blkK H i (fun cs => icK all cs fun cs => subK ids all H fun r => k (some cs :: r)) = some R from h)
    obtain ⟨h1, h⟩ := icK_inv h
    obtain ⟨h2, h⟩ := ih h
    refine ⟨?_, ?_⟩
    · rw [List.all_cons, h2, hg]; simp [h1]
    · simp only [List.map_cons, hg]; exact h
noncomputable def rbK (σ : Nat → Nat) (b : Option (List AV)) (k : Option (List AV) → O) : O := Option.rec (motive := fun _ => (Nat → Nat) → (Option (List AV) → O) → O) (fun _ k => k none) (fun cs σ k => rcK σ cs fun cs => k (some cs)) b σ k
theorem rbK_eq (σ : Nat → Nat) (b : Option (List AV)) (k : Option (List AV) → O) : rbK σ b k = k (renB σ b) := by
  cases b with
  | none => rfl
  | some cs => exact rcK_eq σ cs _
noncomputable def wbK (σ : Nat → Nat) (H' : Heap) (i : Nat) (H : Heap) (k : Heap → O) : O :=
  List.rec (motive := fun _ => (Nat → Nat) → Nat → Heap → (Heap → O) → O) (fun _ _ H k => k H) (fun b _ ih σ i H k => rbK σ b fun b => putK H (σ i) b fun H => ih σ (Nat.succ i) H k) H' σ i H k
theorem wbK_eq (σ : Nat → Nat) : ∀ (H' : Heap) (i : Nat) (H : Heap) (k : Heap → O), wbK σ H' i H k = k (applyE (effs σ i H') H) := by
  intro H'
  induction H' with
  | nil => intro i H k; rfl
  | cons b H' ih =>
    intro i H k
    show rbK σ b (fun b => putK H (σ i) b fun H => wbK σ H' (Nat.succ i) H k) = _
    rw [rbK_eq, putK_eq, ih]
    rfl
noncomputable def genK (f0 : List AV → Heap → O) (args : List AV) (ids : List Nat) (H : Heap) (k : AV → Heap → O) : O :=
  ifK (innA ids args) (subK ids ids H fun H0 => rnL (posN ids) args fun args0 => rtK (f0 args0 H0) fun v H' => lenK H fun m => rnK (namN ids m) v fun v => hpK (padH H (Nat.sub H'.length ids.length)) fun Hp => wbK (namN ids m) H' 0 Hp fun H2 => k v H2)
theorem genK_inv {f0 : FRun} {f : FuncId} {args : List AV} {ids : List Nat} {H : Heap} {k : AV → Heap → O} {R : AV × Heap} (h1 : nodupN ids = true) (h : genK (f0 f) args ids H k = some R) : ∃ v e rd cc, CallS f0 f args H v e rd cc ∧ k v (applyE e (padH H cc)) = some R := by
  obtain ⟨h2, h⟩ := ifK_inv h
  obtain ⟨h3, h⟩ := subK_inv ids H ids h
  rw [rnL_eq] at h
  obtain ⟨v, H', hr, h⟩ := rtK_inv h
  have hn : namN ids H.length = names ids H.length := funext (namN_eq ids H.length)
  have hp : posN ids = pos ids := funext (posN_eq ids)
  rw [lenK_eq, rnK_eq, hpK_eq, wbK_eq, hn] at h
  rw [hp] at hr
  rw [innA_eq] at h2
  exact ⟨_, _, _, _, .gen ids v H' h2 (by unfold okIds; rw [h1, Bool.true_and]; exact h3) hr, h⟩

noncomputable def idcV (v : AV) (a : List Nat) : List Nat := AV.rec (motive_1 := fun _ => List Nat → List Nat) (motive_2 := fun _ => List Nat → List Nat) (fun _ a => a) (fun _ _ a => a) (fun _ a => a) (fun _ _ _ _ a => a) (fun id _ _ _ _ a => (id :: a)) (fun id _ a => (id :: a)) (fun _ _ _ a => a) (fun _ _ ih a => ih a) (fun _ ih a => ih a) (fun _ ih a => ih a) (fun a => a) (fun a => a) (fun a => a) (fun _ _ x y a => y (x a)) v a
noncomputable def idcA (l : List AV) (a : List Nat) : List Nat := List.rec (motive := fun _ => List Nat → List Nat) (fun a => a) (fun v _ ih a => ih (idcV v a)) l a
noncomputable def wlK (n : Nat) (todo done : List Nat) (H : Heap) (k : List Nat → O) : O :=
  Nat.rec (motive := fun _ => List Nat → List Nat → Heap → (List Nat → O) → O) (fun _ _ _ _ => none)
    (fun _ ih todo done H k => List.rec (motive := fun _ => (List Nat → List Nat → Heap → (List Nat → O) → O) → List Nat → Heap → (List Nat → O) → O) (fun _ done _ k => k done)
      (fun i rest _ ih done H k => natK i fun i => bsel (memN done i) (ih rest done H k) (nthK H i fun b => Option.rec (motive := fun _ => (List Nat → List Nat → Heap → (List Nat → O) → O) → List Nat → List Nat → Heap → (List Nat → O) → O) (fun ih rest done H k => ih rest done H k) (fun cs ih rest done H k => ih (idcA cs rest) done H k) b ih rest (i :: done) H k)) todo ih done H k) n todo done H k
theorem wlK_inv {H : Heap} {k : List Nat → O} {R : AV × Heap} : ∀ {n : Nat} {todo done : List Nat}, nodupN done = true → wlK n todo done H k = some R → ∃ ids, nodupN ids = true ∧ k ids = some R := by
  intro n
  induction n with
  | zero => intro todo done _ h; exact absurd (show (none : O) = some R from h) (by simp)
  | succ n ih =>
    intro todo done hd h
    cases todo with
    | nil => exact ⟨done, hd, h⟩
    | cons i rest =>
      have h := (show natK i (fun i => bsel (memN done i) (wlK n rest done H k) (nthK H i fun b => Option.rec (motive := fun _ => (List Nat → List Nat → Heap → (List Nat → O) → O) → List Nat → List Nat → Heap → (List Nat → O) → O) (fun ih rest done H k => ih rest done H k) (fun cs ih rest done H k => ih (idcA cs rest) done H k) b (fun todo done H k => wlK n todo done H k) rest (i :: done) H k)) = some R from h)
      rw [natK_eq] at h
      cases hm : memN done i with
      | true => rw [hm] at h; exact ih hd h
      | false =>
        rw [hm] at h
        have hd' : nodupN (i :: done) = true := by
          rw [memN_eq] at hm
          simp only [nodupN, hm, hd]
          rfl
        obtain ⟨b, _, h⟩ := nthK_inv (show nthK H i (fun b => Option.rec (motive := fun _ => (List Nat → List Nat → Heap → (List Nat → O) → O) → List Nat → List Nat → Heap → (List Nat → O) → O) (fun ih rest done H k => ih rest done H k) (fun cs ih rest done H k => ih (idcA cs rest) done H k) b (fun todo done H k => wlK n todo done H k) rest (i :: done) H k) = some R from h)
        cases b with
        | none => exact ih hd' h
        | some cs => exact ih hd' h
noncomputable def reachK (ids : List Nat) (H : Heap) (k : List Nat → O) : O := wlK (nat_lit 100000) ids [] H k
theorem reachK_inv {H : Heap} {k : List Nat → O} {R : AV × Heap} {ids : List Nat} (h : reachK ids H k = some R) : ∃ ids, nodupN ids = true ∧ k ids = some R := wlK_inv rfl h

noncomputable def o_call (f1 f2 f3 : Dg) (d : ST) (args : List GT) (next : OR) : OR := fun c n kn E H => argsK args E fun l => bsel (clL l)
  (rtK (c f1 f2 f3 l []) fun v h => List.rec (motive := fun _ => O → O → O) (fun x _ => x) (fun _ _ _ _ y => y) h (ifK (clV v) (d E v fun E => next c n kn E H)) (genK (c f1 f2 f3) l [] H fun v H => d E v fun E => next c n kn E H))
  (spK (idsA l []) fun ids => reachK ids H fun ids => genK (c f1 f2 f3) l ids H fun v H => d E v fun E => next c n kn E H)
theorem good_call (hd : okD dd = true) (f : FuncId) (hf : Nat.blt f 4096 = true) (args : List Opd) : Good ok ⟨dd, none, .call f args⟩ (o_call (dg (f / 256)) (dg (f / 16 % 16)) (dg (f % 16)) (trD dd) (args.map trG)) := by
  intro next c n kn E H R h
  simp only [o_call, argsK_eq] at h
  have hfr : frun c f = c (dg (f / 256)) (dg (f / 16 % 16)) (dg (f % 16)) := by funext a h; simp only [frun, hf]
  rw [← hfr] at h
  have gen : ∀ ids, nodupN ids = true → genK (frun c f) (args.map (val E.env)) ids H (fun v H => trD dd E v fun E => next c n kn E H) = some R → ∃ v e rd cc, opSP ok (frun c) n ⟨dd, none, .call f args⟩ E.env H v e rd cc ∧ next c n kn (E.setO dd v) (applyE e (padH H cc)) = some R := by
    intro ids hn h
    obtain ⟨v, e, rd, cc, h1, h2⟩ := genK_inv hn h
    rw [trD_eq hd] at h2
    exact ⟨v, e, rd, cc, h1, h2⟩
  rcases bsel_inv h with ⟨hc, h⟩ | h
  · obtain ⟨v, H', hr, h⟩ := rtK_inv h
    cases H' with
    | nil =>
      obtain ⟨hv, h⟩ := ifK_inv (show ifK (clV v) (trD dd E v fun E => next c n kn E H) = some R from h)
      rw [trD_eq hd] at h
      rw [clV_eq] at hv
      rw [clL_eq] at hc
      exact ⟨v, [], [], 0, .pure v hc hr hv, h⟩
    | cons b r => exact gen _ rfl h
  · rw [spK_eq] at h
    obtain ⟨ids, hn, h⟩ := reachK_inv h
    exact gen _ hn h

noncomputable def nB1 (b : Bool) : Bool := Bool.rec (motive := fun _ => Bool) true false b
theorem nB1_eq (b : Bool) : nB1 b = !b := by cases b <;> rfl
-- stores of aggregates
noncomputable def stL (ws : List AV) (cs : List AV) (off : Nat) (k : List AV → O) : O :=
  List.rec (motive := fun _ => List AV → Nat → (List AV → O) → O) (fun cs _ k => k cs) (fun w _ ih cs off k => scK w fun w => nthK cs off fun _ => putK cs off w fun cs => ih cs (Nat.succ off) k) ws cs off k
theorem stL_inv {R : AV × Heap} : ∀ (ws : List AV) {cs : List AV} {off : Nat} {k : List AV → O}, stL ws cs off k = some R → AV.scalL ws = true ∧ (ws ≠ [] → off + ws.length ≤ cs.length) ∧ k (setL cs off ws) = some R := by
  intro ws
  induction ws with
  | nil => intro cs off k h; exact ⟨rfl, fun h => absurd rfl h, h⟩
  | cons w ws ih =>
    intro cs off k h
    obtain ⟨h1, h2, h3, h⟩ := scK_inv (show scK w (fun w => nthK cs off fun _ => putK cs off w fun cs => stL ws cs (Nat.succ off) k) = some R from h)
    obtain ⟨u, hu, h⟩ := nthK_inv h
    rw [putK_eq] at h
    obtain ⟨h4, h5, h6⟩ := ih h
    have hl : off < cs.length := by
      rcases Nat.lt_or_ge off cs.length with h' | h'
      · exact h'
      · rw [List.getElem?_eq_none h'] at hu; simp at hu
    refine ⟨by simp [AV.scalL, h3, h4], fun _ => ?_, h6⟩
    by_cases e : ws = []
    · subst e; simp; omega
    · have := h5 e; simp at this ⊢; omega
noncomputable def o_storea (sz : Nat) (x y : GT) (next : OR) : OR := fun c n kn E H => onPtr (x E) (fun id off => blkK H id fun cs => onAgg (y E) fun ws => lenK ws fun m => ifK (Nat.beq m sz) (stL ws cs off fun cs => putK H id (some cs) fun H => next c n kn E H)) (fun _ _ => none)
theorem good_storea (sz : Nat) (x y : Opd) : Good ok ⟨none, none, .store (sz + 1) x y⟩ (o_storea (sz + 1) (trG x) (trG y)) := by
  intro next c n kn E H R h
  rcases onPtr_inv h with ⟨id, off, hx, h⟩ | ⟨cs, p, hx, h⟩
  · obtain ⟨cs, hg, h⟩ := blkK_inv h
    obtain ⟨ws, hy, h⟩ := onAgg_inv h
    rw [lenK_eq] at h
    obtain ⟨hl, h⟩ := ifK_inv h
    have hl : ws.length = sz + 1 := Nat.eq_of_beq_eq_true hl
    obtain ⟨h1, h2, h⟩ := stL_inv ws h
    rw [putK_eq] at h
    have h2 := h2 (by intro e; rw [e] at hl; simp at hl)
    rw [trG_eq] at hx hy
    refine good_ev (v := .junk) (e := [(id, some (setL cs off ws))]) (rd := [id]) ?_ (by simp only [cntK, padH, applyE, E16.setO]; exact h)
    simp only [evK, hx, hg, hy, need, AV.firm, AV.cells, hl, h1]
    rw [if_pos ⟨trivial, trivial, trivial, by omega⟩]
  · simp at h

-- calls of functions' values
noncomputable def onClo (v : AV) (k : FuncId → List AV → O) : O := AV.rec (motive_1 := fun _ => (FuncId → List AV → O) → O) (motive_2 := fun _ => Unit) (fun _ _ => none) (fun _ _ _ => none) (fun _ _ => none) (fun _ _ _ _ _ => none) (fun _ _ _ _ _ _ => none) (fun _ _ _ => none) (fun _ _ _ _ => none) (fun f cs _ k => k f cs) (fun _ _ _ => none) (fun _ _ _ => none) (fun _ => none) (fun _ => none) () (fun _ _ _ _ => ()) v k
theorem onClo_inv {v : AV} {k : FuncId → List AV → O} {R : AV × Heap} (h : onClo v k = some R) : ∃ f cs, v = .clo f cs ∧ k f cs = some R := by
  cases v <;> first | exact ⟨_, _, rfl, h⟩ | (simp [onClo] at h)
noncomputable def appK (a b : List AV) (k : List AV → O) : O := List.rec (motive := fun _ => List AV → (List AV → O) → O) (fun b k => k b) (fun x _ ih b k => ih b fun r => k (x :: r)) a b k
theorem appK_eq : ∀ (a b : List AV) (k : List AV → O), appK a b k = k (a ++ b) := by
  intro a
  induction a with
  | nil => intro b k; rfl
  | cons x a ih => intro b k; exact ih b _
noncomputable def callK (c : FR) (f : Nat) (l : List AV) (H : Heap) (k : AV → Heap → O) : O := bsel (clL l)
  (rtK (c (dg (Nat.div f (nat_lit 256))) (dg (Nat.mod (Nat.div f (nat_lit 16)) (nat_lit 16))) (dg (Nat.mod f (nat_lit 16))) l []) fun v h => List.rec (motive := fun _ => O → O → O) (fun x _ => x) (fun _ _ _ _ y => y) h (ifK (clV v) (k v H)) (genK (c (dg (Nat.div f (nat_lit 256))) (dg (Nat.mod (Nat.div f (nat_lit 16)) (nat_lit 16))) (dg (Nat.mod f (nat_lit 16)))) l [] H k))
  (spK (idsA l []) fun ids => reachK ids H fun ids => genK (c (dg (Nat.div f (nat_lit 256))) (dg (Nat.mod (Nat.div f (nat_lit 16)) (nat_lit 16))) (dg (Nat.mod f (nat_lit 16)))) l ids H k)
theorem callK_inv {c : FR} {f : Nat} {l : List AV} {H : Heap} {k : AV → Heap → O} {R : AV × Heap} (hf : Nat.blt f 4096 = true) (h : callK c f l H k = some R) : ∃ v e rd cc, CallS (frun c) f l H v e rd cc ∧ k v (applyE e (padH H cc)) = some R := by
  have hfr : frun c f = c (dg (f / 256)) (dg (f / 16 % 16)) (dg (f % 16)) := by funext a h; simp only [frun, hf]
  have h : bsel (clL l) (rtK (c (dg (f / 256)) (dg (f / 16 % 16)) (dg (f % 16)) l []) fun v h => List.rec (motive := fun _ => O → O → O) (fun x _ => x) (fun _ _ _ _ y => y) h (ifK (clV v) (k v H)) (genK (c (dg (f / 256)) (dg (f / 16 % 16)) (dg (f % 16))) l [] H k))
    (spK (idsA l []) fun ids => reachK ids H fun ids => genK (c (dg (f / 256)) (dg (f / 16 % 16)) (dg (f % 16))) l ids H k) = some R := h
  rw [← hfr] at h
  rcases bsel_inv h with ⟨hc, h⟩ | h
  · obtain ⟨v, H', hr, h⟩ := rtK_inv h
    cases H' with
    | nil =>
      obtain ⟨hv, h⟩ := ifK_inv (show ifK (clV v) (k v H) = some R from h)
      rw [clV_eq] at hv
      rw [clL_eq] at hc
      exact ⟨v, [], [], 0, .pure v hc hr hv, h⟩
    | cons b r => exact genK_inv rfl h
  · rw [spK_eq] at h
    obtain ⟨ids, hn, h⟩ := reachK_inv h
    exact genK_inv hn h
noncomputable def o_callc (ok : FuncId → Bool) (d : ST) (x : GT) (args : List GT) (next : OR) : OR := fun c n kn E H => onClo (x E) fun f caps => ifK (okC ok f) (argsK args E fun l =>
  bsel (Nat.blt f (nat_lit 65536)) (ifK (Nat.blt f (nat_lit 4096)) (appK l caps fun l => callK c f l H fun v H => d E v fun E => next c n kn E H))
    (ifK (nB1 (Nat.blt f (nat_lit 65536))) (natK (Nat.sub f (nat_lit 65536)) fun f => ifK (Nat.blt f (nat_lit 4096)) (appK caps l fun l => callK c f l H fun v H => d E v fun E => next c n kn E H))))
theorem good_callc (hd : okD dd = true) (x : Opd) (args : List Opd) : Good ok ⟨dd, none, .callc x args⟩ (o_callc ok (trD dd) (trG x) (args.map trG)) := by
  intro next c n kn E H R h
  obtain ⟨f, caps, hx, h⟩ := onClo_inv h
  rw [trG_eq] at hx
  obtain ⟨ho, h⟩ := ifK_inv h
  rw [argsK_eq] at h
  rcases bsel_inv h with ⟨hb, h⟩ | h
  · obtain ⟨hf, h⟩ := ifK_inv h
    rw [appK_eq] at h
    obtain ⟨v, e, rd, cc, h1, h2⟩ := callK_inv hf h
    rw [trD_eq hd] at h2
    have hb : Nat.blt f 65536 = true := hb
    exact ⟨v, e, rd, cc, ⟨f, caps, hx, ho, by simp only [cloF, cloA, hb]; exact h1⟩, h2⟩
  · obtain ⟨hb, h⟩ := ifK_inv h
    rw [nB1_eq] at hb
    rw [natK_eq] at h
    obtain ⟨hf, h⟩ := ifK_inv h
    rw [appK_eq] at h
    obtain ⟨v, e, rd, cc, h1, h2⟩ := callK_inv hf h
    rw [trD_eq hd] at h2
    have hb : Nat.blt f 65536 = false := by simpa using hb
    exact ⟨v, e, rd, cc, ⟨f, caps, hx, ho, by simp only [cloF, cloA, hb]; exact h1⟩, h2⟩

-- addresses in arrays, lengths, values of functions
noncomputable def o_idxa (m sz : Nat) (d : ST) (x i : GT) (next : OR) : OR := fun c n kn E H => onInt (i E) fun _ j => Int.rec (motive := fun _ => O) (fun j => ifK (Nat.blt j m) (onPtr (x E) (fun id off => natK (Nat.add off (Nat.mul j sz)) fun p => d E (.ptr id p) fun E => next c n kn E H) (fun cs p => natK (Nat.add p (Nat.mul j sz)) fun p => d E (.iptr cs p) fun E => next c n kn E H))) (fun _ => none) j
theorem good_idxa (hd : okD dd = true) (m sz : Nat) (x i : Opd) : Good ok ⟨dd, none, .idxa m sz x i⟩ (o_idxa m sz (trD dd) (trG x) (trG i)) := by
  intro next c n kn E H R h
  obtain ⟨k, j, hj, h⟩ := onInt_inv h
  rw [trG_eq] at hj
  cases j with
  | negSucc j => simp at h
  | ofNat j =>
    obtain ⟨h1, h⟩ := ifK_inv h
    have h1 : j < m := blt_t.1 h1
    have hc : ((0 : Int) ≤ Int.ofNat j ∧ Int.ofNat j < (m : Int)) = True := eq_true ⟨by simp, by simp; exact h1⟩
    rcases onPtr_inv h with ⟨id, off, hx, h⟩ | ⟨cs, p, hx, h⟩ <;> rw [trG_eq] at hx <;> rw [natK_eq, trD_eq hd] at h <;> exact good_pure rfl (by simp only [evK, hx, hj, need, hc, if_true]; rfl) h
noncomputable def o_lenk (m : Nat) (d : ST) (next : OR) : OR := fun c n kn E H => d E (.int .i64 (.ofNat m)) fun E => next c n kn E H
theorem good_lenk (hd : okD dd = true) (m : Nat) : Good ok ⟨dd, none, .lenk m⟩ (o_lenk m (trD dd)) := by
  intro next c n kn E H R h
  simp only [o_lenk, trD_eq hd] at h
  exact good_pure rfl (by simp only [evK]; rfl) h
noncomputable def o_mkfn (f : FuncId) (d : ST) (args : List GT) (next : OR) : OR := fun c n kn E H => argsK args E fun l => d E (.clo f l) fun E => next c n kn E H
theorem good_mkfn (hd : okD dd = true) (f : FuncId) (args : List Opd) : Good ok ⟨dd, none, .mkfn f args⟩ (o_mkfn f (trD dd) (args.map trG)) := by
  intro next c n kn E H R h
  simp only [o_mkfn, argsK_eq, trD_eq hd] at h
  exact good_pure rfl (by simp only [evK]; rfl) h

-- new slices
noncomputable def repK (m : Nat) (z : List AV) (k : List AV → O) : O := Nat.rec (motive := fun _ => (List AV → O) → O) (fun k => k []) (fun _ ih k => ih fun r => appK z r k) m k
theorem repK_eq (z : List AV) : ∀ (m : Nat) (k : List AV → O), repK m z k = k ((List.replicate m z).flatten) := by
  intro m
  induction m with
  | zero => intro k; rfl
  | succ m ih =>
    intro k
    refine (ih _).trans ?_
    rw [appK_eq, List.replicate_succ, List.flatten_cons]
noncomputable def o_mksl (sz bytes : Nat) (z : List AV) (d : ST) (x y : GT) (next : OR) : OR := fun c n kn E H => onInt (x E) fun _ a => onInt (y E) fun _ b => int2 (fun a b => ifK (Nat.ble a b) (ifK (Nat.ble (Nat.mul b bytes) (nat_lit 281474976710656)) (ifK (Nat.ble b (nat_lit 9223372036854775807)) (repK b z fun cs => lenK H fun m => snocK H (some cs) fun H => natK a fun a => natK b fun b => d E (.sl m 0 a sz (some b)) fun E => next c n kn E H)))) (fun _ _ => none) (fun _ _ => none) (fun _ _ => none) a b
theorem good_mksl (hd : okD dd = true) (sz bytes : Nat) (z : List AV) (hz : z.length = sz) (hs : 0 < sz) (x y : Opd) : Good ok ⟨dd, none, .mksl sz bytes z x y⟩ (o_mksl sz bytes z (trD dd) (trG x) (trG y)) := by
  intro next c n kn E H R h
  obtain ⟨k, a, hx, h⟩ := onInt_inv h
  obtain ⟨k', b, hy, h⟩ := onInt_inv h
  rw [trG_eq] at hx hy
  cases a with
  | negSucc a => cases b <;> simp [int2] at h
  | ofNat a =>
    cases b with
    | negSucc b => simp [int2] at h
    | ofNat b =>
      obtain ⟨h1, h⟩ := ifK_inv (show ifK (Nat.ble a b) _ = some R from h)
      obtain ⟨h2, h⟩ := ifK_inv h
      obtain ⟨h3, h⟩ := ifK_inv h
      rw [Nat.ble_eq] at h1 h2 h3
      have h2 : b * bytes ≤ 281474976710656 := h2
      have h3 : b ≤ 9223372036854775807 := h3
      rw [repK_eq] at h
      simp only [lenK_eq, snocK_eq, natK_eq, trD_eq hd] at h
      refine good_ev (v := .sl H.length 0 a sz (some b)) (e := [(H.length, some (zeros b z))]) (rd := []) ?_ ?_
      · have hcond : (0 : Int) ≤ Int.ofNat a ∧ Int.ofNat a ≤ Int.ofNat b ∧ Int.ofNat b * (bytes : Int) ≤ 2 ^ 48 ∧ Int.ofNat b < 2 ^ 63 ∧ z.length = sz ∧ 0 < sz := by
          have e1 : Int.ofNat b * (bytes : Int) = ((b * bytes : Nat) : Int) := by rw [Int.natCast_mul]; rfl
          refine ⟨by simp, by simpa using h1, by rw [e1]; omega, by simp; omega, hz, hs⟩
        simp only [evK, hx, hy, need]
        rw [if_pos hcond]
        rfl
      · simp only [cntK, applyE, set_snoc]
        rw [zeros_eq]
        exact h

noncomputable def grK (v : AV) (want : Bool) (x y : O) : O := AV.rec (motive_1 := fun _ => O → O → O) (motive_2 := fun _ => O → O) (fun b x y => bsel (beqB false b want) x y) (fun _ _ _ _ => none) (fun _ _ _ => none) (fun _ _ _ _ _ _ => none) (fun _ _ _ _ _ _ _ => none) (fun _ _ _ _ => none) (fun _ _ _ _ _ => none) (fun _ _ _ _ _ => none) (fun _ _ _ _ => none) (fun _ ih _ y => ih y) (fun _ _ => none) (fun _ _ => none) (fun y => y) (fun _ _ _ _ _ => none) v x y
theorem grK_inv {v : AV} {want : Bool} {x y : O} {R : AV × Heap} (h : grK v want x y = some R) : (gdB v want = some true ∧ x = some R) ∨ (gdB v want = some false ∧ y = some R) := by
  cases v <;> first | (simp [grK] at h; done) | skip
  · rename_i b
    have h : bsel (beqB false b want) x y = some R := h
    cases b <;> cases want <;> first | exact .inl ⟨rfl, h⟩ | exact .inr ⟨rfl, h⟩
  · rename_i cs
    cases cs with
    | nil => exact .inr ⟨rfl, h⟩
    | cons a r => exact absurd (show (none : O) = some R from h) (by simp)
noncomputable def o_grd (x : GT) (want : Bool) (d : ST) (f : OR → OR) (next : OR) : OR := fun c n kn E H => grK (x E) want (f next c n kn E H) (d E (.tup []) fun E => next c n kn E H)
theorem good_grd (hd : okD dd = true) {k : CK} {f : OR → OR} (g : Nat) (want : Bool) (hf : Good ok ⟨dd, none, k⟩ f) : Good ok ⟨dd, some (g, want), k⟩ (o_grd (gS g) want (trD dd) f) := by
  intro next c n kn E H R h
  rcases grK_inv h with ⟨hb, h⟩ | ⟨hb, h⟩
  · rw [gS_eq] at hb
    obtain ⟨v, e', rd, cc, h2, h3⟩ := hf _ _ _ _ _ _ _ h
    exact ⟨v, e', rd, cc, ⟨true, hb, fun _ => h2, fun h => by simp at h⟩, h3⟩
  · rw [gS_eq] at hb
    rw [trD_eq hd] at h
    exact ⟨.tup [], [], [], 0, ⟨false, hb, fun h => by simp at h, fun _ => ⟨rfl, rfl, rfl, rfl⟩⟩, h⟩

noncomputable def trK (ok : FuncId → Bool) (d : Option Nat) (k : CK) : OR → OR := match k with
  | .mov x => o_mov (trD d) (trG x)
  | .pick x a b => o_pick (trD d) (trG x) (trG a) (trG b)
  | .box x => o_box (trD d) (trG x)
  | .load false 1 x => o_load (trD d) (trG x)
  | .load true sz x => o_loada sz (trD d) (trG x)
  | .store 1 x y => match d with
    | none => o_store (trG x) (trG y)
    | some d => o_sub ok (fun E => CK.sub (fun x => .k (trG x E)) (.store 1 x y)) (trD (some d))
  | .store (sz + 2) x y => match d with
    | none => o_storea (sz + 2) (trG x) (trG y)
    | some d => o_sub ok (fun E => CK.sub (fun x => .k (trG x E)) (.store (sz + 2) x y)) (trD (some d))
  | .callc x args => o_callc ok (trD d) (trG x) (args.map trG)
  | .idxa m sz x i => o_idxa m sz (trD d) (trG x) (trG i)
  | .lenk m => o_lenk m (trD d)
  | .mkfn f args => o_mkfn f (trD d) (args.map trG)
  | .mksl sz bytes z x y => match Nat.beq z.length sz, Nat.blt 0 sz with
    | true, true => o_mksl sz bytes z (trD d) (trG x) (trG y)
    | _, _ => o_sub ok (fun E => CK.sub (fun x => .k (trG x E)) (.mksl sz bytes z x y)) (trD d)
  | .nilck x => o_nilck (trD d) (trG x)
  | .bin op x y => o_bin op (trB op) (trD d) (trG x) (trG y)
  | .beq neg x y => o_beq neg (trD d) (trG x) (trG y)
  | .un op x => o_un op (trD d) (trG x)
  | .conv k x => o_conv k (trD d) (trG x)
  | .fld off x => o_fld off (trD d) (trG x)
  | .part false 1 off x => o_part off (trD d) (trG x)
  | .part true sz off x => o_parta sz off (trD d) (trG x)
  | .idx sz x i => o_idx sz (trD d) (trG x) (trG i)
  | .ext x i => o_ext i (trD d) (trG x)
  | .len false x => o_len (trD d) (trG x)
  | .call f args => match Nat.blt f 4096 with
    | true => o_call (dg (f / 256)) (dg (f / 16 % 16)) (dg (f % 16)) (trD d) (args.map trG)
    | false => o_sub ok (fun E => CK.sub (fun x => .k (trG x E)) (.call f args)) (trD d)
  | k => o_sub ok (fun E => k.sub fun x => .k (trG x E)) (trD d)
theorem trK_ok {d : Option Nat} (hd : okD d = true) (k : CK) : Good ok ⟨d, none, k⟩ (trK ok d k) := by
  unfold trK
  split
  · exact good_mov hd _
  · exact good_pick hd _ _ _
  · exact good_box hd _
  · exact good_load hd _
  · exact good_loada hd _ _
  · split
    · exact good_store _ _
    · exact good_sub hd _
  · split
    · exact good_storea _ _ _
    · exact good_sub hd _
  · exact good_callc hd _ _
  · exact good_idxa hd _ _ _ _
  · exact good_lenk hd _
  · exact good_mkfn hd _ _
  · split
    · rename_i h1 h2; exact good_mksl hd _ _ _ (Nat.eq_of_beq_eq_true h1) (blt_t.1 h2) _ _
    · exact good_sub hd _
  · exact good_nilck hd _
  · exact good_bin hd _ _ _
  · exact good_beq hd _ _ _
  · exact good_un hd _ _
  · exact good_conv hd _ _
  · exact good_fld hd _ _
  · exact good_part hd _ _
  · exact good_parta hd _ _ _
  · exact good_idx hd _ _ _
  · exact good_ext hd _ _
  · exact good_len hd _
  · split
    · rename_i hf; exact good_call hd _ hf _
    · exact good_sub hd _
  · exact good_sub hd _

noncomputable def trO (ok : FuncId → Bool) (o : COp) : OR → OR := match o.g with
  | none => trK ok o.dst o.k
  | some (g, want) => o_grd (gS g) want (trD o.dst) (trK ok o.dst o.k)
theorem trO_ok {o : COp} (hd : okD o.dst = true) : Good ok o (trO ok o) := by
  obtain ⟨d, g, k⟩ := o
  unfold trO
  cases g with
  | none => exact trK_ok hd k
  | some p => obtain ⟨g, want⟩ := p; exact good_grd hd g want (trK_ok hd k)
end
end Go.AL
