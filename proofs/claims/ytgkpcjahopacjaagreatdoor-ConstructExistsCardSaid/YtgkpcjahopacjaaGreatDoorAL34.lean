/- The fast evaluator: code, functions, soundness. -/
import Derived.Test.YtgkpcjahopacjaaGreatDoorAL33
namespace Go.AL
set_option linter.unusedSimpArgs false
set_option linter.unusedVariables false
open Go

noncomputable def q_end : OR := fun _ _ kn E H => kn E H
noncomputable def trL (ok : FuncId → Bool) (os : List COp) : OR := List.rec (motive := fun _ => OR) q_end (fun o _ ih => trO ok o ih) os
def okL : List COp → Bool
  | [] => true
  | o :: os => match okD o.dst with
    | true => okL os
    | false => false

inductive RR (ok : FuncId → Bool) (call : FRun) (n0 : Nat) : List COp → E16 → Heap → List FP → E16 → Heap → Prop
  | nil (E : E16) (H : Heap) : RR ok call n0 [] E H [] E H
  | cons {o : COp} {os : List COp} {E : E16} {H : Heap} {v : AV} {e : Eff} {rd : List Nat} {c : Nat} {l : List FP} {E' : E16} {H' : Heap} (h1 : opSP ok call n0 o E.env H v e rd c) (h2 : okD o.dst = true)
      (h3 : RR ok call n0 os (E.setO o.dst v) (applyE e (padH H c)) l E' H') : RR ok call n0 (o :: os) E H ((rd, keys e) :: l) E' H'

section
variable {P : Program} {ok : FuncId → Bool} {Γ : Glob} {n0 nt : Nat}

theorem trL_inv : ∀ (os : List COp), okL os = true → ∀ {c n kn E H R}, trL ok os c n kn E H = some R → ∃ l E' H', RR ok (frun c) n os E H l E' H' ∧ kn E' H' = some R := by
  intro os
  induction os with
  | nil => intro _ c n kn E H R h; exact ⟨[], E, H, .nil E H, h⟩
  | cons o os ih =>
    intro ho c n kn E H R h
    simp only [okL] at ho
    split at ho
    · rename_i hd
      obtain ⟨v, e, rd, cc, h1, h2⟩ := trO_ok hd _ _ _ _ _ _ _ (show trO ok o (trL ok os) c n kn E H = some R from h)
      obtain ⟨l, E', H', h3, h4⟩ := ih ho h2
      exact ⟨_, E', H', .cons h1 hd h3, h4⟩
    · simp at ho

def RetOK (P : Program) (Γ : Glob) (f0 : FRun) : Prop := ∀ f args H v H', f0 f args H = some (v, H') → Ret P Γ f args H v H'

theorem opBP_sound {f0 : FRun} (hok : ∀ f, ok f = true → okFn P f = true) (hc : RetOK P Γ f0) {k : CK} {E : Env} {H : Heap} {v : AV} {e : Eff} {rd : List Nat} {c : Nat} (h : opBP ok f0 n0 k E H v e rd c) {K : It → Prop} (hK : K ⟨v, e, rd, H.length, c⟩) :
    bodyA P Γ n0 k E H K := by
  cases k <;> simp only [opBP] at h
  case call f args => exact ⟨v, e, rd, c, h.sound hc, hK⟩
  case callc x args =>
    obtain ⟨f, caps, hx, ho, h⟩ := h
    exact ⟨f, caps, hx, okC_mono hok ho, v, e, rd, c, h.sound hc, hK⟩
  all_goals
    obtain ⟨hev, rfl⟩ := h
    exact ⟨_, _, _, hev, hK⟩

theorem RR_regA {f0 : FRun} (hok : ∀ f, ok f = true → okFn P f = true) (hc : RetOK P Γ f0) {os : List COp} {E : E16} {H : Heap} {l : List FP} {E' : E16} {H' : Heap} (h : RR ok f0 n0 os E H l E' H') :
    ∀ Q : List FP → Env → Heap → Prop, Q l E'.env H' → regB P Γ n0 os E.env H Q := by
  induction h with
  | nil E H => intro Q hQ; exact hQ
  | @cons o os E H v e rd c l E' H' h1 h2 h3 ih =>
    intro Q hQ
    have hrest := ih (fun l => Q ((rd, keys e) :: l)) hQ
    rw [E16.env_setO _ _ h2, padH_eq] at hrest
    simp only [regB, stepB]
    unfold opSP at h1
    split at h1
    · rename_i hg
      rw [hg]
      exact opBP_sound hok hc h1 hrest
    · rename_i d want hg
      rw [hg]
      obtain ⟨b, hb, g1, g2⟩ := h1
      refine ⟨b, hb, fun e1 => opBP_sound hok hc (g1 e1) hrest, fun e1 => ?_⟩
      obtain ⟨rfl, rfl, rfl, rfl⟩ := g2 e1
      exact hrest

-- code
noncomputable def t_skip : RunT := fun _ _ kn _ E H => kn E H
noncomputable def t_ret : RunT := fun _ _ _ kx E H => kx .ret E H
noncomputable def t_exit (i : Nat) : RunT := fun _ _ _ kx E H => kx (.exit i) E H
noncomputable def t_goto (i : Nat) : RunT := fun _ _ _ kx E H => kx (.goto i) E H
noncomputable def t_no : RunT := fun _ _ _ _ _ _ => none
noncomputable def t_seq (a b : RunT) : RunT := fun c n kn kx E H => a c n (fun E H => b c n kn kx E H) kx E H
noncomputable def cndK (v : AV) (x y : O) : O := AV.rec (motive_1 := fun _ => O → O → O) (motive_2 := fun _ => Unit) (fun b x y => bsel b x y) (fun _ _ _ _ => none) (fun _ _ _ => none) (fun _ _ _ _ _ _ => none) (fun _ _ _ _ _ _ _ => none) (fun _ _ _ _ => none) (fun _ _ _ _ _ => none) (fun _ _ _ _ _ => none) (fun _ _ _ _ => none) (fun _ _ _ _ => none) (fun _ _ => none) (fun _ _ => none) () (fun _ _ _ _ => ()) v x y
noncomputable def t_cond (x : GT) (a b : RunT) : RunT := fun c n kn kx E H => cndK (x E) (a c n kn kx E H) (b c n kn kx E H)
noncomputable def blkX (id : Nat) (kn : Kn) (kx : Kx) (x : Exit) (E : E16) (H : Heap) : O := match x with
  | .exit i => bsel (Nat.beq i id) (kn E H) (kx (.exit i) E H)
  | x => kx x E H
noncomputable def t_blk (id : Nat) (a : RunT) : RunT := fun c n kn kx E H => a c n kn (blkX id kn kx) E H
noncomputable def loopK (f : Kn → Kn) (n : Nat) : Kn := Nat.rec (motive := fun _ => (Kn → Kn) → Kn) (fun _ _ _ => none) (fun _ ih f E H => f (ih f) E H) n f
noncomputable def t_loop (a : RunT) : RunT := fun c n _ kx E H => loopK (fun ih E H => a c n ih kx E H) (nat_lit 1000000) E H
noncomputable def scpX (kx : Kx) (x : Exit) (E : E16) (H : Heap) : O := match x with
  | .goto _ => none
  | x => kx x E H
noncomputable def t_scope (a : RunT) : RunT := fun c n kn kx E H => a c n kn (scpX kx) E H
noncomputable def t_reg (r : OR) : RunT := fun c n kn _ E H => r c n kn E H

def CK.quiet : CK → Bool
  | .load .. => true
  | .slarr .. => true
  | .b2s _ => true
  | _ => false

theorem evK_quiet {fresh : Nat} {k : CK} {V : Opd → AV} {H : Heap} {v : AV} {e : Eff} {rd : List Nat} (hk : k.quiet = true) (h : evK n0 fresh k V H = some (v, e, rd)) : e = [] := by
  cases k <;> simp only [CK.quiet] at hk <;> try (simp at hk; done)
  case load ag sz x =>
    simp only [evK] at h
    split at h
    · split at h
      · obtain ⟨_, h⟩ := need_some h; simp at h; exact h.2.1
      · simp at h
    · obtain ⟨_, h⟩ := need_some h; simp at h; exact h.2.1
    · simp at h
  case slarr n sz x lo hi mx =>
    simp only [evK] at h
    split at h
    · split at h
      · obtain ⟨_, h⟩ := need_some h
        simp only [Option.bind_eq_some_iff] at h
        obtain ⟨w, _, h⟩ := h
        simp at h; exact h.2.1
      · simp at h
    · obtain ⟨_, h⟩ := need_some h
      simp only [Option.bind_eq_some_iff] at h
      obtain ⟨w, _, h⟩ := h
      simp at h; exact h.2.1
    · simp at h
  case b2s x =>
    simp only [evK, Option.bind_eq_some_iff] at h
    obtain ⟨_, _, _, _, _, _, h⟩ := h
    simp at h; exact h.2.1

theorem opSP_quiet {f0 : FRun} {o : COp} {E : Env} {H : Heap} {v : AV} {e : Eff} {rd : List Nat} {c : Nat} (hk : o.k.quiet = true) (h : opSP ok f0 n0 o E H v e rd c) : e = [] := by
  have body : opBP ok f0 n0 o.k E H v e rd c → e = [] := by
    intro h
    cases hck : o.k <;> rw [hck] at h hk <;> simp only [CK.quiet] at hk <;> first | (simp at hk; done) | skip
    all_goals
      simp only [opBP] at h
      exact evK_quiet rfl h.1
  unfold opSP at h
  split at h
  · exact body h
  · rename_i d want hg
    obtain ⟨b, _, g1, g2⟩ := h
    cases b with
    | true => exact body (g1 rfl)
    | false => exact (g2 rfl).2.1

theorem RR_quiet {call : FRun} {os : List COp} {E : E16} {H : Heap} {l : List FP} {E' : E16} {H' : Heap} (h : RR ok call n0 os E H l E' H') : ∀ (i : Nat) (o : COp) (p : FP), os[i]? = some o → l[i]? = some p → o.k.quiet = true → p.2 = [] := by
  induction h with
  | nil E H => intro i o p h; simp at h
  | cons h1 h2 h3 ih =>
    intro i o p ho hp hq
    cases i with
    | zero =>
      simp at ho hp
      subst ho hp
      rw [opSP_quiet hq h1]
      rfl
    | succ i => exact ih i o p (by simpa using ho) (by simpa using hp) hq

def statQ (os : List COp) (l : List (Nat × Nat)) : Bool := l.all fun p => match os[p.1]?, os[p.2]? with
  | some a, some b => a.k.quiet && b.k.quiet
  | _, _ => false

theorem RR_dyn {call : FRun} {os : List COp} {E : E16} {H : Heap} {fps : List FP} {E' : E16} {H' : Heap} (h : RR ok call n0 os E H fps E' H') {l : List (Nat × Nat)} (hq : statQ os l = true) : dynB l fps = true := by
  simp only [statQ, List.all_eq_true] at hq
  simp only [dynB, List.all_eq_true]
  intro p hp
  have := hq p hp
  split
  · rename_i x y hx hy
    split at this
    · rename_i a b ha hb
      simp only [Bool.and_eq_true] at this
      have e1 := RR_quiet h _ _ _ ha hx this.1
      have e2 := RR_quiet h _ _ _ hb hy this.2
      simp [e1, e2, disjL]
    · simp at this
  · rfl

-- regions whose calls must be pure
noncomputable def o_callP (f1 f2 f3 : Dg) (d : ST) (args : List GT) (next : OR) : OR := fun c n kn E H => argsK args E fun l => ifK (clL l)
  (rtK (c f1 f2 f3 l []) fun v h => List.rec (motive := fun _ => O → O) (fun x => x) (fun _ _ _ _ => none) h (ifK (clV v) (d E v fun E => next c n kn E H)))
def CK.isC : CK → Bool
  | .call f _ => Nat.blt f 4096
  | _ => false
noncomputable def trKP (ok : FuncId → Bool) (d : Option Nat) (k : CK) : OR → OR := match k.isC with
  | true => match k with
    | .call f args => o_callP (dg (f / 256)) (dg (f / 16 % 16)) (dg (f % 16)) (trD d) (args.map trG)
    | k => trK ok d k
  | false => trK ok d k
noncomputable def trOP (ok : FuncId → Bool) (o : COp) : OR → OR := match o.g with
  | none => trKP ok o.dst o.k
  | some (g, want) => o_grd (gS g) want (trD o.dst) (trKP ok o.dst o.k)
noncomputable def trLP (ok : FuncId → Bool) (os : List COp) : OR := List.rec (motive := fun _ => OR) q_end (fun o _ ih => trOP ok o ih) os

def GoodP (ok : FuncId → Bool) (o : COp) (f : OR → OR) : Prop := ∀ next c n kn E H R, f next c n kn E H = some R →
  ∃ v e rd cc, opSP ok (frun c) n o (E16.env E) H v e rd cc ∧ (o.k.isC = true → e = [] ∧ rd = []) ∧ next c n kn (E16.setO E o.dst v) (applyE e (padH H cc)) = some R

theorem trKP_ok {d : Option Nat} (hd : okD d = true) (k : CK) : GoodP ok ⟨d, none, k⟩ (trKP ok d k) := by
  intro next c n kn E H R h
  cases hk : k.isC with
  | false =>
    have e : trKP ok d k = trK ok d k := by simp only [trKP, hk]
    rw [e] at h
    obtain ⟨v, e, rd, cc, h1, h2⟩ := trK_ok hd k _ _ _ _ _ _ _ h
    exact ⟨v, e, rd, cc, h1, fun h => by simp at h, h2⟩
  | true =>
    cases k <;> first | (simp [CK.isC] at hk; done) | skip
    rename_i f args
    have hf : Nat.blt f 4096 = true := hk
    have e : trKP ok d (.call f args) = o_callP (dg (f / 256)) (dg (f / 16 % 16)) (dg (f % 16)) (trD d) (args.map trG) := by simp only [trKP, hk]
    rw [e] at h
    simp only [o_callP, argsK_eq] at h
    have hfr : frun c f = c (dg (f / 256)) (dg (f / 16 % 16)) (dg (f % 16)) := by funext a h; simp only [frun, hf]
    rw [← hfr] at h
    obtain ⟨hc, h⟩ := ifK_inv h
    obtain ⟨v, H', hr, h⟩ := rtK_inv h
    cases H' with
    | nil =>
      obtain ⟨hv, h⟩ := ifK_inv (show ifK (clV v) (trD d E v fun E => next c n kn E H) = some R from h)
      rw [trD_eq hd] at h
      rw [clV_eq] at hv
      rw [clL_eq] at hc
      exact ⟨v, [], [], 0, .pure v hc hr hv, fun _ => ⟨rfl, rfl⟩, h⟩
    | cons b r => exact absurd (show (none : O) = some R from h) (by simp)
theorem trOP_ok {o : COp} (hd : okD o.dst = true) : GoodP ok o (trOP ok o) := by
  obtain ⟨d, g, k⟩ := o
  unfold trOP
  cases g with
  | none => exact trKP_ok hd k
  | some p =>
    obtain ⟨g, want⟩ := p
    intro next c n kn E H R h
    rcases grK_inv h with ⟨hb, h⟩ | ⟨hb, h⟩
    · rw [gS_eq] at hb
      obtain ⟨v, e', rd, cc, h2, h4, h3⟩ := trKP_ok hd k _ _ _ _ _ _ _ h
      exact ⟨v, e', rd, cc, ⟨true, hb, fun _ => h2, fun h => by simp at h⟩, h4, h3⟩
    · rw [gS_eq] at hb
      rw [trD_eq hd] at h
      exact ⟨.tup [], [], [], 0, ⟨false, hb, fun h => by simp at h, fun _ => ⟨rfl, rfl, rfl, rfl⟩⟩, fun _ => ⟨rfl, rfl⟩, h⟩
theorem trLP_inv : ∀ (os : List COp), okL os = true → ∀ {c n kn E H R}, trLP ok os c n kn E H = some R → ∃ l E' H', RR ok (frun c) n os E H l E' H' ∧ kn E' H' = some R ∧
    ∀ (i : Nat) (o : COp) (p : FP), os[i]? = some o → l[i]? = some p → o.k.isC = true → p.1 = [] ∧ p.2 = [] := by
  intro os
  induction os with
  | nil => intro _ c n kn E H R h; exact ⟨[], E, H, .nil E H, h, fun i o p h => by simp at h⟩
  | cons o os ih =>
    intro ho c n kn E H R h
    simp only [okL] at ho
    split at ho
    · rename_i hd
      obtain ⟨v, e, rd, cc, h1, h5, h2⟩ := trOP_ok hd _ _ _ _ _ _ _ (show trOP ok o (trLP ok os) c n kn E H = some R from h)
      obtain ⟨l, E', H', h3, h4, h6⟩ := ih ho h2
      refine ⟨_, E', H', .cons h1 hd h3, h4, fun i o' p h7 h8 h9 => ?_⟩
      cases i with
      | zero =>
        simp at h7 h8
        subst h7 h8
        obtain ⟨rfl, rfl⟩ := h5 h9
        exact ⟨rfl, rfl⟩
      | succ i => exact h6 i o' p (by simpa using h7) (by simpa using h8) h9
    · simp at ho

def statP (os : List COp) (l : List (Nat × Nat)) : Bool := l.all fun p => match os[p.1]?, os[p.2]? with
  | some a, some b => (a.k.isC || b.k.isC) || (a.k.quiet && b.k.quiet)
  | _, _ => false
theorem RR_dynP {call : FRun} {os : List COp} {E : E16} {H : Heap} {fps : List FP} {E' : E16} {H' : Heap} (h : RR ok call n0 os E H fps E' H') (hp : ∀ (i : Nat) (o : COp) (p : FP), os[i]? = some o → fps[i]? = some p → o.k.isC = true → p.1 = [] ∧ p.2 = [])
    {l : List (Nat × Nat)} (hq : statP os l = true) : dynB l fps = true := by
  simp only [statP, List.all_eq_true] at hq
  simp only [dynB, List.all_eq_true]
  intro p hpm
  have := hq p hpm
  split
  · rename_i x y hx hy
    split at this
    · rename_i a b ha hb
      simp only [Bool.or_eq_true, Bool.and_eq_true] at this
      rcases this with (h1 | h1) | h1
      · obtain ⟨e1, e2⟩ := hp _ _ _ ha hx h1
        simp [e1, e2, disjL]
      · obtain ⟨e1, e2⟩ := hp _ _ _ hb hy h1
        simp [e1, e2, disjL]
      · have e1 := RR_quiet h _ _ _ ha hx h1.1
        have e2 := RR_quiet h _ _ _ hb hy h1.2
        simp [e1, e2, disjL]
    · simp at this
  · rfl

-- regions whose order is open, run by the fast forms, with what each operation reads and writes
def eqL2 (f : AV → AV → Bool) : List AV → List AV → Bool
  | [], [] => true
  | a :: l, b :: r => match f a b with
    | true => eqL2 f l r
    | false => false
  | _, _ => false
def eqO2 : Option Nat → Option Nat → Bool
  | none, none => true
  | some a, some b => Nat.beq a b
  | _, _ => false
def eqA2 : Nat → AV → AV → Bool
  | 0, _, _ => false
  | d + 1, a, b => match a, b with
    | .bool x, .bool y => (x == y)
    | .int k x, .int k' y => (sameB k k' && (x == y))
    | .vec cs n c, .vec cs' n' c' => Nat.beq n n' && (eqO2 c c' && eqL2 (eqA2 d) cs cs')
    | .sl a b c d e, .sl a' b' c' d' e' => Nat.beq a a' && (Nat.beq b b' && (Nat.beq c c' && (Nat.beq d d' && eqO2 e e')))
    | .ptr a b, .ptr a' b' => Nat.beq a a' && Nat.beq b b'
    | .iptr cs p, .iptr cs' p' => Nat.beq p p' && eqL2 (eqA2 d) cs cs'
    | .clo f cs, .clo f' cs' => Nat.beq f f' && eqL2 (eqA2 d) cs cs'
    | .agg cs, .agg cs' => eqL2 (eqA2 d) cs cs'
    | .tup cs, .tup cs' => eqL2 (eqA2 d) cs cs'
    | .anyb, .anyb => true
    | .junk, .junk => true
    | _, _ => false
theorem eqL2_eq {f : AV → AV → Bool} (hf : ∀ a b, f a b = true → a = b) : ∀ (l r : List AV), eqL2 f l r = true → l = r := by
  intro l
  induction l with
  | nil => intro r h; cases r with | nil => rfl | cons b r => simp [eqL2] at h
  | cons a l ih =>
    intro r h
    cases r with
    | nil => simp [eqL2] at h
    | cons b r =>
      simp only [eqL2] at h
      split at h
      · rename_i hab; rw [hf a b hab, ih r h]
      · simp at h
theorem eqO2_eq {a b : Option Nat} (h : eqO2 a b = true) : a = b := by
  cases a <;> cases b <;> simp [eqO2] at h <;> first | rfl | (rw [h])
theorem sameB_eq {k k' : IntKind} (h : sameB k k' = true) : k = k' := by cases k <;> cases k' <;> first | rfl | (simp [sameB] at h)
theorem eqA2_eq : ∀ (d : Nat) (a b : AV), eqA2 d a b = true → a = b := by
  intro d
  induction d with
  | zero => intro a b h; simp [eqA2] at h
  | succ d ih =>
    intro a b h
    have hl := eqL2_eq (f := eqA2 d) ih
    cases a <;> cases b <;> simp only [eqA2, Bool.and_eq_true] at h <;> try (simp at h; done)
    case bool x y => rw [eq_of_beq h]
    case int k x k' y => rw [sameB_eq h.1, eq_of_beq h.2]
    case vec cs n c cs' n' c' => rw [Nat.eq_of_beq_eq_true h.1, eqO2_eq h.2.1, hl _ _ h.2.2]
    case sl => rw [Nat.eq_of_beq_eq_true h.1, Nat.eq_of_beq_eq_true h.2.1, Nat.eq_of_beq_eq_true h.2.2.1, Nat.eq_of_beq_eq_true h.2.2.2.1, eqO2_eq h.2.2.2.2]
    case ptr => rw [Nat.eq_of_beq_eq_true h.1, Nat.eq_of_beq_eq_true h.2]
    case iptr => rw [Nat.eq_of_beq_eq_true h.1, hl _ _ h.2]
    case clo f cs f' cs' => rw [Nat.eq_of_beq_eq_true h.1, hl _ _ h.2]
    case agg => rw [hl _ _ h]
    case tup => rw [hl _ _ h]
    case anyb => rfl
    case junk => rfl
def eqB2 (H H2 : Heap) (j : Nat) : Bool := match getB H j, getB H2 j with
  | some a, some b => eqL2 (eqA2 6) a b
  | _, _ => false
theorem eqB2_eq {H H2 : Heap} {j : Nat} (h : eqB2 H H2 j = true) : ∃ cs, getB H j = some cs ∧ getB H2 j = some cs := by
  unfold eqB2 at h
  split at h
  · rename_i a b h1 h2
    exact ⟨a, h1, by rw [h2, eqL2_eq (eqA2_eq 6) a b h]⟩
  · simp at h

theorem effs_mem {σ : Nat → Nat} : ∀ (L : Heap) (i0 : Nat) (x : Nat × Option (List AV)), x ∈ effs σ i0 L → ∃ i, ∃ hi : i < L.length, x = (σ (i0 + i), renB σ L[i]) := by
  intro L
  induction L with
  | nil => intro i0 x h; simp [effs] at h
  | cons c L ih =>
    intro i0 x h
    simp only [effs, List.mem_cons] at h
    rcases h with rfl | h
    · exact ⟨0, by simp, rfl⟩
    · obtain ⟨i, hi, rfl⟩ := ih (i0 + 1) x h
      refine ⟨i + 1, by simpa using hi, ?_⟩
      have : i0 + 1 + i = i0 + (i + 1) := by omega
      rw [this]
      rfl

noncomputable def genF (f0 : List AV → Heap → O) (args : List AV) (ids : List Nat) (H : Heap) (k : FP → AV → Heap → O) : O :=
  ifK (innA ids args) (subK ids ids H fun H0 => rnL (posN ids) args fun args0 => rtK (f0 args0 H0) fun v H' => lenK H fun m => rnK (namN ids m) v fun v => hpK (padH H (Nat.sub H'.length ids.length)) fun Hp => wbK (namN ids m) H' 0 Hp fun H2 => k (ids, keys ((effs (namN ids m) 0 H').filter fun x => !(eqB2 H H2 x.1))) v H2)
theorem genF_inv {f0 : FRun} {f : FuncId} {args : List AV} {ids : List Nat} {H : Heap} {k : FP → AV → Heap → O} {R : AV × Heap} (h1 : nodupN ids = true) (h : genF (f0 f) args ids H k = some R) : ∃ v e rd cc, CallS f0 f args H v e rd cc ∧ k (rd, keys e) v (applyE e (padH H cc)) = some R := by
  obtain ⟨h2, h⟩ := ifK_inv h
  obtain ⟨h3, h⟩ := subK_inv ids H ids h
  rw [rnL_eq] at h
  obtain ⟨v, H', hr, h⟩ := rtK_inv h
  have hn : namN ids H.length = names ids H.length := funext (namN_eq ids H.length)
  have hp : posN ids = pos ids := funext (posN_eq ids)
  rw [lenK_eq, rnK_eq, hpK_eq, wbK_eq, hn] at h
  rw [hp] at hr
  rw [innA_eq] at h2
  have hS : CallS f0 f args H (v.ren (names ids H.length)) (effs (names ids H.length) 0 H') ids (H'.length - ids.length) := .gen ids v H' h2 (by unfold okIds; rw [h1, Bool.true_and]; exact h3) hr
  have hlt : ∀ i ∈ ids, i < H.length := by
    intro i hi
    have := List.all_eq_true.1 h3 i hi
    split at this
    · rename_i cs e; exact getB_lt e
    · simp at this
  have hnd := nodupN_spec _ h1
  have hcond : ∀ x ∈ effs (names ids H.length) 0 H', (!(eqB2 H (applyE (effs (names ids H.length) 0 H') (padH H (H'.length - ids.length))) x.1)) = false → x.1 ∈ ids ∧ ∃ cs, x.2 = some cs ∧ getB H x.1 = some cs := by
    intro x hx hpx
    obtain ⟨i, hi, rfl⟩ := effs_mem _ _ _ hx
    simp only [Bool.not_eq_false'] at hpx
    obtain ⟨cs, g1, g2⟩ := eqB2_eq hpx
    simp only [Nat.zero_add] at g1 g2 ⊢
    have hl := getB_lt g1
    have hil : i < ids.length := by
      rcases Nat.lt_or_ge i ids.length with h' | h'
      · exact h'
      · unfold names at hl; rw [dif_neg (by omega)] at hl; omega
    have hm : names ids H.length i ∈ ids := by simp only [names, hil, dif_pos]; exact List.getElem_mem hil
    have hh := effs_hit (names ids H.length) (fun a b => names_inj hnd hlt) H' 0 (padH H (H'.length - ids.length)) i hi (by rw [padH_eq]; simp only [Nat.zero_add, List.length_append]; omega)
    simp only [Nat.zero_add] at hh
    unfold getB at g2
    rw [hh] at g2
    refine ⟨hm, cs, ?_, g1⟩
    cases hr2 : renB (names ids H.length) H'[i] with
    | none => rw [hr2] at g2; simp at g2
    | some z => rw [hr2] at g2; simpa using g2
  have hT := CallS.thin (fun j => !(eqB2 H (applyE (effs (names ids H.length) 0 H') (padH H (H'.length - ids.length))) j)) hS hcond
  refine ⟨_, _, _, _, hT, ?_⟩
  rw [applyE_filter (fun j => !(eqB2 H (applyE (effs (names ids H.length) 0 H') (padH H (H'.length - ids.length))) j)) _ _ (fun x hx hpx => by
    obtain ⟨_, cs, q1, q2⟩ := hcond x hx hpx
    exact ⟨cs, q1, by rw [padH_eq, getB_pad]; exact q2⟩)]
  exact h
noncomputable def callF (c : FR) (f : Nat) (l : List AV) (H : Heap) (k : FP → AV → Heap → O) : O := bsel (clL l)
  (rtK (c (dg (Nat.div f (nat_lit 256))) (dg (Nat.mod (Nat.div f (nat_lit 16)) (nat_lit 16))) (dg (Nat.mod f (nat_lit 16))) l []) fun v h => List.rec (motive := fun _ => O → O → O) (fun x _ => x) (fun _ _ _ _ y => y) h (ifK (clV v) (k ([], []) v H)) (genF (c (dg (Nat.div f (nat_lit 256))) (dg (Nat.mod (Nat.div f (nat_lit 16)) (nat_lit 16))) (dg (Nat.mod f (nat_lit 16)))) l [] H k))
  (spK (idsA l []) fun ids => reachK ids H fun ids => genF (c (dg (Nat.div f (nat_lit 256))) (dg (Nat.mod (Nat.div f (nat_lit 16)) (nat_lit 16))) (dg (Nat.mod f (nat_lit 16)))) l ids H k)
theorem callF_inv {c : FR} {f : Nat} {l : List AV} {H : Heap} {k : FP → AV → Heap → O} {R : AV × Heap} (hf : Nat.blt f 4096 = true) (h : callF c f l H k = some R) : ∃ v e rd cc, CallS (frun c) f l H v e rd cc ∧ k (rd, keys e) v (applyE e (padH H cc)) = some R := by
  have hfr : frun c f = c (dg (f / 256)) (dg (f / 16 % 16)) (dg (f % 16)) := by funext a h; simp only [frun, hf]
  have h : bsel (clL l) (rtK (c (dg (f / 256)) (dg (f / 16 % 16)) (dg (f % 16)) l []) fun v h => List.rec (motive := fun _ => O → O → O) (fun x _ => x) (fun _ _ _ _ y => y) h (ifK (clV v) (k ([], []) v H)) (genF (c (dg (f / 256)) (dg (f / 16 % 16)) (dg (f % 16))) l [] H k))
    (spK (idsA l []) fun ids => reachK ids H fun ids => genF (c (dg (f / 256)) (dg (f / 16 % 16)) (dg (f % 16))) l ids H k) = some R := h
  rw [← hfr] at h
  rcases bsel_inv h with ⟨hc, h⟩ | h
  · obtain ⟨v, H', hr, h⟩ := rtK_inv h
    cases H' with
    | nil =>
      obtain ⟨hv, h⟩ := ifK_inv (show ifK (clV v) (k ([], []) v H) = some R from h)
      rw [clV_eq] at hv
      rw [clL_eq] at hc
      exact ⟨v, [], [], 0, .pure v hc hr hv, h⟩
    | cons b r => exact genF_inv rfl h
  · rw [spK_eq] at h
    obtain ⟨ids, hn, h⟩ := reachK_inv h
    exact genF_inv hn h

abbrev OF := (FP → OR) → OR
def GoodF (ok : FuncId → Bool) (o : COp) (f : OF) : Prop := ∀ next c n kn E H R, f next c n kn E H = some R →
  ∃ v e rd cc, opSP ok (frun c) n o (E16.env E) H v e rd cc ∧ next (rd, keys e) c n kn (E16.setO E o.dst v) (applyE e (padH H cc)) = some R

theorem opBP_calm {f0 : FRun} {k : CK} {E : Env} {H : Heap} {v : AV} {e : Eff} {rd : List Nat} {c : Nat} (hk : k.loud = false) (h : opBP ok f0 n0 k E H v e rd c) : e = [] ∧ rd = [] := by
  have hs : Stp (default : Program) ⟨[], fun _ _ _ _ _ => False, fun _ => []⟩ n0 ⟨none, none, k⟩ E H ⟨v, e, rd, H.length, c⟩ := by
    show Body (default : Program) ⟨[], fun _ _ _ _ _ => False, fun _ => []⟩ n0 k E H ⟨v, e, rd, H.length, c⟩
    cases k <;> first | (simp [CK.loud] at hk; done) | exact h
  exact hs.quiet hk
noncomputable def f_calm (ok : FuncId → Bool) (d : Option Nat) (k : CK) : OF := fun next => trK ok d k (next ([], []))
theorem good_calm {d : Option Nat} (hd : okD d = true) (k : CK) (hk : k.loud = false) : GoodF ok ⟨d, none, k⟩ (f_calm ok d k) := by
  intro next c n kn E H R h
  obtain ⟨v, e, rd, cc, h1, h2⟩ := trK_ok hd k _ _ _ _ _ _ _ h
  obtain ⟨rfl, rfl⟩ := opBP_calm hk (show opBP ok (frun c) n k E.env H v e rd cc from h1)
  exact ⟨v, [], [], cc, h1, h2⟩

noncomputable def f_load (d : ST) (x : GT) : OF := fun next c n kn E H => onPtr (x E) (fun id off => blkK H id fun cs => nthK cs off fun v => d E v fun E => next ([id], []) c n kn E H) (fun cs p => nthK cs p fun v => d E v fun E => next ([], []) c n kn E H)
theorem good_fload {dd : Option Nat} (hd : okD dd = true) (x : Opd) : GoodF ok ⟨dd, none, .load false 1 x⟩ (f_load (trD dd) (trG x)) := by
  intro next c n kn E H R h
  have key : ∀ (cs : List AV) (p : Nat) (v : AV), cs[p]? = some v → p + 1 ≤ cs.length ∧ ldv false 1 p cs = v := by
    intro cs p v hv
    have hl : p < cs.length := by
      rcases Nat.lt_or_ge p cs.length with h' | h'
      · exact h'
      · rw [List.getElem?_eq_none h'] at hv; simp at hv
    exact ⟨hl, by simp [ldv, List.getD_eq_getElem?_getD, hv]⟩
  rcases onPtr_inv h with ⟨id, off, hx, h⟩ | ⟨cs, p, hx, h⟩
  · obtain ⟨cs, hg, h⟩ := blkK_inv h
    obtain ⟨v, hv, h⟩ := nthK_inv h
    rw [trG_eq] at hx
    rw [trD_eq hd] at h
    obtain ⟨h1, h2⟩ := key _ _ _ hv
    exact ⟨v, [], [id], 0, ⟨by simp only [evK, hx, hg, need, h1, h2]; simp, rfl⟩, h⟩
  · obtain ⟨v, hv, h⟩ := nthK_inv h
    rw [trG_eq] at hx
    rw [trD_eq hd] at h
    obtain ⟨h1, h2⟩ := key _ _ _ hv
    exact ⟨v, [], [], 0, ⟨by simp only [evK, hx, need, h1, h2]; simp, rfl⟩, h⟩
noncomputable def f_loada (sz : Nat) (d : ST) (x : GT) : OF := fun next c n kn E H => onPtr (x E) (fun id off => blkK H id fun cs => cutK cs off sz fun v => d E (.agg v) fun E => next ([id], []) c n kn E H) (fun cs p => cutK cs p sz fun v => d E (.agg v) fun E => next ([], []) c n kn E H)
theorem good_floada {dd : Option Nat} (hd : okD dd = true) (sz : Nat) (x : Opd) : GoodF ok ⟨dd, none, .load true sz x⟩ (f_loada sz (trD dd) (trG x)) := by
  intro next c n kn E H R h
  rcases onPtr_inv h with ⟨id, off, hx, h⟩ | ⟨cs, p, hx, h⟩
  · obtain ⟨cs, hg, h⟩ := blkK_inv h
    obtain ⟨h1, h⟩ := cutK_inv h
    rw [trG_eq] at hx
    rw [trD_eq hd] at h
    exact ⟨_, [], [id], 0, ⟨by simp only [evK, hx, hg, need, h1, ldv]; simp, rfl⟩, h⟩
  · obtain ⟨h1, h⟩ := cutK_inv h
    rw [trG_eq] at hx
    rw [trD_eq hd] at h
    exact ⟨_, [], [], 0, ⟨by simp only [evK, hx, need, h1, ldv]; simp, rfl⟩, h⟩
noncomputable def f_box (d : ST) (x : GT) : OF := fun next c n kn E H => boxK (x E) fun cs => lenK H fun m => snocK H (some cs) fun H' => d E (.ptr m 0) fun E => next ([], [m]) c n kn E H'
theorem good_fbox {dd : Option Nat} (hd : okD dd = true) (x : Opd) : GoodF ok ⟨dd, none, .box x⟩ (f_box (trD dd) (trG x)) := by
  intro next c n kn E H R h
  obtain ⟨hf, h⟩ := boxK_inv h
  simp only [trG_eq] at hf h
  simp only [lenK_eq, snocK_eq, trD_eq hd] at h
  exact ⟨.ptr H.length 0, [(H.length, some (val E.env x).cells)], [], 1, ⟨by simp only [evK, hf, need, if_true], rfl⟩, by simp only [applyE, set_snoc]; exact h⟩
noncomputable def f_store (x y : GT) : OF := fun next c n kn E H => onPtr (x E) (fun id off => blkK H id fun cs => sc2K (y E) fun w => nthK cs off fun _ => putK cs off w fun cs => putK H id (some cs) fun H => next ([id], [id]) c n kn E H) (fun _ _ => none)
theorem good_fstore (x y : Opd) : GoodF ok ⟨none, none, .store 1 x y⟩ (f_store (trG x) (trG y)) := by
  intro next c n kn E H R h
  rcases onPtr_inv h with ⟨id, off, hx, h⟩ | ⟨cs, p, hx, h⟩
  · obtain ⟨cs, hg, h⟩ := blkK_inv h
    obtain ⟨z, h1, h2, h3, h⟩ := sc2K_inv h
    obtain ⟨v, hv, h⟩ := nthK_inv h
    rw [trG_eq] at hx
    rw [trG_eq] at h1 h2
    simp only [putK_eq] at h
    have hl : off < cs.length := by
      rcases Nat.lt_or_ge off cs.length with h' | h'
      · exact h'
      · rw [List.getElem?_eq_none h'] at hv; simp at hv
    refine ⟨.junk, [(id, some (cs.set off z))], [id], 0, ⟨?_, rfl⟩, h⟩
    simp only [evK, hx, hg, need, h1, h2, AV.scalL, h3, setL]
    simp
    omega
  · simp at h
noncomputable def f_storea (sz : Nat) (x y : GT) : OF := fun next c n kn E H => onPtr (x E) (fun id off => blkK H id fun cs => onAgg (y E) fun ws => lenK ws fun m => ifK (Nat.beq m sz) (stL ws cs off fun cs => putK H id (some cs) fun H => next ([id], [id]) c n kn E H)) (fun _ _ => none)
theorem good_fstorea (sz : Nat) (x y : Opd) : GoodF ok ⟨none, none, .store (sz + 1) x y⟩ (f_storea (sz + 1) (trG x) (trG y)) := by
  intro next c n kn E H R h
  rcases onPtr_inv h with ⟨id, off, hx, h⟩ | ⟨cs, p, hx, h⟩
  · obtain ⟨cs, hg, h⟩ := blkK_inv h
    obtain ⟨ws, hy, h⟩ := onAgg_inv h
    rw [lenK_eq] at h
    obtain ⟨hl, h⟩ := ifK_inv h
    have hl : ws.length = sz + 1 := Nat.eq_of_beq_eq_true hl
    obtain ⟨h1, h2, h⟩ := stL_inv ws h
    rw [putK_eq] at h
    have h2 := h2 (by intro e; rw [e] at hl; simp at hl)
    rw [trG_eq] at hx hy
    refine ⟨.junk, [(id, some (setL cs off ws))], [id], 0, ⟨?_, rfl⟩, h⟩
    simp only [evK, hx, hg, hy, need, AV.firm, AV.cells, hl, h1]
    rw [if_pos ⟨trivial, trivial, trivial, by omega⟩]
  · simp at h
noncomputable def f_call (f : Nat) (d : ST) (args : List GT) : OF := fun next c n kn E H => argsK args E fun l => callF c f l H fun fp v H => d E v fun E => next fp c n kn E H
theorem good_fcall {dd : Option Nat} (hd : okD dd = true) (f : FuncId) (hf : Nat.blt f 4096 = true) (args : List Opd) : GoodF ok ⟨dd, none, .call f args⟩ (f_call f (trD dd) (args.map trG)) := by
  intro next c n kn E H R h
  simp only [f_call, argsK_eq] at h
  obtain ⟨v, e, rd, cc, h1, h2⟩ := callF_inv hf h
  rw [trD_eq hd] at h2
  exact ⟨v, e, rd, cc, h1, h2⟩
noncomputable def f_callc (ok : FuncId → Bool) (d : ST) (x : GT) (args : List GT) : OF := fun next c n kn E H => onClo (x E) fun f caps => ifK (okC ok f) (argsK args E fun l =>
  bsel (Nat.blt f (nat_lit 65536)) (ifK (Nat.blt f (nat_lit 4096)) (appK l caps fun l => callF c f l H fun fp v H => d E v fun E => next fp c n kn E H))
    (ifK (nB1 (Nat.blt f (nat_lit 65536))) (natK (Nat.sub f (nat_lit 65536)) fun f => ifK (Nat.blt f (nat_lit 4096)) (appK caps l fun l => callF c f l H fun fp v H => d E v fun E => next fp c n kn E H))))
theorem good_fcallc {dd : Option Nat} (hd : okD dd = true) (x : Opd) (args : List Opd) : GoodF ok ⟨dd, none, .callc x args⟩ (f_callc ok (trD dd) (trG x) (args.map trG)) := by
  intro next c n kn E H R h
  obtain ⟨f, caps, hx, h⟩ := onClo_inv h
  rw [trG_eq] at hx
  obtain ⟨ho, h⟩ := ifK_inv h
  rw [argsK_eq] at h
  rcases bsel_inv h with ⟨hb, h⟩ | h
  · obtain ⟨hf, h⟩ := ifK_inv h
    rw [appK_eq] at h
    obtain ⟨v, e, rd, cc, h1, h2⟩ := callF_inv hf h
    rw [trD_eq hd] at h2
    have hb : Nat.blt f 65536 = true := hb
    exact ⟨v, e, rd, cc, ⟨f, caps, hx, ho, by simp only [cloF, cloA, hb]; exact h1⟩, h2⟩
  · obtain ⟨hb, h⟩ := ifK_inv h
    rw [nB1_eq] at hb
    rw [natK_eq] at h
    obtain ⟨hf, h⟩ := ifK_inv h
    rw [appK_eq] at h
    obtain ⟨v, e, rd, cc, h1, h2⟩ := callF_inv hf h
    rw [trD_eq hd] at h2
    have hb : Nat.blt f 65536 = false := by simpa using hb
    exact ⟨v, e, rd, cc, ⟨f, caps, hx, ho, by simp only [cloF, cloA, hb]; exact h1⟩, h2⟩
noncomputable def f_slow (ok : FuncId → Bool) (k : E16 → CK) (d : ST) : OF := fun next c n kn E H => resK (opBE ok (callX (frun c)) n (k E) env0 H) fun v e rd cc => dnK v fun v => hpK (padH H cc) fun H => effD e H fun H => d E v fun E => next (rd, keys e) c n kn E H
theorem good_fslow {dd : Option Nat} (hd : okD dd = true) (k : CK) : GoodF ok ⟨dd, none, k⟩ (f_slow ok (fun E => k.sub fun x => .k (trG x E)) (trD dd)) := by
  intro next c n kn E H R h
  obtain ⟨v, e, rd, cc, h1, h⟩ := resK_inv h
  rw [dnK_eq, hpK_eq, effD_eq, trD_eq hd] at h
  rw [opBE_sub (E := E.env)] at h1
  · exact ⟨v, e, rd, cc, opBE_P h1, h⟩
  · intro x
    exact trG_eq x E

noncomputable def trKF (ok : FuncId → Bool) (d : Option Nat) (k : CK) : OF := match k.loud with
  | false => f_calm ok d k
  | true => match k with
    | .load false 1 x => f_load (trD d) (trG x)
    | .load true sz x => f_loada sz (trD d) (trG x)
    | .box x => f_box (trD d) (trG x)
    | .store 1 x y => match d with
      | none => f_store (trG x) (trG y)
      | some d => f_slow ok (fun E => CK.sub (fun x => .k (trG x E)) (.store 1 x y)) (trD (some d))
    | .store (sz + 2) x y => match d with
      | none => f_storea (sz + 2) (trG x) (trG y)
      | some d => f_slow ok (fun E => CK.sub (fun x => .k (trG x E)) (.store (sz + 2) x y)) (trD (some d))
    | .call f args => match Nat.blt f 4096 with
      | true => f_call f (trD d) (args.map trG)
      | false => f_slow ok (fun E => CK.sub (fun x => .k (trG x E)) (.call f args)) (trD d)
    | .callc x args => f_callc ok (trD d) (trG x) (args.map trG)
    | k => f_slow ok (fun E => k.sub fun x => .k (trG x E)) (trD d)
theorem trKF_ok {d : Option Nat} (hd : okD d = true) (k : CK) : GoodF ok ⟨d, none, k⟩ (trKF ok d k) := by
  unfold trKF
  split
  · rename_i hk; exact good_calm hd k hk
  · split
    · exact good_fload hd _
    · exact good_floada hd _ _
    · exact good_fbox hd _
    · split
      · exact good_fstore _ _
      · exact good_fslow hd _
    · split
      · exact good_fstorea _ _ _
      · exact good_fslow hd _
    · split
      · rename_i hf; exact good_fcall hd _ hf _
      · exact good_fslow hd _
    · exact good_fcallc hd _ _
    · exact good_fslow hd _
noncomputable def f_grd (x : GT) (want : Bool) (d : ST) (f : OF) : OF := fun next c n kn E H => grK (x E) want (f next c n kn E H) (d E (.tup []) fun E => next ([], []) c n kn E H)
noncomputable def trOF (ok : FuncId → Bool) (o : COp) : OF := match o.g with
  | none => trKF ok o.dst o.k
  | some (g, want) => f_grd (gS g) want (trD o.dst) (trKF ok o.dst o.k)
theorem trOF_ok {o : COp} (hd : okD o.dst = true) : GoodF ok o (trOF ok o) := by
  obtain ⟨d, g, k⟩ := o
  unfold trOF
  cases g with
  | none => exact trKF_ok hd k
  | some p =>
    obtain ⟨g, want⟩ := p
    intro next c n kn E H R h
    rcases grK_inv h with ⟨hb, h⟩ | ⟨hb, h⟩
    · rw [gS_eq] at hb
      obtain ⟨v, e', rd, cc, h2, h3⟩ := trKF_ok hd k _ _ _ _ _ _ _ h
      exact ⟨v, e', rd, cc, ⟨true, hb, fun _ => h2, fun h => by simp at h⟩, h3⟩
    · rw [gS_eq] at hb
      rw [trD_eq hd] at h
      exact ⟨.tup [], [], [], 0, ⟨false, hb, fun h => by simp at h, fun _ => ⟨rfl, rfl, rfl, rfl⟩⟩, h⟩
noncomputable def f_end (l : List (Nat × Nat)) (fps : List FP) : OR := fun _ _ kn E H => ifK (dynB l fps) (kn E H)
noncomputable def f_op (o : OF) (rest : List FP → OR) (fps : List FP) : OR := o fun fp => rest (fps ++ [fp])
noncomputable def trLF (ok : FuncId → Bool) (l : List (Nat × Nat)) (os : List COp) : List FP → OR := List.rec (motive := fun _ => List FP → OR) (f_end l) (fun o _ ih => f_op (trOF ok o) ih) os
theorem trLF_inv {l : List (Nat × Nat)} : ∀ (os : List COp), okL os = true → ∀ {fps c n kn E H R}, trLF ok l os fps c n kn E H = some R → ∃ l' E' H', RR ok (frun c) n os E H l' E' H' ∧ dynB l (fps ++ l') = true ∧ kn E' H' = some R := by
  intro os
  induction os with
  | nil =>
    intro _ fps c n kn E H R h
    obtain ⟨h1, h2⟩ := ifK_inv (show ifK (dynB l fps) (kn E H) = some R from h)
    exact ⟨[], E, H, .nil E H, by simpa using h1, h2⟩
  | cons o os ih =>
    intro ho fps c n kn E H R h
    simp only [okL] at ho
    split at ho
    · rename_i hd
      obtain ⟨v, e, rd, cc, h1, h2⟩ := trOF_ok hd _ _ _ _ _ _ _ (show trOF ok o (fun fp => trLF ok l os (fps ++ [fp])) c n kn E H = some R from h)
      obtain ⟨l', E', H', h3, h4, h5⟩ := ih ho h2
      exact ⟨_, E', H', .cons h1 hd h3, by simpa using h4, h5⟩
    · simp at ho
noncomputable def t_dyf (r : List FP → OR) : RunT := fun c n kn _ E H => r [] c n kn E H

noncomputable def trReg (ok : FuncId → Bool) (m : Bool) (os : List COp) (d : Option (List (Nat × Nat))) : RunT := match okL os with
  | false => t_no
  | true => match d with
    | none => t_reg (trL ok os)
    | some l => match statQ os l with
      | true => t_reg (trL ok os)
      | false => match m with
        | true => match statP os l with
          | true => t_reg (trLP ok os)
          | false => t_dyf (trLF ok l os)
        | false => t_dyf (trLF ok l os)

noncomputable def tr (ok : FuncId → Bool) (m : Bool) (c : CC) : RunT :=
  CC.rec (motive := fun _ => RunT) t_skip (fun os d => trReg ok m os d) (fun _ _ a b => t_seq a b) (fun x _ _ a b => t_cond (trG x) a b) (fun id _ a => t_blk id a) (fun _ a => t_loop a) (fun i => t_exit i) (fun _ a => t_scope a) (fun _ => t_skip) (fun l => t_goto l) t_ret (fun _ _ _ _ _ _ _ => t_no) c

def fin (kn : Kn) (kx : Kx) (x : Exit) (E : E16) (H : Heap) : O := match x with
  | .normal => kn E H
  | x => kx x E H

def SndC (P : Program) (Γ : Glob) (cc : CC) (r : RunT) : Prop := ∀ c n kn kx E H R, RetOK P Γ (frun c) → r c n kn kx E H = some R →
  ∃ x E' H', fin kn kx x E' H' = some R ∧ ∀ nt Q, Q x (E16.env E') H' → W P Γ n nt cc (E16.env E) H Q

theorem cndK_inv {v : AV} {x y : O} {R : AV × Heap} (h : cndK v x y = some R) : (v = .bool true ∧ x = some R) ∨ (v = .bool false ∧ y = some R) := by
  cases v <;> first | (simp [cndK] at h; done) | skip
  rename_i b
  cases b
  · exact .inr ⟨rfl, h⟩
  · exact .inl ⟨rfl, h⟩

inductive Chain (P : Program) (Γ : Glob) (n : Nat) (a : CC) (x : Exit) (E' : E16) (H' : Heap) : Nat → E16 → Heap → Prop
  | stop {m : Nat} {E : E16} {H : Heap} (hx : x ≠ .normal) (h : ∀ nt (Q : Post), Q x E'.env H' → W P Γ n nt a E.env H Q) : Chain P Γ n a x E' H' m E H
  | step {m : Nat} {E : E16} {H : Heap} {E1 : E16} {H1 : Heap} (h : ∀ nt (Q : Post), Q .normal E1.env H1 → W P Γ n nt a E.env H Q) (h' : Chain P Γ n a x E' H' m E1 H1) : Chain P Γ n a x E' H' (m + 1) E H

theorem Chain.W {n : Nat} {a : CC} {x : Exit} {E' : E16} {H' : Heap} {m : Nat} {E : E16} {H : Heap} (h : Chain P Γ n a x E' H' m E H) (nt : Nat) (Q : Post) (hQ : Q x E'.env H') : W P Γ n nt (.loop a) E.env H Q := by
  refine W_loop (fun m E2 H2 => ∃ T : E16, E2 = T.env ∧ Chain P Γ n a x E' H' m T H2) ⟨E, rfl, h⟩ ?_
  rintro m E2 H2 ⟨T, rfl, ht⟩
  cases ht with
  | stop hx h =>
    refine h nt _ ?_
    cases x with
    | normal => exact absurd rfl hx
    | _ => exact hQ
  | step h h' => exact h nt _ ⟨_, _, _, Nat.lt_succ_self _, ⟨_, rfl, h'⟩, .refl⟩

theorem tr_sound (hok : ∀ f, ok f = true → okFn P f = true) (hm : P.follows .mixedOrders = true) : ∀ (m : Bool) (cc : CC), SndC P Γ cc (tr ok m cc) := by
  intro md cc
  induction cc with
  | skip => intro c n kn kx E H R _ h; exact ⟨.normal, E, H, h, fun nt Q hQ => W_skip hQ⟩
  | ret => intro c n kn kx E H R _ h; exact ⟨.ret, E, H, h, fun nt Q hQ => W_ret hQ⟩
  | exit i => intro c n kn kx E H R _ h; exact ⟨.exit i, E, H, h, fun nt Q hQ => W_exit hQ⟩
  | goto i => intro c n kn kx E H R _ h; exact ⟨.goto i, E, H, h, fun nt Q hQ => W_goto hQ⟩
  | label i => intro c n kn kx E H R _ h; exact ⟨.normal, E, H, h, fun nt Q hQ => W_label hQ⟩
  | reg os d =>
    intro c n kn kx E H R hc h
    have h : trReg ok md os d c n kn kx E H = some R := h
    cases ho : okL os with
    | false =>
      have e : trReg ok md os d = t_no := by simp only [trReg, ho]
      rw [e] at h
      exact absurd (show (none : O) = some R from h) (by simp)
    | true =>
      cases d with
      | none =>
        have e : trReg ok md os none = t_reg (trL ok os) := by simp only [trReg, ho]
        rw [e] at h
        obtain ⟨l, E', H', h1, h2⟩ := trL_inv os ho (show trL ok os c n kn E H = some R from h)
        exact ⟨.normal, E', H', h2, fun nt Q hQ => W_regNB hm (RR_regA hok hc h1 _ hQ)⟩
      | some l =>
        cases hq : statQ os l with
        | true =>
          have e : trReg ok md os (some l) = t_reg (trL ok os) := by simp only [trReg, ho, hq]
          rw [e] at h
          obtain ⟨fps, E', H', h1, h2⟩ := trL_inv os ho (show trL ok os c n kn E H = some R from h)
          exact ⟨.normal, E', H', h2, fun nt Q hQ => W_regDB hm (RR_regA hok hc h1 _ ⟨RR_dyn h1 hq, hQ⟩)⟩
        | false =>
          have dyn : t_dyf (trLF ok l os) c n kn kx E H = some R → ∃ x E' H', fin kn kx x E' H' = some R ∧ ∀ nt Q, Q x (E16.env E') H' → W P Γ n nt (.reg os (some l)) (E16.env E) H Q := by
            intro h
            obtain ⟨fps, E', H', h1, h3, h2⟩ := trLF_inv os ho (show trLF ok l os [] c n kn E H = some R from h)
            exact ⟨.normal, E', H', h2, fun nt Q hQ => W_regDB hm (RR_regA hok hc h1 _ ⟨by simpa using h3, hQ⟩)⟩
          cases md with
          | false =>
            have e : trReg ok false os (some l) = t_dyf (trLF ok l os) := by simp only [trReg, ho, hq]
            rw [e] at h
            exact dyn h
          | true =>
            cases hp : statP os l with
            | false =>
              have e : trReg ok true os (some l) = t_dyf (trLF ok l os) := by simp only [trReg, ho, hq, hp]
              rw [e] at h
              exact dyn h
            | true =>
              have e : trReg ok true os (some l) = t_reg (trLP ok os) := by simp only [trReg, ho, hq, hp]
              rw [e] at h
              obtain ⟨fps, E', H', h1, h2, h3⟩ := trLP_inv os ho (show trLP ok os c n kn E H = some R from h)
              exact ⟨.normal, E', H', h2, fun nt Q hQ => W_regDB hm (RR_regA hok hc h1 _ ⟨RR_dynP h1 h3 hp, hQ⟩)⟩
  | seq a b iha ihb =>
    intro c n kn kx E H R hc h
    obtain ⟨x, E1, H1, h1, h2⟩ := iha c n (fun E H => tr ok md b c n kn kx E H) kx E H R hc h
    cases x with
    | normal =>
      obtain ⟨x, E2, H2, h3, h4⟩ := ihb c n kn kx E1 H1 R hc h1
      exact ⟨x, E2, H2, h3, fun nt Q hQ => W_seq (h2 nt _ (h4 nt Q hQ))⟩
    | exit i => exact ⟨.exit i, E1, H1, h1, fun nt Q hQ => W_seq (h2 nt _ hQ)⟩
    | goto l => exact ⟨.goto l, E1, H1, h1, fun nt Q hQ => W_seq (h2 nt _ hQ)⟩
    | ret => exact ⟨.ret, E1, H1, h1, fun nt Q hQ => W_seq (h2 nt _ hQ)⟩
    | panic ch => exact ⟨.panic ch, E1, H1, h1, fun nt Q hQ => W_seq (h2 nt _ hQ)⟩
    | outgrown => exact ⟨.outgrown, E1, H1, h1, fun nt Q hQ => W_seq (h2 nt _ hQ)⟩
  | cond x a b iha ihb =>
    intro c n kn kx E H R hc h
    rcases cndK_inv (show cndK (trG x E) (tr ok md a c n kn kx E H) (tr ok md b c n kn kx E H) = some R from h) with ⟨hv, h⟩ | ⟨hv, h⟩
    · rw [trG_eq] at hv
      obtain ⟨x, E1, H1, h1, h2⟩ := iha c n kn kx E H R hc h
      exact ⟨x, E1, H1, h1, fun nt Q hQ => W_cond hv (fun _ => h2 nt Q hQ) (fun e => by simp at e)⟩
    · rw [trG_eq] at hv
      obtain ⟨x, E1, H1, h1, h2⟩ := ihb c n kn kx E H R hc h
      exact ⟨x, E1, H1, h1, fun nt Q hQ => W_cond hv (fun e => by simp at e) (fun _ => h2 nt Q hQ)⟩
  | block id a ih =>
    intro c n kn kx E H R hc h
    obtain ⟨x, E1, H1, h1, h2⟩ := ih c n kn (blkX id kn kx) E H R hc h
    cases x with
    | normal => exact ⟨.normal, E1, H1, h1, fun nt Q hQ => W_block (h2 nt _ hQ)⟩
    | exit i =>
      by_cases e : i = id
      · subst e
        rcases bsel_inv (show bsel (Nat.beq i i) (kn E1 H1) (kx (.exit i) E1 H1) = some R from h1) with ⟨_, h1⟩ | h1
        · exact ⟨.normal, E1, H1, h1, fun nt Q hQ => W_block (h2 nt _ (by simp only [inBlk, if_true]; exact hQ))⟩
        · have hb : bsel (Nat.beq i i) (kn E1 H1) (kx (.exit i) E1 H1) = some R := by assumption
          rw [Nat.beq_refl] at hb
          exact ⟨.normal, E1, H1, hb, fun nt Q hQ => W_block (h2 nt _ (by simp only [inBlk, if_true]; exact hQ))⟩
      · have hb : Nat.beq i id = false := by
          cases hh : Nat.beq i id with
          | false => rfl
          | true => exact absurd (Nat.eq_of_beq_eq_true hh) e
        have h1' : bsel (Nat.beq i id) (kn E1 H1) (kx (.exit i) E1 H1) = some R := h1
        rw [hb] at h1'
        exact ⟨.exit i, E1, H1, h1', fun nt Q hQ => W_block (h2 nt _ (by simp only [inBlk, if_neg e]; exact hQ))⟩
    | goto l => exact ⟨.goto l, E1, H1, h1, fun nt Q hQ => W_block (h2 nt _ hQ)⟩
    | ret => exact ⟨.ret, E1, H1, h1, fun nt Q hQ => W_block (h2 nt _ hQ)⟩
    | panic ch => exact ⟨.panic ch, E1, H1, h1, fun nt Q hQ => W_block (h2 nt _ hQ)⟩
    | outgrown => exact ⟨.outgrown, E1, H1, h1, fun nt Q hQ => W_block (h2 nt _ hQ)⟩
  | loop a ih =>
    intro c n kn kx E H R hc h
    have key : ∀ (m : Nat) (E : E16) (H : Heap), loopK (fun ih E H => tr ok md a c n ih kx E H) m E H = some R → ∃ x E' H', x ≠ .normal ∧ kx x E' H' = some R ∧ Chain P Γ n a x E' H' m E H := by
      intro m
      induction m with
      | zero => intro E H h; exact absurd (show (none : O) = some R from h) (by simp)
      | succ m ihm =>
        intro E H h
        obtain ⟨x, E1, H1, h1, h2⟩ := ih c n (loopK (fun ih E H => tr ok md a c n ih kx E H) m) kx E H R hc h
        cases x with
        | normal =>
          obtain ⟨x, E2, H2, hx, h3, h4⟩ := ihm E1 H1 h1
          exact ⟨x, E2, H2, hx, h3, .step h2 h4⟩
        | exit i => exact ⟨.exit i, E1, H1, by simp, h1, .stop (by simp) h2⟩
        | goto l => exact ⟨.goto l, E1, H1, by simp, h1, .stop (by simp) h2⟩
        | ret => exact ⟨.ret, E1, H1, by simp, h1, .stop (by simp) h2⟩
        | panic ch => exact ⟨.panic ch, E1, H1, by simp, h1, .stop (by simp) h2⟩
        | outgrown => exact ⟨.outgrown, E1, H1, by simp, h1, .stop (by simp) h2⟩
    obtain ⟨x, E', H', hx, h1, h2⟩ := key 1000000 E H (show loopK (fun ih E H => tr ok md a c n ih kx E H) 1000000 E H = some R from h)
    refine ⟨x, E', H', ?_, h2.W⟩
    cases x with
    | normal => exact absurd rfl hx
    | _ => exact h1
  | scope a ih =>
    intro c n kn kx E H R hc h
    obtain ⟨x, E1, H1, h1, h2⟩ := ih c n kn (scpX kx) E H R hc h
    cases x with
    | goto l => exact absurd (show (none : O) = some R from h1) (by simp)
    | normal => exact ⟨.normal, E1, H1, h1, fun nt Q hQ => W_scope0 (h2 nt _ ⟨fun l => by simp, hQ⟩)⟩
    | exit i => exact ⟨.exit i, E1, H1, h1, fun nt Q hQ => W_scope0 (h2 nt _ ⟨fun l => by simp, hQ⟩)⟩
    | ret => exact ⟨.ret, E1, H1, h1, fun nt Q hQ => W_scope0 (h2 nt _ ⟨fun l => by simp, hQ⟩)⟩
    | panic ch => exact ⟨.panic ch, E1, H1, h1, fun nt Q hQ => W_scope0 (h2 nt _ ⟨fun l => by simp, hQ⟩)⟩
    | outgrown => exact ⟨.outgrown, E1, H1, h1, fun nt Q hQ => W_scope0 (h2 nt _ ⟨fun l => by simp, hQ⟩)⟩
  | range x k ps a b => intro c n kn kx E H R _ h; exact absurd (show (none : O) = some R from h) (by simp)

-- results
inductive RG where
  | t (g : GT)
  | c (g : GT) (ag : Bool) (sz : Nat)

def trR : RV → RG
  | .t n => .t (gS n)
  | .c a ag sz => .c (gS a) ag sz

noncomputable def ldK (ag : Bool) (sz off : Nat) (cs : List AV) (k : AV → O) : O :=
  Bool.rec (motive := fun _ => Nat → Nat → List AV → (AV → O) → O) (fun sz off cs k => ifK (Nat.beq sz 1) (nthK cs off k)) (fun sz off cs k => cutK cs off sz fun l => k (.agg l)) ag sz off cs k
theorem ldK_inv {ag : Bool} {sz off : Nat} {cs : List AV} {k : AV → O} {R : AV × Heap} (h : ldK ag sz off cs k = some R) : off + sz ≤ cs.length ∧ k (ldv ag sz off cs) = some R := by
  cases ag with
  | true => exact cutK_inv (show cutK cs off sz (fun l => k (.agg l)) = some R from h)
  | false =>
    obtain ⟨h1, h⟩ := ifK_inv (show ifK (Nat.beq sz 1) (nthK cs off k) = some R from h)
    have h1 := Nat.eq_of_beq_eq_true h1
    obtain ⟨v, hv, h⟩ := nthK_inv h
    have hl : off < cs.length := by
      rcases Nat.lt_or_ge off cs.length with h' | h'
      · exact h'
      · rw [List.getElem?_eq_none h'] at hv; simp at hv
    exact ⟨by omega, by simpa [ldv, List.getD_eq_getElem?_getD, hv] using h⟩
noncomputable def r1K (r : RG) (E : E16) (H : Heap) (k : AV → O) : O :=
  RG.rec (motive := fun _ => E16 → Heap → (AV → O) → O) (fun g E _ k => fv (g E) k) (fun g ag sz E H k => onPtr (g E) (fun id off => blkK H id fun cs => ldK ag sz off cs k) (fun _ _ => none)) r E H k
theorem r1K_inv {r : RV} {E : E16} {H : Heap} {k : AV → O} {R : AV × Heap} (h : r1K (trR r) E H k = some R) : ∃ v, resOneB E.env H r = some v ∧ k v = some R := by
  cases r with
  | t n =>
    have h : fv (gS n E) k = some R := h
    rw [fv_eq, gS_eq] at h
    exact ⟨_, rfl, h⟩
  | c a ag sz =>
    have h : onPtr (gS a E) (fun id off => blkK H id fun cs => ldK ag sz off cs k) (fun _ _ => none) = some R := h
    rcases onPtr_inv h with ⟨id, off, hx, h⟩ | ⟨cs, p, hx, h⟩
    · rw [gS_eq] at hx
      obtain ⟨cs, hg, h⟩ := blkK_inv h
      obtain ⟨h1, h⟩ := ldK_inv h
      exact ⟨_, by simp only [resOneB, hx, hg, need, h1, if_true], h⟩
    · simp at h
noncomputable def rsK (rs : List RG) (E : E16) (H : Heap) (k : List AV → O) : O :=
  List.rec (motive := fun _ => E16 → Heap → (List AV → O) → O) (fun _ _ k => k []) (fun r _ ih E H k => r1K r E H fun v => ih E H fun l => k (v :: l)) rs E H k
theorem rsK_inv {E : E16} {H : Heap} {R : AV × Heap} : ∀ {rs : List RV} {k : List AV → O}, rsK (rs.map trR) E H k = some R → ∃ l, rs.mapM (resOneB E.env H) = some l ∧ k l = some R := by
  intro rs
  induction rs with
  | nil => intro k h; exact ⟨[], rfl, h⟩
  | cons r rs ih =>
    intro k h
    obtain ⟨v, hv, h⟩ := r1K_inv (show r1K (trR r) E H (fun v => rsK (rs.map trR) E H fun l => k (v :: l)) = some R from h)
    obtain ⟨l, hl, h⟩ := ih h
    exact ⟨v :: l, by rw [List.mapM_cons, hv, hl]; rfl, h⟩
noncomputable def oneK (l : List AV) (k : AV → O) : O :=
  List.rec (motive := fun _ => (AV → O) → O) (fun k => k (.tup [])) (fun a r _ k => List.rec (motive := fun _ => AV → (AV → O) → O) (fun a k => k a) (fun b r _ a k => k (.tup (a :: b :: r))) r a k) l k
theorem oneK_inv {E : Env} {H : Heap} {rs : List RV} {l : List AV} {k : AV → O} (hl : rs.mapM (resOneB E H) = some l) : ∃ v, resB rs E H = some v ∧ oneK l k = k v := by
  unfold resB
  rw [hl]
  match l with
  | [] => exact ⟨_, rfl, rfl⟩
  | [a] => exact ⟨_, rfl, rfl⟩
  | a :: b :: r => exact ⟨_, rfl, rfl⟩

-- freezing
noncomputable def blkZ (H : Heap) (i : Nat) (k : List AV → O) (z : O) : O :=
  List.rec (motive := fun _ => Nat → (List AV → O) → O → O) (fun _ _ z => z)
    (fun b _ ih i k z => Nat.rec (motive := fun _ => Option (List AV) → (Nat → (List AV → O) → O → O) → (List AV → O) → O → O) (fun b _ k z => Option.rec (motive := fun _ => (List AV → O) → O → O) (fun _ z => z) (fun cs k _ => k cs) b k z) (fun p _ _ ih k z => ih p k z) i b ih k z) H i k z
theorem blkZ_eq : ∀ (H : Heap) (i : Nat) (k : List AV → O) (z : O), blkZ H i k z = match getB H i with | some cs => k cs | none => z := by
  intro H
  induction H with
  | nil => intro i k z; rfl
  | cons b H ih =>
    intro i k z
    cases i with
    | zero => cases b <;> rfl
    | succ i => exact (ih i k z).trans (by simp [getB])
noncomputable def mapZ (f : AV → (AV → O) → O → O) (l : List AV) (k : List AV → O) (z : O) : O :=
  List.rec (motive := fun _ => (AV → (AV → O) → O → O) → (List AV → O) → O → O) (fun _ k _ => k []) (fun a _ ih f k z => f a (fun a => ih f (fun r => k (a :: r)) z) z) l f k z
theorem mapZ_eq {f : AV → (AV → O) → O → O} {g : AV → Option AV} (hf : ∀ a k z, f a k z = match g a with | some b => k b | none => z) : ∀ (l : List AV) (k : List AV → O) (z : O), mapZ f l k z = match l.mapM g with | some r => k r | none => z := by
  intro l
  induction l with
  | nil => intro k z; rfl
  | cons a l ih =>
    intro k z
    show f a (fun a => mapZ f l (fun r => k (a :: r)) z) z = _
    rw [hf, List.mapM_cons]
    cases hg : g a with
    | none => rfl
    | some b =>
      simp only [ih]
      cases l.mapM g <;> rfl
noncomputable def frzK (n0 : Nat) (H : Heap) (d : Nat) : AV → (AV → O) → O → O :=
  Nat.rec (motive := fun _ => AV → (AV → O) → O → O) (fun _ _ z => z)
    (fun _ ih v k z => AV.rec (motive_1 := fun _ => (AV → (AV → O) → O → O) → (AV → O) → O → O) (motive_2 := fun _ => Unit) (fun b _ k _ => k (.bool b)) (fun a b _ k _ => k (.int a b)) (fun s _ k _ => k (.str s)) (fun cs n c _ _ k _ => k (.vec cs n c))
      (fun id off n sz c ih k z => bsel (Nat.ble (Nat.succ id) n0) z (blkZ H id (fun cs => bsel (Nat.ble (Nat.add off (Nat.mul n sz)) cs.length) (cutK cs off (Nat.mul n sz) fun l => mapZ ih l (fun l => k (.vec l n c)) z) z) z))
      (fun _ _ _ _ z => z) (fun cs p _ _ k _ => k (.iptr cs p)) (fun _ _ _ _ _ z => z) (fun cs _ ih k z => mapZ ih cs (fun l => k (.agg l)) z) (fun cs _ ih k z => mapZ ih cs (fun l => k (.tup l)) z) (fun _ k _ => k .anyb) (fun _ k _ => k .junk) () (fun _ _ _ _ => ()) v ih k z) d
theorem cutK_eq : ∀ (l : List AV) (off n : Nat) (k : List AV → O), off + n ≤ l.length → cutK l off n k = k ((l.drop off).take n) := by
  have tk : ∀ (l : List AV) (n : Nat) (k : List AV → O), n ≤ l.length → takeK l n k = k (l.take n) := by
    intro l
    induction l with
    | nil => intro n k h; simp at h; subst h; rfl
    | cons a l ih =>
      intro n k h
      cases n with
      | zero => rfl
      | succ n => exact ih n _ (by simpa using h)
  intro l
  induction l with
  | nil => intro off n k h; simp at h; obtain ⟨rfl, rfl⟩ := h; rfl
  | cons a l ih =>
    intro off n k h
    cases off with
    | zero => exact tk (a :: l) n k (by omega)
    | succ off => exact ih off n k (by simp at h; omega)
theorem frzK_eq (n0 : Nat) (H : Heap) : ∀ (d : Nat) (v : AV) (k : AV → O) (z : O), frzK n0 H d v k z = match frzI n0 H d v with | some v => k v | none => z := by
  intro d
  induction d with
  | zero => intro v k z; rfl
  | succ d ih =>
    intro v k z
    cases v with
    | sl id off n sz c =>
      show bsel (Nat.ble (Nat.succ id) n0) z (blkZ H id (fun cs => bsel (Nat.ble (Nat.add off (Nat.mul n sz)) cs.length) (cutK cs off (Nat.mul n sz) fun l => mapZ (frzK n0 H d) l (fun l => k (.vec l n c)) z) z) z) = _
      simp only [frzI]
      by_cases h : id < n0
      · have hb : Nat.ble (Nat.succ id) n0 = true := by rw [Nat.ble_eq]; exact h
        rw [hb, if_pos h]; rfl
      · have hb : Nat.ble (Nat.succ id) n0 = false := by
          cases hh : Nat.ble (Nat.succ id) n0 with
          | false => rfl
          | true => rw [Nat.ble_eq] at hh; exact absurd hh h
        rw [hb, if_neg h]
        show blkZ _ _ _ _ = _
        rw [blkZ_eq]
        cases getB H id with
        | none => rfl
        | some cs =>
          simp only
          by_cases hl : off + n * sz ≤ cs.length
          · have hb : Nat.ble (Nat.add off (Nat.mul n sz)) cs.length = true := by rw [Nat.ble_eq]; exact hl
            rw [hb]
            show cutK cs off (n * sz) _ = _
            rw [cutK_eq _ _ _ _ hl, mapZ_eq ih]
            simp only [need, if_pos hl]
            show (match List.mapM (frzI n0 H d) ((cs.drop off).take (n * sz)) with | some r => k (.vec r n c) | none => z) = _
            cases List.mapM (frzI n0 H d) ((cs.drop off).take (n * sz)) <;> rfl
          · have hb : Nat.ble (Nat.add off (Nat.mul n sz)) cs.length = false := by
              cases hh : Nat.ble (Nat.add off (Nat.mul n sz)) cs.length with
              | false => rfl
              | true => rw [Nat.ble_eq] at hh; exact absurd hh hl
            rw [hb]
            simp only [need, if_neg hl]
            rfl
    | agg cs =>
      show mapZ (frzK n0 H d) cs (fun l => k (.agg l)) z = _
      rw [mapZ_eq ih]
      simp only [frzI]
      cases List.mapM (frzI n0 H d) cs <;> rfl
    | tup cs =>
      show mapZ (frzK n0 H d) cs (fun l => k (.tup l)) z = _
      rw [mapZ_eq ih]
      simp only [frzI]
      cases List.mapM (frzI n0 H d) cs <;> rfl
    | _ => rfl

-- the end of a call that keeps new blocks: those that are reached, under new names
noncomputable def rngN (n : Nat) (acc : List Nat) : List Nat := Nat.rec (motive := fun _ => List Nat → List Nat) (fun acc => acc) (fun p ih acc => ih (p :: acc)) n acc
theorem rngN_eq : ∀ (n : Nat) (acc : List Nat), rngN n acc = List.range n ++ acc := by
  intro n
  induction n with
  | zero => intro acc; rfl
  | succ n ih => intro acc; refine (show rngN (n + 1) acc = rngN n (n :: acc) from rfl).trans ?_; rw [ih, List.range_succ]; simp
noncomputable def newN (n0 : Nat) (l : List Nat) : List Nat := List.rec (motive := fun _ => List Nat) [] (fun x _ ih => Bool.rec (motive := fun _ => Nat → List Nat → List Nat) (fun _ ih => ih) (fun x ih => x :: ih) (Nat.ble n0 x) x ih) l
theorem newN_spec : ∀ (n0 : Nat) (l : List Nat), nodupN l = true → (newN n0 l).Nodup ∧ ∀ x ∈ newN n0 l, n0 ≤ x ∧ x ∈ l := by
  intro n0 l
  induction l with
  | nil => intro _; exact ⟨.nil, fun x hx => by simp [newN] at hx⟩
  | cons y l ih =>
    intro h
    simp only [nodupN, Bool.and_eq_true, Bool.not_eq_true'] at h
    obtain ⟨h1, h2⟩ := ih h.2
    have hc : newN n0 (y :: l) = (Bool.rec (motive := fun _ => Nat → List Nat → List Nat) (fun _ ih => ih) (fun x ih => x :: ih) (Nat.ble n0 y) y (newN n0 l) : List Nat) := rfl
    cases hb : Nat.ble n0 y with
    | false =>
      rw [hb] at hc
      have hc : newN n0 (y :: l) = newN n0 l := hc
      rw [hc]
      exact ⟨h1, fun x hx => ⟨(h2 x hx).1, List.mem_cons_of_mem _ (h2 x hx).2⟩⟩
    | true =>
      rw [hb] at hc
      have hc : newN n0 (y :: l) = y :: newN n0 l := hc
      rw [hc]
      rw [Nat.ble_eq] at hb
      refine ⟨List.nodup_cons.2 ⟨fun hm => ?_, h1⟩, fun x hx => ?_⟩
      · have := hasN_of_mem _ _ (h2 y hm).2
        rw [this] at h
        simp at h
      · rcases List.mem_cons.1 hx with e | hx
        · subst e; exact ⟨hb, List.mem_cons_self⟩
        · exact ⟨(h2 x hx).1, List.mem_cons_of_mem _ (h2 x hx).2⟩
-- values and cells if of the blocks only ids go on; slices of the other ones become immutable
noncomputable def mapC (f : AV → (AV → O) → O) (l : List AV) (k : List AV → O) : O := List.rec (motive := fun _ => (List AV → O) → O) (fun k => k []) (fun a _ ih k => f a fun a => ih fun r => k (a :: r)) l k
theorem mapC_inv {f : AV → (AV → O) → O} {Q : AV → AV → Prop} {R : AV × Heap} (hf : ∀ (a : AV) (k : AV → O), f a k = some R → ∃ a', Q a a' ∧ k a' = some R) : ∀ (l : List AV) (k : List AV → O), mapC f l k = some R →
    ∃ l' : List AV, l'.length = l.length ∧ (∀ (j : Nat) (x y : AV), l[j]? = some x → l'[j]? = some y → Q x y) ∧ k l' = some R := by
  intro l
  induction l with
  | nil => intro k h; exact ⟨[], rfl, fun j x y hx => by simp at hx, h⟩
  | cons a l ih =>
    intro k h
    obtain ⟨a', q, h⟩ := hf a _ (show f a (fun a => mapC f l fun r => k (a :: r)) = some R from h)
    obtain ⟨l', h1, h2, h3⟩ := ih _ h
    refine ⟨a' :: l', by simp [h1], fun j x y hx hy => ?_, h3⟩
    cases j with
    | zero => simp at hx hy; subst hx hy; exact q
    | succ j => exact h2 j x y (by simpa using hx) (by simpa using hy)
noncomputable def frcK (ids : List Nat) (H : Heap) (d : Nat) (v : AV) (k : AV → O) : O :=
  Nat.rec (motive := fun _ => AV → (AV → O) → O) (fun _ _ => none)
    (fun _ ih v k => bsel (innV ids v) (rnK (posN ids) v k)
      (AV.rec (motive_1 := fun _ => (AV → (AV → O) → O) → (AV → O) → O) (motive_2 := fun _ => Unit) (fun _ _ _ => none) (fun _ _ _ _ => none) (fun _ _ _ => none) (fun _ _ _ _ _ _ => none)
        (fun id off n sz c ih k => Bool.rec (motive := fun _ => O) (blkK H id fun cs => cutK cs off (Nat.mul n sz) fun l => mapC ih l fun l => ifK (clL l) (k (.vec l n c))) none (memN ids id))
        (fun _ _ _ _ => none) (fun _ _ _ _ _ => none) (fun _ _ _ _ _ => none) (fun cs _ ih k => mapC ih cs fun cs => k (.agg cs)) (fun cs _ ih k => mapC ih cs fun cs => k (.tup cs)) (fun _ _ => none) (fun _ _ => none) () (fun _ _ _ _ => ()) v ih k)) d v k
theorem frcK_inv {ids : List Nat} {H : Heap} {R : AV × Heap} : ∀ (d : Nat) (v : AV) (k : AV → O), frcK ids H d v k = some R → ∃ v', Frc ids H v v' ∧ k v' = some R := by
  intro d
  induction d with
  | zero => intro v k h; exact absurd (show (none : O) = some R from h) (by simp)
  | succ d ih =>
    intro v k h
    have hp : posN ids = pos ids := funext (posN_eq ids)
    cases hi : innV ids v with
    | true =>
      replace h : bsel (innV ids v) (rnK (posN ids) v k) _ = some R := h
      rw [hi] at h
      replace h : rnK (posN ids) v k = some R := h
      rw [rnK_eq, hp] at h
      rw [innV_eq] at hi
      obtain ⟨e1, e2⟩ := ren_back ids H.length v hi
      exact ⟨_, .ren _ _ e1 e2, h⟩
    | false =>
      replace h : bsel (innV ids v) (rnK (posN ids) v k) _ = some R := h
      rw [hi] at h
      cases v <;> first | (exact absurd (show (none : O) = some R from h) (by simp); done) | skip
      case sl id off n sz c =>
        replace h : (Bool.rec (motive := fun _ => O) (blkK H id fun cs => cutK cs off (Nat.mul n sz) fun l => mapC (fun v k => frcK ids H d v k) l fun l => ifK (clL l) (k (.vec l n c))) none (memN ids id) : O) = some R := h
        cases hm : memN ids id with
        | true => rw [hm] at h; exact absurd (show (none : O) = some R from h) (by simp)
        | false =>
          rw [hm] at h
          obtain ⟨cs, hg, h⟩ := blkK_inv (show blkK H id (fun cs => cutK cs off (Nat.mul n sz) fun l => mapC (fun v k => frcK ids H d v k) l fun l => ifK (clL l) (k (.vec l n c))) = some R from h)
          obtain ⟨hle, h⟩ := cutK_inv h
          obtain ⟨l', h1, h2, h⟩ := mapC_inv (fun a k h => ih a k h) _ _ h
          obtain ⟨hc, h⟩ := ifK_inv h
          rw [clL_eq] at hc
          rw [memN_eq] at hm
          have hlen : l'.length = n * sz := by
            rw [h1]
            simp only [List.length_take, List.length_drop]
            have : Nat.mul n sz = n * sz := rfl
            omega
          refine ⟨_, .frz id off n sz c cs l' (fun hx => by rw [hasN_of_mem _ _ hx] at hm; simp at hm) hg hle hlen hc (fun j x y hx hy => ?_), h⟩
          refine h2 j x y ?_ hy
          have hj : j < n * sz := by
            rcases Nat.lt_or_ge j l'.length with h' | h'
            · omega
            · rw [List.getElem?_eq_none h'] at hy; simp at hy
          rw [List.getElem?_take, if_pos (show j < Nat.mul n sz from hj), List.getElem?_drop]
          exact hx
      case agg cs =>
        obtain ⟨l', h1, h2, h⟩ := mapC_inv (fun a k h => ih a k h) _ _ (show mapC (fun v k => frcK ids H d v k) cs (fun cs => k (.agg cs)) = some R from h)
        exact ⟨_, .agg cs l' h1 h2, h⟩
      case tup cs =>
        obtain ⟨l', h1, h2, h⟩ := mapC_inv (fun a k h => ih a k h) _ _ (show mapC (fun v k => frcK ids H d v k) cs (fun cs => k (.tup cs)) = some R from h)
        exact ⟨_, .tup cs l' h1 h2, h⟩
noncomputable def bkC (ids : List Nat) (H : Heap) (cs : List AV) (k : List AV → O) : O := bsel (clL cs) (k cs) (bsel (innA ids cs) (rnL (posN ids) cs k) (ifK (notLoop cs) (mapC (fun v k => frcK ids H 8 v k) cs k)))
theorem bkC_inv {ids : List Nat} {H : Heap} {cs : List AV} {k : List AV → O} {R : AV × Heap} (h : bkC ids H cs k = some R) : ∃ cs', BlkC ids H (some (some cs)) (some cs') ∧ k cs' = some R := by
  have hp : posN ids = pos ids := funext (posN_eq ids)
  unfold bkC at h
  cases hc : clL cs with
  | true =>
    rw [hc] at h
    have h : k cs = some R := h
    rw [clL_eq] at hc
    exact ⟨cs, .ren _ _ (map_ren_closed _ cs hc) (underL_closed _ _ hc), h⟩
  | false =>
    rw [hc] at h
    cases hi : innA ids cs with
    | true =>
      rw [hi] at h
      have h : rnL (posN ids) cs k = some R := h
      rw [rnL_eq, hp] at h
      rw [innA_eq] at hi
      obtain ⟨e1, e2⟩ := renL_back ids H.length cs hi
      exact ⟨_, .ren _ _ e1 e2, h⟩
    | false =>
      rw [hi] at h
      obtain ⟨hn, h⟩ := ifK_inv (show ifK (notLoop cs) (mapC (fun v k => frcK ids H 8 v k) cs k) = some R from h)
      obtain ⟨l', h1, h2, h⟩ := mapC_inv (fun a k h => frcK_inv 8 a k h) _ _ h
      exact ⟨l', .frz cs l' hn h1 h2, h⟩
noncomputable def subE (ids all : List Nat) (H : Heap) (k : Heap → O) : O :=
  List.rec (motive := fun _ => List Nat → Heap → (Heap → O) → O) (fun _ _ k => k []) (fun i _ ih all H k => nthK H i fun b => Option.rec (motive := fun _ => (List Nat → Heap → (Heap → O) → O) → List Nat → Heap → (Heap → O) → O) (fun ih all H k => ih all H fun r => k (none :: r))
    (fun cs ih all H k => bkC all H cs fun cs => ih all H fun r => k (some cs :: r)) b ih all H k) ids all H k
theorem subE_inv (all : List Nat) (H : Heap) {R : AV × Heap} : ∀ (ids : List Nat) {k : Heap → O}, subE ids all H k = some R → ∃ H', k H' = some R ∧ H'.length = ids.length ∧
    ∀ (i : Nat) (x : Nat), ids[i]? = some x → ∃ c, H'[i]? = some c ∧ BlkC all H (H[x]?) c := by
  intro ids
  induction ids with
  | nil => intro k h; exact ⟨[], h, rfl, fun i x hx => by simp at hx⟩
  | cons i ids ih =>
    intro k h
    obtain ⟨b, hb, h⟩ := nthK_inv (show nthK H i (fun b => Option.rec (motive := fun _ => (List Nat → Heap → (Heap → O) → O) → List Nat → Heap → (Heap → O) → O) (fun ih all H k => ih all H fun r => k (none :: r))
      (fun cs ih all H k => bkC all H cs fun cs => ih all H fun r => k (some cs :: r)) b (fun all H k => subE ids all H k) all H k) = some R from h)
    cases b with
    | none =>
      obtain ⟨H', h1, h2, h3⟩ := ih (k := fun r => k (none :: r)) h
      refine ⟨_, h1, by simp [h2], fun j x hx => ?_⟩
      cases j with
      | zero => simp at hx; subst hx; exact ⟨none, rfl, by rw [hb]; exact .dead⟩
      | succ j => exact h3 j x (by simpa using hx)
    | some cs =>
      obtain ⟨cs', hc, h⟩ := bkC_inv (show bkC all H cs (fun cs => subE ids all H fun r => k (some cs :: r)) = some R from h)
      obtain ⟨H', h1, h2, h3⟩ := ih h
      refine ⟨_, h1, by simp [h2], fun j x hx => ?_⟩
      cases j with
      | zero => simp at hx; subst hx; exact ⟨some cs', rfl, by rw [hb]; exact hc⟩
      | succ j => exact h3 j x (by simpa using hx)
-- which blocks go on: those that are reached, but for slices inside new slices of structs
noncomputable def refV (f : Bool) (v : AV) (a : List AV) : List AV := AV.rec (motive_1 := fun _ => List AV → List AV) (motive_2 := fun _ => List AV → List AV) (fun _ a => a) (fun _ _ a => a) (fun _ a => a) (fun _ _ _ _ a => a) (fun id off n sz c a => Bool.rec (motive := fun _ => List AV) a (.sl id off n sz c :: a) f) (fun id off a => .ptr id off :: a) (fun _ _ _ a => a) (fun _ _ ih a => ih a) (fun _ ih a => ih a) (fun _ ih a => ih a) (fun a => a) (fun a => a) (fun a => a) (fun _ _ x y a => y (x a)) v a
noncomputable def refA (f : Bool) (l : List AV) (a : List AV) : List AV := List.rec (motive := fun _ => List AV → List AV) (fun a => a) (fun v _ ih a => ih (refV f v a)) l a
noncomputable def oldR (H : Heap) (n : Nat) (a : List AV) : List AV :=
  List.rec (motive := fun _ => Nat → List AV → List AV) (fun _ a => a) (fun b _ ih n a => Nat.rec (motive := fun _ => List AV) a (fun p _ => ih p (Option.rec (motive := fun _ => List AV) a (fun cs => refA true cs a) b)) n) H n a
noncomputable def idSz (v : AV) (k : Nat → Nat → O) : O := AV.rec (motive_1 := fun _ => (Nat → Nat → O) → O) (motive_2 := fun _ => Unit) (fun _ _ => none) (fun _ _ _ => none) (fun _ _ => none) (fun _ _ _ _ _ => none) (fun id _ _ sz _ k => k id sz) (fun id _ k => k id (nat_lit 1)) (fun _ _ _ _ => none) (fun _ _ _ _ => none) (fun _ _ _ => none) (fun _ _ _ => none) (fun _ => none) (fun _ => none) () (fun _ _ _ _ => ()) v k
theorem idSz_inv {v : AV} {k : Nat → Nat → O} {R : AV × Heap} (h : idSz v k = some R) : ∃ a b, k a b = some R := by
  cases v <;> first | exact ⟨_, _, h⟩ | exact absurd (show (none : O) = some R from h) (by simp)
noncomputable def wlP (n0 n : Nat) (todo : List AV) (done : List Nat) (H : Heap) (k : List Nat → O) : O :=
  Nat.rec (motive := fun _ => List AV → List Nat → Heap → (List Nat → O) → O) (fun _ _ _ _ => none)
    (fun _ ih todo done H k => List.rec (motive := fun _ => (List AV → List Nat → Heap → (List Nat → O) → O) → List Nat → Heap → (List Nat → O) → O) (fun _ done _ k => k done)
      (fun v rest _ ih done H k => idSz v fun i sz => natK i fun i => bsel (memN done i) (ih rest done H k) (nthK H i fun b => Option.rec (motive := fun _ => (List AV → List Nat → Heap → (List Nat → O) → O) → List AV → List Nat → Heap → (List Nat → O) → O) (fun ih rest done H k => ih rest done H k)
        (fun cs ih rest done H k => ih (refA (bsel2 (Nat.ble n0 i) (Nat.ble sz (nat_lit 1)) true) cs rest) done H k) b ih rest (i :: done) H k)) todo ih done H k) n todo done H k
  where bsel2 (b x y : Bool) : Bool := Bool.rec (motive := fun _ => Bool) y x b
theorem wlP_inv {n0 : Nat} {H : Heap} {k : List Nat → O} {R : AV × Heap} : ∀ {n : Nat} {todo : List AV} {done : List Nat}, nodupN done = true → wlP n0 n todo done H k = some R → ∃ ids, nodupN ids = true ∧ k ids = some R := by
  intro n
  induction n with
  | zero => intro todo done _ h; exact absurd (show (none : O) = some R from h) (by simp)
  | succ n ih =>
    intro todo done hd h
    cases todo with
    | nil => exact ⟨done, hd, h⟩
    | cons v rest =>
      obtain ⟨i, sz, h⟩ := idSz_inv (show idSz v (fun i sz => natK i fun i => bsel (memN done i) (wlP n0 n rest done H k) (nthK H i fun b => Option.rec (motive := fun _ => (List AV → List Nat → Heap → (List Nat → O) → O) → List AV → List Nat → Heap → (List Nat → O) → O) (fun ih rest done H k => ih rest done H k)
        (fun cs ih rest done H k => ih (refA (wlP.bsel2 (Nat.ble n0 i) (Nat.ble sz (nat_lit 1)) true) cs rest) done H k) b (fun todo done H k => wlP n0 n todo done H k) rest (i :: done) H k)) = some R from h)
      rw [natK_eq] at h
      cases hm : memN done i with
      | true => rw [hm] at h; exact ih hd h
      | false =>
        rw [hm] at h
        have hd' : nodupN (i :: done) = true := by
          rw [memN_eq] at hm
          simp only [nodupN, hm, hd]
          rfl
        obtain ⟨b, _, h⟩ := nthK_inv (show nthK H i (fun b => Option.rec (motive := fun _ => (List AV → List Nat → Heap → (List Nat → O) → O) → List AV → List Nat → Heap → (List Nat → O) → O) (fun ih rest done H k => ih rest done H k)
          (fun cs ih rest done H k => ih (refA (wlP.bsel2 (Nat.ble n0 i) (Nat.ble sz (nat_lit 1)) true) cs rest) done H k) b (fun todo done H k => wlP n0 n todo done H k) rest (i :: done) H k) = some R from h)
        cases b with
        | none => exact ih hd' h
        | some cs => exact ih hd' h
noncomputable def compK (n0 : Nat) (v : AV) (H : Heap) : O :=
  wlP n0 (nat_lit 100000) (refV true v (oldR H n0 [])) [] H fun l => spK (rngN n0 (newN n0 l)) fun ids => subE ids ids H fun H' => frcK ids H 8 v fun v' => some (v', H')
theorem compK_inv {n0 : Nat} {v : AV} {H : Heap} {R : AV × Heap} (h : compK n0 v H = some R) : Fin n0 v H R.1 R.2 ∧ n0 ≤ R.2.length := by
  unfold compK at h
  obtain ⟨l, hl0, h⟩ := wlP_inv rfl h
  rw [spK_eq, rngN_eq] at h
  have h1 : (List.range n0 ++ newN n0 l).Nodup := by
    obtain ⟨a1, a2⟩ := newN_spec n0 l hl0
    refine List.nodup_append.2 ⟨List.nodup_range, a1, fun x hx y hy e => ?_⟩
    subst e
    have := (a2 x hy).1
    have := List.mem_range.1 hx
    omega
  generalize hids : List.range n0 ++ newN n0 l = ids at h h1
  obtain ⟨H', h, hl, hH⟩ := subE_inv ids H ids h
  obtain ⟨v', hv, h⟩ := frcK_inv 8 v _ h
  simp only [Option.some.injEq] at h
  subst h
  have hn : n0 ≤ ids.length := by rw [← hids]; simp
  have hget : ∀ i, i < ids.length → ids[i]? = some (names ids H.length i) := by
    intro i hi
    simp [names, hi]
  refine ⟨.comp ids v _ H H' h1 (fun i hi => ?_) hn (fun i hi => ?_) hv hl (fun i c hc => ?_), by show n0 ≤ H'.length; omega⟩
  · obtain ⟨j, hj, e⟩ := List.getElem_of_mem hi
    obtain ⟨c, _, hb⟩ := hH j i (by rw [← e]; simp [hj])
    rcases Nat.lt_or_ge i H.length with h' | h'
    · exact h'
    · rw [List.getElem?_eq_none h'] at hb; cases hb
  · have hx := hget i (by omega)
    rw [← hids, List.getElem?_append_left (by simpa using hi), List.getElem?_range hi] at hx
    rw [← hids]
    exact (Option.some.inj hx).symm
  · have hi : i < ids.length := by
      rw [← hl]
      rcases Nat.lt_or_ge i H'.length with h' | h'
      · exact h'
      · rw [List.getElem?_eq_none h'] at hc; simp at hc
    obtain ⟨c', hc', hb⟩ := hH i _ (hget i hi)
    rw [hc] at hc'
    simp only [Option.some.injEq] at hc'
    subst hc'
    exact hb
noncomputable def keepK (n0 : Nat) (v : AV) (H : Heap) : O := lenK H fun m => bsel (Nat.beq m n0) (some (v, H)) (compK n0 v H)
theorem keepK_inv {n0 : Nat} {v : AV} {H : Heap} {R : AV × Heap} (h : keepK n0 v H = some R) : Fin n0 v H R.1 R.2 ∧ n0 ≤ R.2.length := by
  unfold keepK at h
  rw [lenK_eq] at h
  rcases bsel_inv h with ⟨h1, h⟩ | h
  · simp only [Option.some.injEq] at h
    subst h
    have := Nat.eq_of_beq_eq_true h1
    exact ⟨.keep _ _, by show n0 ≤ H.length; omega⟩
  · exact compK_inv h

def FinP (n0 : Nat) (v : Option AV) (H : Heap) (R : AV × Heap) : Prop := ∃ v0, v = some v0 ∧ Fin n0 v0 H R.1 R.2 ∧ n0 ≤ R.2.length
theorem finP_sound {n0 : Nat} {v : AV} {H : Heap} {v' : AV} {H' : Heap} (h : FinP n0 (some v) H (v', H')) : Fin n0 v H v' H' ∧ n0 ≤ H'.length := by
  obtain ⟨v0, e, h⟩ := h
  simp only [Option.some.injEq] at e
  subst e
  exact h
noncomputable def finK (n0 : Nat) (keep : Bool) (rs : List RG) (E : E16) (H : Heap) : O :=
  rsK rs E H fun l => oneK l fun v => Bool.rec (motive := fun _ => Nat → AV → Heap → O) (fun n0 v H => ifK (okOld n0 H) (frzK n0 H 8 v (fun v => hpK (H.take n0) fun h => some (v, h)) (ifK (v.under n0) (hpK (H.take n0) fun h => some (v, h)))))
    (fun n0 v H => keepK n0 v H) keep n0 v H
theorem finK_inv {n0 : Nat} {keep : Bool} {rs : List RV} {E : E16} {H : Heap} {R : AV × Heap} (h : finK n0 keep (rs.map trR) E H = some R) : FinP n0 (resB rs E.env H) H R := by
  obtain ⟨l, hl, h⟩ := rsK_inv h
  obtain ⟨v, hv, he⟩ := oneK_inv (k := fun v => Bool.rec (motive := fun _ => Nat → AV → Heap → O) (fun n0 v H => ifK (okOld n0 H) (frzK n0 H 8 v (fun v => hpK (H.take n0) fun h => some (v, h)) (ifK (v.under n0) (hpK (H.take n0) fun h => some (v, h)))))
    (fun n0 v H => keepK n0 v H) keep n0 v H) hl
  rw [he] at h
  rw [hv]
  cases keep with
  | true => exact ⟨v, rfl, keepK_inv h⟩
  | false =>
    have hx : finX n0 false (some v) H = some R := by
      simp only [finX]
      obtain ⟨h1, h⟩ := ifK_inv (show ifK (okOld n0 H) (frzK n0 H 8 v (fun v => hpK (H.take n0) fun h => some (v, h)) (ifK (v.under n0) (hpK (H.take n0) fun h => some (v, h)))) = some R from h)
      rw [h1]
      rw [frzK_eq] at h
      simp only
      cases hf : frzI n0 H 8 v with
      | some v' => rw [hf] at h; simp only [hpK_eq] at h ⊢; exact h
      | none =>
        rw [hf] at h
        obtain ⟨h2, h⟩ := ifK_inv h
        rw [hpK_eq] at h
        simp only [if_pos h2, h]
    exact ⟨v, rfl, finX_sound hx⟩

-- functions
inductive Ent where
  | no
  | known (g : List AV → Heap → O)
  | own (g : FR → List AV → Heap → O)
  | code (t : RunT) (nt : Nat) (rs : List RG) (keep : Bool)

noncomputable def setsA : List ST := [s0 u0, s0 u1, s0 u2, s0 u3, s0 u4, s0 u5, s0 u6, s0 u7, s0 u8, s0 u9, s0 u10, s0 u11, s0 u12, s0 u13, s0 u14, s0 u15]
noncomputable def argE (l : List ST) (args : List AV) (E : E16) (k : E16 → O) : O :=
  List.rec (motive := fun _ => List ST → E16 → (E16 → O) → O) (fun _ E k => k E) (fun a _ ih l E k => List.rec (motive := fun _ => AV → (List ST → E16 → (E16 → O) → O) → E16 → (E16 → O) → O) (fun _ _ _ _ => none) (fun s l _ a ih E k => s E a fun E => ih l E k) l a ih E k) args l E k
def junkR : Row := ⟨.junk, .junk, .junk, .junk, .junk, .junk, .junk, .junk, .junk, .junk, .junk, .junk, .junk, .junk, .junk, .junk⟩
def junkE : E16 := ⟨junkR, junkR, junkR, junkR, junkR, junkR, junkR, junkR, junkR, junkR, junkR, junkR, junkR, junkR, junkR, junkR⟩

theorem argE_inv {R : AV × Heap} {k : E16 → O} : ∀ (args : List AV) (i : Nat) (E : E16), i ≤ 16 → argE (setsA.drop i) args E k = some R → i + args.length ≤ 16 ∧ ∃ E', (∀ t, E'.env t = if i ≤ t ∧ t < i + args.length then args.getD (t - i) .junk else E.env t) ∧ k E' = some R := by
  intro args
  induction args with
  | nil =>
    intro i E hi h
    refine ⟨by simpa using hi, E, fun t => ?_, h⟩
    rw [if_neg (by simp)]
  | cons a args ih =>
    intro i E hi h
    rcases Nat.lt_or_ge i 16 with hlt | hge
    · have hs : ∀ i, i < 16 → setsA.drop i = sS i :: setsA.drop (i + 1)
        | 0, _ => rfl
        | 1, _ => rfl
        | 2, _ => rfl
        | 3, _ => rfl
        | 4, _ => rfl
        | 5, _ => rfl
        | 6, _ => rfl
        | 7, _ => rfl
        | 8, _ => rfl
        | 9, _ => rfl
        | 10, _ => rfl
        | 11, _ => rfl
        | 12, _ => rfl
        | 13, _ => rfl
        | 14, _ => rfl
        | 15, _ => rfl
        | n + 16, h => absurd h (by omega)
      rw [hs i hlt] at h
      have h : sS i E a (fun E => argE (setsA.drop (i + 1)) args E k) = some R := h
      rw [sS_eq (by omega)] at h
      obtain ⟨h1, E', h2, h3⟩ := ih (i + 1) _ (by omega) h
      refine ⟨by simp; omega, E', fun t => ?_, h3⟩
      rw [h2, E16.env_setN _ _ (by omega)]
      simp only [upd, List.length_cons]
      by_cases e : t = i
      · subst e
        rw [if_neg (by omega), if_pos rfl, if_pos (by omega)]
        simp
      · by_cases h4 : i + 1 ≤ t ∧ t < i + 1 + args.length
        · rw [if_pos h4, if_pos (by omega)]
          obtain ⟨m, hm⟩ : ∃ m, t - i = m + 1 := ⟨t - i - 1, by omega⟩
          rw [hm, List.getD_cons_succ]
          congr 1
          omega
        · rw [if_neg h4, if_neg e, if_neg (by omega)]
    · have : i = 16 := by omega
      subst this
      exact absurd (show (none : O) = some R from h) (by simp)

theorem junkE_env (t : Nat) : junkE.env t = .junk := by
  by_cases h : t < 256
  · rw [E16.env_eq _ h]
    have a1 : ∀ i, i < 16 → junkE.nth i = junkR
      | 0, _ => rfl
      | 1, _ => rfl
      | 2, _ => rfl
      | 3, _ => rfl
      | 4, _ => rfl
      | 5, _ => rfl
      | 6, _ => rfl
      | 7, _ => rfl
      | 8, _ => rfl
      | 9, _ => rfl
      | 10, _ => rfl
      | 11, _ => rfl
      | 12, _ => rfl
      | 13, _ => rfl
      | 14, _ => rfl
      | 15, _ => rfl
      | n + 16, h => absurd h (by omega)
    have a2 : ∀ i, i < 16 → junkR.nth i = .junk
      | 0, _ => rfl
      | 1, _ => rfl
      | 2, _ => rfl
      | 3, _ => rfl
      | 4, _ => rfl
      | 5, _ => rfl
      | 6, _ => rfl
      | 7, _ => rfl
      | 8, _ => rfl
      | 9, _ => rfl
      | 10, _ => rfl
      | 11, _ => rfl
      | 12, _ => rfl
      | 13, _ => rfl
      | 14, _ => rfl
      | 15, _ => rfl
      | n + 16, h => absurd h (by omega)
    rw [a1 _ (by omega), a2 _ (by omega)]
  · exact E16.env_big _ h

noncomputable def endX (x : Exit) (z : O) : O := match x with
  | .ret => z
  | _ => none

noncomputable def entK (e : Ent) (c : FR) (args : List AV) (H : Heap) : O :=
  Ent.rec (motive := fun _ => FR → List AV → Heap → O) (fun _ _ _ => none) (fun g _ args H => g args H) (fun g c args H => g c args H)
    (fun t nt rs keep c args H => ifK (Nat.ble args.length nt) (lenK H fun n0 => argE setsA args junkE fun E => t c n0 (finK n0 keep rs) (fun x E H => endX x (finK n0 keep rs E H)) E H)) e c args H

abbrev Tab := N16 (N16 (N16 Ent))
noncomputable def exT (T : Tab) (n : Nat) : FR :=
  Nat.rec (motive := fun _ => FR) (fun _ _ _ _ _ => none) (fun _ ih a b d args H => entK (((T.sel a).sel b).sel d) ih args H) n

def EOT (P : Program) (Γ : Glob) (ok : FuncId → Bool) (f : FuncId) : Ent → Prop
  | .no => True
  | .known g => ∀ args H v H', g args H = some (v, H') → Ret P Γ f args H v H'
  | .own g => ∀ c, RetOK P Γ (frun c) → ∀ args H v H', g c args H = some (v, H') → Ret P Γ f args H v H'
  | .code t nt rs _ => ∃ fn c rs0 m, P.funcs[f]? = some fn ∧ fn.body.bind (compC P Γ fn.ntmps) = some c ∧ fn.ntmps = nt ∧ fn.results.toList.mapM (cRes P) = some rs0 ∧ t = tr ok m c ∧ rs = rs0.map trR

def N16.All {α : Type} (p : Nat → α → Prop) (t : N16 α) : Prop := p 0 t.a0 ∧ p 1 t.a1 ∧ p 2 t.a2 ∧ p 3 t.a3 ∧ p 4 t.a4 ∧ p 5 t.a5 ∧ p 6 t.a6 ∧ p 7 t.a7 ∧ p 8 t.a8 ∧ p 9 t.a9 ∧ p 10 t.a10 ∧ p 11 t.a11 ∧ p 12 t.a12 ∧ p 13 t.a13 ∧ p 14 t.a14 ∧ p 15 t.a15
theorem N16.All.nth {α : Type} {p : Nat → α → Prop} {t : N16 α} (h : t.All p) : ∀ i, i < 16 → p i (t.nth i)
  | 0, _ => h.1
  | 1, _ => h.2.1
  | 2, _ => h.2.2.1
  | 3, _ => h.2.2.2.1
  | 4, _ => h.2.2.2.2.1
  | 5, _ => h.2.2.2.2.2.1
  | 6, _ => h.2.2.2.2.2.2.1
  | 7, _ => h.2.2.2.2.2.2.2.1
  | 8, _ => h.2.2.2.2.2.2.2.2.1
  | 9, _ => h.2.2.2.2.2.2.2.2.2.1
  | 10, _ => h.2.2.2.2.2.2.2.2.2.2.1
  | 11, _ => h.2.2.2.2.2.2.2.2.2.2.2.1
  | 12, _ => h.2.2.2.2.2.2.2.2.2.2.2.2.1
  | 13, _ => h.2.2.2.2.2.2.2.2.2.2.2.2.2.1
  | 14, _ => h.2.2.2.2.2.2.2.2.2.2.2.2.2.2.1
  | 15, _ => h.2.2.2.2.2.2.2.2.2.2.2.2.2.2.2
  | n + 16, h => absurd h (by omega)

def TOK (P : Program) (Γ : Glob) (ok : FuncId → Bool) (T : Tab) : Prop := T.All fun i t => t.All fun j r => r.All fun k e => EOT P Γ ok (256 * i + 16 * j + k) e

theorem dig_lt {f : Nat} (h : f < 4096) : f / 256 < 16 ∧ f / 16 % 16 < 16 ∧ f % 16 < 16 ∧ 256 * (f / 256) + 16 * (f / 16 % 16) + f % 16 = f := by omega

theorem exT_sound {T : Tab} (hsz : P.funcs[4095]? = none) (hok : ∀ f, ok f = true → okFn P f = true) (hm : P.follows .mixedOrders = true) (hT : TOK P Γ ok T) : ∀ (n : Nat) (f : FuncId) (args : List AV) (H : Heap) (v : AV) (H' : Heap), frun (exT T n) f args H = some (v, H') → Ret P Γ f args H v H' := by
  intro n
  induction n with
  | zero =>
    intro f args H v H' h
    unfold frun at h
    split at h
    · exact absurd (show (none : O) = some (v, H') from h) (by simp)
    · simp at h
  | succ n ih =>
    intro f args H v H' h
    unfold frun at h
    split at h
    · rename_i hf
      obtain ⟨d1, d2, d3, hfe⟩ := dig_lt (blt_t.1 hf)
      have h : entK (((T.sel (dg (f / 256))).sel (dg (f / 16 % 16))).sel (dg (f % 16))) (exT T n) args H = some (v, H') := h
      rw [N16.sel_dg _ _ d1, N16.sel_dg _ _ d2, N16.sel_dg _ _ d3] at h
      have hE := ((hT.nth (f / 256) d1).nth (f / 16 % 16) d2).nth (f % 16) d3
      rw [hfe] at hE
      generalize (((T.nth (f / 256)).nth (f / 16 % 16)).nth (f % 16)) = e at h hE
      cases e with
      | no => exact absurd (show (none : O) = some (v, H') from h) (by simp)
      | known g => exact hE _ _ _ _ h
      | own g => exact hE _ ih _ _ _ _ h
      | code t nt rs keep =>
        obtain ⟨fn, c, rs0, md, hfn, hc, hnt, hrs, rfl, rfl⟩ := hE
        obtain ⟨hle, h⟩ := ifK_inv (show ifK (Nat.ble args.length nt) (lenK H fun n0 => argE setsA args junkE fun E => tr ok md c (exT T n) n0 (finK n0 keep (rs0.map trR)) (fun x E H => endX x (finK n0 keep (rs0.map trR) E H)) E H) = some (v, H') from h)
        rw [Nat.ble_eq] at hle
        rw [lenK_eq] at h
        obtain ⟨_, E, hE1, h⟩ := argE_inv args 0 junkE (by omega) (by simpa using h)
        have hEe : E.env = argsE args := by
          funext t
          rw [hE1]
          simp only [Nat.zero_add, Nat.zero_le, true_and, Nat.sub_zero, argsE]
          split
          · rfl
          · rename_i hh
            rw [junkE_env]
            simp only [List.getD_eq_getElem?_getD, List.getElem?_eq_none (Nat.le_of_not_lt hh), Option.getD_none]
        obtain ⟨x, E', H1, h1, h2⟩ := tr_sound (Γ := Γ) hok hm md c _ _ _ _ _ _ _ ih h
        have hend : (x = .ret ∨ x = .normal) ∧ finK H.length keep (rs0.map trR) E' H1 = some (v, H') := by
          cases x with
          | normal => exact ⟨.inr rfl, h1⟩
          | ret => exact ⟨.inl rfl, h1⟩
          | _ => exact absurd (show (none : O) = some (v, H') from h1) (by simp)
        have hfx := finK_inv hend.2
        cases hr : resB rs0 E'.env H1 with
        | none => rw [hr] at hfx; simp [FinP] at hfx
        | some v1 =>
          rw [hr] at hfx
          obtain ⟨hfin, hlen⟩ := finP_sound hfx
          cases hb : fn.body with
          | none => rw [hb] at hc; simp at hc
          | some code =>
            rw [hb] at hc
            refine Ret_intro hfn hb hc (by rw [hnt]; exact hle) hlen (fun e => by rw [e, hsz] at hfn; simp at hfn) ?_
            rw [← hEe]
            refine h2 _ _ ⟨hend.1, v1, ?_, hfin⟩
            unfold resA
            rw [resB_eq _ _ hrs]
            exact hr
    · simp at h

end
end Go.AL
