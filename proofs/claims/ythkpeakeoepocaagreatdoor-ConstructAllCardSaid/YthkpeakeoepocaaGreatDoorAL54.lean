/- One round of a range over a function. -/
import Derived.Test.YthkpeakeoepocaaGreatDoorAL53
namespace Go.AL
set_option linter.unusedSimpArgs false
set_option linter.unusedVariables false
open Go

/-- Values into an environment, one after the other. -/
def putsE : List Nat → List AV → Env → Env
  | t :: ts, v :: vs, E => putsE ts vs (upd E t v)
  | _, _, E => E

/-- The environment in which a round begins. -/
def roundE (lv : List Nat) (sn : List AV) (ps : List Nat) (us : List AV) : Env := putsE ps us (putsE lv sn (fun _ => .junk))

theorem putsE_rep {w : World} {M : Nat → Prop} {ρ : Nat → RS} {tm : Nat → Value} : ∀ (lv : List Nat) (sn : List AV) (E : Env), (∀ t, Rep w M ρ (E t) (tm t)) → sn.length = lv.length →
    (∀ (j : Nat) (a : AV) (t : Nat), sn[j]? = some a → lv[j]? = some t → Rep w M ρ a (tm t)) → ∀ t, Rep w M ρ (putsE lv sn E t) (tm t) := by
  intro lv
  induction lv with
  | nil => intro sn E hE hl h t; exact hE t
  | cons t0 lv ih =>
    intro sn E hE hl h t
    cases sn with
    | nil => simp at hl
    | cons a sn =>
      refine ih sn (upd E t0 a) (fun t => ?_) (by simpa using hl) (fun j b t hb ht => h (j + 1) b t (by simpa using hb) (by simpa using ht)) t
      unfold upd
      split
      · rename_i e; subst e; exact h 0 a t rfl rfl
      · exact hE t

theorem putsP_rep {w : World} {M : Nat → Prop} {ρ : Nat → RS} : ∀ (ps : List Nat) (us : List AV) (vs : List Value) (E : Env) (tm : Array Value), (∀ t, Rep w M ρ (E t) (tm.getD t undef)) → (∀ t ∈ ps, t < tm.size) → us.length = ps.length → vs.length = ps.length →
    (∀ (j : Nat) (a : AV) (v : Value), us[j]? = some a → vs[j]? = some v → Rep w M ρ a v) →
    ∀ t, Rep w M ρ (putsE ps us E t) (((ps.zip vs).foldl (fun tmps (t, a) => tmps.setIfInBounds t a) tm).getD t undef) := by
  intro ps
  induction ps with
  | nil => intro us vs E tm hE _ hl hl2 h t; simpa [putsE] using hE t
  | cons t0 ps ih =>
    intro us vs E tm hE hlt hl hl2 h t
    cases us with
    | nil => simp at hl
    | cons a us =>
      cases vs with
      | nil => simp at hl2
      | cons v vs =>
        simp only [List.zip_cons_cons, List.foldl_cons, putsE]
        refine ih us vs (upd E t0 a) (tm.setIfInBounds t0 v) (fun t => ?_) (fun t ht => by simpa using hlt t (by simp [ht])) (by simpa using hl) (by simpa using hl2) (fun j b u hb hu => h (j + 1) b u (by simpa using hb) (by simpa using hu)) t
        have h0 : t0 < tm.size := hlt t0 (by simp)
        simp only [Array.getD_eq_getD_getElem?]
        unfold upd
        by_cases e : t = t0
        · subst e; simp [h0]; exact h 0 a v rfl rfl
        · rw [if_neg e, Array.getElem?_setIfInBounds_ne (fun x => e x.symm), ← Array.getD_eq_getD_getElem?]; exact hE t

theorem foldl_size : ∀ (l : List (Nat × Value)) (tm : Array Value), (l.foldl (fun tmps (t, a) => tmps.setIfInBounds t a) tm).size = tm.size := by
  intro l
  induction l with
  | nil => intro tm; rfl
  | cons p l ih => intro tm; rw [List.foldl_cons, ih]; simp

/-- State and pending jump of the record behind a round, by the way its body is left. -/
def roundEnd : Exit → Option (Nat × Nat × Bool)
  | .normal => some (0, 0, true)
  | .ret => some (2, 1, false)
  | .exit n => some (2, n + 2, false)
  | _ => none

section
variable {P : Program} {Γ : Glob}

/-- What the table says of the loop k. -/
def LoopAt (P : Program) (Γ : Glob) (k nt : Nat) (ps lv : List Nat) (ca cb : CC) : Prop :=
  Γ.lv k = lv ∧ (∀ t ∈ ps, t < nt) ∧ ca.flat = true ∧ cb.flat = true ∧
  ∀ (nt' : Nat) (ps' : Array Nat) (assign body : Code), Γ.lp k nt' ps' assign body ↔ nt' = nt ∧ ps'.toList = ps ∧ compC P Γ nt assign = some ca ∧ compC P Γ nt body = some cb

theorem Ret_round {k nt : Nat} {ps lv : List Nat} {ca cb : CC} (ht : LoopAt P Γ k nt ps lv ca cb) {L p : Nat} {sn us : List AV} {H : Heap} {v : AV} {Hout : Heap} (hL : getB H L = some (loopCs k 0 p sn)) (hus : us.length = ps.length) (hsn : sn.length = lv.length)
    (hlen : H.length ≤ Hout.length)
    (h : W P Γ H.length nt ca (roundE lv sn ps us) H (fun x E1 H1 => x = .normal ∧ ∃ p1 sn1, getB H1 L = some (loopCs k 0 p1 sn1) ∧
      W P Γ H.length nt cb E1 (H1.set L (some (loopCs k 1 p1 sn1))) (fun x E2 H2 => ∃ s2 p2 sn2 s3 p3 b, getB H2 L = some (loopCs k s2 p2 sn2) ∧ roundEnd x = some (s3, p3, b) ∧
        Fin H.length (.bool b) (H2.set L (some (loopCs k s3 p3 sn2))) v Hout))) : Ret P Γ 4095 (.clo 131075 [.ptr L 0] :: us) H v Hout := by
  refine ⟨hlen, ?_⟩
  intro w F ρ vs ho hsz hrep
  have hLl : L < H.length := (getB_lt hL)
  obtain ⟨b, hb, hblk⟩ := ho.at' hL
  obtain ⟨v0, hv0⟩ : ∃ v0, vs[0]? = some v0 := ⟨vs[0]'(by simp at hsz; omega), by simp⟩
  obtain ⟨b', e1, hb'⟩ := rep_yd (hrep 0 _ v0 rfl hv0)
  have hbb : b' = b ∧ w.shape? b = none := by
    rcases hb' with ⟨h1, h2⟩ | h1
    · rw [hb] at h1; simp at h1; subst h1; exact ⟨rfl, h2⟩
    · rw [hb] at h1; simp at h1
  obtain ⟨rfl, hsh⟩ := hbb
  obtain ⟨r, hr1, ⟨hr2, hr3, hr4⟩, hr5⟩ := hblk.loop hsh
  obtain ⟨hlv, hlt, hfa, hfb, hlp⟩ := ht
  obtain ⟨hnt, hps, hca, hcb⟩ := (hlp _ _ _ _).1 hr2
  have hvs : vs = #[.func (.yield b') #[] #[]] ++ vs.toList.tail.toArray := by
    apply Array.toList_inj.1
    have hl : vs.toList ≠ [] := by intro e; have := congrArg List.length e; simp at this; simp [this] at hsz
    obtain ⟨y, l, hyl⟩ := List.exists_cons_of_ne_nil hl
    have hy : y = v0 := by
      have : vs.toList[0]? = some v0 := by simpa using hv0
      rw [hyl] at this; simpa using this
    simp [hyl, hy, e1]
  have htl : vs.toList.tail.length = ps.length := by simp; simp at hsz; omega
  refine .inr ⟨rfl, b', r, vs.toList.tail.toArray, hvs, hr1, ?_, ?_⟩
  · have h1 : r.params.size = ps.length := by rw [← hps]; simp
    rw [h1, ← htl]; simp
  let C : Ctx := { F := F, w0 := w, ρ0 := ρ, n0 := H.length, nt := nt, ro := some b' }
  let tm := (r.params.zip vs.toList.tail.toArray).foldl (fun tmps (t, a) => tmps.setIfInBounds t a) r.tmps
  have htm : tm = (ps.zip vs.toList.tail).foldl (fun tmps (t, a) => tmps.setIfInBounds t a) r.tmps := by
    show (r.params.zip vs.toList.tail.toArray).foldl (fun tmps (t, a) => tmps.setIfInBounds t a) r.tmps = _
    rw [← Array.foldl_toList, Array.toList_zip, hps]
  have hs0 : Sim Γ C ρ (roundE lv sn ps us) H { tmps := tm, defers := [] } w := by
    refine ⟨ho, fun t => ?_, ⟨[], rfl, List.nodup_nil, by simp⟩, ?_, Kept.refl _ w, fun _ _ => .inl rfl, fun i b hi => .inl ⟨i, hi⟩, Nat.le_refl _⟩
    · show Rep w (Mu F ρ) ρ (putsE ps us (putsE lv sn (fun _ => .junk)) t) (tm.getD t undef)
      rw [htm]
      refine putsP_rep ps us vs.toList.tail _ r.tmps ?_ (fun t ht => by rw [hnt]; exact hlt t ht) hus htl (fun j a u ha hu => ?_) t
      · refine putsE_rep (tm := fun t => r.tmps.getD t undef) lv sn _ (fun t => .imm _ _ (.junk _)) hsn (fun j a t ha htj => ?_)
        obtain ⟨us', e2, hl2, hrr⟩ := rep_agg hr5
        refine hrr j a _ ha ?_
        have e3 : us' = ((Γ.lv k).map fun t => r.tmps.getD t undef).toArray := by simpa using e2.symm
        rw [e3, hlv]
        simp [htj]
      · refine hrep (j + 1) a u (by simpa using ha) ?_
        rw [List.getElem?_tail] at hu
        simpa using hu
    · show tm.size = nt
      rw [htm, foldl_size]; exact hnt
  refine roundIn_of_wpIn (F := Fence.wide) trivial ?_
  refine wpIn_mono (h r.assign hca C ρ _ w rfl rfl (.inr hfa) hs0) ?_
  rintro x a1 w1 ⟨E1, H1, ρ1, ⟨rfl, p1, sn1, hg1, hB⟩, hs1⟩
  have hρL : ∀ {E : Env} {H' : Heap} {a : Act} {w : World} {ρ1 : Nat → RS} {cs : List AV}, Sim Γ C ρ1 E H' a w → getB H' L = some cs → ρ1 L = .here b' := fun hs hg => by
    obtain ⟨b2, hb2, _⟩ := hs.hok.at' hg
    rcases hs.ext L hLl with h | ⟨_, h⟩
    · rw [h]; exact hb
    · rw [h] at hb2; simp at hb2
  have hblt : b' < w.heap.size := heap_some_lt hr1
  have loopAt : ∀ {E : Env} {H' : Heap} {a : Act} {w' : World} {ρ1 : Nat → RS} {s p : Nat} {sn : List AV}, Sim Γ C ρ1 E H' a w' → getB H' L = some (loopCs k s p sn) →
      ∃ r : Loop, w'.heap[b']? = some (.loop r) ∧ LoopIs Γ k s p r ∧ Rep w' (Mu F ρ1) ρ1 (.agg sn) (.agg ((Γ.lv k).map fun t => r.tmps.getD t undef).toArray) := by
    intro E H' a w' ρ1 s p sn hs hg
    obtain ⟨b2, hb2, hblk2⟩ := hs.hok.at' hg
    have : b2 = b' := by rw [hρL hs hg] at hb2; simpa using hb2.symm
    subst this
    exact hblk2.loop (by rw [hs.kept.shape _ hblt]; exact hsh)
  obtain ⟨r1, q1, ⟨q2, q3, q4⟩, q5⟩ := loopAt hs1 hg1
  refine ⟨_, run_beginRound q1 q3, ?_⟩
  have A1 := after_loop (r' := { r1 with state := .busy }) C.n0 hs1.hok (hρL hs1 hg1) (getB_some hg1) q1 (k := k) (s := 1) (p := p1) (sn := sn1) rfl ⟨q2, rfl, q4⟩ q5
  have hs2 := hs1.step (d := none) (v := .junk) (v' := undef) A1 (by simp) (by simpa using hs1.len) (.imm _ _ (.junk _)) rfl
  refine wpIn_mono (hB r.body hcb C ρ1 a1 _ rfl rfl (.inr hfb) hs2) ?_
  rintro x a2 w2 ⟨E2, H2, ρ2, ⟨s2, p2, sn2, s3, p3, bb, hg2, hx, hfin⟩, hs3⟩
  obtain ⟨r2, z1, ⟨z2, z3, z4⟩, z5⟩ := loopAt hs3 hg2
  have fin : ∀ (r' : Loop), LoopIs Γ k s3 p3 r' → r'.tmps = r2.tmps → ∃ u ρ', Ending.returned (.bool bb) = .returned u ∧ After Γ F H.length ρ w ρ' (w2.putObj b' (.loop r')) Hout (newIds H.length (Hout.length - H.length)) ∧ Rep (w2.putObj b' (.loop r')) (Mu F ρ') ρ' v u := by
    intro r' hr' htm'
    have A2 := after_loop (r' := r') C.n0 hs3.hok (hρL hs3 hg2) (getB_some hg2) z1 (k := k) (s := s3) (p := p3) (sn := sn2) rfl hr' (by rw [htm']; exact z5)
    have hs4 := hs3.step (d := none) (v := .junk) (v' := undef) A2 (by simp) (by simpa using hs3.len) (.imm _ _ (.junk _)) rfl
    obtain ⟨ρ', g1, g2⟩ := hs4.fin (H := H) ho rfl (.imm _ _ (.bool bb)) hfin
    exact ⟨.bool bb, ρ', rfl, g1, g2⟩
  cases x with
  | normal =>
    simp only [roundEnd, Option.some.injEq, Prod.mk.injEq] at hx
    obtain ⟨rfl, rfl, rfl⟩ := hx
    exact ⟨_, _, run_endRound none z1, fin _ ⟨z2, rfl, rfl⟩ rfl⟩
  | ret =>
    simp only [roundEnd, Option.some.injEq, Prod.mk.injEq] at hx
    obtain ⟨rfl, rfl, rfl⟩ := hx
    exact ⟨_, _, run_endRound (some .ret) z1, fin _ ⟨z2, rfl, rfl⟩ rfl⟩
  | exit n =>
    simp only [roundEnd, Option.some.injEq, Prod.mk.injEq] at hx
    obtain ⟨rfl, rfl, rfl⟩ := hx
    exact ⟨_, _, run_endRound (some (.exit n)) z1, fin _ ⟨z2, rfl, rfl⟩ rfl⟩
  | goto l => simp [roundEnd] at hx
  | panic c => simp [roundEnd] at hx
  | outgrown => simp [roundEnd] at hx

end
/-- A loop of the program: its number, temporaries, parameters, the temporaries that its rounds read, assignment, body. -/
structure LD where
  k : Nat
  nt : Nat
  ps : List Nat
  lv : List Nat
  ca : CC
  cb : CC

def baseG (g : List (Nat × List AV)) : Glob := ⟨g, fun _ _ _ _ _ => False, fun _ => []⟩
def findLD (tab : List LD) (k : Nat) : Option LD := tab.find? fun d => Nat.beq d.k k
def mkG (P : Program) (g : List (Nat × List AV)) (tab : List LD) : Glob where
  globs := g
  lp := fun k nt ps a b => match findLD tab k with
    | some d => nt = d.nt ∧ ps.toList = d.ps ∧ compC P (baseG g) d.nt a = some d.ca ∧ compC P (baseG g) d.nt b = some d.cb
    | none => False
  lv := fun k => match findLD tab k with
    | some d => d.lv
    | none => []

section
variable {P : Program} {Γ Γ' : Glob}

theorem cOpd_globs (h : Γ.globs = Γ'.globs) : cOpd Γ = cOpd Γ' := by
  funext x
  cases x <;> simp only [cOpd, h]

theorem cParts_globs (h : Γ.globs = Γ'.globs) : cParts Γ = cParts Γ' := by
  funext pl l
  induction l with
  | nil => rfl
  | cons p l ih =>
    obtain ⟨i, x⟩ := p
    simp only [cParts, cOpd_globs h, ih]

theorem compOp_globs (h : Γ.globs = Γ'.globs) (o : Op) : compOp P Γ o = compOp P Γ' o := by
  unfold compOp
  rw [cOpd_globs h, cParts_globs h]

theorem compR_globs (h : Γ.globs = Γ'.globs) (nt : Nat) (ops : Array Oper) : compR P Γ nt ops = compR P Γ' nt ops := by
  have e : cOper P Γ nt ops = cOper P Γ' nt ops := by
    funext o
    unfold cOper
    rw [compOp_globs h]
  unfold compR
  rw [e]

theorem compC_globs (h : Γ.globs = Γ'.globs) (nt : Nat) (c : Code) : compC P Γ nt c = compC P Γ' nt c := by
  induction c <;> simp only [compC, cOpd_globs h, compR_globs h, *]

theorem loopAt_mk {g : List (Nat × List AV)} {tab : List LD} {d : LD} (hf : findLD tab d.k = some d) (h1 : (d.ps.all fun t => Nat.blt t d.nt) = true) (h2 : d.ca.flat = true) (h3 : d.cb.flat = true) :
    LoopAt P (mkG P g tab) d.k d.nt d.ps d.lv d.ca d.cb := by
  refine ⟨?_, fun t ht => blt_true.1 (List.all_eq_true.1 h1 t ht), h2, h3, fun nt' ps' assign body => ?_⟩
  · simp only [mkG, hf]
  · show (match findLD tab d.k with | some d => nt' = d.nt ∧ ps'.toList = d.ps ∧ compC P (baseG g) d.nt assign = some d.ca ∧ compC P (baseG g) d.nt body = some d.cb | none => False) ↔ _
    rw [hf]
    rw [compC_globs (Γ := mkG P g tab) (Γ' := baseG g) rfl, compC_globs (Γ := mkG P g tab) (Γ' := baseG g) rfl]

end
end Go.AL
