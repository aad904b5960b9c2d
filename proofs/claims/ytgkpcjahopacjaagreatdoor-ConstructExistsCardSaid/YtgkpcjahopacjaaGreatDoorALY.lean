/- The fast evaluator: an entry of the table from the model's function. -/
import Derived.Test.YtgkpcjahopacjaaGreatDoorAL34
import Derived.Test.YtgkpcjahopacjaaGreatDoorAL53
namespace Go.AL
set_option linter.unusedSimpArgs false
set_option linter.unusedVariables false
open Go

theorem some_getD {α : Type} {x : Option α} {d : α} (h : x.isSome = true) : x = some (x.getD d) := by
  cases x with
  | none => simp at h
  | some a => rfl

theorem eot {P : Program} {Γ : Glob} {ok : FuncId → Bool} {f : FuncId} {fn : Func} {t : RunT} {nt : Nat} {rs : List RG} {keep : Bool} (m : Bool) (hf : P.funcs[f]? = some fn) (h1 : (fn.body.bind (compC P Γ fn.ntmps)).isSome = true) (h2 : fn.ntmps = nt)
    (h3 : t = tr ok m ((fn.body.bind (compC P Γ fn.ntmps)).getD .skip)) (h4 : (fn.results.toList.mapM (cRes P)).isSome = true) (h5 : rs = ((fn.results.toList.mapM (cRes P)).getD []).map trR) : EOT P Γ ok f (.code t nt rs keep) :=
  ⟨fn, _, _, m, hf, some_getD h1, h2, some_getD h4, h3, h5⟩

end Go.AL

/- One round of a range over a function. -/
namespace Go.AL
set_option linter.unusedSimpArgs false
set_option linter.unusedVariables false
open Go

def putsE : List Nat → List AV → Env → Env
  | t :: ts, v :: vs, E => putsE ts vs (upd E t v)
  | _, _, E => E

def roundE (lv : List Nat) (sn : List AV) (ps : List Nat) (us : List AV) : Env := putsE ps us (putsE lv sn (fun _ => .junk))

theorem putsE_rep {w : World} {M : Nat → Prop} {ρ : Nat → RS} {tm : Nat → Value} : ∀ (lv : List Nat) (sn : List AV) (E : Env), (∀ t, Rep w M ρ (E t) (tm t)) → sn.length = lv.length →
    (∀ (j : Nat) (a : AV) (t : Nat), sn[j]? = some a → lv[j]? = some t → Rep w M ρ a (tm t)) → ∀ t, Rep w M ρ (putsE lv sn E t) (tm t) := by
  intro lv
  induction lv with
  | nil => intro sn E hE hl h t; exact hE t
  | cons t0 lv ih =>
    intro sn E hE hl h t
    cases sn with
    | nil => simp at hl
    | cons a sn =>
      refine ih sn (upd E t0 a) (fun t => ?_) (by simpa using hl) (fun j b t hb ht => h (j + 1) b t (by simpa using hb) (by simpa using ht)) t
      unfold upd
      split
      · rename_i e; subst e; exact h 0 a t rfl rfl
      · exact hE t

theorem putsP_rep {w : World} {M : Nat → Prop} {ρ : Nat → RS} : ∀ (ps : List Nat) (us : List AV) (vs : List Value) (E : Env) (tm : Array Value), (∀ t, Rep w M ρ (E t) (tm.getD t undef)) → (∀ t ∈ ps, t < tm.size) → us.length = ps.length → vs.length = ps.length →
    (∀ (j : Nat) (a : AV) (v : Value), us[j]? = some a → vs[j]? = some v → Rep w M ρ a v) →
    ∀ t, Rep w M ρ (putsE ps us E t) (((ps.zip vs).foldl (fun tmps (t, a) => tmps.setIfInBounds t a) tm).getD t undef) := by
  intro ps
  induction ps with
  | nil => intro us vs E tm hE _ hl hl2 h t; simpa [putsE] using hE t
  | cons t0 ps ih =>
    intro us vs E tm hE hlt hl hl2 h t
    cases us with
    | nil => simp at hl
    | cons a us =>
      cases vs with
      | nil => simp at hl2
      | cons v vs =>
        simp only [List.zip_cons_cons, List.foldl_cons, putsE]
        refine ih us vs (upd E t0 a) (tm.setIfInBounds t0 v) (fun t => ?_) (fun t ht => by simpa using hlt t (by simp [ht])) (by simpa using hl) (by simpa using hl2) (fun j b u hb hu => h (j + 1) b u (by simpa using hb) (by simpa using hu)) t
        have h0 : t0 < tm.size := hlt t0 (by simp)
        simp only [Array.getD_eq_getD_getElem?]
        unfold upd
        by_cases e : t = t0
        · subst e; simp [h0]; exact h 0 a v rfl rfl
        · rw [if_neg e, Array.getElem?_setIfInBounds_ne (fun x => e x.symm), ← Array.getD_eq_getD_getElem?]; exact hE t

theorem foldl_size : ∀ (l : List (Nat × Value)) (tm : Array Value), (l.foldl (fun tmps (t, a) => tmps.setIfInBounds t a) tm).size = tm.size := by
  intro l
  induction l with
  | nil => intro tm; rfl
  | cons p l ih => intro tm; rw [List.foldl_cons, ih]; simp

def roundEnd : Exit → Option (Nat × Nat × Bool)
  | .normal => some (0, 0, true)
  | .ret => some (2, 1, false)
  | .exit n => some (2, n + 2, false)
  | _ => none

section
variable {P : Program} {Γ : Glob}

def LoopAt (P : Program) (Γ : Glob) (k nt : Nat) (ps lv : List Nat) (ca cb : CC) : Prop :=
  Γ.lv k = lv ∧ (∀ t ∈ ps, t < nt) ∧ ca.flat = true ∧ cb.flat = true ∧
  ∀ (nt' : Nat) (ps' : Array Nat) (assign body : Code), Γ.lp k nt' ps' assign body ↔ nt' = nt ∧ ps'.toList = ps ∧ compC P Γ nt assign = some ca ∧ compC P Γ nt body = some cb

theorem Ret_round {k nt : Nat} {ps lv : List Nat} {ca cb : CC} (ht : LoopAt P Γ k nt ps lv ca cb) {L p : Nat} {sn us : List AV} {H : Heap} {v : AV} {Hout : Heap} (hL : getB H L = some (loopCs k 0 p sn)) (hus : us.length = ps.length) (hsn : sn.length = lv.length)
    (hlen : H.length ≤ Hout.length)
    (h : W P Γ H.length nt ca (roundE lv sn ps us) H (fun x E1 H1 => x = .normal ∧ ∃ p1 sn1, getB H1 L = some (loopCs k 0 p1 sn1) ∧
      W P Γ H.length nt cb E1 (H1.set L (some (loopCs k 1 p1 sn1))) (fun x E2 H2 => ∃ s2 p2 sn2 s3 p3 b, getB H2 L = some (loopCs k s2 p2 sn2) ∧ roundEnd x = some (s3, p3, b) ∧
        Fin H.length (.bool b) (H2.set L (some (loopCs k s3 p3 sn2))) v Hout))) : Ret P Γ 4095 (.clo 131075 [.ptr L 0] :: us) H v Hout := by
  refine ⟨hlen, ?_⟩
  intro w F ρ vs ho hsz hrep
  have hLl : L < H.length := (getB_lt hL)
  obtain ⟨b, hb, hblk⟩ := ho.at' hL
  obtain ⟨v0, hv0⟩ : ∃ v0, vs[0]? = some v0 := ⟨vs[0]'(by simp at hsz; omega), by simp⟩
  obtain ⟨b', e1, hb'⟩ := rep_yd (hrep 0 _ v0 rfl hv0)
  have hbb : b' = b ∧ w.shape? b = none := by
    rcases hb' with ⟨h1, h2⟩ | h1
    · rw [hb] at h1; simp at h1; subst h1; exact ⟨rfl, h2⟩
    · rw [hb] at h1; simp at h1
  obtain ⟨rfl, hsh⟩ := hbb
  obtain ⟨r, hr1, ⟨hr2, hr3, hr4⟩, hr5⟩ := hblk.loop hsh
  obtain ⟨hlv, hlt, hfa, hfb, hlp⟩ := ht
  obtain ⟨hnt, hps, hca, hcb⟩ := (hlp _ _ _ _).1 hr2
  have hvs : vs = #[.func (.yield b') #[] #[]] ++ vs.toList.tail.toArray := by
    apply Array.toList_inj.1
    have hl : vs.toList ≠ [] := by intro e; have := congrArg List.length e; simp at this; simp [this] at hsz
    obtain ⟨y, l, hyl⟩ := List.exists_cons_of_ne_nil hl
    have hy : y = v0 := by
      have : vs.toList[0]? = some v0 := by simpa using hv0
      rw [hyl] at this; simpa using this
    simp [hyl, hy, e1]
  have htl : vs.toList.tail.length = ps.length := by simp; simp at hsz; omega
  refine .inr ⟨rfl, b', r, vs.toList.tail.toArray, hvs, hr1, ?_, ?_⟩
  · have h1 : r.params.size = ps.length := by rw [← hps]; simp
    rw [h1, ← htl]; simp
  let C : Ctx := { F := F, w0 := w, ρ0 := ρ, n0 := H.length, nt := nt, ro := some b' }
  let tm := (r.params.zip vs.toList.tail.toArray).foldl (fun tmps (t, a) => tmps.setIfInBounds t a) r.tmps
  have htm : tm = (ps.zip vs.toList.tail).foldl (fun tmps (t, a) => tmps.setIfInBounds t a) r.tmps := by
    show (r.params.zip vs.toList.tail.toArray).foldl (fun tmps (t, a) => tmps.setIfInBounds t a) r.tmps = _
    rw [← Array.foldl_toList, Array.toList_zip, hps]
  have hs0 : Sim Γ C ρ (roundE lv sn ps us) H { tmps := tm, defers := [] } w := by
    refine ⟨ho, fun t => ?_, ⟨[], rfl, List.nodup_nil, by simp⟩, ?_, Kept.refl _ w, fun _ _ => .inl rfl, fun i b hi => .inl ⟨i, hi⟩, Nat.le_refl _⟩
    · show Rep w (Mu F ρ) ρ (putsE ps us (putsE lv sn (fun _ => .junk)) t) (tm.getD t undef)
      rw [htm]
      refine putsP_rep ps us vs.toList.tail _ r.tmps ?_ (fun t ht => by rw [hnt]; exact hlt t ht) hus htl (fun j a u ha hu => ?_) t
      · refine putsE_rep (tm := fun t => r.tmps.getD t undef) lv sn _ (fun t => .imm _ _ (.junk _)) hsn (fun j a t ha htj => ?_)
        obtain ⟨us', e2, hl2, hrr⟩ := rep_agg hr5
        refine hrr j a _ ha ?_
        have e3 : us' = ((Γ.lv k).map fun t => r.tmps.getD t undef).toArray := by simpa using e2.symm
        rw [e3, hlv]
        simp [htj]
      · refine hrep (j + 1) a u (by simpa using ha) ?_
        rw [List.getElem?_tail] at hu
        simpa using hu
    · show tm.size = nt
      rw [htm, foldl_size]; exact hnt
  refine roundIn_of_wpIn (F := Fence.wide) trivial ?_
  refine wpIn_mono (h r.assign hca C ρ _ w rfl rfl (.inr hfa) hs0) ?_
  rintro x a1 w1 ⟨E1, H1, ρ1, ⟨rfl, p1, sn1, hg1, hB⟩, hs1⟩
  have hρL : ∀ {E : Env} {H' : Heap} {a : Act} {w : World} {ρ1 : Nat → RS} {cs : List AV}, Sim Γ C ρ1 E H' a w → getB H' L = some cs → ρ1 L = .here b' := fun hs hg => by
    obtain ⟨b2, hb2, _⟩ := hs.hok.at' hg
    rcases hs.ext L hLl with h | ⟨_, h⟩
    · rw [h]; exact hb
    · rw [h] at hb2; simp at hb2
  have hblt : b' < w.heap.size := heap_some_lt hr1
  have loopAt : ∀ {E : Env} {H' : Heap} {a : Act} {w' : World} {ρ1 : Nat → RS} {s p : Nat} {sn : List AV}, Sim Γ C ρ1 E H' a w' → getB H' L = some (loopCs k s p sn) →
      ∃ r : Loop, w'.heap[b']? = some (.loop r) ∧ LoopIs Γ k s p r ∧ Rep w' (Mu F ρ1) ρ1 (.agg sn) (.agg ((Γ.lv k).map fun t => r.tmps.getD t undef).toArray) := by
    intro E H' a w' ρ1 s p sn hs hg
    obtain ⟨b2, hb2, hblk2⟩ := hs.hok.at' hg
    have : b2 = b' := by rw [hρL hs hg] at hb2; simpa using hb2.symm
    subst this
    exact hblk2.loop (by rw [hs.kept.shape _ hblt]; exact hsh)
  obtain ⟨r1, q1, ⟨q2, q3, q4⟩, q5⟩ := loopAt hs1 hg1
  refine ⟨_, run_beginRound q1 q3, ?_⟩
  have A1 := after_loop (r' := { r1 with state := .busy }) C.n0 hs1.hok (hρL hs1 hg1) (getB_some hg1) q1 (k := k) (s := 1) (p := p1) (sn := sn1) rfl ⟨q2, rfl, q4⟩ q5
  have hs2 := hs1.step (d := none) (v := .junk) (v' := undef) A1 (by simp) (by simpa using hs1.len) (.imm _ _ (.junk _)) rfl
  refine wpIn_mono (hB r.body hcb C ρ1 a1 _ rfl rfl (.inr hfb) hs2) ?_
  rintro x a2 w2 ⟨E2, H2, ρ2, ⟨s2, p2, sn2, s3, p3, bb, hg2, hx, hfin⟩, hs3⟩
  obtain ⟨r2, z1, ⟨z2, z3, z4⟩, z5⟩ := loopAt hs3 hg2
  have fin : ∀ (r' : Loop), LoopIs Γ k s3 p3 r' → r'.tmps = r2.tmps → ∃ u ρ', Ending.returned (.bool bb) = .returned u ∧ After Γ F H.length ρ w ρ' (w2.putObj b' (.loop r')) Hout (newIds H.length (Hout.length - H.length)) ∧ Rep (w2.putObj b' (.loop r')) (Mu F ρ') ρ' v u := by
    intro r' hr' htm'
    have A2 := after_loop (r' := r') C.n0 hs3.hok (hρL hs3 hg2) (getB_some hg2) z1 (k := k) (s := s3) (p := p3) (sn := sn2) rfl hr' (by rw [htm']; exact z5)
    have hs4 := hs3.step (d := none) (v := .junk) (v' := undef) A2 (by simp) (by simpa using hs3.len) (.imm _ _ (.junk _)) rfl
    obtain ⟨ρ', g1, g2⟩ := hs4.fin (H := H) ho rfl (.imm _ _ (.bool bb)) hfin
    exact ⟨.bool bb, ρ', rfl, g1, g2⟩
  cases x with
  | normal =>
    simp only [roundEnd, Option.some.injEq, Prod.mk.injEq] at hx
    obtain ⟨rfl, rfl, rfl⟩ := hx
    exact ⟨_, _, run_endRound none z1, fin _ ⟨z2, rfl, rfl⟩ rfl⟩
  | ret =>
    simp only [roundEnd, Option.some.injEq, Prod.mk.injEq] at hx
    obtain ⟨rfl, rfl, rfl⟩ := hx
    exact ⟨_, _, run_endRound (some .ret) z1, fin _ ⟨z2, rfl, rfl⟩ rfl⟩
  | exit n =>
    simp only [roundEnd, Option.some.injEq, Prod.mk.injEq] at hx
    obtain ⟨rfl, rfl, rfl⟩ := hx
    exact ⟨_, _, run_endRound (some (.exit n)) z1, fin _ ⟨z2, rfl, rfl⟩ rfl⟩
  | goto l => simp [roundEnd] at hx
  | panic c => simp [roundEnd] at hx
  | outgrown => simp [roundEnd] at hx

end
structure LD where
  k : Nat
  nt : Nat
  ps : List Nat
  lv : List Nat
  ca : CC
  cb : CC

def baseG (g : List (Nat × List AV)) : Glob := ⟨g, fun _ _ _ _ _ => False, fun _ => []⟩
def findLD (tab : List LD) (k : Nat) : Option LD := tab.find? fun d => Nat.beq d.k k
def mkG (P : Program) (g : List (Nat × List AV)) (tab : List LD) : Glob where
  globs := g
  lp := fun k nt ps a b => match findLD tab k with
    | some d => nt = d.nt ∧ ps.toList = d.ps ∧ compC P (baseG g) d.nt a = some d.ca ∧ compC P (baseG g) d.nt b = some d.cb
    | none => False
  lv := fun k => match findLD tab k with
    | some d => d.lv
    | none => []

section
variable {P : Program} {Γ Γ' : Glob}

theorem cOpd_globs (h : Γ.globs = Γ'.globs) : cOpd Γ = cOpd Γ' := by
  funext x
  cases x <;> simp only [cOpd, h]

theorem cParts_globs (h : Γ.globs = Γ'.globs) : cParts Γ = cParts Γ' := by
  funext pl l
  induction l with
  | nil => rfl
  | cons p l ih =>
    obtain ⟨i, x⟩ := p
    simp only [cParts, cOpd_globs h, ih]

theorem compOp_globs (h : Γ.globs = Γ'.globs) (o : Op) : compOp P Γ o = compOp P Γ' o := by
  unfold compOp
  rw [cOpd_globs h, cParts_globs h]

theorem compR_globs (h : Γ.globs = Γ'.globs) (nt : Nat) (ops : Array Oper) : compR P Γ nt ops = compR P Γ' nt ops := by
  have e : cOper P Γ nt ops = cOper P Γ' nt ops := by
    funext o
    unfold cOper
    rw [compOp_globs h]
  unfold compR
  rw [e]

theorem compC_globs (h : Γ.globs = Γ'.globs) (nt : Nat) (c : Code) : compC P Γ nt c = compC P Γ' nt c := by
  induction c <;> simp only [compC, cOpd_globs h, compR_globs h, *]

theorem loopAt_mk {g : List (Nat × List AV)} {tab : List LD} {d : LD} (hf : findLD tab d.k = some d) (h1 : (d.ps.all fun t => Nat.blt t d.nt) = true) (h2 : d.ca.flat = true) (h3 : d.cb.flat = true) :
    LoopAt P (mkG P g tab) d.k d.nt d.ps d.lv d.ca d.cb := by
  refine ⟨?_, fun t ht => blt_true.1 (List.all_eq_true.1 h1 t ht), h2, h3, fun nt' ps' assign body => ?_⟩
  · simp only [mkG, hf]
  · show (match findLD tab d.k with | some d => nt' = d.nt ∧ ps'.toList = d.ps ∧ compC P (baseG g) d.nt assign = some d.ca ∧ compC P (baseG g) d.nt body = some d.cb | none => False) ↔ _
    rw [hf]
    rw [compC_globs (Γ := mkG P g tab) (Γ' := baseG g) rfl, compC_globs (Γ := mkG P g tab) (Γ' := baseG g) rfl]

end
end Go.AL

/- The fast evaluator: functions that range over a function, and the rounds. -/
namespace Go.AL
set_option linter.unusedSimpArgs false
set_option linter.unusedVariables false
open Go

def lpOf : List AV → Option (Nat × Nat × Nat × Nat × List AV)
  | [.clo m [.int .i64 (.ofNat k)], .int .i64 (.ofNat s), .int .i64 (.ofNat p), .agg sn] => some (m, k, s, p, sn)
  | _ => none
theorem lpOf_some {cs : List AV} {k s p : Nat} {sn : List AV} (h : lpOf cs = some (131076, k, s, p, sn)) : cs = loopCs k s p sn := by
  unfold lpOf at h
  split at h
  · simp only [Option.some.injEq, Prod.mk.injEq] at h
    obtain ⟨rfl, rfl, rfl, rfl, rfl⟩ := h
    rfl
  · simp at h

noncomputable def lpK (cs : List AV) (k : Nat → Nat → Nat → List AV → O) : O := match lpOf cs with
  | some (m, i, s, p, sn) => ifK (Nat.beq m 131076) (natK i fun i => natK s fun s => natK p fun p => k i s p sn)
  | none => none
theorem lpK_inv {cs : List AV} {k : Nat → Nat → Nat → List AV → O} {R : AV × Heap} (h : lpK cs k = some R) : ∃ i s p sn, cs = loopCs i s p sn ∧ k i s p sn = some R := by
  unfold lpK at h
  split at h
  · rename_i m i s p sn hm
    obtain ⟨h1, h⟩ := ifK_inv h
    have := Nat.eq_of_beq_eq_true h1
    subst this
    rw [natK_eq, natK_eq, natK_eq] at h
    exact ⟨i, s, p, sn, lpOf_some hm, h⟩
  · simp at h

noncomputable def jumpR (p : Nat) (kn : Kn) (kx : Kx) (E : E16) (H : Heap) : O := match p with
  | 0 => kn E H
  | 1 => kx .ret E H
  | n + 2 => kx (.exit n) E H

noncomputable def endR (k L : Nat) (kn : Kn) (kx : Kx) (E : E16) (_ : AV) (H : Heap) : O :=
  blkK H L fun cs => lpK cs fun i s p sn => ifK (Nat.beq i k) (ifK (nB1 (Nat.beq s 1)) (putK H L (some (loopCs k 3 p sn)) fun H => jumpR p kn kx E H))

noncomputable def t_range (ok : FuncId → Bool) (k : Nat) (lv : List GT) (g : GT) : RunT := fun c _ kn kx E H =>
  onClo (g E) fun f caps => ifK (okC ok f) (argsK lv E fun sn => lenK H fun L => snocK H (some (loopCs k 0 0 sn)) fun H1 =>
    bsel (Nat.blt f (nat_lit 65536)) (ifK (Nat.blt f (nat_lit 4095)) (appK [ydV L] caps fun l => callK c f l H1 (endR k L kn kx E)))
      (ifK (nB1 (Nat.blt f (nat_lit 65536))) (natK (Nat.sub f (nat_lit 65536)) fun f => ifK (Nat.blt f (nat_lit 4095)) (appK caps [ydV L] fun l => callK c f l H1 (endR k L kn kx E)))))

noncomputable def trX (ok : FuncId → Bool) (m : Bool) (lvf : Nat → List Nat) : CC → RunT
  | .seq a b => t_seq (trX ok m lvf a) (trX ok m lvf b)
  | .cond x a b => t_cond (trG x) (trX ok m lvf a) (trX ok m lvf b)
  | .block id a => t_blk id (trX ok m lvf a)
  | .range x k _ _ _ => t_range ok k ((lvf k).map fun t => trG (.t t)) (trG x)
  | c => tr ok m c

def rangesC : CC → List (Nat × List Nat × CC × CC)
  | .seq a b => rangesC a ++ rangesC b
  | .cond _ a b => rangesC a ++ rangesC b
  | .block _ a => rangesC a
  | .range _ k ps a b => [(k, ps, a, b)]
  | _ => []

section
variable {P : Program} {ok : FuncId → Bool} {Γ : Glob}

def SndN (P : Program) (Γ : Glob) (nt : Nat) (cc : CC) (r : RunT) : Prop := ∀ c n kn kx E H R, RetOK P Γ (frun c) → r c n kn kx E H = some R →
  ∃ x E' H', fin kn kx x E' H' = some R ∧ ∀ Q, Q x (E16.env E') H' → W P Γ n nt cc (E16.env E) H Q

theorem argsK_t (E : E16) (lv : List Nat) (k : List AV → O) : argsK (lv.map fun t => trG (.t t)) E k = k (lv.map E.env) := by
  have := argsK_eq E (lv.map Opd.t) k
  simp only [List.map_map] at this
  exact this

theorem range_sound (hok : ∀ f, ok f = true → okFn P f = true) {k nt : Nat} {ps lv : List Nat} {ca cb : CC} (ht : LoopAt P Γ k nt ps lv ca cb) (x : Opd) : SndN P Γ nt (.range x k ps ca cb) (t_range ok k (lv.map fun t => trG (.t t)) (trG x)) := by
  intro c n kn kx E H R hc h
  obtain ⟨f, caps, hx, h⟩ := onClo_inv h
  rw [trG_eq] at hx
  obtain ⟨hokc, h⟩ := ifK_inv h
  rw [argsK_t, lenK_eq, snocK_eq] at h
  have hlv : (Γ.lv k).map E.env = lv.map E.env := by rw [ht.1]
  have hH1 : H ++ [some (loopCs k 0 0 (lv.map E.env))] = loopH Γ k E.env H := by rw [← hlv]; rfl
  rw [hH1] at h
  have hlp : ∀ (ps' : Array Nat) (assign body : Code), ps'.toList = ps → compC P Γ nt assign = some ca → compC P Γ nt body = some cb → Γ.lp k nt ps' assign body :=
    fun ps' assign body h1 h2 h3 => (ht.2.2.2.2 _ _ _ _).2 ⟨rfl, h1, h2, h3⟩
  have fin1 : ∀ (g : Nat) (l : List AV), Nat.blt g 4095 = true → cloF f = g → cloA f [ydV H.length] caps = l → callK c g l (loopH Γ k E.env H) (endR k H.length kn kx E) = some R →
      ∃ x' E' H', fin kn kx x' E' H' = some R ∧ ∀ Q, Q x' (E16.env E') H' → W P Γ n nt (.range x k ps ca cb) (E16.env E) H Q := by
    intro g l hg hcF hcA h
    have hg' := blt_t.1 hg
    obtain ⟨v, e, rd, cc, hcs, h⟩ := callK_inv (blt_t.2 (by omega)) h
    rw [padH_eq] at h
    obtain ⟨cs, hb, h0⟩ := blkK_inv h
    clear h
    obtain ⟨i, s, p, sn, hcs', h⟩ := lpK_inv h0
    clear h0
    subst hcs'
    obtain ⟨h1, h⟩ := ifK_inv h
    have := Nat.eq_of_beq_eq_true h1
    subst this
    obtain ⟨h2, h⟩ := ifK_inv h
    rw [nB1_eq] at h2
    have hs1 : s ≠ 1 := by intro e; subst e; simp at h2
    rw [putK_eq] at h
    have hcr := hcs.sound hc
    have w : ∀ Q : Post, rangeQ Q p E.env ((applyE e (loopH Γ i E.env H ++ List.replicate cc none)).set H.length (some (loopCs i 3 p sn))) → W P Γ n nt (.range x i ps ca cb) (E16.env E) H Q := by
      intro Q hQ
      refine W_range hlp hx (okC_mono hok hokc) (by omega) (v := v) (e := e) (rd := rd) (c := cc) ?_ hb hs1 hQ
      rw [hcF, hcA]
      exact hcr
    match p, h, w with
    | 0, h, w => exact ⟨.normal, E, _, h, fun Q hQ => w Q hQ⟩
    | 1, h, w => exact ⟨.ret, E, _, h, fun Q hQ => w Q hQ⟩
    | q + 2, h, w => exact ⟨.exit q, E, _, h, fun Q hQ => w Q hQ⟩
  rcases bsel_inv h with ⟨hb, h⟩ | h
  · obtain ⟨h1, h⟩ := ifK_inv h
    rw [appK_eq] at h
    exact fin1 f _ h1 (by simp only [cloF, hb]) (by simp only [cloA, hb]) h
  · obtain ⟨hb, h⟩ := ifK_inv h
    rw [nB1_eq] at hb
    have hb : Nat.blt f 65536 = false := by simpa only [Bool.not_eq_true'] using hb
    rw [natK_eq] at h
    obtain ⟨h1, h⟩ := ifK_inv h
    rw [appK_eq] at h
    exact fin1 (f - 65536) _ h1 (by simp only [cloF, hb]) (by simp only [cloA, hb]) h

theorem trX_sound (hok : ∀ f, ok f = true → okFn P f = true) (hm : P.follows .mixedOrders = true) (md : Bool) (lvf : Nat → List Nat) (nt : Nat) : ∀ cc : CC, (∀ r ∈ rangesC cc, LoopAt P Γ r.1 nt r.2.1 (lvf r.1) r.2.2.1 r.2.2.2) → SndN P Γ nt cc (trX ok md lvf cc) := by
  have plain : ∀ cc, SndN P Γ nt cc (tr ok md cc) := by
    intro cc c n kn kx E H R hc h
    obtain ⟨x, E', H', h1, h2⟩ := tr_sound hok hm md cc c n kn kx E H R hc h
    exact ⟨x, E', H', h1, fun Q hQ => h2 nt Q hQ⟩
  intro cc
  induction cc with
  | seq a b iha ihb =>
    intro hr c n kn kx E H R hc h
    have ha := iha (fun r h => hr r (by simp [rangesC, h]))
    have hb := ihb (fun r h => hr r (by simp [rangesC, h]))
    obtain ⟨x, E1, H1, h1, h2⟩ := ha c n (fun E H => trX ok md lvf b c n kn kx E H) kx E H R hc h
    cases x with
    | normal =>
      obtain ⟨x, E2, H2, h3, h4⟩ := hb c n kn kx E1 H1 R hc h1
      exact ⟨x, E2, H2, h3, fun Q hQ => W_seq (h2 _ (h4 Q hQ))⟩
    | exit i => exact ⟨.exit i, E1, H1, h1, fun Q hQ => W_seq (h2 _ hQ)⟩
    | goto l => exact ⟨.goto l, E1, H1, h1, fun Q hQ => W_seq (h2 _ hQ)⟩
    | ret => exact ⟨.ret, E1, H1, h1, fun Q hQ => W_seq (h2 _ hQ)⟩
    | panic ch => exact ⟨.panic ch, E1, H1, h1, fun Q hQ => W_seq (h2 _ hQ)⟩
    | outgrown => exact ⟨.outgrown, E1, H1, h1, fun Q hQ => W_seq (h2 _ hQ)⟩
  | cond x a b iha ihb =>
    intro hr c n kn kx E H R hc h
    have ha := iha (fun r h => hr r (by simp [rangesC, h]))
    have hb := ihb (fun r h => hr r (by simp [rangesC, h]))
    rcases cndK_inv (show cndK (trG x E) (trX ok md lvf a c n kn kx E H) (trX ok md lvf b c n kn kx E H) = some R from h) with ⟨hv, h⟩ | ⟨hv, h⟩
    · rw [trG_eq] at hv
      obtain ⟨x, E1, H1, h1, h2⟩ := ha c n kn kx E H R hc h
      exact ⟨x, E1, H1, h1, fun Q hQ => W_cond hv (fun _ => h2 Q hQ) (fun e => by simp at e)⟩
    · rw [trG_eq] at hv
      obtain ⟨x, E1, H1, h1, h2⟩ := hb c n kn kx E H R hc h
      exact ⟨x, E1, H1, h1, fun Q hQ => W_cond hv (fun e => by simp at e) (fun _ => h2 Q hQ)⟩
  | block id a ih =>
    intro hr c n kn kx E H R hc h
    have ha := ih (fun r h => hr r (by simpa [rangesC] using h))
    obtain ⟨x, E1, H1, h1, h2⟩ := ha c n kn (blkX id kn kx) E H R hc h
    cases x with
    | normal => exact ⟨.normal, E1, H1, h1, fun Q hQ => W_block (h2 _ hQ)⟩
    | exit i =>
      by_cases e : i = id
      · subst e
        have hb : bsel (Nat.beq i i) (kn E1 H1) (kx (.exit i) E1 H1) = some R := h1
        rw [Nat.beq_refl] at hb
        exact ⟨.normal, E1, H1, hb, fun Q hQ => W_block (h2 _ (by simp only [inBlk, if_true]; exact hQ))⟩
      · have hb : Nat.beq i id = false := by
          cases hh : Nat.beq i id with
          | false => rfl
          | true => exact absurd (Nat.eq_of_beq_eq_true hh) e
        have h1' : bsel (Nat.beq i id) (kn E1 H1) (kx (.exit i) E1 H1) = some R := h1
        rw [hb] at h1'
        exact ⟨.exit i, E1, H1, h1', fun Q hQ => W_block (h2 _ (by simp only [inBlk, if_neg e]; exact hQ))⟩
    | goto l => exact ⟨.goto l, E1, H1, h1, fun Q hQ => W_block (h2 _ hQ)⟩
    | ret => exact ⟨.ret, E1, H1, h1, fun Q hQ => W_block (h2 _ hQ)⟩
    | panic ch => exact ⟨.panic ch, E1, H1, h1, fun Q hQ => W_block (h2 _ hQ)⟩
    | outgrown => exact ⟨.outgrown, E1, H1, h1, fun Q hQ => W_block (h2 _ hQ)⟩
  | range x k ps a b => intro hr; exact range_sound hok (hr (k, ps, a, b) (by simp [rangesC])) x
  | skip => intro _; exact plain _
  | reg os d => intro _; exact plain _
  | loop a => intro _; exact plain _
  | exit i => intro _; exact plain _
  | scope a => intro _; exact plain _
  | label l => intro _; exact plain _
  | goto l => intro _; exact plain _
  | ret => intro _; exact plain _

noncomputable def entR (t : RunT) (nt : Nat) (rs : List RG) (keep : Bool) : FR → List AV → Heap → O := fun c args H =>
  ifK (Nat.ble args.length nt) (lenK H fun n0 => argE setsA args junkE fun E => t c n0 (finK n0 keep rs) (fun x E H => endX x (finK n0 keep rs E H)) E H)

theorem eor {f : FuncId} {fn : Func} {t : RunT} {nt : Nat} {rs : List RG} {keep : Bool} {k : Nat} {ps : List Nat} {la lb : CC} (lvf : Nat → List Nat) (hok : ∀ f, ok f = true → okFn P f = true) (hm : P.follows .mixedOrders = true) (hne : f ≠ 4095) (m : Bool)
    (hf : P.funcs[f]? = some fn) (h1 : (fn.body.bind (compC P Γ fn.ntmps)).isSome = true) (h2 : fn.ntmps = nt)
    (h3 : t = trX ok m lvf ((fn.body.bind (compC P Γ fn.ntmps)).getD .skip)) (h4 : (fn.results.toList.mapM (cRes P)).isSome = true) (h5 : rs = ((fn.results.toList.mapM (cRes P)).getD []).map trR)
    (h6 : rangesC ((fn.body.bind (compC P Γ fn.ntmps)).getD .skip) = [(k, ps, la, lb)]) (h7 : LoopAt P Γ k nt ps (lvf k) la lb) : EOT P Γ ok f (.own (entR t nt rs keep)) := by
  intro cl hcl args H v H' h
  have hc := some_getD (d := CC.skip) h1
  have hrs := some_getD (d := ([] : List RV)) h4
  generalize (fn.body.bind (compC P Γ fn.ntmps)).getD .skip = c at hc h3 h6
  generalize (fn.results.toList.mapM (cRes P)).getD [] = rs0 at hrs h5
  subst h3 h5
  obtain ⟨hle, h⟩ := ifK_inv (show ifK (Nat.ble args.length nt) (lenK H fun n0 => argE setsA args junkE fun E => trX ok m lvf c cl n0 (finK n0 keep (rs0.map trR)) (fun x E H => endX x (finK n0 keep (rs0.map trR) E H)) E H) = some (v, H') from h)
  rw [Nat.ble_eq] at hle
  rw [lenK_eq] at h
  obtain ⟨_, E, hE1, h⟩ := argE_inv args 0 junkE (by omega) (by simpa using h)
  have hEe : E.env = argsE args := by
    funext t
    rw [hE1]
    simp only [Nat.zero_add, Nat.zero_le, true_and, Nat.sub_zero, argsE]
    split
    · rfl
    · rename_i hh
      rw [junkE_env]
      simp only [List.getD_eq_getElem?_getD, List.getElem?_eq_none (Nat.le_of_not_lt hh), Option.getD_none]
  obtain ⟨x, E', H1, h1', h2'⟩ := trX_sound (Γ := Γ) hok hm m lvf nt c (by rw [h6]; intro r hr; simp at hr; subst hr; exact h7) _ _ _ _ _ _ _ hcl h
  have hend : (x = .ret ∨ x = .normal) ∧ finK H.length keep (rs0.map trR) E' H1 = some (v, H') := by
    cases x with
    | normal => exact ⟨.inr rfl, h1'⟩
    | ret => exact ⟨.inl rfl, h1'⟩
    | _ => exact absurd (show (none : O) = some (v, H') from h1') (by simp)
  have hfx := finK_inv hend.2
  cases hr : resB rs0 E'.env H1 with
  | none => rw [hr] at hfx; simp [FinP] at hfx
  | some v1 =>
    rw [hr] at hfx
    obtain ⟨hfin, hlen⟩ := finP_sound hfx
    cases hb : fn.body with
    | none => rw [hb] at hc; simp at hc
    | some code =>
      rw [hb] at hc
      subst h2
      refine Ret_intro hf hb hc hle hlen hne ?_
      rw [← hEe]
      refine h2' _ ⟨hend.1, v1, ?_, hfin⟩
      unfold resA
      rw [resB_eq _ _ hrs]
      exact hr

noncomputable def putsK (ts : List ST) (vs : List AV) (E : E16) (k : E16 → O) : O :=
  List.rec (motive := fun _ => List AV → E16 → (E16 → O) → O) (fun vs E k => List.rec (motive := fun _ => E16 → (E16 → O) → O) (fun E k => k E) (fun _ _ _ _ _ => none) vs E k)
    (fun s _ ih vs E k => List.rec (motive := fun _ => ST → (List AV → E16 → (E16 → O) → O) → E16 → (E16 → O) → O) (fun _ _ _ _ => none) (fun v vs _ s ih E k => s E v fun E => ih vs E k) vs s ih E k) ts vs E k

theorem putsK_inv {R : AV × Heap} {k : E16 → O} : ∀ (ts : List Nat) (vs : List AV) (E : E16), (ts.all fun t => Nat.blt t 256) = true → putsK (ts.map fun t => trD (some t)) vs E k = some R → vs.length = ts.length ∧ ∃ E' : E16, E'.env = putsE ts vs E.env ∧ k E' = some R := by
  intro ts
  induction ts with
  | nil =>
    intro vs E _ h
    cases vs with
    | nil => exact ⟨rfl, E, rfl, h⟩
    | cons v vs => exact absurd (show (none : O) = some R from h) (by simp)
  | cons t ts ih =>
    intro vs E ho h
    simp only [List.all_cons, Bool.and_eq_true] at ho
    cases vs with
    | nil => exact absurd (show (none : O) = some R from h) (by simp)
    | cons v vs =>
      have h : trD (some t) E v (fun E => putsK (ts.map fun t => trD (some t)) vs E k) = some R := h
      have hd : okD (some t) = true := ho.1
      rw [trD_eq hd] at h
      obtain ⟨h1, E', h2, h3⟩ := ih vs _ ho.2 h
      refine ⟨by simp [h1], E', ?_, h3⟩
      rw [h2, E16.env_setO _ _ hd]
      rfl

noncomputable def endB (k L n0 s3 p3 : Nat) (b : Bool) (H : Heap) : O := blkK H L fun cs => lpK cs fun i _ _ sn => ifK (Nat.beq i k) (putK H L (some (loopCs k s3 p3 sn)) fun H => ifK (Nat.ble n0 H.length) (some (.bool b, H)))
noncomputable def endBX (k L n0 : Nat) (x : Exit) (_ : E16) (H : Heap) : O := match x with
  | .ret => endB k L n0 2 1 false H
  | .exit n => natK n fun n => endB k L n0 2 (n + 2) false H
  | _ => none

noncomputable def rndK (k : Nat) (lv ps : List ST) (ta tb : RunT) (L : Nat) (sn us : List AV) : FR → Heap → O := fun c H =>
  lenK H fun n0 => putsK lv sn junkE fun E => putsK ps us E fun E => ta c n0
    (fun E H => blkK H L fun cs => lpK cs fun i s p sn => ifK (Nat.beq i k) (ifK (Nat.beq s 0) (putK H L (some (loopCs k 1 p sn)) fun H => tb c n0 (fun _ H => endB k L n0 0 0 true H) (endBX k L n0) E H)))
    (fun _ _ _ => none) E H

theorem endB_inv {k L n0 s3 p3 : Nat} {b : Bool} {H : Heap} {v : AV} {H' : Heap} (h : endB k L n0 s3 p3 b H = some (v, H')) :
    ∃ s2 p2 sn2, getB H L = some (loopCs k s2 p2 sn2) ∧ Fin n0 (.bool b) (H.set L (some (loopCs k s3 p3 sn2))) v H' ∧ n0 ≤ H'.length := by
  obtain ⟨cs, hb, h0⟩ := blkK_inv h
  clear h
  obtain ⟨i, s, p, sn, hcs', h⟩ := lpK_inv h0
  clear h0
  subst hcs'
  obtain ⟨h1, h⟩ := ifK_inv h
  have := Nat.eq_of_beq_eq_true h1
  subst this
  rw [putK_eq] at h
  obtain ⟨h2, h⟩ := ifK_inv h
  rw [Nat.ble_eq] at h2
  simp only [Option.some.injEq, Prod.mk.injEq] at h
  obtain ⟨rfl, rfl⟩ := h
  exact ⟨s, p, sn, hb, .keep _ _, h2⟩

theorem rnd_sound (hok : ∀ f, ok f = true → okFn P f = true) (hm : P.follows .mixedOrders = true) {k nt : Nat} {ps lv : List Nat} {ca cb : CC} (ht : LoopAt P Γ k nt ps lv ca cb) (hl1 : (lv.all fun t => Nat.blt t 256) = true) (hl2 : (ps.all fun t => Nat.blt t 256) = true)
    {ma mb : Bool} {ta tb : RunT} (h1 : ta = tr ok ma ca) (h2 : tb = tr ok mb cb) {L p : Nat} {sn us : List AV} {c : FR} (hc : RetOK P Γ (frun c)) {H : Heap} {v : AV} {H' : Heap} (hL : getB H L = some (loopCs k 0 p sn))
    (h : rndK k (lv.map fun t => trD (some t)) (ps.map fun t => trD (some t)) ta tb L sn us c H = some (v, H')) : Ret P Γ 4095 (.clo 131075 [.ptr L 0] :: us) H v H' := by
  subst h1 h2
  unfold rndK at h
  rw [lenK_eq] at h
  obtain ⟨g1, E0, g2, h⟩ := putsK_inv lv sn junkE hl1 h
  obtain ⟨g3, E1, g4, h⟩ := putsK_inv ps us E0 hl2 h
  have hE : E1.env = roundE lv sn ps us := by
    rw [g4, g2]
    have : E16.env junkE = fun _ => AV.junk := funext junkE_env
    rw [this]
    rfl
  obtain ⟨x, E2, H2, q1, q2⟩ := tr_sound (Γ := Γ) hok hm ma ca _ _ _ _ _ _ _ hc h
  cases x <;> first | (exact absurd (show (none : O) = some (v, H') from q1) (by simp)) | skip
  obtain ⟨cs, hb, q0⟩ := blkK_inv (show blkK H2 L _ = some (v, H') from q1)
  clear q1
  obtain ⟨i, s, p1, sn1, hcs', q1⟩ := lpK_inv q0
  clear q0
  subst hcs'
  obtain ⟨e1, q1⟩ := ifK_inv q1
  have := Nat.eq_of_beq_eq_true e1
  subst this
  obtain ⟨e2, q1⟩ := ifK_inv q1
  have := Nat.eq_of_beq_eq_true e2
  subst this
  rw [putK_eq] at q1
  obtain ⟨x, E3, H3, q3, q4⟩ := tr_sound (Γ := Γ) hok hm mb cb _ _ _ _ _ _ _ hc q1
  have key : ∃ s3 p3 bb, roundEnd x = some (s3, p3, bb) ∧ endB i L H.length s3 p3 bb H3 = some (v, H') := by
    cases x with
    | normal => exact ⟨0, 0, true, rfl, q3⟩
    | ret => exact ⟨2, 1, false, rfl, q3⟩
    | exit n =>
      have q3 : (natK n fun n => endB i L H.length 2 (n + 2) false H3) = some (v, H') := q3
      rw [natK_eq] at q3
      exact ⟨2, n + 2, false, rfl, q3⟩
    | _ => exact absurd (show (none : O) = some (v, H') from q3) (by simp)
  obtain ⟨s3, p3, bb, k1, k2⟩ := key
  obtain ⟨s2, p2, sn2, k3, k4, k5⟩ := endB_inv k2
  refine Ret_round ht hL g3 g1 k5 ?_
  rw [← hE]
  exact q2 _ _ ⟨rfl, p1, sn1, hb, q4 _ _ ⟨s2, p2, sn2, s3, p3, bb, k3, k1, k4⟩⟩

noncomputable def yldK (tab : Nat → Nat → List AV → List AV → FR → Heap → O) : FR → List AV → Heap → O := fun c args H => match args with
  | .clo m [.ptr L 0] :: us => ifK (Nat.beq m 131075) (blkK H L fun cs => lpK cs fun k s _ sn => ifK (Nat.beq s 0) (tab k L sn us c H))
  | _ => none

theorem yld_sound {tab : Nat → Nat → List AV → List AV → FR → Heap → O} (htab : ∀ k L p sn us c H v H', RetOK P Γ (frun c) → getB H L = some (loopCs k 0 p sn) → tab k L sn us c H = some (v, H') → Ret P Γ 4095 (.clo 131075 [.ptr L 0] :: us) H v H') :
    EOT P Γ ok 4095 (.own (yldK tab)) := by
  intro c hc args H v H' h
  unfold yldK at h
  split at h
  · rename_i m L us
    obtain ⟨e1, h⟩ := ifK_inv h
    have := Nat.eq_of_beq_eq_true e1
    subst this
    obtain ⟨cs, hb, h0⟩ := blkK_inv h
    clear h
    obtain ⟨i, s, p1, sn1, hcs', h⟩ := lpK_inv h0
    clear h0
    subst hcs'
    obtain ⟨e2, h⟩ := ifK_inv h
    have := Nat.eq_of_beq_eq_true e2
    subst this
    exact htab _ _ _ _ _ _ _ _ _ hc hb h
  · simp at h

end
end Go.AL
