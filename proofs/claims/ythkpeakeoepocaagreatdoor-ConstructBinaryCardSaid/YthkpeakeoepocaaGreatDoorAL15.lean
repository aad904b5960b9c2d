/- The state of a walk, one step of it, a region in whatever order. -/
import Derived.Test.YthkpeakeoepocaaGreatDoorAL14
namespace Go.AL
set_option linter.unusedSimpArgs false
set_option linter.unusedVariables false
open Go

structure Ctx where
  F : Nat → Prop
  w0 : World
  ρ0 : Nat → RS
  n0 : Nat
  nt : Nat

structure Sim (Γ : Glob) (C : Ctx) (ρ : Nat → RS) (E : Env) (H : Heap) (a : Act) (w : World) : Prop where
  hok : HOK Γ w C.F ρ H
  env : ∀ t, Rep w (Mu C.F ρ) ρ (E t) (a.tmps.getD t undef)
  defers : a.defers = []
  size : a.tmps.size = C.nt
  kept : Kept (fun b => ∃ i, C.ρ0 i = .here b) C.w0 w
  ext : ∀ i, i < C.n0 → ρ i = C.ρ0 i
  old : ∀ i b, ρ i = .here b → (∃ j, C.ρ0 j = .here b) ∨ C.w0.heap.size ≤ b
  len : C.n0 ≤ H.length

theorem put_get {a : Act} {d : Nat} {v : Value} (hd : d < a.tmps.size) (t : Nat) : (a.put (some d) v).tmps.getD t undef = if t = d then v else a.tmps.getD t undef := by
  simp only [Act.put, Array.getD_eq_getD_getElem?]
  by_cases e : t = d
  · subst e; simp [hd]
  · rw [if_neg e, Array.getElem?_setIfInBounds_ne (fun x => e x.symm)]

theorem Sim.step {Γ : Glob} {C : Ctx} {ρ ρ' : Nat → RS} {E : Env} {H H' : Heap} {a : Act} {w w' : World} {new : List Nat} {d : Option Nat} {v : AV} {v' : Value} (hs : Sim Γ C ρ E H a w)
    (hA : After Γ C.F C.n0 ρ w ρ' w' H' new) (hnew : ∀ i ∈ new, C.n0 ≤ i) (hlen : C.n0 ≤ H'.length) (hr : Rep w' (Mu C.F ρ') ρ' v v') (hd : okDst C.nt d = true) :
    Sim Γ C ρ' (updO E d v) H' (a.put d v') w' := by
  refine ⟨hA.hok, fun t => ?_, ?_, ?_, ?_, ?_, ?_, hlen⟩
  · cases d with
    | none => exact (hs.env t).after hs.hok hA
    | some d =>
      have hd' : d < a.tmps.size := by rw [hs.size]; simpa [okDst] using hd
      rw [put_get hd']
      simp only [updO, upd]
      split
      · exact hr
      · exact (hs.env t).after hs.hok hA
  · cases d <;> exact hs.defers
  · cases d with
    | none => exact hs.size
    | some d => simpa [Act.put] using hs.size
  · exact hs.kept.trans hA.kept (by
      rintro b hb ⟨i, hi⟩
      rcases hs.old i b hi with h | h
      · exact h
      · omega)
  · intro i hi
    rw [← hs.ext i hi]
    by_cases hu : ρ i = .unborn
    · rw [hA.still i hu (fun hn => by have := hnew i hn; omega), hu]
    · rcases hA.ext i hu with h | ⟨h, _⟩
      · exact h
      · omega
  · intro i b hi
    rcases hA.old i b hi with ⟨j, hj⟩ | h
    · exact hs.old j b hj
    · exact .inr (Nat.le_trans hs.kept.size h)

theorem Sim.drew {Γ : Glob} {C : Ctx} {ρ : Nat → RS} {E : Env} {H : Heap} {a : Act} {w : World} (hs : Sim Γ C ρ E H a w) (w' : World) (hw : w'.heap = w.heap) (hr : w'.os = w.os ∧ w'.output = w.output) : Sim Γ C ρ E H a w' := by
  have hA := after_same C.n0 hs.hok hw hr
  refine ⟨hA.hok, fun t => (hs.env t).after hs.hok hA, hs.defers, hs.size, ?_, hs.ext, hs.old, hs.len⟩
  exact hs.kept.trans hA.kept (by
    rintro b hb ⟨i, hi⟩
    rcases hs.old i b hi with h | h
    · exact h
    · omega)

theorem HOK.pad {Γ : Glob} {w : World} {F : Nat → Prop} {ρ : Nat → RS} {H : Heap} (h : HOK Γ w F ρ H) (m : Nat) : HOK Γ w F ρ (H ++ List.replicate m none) := by
  refine ⟨h.inj, h.notF, h.fLt, fun i hi => h.unborn i (by simp at hi; omega), fun i cs hi => ?_, fun i b hi => ?_, h.glob⟩
  · rcases Nat.lt_or_ge i H.length with hl | hl
    · rw [List.getElem?_append_left hl] at hi; exact h.alive i cs hi
    · rw [List.getElem?_append_right hl, List.getElem?_replicate] at hi
      split at hi <;> simp at hi
  · obtain ⟨cs, h1, h2⟩ := h.blk i b hi
    have hl : i < H.length := by
      rcases Nat.lt_or_ge i H.length with h' | h'
      · exact h'
      · rw [List.getElem?_eq_none h'] at h1; simp at h1
    exact ⟨cs, by rw [List.getElem?_append_left hl]; exact h1, h2⟩

theorem Sim.pad {Γ : Glob} {C : Ctx} {ρ : Nat → RS} {E : Env} {H : Heap} {a : Act} {w : World} (hs : Sim Γ C ρ E H a w) (m : Nat) : Sim Γ C ρ E (H ++ List.replicate m none) a w :=
  ⟨hs.hok.pad m, hs.env, hs.defers, hs.size, hs.kept, hs.ext, hs.old, by have := hs.len; simp; omega⟩

theorem compOp_call {P : Program} {Γ : Glob} {op : Op} {f : FuncId} {l : List Opd} (h : compOp P Γ op = some (.call f l)) :
    ∃ cl, op = .call cl ∧ cl.callee = .value (.func f) ∧ okFn P f = true ∧ cl.args.toList.mapM (cOpd Γ) = some l := by
  cases op <;> simp only [compOp] at h <;> try (simp [Option.bind_eq_some_iff] at h; done)
  case buildSlice t n ps =>
    obtain ⟨d, hd, h⟩ := option_bind_some h
    cases d <;> simp only at h <;> try (simp at h; done)
    obtain ⟨s, hs, h⟩ := option_bind_some h
    obtain ⟨z, hz, h⟩ := option_bind_some h
    obtain ⟨ps', hps, h⟩ := option_bind_some h
    split at h <;> simp at h
  case binOp op t x y t' =>
    split at h <;> try (simp [Option.bind_eq_some_iff] at h; done)
    all_goals (split at h <;> simp at h)
  case convert src dst x =>
    split at h <;> try (simp at h; done)
    split at h <;> simp at h
  case makeFunc fn first caps =>
    cases fn <;> simp only [compOp] at h <;> try (simp at h; done)
    split at h <;> try (simp at h; done)
    split at h
    · simp [Option.bind_eq_some_iff] at h
    · split at h <;> simp [Option.bind_eq_some_iff] at h
  case makeMap t r =>
    cases r <;> simp only [compOp] at h <;> try (simp at h; done)
    split at h <;> simp at h
  case lookup t x y ok =>
    cases ok <;> simp only [compOp] at h <;> try (simp at h; done)
    split at h <;> try (simp at h; done)
    split at h <;> simp [Option.bind_eq_some_iff] at h
  case mapEntry t x y =>
    split at h <;> try (simp at h; done)
    split at h <;> simp [Option.bind_eq_some_iff] at h
  case makeSlice t x y =>
    obtain ⟨d, hd, h⟩ := option_bind_some h
    cases d <;> simp only at h <;> simp [Option.bind_eq_some_iff] at h
  case slice t x lo hi mx =>
    obtain ⟨x', hx, h⟩ := option_bind_some h
    obtain ⟨lo', hlo, h⟩ := option_bind_some h
    obtain ⟨hi', hhi, h⟩ := option_bind_some h
    obtain ⟨mx', hmx, h⟩ := option_bind_some h
    split at h <;> simp [Option.bind_eq_some_iff] at h
  case fieldAddr s x f =>
    split at h <;> try (simp at h; done)
    split at h <;> try (simp at h; done)
    obtain ⟨z, hz, h⟩ := option_bind_some h
    split at h <;> simp [Option.bind_eq_some_iff] at h
  case field s x f =>
    split at h <;> try (simp at h; done)
    split at h <;> simp [Option.bind_eq_some_iff] at h
  case indexAddr t x i => split at h <;> simp [Option.bind_eq_some_iff] at h
  case index t x i =>
    split at h <;> try (simp [Option.bind_eq_some_iff] at h; done)
  case call cl =>
    cases hcl : cl.callee with
    | invoke r m => rw [hcl] at h; simp at h
    | value g =>
      rw [hcl] at h
      cases g <;> simp only at h <;> try (simp at h; done)
      · simp [Option.bind_eq_some_iff] at h
      · split at h
        · rename_i hok
          obtain ⟨l', hl, h⟩ := option_bind_some h
          simp at h
          obtain ⟨rfl, rfl⟩ := h
          exact ⟨cl, rfl, hcl, hok, hl⟩
        · simp at h
    | builtin b =>
      rw [hcl] at h
      cases b <;> simp only at h <;> try (simp at h; done)
      case append =>
        split at h <;> try (simp at h; done)
        obtain ⟨i, hi, h⟩ := option_bind_some h
        obtain ⟨z, hz, h⟩ := option_bind_some h
        split at h <;> simp [Option.bind_eq_some_iff] at h
      case copy => split at h <;> simp [Option.bind_eq_some_iff] at h
      case len =>
        split at h <;> try (simp at h; done)
        split at h <;> simp at h
      case max => split at h <;> simp [Option.bind_eq_some_iff] at h

theorem compOp_callc {P : Program} {Γ : Glob} {op : Op} {x : Opd} {l : List Opd} (h : compOp P Γ op = some (.callc x l)) :
    ∃ cl t, op = .call cl ∧ cl.callee = .value (.tmp t) ∧ x = .t t ∧ cl.args.toList.mapM (cOpd Γ) = some l := by
  cases op <;> simp only [compOp] at h <;> try (simp [Option.bind_eq_some_iff] at h; done)
  case buildSlice t n ps =>
    obtain ⟨d, hd, h⟩ := option_bind_some h
    cases d <;> simp only at h <;> try (simp at h; done)
    obtain ⟨s, hs, h⟩ := option_bind_some h
    obtain ⟨z, hz, h⟩ := option_bind_some h
    obtain ⟨ps', hps, h⟩ := option_bind_some h
    split at h <;> simp at h
  case binOp op t x y t' =>
    split at h <;> try (simp [Option.bind_eq_some_iff] at h; done)
    all_goals (split at h <;> simp at h)
  case convert src dst x =>
    split at h <;> try (simp at h; done)
    split at h <;> simp at h
  case makeFunc fn first caps =>
    cases fn <;> simp only [compOp] at h <;> try (simp at h; done)
    split at h <;> try (simp at h; done)
    split at h
    · simp [Option.bind_eq_some_iff] at h
    · split at h <;> simp [Option.bind_eq_some_iff] at h
  case makeMap t r =>
    cases r <;> simp only [compOp] at h <;> try (simp at h; done)
    split at h <;> simp at h
  case lookup t x y ok =>
    cases ok <;> simp only [compOp] at h <;> try (simp at h; done)
    split at h <;> try (simp at h; done)
    split at h <;> simp [Option.bind_eq_some_iff] at h
  case mapEntry t x y =>
    split at h <;> try (simp at h; done)
    split at h <;> simp [Option.bind_eq_some_iff] at h
  case makeSlice t x y =>
    obtain ⟨d, hd, h⟩ := option_bind_some h
    cases d <;> simp only at h <;> simp [Option.bind_eq_some_iff] at h
  case slice t x lo hi mx =>
    obtain ⟨x', hx, h⟩ := option_bind_some h
    obtain ⟨lo', hlo, h⟩ := option_bind_some h
    obtain ⟨hi', hhi, h⟩ := option_bind_some h
    obtain ⟨mx', hmx, h⟩ := option_bind_some h
    split at h <;> simp [Option.bind_eq_some_iff] at h
  case fieldAddr s x f =>
    split at h <;> try (simp at h; done)
    split at h <;> try (simp at h; done)
    obtain ⟨z, hz, h⟩ := option_bind_some h
    split at h <;> simp [Option.bind_eq_some_iff] at h
  case field s x f =>
    split at h <;> try (simp at h; done)
    split at h <;> simp [Option.bind_eq_some_iff] at h
  case indexAddr t x i => split at h <;> simp [Option.bind_eq_some_iff] at h
  case index t x i =>
    split at h <;> try (simp [Option.bind_eq_some_iff] at h; done)
  case call cl =>
    cases hcl : cl.callee with
    | invoke r m => rw [hcl] at h; simp at h
    | value g =>
      rw [hcl] at h
      cases g <;> simp only at h <;> try (simp at h; done)
      · rename_i t
        obtain ⟨l', hl, h⟩ := option_bind_some h
        simp at h
        obtain ⟨rfl, rfl⟩ := h
        exact ⟨cl, t, rfl, hcl, rfl, hl⟩
      · split at h <;> simp [Option.bind_eq_some_iff] at h
    | builtin b =>
      rw [hcl] at h
      cases b <;> simp only at h <;> try (simp at h; done)
      case append =>
        split at h <;> try (simp at h; done)
        obtain ⟨i, hi, h⟩ := option_bind_some h
        obtain ⟨z, hz, h⟩ := option_bind_some h
        split at h <;> simp [Option.bind_eq_some_iff] at h
      case copy => split at h <;> simp [Option.bind_eq_some_iff] at h
      case len =>
        split at h <;> try (simp at h; done)
        split at h <;> simp at h
      case max => split at h <;> simp [Option.bind_eq_some_iff] at h

theorem okFn_some {P : Program} {f : FuncId} (h : okFn P f = true) : ∃ fn, P.funcs[f]? = some fn ∧ fn.body.isNone = false ∧ (fn.name == "runtime.NumGoroutine") = false := by
  unfold okFn at h
  split at h
  · rename_i fn hf
    simp at h
    refine ⟨fn, hf, ?_, by simpa using h.2⟩
    cases hb : fn.body <;> simp [hb] at h ⊢
  · simp at h

theorem run_call {P : Program} {w : World} {f : FuncId} {args : Array Value} (h : okFn P f = true) : (callFunc f args).run P w = .ok (.enter f args) w := by
  obtain ⟨fn, h1, h2, h3⟩ := okFn_some h
  have h4 : fn.name ≠ "runtime.NumGoroutine" := by simpa using h3
  have h5 : fn.body ≠ none := by intro e; rw [e] at h2; simp at h2
  simp only [callFunc, Sem.run_bind, program, Sem.run]
  simp [h1, h4, h5]

end Go.AL
