/- One step of the model's region, and a region whose order is open. -/
import Derived.Test.YthkpeakeoepocaaGreatDoorAL15
namespace Go.AL
set_option linter.unusedSimpArgs false
set_option linter.unusedVariables false
open Go

theorem guard_bool {ops : Array Oper} {a : Act} {o : Oper} {d : Nat} {want b : Bool} (hg : cGuard ops o.guard = some (some (d, want))) (hb : a.tmps.getD d undef = .bool b) :
    Region.wanted o (yielded ops a.tmps) = (b == want) := by
  cases hgu : o.guard with
  | none => rw [hgu] at hg; simp [cGuard] at hg
  | some p =>
    obtain ⟨j, wt⟩ := p
    rw [hgu] at hg
    simp only [cGuard] at hg
    split at hg
    · rename_i d' hd
      simp at hg
      obtain ⟨rfl, rfl⟩ := hg
      have hlt : a.tmps[d']? = some (.bool b) := by
        rw [Array.getD_eq_getD_getElem?] at hb
        cases h : a.tmps[d']? with
        | none => rw [h] at hb; simp [undef] at hb
        | some x => rw [h] at hb; simp at hb; rw [hb]
      simp only [Region.wanted, hgu, yielded, hd, Option.bind_some, hlt]
      cases b <;> cases wt <;> rfl
    · simp at hg

theorem guard_none {ops : Array Oper} {a : Act} {o : Oper} (hg : cGuard ops o.guard = some none) : Region.wanted o (yielded ops a.tmps) = true := by
  cases hgu : o.guard with
  | none => simp [Region.wanted, hgu]
  | some p =>
    obtain ⟨j, wt⟩ := p
    rw [hgu] at hg
    simp only [cGuard] at hg
    split at hg <;> simp at hg

section
variable {P : Program} {Γ : Glob} {C : Ctx} {ρ : Nat → RS} {E : Env} {H : Heap} {a : Act} {w : World} {ops : Array Oper} {o : Oper} {co : COp} {it : It} {Q : Exit → Act → World → Prop} {K : Act → World → Prop}

/-- What is asked of the rest, once the operation is done. -/
def Then (Γ : Glob) (C : Ctx) (ρ : Nat → RS) (E : Env) (H : Heap) (a : Act) (co : COp) (it : It) (K : Act → World → Prop) : Prop :=
  ∀ (ρ' : Nat → RS) (v' : Value) (w' : World), Sim Γ C ρ' (updO E co.dst it.v) (applyE it.e H) (a.put co.dst v') w' → (∀ j, ρ j = .unborn → j ∉ newIds it.k it.c → ρ' j = .unborn) → K (a.put co.dst v') w'

theorem body_wp (hs : Sim Γ C ρ E H a w) (hk : compOp P Γ o.op = some co.k) (hd : o.dst = co.dst) (hok : okDst C.nt co.dst = true) (hb : Body P Γ C.n0 co.k E H it) (h0 : C.n0 ≤ it.k) (hlen : it.k + it.c ≤ H.length)
    (hu : ∀ j, it.k ≤ j → j < it.k + it.c → ρ j = .unborn) (hK : Then Γ C ρ E H a co it K) : o.wp P a w K Q := by
  have hnew : ∀ i ∈ newIds it.k it.c, C.n0 ≤ i := by intro i hi; simp [newIds] at hi; omega
  have hl : C.n0 ≤ (applyE it.e H).length := by rw [applyE_len]; exact hs.len
  have calls : ∀ (f : FuncId) (args : List AV) (vs : Array Value), CallR P Γ f args it.k H it.v it.e it.rd it.c → vs.size = args.length →
      (∀ (j : Nat) (x : AV) (u : Value), args[j]? = some x → vs[j]? = some u → Rep w (Mu C.F ρ) ρ x u) → (execOp a.eval o).run P w = .ok (.enter f vs) w → o.wp P a w K Q := by
    intro f args vs hcr hsz hrep hrun
    unfold Oper.wp
    rw [hrun, Oper.upon_enter]
    refine (call_frame (n0 := C.n0) hs.hok hlen hu hcr hsz hrep).mono ?_
    rintro e w' ⟨u, ρ', rfl, hA, hr⟩
    simp only
    rw [hd]
    exact hK ρ' u w' (hs.step hA hnew hl hr hok) (fun j hj hn => hA.still j hj hn)
  have plain : ∀ ck, co.k = ck → evK C.n0 it.k ck (val E) H = some (it.v, it.e, it.rd) → it.c = cntK ck → o.wp P a w K Q := by
    intro ck hck hev hc
    obtain ⟨x, v', w', ρ', h1, h2, h3, h4⟩ := evK_sound (P := P) (o := o) (a := a) hs.hok hs.env (fun h => ⟨by omega, hu it.k (Nat.le_refl _) (by omega)⟩) (hck ▸ hk) hev
    rw [← hc] at h3
    have hK' := hK ρ' v' w' (hs.step h3 hnew hl h4 hok) (fun j hj hn => h3.still j hj hn)
    unfold Oper.wp
    rw [h1]
    rcases h2 with rfl | ⟨rfl, rfl⟩
    · rw [Oper.upon_value, hd]; exact hK'
    · rw [Oper.upon_skip, hd]; exact hK'
  cases hck : co.k <;> rw [hck] at hb <;> simp only [Body] at hb <;> try (exact plain _ hck hb.1 hb.2)
  case call f args =>
    rw [hck] at hk
    obtain ⟨cl, hop, hcl, hof, hm⟩ := compOp_call hk
    obtain ⟨m1, m2⟩ := mapM_rep hs.hok hs.env hm
    refine calls f _ (cl.args.map a.eval) hb (by simpa using m1) (fun j x u hx hu => m2 j x u hx (by simpa using hu)) ?_
    have hf : a.eval (.func f) = .func (.func f) #[] #[] := rfl
    simp [execOp, hop, resolve, hcl, hf, Deferred.ofValue, invoke, run_call hof]
  case callc x args =>
    rw [hck] at hk
    obtain ⟨cl, t, hop, hcl, rfl, hm⟩ := compOp_callc hk
    obtain ⟨f, caps, h1, h2, h3⟩ := hb
    obtain ⟨m1, m2⟩ := mapM_rep hs.hok hs.env hm
    have hx := hs.env t
    simp only [val] at h1
    rw [h1] at hx
    simp only [okC, Bool.and_eq_true] at h2
    obtain ⟨h2, h2'⟩ := h2
    rw [blt_true] at h2'
    rcases Nat.lt_or_ge f 65536 with hf | hf
    case inr =>
      have hb1 : Nat.blt f 65536 = false := blt_false hf
      simp only [cloF, cloA, hb1] at h2 h3
      obtain ⟨us, e1, hl1, hr1⟩ := rep_bnd hx hf h2'
      have e2 : a.eval (.tmp t) = .func (.func (f - 65536)) us #[] := e1
      refine calls (f - 65536) _ (us ++ cl.args.map a.eval) h3 (by simp at m1; simp [hl1, m1]) (fun j x u hx hu => ?_) ?_
      · simp only [List.length_map] at m1
        rcases Nat.lt_or_ge j caps.length with hj | hj
        · rw [List.getElem?_append_left (by simpa using hj)] at hx
          rw [Array.getElem?_append_left (by omega)] at hu
          exact hr1 j x u hx hu
        · rw [List.getElem?_append_right (by simpa using hj)] at hx
          rw [Array.getElem?_append_right (by omega)] at hu
          rw [hl1] at hu
          exact m2 (j - caps.length) x u (by simpa using hx) (by simpa using hu)
      · simp [execOp, hop, resolve, hcl, e2, Deferred.ofValue, invoke, run_call h2]
    have hb1 : Nat.blt f 65536 = true := blt_true.2 hf
    simp only [cloF, cloA, hb1] at h2 h3
    obtain ⟨us, e1, hl1, hr1⟩ := rep_clo hx hf
    have e2 : a.eval (.tmp t) = .func (.func f) #[] us := e1
    refine calls f _ (cl.args.map a.eval ++ us) h3 (by simp at m1; simp [hl1, m1]) (fun j x u hx hu => ?_) ?_
    · simp only [List.length_map] at m1
      rcases Nat.lt_or_ge j args.length with hj | hj
      · rw [List.getElem?_append_left (by simpa using hj)] at hx
        rw [Array.getElem?_append_left (by simp; simp at m1; omega)] at hu
        exact m2 j x u hx (by simpa using hu)
      · rw [List.getElem?_append_right (by simpa using hj)] at hx
        rw [Array.getElem?_append_right (by simp; simp at m1; omega)] at hu
        refine hr1 (j - args.length) x u (by simpa using hx) ?_
        have : (cl.args.map a.eval).size = args.length := by simp at m1 ⊢; omega
        rw [this] at hu
        exact hu
    · simp [execOp, hop, resolve, hcl, e2, Deferred.ofValue, invoke, run_call h2]

theorem stp_wp {i : Nat} (hi : ops[i]? = some o) (hs : Sim Γ C ρ E H a w) (hc : cOper P Γ C.nt ops o = some co) (hb : Stp P Γ C.n0 co E H it) (h0 : C.n0 ≤ it.k) (hlen : it.k + it.c ≤ H.length)
    (hu : ∀ j, it.k ≤ j → j < it.k + it.c → ρ j = .unborn) (hK : Then Γ C ρ E H a co it K) : wpOp P ops Q i K a w := by
  unfold cOper at hc
  split at hc
  · rename_i g k hg hk
    split at hc
    · rename_i hok
      simp at hc
      subst hc
      unfold wpOp
      simp only [hi]
      unfold Stp at hb
      simp only at hb
      cases g with
      | none =>
        rw [guard_none hg]
        simp only at hb
        rw [if_pos rfl]
        exact .inl (body_wp hs hk rfl hok hb h0 hlen hu hK)
      | some p =>
        obtain ⟨d, want⟩ := p
        simp only at hb
        obtain ⟨b, hE, hb⟩ := hb
        have hx := hs.env d
        rw [hE] at hx
        rw [guard_bool hg (rep_bool hx)]
        by_cases e : b = want
        · rw [if_pos e] at hb
          rw [if_pos (by simp [e])]
          exact .inl (body_wp hs hk rfl hok hb h0 hlen hu hK)
        · rw [if_neg e] at hb
          rw [if_neg (by simp [e])]
          obtain ⟨h1, h2, h3, h4⟩ := hb
          have hA := after_refl C.n0 hs.hok
          have := hK ρ undef w (by
            rw [h1, h2]
            exact hs.step hA (by simp) hs.len (.imm _ _ (.junk _)) hok) (fun j hj _ => hj)
          exact this
    · simp at hc
  · simp at hc

end
end Go.AL
