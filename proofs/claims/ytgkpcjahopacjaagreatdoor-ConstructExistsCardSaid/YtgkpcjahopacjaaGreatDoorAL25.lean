/- A scope with one label to which the run jumps back. -/
import Derived.Test.YtgkpcjahopacjaaGreatDoorAL24
import Derived.ScopeJumps
namespace Go.AL
set_option linter.unusedSimpArgs false
set_option linter.unusedVariables false
open Go

theorem stepR_scope {P : Program} {b : Frame} {a : Act} {k : List Item} {cs : List Frame} {w : World} {c : Code} : step P (lone (b.atR a (.code (.scope c) :: k)) cs w) = .next (lone (b.atR a (.code c :: .inScope c :: k)) cs w) :=
  step_lone_go (by simp [stepG, stepG.exec, Frame.atR])
theorem stepR_inScope {P : Program} {b : Frame} {a : Act} {k : List Item} {cs : List Frame} {w : World} {c : Code} : step P (lone (b.atR a (.inScope c :: k)) cs w) = .next (lone (b.atR a k) cs w) :=
  step_lone_go (by simp [stepG, stepG.exec, Frame.atR])

theorem W_scope0 {P : Program} {Γ : Glob} {n0 nt : Nat} {c : CC} {E : Env} {H : Heap} {Q : Post} (h : W P Γ n0 nt c E H (fun x E' H' => (∀ l, x ≠ .goto l) ∧ Q x E' H')) : W P Γ n0 nt (.scope c) E H Q := by
  intro code hc C ρ a w h1 h2 hfl hs
  cases code <;> simp only [compC] at hc <;> try (simp at hc; done)
  case scope x =>
    split at hc
    · rename_i cx hx
      simp at hc
      subst hc
      intro b k cs hro hb hr
      obtain ⟨e, a₁, w₁, ⟨E1, H1, ρ1, ⟨hg, hq⟩, hs1⟩, harr⟩ := h x hx C ρ a w h1 h2 hfl hs b (.inScope x :: k) cs hro hb hr
      have h0 : (lone (b.atR a (.code (.scope x) :: k)) cs w).fenced P (fenceOf C.ro) := fenced_calm hb hr rfl
      cases e with
      | normal => exact ⟨.normal, a₁, w₁, ⟨E1, H1, ρ1, hq, hs1⟩, .head h0 stepR_scope (StepsIn.trans harr (.one (fenced_calm hb hr rfl) stepR_inScope))⟩
      | exit id => exact ⟨.exit id, a₁, w₁, ⟨E1, H1, ρ1, hq, hs1⟩, fun k' hk => .head h0 stepR_scope (harr.1 k' (by simp [exitTo, hk])), fun hr' hk => let ⟨k₁, h1, h2⟩ := harr.2 hr' (by simp [exitTo, hk]); ⟨k₁, h1, .head h0 stepR_scope h2⟩⟩
      | goto l => exact absurd rfl (hg l)
      | ret => exact ⟨_, a₁, w₁, ⟨E1, H1, ρ1, hq, hs1⟩, .of_steps (.one h0 stepR_scope) harr⟩
      | panic ch => exact ⟨_, a₁, w₁, ⟨E1, H1, ρ1, hq, hs1⟩, .of_steps (.one h0 stepR_scope) harr⟩
      | outgrown => exact ⟨_, a₁, w₁, ⟨E1, H1, ρ1, hq, hs1⟩, .of_steps (.one h0 stepR_scope) harr⟩
    · simp at hc
  all_goals (split at hc <;> try (simp at hc; done))
  all_goals (split at hc <;> try (simp at hc; done))
  all_goals (split at hc <;> simp at hc)

end Go.AL
