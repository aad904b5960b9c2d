/- A range over a function, and a round of it. -/
import Derived.Test.YtgkpcjahopacjaaGreatDoorAL25
namespace Go.AL
set_option linter.unusedSimpArgs false
set_option linter.unusedVariables false
open Go

def ydV (L : Nat) : AV := .clo 69631 [.clo 131075 [.ptr L 0]]

theorem after_other {Γ : Glob} {w : World} {F : Nat → Prop} {ρ : Nat → RS} {H : Heap} (n0 : Nat) (h : HOK Γ w F ρ H) (ob : Obj) : After Γ F n0 ρ w ρ (w.alloc ob) H [] := by
  have hk := kept_alloc (fun b => ∃ i, ρ i = .here b) w ob
  have hr : ∀ a v, Rep w (Mu F ρ) ρ a v → Rep (w.alloc ob) (Mu F ρ) ρ a v := fun a v hr => hr.kept hk (fun _ hb => .inr hb) (fun _ _ x => x) h.lt (fun _ _ => .inl rfl)
  refine ⟨⟨h.inj, h.notF, fun b hF => Nat.lt_of_lt_of_le (h.fLt b hF) hk.size, h.unborn, h.alive, fun i b hi => ?_, fun g cs hg => (h.glob g cs hg).kept hk (fun _ hb => .inr hb) (fun _ _ x => x)⟩, hk, fun _ _ => .inl rfl, fun i b hi => .inl ⟨i, hi⟩, fun _ hi _ => hi⟩
  obtain ⟨cs, h1, h2⟩ := h.blk i b hi
  exact ⟨cs, h1, h2.mono (heap_alloc_old (h.lt i b hi)) (fun _ _ _ => hr _ _)⟩

theorem after_loop {Γ : Glob} {w : World} {F : Nat → Prop} {ρ : Nat → RS} {H : Heap} (n0 : Nat) (ho : HOK Γ w F ρ H) {id b : Nat} {cs cs' : List AV} {r r' : Loop} (hb : ρ id = .here b) (hH : H[id]? = some (some cs)) (hh : w.heap[b]? = some (.loop r))
    {k s p : Nat} {sn : List AV} (hcs : cs' = loopCs k s p sn) (hl : LoopIs Γ k s p r') (hsn : Rep w (Mu F ρ) ρ (.agg sn) (.agg ((Γ.lv k).map fun t => r'.tmps.getD t undef).toArray)) :
    After Γ F n0 ρ w ρ (w.putObj b (.loop r')) (H.set id (some cs')) [] :=
  after_blk n0 ho hb hH (kept_putObj hh rfl rfl) (fun hrr => .inr (.inr ⟨r', k, s, p, sn, World.putObj_heap_same (heap_some_lt hh), hcs, hl, hrr _ _ hsn⟩))

theorem stOf_busy {s : Nat} (h : s ≠ 1) : stOf s ≠ .busy := by
  match s, h with
  | 0, _ => simp [stOf]
  | 2, _ => simp [stOf]
  | n + 3, _ => simp [stOf]

section
variable {P : Program} {Γ : Glob} {n0 nt : Nat} {E : Env} {H : Heap} {Q : Post}

def loopH (Γ : Glob) (k : Nat) (E : Env) (H : Heap) : Heap := H ++ [some (loopCs k 0 0 ((Γ.lv k).map E))]

def rangeQ (Q : Post) (p : Nat) (E : Env) (H : Heap) : Prop := match p with
  | 0 => Q .normal E H
  | 1 => Q .ret E H
  | n + 2 => Q (.exit n) E H

theorem W_range {x : Opd} {k : Nat} {ps : List Nat} {ca cb : CC} {f : Nat} {caps : List AV} {v : AV} {e : Eff} {rd : List Nat} {c s p : Nat} {sn : List AV}
    (hlp : ∀ (ps' : Array Nat) (assign body : Code), ps'.toList = ps → compC P Γ nt assign = some ca → compC P Γ nt body = some cb → Γ.lp k nt ps' assign body)
    (hx : val E x = .clo f caps) (hok : okC (okFn P) f = true) (hny : cloF f ≠ 4095)
    (hcall : CallR P Γ (cloF f) (cloA f [ydV H.length] caps) (loopH Γ k E H).length (loopH Γ k E H ++ List.replicate c none) v e rd c)
    (hL : getB (applyE e (loopH Γ k E H ++ List.replicate c none)) H.length = some (loopCs k s p sn)) (hs1 : s ≠ 1)
    (hQ : rangeQ Q p E ((applyE e (loopH Γ k E H ++ List.replicate c none)).set H.length (some (loopCs k 3 p sn)))) : W P Γ n0 nt (.range x k ps ca cb) E H Q := by
  intro code hc C ρ a w h1 h2 hfl hs
  cases code <;> simp only [compC] at hc <;> try (simp at hc; done)
  case rangeFunc g ps' assign body =>
    split at hc
    · rename_i x' ca' cb' hg hca hcb
      simp at hc
      obtain ⟨rfl, hk, rfl, rfl, rfl⟩ := hc
      have hro : C.ro = none := by
        rcases hfl with h | h
        · exact h
        · simp [CC.flat] at h
      subst h2
      rw [hro]
      refine wpIn_rangeFunc (F := fenceOf none) ?_
      intro fn _
      let r0 : Loop := { state := .ready, pending := none, fn := fn, tmps := a.tmps, params := ps', assign := assign, body := body, defers := w.heap.size }
      let wD := w.alloc (.deferred (some []))
      let w1 := wD.alloc (.loop r0)
      have hsD : wD.heap.size = w.heap.size + 1 := by simp [wD]
      have A1 := after_other C.n0 hs.hok (.deferred (some []))
      have hp1 : HOK Γ wD C.F ρ (H ++ List.replicate 1 none) := A1.hok.pad 1
      have hfr : ρ H.length = .unborn := hs.hok.unborn _ (Nat.le_refl _)
      have hlist : (H ++ List.replicate 1 none).set H.length (some (loopCs k 0 0 ((Γ.lv k).map E))) = loopH Γ k E H := by
        simp [loopH]
      have A2 := after_obj C.n0 hp1 (fresh := H.length) (by simp) hfr (loopCs k 0 0 ((Γ.lv k).map E)) (.loop r0) (fun hr => by
        refine .inr (.inr ⟨r0, k, 0, 0, (Γ.lv k).map E, World.alloc_heap_new _ _, rfl, ⟨?_, rfl, rfl⟩, ?_⟩)
        · show Γ.lp k a.tmps.size ps' assign body
          rw [hs.size]
          exact hlp ps' assign body rfl hca hcb
        · refine .agg _ _ (by simp) (fun j y z hy hz => ?_)
          simp only [List.getElem?_map, Option.map_eq_some_iff] at hy
          obtain ⟨t, ht, rfl⟩ := hy
          simp only [List.getElem?_toArray, List.getElem?_map, ht, Option.map_some, Option.some.injEq] at hz
          subst hz
          exact hr _ _ ((hs.env t).after hs.hok A1))
      rw [hlist] at A2
      generalize hρ1 : updR ρ H.length (.here wD.heap.size) = ρ1 at A2
      have hρL : ρ1 H.length = .here wD.heap.size := by rw [← hρ1]; simp [updR]
      have hρi : ∀ i b, ρ1 i = .here b → b = wD.heap.size ∨ b < w.heap.size := by
        intro i b hi
        rw [← hρ1] at hi
        unfold updR at hi
        split at hi
        · simp at hi; exact .inl hi.symm
        · exact .inr (hs.hok.lt i b hi)
      have A12 := A1.trans A2
      have hshape : w1.shape? wD.heap.size = none := by
        simp [World.shape?, w1, World.alloc, -World.alloc_eq]
      have hyv : Rep w1 (Mu C.F ρ1) ρ1 (ydV H.length) (.func (.yield wD.heap.size) #[] #[]) := .ydF _ _ (.ydAt _ _ hρL hshape)
      have hxr := opd_rep hs.hok hs.env hg
      rw [hx] at hxr
      have hxr1 : Rep w1 (Mu C.F ρ1) ρ1 (.clo f caps) (a.eval g) := hxr.after hs.hok A12
      have hcar : ∀ vs : Array Value, vs.size = (cloA f [ydV H.length] caps).length → (∀ (j : Nat) (y : AV) (u : Value), (cloA f [ydV H.length] caps)[j]? = some y → vs[j]? = some u → Rep w1 (Mu C.F ρ1) ρ1 y u) →
          CallsIn (fenceOf none) (0 - 1) P (cloF f) vs w1 (rangePost (fenceOf none) 0 P wD.heap.size (fun x a' w' => ∃ E' H' ρ', Q x E' H' ∧ Sim Γ C ρ' E' H' a' w') { a with defers := markOf w.heap.size :: a.defers }) := by
        intro vs hsz hrep
        have hcf := call_frame (n0 := C.n0) (A2.hok.pad c) (k := (loopH Γ k E H).length) (c := c) (by simp) (fun j hj1 hj2 => A2.hok.unborn j hj1) hcall hsz hrep
        rcases hcf with ⟨_, hcf⟩ | ⟨h, _⟩
        rotate_left
        · exact absurd h hny
        refine ((callsIn_wide (n := 0 - 1)).2 hcf).mono ?_
        rintro en w3 ⟨u, ρ', rfl, A3, hru⟩
        generalize hH2 : applyE e (loopH Γ k E H ++ List.replicate c none) = H2 at A3 hL hQ
        obtain ⟨b, hb, hblk⟩ := A3.hok.at' hL
        have hbL : b = wD.heap.size := by
          rcases A3.ext H.length (by rw [hρL]; simp) with h | ⟨_, h⟩
          · rw [h, hρL] at hb; simp at hb; exact hb.symm
          · rw [h] at hb; simp at hb
        subst hbL
        have hsh3 : w3.shape? wD.heap.size = none := by
          rw [A3.kept.shape _ (by simp [w1])]; exact hshape
        obtain ⟨r, hr1, ⟨hr2, hr3, hr4⟩, hr5⟩ := hblk.loop hsh3
        have hbusy : r.state ≠ .busy := by rw [hr3]; exact stOf_busy hs1
        have A4 := after_loop (r' := { r with state := .exhausted }) C.n0 A3.hok hb (getB_some hL) hr1 (k := k) (s := 3) (p := p) (sn := sn) rfl ⟨hr2, rfl, hr4⟩ hr5
        refine ⟨r.pending, _, run_endLoop hr1 hbusy, ?_⟩
        have A := (A12.trans A3).trans A4
        have hlenL : (loopH Γ k E H).length = H.length + 1 := by simp [loopH]
        have hlen2 : H2.length = H.length + 1 + c := by rw [← hH2, applyE_len]; simp [hlenL]
        have hsim0 : Sim Γ C ρ' E (H2.set H.length (some (loopCs k 3 p sn))) a (w3.putObj wD.heap.size (.loop { r with state := .exhausted })) := by
          have := hs.step (d := none) (v := .junk) (v' := undef) A (by
            intro i hi
            have hln := hs.len
            simp only [List.nil_append, List.append_nil, List.mem_append, List.mem_singleton, newIds, List.mem_range'_1] at hi
            omega) (by have := hs.len; simp; omega) (.imm _ _ (.junk _)) rfl
          exact this
        have hDlt : w.heap.size < w1.heap.size := by simp [w1, hsD]; omega
        have hnoD : ∀ i, ρ1 i ≠ .here w.heap.size := by
          intro i hi
          rcases hρi i _ hi with h | h
          · omega
          · omega
        have hD1 : w1.heap[w.heap.size]? = some (.deferred (some [])) := by
          show (wD.alloc (.loop r0)).heap[w.heap.size]? = _
          rw [heap_alloc_old (by omega)]
          exact World.alloc_heap_new _ _
        have hD3 : w3.heap[w.heap.size]? = some (.deferred (some [])) := by
          rw [A3.kept.same _ hDlt (fun ⟨i, hi⟩ => hnoD i hi)]; exact hD1
        have hsim : Sim Γ C ρ' E (H2.set H.length (some (loopCs k 3 p sn))) { a with defers := markOf w.heap.size :: a.defers } (w3.putObj wD.heap.size (.loop { r with state := .exhausted })) := by
          refine ⟨hsim0.hok, hsim0.env, ?_, hsim0.size, hsim0.kept, hsim0.ext, hsim0.old, hsim0.len⟩
          obtain ⟨ms, q1, q2, q3⟩ := hsim0.defers
          obtain ⟨ms', q1', _, q3'⟩ := hs.defers
          have hinj : ∀ x y, markOf x = markOf y → x = y := by intro x y h; simpa [markOf] using h
          have hms : ms = ms' := (List.map_inj_right hinj).1 (q1.symm.trans q1')
          refine ⟨w.heap.size :: ms, by simp [q1], List.nodup_cons.2 ⟨fun hm => ?_, q2⟩, fun D hD => ?_⟩
          · rw [hms] at hm
            have := heap_some_lt (q3' _ hm).2.1
            omega
          · simp only [List.mem_cons] at hD
            rcases hD with rfl | hD
            · refine ⟨hs.kept.size, ?_, fun i hi => ?_⟩
              · rw [World.putObj_heap_other (by omega)]; exact hD3
              · rcases A3.old i _ hi with ⟨j, hj⟩ | h
                · exact hnoD j hj
                · have h : w1.heap.size ≤ w.heap.size := h
                  omega
            · exact q3 D hD
        rw [hr4] at hsim ⊢
        match p, hQ, hsim with
        | 0, hQ, hsim => exact ⟨E, _, ρ', hQ, hsim⟩
        | 1, hQ, hsim => exact wpIn_ret ⟨E, _, ρ', hQ, hsim⟩
        | n + 2, hQ, hsim => exact wpIn_exit ⟨E, _, ρ', hQ, hsim⟩
      have hrunE : (Instr.enterLoop fn a.tmps ps' assign body (fenceOf none).round).run P w = .ok (wD.heap.size, [markOf w.heap.size]) w1 := by
        rw [hsD]; exact run_enterLoop_outer fn a.tmps ps' assign body
      simp only [okC, Bool.and_eq_true, Bool.not_eq_true'] at hok
      obtain ⟨⟨hok1, hok2⟩, hok3⟩ := hok
      rw [blt_true] at hok2
      have hok0 : okFn0 P (cloF f) = true := by
        unfold okFn at hok1
        simp only [Bool.or_eq_true] at hok1
        rcases hok1 with h | h
        · exact absurd (Nat.eq_of_beq_eq_true h) hny
        · exact h
      rcases Nat.lt_or_ge f 65536 with hf | hf
      · have hb1 : Nat.blt f 65536 = true := blt_true.2 hf
        obtain ⟨us, e1, hl1, hr1⟩ := rep_clo hxr1 hf
        have hcF : cloF f = f := by simp only [cloF, hb1]
        have hcA : cloA f [ydV H.length] caps = [ydV H.length] ++ caps := by simp only [cloA, hb1]
        rw [hcF] at hok0
        refine ⟨_, _, w1, { target := .fn (.func f) us, args := #[.func (.yield wD.heap.size) #[] #[]] }, w1, f, #[.func (.yield wD.heap.size) #[] #[]] ++ us, w1, hrunE, ?_, fun _ _ => trivial, ?_, fun h => by simp [fenceOf, Fence.wide] at h, ?_⟩
        rotate_left 2
        · rw [hcF, hcA] at hcar
          refine hcar _ (by simp [hl1]; omega) (fun j y u hy hu => ?_)
          cases j with
          | zero =>
            rw [Array.getElem?_append_left (by simp)] at hu
            simp only [List.cons_append, List.getElem?_cons_zero, Option.some.injEq, List.getElem?_toArray] at hy hu
            subst hy hu
            exact hyv
          | succ j =>
            rw [Array.getElem?_append_right (by simp)] at hu
            exact hr1 j y u (by simpa using hy) (by simpa using hu)
        · have ec : a.eval (Operand.const (Value.func (Fn.yield wD.heap.size) #[] #[])) = Value.func (Fn.yield wD.heap.size) #[] #[] := rfl
          simp [resolve, e1, Deferred.ofValue, ec]
        · simp [invoke, run_call hok0]
      · have hb1 : Nat.blt f 65536 = false := blt_false hf
        have hcF : cloF f = f - 65536 := by simp only [cloF, hb1]
        have hcA : cloA f [ydV H.length] caps = caps ++ [ydV H.length] := by simp only [cloA, hb1]
        have hyd : f ≠ 69631 := by intro h; rw [hcF] at hny; omega
        obtain ⟨us, e1, hl1, hr1⟩ := rep_bnd hxr1 hf hok2 hyd
        rw [hcF] at hok0
        refine ⟨_, _, w1, { target := .fn (.func (f - 65536)) #[], args := us ++ #[.func (.yield wD.heap.size) #[] #[]] }, w1, f - 65536, us ++ #[.func (.yield wD.heap.size) #[] #[]], w1, hrunE, ?_, fun _ _ => trivial, ?_, fun h => by simp [fenceOf, Fence.wide] at h, ?_⟩
        rotate_left 2
        · rw [hcF, hcA] at hcar
          refine hcar _ (by simp [hl1]) (fun j y u hy hu => ?_)
          rcases Nat.lt_or_ge j caps.length with hj | hj
          · rw [List.getElem?_append_left hj] at hy
            rw [Array.getElem?_append_left (by omega)] at hu
            exact hr1 j y u hy hu
          · rw [List.getElem?_append_right hj] at hy
            rw [Array.getElem?_append_right (by omega), hl1] at hu
            cases hjj : j - caps.length with
            | zero => rw [hjj] at hy hu; simp at hy hu; subst hy hu; exact hyv
            | succ m => rw [hjj] at hy; simp at hy
        · have ec : a.eval (Operand.const (Value.func (Fn.yield wD.heap.size) #[] #[])) = Value.func (Fn.yield wD.heap.size) #[] #[] := rfl
          simp [resolve, e1, Deferred.ofValue, ec]
        · simp [invoke, run_call hok0]
    · simp at hc
  all_goals (split at hc <;> try (simp at hc; done))
  all_goals (split at hc <;> try (simp at hc; done))
  all_goals (split at hc <;> simp at hc)

end
end Go.AL
