/- Entries of the evaluator by a table of results that are proved one by one. -/
import Derived.Test.YtgkpcjahopacjaaGreatDoorALY
import Derived.KernelRfl
import Derived.Test.YtgkpcjahopacjaaGreatDoorAL24
import Derived.Test.YtgkpcjahopacjaaGreatDoorAL20
import Derived.ChangeSame
namespace Go.AL
set_option linter.unusedSimpArgs false
set_option linter.unusedVariables false
open Go

def memoF : List (List AV × AV) → List AV → Option AV
  | [], _ => none
  | (a, v) :: r, args => match eqL2 (eqA2 8) a args with
    | true => some v
    | false => memoF r args
def memoK (l : List (List AV × AV)) (args : List AV) (H : Heap) : O := match H with
  | [] => match memoF l args with
    | some v => some (v, [])
    | none => none
  | _ :: _ => none

section
variable {P : Program} {Γ : Glob} {ok : FuncId → Bool} {f : FuncId}

def MemoOK (P : Program) (Γ : Glob) (f : FuncId) : List (List AV × AV) → Prop
  | [] => True
  | m :: r => Ret P Γ f m.1 [] m.2 [] ∧ MemoOK P Γ f r

theorem memoF_ok : ∀ (l : List (List AV × AV)) (args : List AV) (v : AV), MemoOK P Γ f l → memoF l args = some v → Ret P Γ f args [] v [] := by
  intro l
  induction l with
  | nil => intro args v _ h; simp [memoF] at h
  | cons m r ih =>
    obtain ⟨a, v0⟩ := m
    intro args v hm h
    simp only [memoF] at h
    split at h
    · rename_i he
      simp only [Option.some.injEq] at h
      subst h
      have := eqL2_eq (eqA2_eq 8) a args he
      subst this
      exact hm.1
    · exact ih args v hm.2 h

theorem memo_ok {l : List (List AV × AV)} (hl : MemoOK P Γ f l) : EOT P Γ ok f (.known (memoK l)) := by
  intro args H v H' h
  unfold memoK at h
  split at h
  · split at h
    · rename_i v0 hv
      simp only [Option.some.injEq, Prod.mk.injEq] at h
      obtain ⟨rfl, rfl⟩ := h
      exact memoF_ok l args _ hl hv
    · simp at h
  · simp at h

theorem MemoOK.append : ∀ (l r : List (List AV × AV)), MemoOK P Γ f l → MemoOK P Γ f r → MemoOK P Γ f (l ++ r) := by
  intro l
  induction l with
  | nil => intro r _ h; exact h
  | cons m l ih => intro r h h'; exact ⟨h.1, ih r h.2 h'⟩

end
end Go.AL

/- Entries of the evaluator: a quick form that is tried first, and the code behind it. -/
namespace Go.AL
set_option linter.unusedSimpArgs false
set_option linter.unusedVariables false
open Go
section
variable {P : Program} {Γ : Glob} {ok : FuncId → Bool}

theorem ent_sound {e : Ent} {f : FuncId} {cl : FR} (hsz : P.funcs[4095]? = none) (hok : ∀ f, ok f = true → okFn P f = true) (hm : P.follows .mixedOrders = true) (hE : EOT P Γ ok f e) (ih : RetOK P Γ (frun cl))
    {args : List AV} {H : Heap} {v : AV} {H' : Heap} (h : entK e cl args H = some (v, H')) : Ret P Γ f args H v H' := by
  cases e with
  | no => exact absurd (show (none : O) = some (v, H') from h) (by simp)
  | known g => exact hE _ _ _ _ h
  | own g => exact hE _ ih _ _ _ _ h
  | code t nt rs keep =>
    obtain ⟨fn, c, rs0, md, hfn, hc, hnt, hrs, rfl, rfl⟩ := hE
    obtain ⟨hle, h⟩ := ifK_inv (show ifK (Nat.ble args.length nt) (lenK H fun n0 => argE setsA args junkE fun E => tr ok md c cl n0 (finK n0 keep (rs0.map trR)) (fun x E H => endX x (finK n0 keep (rs0.map trR) E H)) E H) = some (v, H') from h)
    rw [Nat.ble_eq] at hle
    rw [lenK_eq] at h
    obtain ⟨_, E, hE1, h⟩ := argE_inv args 0 junkE (by omega) (by simpa using h)
    have hEe : E.env = argsE args := by
      funext t
      rw [hE1]
      simp only [Nat.zero_add, Nat.zero_le, true_and, Nat.sub_zero, argsE]
      split
      · rfl
      · rename_i hh
        rw [junkE_env]
        simp only [List.getD_eq_getElem?_getD, List.getElem?_eq_none (Nat.le_of_not_lt hh), Option.getD_none]
    obtain ⟨x, E', H1, h1, h2⟩ := tr_sound (Γ := Γ) hok hm md c _ _ _ _ _ _ _ ih h
    have hend : (x = .ret ∨ x = .normal) ∧ finK H.length keep (rs0.map trR) E' H1 = some (v, H') := by
      cases x with
      | normal => exact ⟨.inr rfl, h1⟩
      | ret => exact ⟨.inl rfl, h1⟩
      | _ => exact absurd (show (none : O) = some (v, H') from h1) (by simp)
    have hfx := finK_inv hend.2
    cases hr : resB rs0 E'.env H1 with
    | none => rw [hr] at hfx; simp [FinP] at hfx
    | some v1 =>
      rw [hr] at hfx
      obtain ⟨hfin, hlen⟩ := finP_sound hfx
      cases hb : fn.body with
      | none => rw [hb] at hc; simp at hc
      | some code =>
        rw [hb] at hc
        refine Ret_intro hfn hb hc (by rw [hnt]; exact hle) hlen (fun e => by rw [e, hsz] at hfn; simp at hfn) ?_
        rw [← hEe]
        refine h2 _ _ ⟨hend.1, v1, ?_, hfin⟩
        unfold resA
        rw [resB_eq _ _ hrs]
        exact hr

noncomputable def orO (x y : O) : O := Option.rec (motive := fun _ => O) y (fun r => some r) x
noncomputable def orE (g : List AV → Heap → O) (e : Ent) : Ent := .own (fun c args H => orO (g args H) (entK e c args H))

theorem orE_ok {f : FuncId} {g : List AV → Heap → O} {e : Ent} (hsz : P.funcs[4095]? = none) (hok : ∀ f, ok f = true → okFn P f = true) (hm : P.follows .mixedOrders = true) (hg : EOT P Γ ok f (.known g)) (hE : EOT P Γ ok f e) : EOT P Γ ok f (orE g e) := by
  intro c hc args H v H' h
  have h : orO (g args H) (entK e c args H) = some (v, H') := h
  cases hx : g args H with
  | some r => rw [hx] at h; exact hg _ _ _ _ (hx.trans h)
  | none => rw [hx] at h; exact ent_sound hsz hok hm hE hc h
end
theorem eotA {P : Program} {Γ : Glob} {ok : FuncId → Bool} {f : FuncId} {fn : Func} {t : RunT} {nt : Nat} {rs : List RG} {keep : Bool} (m : Bool) (hf : P.funcs[f]? = some fn) (h1 : (fn.body.bind (compC P Γ fn.ntmps)).isSome = true := by kernel_rfl) (h2 : fn.ntmps = nt := by kernel_rfl)
    (h3 : t = tr ok m ((fn.body.bind (compC P Γ fn.ntmps)).getD .skip) := by kernel_rfl) (h4 : (fn.results.toList.mapM (cRes P)).isSome = true := by kernel_rfl) (h5 : rs = ((fn.results.toList.mapM (cRes P)).getD []).map trR := by kernel_rfl) : EOT P Γ ok f (.code t nt rs keep) :=
  eot m hf h1 h2 h3 h4 h5

noncomputable def okRes (r : O) (v : AV) : Bool := match r with
  | some (u, []) => eqA2 8 u v
  | _ => false
noncomputable def chk (T : Tab) (f : Nat) (l : List (List AV × AV)) : Bool :=
  List.rec (motive := fun _ => Bool) true (fun x _ ih => Bool.rec (motive := fun _ => Bool) false ih (okRes (frun (exT T 1000) f x.1 []) x.2)) l
theorem chk_ok {P : Program} {Γ : Glob} {T : Tab} {f : Nat} (h : ∀ args v, frun (exT T 1000) f args [] = some (v, []) → Ret P Γ f args [] v []) : ∀ l, chk T f l = true → MemoOK P Γ f l := by
  intro l
  induction l with
  | nil => intro _; trivial
  | cons x r ih =>
    intro hc
    have hc : (Bool.rec (motive := fun _ => Bool) false (chk T f r) (okRes (frun (exT T 1000) f x.1 []) x.2) : Bool) = true := hc
    cases hx : okRes (frun (exT T 1000) f x.1 []) x.2 with
    | false => rw [hx] at hc; exact absurd hc (by simp)
    | true =>
      rw [hx] at hc
      refine ⟨?_, ih hc⟩
      unfold okRes at hx
      split at hx
      · rename_i u hu
        rw [← eqA2_eq 8 _ _ hx]
        exact h _ _ hu
      · simp at hx

noncomputable section
def K0 : GT := gk (.int .i64 (.ofNat (nat_lit 0)))
def K1 : GT := gk (.int .i64 (.ofNat (nat_lit 1)))
def K2 : GT := gk (.int .i64 (.ofNat (nat_lit 2)))
def K3 : GT := gk (.int .i64 (.ofNat (nat_lit 3)))
def D0 : ST := s0 u0
def Y0 : GT := g0 h0
def D1 : ST := s0 u1
def Y1 : GT := g0 h1
def D2 : ST := s0 u2
def Y2 : GT := g0 h2
def D3 : ST := s0 u3
def Y3 : GT := g0 h3
def D4 : ST := s0 u4
def Y4 : GT := g0 h4
def D5 : ST := s0 u5
def Y5 : GT := g0 h5
def D6 : ST := s0 u6
def Y6 : GT := g0 h6
def D7 : ST := s0 u7
def Y7 : GT := g0 h7
def D8 : ST := s0 u8
def Y8 : GT := g0 h8
def D9 : ST := s0 u9
def Y9 : GT := g0 h9
def D10 : ST := s0 u10
def Y10 : GT := g0 h10
def D11 : ST := s0 u11
def Y11 : GT := g0 h11
def D12 : ST := s0 u12
def Y12 : GT := g0 h12
def D13 : ST := s0 u13
def Y13 : GT := g0 h13
def D14 : ST := s0 u14
def Y14 : GT := g0 h14
def D15 : ST := s0 u15
def Y15 : GT := g0 h15
def D16 : ST := s1 u0
def Y16 : GT := g1 h0
def D17 : ST := s1 u1
def Y17 : GT := g1 h1
def D18 : ST := s1 u2
def Y18 : GT := g1 h2
def D19 : ST := s1 u3
def Y19 : GT := g1 h3
def D20 : ST := s1 u4
def Y20 : GT := g1 h4
def D21 : ST := s1 u5
def Y21 : GT := g1 h5
def D22 : ST := s1 u6
def Y22 : GT := g1 h6
def D23 : ST := s1 u7
def Y23 : GT := g1 h7
def D24 : ST := s1 u8
def Y24 : GT := g1 h8
def D25 : ST := s1 u9
def Y25 : GT := g1 h9
def D26 : ST := s1 u10
def Y26 : GT := g1 h10
def D27 : ST := s1 u11
def Y27 : GT := g1 h11
def D28 : ST := s1 u12
def Y28 : GT := g1 h12
def D29 : ST := s1 u13
def Y29 : GT := g1 h13
def D30 : ST := s1 u14
def Y30 : GT := g1 h14
def D31 : ST := s1 u15
def Y31 : GT := g1 h15
def D32 : ST := s2 u0
def Y32 : GT := g2 h0
def D33 : ST := s2 u1
def Y33 : GT := g2 h1
def D34 : ST := s2 u2
def Y34 : GT := g2 h2
def D35 : ST := s2 u3
def Y35 : GT := g2 h3
def D36 : ST := s2 u4
def Y36 : GT := g2 h4
def D37 : ST := s2 u5
def Y37 : GT := g2 h5
def D38 : ST := s2 u6
def Y38 : GT := g2 h6
def D39 : ST := s2 u7
def Y39 : GT := g2 h7
def D40 : ST := s2 u8
def Y40 : GT := g2 h8
def D41 : ST := s2 u9
def Y41 : GT := g2 h9
def D42 : ST := s2 u10
def Y42 : GT := g2 h10
def D43 : ST := s2 u11
def Y43 : GT := g2 h11
def D44 : ST := s2 u12
def Y44 : GT := g2 h12
def D45 : ST := s2 u13
def Y45 : GT := g2 h13
def D46 : ST := s2 u14
def Y46 : GT := g2 h14
def D47 : ST := s2 u15
def Y47 : GT := g2 h15
def D48 : ST := s3 u0
def Y48 : GT := g3 h0
def D49 : ST := s3 u1
def Y49 : GT := g3 h1
def D50 : ST := s3 u2
def Y50 : GT := g3 h2
def D51 : ST := s3 u3
def Y51 : GT := g3 h3
def D52 : ST := s3 u4
def Y52 : GT := g3 h4
def D53 : ST := s3 u5
def Y53 : GT := g3 h5
def D54 : ST := s3 u6
def Y54 : GT := g3 h6
def D55 : ST := s3 u7
def Y55 : GT := g3 h7
def D56 : ST := s3 u8
def Y56 : GT := g3 h8
def D57 : ST := s3 u9
def Y57 : GT := g3 h9
def D58 : ST := s3 u10
def Y58 : GT := g3 h10
def D59 : ST := s3 u11
def Y59 : GT := g3 h11
def D60 : ST := s3 u12
def Y60 : GT := g3 h12
def D61 : ST := s3 u13
def Y61 : GT := g3 h13
def D62 : ST := s3 u14
def Y62 : GT := g3 h14
def D63 : ST := s3 u15
def Y63 : GT := g3 h15
def D64 : ST := s4 u0
def Y64 : GT := g4 h0
def D65 : ST := s4 u1
def Y65 : GT := g4 h1
def D66 : ST := s4 u2
def Y66 : GT := g4 h2
def D67 : ST := s4 u3
def Y67 : GT := g4 h3
def D68 : ST := s4 u4
def Y68 : GT := g4 h4
def D69 : ST := s4 u5
def Y69 : GT := g4 h5
def D70 : ST := s4 u6
def Y70 : GT := g4 h6
def D71 : ST := s4 u7
def Y71 : GT := g4 h7
def D72 : ST := s4 u8
def Y72 : GT := g4 h8
def D73 : ST := s4 u9
def Y73 : GT := g4 h9
def D74 : ST := s4 u10
def Y74 : GT := g4 h10
def D75 : ST := s4 u11
def Y75 : GT := g4 h11
def D76 : ST := s4 u12
def Y76 : GT := g4 h12
def D77 : ST := s4 u13
def Y77 : GT := g4 h13
def D78 : ST := s4 u14
def Y78 : GT := g4 h14
def D79 : ST := s4 u15
def Y79 : GT := g4 h15
def D80 : ST := s5 u0
def Y80 : GT := g5 h0
def D81 : ST := s5 u1
def Y81 : GT := g5 h1
def D82 : ST := s5 u2
def Y82 : GT := g5 h2
def D83 : ST := s5 u3
def Y83 : GT := g5 h3
def D84 : ST := s5 u4
def Y84 : GT := g5 h4
def D85 : ST := s5 u5
def Y85 : GT := g5 h5
def D86 : ST := s5 u6
def Y86 : GT := g5 h6
def D87 : ST := s5 u7
def Y87 : GT := g5 h7
def D88 : ST := s5 u8
def Y88 : GT := g5 h8
def D89 : ST := s5 u9
def Y89 : GT := g5 h9
def D90 : ST := s5 u10
def Y90 : GT := g5 h10
def D91 : ST := s5 u11
def Y91 : GT := g5 h11
def D92 : ST := s5 u12
def Y92 : GT := g5 h12
def D93 : ST := s5 u13
def Y93 : GT := g5 h13
def D94 : ST := s5 u14
def Y94 : GT := g5 h14
def D95 : ST := s5 u15
def Y95 : GT := g5 h15
def D96 : ST := s6 u0
def Y96 : GT := g6 h0
def D97 : ST := s6 u1
def Y97 : GT := g6 h1
def D98 : ST := s6 u2
def Y98 : GT := g6 h2
def D99 : ST := s6 u3
def Y99 : GT := g6 h3
def D100 : ST := s6 u4
def Y100 : GT := g6 h4
def D101 : ST := s6 u5
def Y101 : GT := g6 h5
def D102 : ST := s6 u6
def Y102 : GT := g6 h6
def D103 : ST := s6 u7
def Y103 : GT := g6 h7
def D104 : ST := s6 u8
def Y104 : GT := g6 h8
def D105 : ST := s6 u9
def Y105 : GT := g6 h9
def D106 : ST := s6 u10
def Y106 : GT := g6 h10
def D107 : ST := s6 u11
def Y107 : GT := g6 h11
def D108 : ST := s6 u12
def Y108 : GT := g6 h12
def D109 : ST := s6 u13
def Y109 : GT := g6 h13
def D110 : ST := s6 u14
def Y110 : GT := g6 h14
def D111 : ST := s6 u15
def Y111 : GT := g6 h15
def D112 : ST := s7 u0
def Y112 : GT := g7 h0
def D113 : ST := s7 u1
def Y113 : GT := g7 h1
def D114 : ST := s7 u2
def Y114 : GT := g7 h2
def D115 : ST := s7 u3
def Y115 : GT := g7 h3
def D116 : ST := s7 u4
def Y116 : GT := g7 h4
def D117 : ST := s7 u5
def Y117 : GT := g7 h5
def D118 : ST := s7 u6
def Y118 : GT := g7 h6
def D119 : ST := s7 u7
def Y119 : GT := g7 h7
def D120 : ST := s7 u8
def Y120 : GT := g7 h8
def D121 : ST := s7 u9
def Y121 : GT := g7 h9
def D122 : ST := s7 u10
def Y122 : GT := g7 h10
def D123 : ST := s7 u11
def Y123 : GT := g7 h11
def D124 : ST := s7 u12
def Y124 : GT := g7 h12
def D125 : ST := s7 u13
def Y125 : GT := g7 h13
def D126 : ST := s7 u14
def Y126 : GT := g7 h14
def D127 : ST := s7 u15
def Y127 : GT := g7 h15
def D128 : ST := s8 u0
def Y128 : GT := g8 h0
def D129 : ST := s8 u1
def Y129 : GT := g8 h1
def D130 : ST := s8 u2
def Y130 : GT := g8 h2
def D131 : ST := s8 u3
def Y131 : GT := g8 h3
def D132 : ST := s8 u4
def Y132 : GT := g8 h4
def D133 : ST := s8 u5
def Y133 : GT := g8 h5
def D134 : ST := s8 u6
def Y134 : GT := g8 h6
def D135 : ST := s8 u7
def Y135 : GT := g8 h7
def D136 : ST := s8 u8
def Y136 : GT := g8 h8
def D137 : ST := s8 u9
def Y137 : GT := g8 h9
def D138 : ST := s8 u10
def Y138 : GT := g8 h10
def D139 : ST := s8 u11
def Y139 : GT := g8 h11
def D140 : ST := s8 u12
def Y140 : GT := g8 h12
def D141 : ST := s8 u13
def Y141 : GT := g8 h13
def D142 : ST := s8 u14
def Y142 : GT := g8 h14
def D143 : ST := s8 u15
def Y143 : GT := g8 h15
def D144 : ST := s9 u0
def Y144 : GT := g9 h0
def D145 : ST := s9 u1
def Y145 : GT := g9 h1
def D146 : ST := s9 u2
def Y146 : GT := g9 h2
def D147 : ST := s9 u3
def Y147 : GT := g9 h3
def D148 : ST := s9 u4
def Y148 : GT := g9 h4
def D149 : ST := s9 u5
def Y149 : GT := g9 h5
def D150 : ST := s9 u6
def Y150 : GT := g9 h6
def D151 : ST := s9 u7
def Y151 : GT := g9 h7
def D152 : ST := s9 u8
def Y152 : GT := g9 h8
def D153 : ST := s9 u9
def Y153 : GT := g9 h9
def D154 : ST := s9 u10
def Y154 : GT := g9 h10
def D155 : ST := s9 u11
def Y155 : GT := g9 h11
def D156 : ST := s9 u12
def Y156 : GT := g9 h12
def D157 : ST := s9 u13
def Y157 : GT := g9 h13
def D158 : ST := s9 u14
def Y158 : GT := g9 h14
def D159 : ST := s9 u15
def Y159 : GT := g9 h15
def D160 : ST := s10 u0
def Y160 : GT := g10 h0
def D161 : ST := s10 u1
def Y161 : GT := g10 h1
def D162 : ST := s10 u2
def Y162 : GT := g10 h2
def D163 : ST := s10 u3
def Y163 : GT := g10 h3
def D164 : ST := s10 u4
def Y164 : GT := g10 h4
def D165 : ST := s10 u5
def Y165 : GT := g10 h5
def D166 : ST := s10 u6
def Y166 : GT := g10 h6
def D167 : ST := s10 u7
def Y167 : GT := g10 h7
def D168 : ST := s10 u8
def Y168 : GT := g10 h8
def D169 : ST := s10 u9
def Y169 : GT := g10 h9
def D170 : ST := s10 u10
def Y170 : GT := g10 h10
def D171 : ST := s10 u11
def Y171 : GT := g10 h11
def D172 : ST := s10 u12
def Y172 : GT := g10 h12
def D173 : ST := s10 u13
def Y173 : GT := g10 h13
def D174 : ST := s10 u14
def Y174 : GT := g10 h14
def D175 : ST := s10 u15
def Y175 : GT := g10 h15
def D176 : ST := s11 u0
def Y176 : GT := g11 h0
def D177 : ST := s11 u1
def Y177 : GT := g11 h1
def D178 : ST := s11 u2
def Y178 : GT := g11 h2
def D179 : ST := s11 u3
def Y179 : GT := g11 h3
def D180 : ST := s11 u4
def Y180 : GT := g11 h4
def D181 : ST := s11 u5
def Y181 : GT := g11 h5
def D182 : ST := s11 u6
def D183 : ST := s11 u7
def Y183 : GT := g11 h7
def D184 : ST := s11 u8
def Y184 : GT := g11 h8
def D185 : ST := s11 u9
def Y185 : GT := g11 h9
def D186 : ST := s11 u10
def Y186 : GT := g11 h10
def D187 : ST := s11 u11
def Y187 : GT := g11 h11
end
end Go.AL

/- A function whose first two regions are walked by hand and whose rest is run by the evaluator. -/
namespace Go.AL
set_option linter.unusedSimpArgs false
set_option linter.unusedVariables false
open Go

theorem weak_junk {Γ : Glob} {n0 : Nat} {E E' : Env} {H : Heap} (h : ∀ t, E' t = E t ∨ E' t = .junk) : Weak Γ n0 E H E' H := by
  intro C ρ a w _ hs
  refine ⟨ρ, ⟨hs.hok, fun t => ?_, hs.defers, hs.size, hs.kept, hs.ext, hs.old, hs.len⟩⟩
  rcases h t with e | e
  · rw [e]; exact hs.env t
  · rw [e]; exact .imm _ _ (.junk _)

def tail2 : CC → CC
  | .seq _ (.seq _ c) => c
  | _ => .skip

theorem split_ret {P : Program} {Γ : Glob} {ok : FuncId → Bool} {cl : FR} {f : FuncId} {fn : Func} {os0 os1 : List COp} {rest : CC} {t : RunT} {nt : Nat} {rs : List RG} {rs0 : List RV} {m : Bool}
    (hm : P.follows .mixedOrders = true) (hok : ∀ f, ok f = true → okFn P f = true) (hcl : RetOK P Γ (frun cl)) (hne : f ≠ 4095) (hf : P.funcs[f]? = some fn)
    (hc : fn.body.bind (compC P Γ fn.ntmps) = some (.seq (.reg os0 none) (.seq (.reg os1 none) rest))) (hnt : fn.ntmps = nt) (hrs : fn.results.toList.mapM (cRes P) = some rs0) (hr : rs = rs0.map trR) (ht : t = tr ok m rest)
    {args : List AV} (hn : args.length ≤ nt) {E1 : Env} {E0 : E16} {v : AV}
    (h01 : regA P Γ 0 os0 (argsE args) [] (fun _ E' H' => regA P Γ 0 os1 E' H' (fun _ E'' H'' => E'' = E1 ∧ H'' = [])))
    (hw : ∀ t, E0.env t = E1 t ∨ E0.env t = .junk)
    (hrun : t cl 0 (finK 0 false rs) (fun x E H => endX x (finK 0 false rs E H)) E0 [] = some (v, [])) : Ret P Γ f args [] v [] := by
  subst ht hr
  obtain ⟨x, E', H1, h1, h2⟩ := tr_sound (Γ := Γ) hok hm m rest _ _ _ _ _ _ _ hcl hrun
  have hend : (x = .ret ∨ x = .normal) ∧ finK 0 false (rs0.map trR) E' H1 = some (v, []) := by
    cases x with
    | normal => exact ⟨.inr rfl, h1⟩
    | ret => exact ⟨.inl rfl, h1⟩
    | _ => exact absurd (show (none : O) = some (v, []) from h1) (by simp)
  have hfx := finK_inv hend.2
  cases hrb : resB rs0 E'.env H1 with
  | none => rw [hrb] at hfx; simp [FinP] at hfx
  | some v1 =>
    rw [hrb] at hfx
    obtain ⟨hfin, hlen⟩ := finP_sound hfx
    cases hb : fn.body with
    | none => rw [hb] at hc; simp at hc
    | some code =>
      rw [hb] at hc
      refine Ret_intro hf hb hc (by rw [hnt]; exact hn) (by simp) hne ?_
      obtain ⟨its, Ea, Ha, r1, q⟩ := regA_run _ _ _ _ h01
      obtain ⟨its2, Eb, Hb, r2, q2⟩ := regA_run _ _ _ _ q
      obtain ⟨rfl, rfl⟩ := q2
      refine W_seq (W_reg hm r1 (by intro l e; simp at e) ?_)
      refine W_seq (W_reg hm r2 (by intro l e; simp at e) ?_)
      refine W.weak (weak_junk hw) (h2 _ _ ⟨hend.1, v1, ?_, hfin⟩)
      unfold resA
      rw [resB_eq _ _ hrs]
      exact hrb

end Go.AL

/- Rules for symbolic runs: loops of few rounds, calls that are handed one block. -/
namespace Go.AL
set_option linter.unusedSimpArgs false
set_option linter.unusedVariables false
open Go

section
variable {P : Program} {Γ : Glob} {n0 nt : Nat} {E : Env} {H : Heap} {c : CC} {Q : Post}

def Un (P : Program) (Γ : Glob) (n0 nt : Nat) (c : CC) (Q : Post) : Nat → Env → Heap → Prop
  | 0, _, _ => False
  | n + 1, E, H => wpC P Γ n0 nt c E H (andThen (fun E' H' => Un P Γ n0 nt c Q n E' H') Q)

theorem W_un (hm : P.follows .mixedOrders = true) (n : Nat) (h : Un P Γ n0 nt c Q n E H) : W P Γ n0 nt (.loop c) E H Q := by
  refine W_loop (fun n E H => Un P Γ n0 nt c Q n E H) h ?_
  intro n E H hI
  cases n with
  | zero => exact hI.elim
  | succ n =>
    refine wpC_mono c E H _ _ hm hI ?_
    intro x E' H' hx
    cases x with
    | normal => exact ⟨n, E', H', Nat.lt_succ_self n, hx, Weak.refl⟩
    | _ => exact hx

theorem Un_in {n : Nat} (h : wpC P Γ n0 nt c E H (andThen (fun E' H' => Un P Γ n0 nt c Q n E' H') Q)) : Un P Γ n0 nt c Q (n + 1) E H := h

theorem callA_one {f : FuncId} {off n sz id : Nat} {k : Option Nat} {cs : List AV} {v0 v : AV} {K : AV → Eff → List Nat → Nat → Prop} (h : Ret P Γ f [.sl 0 off n sz k] [some cs] v0 [some cs]) (hid : H[id]? = some (some cs)) (hv : v0.ren (names [id] H.length) = v)
    (hk : K v [(id, some cs)] [id] 0) (hcs : AV.closed.closedL cs = true := by rfl) : callA P Γ f [.sl id off n sz k] H K := by
  have hlt : id < H.length := by
    rcases Nat.lt_or_ge id H.length with h' | h'
    · exact h'
    · rw [List.getElem?_eq_none h'] at hid; simp at hid
  have hn : names [id] H.length 0 = id := by simp [names]
  have hm : renB (names [id] H.length) (some cs) = some cs := by
    simp only [renB]
    rw [map_ren_closed _ _ hcs]
  have := CallR0.mk (P := P) (Γ := Γ) (f := f) (args := [.sl id off n sz k]) (k := H.length) (H := H ++ List.replicate 0 none) [id] [.sl 0 off n sz k] [some cs] v0 [some cs] h rfl (by simp) (by simpa using hlt)
    (by simp [AV.ren, hn]) (by simp [AV.under, AV.under.underL]) (by
      intro i c hi
      cases i with
      | zero =>
        simp at hi
        subst hi
        refine ⟨cs, rfl, underL_closed _ _ hcs, ?_⟩
        rw [hn, hm]
        simpa using hid
      | succ i => simp at hi)
  refine ⟨v, [(id, some cs)], [id], 0, ?_, hk⟩
  rw [hv] at this
  refine .base ?_
  simpa [effs, hn, hm] using this

end

theorem wrap_u64 {x : Nat} (h : x < 18446744073709551616) : IntKind.u64.wrap (x : Int) = x := by
  simp [IntKind.wrap, IntKind.bits, IntKind.signed]; omega
theorem wrap_u32 {x : Nat} (h : x < 4294967296) : IntKind.u32.wrap (x : Int) = x := by
  simp [IntKind.wrap, IntKind.bits, IntKind.signed]; omega
theorem or_zero64 {x : Nat} (h : x < 18446744073709551616) : IntKind.u64.wrap ((BitVec.ofInt 64 0 ||| BitVec.ofInt 64 (x : Int)).toNat : Int) = x := by
  have : (BitVec.ofInt 64 0 ||| BitVec.ofInt 64 (x : Int)).toNat = x := by
    have e0 : BitVec.ofInt 64 0 = 0#64 := rfl
    rw [e0, BitVec.zero_or]
    simp [BitVec.toNat_ofInt]
    omega
  rw [this]
  exact wrap_u64 h
end Go.AL

/- Entries by a table of results, for calls that hand in one block, which stays as it is. -/
namespace Go.AL
set_option linter.unusedSimpArgs false
set_option linter.unusedVariables false
open Go

abbrev LR1 := List (Nat × List AV × List AV × AV)
noncomputable def keyV (v : AV) (n : Nat) : Nat := AV.rec (motive_1 := fun _ => Nat → Nat) (motive_2 := fun _ => Unit) (fun b n => Nat.add (Nat.mul n (nat_lit 10)) (Bool.rec (motive := fun _ => Nat) (nat_lit 0) (nat_lit 1) b)) (fun _ b n => Nat.add (Nat.mul n (nat_lit 10)) (Int.rec (motive := fun _ => Nat) (fun m => m) (fun _ => nat_lit 0) b)) (fun _ n => n) (fun _ _ _ _ n => n) (fun _ _ _ _ _ n => n) (fun _ _ n => n) (fun _ _ _ n => n) (fun _ _ _ n => n) (fun _ _ n => n) (fun _ _ n => n) (fun n => n) (fun n => n) () (fun _ _ _ _ => ()) v n
noncomputable def keyL (cs : List AV) (n : Nat) : Nat := List.rec (motive := fun _ => Nat → Nat) (fun n => n) (fun v _ ih n => ih (keyV v n)) cs n
noncomputable def memoF1 (l : LR1) (key : Nat) (args cs : List AV) : Option AV :=
  List.rec (motive := fun _ => Option AV) none (fun x _ ih => Bool.rec (motive := fun _ => Option AV) ih
    (Bool.rec (motive := fun _ => Option AV) ih (Bool.rec (motive := fun _ => Option AV) ih (some x.2.2.2) (eqL2 (eqA2 8) x.2.1 args)) (eqL2 (eqA2 8) x.2.2.1 cs)) (Nat.beq x.1 key)) l
noncomputable def memoK1 (l : LR1) (args : List AV) (H : Heap) : O := match H with
  | [some cs] => natK (keyL cs (nat_lit 0)) fun key => match memoF1 l key args cs with
    | some v => some (v, [some cs])
    | none => none
  | _ => none

section
variable {P : Program} {Γ : Glob} {ok : FuncId → Bool} {f : FuncId}

def Memo1 (P : Program) (Γ : Glob) (f : FuncId) : LR1 → Prop
  | [] => True
  | m :: r => Ret P Γ f m.2.1 [some m.2.2.1] m.2.2.2 [some m.2.2.1] ∧ Memo1 P Γ f r

theorem memoF1_ok : ∀ (l : LR1) (key : Nat) (args cs : List AV) (v : AV), Memo1 P Γ f l → memoF1 l key args cs = some v → Ret P Γ f args [some cs] v [some cs] := by
  intro l
  induction l with
  | nil => intro key args cs v _ h; exact absurd (show (none : Option AV) = some v from h) (by simp)
  | cons m r ih =>
    obtain ⟨k, a, c, v0⟩ := m
    intro key args cs v hm h
    have h : (Bool.rec (motive := fun _ => Option AV) (memoF1 r key args cs) (Bool.rec (motive := fun _ => Option AV) (memoF1 r key args cs) (Bool.rec (motive := fun _ => Option AV) (memoF1 r key args cs) (some v0) (eqL2 (eqA2 8) a args)) (eqL2 (eqA2 8) c cs)) (Nat.beq k key) : Option AV) = some v := h
    cases h1 : Nat.beq k key with
    | false => rw [h1] at h; exact ih key args cs v hm.2 h
    | true =>
      rw [h1] at h
      cases h2 : eqL2 (eqA2 8) c cs with
      | false => rw [h2] at h; exact ih key args cs v hm.2 h
      | true =>
        rw [h2] at h
        cases h3 : eqL2 (eqA2 8) a args with
        | false => rw [h3] at h; exact ih key args cs v hm.2 h
        | true =>
          rw [h3] at h
          have h : some v0 = some v := h
          simp only [Option.some.injEq] at h
          subst h
          have e1 := eqL2_eq (eqA2_eq 8) a args h3
          have e2 := eqL2_eq (eqA2_eq 8) c cs h2
          subst e1 e2
          exact hm.1

theorem memo1_ok {l : LR1} (hl : Memo1 P Γ f l) : EOT P Γ ok f (.known (memoK1 l)) := by
  intro args H v H' h
  unfold memoK1 at h
  split at h
  · rw [natK_eq] at h
    split at h
    · rename_i v0 hv
      simp only [Option.some.injEq, Prod.mk.injEq] at h
      obtain ⟨rfl, rfl⟩ := h
      exact memoF1_ok l _ args _ _ hl hv
    · simp at h
  · simp at h

theorem Memo1.append : ∀ (l r : LR1), Memo1 P Γ f l → Memo1 P Γ f r → Memo1 P Γ f (l ++ r) := by
  intro l
  induction l with
  | nil => intro r _ h; exact h
  | cons m l ih => intro r h h'; exact ⟨h.1, ih r h.2 h'⟩

noncomputable def okRes1 (r : O) (c : List AV) (v : AV) : Bool := match r with
  | some (u, [some cs]) => match eqA2 8 u v with
    | true => eqL2 (eqA2 8) cs c
    | false => false
  | _ => false
noncomputable def chk1 (T : Tab) (f : Nat) (l : LR1) : Bool :=
  List.rec (motive := fun _ => Bool) true (fun x _ ih => Bool.rec (motive := fun _ => Bool) false ih (okRes1 (frun (exT T 1000) f x.2.1 [some x.2.2.1]) x.2.2.1 x.2.2.2)) l
theorem chk1_ok {T : Tab} {f : Nat} (h : ∀ args c v, frun (exT T 1000) f args [some c] = some (v, [some c]) → Ret P Γ f args [some c] v [some c]) : ∀ l, chk1 T f l = true → Memo1 P Γ f l := by
  intro l
  induction l with
  | nil => intro _; trivial
  | cons x r ih =>
    intro hc
    have hc : (Bool.rec (motive := fun _ => Bool) false (chk1 T f r) (okRes1 (frun (exT T 1000) f x.2.1 [some x.2.2.1]) x.2.2.1 x.2.2.2) : Bool) = true := hc
    cases hx : okRes1 (frun (exT T 1000) f x.2.1 [some x.2.2.1]) x.2.2.1 x.2.2.2 with
    | false => rw [hx] at hc; exact absurd hc (by simp)
    | true =>
      rw [hx] at hc
      refine ⟨?_, ih hc⟩
      unfold okRes1 at hx
      split at hx
      · rename_i u cs hu
        split at hx
        · rename_i he
          rw [← eqA2_eq 8 _ _ he]
          have hcs := eqL2_eq (eqA2_eq 8) _ _ hx
          rw [hcs] at hu
          exact h _ _ _ hu
        · simp at hx
      · simp at hx

-- calls that hand in any blocks
abbrev LR2 := List (List AV × Heap × AV × Heap)
def eqHp : Heap → Heap → Bool
  | [], [] => true
  | none :: r, none :: s => eqHp r s
  | some x :: r, some y :: s => match eqL2 (eqA2 8) x y with
    | true => eqHp r s
    | false => false
  | _, _ => false
theorem eqHp_eq : ∀ (a b : Heap), eqHp a b = true → a = b := by
  intro a
  induction a with
  | nil => intro b h; cases b <;> simp [eqHp] at h; rfl
  | cons x r ih =>
    intro b h
    cases b with
    | nil => cases x <;> simp [eqHp] at h
    | cons y s =>
      cases x <;> cases y <;> simp only [eqHp] at h <;> try (simp at h; done)
      · rw [ih s h]
      · split at h
        · rename_i e
          rw [ih s h, eqL2_eq (eqA2_eq 8) _ _ e]
        · simp at h
def memoK2 : LR2 → List AV → Heap → O
  | [], _, _ => none
  | (a, h, v, h') :: r, args, H => match eqL2 (eqA2 8) a args with
    | true => match eqHp h H with
      | true => some (v, h')
      | false => memoK2 r args H
    | false => memoK2 r args H
def Memo2 (P : Program) (Γ : Glob) (f : FuncId) : LR2 → Prop
  | [] => True
  | m :: r => Ret P Γ f m.1 m.2.1 m.2.2.1 m.2.2.2 ∧ Memo2 P Γ f r
theorem memo2_ok : ∀ {l : LR2}, Memo2 P Γ f l → EOT P Γ ok f (.known (memoK2 l)) := by
  intro l
  induction l with
  | nil => intro _ args H v H' h; simp [memoK2] at h
  | cons m r ih =>
    obtain ⟨a, h0, v0, h1⟩ := m
    intro hm args H v H' h
    simp only [memoK2] at h
    split at h
    · rename_i e1
      split at h
      · rename_i e2
        simp only [Option.some.injEq, Prod.mk.injEq] at h
        obtain ⟨rfl, rfl⟩ := h
        have := eqL2_eq (eqA2_eq 8) _ _ e1
        subst this
        have := eqHp_eq _ _ e2
        subst this
        exact hm.1
      · exact ih hm.2 _ _ _ _ h
    · exact ih hm.2 _ _ _ _ h
theorem Memo2.append : ∀ (l r : LR2), Memo2 P Γ f l → Memo2 P Γ f r → Memo2 P Γ f (l ++ r) := by
  intro l
  induction l with
  | nil => intro r _ h; exact h
  | cons m l ih => intro r h h'; exact ⟨h.1, ih r h.2 h'⟩
noncomputable def okRes2 (r : O) (v : AV) (H : Heap) : Bool := match r with
  | some (u, H') => match eqA2 8 u v with
    | true => eqHp H' H
    | false => false
  | _ => false
noncomputable def chk2 (T : Tab) (f : Nat) (l : LR2) : Bool :=
  List.rec (motive := fun _ => Bool) true (fun x _ ih => Bool.rec (motive := fun _ => Bool) false ih (okRes2 (frun (exT T 1000) f x.1 x.2.1) x.2.2.1 x.2.2.2)) l
theorem chk2_ok {T : Tab} {f : Nat} (h : ∀ args H v H', frun (exT T 1000) f args H = some (v, H') → Ret P Γ f args H v H') : ∀ l, chk2 T f l = true → Memo2 P Γ f l := by
  intro l
  induction l with
  | nil => intro _; trivial
  | cons x r ih =>
    intro hc
    have hc : (Bool.rec (motive := fun _ => Bool) false (chk2 T f r) (okRes2 (frun (exT T 1000) f x.1 x.2.1) x.2.2.1 x.2.2.2) : Bool) = true := hc
    cases hx : okRes2 (frun (exT T 1000) f x.1 x.2.1) x.2.2.1 x.2.2.2 with
    | false => rw [hx] at hc; exact absurd hc (by simp)
    | true =>
      rw [hx] at hc
      refine ⟨?_, ih hc⟩
      unfold okRes2 at hx
      split at hx
      · rename_i u H' hu
        split at hx
        · rename_i he
          rw [← eqA2_eq 8 _ _ he, ← eqHp_eq _ _ hx]
          exact h _ _ _ _ hu
        · simp at hx
      · simp at hx
end
end Go.AL

/- Short names for the printed code. -/
namespace Go.AL
set_option linter.unusedSimpArgs false
set_option linter.unusedVariables false
open Go
noncomputable section
def mV := @o_mov
def lD := @o_load
def pK := @o_pick
def bX := @o_box
def sO := @o_store
def nK := @o_nilck
def lN := @o_len
def sQ := @t_seq
def rG := @t_reg
def cD := @t_cond
def lP := @t_loop
def sK := @t_skip
def rT := @t_ret
def qE := @q_end
def sC := @t_scope
def fO := @f_op
def fE := @f_end
def tY := @t_dyf
def fL := @f_load
def fB := @f_box
def fS := @f_store
def fC := @f_call
def cA := @o_call
def cP := @o_callP
def bE := o_beq false
def bN := o_beq true
def gA (x : GT) := o_grd x true
def gB (x : GT) := o_grd x false
def sR (r : OR) (b : RunT) : RunT := t_seq (t_reg r) b
def aP (ok : FuncId → Bool) (a b : Nat) (x y : GT) := o_sub ok (fun E => .append a b (.k (x E)) (.k (y E)))
def bS (ok : FuncId → Bool) (z : AV) (x : GT) := o_sub ok (fun E => .bsl 1 1 [z] [(0, (1, (.k (x E))))])
def K10000 : GT := gk (.int .i64 (.ofNat (nat_lit 10000)))
def K1000000 : GT := gk (.int .i64 (.ofNat (nat_lit 1000000)))
def K11 : GT := gk (.int .i64 (.ofNat (nat_lit 11)))
def K1125899906842624 : GT := gk (.int .i64 (.ofNat (nat_lit 1125899906842624)))
def K12 : GT := gk (.int .i64 (.ofNat (nat_lit 12)))
def K16 : GT := gk (.int .i64 (.ofNat (nat_lit 16)))
def K20 : GT := gk (.int .i64 (.ofNat (nat_lit 20)))
def K200 : GT := gk (.int .i64 (.ofNat (nat_lit 200)))
def K2147483647 : GT := gk (.int .i64 (.ofNat (nat_lit 2147483647)))
def K22 : GT := gk (.int .i64 (.ofNat (nat_lit 22)))
def K23 : GT := gk (.int .i64 (.ofNat (nat_lit 23)))
def K24 : GT := gk (.int .i64 (.ofNat (nat_lit 24)))
def K25 : GT := gk (.int .i64 (.ofNat (nat_lit 25)))
def K262144 : GT := gk (.int .i64 (.ofNat (nat_lit 262144)))
def K30 : GT := gk (.int .i64 (.ofNat (nat_lit 30)))
def K32 : GT := gk (.int .i64 (.ofNat (nat_lit 32)))
def K4 : GT := gk (.int .i64 (.ofNat (nat_lit 4)))
def K5 : GT := gk (.int .i64 (.ofNat (nat_lit 5)))
def K50 : GT := gk (.int .i64 (.ofNat (nat_lit 50)))
def K6 : GT := gk (.int .i64 (.ofNat (nat_lit 6)))
def K60 : GT := gk (.int .i64 (.ofNat (nat_lit 60)))
def K64 : GT := gk (.int .i64 (.ofNat (nat_lit 64)))
def K65536 : GT := gk (.int .i64 (.ofNat (nat_lit 65536)))
def K7 : GT := gk (.int .i64 (.ofNat (nat_lit 7)))
def K8 : GT := gk (.int .i64 (.ofNat (nat_lit 8)))
def K9973 : GT := gk (.int .i64 (.ofNat (nat_lit 9973)))
def KF : GT := gk (.bool false)
def KN : GT := gk (.vec [] 0 (some 0))
def KP : GT := gk (.clo 131072 [])
def KT : GT := gk (.bool true)
def Km0 : GT := gk (.int .i64 (.negSucc (nat_lit 0)))
def Km1 : GT := gk (.int .i64 (.negSucc (nat_lit 1)))
def Km1125899906842623 : GT := gk (.int .i64 (.negSucc (nat_lit 1125899906842623)))
def Km2147483646 : GT := gk (.int .i64 (.negSucc (nat_lit 2147483646)))
def Km262143 : GT := gk (.int .i64 (.negSucc (nat_lit 262143)))
def Ku0 : GT := gk (.int .u64 (.ofNat (nat_lit 0)))
def Ku1 : GT := gk (.int .u64 (.ofNat (nat_lit 1)))
def Ku16 : GT := gk (.int .u64 (.ofNat (nat_lit 16)))
def Ku256 : GT := gk (.int .u64 (.ofNat (nat_lit 256)))
def Ku32 : GT := gk (.int .u64 (.ofNat (nat_lit 32)))
def Ku4294967296 : GT := gk (.int .u64 (.ofNat (nat_lit 4294967296)))
def Ku63 : GT := gk (.int .u64 (.ofNat (nat_lit 63)))
def Ku65536 : GT := gk (.int .u64 (.ofNat (nat_lit 65536)))
def Ku8 : GT := gk (.int .u64 (.ofNat (nat_lit 8)))
def Ku9223372036854775808 : GT := gk (.int .u64 (.ofNat (nat_lit 9223372036854775808)))
def Kv0 : GT := gk (.int .u32 (.ofNat (nat_lit 0)))
def Kv1 : GT := gk (.int .u32 (.ofNat (nat_lit 1)))
def aD := o_bin .add b_add
def bK0 := t_blk (nat_lit 0)
def bK1 := t_blk (nat_lit 1)
def bK2 := t_blk (nat_lit 2)
def bK3 := t_blk (nat_lit 3)
def bK4 := t_blk (nat_lit 4)
def bK5 := t_blk (nat_lit 5)
def bK6 := t_blk (nat_lit 6)
def bK7 := t_blk (nat_lit 7)
def bK8 := t_blk (nat_lit 8)
def bK9 := t_blk (nat_lit 9)
def cVi64 := o_conv .i64
def cVu32 := o_conv .u32
def cVu64 := o_conv .u64
def cVu8 := o_conv .u8
def eQ := o_bin .eql (b_cmp eqI)
def eX0 := t_exit (nat_lit 0)
def eX1 := t_exit (nat_lit 1)
def eX2 := t_exit (nat_lit 2)
def eX3 := t_exit (nat_lit 3)
def eX4 := t_exit (nat_lit 4)
def eX6 := t_exit (nat_lit 6)
def eX8 := t_exit (nat_lit 8)
def fA2 := f_loada (nat_lit 2)
def fA3 := f_loada (nat_lit 3)
def fA4 := f_loada (nat_lit 4)
def fA5 := f_loada (nat_lit 5)
def fD0 := o_fld (nat_lit 0)
def fD1 := o_fld (nat_lit 1)
def fD2 := o_fld (nat_lit 2)
def fD3 := o_fld (nat_lit 3)
def fD4 := o_fld (nat_lit 4)
def fT2 := f_storea (nat_lit 2)
def fT5 := f_storea (nat_lit 5)
def gE := o_bin .geq (b_cmp geI)
def gT := o_bin .gtr (b_cmp gtI)
def hL := o_bin .shl b_shl
def hR := o_bin .shr b_shr
def iA3_1 := o_idxa (nat_lit 3) (nat_lit 1)
def iA4_1 := o_idxa (nat_lit 4) (nat_lit 1)
def iA8_1 := o_idxa (nat_lit 8) (nat_lit 1)
def iX1 := o_idx (nat_lit 1)
def iX2 := o_idx (nat_lit 2)
def iX3 := o_idx (nat_lit 3)
def iX5 := o_idx (nat_lit 5)
def lA14 := o_loada (nat_lit 14)
def lA2 := o_loada (nat_lit 2)
def lA3 := o_loada (nat_lit 3)
def lA4 := o_loada (nat_lit 4)
def lA5 := o_loada (nat_lit 5)
def lA8 := o_loada (nat_lit 8)
def lE := o_bin .leq (b_cmp leI)
def lT := o_bin .lss (b_cmp ltI)
def mF122 := o_mkfn (nat_lit 122)
def mF13 := o_mkfn (nat_lit 13)
def mF174 := o_mkfn (nat_lit 174)
def mF179 := o_mkfn (nat_lit 179)
def mF180 := o_mkfn (nat_lit 180)
def mF202 := o_mkfn (nat_lit 202)
def mF208 := o_mkfn (nat_lit 208)
def mF209 := o_mkfn (nat_lit 209)
def mF245 := o_mkfn (nat_lit 245)
def mF246 := o_mkfn (nat_lit 246)
def mF258 := o_mkfn (nat_lit 258)
def mF259 := o_mkfn (nat_lit 259)
def mF282 := o_mkfn (nat_lit 282)
def mF324 := o_mkfn (nat_lit 324)
def mF33 := o_mkfn (nat_lit 33)
def mF342 := o_mkfn (nat_lit 342)
def mF35 := o_mkfn (nat_lit 35)
def mF37 := o_mkfn (nat_lit 37)
def mF40 := o_mkfn (nat_lit 40)
def mF44 := o_mkfn (nat_lit 44)
def mF45 := o_mkfn (nat_lit 45)
def mF46 := o_mkfn (nat_lit 46)
def mF88 := o_mkfn (nat_lit 88)
def mF89 := o_mkfn (nat_lit 89)
def mF94 := o_mkfn (nat_lit 94)
def mL := o_bin .mul b_mul
def mS1_1 := o_mksl (nat_lit 1) (nat_lit 1)
def mS1_24 := o_mksl (nat_lit 1) (nat_lit 24)
def mS1_4 := o_mksl (nat_lit 1) (nat_lit 4)
def mS1_8 := o_mksl (nat_lit 1) (nat_lit 8)
def mS2_32 := o_mksl (nat_lit 2) (nat_lit 32)
def nE := o_bin .neq (b_cmp neI)
def nG := o_un .neg
def nT := o_un .not
def pT0 := o_part (nat_lit 0)
def pT1 := o_part (nat_lit 1)
def qU := o_bin .quo b_quo
def rM := o_bin .rem b_rem
def sA14 := o_storea (nat_lit 14)
def sA2 := o_storea (nat_lit 2)
def sA3 := o_storea (nat_lit 3)
def sA4 := o_storea (nat_lit 4)
def sA5 := o_storea (nat_lit 5)
def sA8 := o_storea (nat_lit 8)
def sB := o_bin .sub b_sub
def xT0 := o_ext (nat_lit 0)
def xT1 := o_ext (nat_lit 1)
def xT2 := o_ext (nat_lit 2)
end
end Go.AL

/- From a contract to the model's calls, where no local block is handed in. -/
namespace Go.AL
set_option linter.unusedSimpArgs false
set_option linter.unusedVariables false
open Go Go.ChangeShapes Go.WideShapes

theorem calls_of_ret {P : Program} {Γ : Glob} {f : FuncId} {args : List AV} {v : AV} {vs : Array Value} {w : World} (h : Ret P Γ f args [] v []) (hne : f ≠ 4095) (hg : ∀ g cs, (g, cs) ∈ Γ.globs → IRep w (fun _ => False) (.iptr cs 0) (.pointer (some ⟨g, 0, none⟩)))
    (hs : vs.size = args.length) (ha : ∀ (j : Nat) (a : AV) (u : Value), args[j]? = some a → vs[j]? = some u → IRep w (fun _ => False) a u) :
    Calls P f vs w fun e w' => ∃ u, e = .returned u ∧ Kept (fun _ => False) w w' ∧ IRep w' (fun _ => False) v u := by
  have hmu : ∀ b, ¬ Mu (fun _ => False) (fun _ => RS.unborn) b := by
    rintro b (h | ⟨i, h⟩)
    · exact h
    · cases h
  have hMu : Mu (fun _ => False) (fun _ => RS.unborn) = fun _ => False := funext fun b => propext ⟨fun h => hmu b h, False.elim⟩
  have ho : HOK Γ w (fun _ => False) (fun _ => RS.unborn) [] := by
    constructor
    · intro i j b h; cases h
    · intro i b h; cases h
    · intro b h; exact False.elim h
    · intro _ _; rfl
    · intro i cs h; simp at h
    · intro i b h; cases h
    · intro g cs hgc
      rw [hMu]
      exact hg g cs hgc
  have hX := h.2 w (fun _ => False) (fun _ => .unborn) vs ho hs (fun j a u h1 h2 => .imm _ _ (by rw [hMu]; exact ha j a u h1 h2))
  rcases hX with ⟨_, hX⟩ | ⟨e, _⟩
  rotate_left
  · exact absurd e hne
  refine hX.mono ?_
  rintro e w' ⟨u, ρ', rfl, hA, hr⟩
  have hu : ∀ i, ρ' i = .unborn := fun i => hA.hok.unborn i (Nat.zero_le _)
  refine ⟨u, rfl, hA.kept.mono (fun b _ ⟨i, hi⟩ => by cases hi), ?_⟩
  exact (hr.unbornI hu).weaken (fun b _ h => False.elim h)

theorem Kept.keptBut {w w' : World} (h : Kept (fun _ => False) w w') (may : MemPlace → Prop) : w.keptBut w' may := by
  refine ⟨h.rest.1, h.rest.2, fun i hi => ?_⟩
  have e := h.same i hi (fun x => x)
  rw [e]
  cases w.heap[i]? with
  | none => rfl
  | some o => cases o <;> first | exact ⟨rfl, rfl, rfl, fun _ _ => rfl⟩ | exact .inr ⟨rfl, rfl⟩ | rfl

theorem post_old {H : Type} {enc : TypeId × Value → H} {P : Program} {f : Func} {s : ChangeSpec} {apart fresh handsOn again : Bool} {W W' : World} {args : Array Value} {v : Value} {ds gs : List (DataW H)} {before pa pv : List MemPlace}
    (hW : DataW.Whole enc P f.params.toList s.vars apart W args.toList ds gs before)
    (hres : ∀ (b : Nat) (sp : Nat → Bool) (hd : Bool), DataW.TrodAll enc P W' b sp hd f.resultTypes.toList (v.resultList f.resultTypes.size) (s.fn H (ds ++ gs)).results [])
    (hargs : ∀ sp : Nat → Bool, (∀ p ∈ before, sp p.block = true) → DataW.TrodAll enc P W' 0 sp true f.params.toList args.toList (s.fn H (ds ++ gs)).args pa)
    (hvars : ∀ sp : Nat → Bool, (∀ p ∈ before, sp p.block = true) → DataW.TrodVars enc P W' sp s.vars (s.fn H (ds ++ gs)).vars pv)
    (hps : before = pa ++ pv) (hk : Kept (fun _ => False) W W')
    (hok : ∀ (j : Nat) (t : TypeId) (r : Value), f.resultTypes[j]? = some t → (v.resultList f.resultTypes.size)[j]? = some r → Value.okWide P W' .any 0 t r) :
    s.post enc P f apart fresh handsOn again W args v W' := by
  have hlt := hW.lt
  have hold : ∀ p ∈ before, (fun b => decide (b < W.heap.size)) p.block = true := fun p hp => by simpa using hlt p hp
  refine ⟨ds, gs, before, [], pa, pv, hW, hres _ _ _, hargs _ hold, hvars _ hold, World.keptBut_mono (fun p hp => ⟨hp, ?_⟩) (hk.keptBut (· ∈ before)), fun _ => ?_⟩
  · rw [hps, List.mem_append] at hp
    exact Or.inr hp
  · obtain ⟨_, _, _, _, _, hz, hn⟩ := hW
    refine ⟨hok, _, _, ([] ++ pa) ++ pv, ⟨[] ++ pa, pv, trodAll_append (hargs _ (fun _ _ => rfl)) (hres _ _ _), hvars _ (fun _ _ => rfl), rfl, ?_, ?_⟩, ?_⟩
    · intro b off hp
      have hp' := hp
      simp only [List.nil_append, ← hps] at hp'
      rw [hk.frozen b off (by simpa [MemPlace.block] using hlt _ hp')]
      exact hz b off hp'
    · intro ha
      have := hn ha
      rw [hps] at this
      simpa using this
    · intro p hp _
      rw [hps]
      simpa using hp

end Go.AL
