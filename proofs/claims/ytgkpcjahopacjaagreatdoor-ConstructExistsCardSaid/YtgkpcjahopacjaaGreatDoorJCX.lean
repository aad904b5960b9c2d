/- quadformlaw30.ConstructExists returns true at every input, in every world in which the package variable quadform/prime.offsets and quadform/minkowski.conditions holds what the program's text lays: a form is constructed for every genus that exists, it is reduced, and it lies in this genus. Conditions: none beyond the card's own. -/
import Derived.Test.YtgkpcjahopacjaaGreatDoorJCL
import Derived.Test.YtgkpcjahopacjaaGreatDoorJCS
import Derived.Test.YtgkpcjahopacjaaGreatDoorCards
import Derived.Test.YtgkpcjahopacjaaGreatDoorTie
import Derived.Test.YtgkpcjahopacjaaGreatDoorBX
import Derived.Test.YtgkpcjahopacjaaGreatDoorALZ
import Derived.WalkKit
import Derived.ProofKit
import Derived.OpenShut
import Derived.Deep.DeepHandedRow
import Derived.Lib.LaidTab
namespace Go.Proofs.YtgkpcjahopacjaaGreatDoor.constructExists
set_option linter.unusedSimpArgs false
set_option linter.unusedVariables false
open Go Go.AL Go.Proofs Go.ChangeShapes Go.WideShapes Go.ChangeAt Go.RowKit

set_option maxRecDepth 100000
set_option linter.unusedVariables false

theorem joined_mk {P : Program} {f : FuncId} {fn : Func} {s : ChangeSpec} {c : OpenClaim} (k0 : (c.wf (OpenSpec.ofChange s)) = true) (k1 : (laidOutB P) = true) (k2 : (mapsRowed P) = true) (k3 : (fn.params.all (P.readableRec ·)) = true) (k4 : (namedTie P c.named s.vars) = true) (k5 : (c.stops == []) = true) (k6 : (P.stops == []) = true) (k7 : (c.knobs == []) = true) (k8 : (P.stopKnobs == []) = true) (k9 : (c.inPlace == P.inPlace f) = true) (k10 : (c.unfollowed == P.unfollowed f) = true) (k11 : (c.recurses == P.recurses f) = true) (k12 : (c.named == P.varsNamed f) = true) (k13 : (c.maps == (fn.params.toList ++ s.plain.varTypes P).any (P.mapsRec ·)) = true) (k14 : (c.ifaces == (fn.params.toList ++ s.plain.varTypes P).any (P.ifacesRec ·)) = true) (k15 : (c.mapsOut == P.mapsAmong fn.resultTypes.toList) = true) (k16 : (c.loops == (fn.params.toList ++ s.plain.varTypes P).any (P.loopsFrom ·)) = true) (k17 : (c.wideKeys == (fn.params.toList ++ s.plain.varTypes P ++ fn.resultTypes.toList).any (P.wideKeysFrom ·)) = true) (k18 : (s.vars.all (P.varReadable ·)) = true) (k19 : (fn.resultTypes.all (fun t => P.readableRec t && decide (t < P.types.size))) = true) (k20 : (c.ifacesOut == fn.resultTypes.toList.any (P.ifacesRec ·)) = true) (k21 : (c.loopsOut == fn.resultTypes.toList.any (P.loopsFrom ·)) = true) (k22 : (c.plainKeys == P.plainKeys) = true) (k23 : (c.shortTexts.isNone) = true) (k24 : (P.stopsHeard) = true) (k25 : (P.mayEnter) = true) (k26 : (c.lifted == P.liftsFinal) = true) (k27 : (P.make == some c.make) = true) (k28 : (c.kinds == (if c.domain.isEmpty then [] else fn.params.toList.map fun t => match P.underlying t with | some (.int k) => some k | _ => none)) = true) (k29 : (c.pinned == c.pinnedBy) = true) (k30 : (c.veiled == (fn.params.toList ++ s.plain.varTypes P ++ fn.resultTypes.toList).any (P.veiledRec ·)) = true) (k31 : (c.veiledFits P fn.params.toList (fn.params.toList ++ s.plain.varTypes P ++ fn.resultTypes.toList)) = true) : joinedFacts P f fn s c = true := by
  unfold joinedFacts
  simp only [k0, k1, k2, k3, k4, k5, k6, k7, k8, k9, k10, k11, k12, k13, k14, k15, k16, k17, k18, k19, k20, k21, k22, k23, k24, k25, k26, k27, k29, k30, k31, Bool.and_true, Bool.true_and]
  exact k28

theorem own : ownKnob Tryz.prog.godebug = none := by kernel_rfl
theorem gTab : Tryz.prog.globalNamed "quadform/prime.offsets" = some 0 := by kernel_rfl
theorem gTabType : (Tryz.prog.globals[0]?).map (·.type) = some 140 := by kernel_rfl
theorem cellsT : Tryz.prog.cellsOf 140 = 8 := by kernel_rfl
theorem cellsE : Tryz.prog.cellsOf 2 = 1 := by kernel_rfl

theorem table {W : World} (h : laidMetH Tryz.prog Rows.constructExistsRow.laid W) : Lib.TabIs Tryz.prog W "quadform/prime.offsets" .i64 [7, 11, 13, 17, 19, 23, 29, 31] :=
  Lib.tabIs_of_head (rest := [("quadform/minkowski.conditions", Rows.laid_quadform_minkowski_conditions)]) gTab gTabType Tryz.underlying140 Tryz.underlying2 cellsE cellsT h
theorem gTab2 : Tryz.prog.globalNamed "quadform/minkowski.conditions" = some 1 := by kernel_rfl
theorem gTabType2 : (Tryz.prog.globals[1]?).map (·.type) = some 271 := by kernel_rfl
theorem cellsT2 : Tryz.prog.cellsOf 271 = 4 := by kernel_rfl
theorem cellsE2 : Tryz.prog.cellsOf 3 = 1 := by kernel_rfl
theorem laid_tail {P : Program} {W : World} {x : String × DataW Unit} {r : List (String × DataW Unit)} (h : laidMet P (x :: r) W) : laidMet P r W := by
  obtain ⟨n, d⟩ := x
  obtain ⟨ps, ⟨g, t, cs, fuel, p, q, _, _, _, _, hq, rfl⟩, hnd, hc⟩ := h
  exact ⟨q, hq, (List.nodup_append.1 hnd).2.1, fun b off hm => hc b off (List.mem_append.2 (.inr hm))⟩
theorem table2 {W : World} (h : laidMetH Tryz.prog Rows.constructExistsRow.laid W) : Lib.TabIs Tryz.prog W "quadform/minkowski.conditions" .i64 [1, 3, 9, 27] :=
  Lib.tabIs_of_head (rest := []) gTab2 gTabType2 Tryz.underlying271 Tryz.underlying3 cellsE2 cellsT2 (laid_tail (x := ("quadform/prime.offsets", Rows.laid_quadform_prime_offsets)) h)

theorem glob {W : World} (h : laidMetH Tryz.prog Rows.constructExistsRow.laid W) : ∀ g cs, (g, cs) ∈ G.globs → IRep W (fun _ => False) (.iptr cs 0) (.pointer (some ⟨g, 0, none⟩)) := by
  intro g cs hm
  simp only [G, mkG, List.mem_cons, List.not_mem_nil, or_false, Prod.mk.injEq] at hm
  rcases hm with ⟨rfl, rfl⟩ | ⟨rfl, rfl⟩
  · have hc := fun i hi => (table h).cell gTab i hi
    refine .iptr _ 0 0 0 (fun j => .int .i64 (([7, 11, 13, 17, 19, 23, 29, 31] : List Int).getD j 0)) (fun _ h => h) (fun j hj => ?_) (fun j a ha => ?_)
    · have hj : j < 8 := hj
      have := hc j hj
      rw [Nat.zero_add]
      match j, hj with
      | 0, _ => exact this
      | 1, _ => exact this
      | 2, _ => exact this
      | 3, _ => exact this
      | 4, _ => exact this
      | 5, _ => exact this
      | 6, _ => exact this
      | 7, _ => exact this
      | n + 8, h => exact absurd h (by omega)
    · match j, ha with
      | 0, ha => cases ha; exact .int _ _
      | 1, ha => cases ha; exact .int _ _
      | 2, ha => cases ha; exact .int _ _
      | 3, ha => cases ha; exact .int _ _
      | 4, ha => cases ha; exact .int _ _
      | 5, ha => cases ha; exact .int _ _
      | 6, ha => cases ha; exact .int _ _
      | 7, ha => cases ha; exact .int _ _
      | n + 8, ha => simp at ha
  · have hc := fun i hi => (table2 h).cell gTab2 i hi
    refine .iptr _ 0 1 0 (fun j => .int .i64 (([1, 3, 9, 27] : List Int).getD j 0)) (fun _ h => h) (fun j hj => ?_) (fun j a ha => ?_)
    · have hj : j < 4 := hj
      have := hc j hj
      rw [Nat.zero_add]
      match j, hj with
      | 0, _ => exact this
      | 1, _ => exact this
      | 2, _ => exact this
      | 3, _ => exact this
      | n + 4, h => exact absurd h (by omega)
    · match j, ha with
      | 0, ha => cases ha; exact .int _ _
      | 1, ha => cases ha; exact .int _ _
      | 2, ha => cases ha; exact .int _ _
      | 3, ha => cases ha; exact .int _ _
      | n + 4, ha => simp at ha

theorem contract (H : Type) (enc : TypeId × Value → H) (W : World) (base : Nat) (args : Array Value) (ds gs : List (DataW H)) (before : List MemPlace)
    (hval : ∀ (j : Nat) t v, Tryz.f3.params[j]? = some t → args[j]? = some v → Value.okWide Tryz.prog W .any base t v)
    (hW : DataW.Whole enc Tryz.prog Tryz.f3.params.toList Rows.constructExistsSpec.vars false W args.toList ds gs before) (hL : laidMetH Tryz.prog Rows.constructExistsRow.laid W) :
    Calls Tryz.prog 3 args W fun e W' => ∃ v, e = .returned v ∧ Rows.constructExistsSpec.post enc Tryz.prog Tryz.f3 false true false false W args v W' := by
  have hW' := hW
  obtain ⟨p, q, hA0, hV, rfl, hfz, hnd⟩ := hW
  have hA : DataW.TrodAll enc Tryz.prog W 0 (fun _ => true) true Tryz.f3.params.toList args.toList ds p := hA0
  rw [Tryz.params3] at hA hval
  obtain ⟨v0, vs0, d0, ds0, p0, q0, hargs, rfl, rfl, h0, r0⟩ := trodAll_cons hA
  obtain ⟨v1, vs1, d1, ds1, p1, q1, rfl, rfl, rfl, h1, r1⟩ := trodAll_cons r0
  obtain ⟨v2, vs2, d2, ds2, p2, q2, rfl, rfl, rfl, h2, r2⟩ := trodAll_cons r1
  obtain ⟨rfl, rfl, rfl⟩ := trodAll_nil r2
  obtain rfl : args = #[v0, v1, v2] := by cases args; simp_all
  obtain ⟨rfl, rfl⟩ := trodVars_none hV
  obtain ⟨a0, rfl, rfl, rfl, w0⟩ := open_int Tryz.underlying5 (hval 0 5 v0 rfl rfl) h0
  obtain ⟨a1, rfl, rfl, rfl, w1⟩ := open_int Tryz.underlying5 (hval 1 5 v1 rfl rfl) h1
  obtain ⟨a2, rfl, rfl, rfl, w2⟩ := open_int Tryz.underlying5 (hval 2 5 v2 rfl rfl) h2
  clear hA0
  simp only [List.append_nil] at hW'
  refine (calls_of_ret (exists_ret a0 a1 a2 w0 w1 w2) (by decide) (glob hL) rfl (fun j a u h hu => ?_)).mono fun e W' ⟨u, he, hk, hr⟩ => ?_
  · match j, h, hu with
    | 0, h, hu => simp at h hu; subst h hu; exact .int _ _
    | 1, h, hu => simp at h hu; subst h hu; exact .int _ _
    | 2, h, hu => simp at h hu; subst h hu; exact .int _ _
    | n + 3, h, hu => simp at h
  subst he
  obtain rfl : u = .bool true := by cases hr; rfl
  exact ⟨_, rfl, post_old (pa := []) (pv := []) hW' (fun _ _ _ => trodAll_cons_mk (shut_bool Tryz.underlying4 _) trodAll_mk0) (fun _ _ => (trodAll_cons_mk (shut_int Tryz.underlying5 w0) (trodAll_cons_mk (shut_int Tryz.underlying5 w1) (trodAll_cons_mk (shut_int Tryz.underlying5 w2) trodAll_mk0)))) (fun _ _ => rfl) rfl
    hk (ok_one (by kernel_rfl) rfl (okWide_bool_mk Tryz.underlying4 _))⟩

def laidB (c : Array Value) : Obj → Obj
  | .cells _ t frozen => .cells c t frozen
  | o => o
/-- A world for the witness: the settled one, the table (block 0) holding what its initialiser lays. -/
noncomputable def laidWorld (os : Os) : World :=
  { World.holding Tryz.prog os ⟨#[], #[.int .u8 0, .int .u8 0, .int .u8 0], []⟩ with heap := ((World.holding Tryz.prog os ⟨#[], #[.int .u8 0, .int .u8 0, .int .u8 0], []⟩).heap.modify 0 (laidB #[.int .i64 7, .int .i64 11, .int .i64 13, .int .i64 17, .int .i64 19, .int .i64 23, .int .i64 29, .int .i64 31])).modify 1 (laidB #[.int .i64 1, .int .i64 3, .int .i64 9, .int .i64 27]) }
theorem laid_met (os : Os) : laidMet Tryz.prog Rows.constructExistsRow.laid ((laidWorld os).forCall (fun _ _ => 0) ⟨#[], #[.int .u8 0, .int .u8 0, .int .u8 0], []⟩).memory :=
  laidMet_of_run' 8 (by kernel_rfl) (by kernel_rfl)
theorem reads (os : Os) {H : Type} (enc : TypeId × Value → H) : ∃ places, DataW.whole enc Tryz.prog ((laidWorld os).forCall (fun _ _ => 0) ⟨#[], #[.int .u8 0, .int .u8 0, .int .u8 0], []⟩).memory Tryz.f3.params.toList Rows.constructExistsSpec.vars false (#[.int .u8 0, .int .u8 0, .int .u8 0] : Array Value).toList 8 = some ([.lit (.int .u8 0), .lit (.int .u8 0), .lit (.int .u8 0)], [], places) :=
  ⟨[], by kernel_rfl⟩

theorem lifted (os : Os) (started : os.Started) (H : Type) (enc : TypeId × Value → H) (F : Stop.Interp) :
    ReturnsInHanded {} Tryz.checked os 3 .any ((OpenSpec.ofChange Rows.constructExistsSpec).preRow enc Tryz.prog Tryz.f3 Rows.constructExistsRow.domain false Rows.constructExistsRow.laid) (((OpenSpec.ofChange Rows.constructExistsSpec).at F).post enc Tryz.prog Tryz.f3 false true false false) := by
  obtain ⟨places, hx⟩ := reads os enc
  refine returnsInHanded_of_row (C := Tryz.checked) (s := OpenSpec.ofChange Rows.constructExistsSpec) own started (by kernel_rfl) Tryz.func3
    (witness_row_at (enc := enc) (C := Tryz.checked) false (laidWorld os) #[.int .u8 0, .int .u8 0, .int .u8 0] rfl (by kernel_rfl) (by kernel_rfl) (by kernel_rfl)
      (OpenSpec.preRow_of_cond 8 hx (by kernel_rfl) (fun k hk => by cases hk) (by kernel_rfl) (laid_met os))) ?_
  intro W base args ds gs before hval hW _ _ _ hL _ _
  exact contract H enc W base args ds gs before hval hW hL

theorem said : Rows.ConstructExistsSaid :=
  OpenClaim.holds_of_cond 3 Tryz.f3 rfl rfl rfl rfl rfl rfl rfl ⟨rfl, rfl, rfl, rfl, rfl⟩ rfl rfl rfl rfl rfl fa Tryz.func3 (joined_mk jl0 jl1 jl2 jl3 jl4 jl5 jl6 jl7 jl8 jl9 jl10 jl11 jl12 jl13 jl14 jl15 jl16 jl17 jl18 jl19 jl20 jl21 jl22 jl23 jl24 jl25 jl26 jl27 jl28 jl29 jl30 jl31)
    fc (by unfold Func.isWrapper; first | (rw [if_pos (by decide +kernel)]; kernel_rfl) | (rw [if_neg (by decide +kernel)]; exact ⟨rfl, rfl⟩))
    (fun os started H enc _ F => by rw [OpenClaim.pre_eq_preRow]; exact lifted os started H enc F)

theorem plain (f : FuncId) (fn : Func) (hf : Tryz.pinned.checked.prog.funcNamed "quadform/quadformlaw30.ConstructExists" = some f) (hfn : Tryz.pinned.checked.prog.funcs[f]? = some fn) :
    false = Tryz.pinned.checked.prog.looks [] ∧ ∀ (j : Nat) t, fn.params[j]? = some t → Tryz.pinned.checked.prog.wantsStandIn t = false := by
  obtain rfl : f = 3 := Option.some.inj ((show Tryz.prog.funcNamed "quadform/quadformlaw30.ConstructExists" = some 3 by kernel_rfl).symm.trans hf) |>.symm
  obtain rfl : fn = Tryz.f3 := (Option.some.inj (Tryz.func3.symm.trans hfn)).symm
  refine ⟨by kernel_rfl, fun j t ht => ?_⟩
  rw [Tryz.params3] at ht
  match j, ht with
  | 0, ht => simp at ht; subst ht; show Tryz.prog.wantsStandIn 5 = false; kernel_rfl
  | 1, ht => simp at ht; subst ht; show Tryz.prog.wantsStandIn 5 = false; kernel_rfl
  | 2, ht => simp at ht; subst ht; show Tryz.prog.wantsStandIn 5 = false; kernel_rfl
  | n + 3, ht => simp at ht

/-- The card. -/
theorem card : Rows.ConstructExistsCardSaid :=
  Claim7.holds_tied_plain_at .later [] _ _ _ _ said (fun _ h => by cases h) cw (fun _ h => by cases h) constructExists_row_tie rfl ⟨rfl, rfl⟩ (by kernel_rfl) rfl plain cg
end Go.Proofs.YtgkpcjahopacjaaGreatDoor.constructExists
