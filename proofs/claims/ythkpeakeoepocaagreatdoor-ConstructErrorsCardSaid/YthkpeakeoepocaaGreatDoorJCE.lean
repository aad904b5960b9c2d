/- quadformlaw30.ConstructErrors returns true at every input, in every world in which the package variable quadform/minkowski.conditions holds what the program's text lays: dimensions outside 1 .. 8 and determinants outside 1 .. 10000 are refused as arguments, dimensions above 3 and determinants above 200 as too large. Conditions: none beyond the card's own. -/
import Derived.Test.YthkpeakeoepocaaGreatDoorCards
import Derived.Test.YthkpeakeoepocaaGreatDoorTie
import Derived.Test.YthkpeakeoepocaaGreatDoorLE
import Derived.Test.YthkpeakeoepocaaGreatDoorAL36
import Derived.WalkKit
import Derived.ProofKit
import Derived.OpenShut
import Derived.Deep.DeepHandedRow
import Derived.Lib.LaidTab
namespace Go.Proofs.YthkpeakeoepocaaGreatDoor.constructErrors
set_option linter.unusedSimpArgs false
set_option linter.unusedVariables false
open Go Go.AL Go.Proofs Go.ChangeShapes Go.WideShapes Go.ChangeAt Go.RowKit

set_option maxRecDepth 100000
set_option linter.unusedVariables false

theorem own : ownKnob Tryz.prog.godebug = none := by kernel_rfl
theorem gTab : Tryz.prog.globalNamed "quadform/minkowski.conditions" = some 0 := by kernel_rfl
theorem gTabType : (Tryz.prog.globals[0]?).map (·.type) = some 198 := by kernel_rfl
theorem cellsT : Tryz.prog.cellsOf 198 = 4 := by kernel_rfl
theorem cellsE : Tryz.prog.cellsOf 3 = 1 := by kernel_rfl

theorem table {W : World} (h : laidMetH Tryz.prog Rows.constructErrorsRow.laid W) : Lib.TabIs Tryz.prog W "quadform/minkowski.conditions" .i64 [1, 3, 9, 27] :=
  Lib.tabIs_of_head (rest := []) gTab gTabType Tryz.underlying198 Tryz.underlying3 cellsE cellsT h

theorem glob {W : World} (h : laidMetH Tryz.prog Rows.constructErrorsRow.laid W) : ∀ g cs, (g, cs) ∈ G → IRep W (fun _ => False) (.iptr cs 0) (.pointer (some ⟨g, 0, none⟩)) := by
  intro g cs hm
  simp only [G, List.mem_singleton, Prod.mk.injEq] at hm
  obtain ⟨rfl, rfl⟩ := hm
  have hc := fun i hi => (table h).cell gTab i hi
  refine .iptr _ 0 0 0 (fun j => .int .i64 (([1, 3, 9, 27] : List Int).getD j 0)) (fun _ h => h) (fun j hj => ?_) (fun j a ha => ?_)
  · have hj : j < 4 := hj
    have := hc j hj
    rw [Nat.zero_add]
    match j, hj with
    | 0, _ => exact this
    | 1, _ => exact this
    | 2, _ => exact this
    | 3, _ => exact this
    | n + 4, h => exact absurd h (by omega)
  · match j, ha with
    | 0, ha => cases ha; exact .int _ _
    | 1, ha => cases ha; exact .int _ _
    | 2, ha => cases ha; exact .int _ _
    | 3, ha => cases ha; exact .int _ _
    | n + 4, ha => simp at ha

theorem contract (H : Type) (enc : TypeId × Value → H) (W : World) (base : Nat) (args : Array Value) (ds gs : List (DataW H)) (before : List MemPlace)
    (hval : ∀ (j : Nat) t v, Tryz.f3.params[j]? = some t → args[j]? = some v → Value.okWide Tryz.prog W .any base t v)
    (hW : DataW.Whole enc Tryz.prog Tryz.f3.params.toList Rows.constructErrorsSpec.vars false W args.toList ds gs before) (hL : laidMetH Tryz.prog Rows.constructErrorsRow.laid W) :
    Calls Tryz.prog 3 args W fun e W' => ∃ v, e = .returned v ∧ Rows.constructErrorsSpec.post enc Tryz.prog Tryz.f3 false true false false W args v W' := by
  have hW' := hW
  obtain ⟨p, q, hA0, hV, rfl, hfz, hnd⟩ := hW
  have hA : DataW.TrodAll enc Tryz.prog W 0 (fun _ => true) true Tryz.f3.params.toList args.toList ds p := hA0
  rw [Tryz.params3] at hA hval
  obtain ⟨v0, vs0, d0, ds0, p0, q0, hargs, rfl, rfl, h0, r0⟩ := trodAll_cons hA
  obtain ⟨v1, vs1, d1, ds1, p1, q1, rfl, rfl, rfl, h1, r1⟩ := trodAll_cons r0
  obtain ⟨v2, vs2, d2, ds2, p2, q2, rfl, rfl, rfl, h2, r2⟩ := trodAll_cons r1
  obtain ⟨rfl, rfl, rfl⟩ := trodAll_nil r2
  obtain rfl : args = #[v0, v1, v2] := by cases args; simp_all
  obtain ⟨rfl, rfl⟩ := trodVars_none hV
  obtain ⟨a0, rfl, rfl, rfl, w0⟩ := open_int Tryz.underlying3 (hval 0 3 v0 rfl rfl) h0
  obtain ⟨a1, rfl, rfl, rfl, w1⟩ := open_int Tryz.underlying2 (hval 1 2 v1 rfl rfl) h1
  obtain ⟨a2, rfl, rfl, rfl⟩ := open_bool Tryz.underlying4 (hval 2 4 v2 rfl rfl) h2
  clear hA0
  simp only [List.append_nil] at hW'
  refine (calls_of_ret (law_ret a0 a1 a2) (glob hL) rfl (fun j a u h hu => ?_)).mono fun e W' ⟨u, he, hk, hr⟩ => ?_
  · match j, h, hu with
    | 0, h, hu => simp at h hu; subst h hu; exact .int _ _
    | 1, h, hu => simp at h hu; subst h hu; exact .int _ _
    | 2, h, hu => simp at h hu; subst h hu; exact .bool _
    | n + 3, h, hu => simp at h
  subst he
  obtain rfl : u = .bool true := by cases hr; rfl
  exact ⟨_, rfl, post_old (pa := []) (pv := []) hW' (fun _ _ _ => trodAll_cons_mk (shut_bool Tryz.underlying4 _) trodAll_mk0) (fun _ _ => (trodAll_cons_mk (shut_int Tryz.underlying3 w0) (trodAll_cons_mk (shut_int Tryz.underlying2 w1) (trodAll_cons_mk (shut_bool Tryz.underlying4 _) trodAll_mk0)))) (fun _ _ => rfl) rfl
    hk (ok_one (by kernel_rfl) rfl (okWide_bool_mk Tryz.underlying4 _))⟩

/-- A world for the witness: the settled one, the table (block 0) holding what its initialiser lays. -/
noncomputable def laidWorld (os : Os) : World :=
  { World.holding Tryz.prog os ⟨#[], #[.int .i64 0, .int .i64 0, .bool false], []⟩ with heap := (World.holding Tryz.prog os ⟨#[], #[.int .i64 0, .int .i64 0, .bool false], []⟩).heap.modify 0 fun
      | .cells _ t frozen => .cells #[.int .i64 1, .int .i64 3, .int .i64 9, .int .i64 27] t frozen
      | o => o }
theorem laid_met (os : Os) : laidMet Tryz.prog Rows.constructErrorsRow.laid ((laidWorld os).forCall (fun _ _ => 0) ⟨#[], #[.int .i64 0, .int .i64 0, .bool false], []⟩).memory :=
  laidMet_of_run' 8 (by kernel_rfl) (by kernel_rfl)
theorem reads (os : Os) {H : Type} (enc : TypeId × Value → H) : ∃ places, DataW.whole enc Tryz.prog ((laidWorld os).forCall (fun _ _ => 0) ⟨#[], #[.int .i64 0, .int .i64 0, .bool false], []⟩).memory Tryz.f3.params.toList Rows.constructErrorsSpec.vars false (#[.int .i64 0, .int .i64 0, .bool false] : Array Value).toList 8 = some ([.lit (.int .i64 0), .lit (.int .i64 0), .lit (.bool false)], [], places) :=
  ⟨[], by kernel_rfl⟩

theorem lifted (os : Os) (started : os.Started) (H : Type) (enc : TypeId × Value → H) (F : Stop.Interp) :
    ReturnsInHanded {} Tryz.checked os 3 .any ((OpenSpec.ofChange Rows.constructErrorsSpec).preRow enc Tryz.prog Tryz.f3 Rows.constructErrorsRow.domain false Rows.constructErrorsRow.laid) (((OpenSpec.ofChange Rows.constructErrorsSpec).at F).post enc Tryz.prog Tryz.f3 false true false false) := by
  obtain ⟨places, hx⟩ := reads os enc
  refine returnsInHanded_of_row (C := Tryz.checked) (s := OpenSpec.ofChange Rows.constructErrorsSpec) own started (by kernel_rfl) Tryz.func3
    (witness_row_at (enc := enc) (C := Tryz.checked) false (laidWorld os) #[.int .i64 0, .int .i64 0, .bool false] rfl (by kernel_rfl) (by kernel_rfl) (by kernel_rfl)
      (OpenSpec.preRow_of_cond 8 hx (by kernel_rfl) (fun k hk => by cases hk) (by kernel_rfl) (laid_met os))) ?_
  intro W base args ds gs before hval hW _ _ _ hL _ _
  exact contract H enc W base args ds gs before hval hW hL

theorem said : Rows.ConstructErrorsSaid :=
  OpenClaim.holds_of_cond 3 Tryz.f3 rfl rfl rfl rfl rfl rfl rfl ⟨rfl, rfl, rfl, rfl, rfl⟩ rfl rfl rfl rfl rfl (by kernel_rfl) Tryz.func3 (by kernel_rfl)
    (of_decide_eq_true (by kernel_rfl)) (by unfold Func.isWrapper; first | (rw [if_pos (by decide +kernel)]; kernel_rfl) | (rw [if_neg (by decide +kernel)]; exact ⟨rfl, rfl⟩))
    (fun os started H enc _ F => by rw [OpenClaim.pre_eq_preRow]; exact lifted os started H enc F)

theorem plain (f : FuncId) (fn : Func) (hf : Tryz.pinned.checked.prog.funcNamed "quadform/quadformlaw30.ConstructErrors" = some f) (hfn : Tryz.pinned.checked.prog.funcs[f]? = some fn) :
    false = Tryz.pinned.checked.prog.looks [] ∧ ∀ (j : Nat) t, fn.params[j]? = some t → Tryz.pinned.checked.prog.wantsStandIn t = false := by
  obtain rfl : f = 3 := Option.some.inj ((show Tryz.prog.funcNamed "quadform/quadformlaw30.ConstructErrors" = some 3 by kernel_rfl).symm.trans hf) |>.symm
  obtain rfl : fn = Tryz.f3 := (Option.some.inj (Tryz.func3.symm.trans hfn)).symm
  refine ⟨by kernel_rfl, fun j t ht => ?_⟩
  rw [Tryz.params3] at ht
  match j, ht with
  | 0, ht => simp at ht; subst ht; show Tryz.prog.wantsStandIn 3 = false; kernel_rfl
  | 1, ht => simp at ht; subst ht; show Tryz.prog.wantsStandIn 2 = false; kernel_rfl
  | 2, ht => simp at ht; subst ht; show Tryz.prog.wantsStandIn 4 = false; kernel_rfl
  | n + 3, ht => simp at ht

/-- The card. -/
theorem card : Rows.ConstructErrorsCardSaid :=
  Claim7.holds_tied_plain_at .later [] _ _ _ _ said (fun _ h => by cases h) (by kernel_rfl) (fun _ h => by cases h) constructErrors_row_tie rfl ⟨rfl, rfl⟩ (by kernel_rfl) rfl plain (by kernel_rfl)
end Go.Proofs.YthkpeakeoepocaaGreatDoor.constructErrors
