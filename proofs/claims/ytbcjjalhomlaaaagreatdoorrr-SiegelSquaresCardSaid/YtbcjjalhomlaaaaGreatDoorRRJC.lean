/- quadformlaw40.SiegelSquares returns true at its one call (it has no input), in every world in which the package variable quadform/prime.offsets holds what the program's text lays: six means of sums of squares, by Siegel's formula, are 6, 12, 8, 24, 8 and 10. Conditions: none beyond the card's own. -/
import Derived.Test.YtbcjjalhomlaaaaGreatDoorRRCards
import Derived.Test.YtbcjjalhomlaaaaGreatDoorRRTie
import Derived.Test.YtbcjjalhomlaaaaGreatDoorRRJS
import Derived.Test.YtbcjjalhomlaaaaGreatDoorRRAL36
import Derived.WalkKit
import Derived.ProofKit
import Derived.OpenShut
import Derived.Deep.DeepHandedRow
import Derived.Lib.LaidTab
namespace Go.Proofs.YtbcjjalhomlaaaaGreatDoorRR.siegelSquares
set_option linter.unusedSimpArgs false
set_option linter.unusedVariables false
open Go Go.AL Go.Proofs Go.ChangeShapes Go.WideShapes Go.ChangeAt Go.RowKit

set_option maxRecDepth 100000

theorem own : ownKnob Tryz.prog.godebug = none := by kernel_rfl
theorem gTab : Tryz.prog.globalNamed "quadform/prime.offsets" = some 0 := by kernel_rfl
theorem gTabType : (Tryz.prog.globals[0]?).map (·.type) = some 109 := by kernel_rfl
theorem cells109 : Tryz.prog.cellsOf 109 = 8 := by kernel_rfl
theorem cells2 : Tryz.prog.cellsOf 2 = 1 := by kernel_rfl

theorem table {W : World} (h : laidMetH Tryz.prog Rows.siegelSquaresRow.laid W) : Lib.TabIs Tryz.prog W "quadform/prime.offsets" .i64 [7, 11, 13, 17, 19, 23, 29, 31] :=
  Lib.tabIs_of_head (rest := []) gTab gTabType Tryz.underlying109 Tryz.underlying2 cells2 cells109 h

theorem glob {W : World} (h : laidMetH Tryz.prog Rows.siegelSquaresRow.laid W) : ∀ g cs, (g, cs) ∈ G → IRep W (fun _ => False) (.iptr cs 0) (.pointer (some ⟨g, 0, none⟩)) := by
  intro g cs hm
  simp only [G, List.mem_singleton, Prod.mk.injEq] at hm
  obtain ⟨rfl, rfl⟩ := hm
  have hc := fun i hi => (table h).cell gTab i hi
  refine .iptr _ 0 0 0 (fun j => .int .i64 (([7, 11, 13, 17, 19, 23, 29, 31] : List Int).getD j 0)) (fun _ h => h) (fun j hj => ?_) (fun j a ha => ?_)
  · have hj : j < 8 := hj
    have := hc j hj
    rw [Nat.zero_add]
    match j, hj with
    | 0, _ => exact this
    | 1, _ => exact this
    | 2, _ => exact this
    | 3, _ => exact this
    | 4, _ => exact this
    | 5, _ => exact this
    | 6, _ => exact this
    | 7, _ => exact this
    | n + 8, h => exact absurd h (by omega)
  · match j, ha with
    | 0, ha => cases ha; exact .int _ _
    | 1, ha => cases ha; exact .int _ _
    | 2, ha => cases ha; exact .int _ _
    | 3, ha => cases ha; exact .int _ _
    | 4, ha => cases ha; exact .int _ _
    | 5, ha => cases ha; exact .int _ _
    | 6, ha => cases ha; exact .int _ _
    | 7, ha => cases ha; exact .int _ _
    | n + 8, ha => simp at ha

theorem contract (H : Type) (enc : TypeId × Value → H) (W : World) (base : Nat) (args : Array Value) (ds gs : List (DataW H)) (before : List MemPlace)
    (hval : ∀ (j : Nat) t v, Tryz.f3.params[j]? = some t → args[j]? = some v → Value.okWide Tryz.prog W .any base t v)
    (hW : DataW.Whole enc Tryz.prog Tryz.f3.params.toList Rows.siegelSquaresSpec.vars false W args.toList ds gs before) (hL : laidMetH Tryz.prog Rows.siegelSquaresRow.laid W) :
    Calls Tryz.prog 3 args W fun e W' => ∃ v, e = .returned v ∧ Rows.siegelSquaresSpec.post enc Tryz.prog Tryz.f3 false true false false W args v W' := by
  have hW' := hW
  obtain ⟨p, q, hA0, hV, rfl, hfz, hnd⟩ := hW
  have hA : DataW.TrodAll enc Tryz.prog W 0 (fun _ => true) true Tryz.f3.params.toList args.toList ds p := hA0
  rw [Tryz.params3] at hA hval
  obtain ⟨h1, rfl, rfl⟩ := trodAll_nil hA
  obtain rfl : args = #[] := by cases args; simp_all
  obtain ⟨rfl, rfl⟩ := trodVars_none hV
  clear hA0
  simp only [List.append_nil] at hW'
  refine (calls_of_ret law_ret (glob hL) rfl (fun j a u h => by simp at h)).mono fun e W' ⟨u, he, hk, hr⟩ => ?_
  subst he
  obtain rfl : u = .bool true := by cases hr; rfl
  exact ⟨_, rfl, post_old (pa := []) (pv := []) hW' (fun _ _ _ => trodAll_cons_mk (shut_bool Tryz.underlying4 _) trodAll_mk0) (fun _ _ => trodAll_mk0) (fun _ _ => rfl) rfl
    hk (ok_one (by kernel_rfl) rfl (okWide_bool_mk Tryz.underlying4 _))⟩

/-- A world for the witness: the settled one, the table (block 0) holding what its initialiser lays. -/
noncomputable def laidWorld (os : Os) : World :=
  { World.holding Tryz.prog os ⟨#[], #[], []⟩ with heap := (World.holding Tryz.prog os ⟨#[], #[], []⟩).heap.modify 0 fun
      | .cells _ t frozen => .cells #[.int .i64 7, .int .i64 11, .int .i64 13, .int .i64 17, .int .i64 19, .int .i64 23, .int .i64 29, .int .i64 31] t frozen
      | o => o }
theorem laid_met (os : Os) : laidMet Tryz.prog Rows.siegelSquaresRow.laid ((laidWorld os).forCall (fun _ _ => 0) ⟨#[], #[], []⟩).memory :=
  laidMet_of_run' 8 (by kernel_rfl) (by kernel_rfl)
theorem reads (os : Os) {H : Type} (enc : TypeId × Value → H) : ∃ places, DataW.whole enc Tryz.prog ((laidWorld os).forCall (fun _ _ => 0) ⟨#[], #[], []⟩).memory Tryz.f3.params.toList Rows.siegelSquaresSpec.vars false (#[] : Array Value).toList 8 = some ([], [], places) :=
  ⟨[], by kernel_rfl⟩

theorem lifted (os : Os) (started : os.Started) (H : Type) (enc : TypeId × Value → H) (F : Stop.Interp) :
    ReturnsInHanded {} Tryz.checked os 3 .any ((OpenSpec.ofChange Rows.siegelSquaresSpec).preRow enc Tryz.prog Tryz.f3 Rows.siegelSquaresRow.domain false Rows.siegelSquaresRow.laid) (((OpenSpec.ofChange Rows.siegelSquaresSpec).at F).post enc Tryz.prog Tryz.f3 false true false false) := by
  obtain ⟨places, hx⟩ := reads os enc
  refine returnsInHanded_of_row (C := Tryz.checked) (s := OpenSpec.ofChange Rows.siegelSquaresSpec) own started (by kernel_rfl) Tryz.func3
    (witness_row_at (enc := enc) (C := Tryz.checked) false (laidWorld os) #[] rfl (by kernel_rfl) (by kernel_rfl) (by kernel_rfl)
      (OpenSpec.preRow_of_cond 8 hx (by kernel_rfl) (fun k hk => by cases hk) (by kernel_rfl) (laid_met os))) ?_
  intro W base args ds gs before hval hW _ _ _ hL _ _
  exact contract H enc W base args ds gs before hval hW hL

theorem said : Rows.SiegelSquaresSaid :=
  OpenClaim.holds_of_cond 3 Tryz.f3 rfl rfl rfl rfl rfl rfl rfl ⟨rfl, rfl, rfl, rfl, rfl⟩ rfl rfl rfl rfl rfl (by kernel_rfl) Tryz.func3 (by kernel_rfl)
    (of_decide_eq_true (by kernel_rfl)) (by unfold Func.isWrapper; first | (rw [if_pos (by decide +kernel)]; kernel_rfl) | (rw [if_neg (by decide +kernel)]; exact ⟨rfl, rfl⟩))
    (fun os started H enc _ F => by rw [OpenClaim.pre_eq_preRow]; exact lifted os started H enc F)

theorem plain (f : FuncId) (fn : Func) (hf : Tryz.pinned.checked.prog.funcNamed "quadform/quadformlaw40.SiegelSquares" = some f) (hfn : Tryz.pinned.checked.prog.funcs[f]? = some fn) :
    false = Tryz.pinned.checked.prog.looks [] ∧ ∀ (j : Nat) t, fn.params[j]? = some t → Tryz.pinned.checked.prog.wantsStandIn t = false := by
  obtain rfl : f = 3 := Option.some.inj ((show Tryz.prog.funcNamed "quadform/quadformlaw40.SiegelSquares" = some 3 by kernel_rfl).symm.trans hf) |>.symm
  obtain rfl : fn = Tryz.f3 := (Option.some.inj (Tryz.func3.symm.trans hfn)).symm
  refine ⟨by kernel_rfl, fun j t ht => ?_⟩
  rw [Tryz.params3] at ht
  simp at ht

/-- The card. -/
theorem card : Rows.SiegelSquaresCardSaid :=
  Claim7.holds_tied_plain_at .later [] _ _ _ _ said (fun _ h => by cases h) (by kernel_rfl) (fun _ h => by cases h) siegelSquares_row_tie rfl ⟨rfl, rfl⟩ (by kernel_rfl) rfl plain (by kernel_rfl)
end Go.Proofs.YtbcjjalhomlaaaaGreatDoorRR.siegelSquares
