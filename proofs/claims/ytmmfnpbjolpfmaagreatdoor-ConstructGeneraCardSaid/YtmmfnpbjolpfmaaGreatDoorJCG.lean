/- quadformlaw30.ConstructGenera returns true at every input, in every world in which the package variable quadform/prime.offsets and quadform/minkowski.conditions holds what the program's text lays: the genera of the forms of All are exactly those that exist. Conditions: none beyond the card's own. -/
import Derived.Test.YtmmfnpbjolpfmaaGreatDoorCards
import Derived.Test.YtmmfnpbjolpfmaaGreatDoorTie
import Derived.Test.YtmmfnpbjolpfmaaGreatDoorLX
import Derived.Test.YtmmfnpbjolpfmaaGreatDoorAL36
import Derived.WalkKit
import Derived.ProofKit
import Derived.OpenShut
import Derived.Deep.DeepHandedRow
import Derived.Lib.LaidTab
namespace Go.Proofs.YtmmfnpbjolpfmaaGreatDoor.constructGenera
set_option linter.unusedSimpArgs false
set_option linter.unusedVariables false
open Go Go.AL Go.Proofs Go.ChangeShapes Go.WideShapes Go.ChangeAt Go.RowKit

set_option maxRecDepth 100000
set_option linter.unusedVariables false

theorem own : ownKnob Tryz.prog.godebug = none := by kernel_rfl
theorem gTab : Tryz.prog.globalNamed "quadform/prime.offsets" = some 0 := by kernel_rfl
theorem gTabType : (Tryz.prog.globals[0]?).map (·.type) = some 161 := by kernel_rfl
theorem cellsT : Tryz.prog.cellsOf 161 = 8 := by kernel_rfl
theorem cellsE : Tryz.prog.cellsOf 2 = 1 := by kernel_rfl

theorem table {W : World} (h : laidMetH Tryz.prog Rows.constructGeneraRow.laid W) : Lib.TabIs Tryz.prog W "quadform/prime.offsets" .i64 [7, 11, 13, 17, 19, 23, 29, 31] :=
  Lib.tabIs_of_head (rest := [("quadform/minkowski.conditions", Rows.laid_quadform_minkowski_conditions)]) gTab gTabType Tryz.underlying161 Tryz.underlying2 cellsE cellsT h
theorem gTab2 : Tryz.prog.globalNamed "quadform/minkowski.conditions" = some 1 := by kernel_rfl
theorem gTabType2 : (Tryz.prog.globals[1]?).map (·.type) = some 257 := by kernel_rfl
theorem cellsT2 : Tryz.prog.cellsOf 257 = 4 := by kernel_rfl
theorem cellsE2 : Tryz.prog.cellsOf 3 = 1 := by kernel_rfl
theorem laid_tail {P : Program} {W : World} {x : String × DataW Unit} {r : List (String × DataW Unit)} (h : laidMet P (x :: r) W) : laidMet P r W := by
  obtain ⟨n, d⟩ := x
  obtain ⟨ps, ⟨g, t, cs, fuel, p, q, _, _, _, _, hq, rfl⟩, hnd, hc⟩ := h
  exact ⟨q, hq, (List.nodup_append.1 hnd).2.1, fun b off hm => hc b off (List.mem_append.2 (.inr hm))⟩
theorem table2 {W : World} (h : laidMetH Tryz.prog Rows.constructGeneraRow.laid W) : Lib.TabIs Tryz.prog W "quadform/minkowski.conditions" .i64 [1, 3, 9, 27] :=
  Lib.tabIs_of_head (rest := []) gTab2 gTabType2 Tryz.underlying257 Tryz.underlying3 cellsE2 cellsT2 (laid_tail (x := ("quadform/prime.offsets", Rows.laid_quadform_prime_offsets)) h)

theorem glob {W : World} (h : laidMetH Tryz.prog Rows.constructGeneraRow.laid W) : ∀ g cs, (g, cs) ∈ G.globs → IRep W (fun _ => False) (.iptr cs 0) (.pointer (some ⟨g, 0, none⟩)) := by
  intro g cs hm
  simp only [G, mkG, List.mem_cons, List.not_mem_nil, or_false, Prod.mk.injEq] at hm
  rcases hm with ⟨rfl, rfl⟩ | ⟨rfl, rfl⟩
  · have hc := fun i hi => (table h).cell gTab i hi
    refine .iptr _ 0 0 0 (fun j => .int .i64 (([7, 11, 13, 17, 19, 23, 29, 31] : List Int).getD j 0)) (fun _ h => h) (fun j hj => ?_) (fun j a ha => ?_)
    · have hj : j < 8 := hj
      have := hc j hj
      rw [Nat.zero_add]
      match j, hj with
      | 0, _ => exact this
      | 1, _ => exact this
      | 2, _ => exact this
      | 3, _ => exact this
      | 4, _ => exact this
      | 5, _ => exact this
      | 6, _ => exact this
      | 7, _ => exact this
      | n + 8, h => exact absurd h (by omega)
    · match j, ha with
      | 0, ha => cases ha; exact .int _ _
      | 1, ha => cases ha; exact .int _ _
      | 2, ha => cases ha; exact .int _ _
      | 3, ha => cases ha; exact .int _ _
      | 4, ha => cases ha; exact .int _ _
      | 5, ha => cases ha; exact .int _ _
      | 6, ha => cases ha; exact .int _ _
      | 7, ha => cases ha; exact .int _ _
      | n + 8, ha => simp at ha
  · have hc := fun i hi => (table2 h).cell gTab2 i hi
    refine .iptr _ 0 1 0 (fun j => .int .i64 (([1, 3, 9, 27] : List Int).getD j 0)) (fun _ h => h) (fun j hj => ?_) (fun j a ha => ?_)
    · have hj : j < 4 := hj
      have := hc j hj
      rw [Nat.zero_add]
      match j, hj with
      | 0, _ => exact this
      | 1, _ => exact this
      | 2, _ => exact this
      | 3, _ => exact this
      | n + 4, h => exact absurd h (by omega)
    · match j, ha with
      | 0, ha => cases ha; exact .int _ _
      | 1, ha => cases ha; exact .int _ _
      | 2, ha => cases ha; exact .int _ _
      | 3, ha => cases ha; exact .int _ _
      | n + 4, ha => simp at ha

theorem contract (H : Type) (enc : TypeId × Value → H) (W : World) (base : Nat) (args : Array Value) (ds gs : List (DataW H)) (before : List MemPlace)
    (hval : ∀ (j : Nat) t v, Tryz.f3.params[j]? = some t → args[j]? = some v → Value.okWide Tryz.prog W .any base t v)
    (hW : DataW.Whole enc Tryz.prog Tryz.f3.params.toList Rows.constructGeneraSpec.vars false W args.toList ds gs before) (hL : laidMetH Tryz.prog Rows.constructGeneraRow.laid W) :
    Calls Tryz.prog 3 args W fun e W' => ∃ v, e = .returned v ∧ Rows.constructGeneraSpec.post enc Tryz.prog Tryz.f3 false true false false W args v W' := by
  have hW' := hW
  obtain ⟨p, q, hA0, hV, rfl, hfz, hnd⟩ := hW
  have hA : DataW.TrodAll enc Tryz.prog W 0 (fun _ => true) true Tryz.f3.params.toList args.toList ds p := hA0
  rw [Tryz.params3] at hA hval
  obtain ⟨v0, vs0, d0, ds0, p0, q0, hargs, rfl, rfl, h0, r0⟩ := trodAll_cons hA
  obtain ⟨v1, vs1, d1, ds1, p1, q1, rfl, rfl, rfl, h1, r1⟩ := trodAll_cons r0
  obtain ⟨rfl, rfl, rfl⟩ := trodAll_nil r1
  obtain rfl : args = #[v0, v1] := by cases args; simp_all
  obtain ⟨rfl, rfl⟩ := trodVars_none hV
  obtain ⟨a0, rfl, rfl, rfl, w0⟩ := open_int Tryz.underlying5 (hval 0 5 v0 rfl rfl) h0
  obtain ⟨a1, rfl, rfl, rfl, w1⟩ := open_int Tryz.underlying5 (hval 1 5 v1 rfl rfl) h1
  clear hA0
  simp only [List.append_nil] at hW'
  refine (calls_of_ret (genera_ret a0 a1 w0 w1) (by decide) (glob hL) rfl (fun j a u h hu => ?_)).mono fun e W' ⟨u, he, hk, hr⟩ => ?_
  · match j, h, hu with
    | 0, h, hu => simp at h hu; subst h hu; exact .int _ _
    | 1, h, hu => simp at h hu; subst h hu; exact .int _ _
    | n + 2, h, hu => simp at h
  subst he
  obtain rfl : u = .bool true := by cases hr; rfl
  exact ⟨_, rfl, post_old (pa := []) (pv := []) hW' (fun _ _ _ => trodAll_cons_mk (shut_bool Tryz.underlying4 _) trodAll_mk0) (fun _ _ => (trodAll_cons_mk (shut_int Tryz.underlying5 w0) (trodAll_cons_mk (shut_int Tryz.underlying5 w1) trodAll_mk0))) (fun _ _ => rfl) rfl
    hk (ok_one (by kernel_rfl) rfl (okWide_bool_mk Tryz.underlying4 _))⟩

def laidB (c : Array Value) : Obj → Obj
  | .cells _ t frozen => .cells c t frozen
  | o => o
/-- A world for the witness: the settled one, the table (block 0) holding what its initialiser lays. -/
noncomputable def laidWorld (os : Os) : World :=
  { World.holding Tryz.prog os ⟨#[], #[.int .u8 0, .int .u8 0], []⟩ with heap := ((World.holding Tryz.prog os ⟨#[], #[.int .u8 0, .int .u8 0], []⟩).heap.modify 0 (laidB #[.int .i64 7, .int .i64 11, .int .i64 13, .int .i64 17, .int .i64 19, .int .i64 23, .int .i64 29, .int .i64 31])).modify 1 (laidB #[.int .i64 1, .int .i64 3, .int .i64 9, .int .i64 27]) }
theorem laid_met (os : Os) : laidMet Tryz.prog Rows.constructGeneraRow.laid ((laidWorld os).forCall (fun _ _ => 0) ⟨#[], #[.int .u8 0, .int .u8 0], []⟩).memory :=
  laidMet_of_run' 8 (by kernel_rfl) (by kernel_rfl)
theorem reads (os : Os) {H : Type} (enc : TypeId × Value → H) : ∃ places, DataW.whole enc Tryz.prog ((laidWorld os).forCall (fun _ _ => 0) ⟨#[], #[.int .u8 0, .int .u8 0], []⟩).memory Tryz.f3.params.toList Rows.constructGeneraSpec.vars false (#[.int .u8 0, .int .u8 0] : Array Value).toList 8 = some ([.lit (.int .u8 0), .lit (.int .u8 0)], [], places) :=
  ⟨[], by kernel_rfl⟩

theorem lifted (os : Os) (started : os.Started) (H : Type) (enc : TypeId × Value → H) (F : Stop.Interp) :
    ReturnsInHanded {} Tryz.checked os 3 .any ((OpenSpec.ofChange Rows.constructGeneraSpec).preRow enc Tryz.prog Tryz.f3 Rows.constructGeneraRow.domain false Rows.constructGeneraRow.laid) (((OpenSpec.ofChange Rows.constructGeneraSpec).at F).post enc Tryz.prog Tryz.f3 false true false false) := by
  obtain ⟨places, hx⟩ := reads os enc
  refine returnsInHanded_of_row (C := Tryz.checked) (s := OpenSpec.ofChange Rows.constructGeneraSpec) own started (by kernel_rfl) Tryz.func3
    (witness_row_at (enc := enc) (C := Tryz.checked) false (laidWorld os) #[.int .u8 0, .int .u8 0] rfl (by kernel_rfl) (by kernel_rfl) (by kernel_rfl)
      (OpenSpec.preRow_of_cond 8 hx (by kernel_rfl) (fun k hk => by cases hk) (by kernel_rfl) (laid_met os))) ?_
  intro W base args ds gs before hval hW _ _ _ hL _ _
  exact contract H enc W base args ds gs before hval hW hL

theorem said : Rows.ConstructGeneraSaid :=
  OpenClaim.holds_of_cond 3 Tryz.f3 rfl rfl rfl rfl rfl rfl rfl ⟨rfl, rfl, rfl, rfl, rfl⟩ rfl rfl rfl rfl rfl (by kernel_rfl) Tryz.func3 (by kernel_rfl)
    (of_decide_eq_true (by kernel_rfl)) (by unfold Func.isWrapper; first | (rw [if_pos (by decide +kernel)]; kernel_rfl) | (rw [if_neg (by decide +kernel)]; exact ⟨rfl, rfl⟩))
    (fun os started H enc _ F => by rw [OpenClaim.pre_eq_preRow]; exact lifted os started H enc F)

theorem plain (f : FuncId) (fn : Func) (hf : Tryz.pinned.checked.prog.funcNamed "quadform/quadformlaw30.ConstructGenera" = some f) (hfn : Tryz.pinned.checked.prog.funcs[f]? = some fn) :
    false = Tryz.pinned.checked.prog.looks [] ∧ ∀ (j : Nat) t, fn.params[j]? = some t → Tryz.pinned.checked.prog.wantsStandIn t = false := by
  obtain rfl : f = 3 := Option.some.inj ((show Tryz.prog.funcNamed "quadform/quadformlaw30.ConstructGenera" = some 3 by kernel_rfl).symm.trans hf) |>.symm
  obtain rfl : fn = Tryz.f3 := (Option.some.inj (Tryz.func3.symm.trans hfn)).symm
  refine ⟨by kernel_rfl, fun j t ht => ?_⟩
  rw [Tryz.params3] at ht
  match j, ht with
  | 0, ht => simp at ht; subst ht; show Tryz.prog.wantsStandIn 5 = false; kernel_rfl
  | 1, ht => simp at ht; subst ht; show Tryz.prog.wantsStandIn 5 = false; kernel_rfl
  | n + 2, ht => simp at ht

/-- The card. -/
theorem card : Rows.ConstructGeneraCardSaid :=
  Claim7.holds_tied_plain_at .later [] _ _ _ _ said (fun _ h => by cases h) (by kernel_rfl) (fun _ h => by cases h) constructGenera_row_tie rfl ⟨rfl, rfl⟩ (by kernel_rfl) rfl plain (by kernel_rfl)
end Go.Proofs.YtmmfnpbjolpfmaaGreatDoor.constructGenera
