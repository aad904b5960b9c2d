/- siegel.count as an entry of the fast evaluator. -/
import Derived.Test.YtbcjjalhomlaaaaGreatDoorRRKRT
namespace Go.Proofs.YtbcjjalhomlaaaaGreatDoorRR
set_option linter.unusedSimpArgs false
set_option linter.unusedVariables false
open Go Go.AL Go.Proofs
set_option maxRecDepth 100000

noncomputable def g79b (c : FR) (args : List AV) (H : Heap) : O :=
  nilK H (hd2 args fun h m => onSl h (fun _ _ _ _ _ => none) fun hs n ch => onInt m fun kd v => sameK kd .i64 (natI v fun M =>
    ifK (Nat.ble 1 M) (ifK (Nat.ble M 1000000) (ifK (Nat.ble n 100) (rtK (c .d0 .d5 .d15 [.vec hs n ch, .int .i64 (.ofNat M)] []) fun r h => nilK h (onTup r fun l => hd2 l fun q b => onSl q (fun _ _ _ _ _ => none) fun rows n' _ =>
      onInt b fun _ _ => ifK (Nat.beq n' n) (ifK (Nat.beq rows.length n) (matK n M rows fun g => cntK g n M fun fin => spK (ints fin) fun l => some (.vec l M (some M), [])))))))))

theorem g79b_ok : EOT Tryz.prog G okB 79 (.own g79b) := by
  intro c hc args H v H' h
  obtain ⟨rfl, h⟩ := nilK_inv h
  obtain ⟨a, m, rfl, h⟩ := hd2_inv h
  rcases onSl_inv h with ⟨_, _, _, _, _, _, h⟩ | ⟨hs, n, ch, rfl, h⟩
  · simp at h
  obtain ⟨kd, w, rfl, h⟩ := onInt_inv h
  have e := (sameK_inv h).1
  replace h := (sameK_inv h).2
  subst e
  obtain ⟨M, hw, h5⟩ := natI_inv h
  clear h
  subst hw
  obtain ⟨hM, h⟩ := ifK_inv h5
  clear h5
  obtain ⟨hM2, h⟩ := ifK_inv h
  obtain ⟨hn, h⟩ := ifK_inv h
  rw [Nat.ble_eq] at hM hM2 hn
  obtain ⟨r, h', hr, h⟩ := rtK_inv h
  obtain ⟨rfl, h⟩ := nilK_inv h
  obtain ⟨l, rfl, h⟩ := onTup_inv h
  obtain ⟨q, b, rfl, h⟩ := hd2_inv h
  rcases onSl_inv h with ⟨_, _, _, _, _, _, h⟩ | ⟨rows, n', cg, rfl, h⟩
  · simp at h
  obtain ⟨kd2, en, rfl, h⟩ := onInt_inv h
  obtain ⟨hn', h⟩ := ifK_inv h
  have hn' := Nat.eq_of_beq_eq_true hn'
  subst hn'
  obtain ⟨hrl, h⟩ := ifK_inv h
  have hrl := Nat.eq_of_beq_eq_true hrl
  obtain ⟨g, hg, h⟩ := matK_inv h
  obtain ⟨fin, hrun, h⟩ := cntK_inv h
  rw [spK_eq] at h
  simp only [Option.some.injEq, Prod.mk.injEq] at h
  obtain ⟨rfl, rfl⟩ := h
  have hres := hc 95 _ _ _ _ hr
  rw [hrl] at hg
  exact count_ret (by omega) (by omega) (by omega) (by decide) hres hrl (fun i hi => (hg i hi).1) (fun i hi => (hg i hi).2.1) (fun i hi => (hg i hi).2.2) hrun ((runC_len hrun).trans (by simp))
end Go.Proofs.YtbcjjalhomlaaaaGreatDoorRR
