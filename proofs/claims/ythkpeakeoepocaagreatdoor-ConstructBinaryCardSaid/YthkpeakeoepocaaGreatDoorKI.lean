/- Known entries for the evaluator: package integer at numbers of at most one limb. -/
import Derived.Test.YthkpeakeoepocaaGreatDoorIC4
import Derived.Test.YthkpeakeoepocaaGreatDoorAL34
namespace Go.Proofs.YthkpeakeoepocaaGreatDoor
set_option linter.unusedSimpArgs false
set_option linter.unusedVariables false
open Go Go.AL Go.Proofs
set_option maxRecDepth 100000

/-- A number of at most one limb: its sign and its absolute value. -/
noncomputable def zN (v : AV) (k0 : Bool → O) (k1 : Bool → Nat → O) : O := match v with
  | .agg [.bool s, .vec l n _] => match l, n with
    | [], 0 => k0 s
    | [.int .u32 (.ofNat (x + 1))], 1 => ifK (Nat.ble x (nat_lit 4294967294)) (natK (Nat.succ x) fun x => k1 s x)
    | _, _ => none
  | _ => none
theorem zN_inv {v : AV} {k0 : Bool → O} {k1 : Bool → Nat → O} {R : AV × Heap} (h : zN v k0 k1 = some R) :
    (∃ s c, v = .agg [.bool s, .vec [] 0 c] ∧ k0 s = some R) ∨ (∃ s x c, v = .agg [.bool s, .vec [.int .u32 ((x : Nat) : Int)] 1 c] ∧ x ≠ 0 ∧ x < 4294967296 ∧ k1 s x = some R) := by
  unfold zN at h
  split at h
  · rename_i s l n c
    split at h
    · exact .inl ⟨s, c, rfl, h⟩
    · rename_i x
      obtain ⟨h1, h⟩ := ifK_inv h
      rw [natK_eq] at h
      rw [Nat.ble_eq] at h1
      have h1 : x ≤ 4294967294 := h1
      exact .inr ⟨s, x + 1, c, rfl, by omega, by omega, h⟩
    · simp at h
  · simp at h
noncomputable def g1 (args : List AV) (H : Heap) (k : AV → O) : O := match args, H with
  | [a], [] => k a
  | _, _ => none
noncomputable def g2 (args : List AV) (H : Heap) (k : AV → AV → O) : O := match args, H with
  | [a, b], [] => k a b
  | _, _ => none
theorem g1_inv {args : List AV} {H : Heap} {k : AV → O} {R : AV × Heap} (h : g1 args H k = some R) : ∃ a, args = [a] ∧ H = [] ∧ k a = some R := by
  unfold g1 at h
  split at h
  · exact ⟨_, rfl, rfl, h⟩
  · simp at h
theorem g2_inv {args : List AV} {H : Heap} {k : AV → AV → O} {R : AV × Heap} (h : g2 args H k = some R) : ∃ a b, args = [a, b] ∧ H = [] ∧ k a b = some R := by
  unfold g2 at h
  split at h
  · exact ⟨_, _, rfl, rfl, h⟩
  · simp at h
def Z0 : AV := .agg [.bool false, .vec [] 0 (some 0)]
def Z0R : O := some (Z0, [])
noncomputable def zR (s : Bool) (x : Nat) (c : Option Nat) : O := boK s fun s => natK x fun x => some (.agg [.bool s, .vec [.int .u32 (.ofNat x)] 1 c], [])
theorem zR_eq (s : Bool) (x : Nat) (c : Option Nat) : zR s x c = some (.agg [.bool s, .vec [.int .u32 ((x : Nat) : Int)] 1 c], []) := by
  unfold zR
  rw [boK_eq, natK_eq]
  rfl
noncomputable def nB (b : Bool) : Bool := Bool.rec (motive := fun _ => Bool) true false b
theorem nB_eq (b : Bool) : nB b = !b := by cases b <;> rfl
noncomputable def eB (a b : Bool) : Bool := Bool.rec (motive := fun _ => Bool → Bool) (fun b => nB b) (fun b => b) a b
theorem eB_eq (a b : Bool) : eB a b = (a == b) := by cases a <;> cases b <;> rfl

-- Mul
noncomputable def gMul (args : List AV) (H : Heap) : O := g2 args H fun a b =>
  zN a (fun _ => zN b (fun _ => Z0R) (fun _ _ => Z0R)) fun s x => zN b (fun _ => Z0R) fun t y => ifK (Nat.ble (Nat.mul x y) (nat_lit 4294967295)) (zR (nB (eB s t)) (Nat.mul x y) (some 2))
theorem gMul_ok : ∀ args H v H', gMul args H = some (v, H') → Ret Tryz.prog G 28 args H v H' := by
  intro args H v H' h0
  obtain ⟨a, b, rfl, rfl, h1⟩ := g2_inv h0
  clear h0
  rcases zN_inv h1 with ⟨s, c, rfl, h2⟩ | ⟨s, x, c, rfl, hx, hx', h2⟩ <;> clear h1 <;> rcases zN_inv h2 with ⟨t, d, rfl, h⟩ | ⟨t, y, d, rfl, hy, hy', h⟩ <;> clear h2
  · cases h; exact mul00 s t c d
  · cases h; exact mul01 s t y c d hy hy'
  · cases h; exact mul10 s t x c d hx hx'
  · obtain ⟨h1, h⟩ := ifK_inv h
    rw [Nat.ble_eq] at h1
    rw [zR_eq, nB_eq, eB_eq] at h
    cases h
    exact mul11 s t x y c d hx hx' hy hy' (by have h1 : x * y ≤ 4294967295 := h1; omega)

/-- The sum of numbers given by sign and absolute value; u: the second sign as it counts. -/
noncomputable def addZ (b : AV) (f : Bool → Bool) (a : AV) : O :=
  zN a (fun s => zN b (fun _ => Z0R) (fun t y => bsel (eB s (f t)) (zR s y (some 2)) (zR (f t) y (some 1))))
    fun s x => zN b (fun t => bsel (eB s (f t)) (zR s x (some 2)) (zR s x (some 1))) fun t y =>
      bsel (eB s (f t)) (ifK (Nat.ble (Nat.add x y) (nat_lit 4294967295)) (zR s (Nat.add x y) (some 2)))
        (bsel (Nat.beq x y) Z0R (bsel (Nat.ble x y) (zR (f t) (Nat.sub y x) (some 1)) (zR s (Nat.sub x y) (some 1))))
theorem bsel_cases {b : Bool} {x y : O} {R : AV × Heap} (h : bsel b x y = some R) : (b = true ∧ x = some R) ∨ (b = false ∧ y = some R) := by
  cases b
  · exact .inr ⟨rfl, h⟩
  · exact .inl ⟨rfl, h⟩
noncomputable def gAdd (args : List AV) (H : Heap) : O := g2 args H fun a b => addZ b (fun t => t) a
theorem gAdd_ok : ∀ args H v H', gAdd args H = some (v, H') → Ret Tryz.prog G 164 args H v H' := by
  intro args H v H' h0
  obtain ⟨a, b, rfl, rfl, h1⟩ := g2_inv h0
  clear h0
  unfold addZ at h1
  rcases zN_inv h1 with ⟨s, c, rfl, h2⟩ | ⟨s, x, c, rfl, hx, hx', h2⟩ <;> clear h1 <;> rcases zN_inv h2 with ⟨t, d, rfl, h⟩ | ⟨t, y, d, rfl, hy, hy', h⟩ <;> clear h2
  · cases h
    cases hst : (s == t) with
    | true => exact add_s00 s t c d hst
    | false => exact add_d00 s t c d hst
  · rcases bsel_cases h with ⟨h1, h⟩ | ⟨h1, h⟩
    · rw [eB_eq] at h1; rw [zR_eq] at h; cases h; exact add_s01 s t y c d h1 hy hy'
    · rw [eB_eq] at h1; rw [zR_eq] at h; cases h; exact add_d01 s t y c d h1 hy hy'
  · rcases bsel_cases h with ⟨h1, h⟩ | ⟨h1, h⟩
    · rw [eB_eq] at h1; rw [zR_eq] at h; cases h; exact add_s10 s t x c d h1 hx hx'
    · rw [eB_eq] at h1; rw [zR_eq] at h; cases h; exact add_d10 s t x c d h1 hx hx'
  · rcases bsel_cases h with ⟨h1, h⟩ | ⟨h1, h⟩
    · rw [eB_eq] at h1
      obtain ⟨h2, h⟩ := ifK_inv h
      rw [Nat.ble_eq] at h2
      rw [zR_eq] at h; cases h
      exact add_s11 s t x y c d h1 hx hx' hy hy' (by have h2 : x + y ≤ 4294967295 := h2; omega)
    · rw [eB_eq] at h1
      rcases bsel_cases h with ⟨h2, h⟩ | ⟨h2, h⟩
      · cases h
        exact add_d11e s t x y c d h1 hx hx' hy hy' (Nat.eq_of_beq_eq_true h2)
      · have hne : x ≠ y := Nat.ne_of_beq_eq_false h2
        rcases bsel_cases h with ⟨h3, h⟩ | ⟨h3, h⟩
        · rw [Nat.ble_eq] at h3
          rw [zR_eq] at h; cases h
          exact add_d11l s t x y c d h1 hx hx' hy hy' (by omega)
        · have h3 : ¬ x ≤ y := fun hh => by rw [Nat.ble_eq_true_of_le hh] at h3; cases h3
          rw [zR_eq] at h; cases h
          exact add_d11g s t x y c d h1 hx hx' hy hy' (by omega)
noncomputable def gSub (args : List AV) (H : Heap) : O := g2 args H fun a b => addZ b nB a
theorem gSub_ok : ∀ args H v H', gSub args H = some (v, H') → Ret Tryz.prog G 167 args H v H' := by
  intro args H v H' h0
  obtain ⟨a, b, rfl, rfl, h1⟩ := g2_inv h0
  clear h0
  unfold addZ at h1
  rcases zN_inv h1 with ⟨s, c, rfl, h2⟩ | ⟨s, x, c, rfl, hx, hx', h2⟩ <;> clear h1 <;> rcases zN_inv h2 with ⟨t, d, rfl, h⟩ | ⟨t, y, d, rfl, hy, hy', h⟩ <;> clear h2
  · cases h
    cases hst : (s == (!t)) with
    | true => exact sub_s00 s t c d hst
    | false => exact sub_d00 s t c d hst
  · rcases bsel_cases h with ⟨h1, h⟩ | ⟨h1, h⟩
    · rw [eB_eq, nB_eq] at h1; rw [zR_eq] at h; cases h; exact sub_s01 s t y c d h1 hy hy'
    · rw [eB_eq, nB_eq] at h1; rw [zR_eq, nB_eq] at h; cases h; exact sub_d01 s t y c d h1 hy hy'
  · rcases bsel_cases h with ⟨h1, h⟩ | ⟨h1, h⟩
    · rw [eB_eq, nB_eq] at h1; rw [zR_eq] at h; cases h; exact sub_s10 s t x c d h1 hx hx'
    · rw [eB_eq, nB_eq] at h1; rw [zR_eq] at h; cases h; exact sub_d10 s t x c d h1 hx hx'
  · rcases bsel_cases h with ⟨h1, h⟩ | ⟨h1, h⟩
    · rw [eB_eq, nB_eq] at h1
      obtain ⟨h2, h⟩ := ifK_inv h
      rw [Nat.ble_eq] at h2
      rw [zR_eq] at h; cases h
      exact sub_s11 s t x y c d h1 hx hx' hy hy' (by have h2 : x + y ≤ 4294967295 := h2; omega)
    · rw [eB_eq, nB_eq] at h1
      rcases bsel_cases h with ⟨h2, h⟩ | ⟨h2, h⟩
      · cases h
        exact sub_d11e s t x y c d h1 hx hx' hy hy' (Nat.eq_of_beq_eq_true h2)
      · have hne : x ≠ y := Nat.ne_of_beq_eq_false h2
        rcases bsel_cases h with ⟨h3, h⟩ | ⟨h3, h⟩
        · rw [Nat.ble_eq] at h3
          rw [zR_eq, nB_eq] at h; cases h
          exact sub_d11l s t x y c d h1 hx hx' hy hy' (by omega)
        · have h3 : ¬ x ≤ y := fun hh => by rw [Nat.ble_eq_true_of_le hh] at h3; cases h3
          rw [zR_eq] at h; cases h
          exact sub_d11g s t x y c d h1 hx hx' hy hy' (by omega)

noncomputable def iR (n : Int) : O := some (.int .i64 n, [])
-- Sign
noncomputable def gSign (args : List AV) (H : Heap) : O := g1 args H fun a => zN a (fun _ => iR (.ofNat 0)) fun s _ => bsel s (iR (.negSucc 0)) (iR (.ofNat 1))
theorem gSign_ok : ∀ args H v H', gSign args H = some (v, H') → Ret Tryz.prog G 107 args H v H' := by
  intro args H v H' h0
  obtain ⟨a, rfl, rfl, h1⟩ := g1_inv h0
  clear h0
  rcases zN_inv h1 with ⟨s, c, rfl, h⟩ | ⟨s, x, c, rfl, hx, hx', h⟩
  · cases h; exact sign0 s c
  · cases s
    · cases h; exact sign1f x c hx hx'
    · cases h; exact sign1t x c hx hx'
-- Cmp
noncomputable def cmpN (x y : Nat) (l e g : O) : O := bsel (Nat.beq x y) e (bsel (Nat.ble x y) l g)
noncomputable def gCmp (args : List AV) (H : Heap) : O := g2 args H fun a b =>
  zN a (fun _ => zN b (fun _ => iR (.ofNat 0)) (fun t _ => bsel t (iR (.ofNat 1)) (iR (.negSucc 0))))
    fun s x => zN b (fun _ => bsel s (iR (.negSucc 0)) (iR (.ofNat 1))) fun t y =>
      bsel s (bsel t (cmpN x y (iR (.ofNat 1)) (iR (.ofNat 0)) (iR (.negSucc 0))) (iR (.negSucc 0))) (bsel t (iR (.ofNat 1)) (cmpN x y (iR (.negSucc 0)) (iR (.ofNat 0)) (iR (.ofNat 1))))
theorem cmpN_inv {x y : Nat} {l e g : O} {R : AV × Heap} (h : cmpN x y l e g = some R) : (x < y ∧ l = some R) ∨ (x = y ∧ e = some R) ∨ (y < x ∧ g = some R) := by
  rcases bsel_cases h with ⟨h1, h⟩ | ⟨h1, h⟩
  · exact .inr (.inl ⟨Nat.eq_of_beq_eq_true h1, h⟩)
  · have hne : x ≠ y := Nat.ne_of_beq_eq_false h1
    rcases bsel_cases h with ⟨h3, h⟩ | ⟨h3, h⟩
    · rw [Nat.ble_eq] at h3; exact .inl ⟨by omega, h⟩
    · have h3 : ¬ x ≤ y := fun hh => by rw [Nat.ble_eq_true_of_le hh] at h3; cases h3
      exact .inr (.inr ⟨by omega, h⟩)
theorem gCmp_ok : ∀ args H v H', gCmp args H = some (v, H') → Ret Tryz.prog G 69 args H v H' := by
  intro args H v H' h0
  obtain ⟨a, b, rfl, rfl, h1⟩ := g2_inv h0
  clear h0
  rcases zN_inv h1 with ⟨s, c, rfl, h2⟩ | ⟨s, x, c, rfl, hx, hx', h2⟩ <;> clear h1 <;> rcases zN_inv h2 with ⟨t, d, rfl, h⟩ | ⟨t, y, d, rfl, hy, hy', h⟩ <;> clear h2
  · cases h; exact cmp_zz s t c d
  · cases t
    · cases h; exact cmp_zp s y c d hy hy'
    · cases h; exact cmp_zn s y c d hy hy'
  · cases s
    · cases h; exact cmp_pz t x c d hx hx'
    · cases h; exact cmp_nz t x c d hx hx'
  · cases s <;> cases t
    · rcases cmpN_inv h with ⟨hh, h⟩ | ⟨hh, h⟩ | ⟨hh, h⟩
      · cases h; exact cmp_ppl x y c d hx hx' hy hy' hh
      · cases h; exact cmp_ppe x y c d hx hx' hy hy' hh
      · cases h; exact cmp_ppg x y c d hx hx' hy hy' hh
    · cases h; exact cmp_pn x y c d hx hx' hy hy'
    · cases h; exact cmp_np x y c d hx hx' hy hy'
    · rcases cmpN_inv h with ⟨hh, h⟩ | ⟨hh, h⟩ | ⟨hh, h⟩
      · cases h; exact cmp_nnl x y c d hx hx' hy hy' hh
      · cases h; exact cmp_nne x y c d hx hx' hy hy' hh
      · cases h; exact cmp_nng x y c d hx hx' hy hy' hh
-- Small
noncomputable def gSmall (args : List AV) (H : Heap) : O := match args, H with
  | [.int .i64 n], [] => match n with
    | .ofNat 0 => Z0R
    | .ofNat (x + 1) => ifK (Nat.ble x (nat_lit 4294967294)) (zR false (Nat.succ x) (some 2))
    | .negSucc x => ifK (Nat.ble x (nat_lit 4294967294)) (zR true (Nat.succ x) (some 2))
  | _, _ => none
theorem gSmall_ok : ∀ args H v H', gSmall args H = some (v, H') → Ret Tryz.prog G 27 args H v H' := by
  intro args H v H' h
  unfold gSmall at h
  split at h
  · rename_i n
    split at h
    · cases h; exact small0
    · rename_i x
      obtain ⟨h1, h⟩ := ifK_inv h
      rw [Nat.ble_eq] at h1
      have h1 : x ≤ 4294967294 := h1
      rw [zR_eq] at h; cases h
      exact smallP (x + 1) (by omega) (by omega)
    · rename_i x
      obtain ⟨h1, h⟩ := ifK_inv h
      rw [Nat.ble_eq] at h1
      have h1 : x ≤ 4294967294 := h1
      rw [zR_eq] at h; cases h
      exact smallN (x + 1) (by omega) (by omega)
  · simp at h
-- Normalize, Neg
noncomputable def gNormalize (args : List AV) (H : Heap) : O := g1 args H fun a => zN a (fun _ => Z0R) fun s x => zR s x none
theorem gNormalize_ok : ∀ args H v H', gNormalize args H = some (v, H') → Ret Tryz.prog G 117 args H v H' := by
  intro args H v H' h0
  obtain ⟨a, rfl, rfl, h1⟩ := g1_inv h0
  clear h0
  rcases zN_inv h1 with ⟨s, c, rfl, h⟩ | ⟨s, x, c, rfl, hx, hx', h⟩
  · cases h; exact normalize0 s c
  · rw [zR_eq] at h; cases h; exact normalize1 s x c hx hx'
noncomputable def gNeg (args : List AV) (H : Heap) : O := g1 args H fun a => zN a (fun _ => Z0R) fun s x => zR (nB s) x none
theorem gNeg_ok : ∀ args H v H', gNeg args H = some (v, H') → Ret Tryz.prog G 165 args H v H' := by
  intro args H v H' h0
  obtain ⟨a, rfl, rfl, h1⟩ := g1_inv h0
  clear h0
  rcases zN_inv h1 with ⟨s, c, rfl, h⟩ | ⟨s, x, c, rfl, hx, hx', h⟩
  · cases h; exact neg0 s c
  · rw [zR_eq, nB_eq] at h; cases h; exact neg1 s x c hx hx'
-- Int64
noncomputable def gInt64 (args : List AV) (H : Heap) : O := g1 args H fun a => zN a (fun _ => some (.tup [.int .i64 (.ofNat 0), .bool true], [])) fun s x => bsel s (some (.tup [.int .i64 (negN x), .bool true], [])) (some (.tup [.int .i64 (.ofNat x), .bool true], []))
theorem gInt64_ok : ∀ args H v H', gInt64 args H = some (v, H') → Ret Tryz.prog G 123 args H v H' := by
  intro args H v H' h0
  obtain ⟨a, rfl, rfl, h1⟩ := g1_inv h0
  clear h0
  rcases zN_inv h1 with ⟨s, c, rfl, h⟩ | ⟨s, x, c, rfl, hx, hx', h⟩
  · cases h; exact int64z s c
  · cases s
    · cases h; exact int64p x c hx hx'
    · have h : some (AV.tup [.int .i64 (negN x), .bool true], ([] : Heap)) = some (v, H') := h
      rw [negN_eq] at h
      cases h
      exact int64n x c hx hx'
-- DivMod
noncomputable def dmR (q : AV) (r : AV) : O := some (.tup [q, r, .bool true], [])
noncomputable def zK (s : Bool) (x : Nat) (c : Option Nat) (k : AV → O) : O := boK s fun s => natK x fun x => k (.agg [.bool s, .vec [.int .u32 (.ofNat x)] 1 c])
theorem zK_eq (s : Bool) (x : Nat) (c : Option Nat) (k : AV → O) : zK s x c k = k (.agg [.bool s, .vec [.int .u32 ((x : Nat) : Int)] 1 c]) := by
  unfold zK
  rw [boK_eq, natK_eq]
  rfl
noncomputable def gDivMod (args : List AV) (H : Heap) : O := g2 args H fun a b =>
  zN a (fun s => zN b (fun _ => none) fun _ _ => ifK (nB s) (dmR Z0 Z0)) fun s x => zN b (fun _ => none) fun t y =>
    bsel (Nat.ble y x)
      (bsel (Nat.beq (Nat.mod x y) (nat_lit 0)) (zK (eB s (nB t)) (Nat.div x y) (some 2) fun q => dmR q Z0) (ifK (nB s) (zK t (Nat.div x y) (some 2) fun q => zK false (Nat.mod x y) (some 2) fun r => dmR q r)))
      (ifK (nB s) (zK false x none fun r => dmR Z0 r))
theorem gDivMod_ok : ∀ args H v H', gDivMod args H = some (v, H') → Ret Tryz.prog G 168 args H v H' := by
  intro args H v H' h0
  obtain ⟨a, b, rfl, rfl, h1⟩ := g2_inv h0
  clear h0
  rcases zN_inv h1 with ⟨s, c, rfl, h2⟩ | ⟨s, x, c, rfl, hx, hx', h2⟩ <;> clear h1 <;> rcases zN_inv h2 with ⟨t, d, rfl, h⟩ | ⟨t, y, d, rfl, hy, hy', h⟩ <;> clear h2
  · cases h
  · obtain ⟨h1, h⟩ := ifK_inv h
    rw [nB_eq] at h1
    cases s
    · cases h; exact divMod_z t y c d hy hy'
    · simp at h1
  · cases h
  · rcases bsel_cases h with ⟨h1, h⟩ | ⟨h1, h⟩
    · rw [Nat.ble_eq] at h1
      rcases bsel_cases h with ⟨h2, h⟩ | ⟨h2, h⟩
      · have h2 : x % y = 0 := Nat.eq_of_beq_eq_true h2
        rw [zK_eq, eB_eq, nB_eq] at h
        cases s
        · have h : dmR (.agg [.bool (false == !t), .vec [.int .u32 ((x / y : Nat) : Int)] 1 (some 2)]) Z0 = some (v, H') := h
          rw [show (false == !t) = t by cases t <;> rfl] at h
          cases h; exact divMod_g0 t x y c d hx hx' hy h1 h2
        · have h : dmR (.agg [.bool (true == !t), .vec [.int .u32 ((x / y : Nat) : Int)] 1 (some 2)]) Z0 = some (v, H') := h
          rw [show (true == !t) = !t by cases t <;> rfl] at h
          cases h; exact divMod_n0 t x y c d hx hx' hy h1 h2
      · have h2 : x % y ≠ 0 := Nat.ne_of_beq_eq_false h2
        obtain ⟨h3, h⟩ := ifK_inv h
        rw [nB_eq] at h3
        cases s
        · rw [zK_eq, zK_eq] at h
          cases h; exact divMod_g1 t x y c d hx hx' hy h1 h2
        · simp at h3
    · have h1 : ¬ y ≤ x := fun hh => by rw [Nat.ble_eq_true_of_le hh] at h1; cases h1
      obtain ⟨h3, h⟩ := ifK_inv h
      rw [nB_eq] at h3
      cases s
      · rw [zK_eq] at h
        cases h; exact divMod_l t x y c d hx hy (by omega)
      · simp at h3
end Go.Proofs.YthkpeakeoepocaaGreatDoor
