/- The fast evaluator: arithmetic and operations as functions with a continuation. -/
import Derived.Test.YtgkpcjahopacjaaGreatDoorAL31
namespace Go.AL
set_option linter.unusedSimpArgs false
set_option linter.unusedVariables false
open Go

noncomputable def okP (k : IntKind) (m : Nat) : Bool := IntKind.rec (motive := fun _ => Nat → Bool) (fun m => Nat.ble m (nat_lit 127)) (fun m => Nat.ble m (nat_lit 32767)) (fun m => Nat.ble m (nat_lit 2147483647)) (fun m => Nat.ble m (nat_lit 9223372036854775807)) (fun m => Nat.ble m (nat_lit 255)) (fun m => Nat.ble m (nat_lit 65535)) (fun m => Nat.ble m (nat_lit 4294967295)) (fun m => Nat.ble m (nat_lit 18446744073709551615)) k m
noncomputable def okM (k : IntKind) (m : Nat) : Bool := IntKind.rec (motive := fun _ => Nat → Bool) (fun m => Nat.ble m (nat_lit 127)) (fun m => Nat.ble m (nat_lit 32767)) (fun m => Nat.ble m (nat_lit 2147483647)) (fun m => Nat.ble m (nat_lit 9223372036854775807)) (fun _ => false) (fun _ => false) (fun _ => false) (fun _ => false) k m

theorem okP_wrap {k : IntKind} {m : Nat} (h : okP k m = true) : k.wrap (.ofNat m) = .ofNat m := by
  cases k <;> simp only [okP, Nat.ble_eq] at h <;> simp [IntKind.wrap, IntKind.bits, IntKind.signed] <;> omega
theorem okM_wrap {k : IntKind} {m : Nat} (h : okM k m = true) : k.wrap (.negSucc m) = .negSucc m := by
  cases k <;> simp only [okM, Nat.ble_eq] at h <;> first | (simp at h; done) | skip
  all_goals simp only [IntKind.wrap, IntKind.bits, IntKind.signed, Int.negSucc_eq]
  all_goals simp
  all_goals omega

noncomputable def wrK (k : IntKind) (n : Int) (c : Int → O) : O :=
  Int.rec (motive := fun _ => IntKind → (Int → O) → O)
    (fun m k c => Bool.rec (motive := fun _ => Nat → IntKind → (Int → O) → O) (fun m k c => intK (k.wrap (.ofNat m)) c) (fun m _ c => natK m fun m => c (.ofNat m)) (okP k m) m k c)
    (fun m k c => Bool.rec (motive := fun _ => Nat → IntKind → (Int → O) → O) (fun m k c => intK (k.wrap (.negSucc m)) c) (fun m _ c => natK m fun m => c (.negSucc m)) (okM k m) m k c) n k c
theorem wrK_eq (k : IntKind) (n : Int) (c : Int → O) : wrK k n c = c (k.wrap n) := by
  cases n with
  | ofNat m =>
    show Bool.rec (motive := fun _ => Nat → IntKind → (Int → O) → O) (fun m k c => intK (k.wrap (.ofNat m)) c) (fun m _ c => natK m fun m => c (.ofNat m)) (okP k m) m k c = _
    cases h : okP k m with
    | false => exact intK_eq _ _
    | true => rw [okP_wrap h]; exact natK_eq _ _
  | negSucc m =>
    show Bool.rec (motive := fun _ => Nat → IntKind → (Int → O) → O) (fun m k c => intK (k.wrap (.negSucc m)) c) (fun m _ c => natK m fun m => c (.negSucc m)) (okM k m) m k c = _
    cases h : okM k m with
    | false => exact intK_eq _ _
    | true => rw [okM_wrap h]; exact natK_eq _ _

noncomputable def subNN (m n : Nat) : Int := Nat.rec (motive := fun _ => Nat → Nat → Int) (fun m n => .ofNat (Nat.sub m n)) (fun p _ _ _ => .negSucc p) (Nat.sub n m) m n
theorem subNN_eq (m n : Nat) : subNN m n = (m : Int) - n := by
  unfold subNN
  show Nat.rec (motive := fun _ => Nat → Nat → Int) (fun m n => .ofNat (Nat.sub m n)) (fun p _ _ _ => .negSucc p) (n - m) m n = _
  cases h : n - m with
  | zero => show ((m - n : Nat) : Int) = _; omega
  | succ p => show Int.negSucc p = _; rw [Int.negSucc_eq]; omega
noncomputable def negN (m : Nat) : Int := Nat.rec (motive := fun _ => Int) (.ofNat 0) (fun p _ => .negSucc p) m
theorem negN_eq (m : Nat) : negN m = -(m : Int) := by
  cases m with
  | zero => rfl
  | succ p => show Int.negSucc p = _; rw [Int.negSucc_eq]; omega
noncomputable def int2 {β : Type} (pp pn np nn : Nat → Nat → β) (a b : Int) : β :=
  Int.rec (motive := fun _ => (Nat → Nat → β) → (Nat → Nat → β) → (Nat → Nat → β) → (Nat → Nat → β) → Int → β)
    (fun m pp pn _ _ b => Int.rec (motive := fun _ => (Nat → Nat → β) → (Nat → Nat → β) → Nat → β) (fun n pp _ m => pp m n) (fun n _ pn m => pn m n) b pp pn m)
    (fun m _ _ np nn b => Int.rec (motive := fun _ => (Nat → Nat → β) → (Nat → Nat → β) → Nat → β) (fun n np _ m => np m n) (fun n _ nn m => nn m n) b np nn m) a pp pn np nn b

noncomputable def addI (a b : Int) : Int := int2 (fun m n => .ofNat (Nat.add m n)) (fun m n => subNN m (Nat.succ n)) (fun m n => subNN n (Nat.succ m)) (fun m n => .negSucc (Nat.succ (Nat.add m n))) a b
theorem addI_eq (a b : Int) : addI a b = a + b := by
  cases a <;> cases b <;> simp only [addI, int2, subNN_eq, Int.negSucc_eq, Nat.succ_eq_add_one, Int.ofNat_eq_natCast] <;> (try simp only [Nat.add_eq]) <;> omega
noncomputable def subI (a b : Int) : Int := int2 (fun m n => subNN m n) (fun m n => .ofNat (Nat.succ (Nat.add m n))) (fun m n => .negSucc (Nat.add m n)) (fun m n => subNN n m) a b
theorem subI_eq (a b : Int) : subI a b = a - b := by
  cases a <;> cases b <;> simp only [subI, int2, subNN_eq, Int.negSucc_eq, Nat.succ_eq_add_one, Int.ofNat_eq_natCast] <;> (try simp only [Nat.add_eq]) <;> omega
noncomputable def mulI (a b : Int) : Int := int2 (fun m n => .ofNat (Nat.mul m n)) (fun m n => negN (Nat.mul m (Nat.succ n))) (fun m n => negN (Nat.mul (Nat.succ m) n)) (fun m n => .ofNat (Nat.mul (Nat.succ m) (Nat.succ n))) a b
theorem mulI_eq (a b : Int) : mulI a b = a * b := by
  cases a <;> cases b <;> simp only [mulI, int2, negN_eq]
  · rfl
  · show -((_ * (_ + 1) : Nat) : Int) = _
    rw [Int.natCast_mul, Int.negSucc_eq, Int.mul_neg]; rfl
  · show -(((_ + 1) * _ : Nat) : Int) = _
    rw [Int.natCast_mul, Int.negSucc_eq, Int.neg_mul]; rfl
  · rfl
noncomputable def quoI (a b : Int) : Int := int2 (fun m n => .ofNat (Nat.div m n)) (fun m n => negN (Nat.div m (Nat.succ n))) (fun m n => negN (Nat.div (Nat.succ m) n)) (fun m n => .ofNat (Nat.div (Nat.succ m) (Nat.succ n))) a b
theorem quoI_eq (a b : Int) : quoI a b = a.tdiv b := by
  cases a <;> cases b <;> simp only [quoI, int2, negN_eq] <;> rfl
noncomputable def remI (a b : Int) : Int := int2 (fun m n => .ofNat (Nat.mod m n)) (fun m n => .ofNat (Nat.mod m (Nat.succ n))) (fun m n => negN (Nat.mod (Nat.succ m) n)) (fun m n => negN (Nat.mod (Nat.succ m) (Nat.succ n))) a b
theorem remI_eq (a b : Int) : remI a b = a.tmod b := by
  cases a <;> cases b <;> simp only [remI, int2, negN_eq] <;> rfl
noncomputable def ltI (a b : Int) : Bool := int2 (fun m n => Nat.ble (Nat.succ m) n) (fun _ _ => false) (fun _ _ => true) (fun m n => Nat.ble (Nat.succ n) m) a b
theorem ltI_eq (a b : Int) : ltI a b = decide (a < b) := by
  rw [Bool.eq_iff_iff, decide_eq_true_eq]
  cases a <;> cases b <;> simp only [ltI, int2, Nat.ble_eq, Int.negSucc_eq, Int.ofNat_eq_natCast, Nat.succ_eq_add_one, Bool.false_eq_true, false_iff, true_iff] <;> omega
noncomputable def leI (a b : Int) : Bool := int2 (fun m n => Nat.ble m n) (fun _ _ => false) (fun _ _ => true) (fun m n => Nat.ble n m) a b
theorem leI_eq (a b : Int) : leI a b = decide (a ≤ b) := by
  rw [Bool.eq_iff_iff, decide_eq_true_eq]
  cases a <;> cases b <;> simp only [leI, int2, Nat.ble_eq, Int.negSucc_eq, Int.ofNat_eq_natCast, Bool.false_eq_true, false_iff, true_iff] <;> omega
noncomputable def eqI (a b : Int) : Bool := int2 (fun m n => Nat.beq m n) (fun _ _ => false) (fun _ _ => false) (fun m n => Nat.beq m n) a b
theorem eqI_eq (a b : Int) : eqI a b = (a == b) := by
  rw [Bool.eq_iff_iff, beq_iff_eq]
  cases a <;> cases b <;> simp only [eqI, int2, Nat.beq_eq, Int.negSucc_eq, Int.ofNat_eq_natCast, Bool.false_eq_true, false_iff, true_iff] <;> omega

def sameB : IntKind → IntKind → Bool
  | .i8, .i8 => true | .i16, .i16 => true | .i32, .i32 => true | .i64, .i64 => true | .u8, .u8 => true | .u16, .u16 => true | .u32, .u32 => true | .u64, .u64 => true
  | _, _ => false
noncomputable def kN (k : IntKind) : Nat := IntKind.rec (motive := fun _ => Nat) (nat_lit 0) (nat_lit 1) (nat_lit 2) (nat_lit 3) (nat_lit 4) (nat_lit 5) (nat_lit 6) (nat_lit 7) k
noncomputable def sameK (k k' : IntKind) (t : O) : O := ifK (Nat.beq (kN k) (kN k')) t
theorem sameK_inv {k k' : IntKind} {t : O} {R : AV × Heap} (h : sameK k k' t = some R) : k = k' ∧ t = some R := by
  unfold sameK at h
  rw [ifK_eq] at h
  split at h
  · rename_i e
    refine ⟨?_, h⟩
    cases k <;> cases k' <;> first | rfl | (simp [kN] at e)
  · simp at h
theorem ifK_inv {b : Bool} {t : O} {R : AV × Heap} (h : ifK b t = some R) : b = true ∧ t = some R := by
  rw [ifK_eq] at h
  split at h
  · rename_i e; exact ⟨e, h⟩
  · simp at h

theorem onInt_inv {v : AV} {k : IntKind → Int → O} {R : AV × Heap} (h : onInt v k = some R) : ∃ a b, v = .int a b ∧ k a b = some R := by
  cases v <;> first | exact ⟨_, _, rfl, h⟩ | (simp [onInt] at h)
theorem onBool_inv {v : AV} {k : Bool → O} {R : AV × Heap} (h : onBool v k = some R) : ∃ b, v = .bool b ∧ k b = some R := by
  cases v <;> first | exact ⟨_, rfl, h⟩ | (simp [onBool] at h)
theorem onTup_inv {v : AV} {k : List AV → O} {R : AV × Heap} (h : onTup v k = some R) : ∃ b, v = .tup b ∧ k b = some R := by
  cases v <;> first | exact ⟨_, rfl, h⟩ | (simp [onTup] at h)
theorem onAgg_inv {v : AV} {k : List AV → O} {R : AV × Heap} (h : onAgg v k = some R) : ∃ b, v = .agg b ∧ k b = some R := by
  cases v <;> first | exact ⟨_, rfl, h⟩ | (simp [onAgg] at h)
theorem onPtr_inv {v : AV} {k : Nat → Nat → O} {k' : List AV → Nat → O} {R : AV × Heap} (h : onPtr v k k' = some R) : (∃ a b, v = .ptr a b ∧ k a b = some R) ∨ (∃ a b, v = .iptr a b ∧ k' a b = some R) := by
  cases v <;> first | exact .inl ⟨_, _, rfl, h⟩ | exact .inr ⟨_, _, rfl, h⟩ | (simp [onPtr] at h)
theorem onSl_inv {v : AV} {k : Nat → Nat → Nat → Nat → Option Nat → O} {k' : List AV → Nat → Option Nat → O} {R : AV × Heap} (h : onSl v k k' = some R) :
    (∃ a b c d e, v = .sl a b c d e ∧ k a b c d e = some R) ∨ (∃ a b c, v = .vec a b c ∧ k' a b c = some R) := by
  cases v <;> first | exact .inl ⟨_, _, _, _, _, rfl, h⟩ | exact .inr ⟨_, _, _, rfl, h⟩ | (simp [onSl] at h)
theorem blkK_inv {H : Heap} {i : Nat} {k : List AV → O} {R : AV × Heap} (h : blkK H i k = some R) : ∃ cs, getB H i = some cs ∧ k cs = some R := by
  rw [blkK_eq] at h
  cases hg : getB H i with
  | none => rw [hg] at h; simp at h
  | some cs => rw [hg] at h; exact ⟨cs, rfl, h⟩
theorem nthK_inv {α : Type} {l : List α} {i : Nat} {k : α → O} {R : AV × Heap} (h : nthK l i k = some R) : ∃ a, l[i]? = some a ∧ k a = some R := by
  rw [nthK_eq] at h
  cases hg : l[i]? with
  | none => rw [hg] at h; simp at h
  | some a => rw [hg] at h; exact ⟨a, rfl, h⟩

-- binary operations on numbers
abbrev BinI := IntKind → IntKind → Int → Int → (AV → O) → O
def GoodB (op : BinOp) (f : BinI) : Prop := ∀ k k' a b c R, f k k' a b c = some R → ∃ v, binA op (.int k a) (.int k' b) = some v ∧ c v = some R

noncomputable def vK (r : Option AV) (k : AV → O) : O := Option.rec (motive := fun _ => (AV → O) → O) (fun _ => none) (fun v k => nfK v k) r k
theorem vK_inv {r : Option AV} {k : AV → O} {R : AV × Heap} (h : vK r k = some R) : ∃ v, r = some v ∧ k v = some R := by
  cases r with
  | none => simp [vK] at h
  | some v => exact ⟨v, rfl, by rw [← h]; exact (nfK_eq v k).symm⟩

noncomputable def b_gen (op : BinOp) : BinI := fun k k' a b c => vK (binA op (.int k a) (.int k' b)) c
theorem b_gen_ok (op : BinOp) : GoodB op (b_gen op) := fun _ _ _ _ _ _ h => vK_inv h
noncomputable def b_add : BinI := fun k k' a b c => sameK k k' (wrK k (addI a b) fun r => c (.int k r))
theorem b_add_ok : GoodB .add b_add := by
  intro k k' a b c R h
  have e := (sameK_inv h).1
  replace h := (sameK_inv h).2
  subst e
  rw [wrK_eq, addI_eq] at h
  exact ⟨_, by simp [binA, need], h⟩
noncomputable def b_sub : BinI := fun k k' a b c => sameK k k' (wrK k (subI a b) fun r => c (.int k r))
theorem b_sub_ok : GoodB .sub b_sub := by
  intro k k' a b c R h
  have e := (sameK_inv h).1
  replace h := (sameK_inv h).2
  subst e
  rw [wrK_eq, subI_eq] at h
  exact ⟨_, by simp [binA, need], h⟩
noncomputable def b_mul : BinI := fun k k' a b c => sameK k k' (wrK k (mulI a b) fun r => c (.int k r))
theorem b_mul_ok : GoodB .mul b_mul := by
  intro k k' a b c R h
  have e := (sameK_inv h).1
  replace h := (sameK_inv h).2
  subst e
  rw [wrK_eq, mulI_eq] at h
  exact ⟨_, by simp [binA, need], h⟩
noncomputable def nzI (b : Int) : Bool := Int.rec (motive := fun _ => Bool) (fun m => Nat.rec (motive := fun _ => Bool) false (fun _ _ => true) m) (fun _ => true) b
theorem nzI_inv {b : Int} (h : nzI b = true) : b ≠ 0 := by
  cases b with
  | ofNat m => cases m with
    | zero => simp [nzI] at h
    | succ m => intro e; simp at e; omega
  | negSucc m => intro e; simp at e
noncomputable def b_quo : BinI := fun k k' a b c => sameK k k' (ifK (nzI b) (wrK k (quoI a b) fun r => c (.int k r)))
theorem b_quo_ok : GoodB .quo b_quo := by
  intro k k' a b c R h
  have e := (sameK_inv h).1
  replace h := (sameK_inv h).2
  subst e
  obtain ⟨hb, h⟩ := ifK_inv h
  rw [wrK_eq, quoI_eq] at h
  exact ⟨_, by simp [binA, need, nzI_inv hb], h⟩
noncomputable def b_rem : BinI := fun k k' a b c => sameK k k' (ifK (nzI b) (intK (remI a b) fun r => c (.int k r)))
theorem b_rem_ok : GoodB .rem b_rem := by
  intro k k' a b c R h
  have e := (sameK_inv h).1
  replace h := (sameK_inv h).2
  subst e
  obtain ⟨hb, h⟩ := ifK_inv h
  rw [intK_eq, remI_eq] at h
  exact ⟨_, by simp [binA, need, nzI_inv hb], h⟩
noncomputable def b_cmp (f : Int → Int → Bool) : BinI := fun k k' a b c => sameK k k' (boK (f a b) fun r => c (.bool r))
theorem b_eql_ok : GoodB .eql (b_cmp eqI) := by
  intro k k' a b c R h
  have e := (sameK_inv h).1
  replace h := (sameK_inv h).2
  subst e
  rw [boK_eq, eqI_eq] at h
  exact ⟨_, by simp [binA, need], h⟩
noncomputable def neI (a b : Int) : Bool := Bool.rec (motive := fun _ => Bool) true false (eqI a b)
theorem neI_eq (a b : Int) : neI a b = (a != b) := by
  unfold neI
  rw [eqI_eq]
  cases h : (a == b) <;> simp [bne, h]
theorem b_neq_ok : GoodB .neq (b_cmp neI) := by
  intro k k' a b c R h
  have e := (sameK_inv h).1
  replace h := (sameK_inv h).2
  subst e
  rw [boK_eq, neI_eq] at h
  exact ⟨_, by simp [binA, need], h⟩
theorem b_lss_ok : GoodB .lss (b_cmp ltI) := by
  intro k k' a b c R h
  have e := (sameK_inv h).1
  replace h := (sameK_inv h).2
  subst e
  rw [boK_eq, ltI_eq] at h
  exact ⟨_, by simp [binA, need], h⟩
theorem b_leq_ok : GoodB .leq (b_cmp leI) := by
  intro k k' a b c R h
  have e := (sameK_inv h).1
  replace h := (sameK_inv h).2
  subst e
  rw [boK_eq, leI_eq] at h
  exact ⟨_, by simp [binA, need], h⟩
noncomputable def gtI (a b : Int) : Bool := ltI b a
theorem b_gtr_ok : GoodB .gtr (b_cmp gtI) := by
  intro k k' a b c R h
  have e := (sameK_inv h).1
  replace h := (sameK_inv h).2
  subst e
  rw [boK_eq, gtI, ltI_eq] at h
  exact ⟨_, by simp [binA, need], h⟩
noncomputable def geI (a b : Int) : Bool := leI b a
theorem b_geq_ok : GoodB .geq (b_cmp geI) := by
  intro k k' a b c R h
  have e := (sameK_inv h).1
  replace h := (sameK_inv h).2
  subst e
  rw [boK_eq, geI, leI_eq] at h
  exact ⟨_, by simp [binA, need], h⟩
noncomputable def bitN (k : IntKind) : Nat := IntKind.rec (motive := fun _ => Nat) (nat_lit 8) (nat_lit 16) (nat_lit 32) (nat_lit 64) (nat_lit 8) (nat_lit 16) (nat_lit 32) (nat_lit 64) k
theorem bitN_eq (k : IntKind) : bitN k = k.bits := by cases k <;> rfl
noncomputable def bsel (b : Bool) (x y : O) : O := Bool.rec (motive := fun _ => O → O → O) (fun _ y => y) (fun x _ => x) b x y
theorem bsel_inv {b : Bool} {x y : O} {R : AV × Heap} (h : bsel b x y = some R) : (b = true ∧ x = some R) ∨ y = some R := by
  cases b
  · exact .inr h
  · exact .inl ⟨rfl, h⟩
noncomputable def b_shr : BinI := fun k k' a b c => int2 (fun m n => bsel (Nat.ble n (bitN k)) (natK (Nat.div m (Nat.pow (nat_lit 2) n)) fun r => c (.int k (.ofNat r))) (b_gen .shr k k' a b c)) (fun _ _ => b_gen .shr k k' a b c) (fun _ _ => b_gen .shr k k' a b c) (fun _ _ => b_gen .shr k k' a b c) a b
theorem b_shr_ok : GoodB .shr b_shr := by
  intro k k' a b c R h
  cases a with
  | negSucc m => cases b <;> exact b_gen_ok .shr _ _ _ _ _ _ h
  | ofNat m =>
    cases b with
    | negSucc n => exact b_gen_ok .shr _ _ _ _ _ _ h
    | ofNat n =>
      rcases bsel_inv (show bsel (Nat.ble n (bitN k)) (natK (Nat.div m (Nat.pow 2 n)) fun r => c (.int k (.ofNat r))) (b_gen .shr k k' (.ofNat m) (.ofNat n) c) = some R from h) with ⟨hb, h⟩ | h
      · rw [natK_eq] at h
        rw [Nat.ble_eq, bitN_eq] at hb
        refine ⟨_, ?_, h⟩
        simp only [binA, need]
        rw [if_pos (by simp), Int.fdiv_eq_ediv_of_nonneg _ (Int.pow_nonneg (by decide))]
        have : min (Int.ofNat n).toNat k.bits = n := by show min n k.bits = n; omega
        rw [this]
        have e : Int.ofNat (m.div (Nat.pow 2 n)) = Int.ofNat m / 2 ^ n := by
          show ((m / 2 ^ n : Nat) : Int) = (m : Int) / 2 ^ n
          simp
        rw [e]
      · exact b_gen_ok .shr _ _ _ _ _ _ h
noncomputable def b_shl : BinI := fun k k' a b c => int2 (fun m n => bsel (Nat.ble n (bitN k)) (wrK k (.ofNat (Nat.mul m (Nat.pow (nat_lit 2) n))) fun r => c (.int k r)) (b_gen .shl k k' a b c)) (fun _ _ => b_gen .shl k k' a b c) (fun _ _ => b_gen .shl k k' a b c) (fun _ _ => b_gen .shl k k' a b c) a b
theorem b_shl_ok : GoodB .shl b_shl := by
  intro k k' a b c R h
  cases a with
  | negSucc m => cases b <;> exact b_gen_ok .shl _ _ _ _ _ _ h
  | ofNat m =>
    cases b with
    | negSucc n => exact b_gen_ok .shl _ _ _ _ _ _ h
    | ofNat n =>
      rcases bsel_inv (show bsel (Nat.ble n (bitN k)) (wrK k (.ofNat (Nat.mul m (Nat.pow 2 n))) fun r => c (.int k r)) (b_gen .shl k k' (.ofNat m) (.ofNat n) c) = some R from h) with ⟨hb, h⟩ | h
      · rw [wrK_eq] at h
        rw [Nat.ble_eq, bitN_eq] at hb
        refine ⟨_, ?_, h⟩
        simp only [binA, need]
        rw [if_pos (by simp)]
        have : min (Int.ofNat n).toNat k.bits = n := by show min n k.bits = n; omega
        rw [this]
        have e : Int.ofNat (m.mul (Nat.pow 2 n)) = Int.ofNat m * 2 ^ n := by
          show ((m * 2 ^ n : Nat) : Int) = (m : Int) * 2 ^ n
          simp
        rw [e]
      · exact b_gen_ok .shl _ _ _ _ _ _ h
noncomputable def trB : BinOp → BinI
  | .add => b_add | .sub => b_sub | .mul => b_mul | .quo => b_quo | .rem => b_rem | .eql => b_cmp eqI | .neq => b_cmp neI | .lss => b_cmp ltI | .leq => b_cmp leI | .gtr => b_cmp gtI | .geq => b_cmp geI
  | .shr => b_shr | .shl => b_shl | op => b_gen op
theorem trB_ok (op : BinOp) : GoodB op (trB op) := by
  cases op
  case add => exact b_add_ok
  case sub => exact b_sub_ok
  case mul => exact b_mul_ok
  case quo => exact b_quo_ok
  case rem => exact b_rem_ok
  case eql => exact b_eql_ok
  case neq => exact b_neq_ok
  case lss => exact b_lss_ok
  case leq => exact b_leq_ok
  case gtr => exact b_gtr_ok
  case geq => exact b_geq_ok
  case shr => exact b_shr_ok
  case shl => exact b_shl_ok
  all_goals exact b_gen_ok _

end Go.AL
