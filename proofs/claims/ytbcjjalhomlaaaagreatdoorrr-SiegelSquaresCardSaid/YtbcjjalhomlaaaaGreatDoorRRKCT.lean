/- siegel.count: what it computes, round by round. -/
import Derived.Test.YtbcjjalhomlaaaaGreatDoorRRAL34
import Derived.Test.YtbcjjalhomlaaaaGreatDoorRRCS0
namespace Go.Proofs.YtbcjjalhomlaaaaGreatDoorRR
set_option linter.unusedSimpArgs false
set_option linter.unusedVariables false
open Go Go.AL Go.Proofs
set_option maxRecDepth 100000

def ints (l : List Nat) : List AV := l.map fun (n : Nat) => AV.int .i64 (n : Int)
theorem ints_len (l : List Nat) : (ints l).length = l.length := by simp [ints]
theorem ints_get (l : List Nat) (i : Nat) (h : i < l.length) : (ints l)[i]? = some (.int .i64 ((l.getD i 0 : Nat) : Int)) := by
  simp [ints, h]
theorem ints_getD (l : List Nat) (i : Nat) (h : i < l.length) (d : AV) : (ints l).getD i d = .int .i64 ((l.getD i 0 : Nat) : Int) := by
  rw [List.getD_eq_getElem?_getD, ints_get l i h]; rfl
theorem ints_set (l : List Nat) (i a : Nat) : (ints l).set i (.int .i64 (a : Int)) = ints (l.set i a) := by
  simp [ints, List.map_set]

theorem wrapN {a : Nat} (h : a < 2 ^ 63) : IntKind.i64.wrap ((a : Nat) : Int) = (a : Int) := by
  simp [IntKind.wrap, IntKind.bits, IntKind.signed]
  omega

section
variable (g : List (List Nat)) (n M : Nat)

def addR (row : List Nat) : Nat → Nat → List Nat → List Nat
  | 0, _, l => l
  | k + 1, j, l => addR row k (j + 1) (l.set j ((l.getD j 0 + row.getD j 0) % M))

def bump : Nat → Nat → Nat → List Nat → List Nat → Option (Nat × List Nat × List Nat)
  | 0, _, _, _, _ => none
  | k + 1, i, norm, inner, x =>
    if x.getD i 0 + 1 < M then some ((norm + 2 * inner.getD i 0 + (g.getD i []).getD i 0) % M, addR M (g.getD i []) n 0 inner, x.set i (x.getD i 0 + 1))
    else bump k (i + 1) ((norm + 2 * inner.getD i 0 + (g.getD i []).getD i 0) % M) (addR M (g.getD i []) n 0 inner) ((x.set i (x.getD i 0 + 1)).set i 0)

def runC : Nat → List Nat → Nat → List Nat → List Nat → Option (List Nat)
  | 0, _, _, _, _ => none
  | f + 1, cts, norm, inner, x => match bump g n M n 0 norm inner x with
    | none => some (cts.set norm (cts.getD norm 0 + 1))
    | some (norm', inner', x') => runC f (cts.set norm (cts.getD norm 0 + 1)) norm' inner' x'
end

theorem nt79 : Tryz.f79.ntmps = 92 := by kernel_rfl

/-- The innermost loop. -/
theorem loop1 {nt n M : Nat} (hM : 0 < M) (hM2 : M < 2 ^ 40) (hn : n < 2 ^ 20) {row : List Nat} {cr : Option Nat} (hrl : row.length = n) (hrow : ∀ a ∈ row, a < M) (cts xs : List AV) (fin : List Nat) (E0 : Env) :
    ∀ {E : Env} {H : Heap} {Q : Post} (inner : List Nat), inner.length = n → (∀ a ∈ inner, a < M) → addR M row n 0 inner = fin →
      (∀ t, t ∉ [58, 59, 60, 61, 62, 13, 14, 63, 64, 65, 66, 67, 68, 69, 70, 71, 72, 73, 74] → E t = E0 t) → E 58 = .int .i64 0 → E0 57 = .int .i64 n → E0 56 = .vec (ints row) n cr → E0 9 = .sl 2 0 n 1 (some n) → E0 1 = .int .i64 M →
      H = [some cts, some xs, some (ints inner)] →
      (∀ E', (∀ t, t ∉ [58, 59, 60, 61, 62, 13, 14, 63, 64, 65, 66, 67, 68, 69, 70, 71, 72, 73, 74] → E' t = E0 t) → Q (.exit 2) E' [some cts, some xs, some (ints fin)]) →
      W Tryz.prog G 0 nt (.loop l79_1) E H Q := by
  intro E H Q inner hil hin hfin hE h58 h57 h56 h9 h1 hH hQ
  refine W_loop (fun k E H => ∃ j inner, j + k = n ∧ inner.length = n ∧ (∀ a ∈ inner, a < M) ∧ addR M row k j inner = fin ∧
    (∀ t, t ∉ [58, 59, 60, 61, 62, 13, 14, 63, 64, 65, 66, 67, 68, 69, 70, 71, 72, 73, 74] → E t = E0 t) ∧ E 58 = .int .i64 (j : Int) ∧ H = [some cts, some xs, some (ints inner)]) ⟨0, inner, by omega, hil, hin, hfin, hE, h58, hH⟩ ?_
  rintro k E H ⟨j, inner, hjk, hil, hin, hfin, hE, h58, rfl⟩
  refine wpC_sound mixed ?_
  have e57 : E 57 = .int .i64 n := (hE 57 (by decide)).trans h57
  have e56 : E 56 = .vec (ints row) n cr := (hE 56 (by decide)).trans h56
  have e9 : E 9 = .sl 2 0 n 1 (some n) := (hE 9 (by decide)).trans h9
  have e1 : E 1 = .int .i64 M := (hE 1 (by decide)).trans h1
  simp only [l79_1, r79_12, wpC, andThen_normal, andThen_ret, andThen_exit, andThen_goto, inBlk_normal, inBlk_ret, inBlk_exit, rA_mov, rA_pick, rA_box, rA_build, rA_bsl, rA_load, rA_store, rA_nilck, rA_bin, rA_beq, rA_snil, rA_un, rA_conv, rA_mksl, rA_slice, rA_fld, rA_part, rA_idx, rA_idxa, rA_idxv, rA_idxs, rA_ext, rA_len, rA_lens, rA_lenk, rA_max, rA_mkfn, rA_append, rA_callf, rA_callc, rA_guardf, rA_nil, restA_pure, goon, boolA_bool, condA_bool, condA_any, both_some, both_none, pickA_bool, ldA_ptr, ldA_iptr, ldv_f, ldv_t, stA_ptr, nilA_ptr, nilA_iptr, binA_add, binA_sub, binA_mul, binA_quo, binA_rem, binA_shl, binA_shr, binA_and, binA_or, binA_andNot, binA_eql, binA_neq, binA_lss, binA_leq, binA_gtr, binA_geq, binA_seql, binA_sadd, beqA_bool, snilA_vec, snilA_sl, unA_neg, unA_not, convA_int, mkslA_int, natOf_int, optNat_none, optNat_some, sliceA_vec, sliceA_sl, sliceA_vec3, sliceA_sl3, subCap_none, subCap_zero, fldA_ptr, fldA_iptr, partA_agg, idxA_sl, idxA_vec, idxaA_ptr, idxaA_iptr, idxvA_agg, idxsA_str, extA_tup, lenSA_vec, lenSA_sl, lenStA_str, maxA_int, val_t, val_k, updO_some, updO_none, cells_agg, cells_int, cells_bool, cells_vec, cells_sl, firm_agg, firm_int, firm_bool, firm_vec, firm_sl, setL_nil, setL_cons, scalL_nil, scalL_cons, scal_int, scal_bool, scal_vec, scal_sl, fillA_nil, fillA_cons, zeros_one, bindP_some, bindP_need, bindP_none, bindP_bind, upd_app, argsE_app, getB_zero, getB_succ, List.getD_cons_zero, List.getD_cons_succ, List.getD_nil, List.map_cons, List.map_nil, List.length_cons, List.length_nil, List.nil_append, List.cons_append, true_and, and_true, forall_const, true_implies, Option.bind_some, Option.bind_none, reduceCtorEq, reduceIte, false_implies, implies_true, Bool.not_true, Bool.not_false, Bool.true_eq_false, Bool.false_eq_true, Nat.zero_add, Nat.reduceAdd, Nat.reduceEqDiff, Nat.succ_ne_zero, Nat.reduceLeDiff, decide_eq_true_eq, decide_eq_false_iff_not, Nat.mul_one, List.take_succ_cons, List.take_zero, List.drop_zero, List.drop_succ_cons, List.set_cons_zero, List.set_cons_succ, Bool.and_true, Bool.and_self, h58, e57]
  have hup : ∀ (E' : Env) (d : Nat) (v : AV), d ∈ [58, 59, 60, 61, 62, 13, 14, 63, 64, 65, 66, 67, 68, 69, 70, 71, 72, 73, 74] → (∀ t, t ∉ [58, 59, 60, 61, 62, 13, 14, 63, 64, 65, 66, 67, 68, 69, 70, 71, 72, 73, 74] → E' t = E0 t) →
      ∀ t, t ∉ [58, 59, 60, 61, 62, 13, 14, 63, 64, 65, 66, 67, 68, 69, 70, 71, 72, 73, 74] → upd E' d v t = E0 t := by
    intro E' d v hd h t ht
    unfold upd
    rw [if_neg (fun e : t = d => ht (by rw [e]; exact hd))]
    exact h t ht
  refine ⟨fun hlt => ?_, fun hnl => ?_⟩
  · have hj : j < n := by omega
    have hij : inner.getD j 0 < M := by
      rw [List.getD_eq_getElem?_getD, List.getElem?_eq_getElem (by omega)]
      exact hin _ (List.getElem_mem _)
    have hrj : row.getD j 0 < M := by
      rw [List.getD_eq_getElem?_getD, List.getElem?_eq_getElem (by omega)]
      exact hrow _ (List.getElem_mem _)
    have gi := ints_getD inner j (by omega) AV.junk
    have gr := ints_getD row j (by omega) AV.junk
    have w1 : IntKind.i64.wrap (((inner.getD j 0 : Nat) : Int) + ((row.getD j 0 : Nat) : Int)) = ((inner.getD j 0 + row.getD j 0 : Nat) : Int) := by
      rw [← Int.natCast_add]; exact wrapN (by omega)
    have w2 : IntKind.i64.wrap ((j : Int) + 1) = ((j + 1 : Nat) : Int) := by
      have : ((j : Int) + 1) = ((j + 1 : Nat) : Int) := by omega
      rw [this]; exact wrapN (by omega)
    have w3 : Int.tmod ((inner.getD j 0 + row.getD j 0 : Nat) : Int) (M : Int) = (((inner.getD j 0 + row.getD j 0) % M : Nat) : Int) := rfl
    simp only [r79_13, r79_14, r79_15, wpC, andThen_normal, andThen_ret, andThen_exit, andThen_goto, inBlk_normal, inBlk_ret, inBlk_exit, rA_mov, rA_pick, rA_box, rA_build, rA_bsl, rA_load, rA_store, rA_nilck, rA_bin, rA_beq, rA_snil, rA_un, rA_conv, rA_mksl, rA_slice, rA_fld, rA_part, rA_idx, rA_idxa, rA_idxv, rA_idxs, rA_ext, rA_len, rA_lens, rA_lenk, rA_max, rA_mkfn, rA_append, rA_callf, rA_callc, rA_guardf, rA_nil, restA_pure, goon, boolA_bool, condA_bool, condA_any, both_some, both_none, pickA_bool, ldA_ptr, ldA_iptr, ldv_f, ldv_t, stA_ptr, nilA_ptr, nilA_iptr, binA_add, binA_sub, binA_mul, binA_quo, binA_rem, binA_shl, binA_shr, binA_and, binA_or, binA_andNot, binA_eql, binA_neq, binA_lss, binA_leq, binA_gtr, binA_geq, binA_seql, binA_sadd, beqA_bool, snilA_vec, snilA_sl, unA_neg, unA_not, convA_int, mkslA_int, natOf_int, optNat_none, optNat_some, sliceA_vec, sliceA_sl, sliceA_vec3, sliceA_sl3, subCap_none, subCap_zero, fldA_ptr, fldA_iptr, partA_agg, idxA_sl, idxA_vec, idxaA_ptr, idxaA_iptr, idxvA_agg, idxsA_str, extA_tup, lenSA_vec, lenSA_sl, lenStA_str, maxA_int, val_t, val_k, updO_some, updO_none, cells_agg, cells_int, cells_bool, cells_vec, cells_sl, firm_agg, firm_int, firm_bool, firm_vec, firm_sl, setL_nil, setL_cons, scalL_nil, scalL_cons, scal_int, scal_bool, scal_vec, scal_sl, fillA_nil, fillA_cons, zeros_one, bindP_some, bindP_need, bindP_none, bindP_bind, upd_app, argsE_app, getB_zero, getB_succ, List.getD_cons_zero, List.getD_cons_succ, List.getD_nil, List.map_cons, List.map_nil, List.length_cons, List.length_nil, List.nil_append, List.cons_append, true_and, and_true, forall_const, true_implies, Option.bind_some, Option.bind_none, reduceCtorEq, reduceIte, false_implies, implies_true, Bool.not_true, Bool.not_false, Bool.true_eq_false, Bool.false_eq_true, Nat.zero_add, Nat.reduceAdd, Nat.reduceEqDiff, Nat.succ_ne_zero, Nat.reduceLeDiff, decide_eq_true_eq, decide_eq_false_iff_not, Nat.mul_one, List.take_succ_cons, List.take_zero, List.drop_zero, List.drop_succ_cons, List.set_cons_zero, List.set_cons_succ, Bool.and_true, Bool.and_self, h58, e57, e56, e9, e1, Int.toNat_natCast, gi, gr, ints_len, w1, w2, w3, ints_set]
    refine ⟨⟨by omega, hlt⟩, by omega, ⟨by omega, hlt⟩, by omega, by omega, ⟨by omega, hlt⟩, by omega, ?_⟩
    obtain ⟨k', rfl⟩ : ∃ k', k = k' + 1 := ⟨k - 1, by omega⟩
    refine ⟨k', _, _, by omega, ⟨j + 1, inner.set j ((inner.getD j 0 + row.getD j 0) % M), by omega, by simp [hil], ?_, hfin, ?_, rfl, rfl⟩, .refl⟩
    · intro a ha
      rcases List.mem_or_eq_of_mem_set ha with h | h
      · exact hin a h
      · subst h; exact Nat.mod_lt _ hM
    · repeat (refine hup _ _ _ (by decide) ?_)
      exact hE
  · have hj : j = n := by omega
    have hk : k = 0 := by omega
    subst hk
    have : inner = fin := hfin
    subst this
    exact hQ _ (hup _ _ _ (by decide) hE)

/-- What the rounds leave alone. -/
structure PE (n M : Nat) (rows : List AV) (cg : Option Nat) (v5 v7 : AV) (E : Env) : Prop where
  e1 : E 1 = .int .i64 M
  e5 : E 5 = v5
  e7 : E 7 = v7
  e8 : E 8 = .sl 1 0 n 1 (some n)
  e9 : E 9 = .sl 2 0 n 1 (some n)
  e35 : E 35 = .vec rows n cg
  e36 : E 36 = .int .i64 n

theorem getD_lt {l : List Nat} {M i : Nat} (h : ∀ a ∈ l, a < M) (hi : i < l.length) : l.getD i 0 < M := by
  rw [List.getD_eq_getElem?_getD, List.getElem?_eq_getElem hi]
  exact h _ (List.getElem_mem _)

theorem set_lt {l : List Nat} {M i b : Nat} (h : ∀ a ∈ l, a < M) (hb : b < M) : ∀ a ∈ l.set i b, a < M := by
  intro a ha
  rcases List.mem_or_eq_of_mem_set ha with h' | h'
  · exact h a h'
  · subst h'; exact hb

theorem addR_ok {M : Nat} (hM : 0 < M) (row : List Nat) : ∀ (k j : Nat) (l : List Nat), (∀ a ∈ l, a < M) → (addR M row k j l).length = l.length ∧ ∀ a ∈ addR M row k j l, a < M := by
  intro k
  induction k with
  | zero => intro j l h; exact ⟨rfl, h⟩
  | succ k ih =>
    intro j l h
    obtain ⟨h1, h2⟩ := ih (j + 1) (l.set j ((l.getD j 0 + row.getD j 0) % M)) (set_lt h (Nat.mod_lt _ hM))
    exact ⟨h1.trans (by simp), h2⟩

theorem loop0 {nt n M : Nat} (hM : 0 < M) (hM2 : M < 2 ^ 40) (hn : n < 2 ^ 20) {g : List (List Nat)} {rows : List AV} {cg : Option Nat} (hrl : rows.length = n) (hrows : ∀ i, i < n → ∃ c, rows[i]? = some (.vec (ints (g.getD i [])) n c))
    (hgl : ∀ i, i < n → (g.getD i []).length = n) (hgM : ∀ i, i < n → ∀ a ∈ g.getD i [], a < M) (v5 v7 : AV) (cts : List AV) (res : Option (Nat × List Nat × List Nat))
    {E : Env} {H : Heap} {Q : Post} (norm : Nat) (inner x : List Nat) (hno : norm < M) (hil : inner.length = n) (hin : ∀ a ∈ inner, a < M) (hxl : x.length = n) (hx : ∀ a ∈ x, a < M) (hres : bump g n M n 0 norm inner x = res)
    (hE : PE n M rows cg v5 v7 E) (h37 : E 37 = .int .i64 0) (h10 : E 10 = .int .i64 norm) (hH : H = [some cts, some (ints x), some (ints inner)])
    (hQ1 : res = none → ∀ E' a b, PE n M rows cg v5 v7 E' → Q (.exit 0) E' [some cts, some a, some b])
    (hQ2 : ∀ norm' inner' x', res = some (norm', inner', x') → norm' < M → inner'.length = n → (∀ a ∈ inner', a < M) → x'.length = n → (∀ a ∈ x', a < M) → ∀ E', PE n M rows cg v5 v7 E' → E' 10 = .int .i64 (norm' : Int) →
      Q (.goto 0) E' [some cts, some (ints x'), some (ints inner')]) :
    W Tryz.prog G 0 nt (.loop l79_0) E H Q := by
  refine W_loop (fun k E H => ∃ i norm inner x, i + k = n ∧ norm < M ∧ inner.length = n ∧ (∀ a ∈ inner, a < M) ∧ x.length = n ∧ (∀ a ∈ x, a < M) ∧ bump g n M k i norm inner x = res ∧ PE n M rows cg v5 v7 E ∧
    E 37 = .int .i64 (i : Int) ∧ E 10 = .int .i64 (norm : Int) ∧ H = [some cts, some (ints x), some (ints inner)]) ⟨0, norm, inner, x, by omega, hno, hil, hin, hxl, hx, hres, hE, h37, h10, hH⟩ ?_
  rintro k E H ⟨i, norm, inner, x, hik, hno, hil, hin, hxl, hx, hres, hE, h37, h10, rfl⟩
  refine wpC_sound mixed ?_
  obtain ⟨e1, e5, e7, e8, e9, e35, e36⟩ := hE
  simp only [l79_0, r79_8, wpC, andThen_normal, andThen_ret, andThen_exit, andThen_goto, inBlk_normal, inBlk_ret, inBlk_exit, rA_mov, rA_pick, rA_box, rA_build, rA_bsl, rA_load, rA_store, rA_nilck, rA_bin, rA_beq, rA_snil, rA_un, rA_conv, rA_mksl, rA_slice, rA_fld, rA_part, rA_idx, rA_idxa, rA_idxv, rA_idxs, rA_ext, rA_len, rA_lens, rA_lenk, rA_max, rA_mkfn, rA_append, rA_callf, rA_callc, rA_guardf, rA_nil, restA_pure, goon, boolA_bool, condA_bool, condA_any, both_some, both_none, pickA_bool, ldA_ptr, ldA_iptr, ldv_f, ldv_t, stA_ptr, nilA_ptr, nilA_iptr, binA_add, binA_sub, binA_mul, binA_quo, binA_rem, binA_shl, binA_shr, binA_and, binA_or, binA_andNot, binA_eql, binA_neq, binA_lss, binA_leq, binA_gtr, binA_geq, binA_seql, binA_sadd, beqA_bool, snilA_vec, snilA_sl, unA_neg, unA_not, convA_int, mkslA_int, natOf_int, optNat_none, optNat_some, sliceA_vec, sliceA_sl, sliceA_vec3, sliceA_sl3, subCap_none, subCap_zero, fldA_ptr, fldA_iptr, partA_agg, idxA_sl, idxA_vec, idxaA_ptr, idxaA_iptr, idxvA_agg, idxsA_str, extA_tup, lenSA_vec, lenSA_sl, lenStA_str, maxA_int, val_t, val_k, updO_some, updO_none, cells_agg, cells_int, cells_bool, cells_vec, cells_sl, firm_agg, firm_int, firm_bool, firm_vec, firm_sl, setL_nil, setL_cons, scalL_nil, scalL_cons, scal_int, scal_bool, scal_vec, scal_sl, fillA_nil, fillA_cons, zeros_one, bindP_some, bindP_need, bindP_none, bindP_bind, upd_app, argsE_app, getB_zero, getB_succ, List.getD_cons_zero, List.getD_cons_succ, List.getD_nil, List.map_cons, List.map_nil, List.length_cons, List.length_nil, List.nil_append, List.cons_append, true_and, and_true, forall_const, true_implies, Option.bind_some, Option.bind_none, reduceCtorEq, reduceIte, false_implies, implies_true, Bool.not_true, Bool.not_false, Bool.true_eq_false, Bool.false_eq_true, Nat.zero_add, Nat.reduceAdd, Nat.reduceEqDiff, Nat.succ_ne_zero, Nat.reduceLeDiff, decide_eq_true_eq, decide_eq_false_iff_not, Nat.mul_one, List.take_succ_cons, List.take_zero, List.drop_zero, List.drop_succ_cons, List.set_cons_zero, List.set_cons_succ, Bool.and_true, Bool.and_self, h37, e36]
  refine ⟨fun hlt => ?_, fun hnl => ?_⟩
  · have hi : i < n := by omega
    obtain ⟨k', rfl⟩ : ∃ k', k = k' + 1 := ⟨k - 1, by omega⟩
    obtain ⟨cr, hr⟩ := hrows i hi
    have hrD : rows.getD i AV.junk = .vec (ints (g.getD i [])) n cr := by rw [List.getD_eq_getElem?_getD, hr]; rfl
    have gi := ints_getD inner i (by omega) AV.junk
    have gr := ints_getD (g.getD i []) i (by rw [hgl i hi]; exact hi) AV.junk
    have bi := getD_lt hin (i := i) (by omega)
    have br := getD_lt (hgM i hi) (i := i) (by rw [hgl i hi]; exact hi)
    have w1 : IntKind.i64.wrap (2 * ((inner.getD i 0 : Nat) : Int)) = ((2 * inner.getD i 0 : Nat) : Int) := by
      have : (2 * ((inner.getD i 0 : Nat) : Int)) = ((2 * inner.getD i 0 : Nat) : Int) := by omega
      rw [this]; exact wrapN (by omega)
    have w2 : IntKind.i64.wrap ((norm : Int) + ((2 * inner.getD i 0 : Nat) : Int)) = ((norm + 2 * inner.getD i 0 : Nat) : Int) := by
      rw [← Int.natCast_add]; exact wrapN (by omega)
    have w3 : IntKind.i64.wrap (((norm + 2 * inner.getD i 0 : Nat) : Int) + (((g.getD i []).getD i 0 : Nat) : Int)) = ((norm + 2 * inner.getD i 0 + (g.getD i []).getD i 0 : Nat) : Int) := by
      rw [← Int.natCast_add]; exact wrapN (by omega)
    have w4 : Int.tmod ((norm + 2 * inner.getD i 0 + (g.getD i []).getD i 0 : Nat) : Int) (M : Int) = (((norm + 2 * inner.getD i 0 + (g.getD i []).getD i 0) % M : Nat) : Int) := rfl
    simp only [r79_9, r79_10, r79_11, wpC, andThen_normal, andThen_ret, andThen_exit, andThen_goto, inBlk_normal, inBlk_ret, inBlk_exit, rA_mov, rA_pick, rA_box, rA_build, rA_bsl, rA_load, rA_store, rA_nilck, rA_bin, rA_beq, rA_snil, rA_un, rA_conv, rA_mksl, rA_slice, rA_fld, rA_part, rA_idx, rA_idxa, rA_idxv, rA_idxs, rA_ext, rA_len, rA_lens, rA_lenk, rA_max, rA_mkfn, rA_append, rA_callf, rA_callc, rA_guardf, rA_nil, restA_pure, goon, boolA_bool, condA_bool, condA_any, both_some, both_none, pickA_bool, ldA_ptr, ldA_iptr, ldv_f, ldv_t, stA_ptr, nilA_ptr, nilA_iptr, binA_add, binA_sub, binA_mul, binA_quo, binA_rem, binA_shl, binA_shr, binA_and, binA_or, binA_andNot, binA_eql, binA_neq, binA_lss, binA_leq, binA_gtr, binA_geq, binA_seql, binA_sadd, beqA_bool, snilA_vec, snilA_sl, unA_neg, unA_not, convA_int, mkslA_int, natOf_int, optNat_none, optNat_some, sliceA_vec, sliceA_sl, sliceA_vec3, sliceA_sl3, subCap_none, subCap_zero, fldA_ptr, fldA_iptr, partA_agg, idxA_sl, idxA_vec, idxaA_ptr, idxaA_iptr, idxvA_agg, idxsA_str, extA_tup, lenSA_vec, lenSA_sl, lenStA_str, maxA_int, val_t, val_k, updO_some, updO_none, cells_agg, cells_int, cells_bool, cells_vec, cells_sl, firm_agg, firm_int, firm_bool, firm_vec, firm_sl, setL_nil, setL_cons, scalL_nil, scalL_cons, scal_int, scal_bool, scal_vec, scal_sl, fillA_nil, fillA_cons, zeros_one, bindP_some, bindP_need, bindP_none, bindP_bind, upd_app, argsE_app, getB_zero, getB_succ, List.getD_cons_zero, List.getD_cons_succ, List.getD_nil, List.map_cons, List.map_nil, List.length_cons, List.length_nil, List.nil_append, List.cons_append, true_and, and_true, forall_const, true_implies, Option.bind_some, Option.bind_none, reduceCtorEq, reduceIte, false_implies, implies_true, Bool.not_true, Bool.not_false, Bool.true_eq_false, Bool.false_eq_true, Nat.zero_add, Nat.reduceAdd, Nat.reduceEqDiff, Nat.succ_ne_zero, Nat.reduceLeDiff, decide_eq_true_eq, decide_eq_false_iff_not, Nat.mul_one, List.take_succ_cons, List.take_zero, List.drop_zero, List.drop_succ_cons, List.set_cons_zero, List.set_cons_succ, Bool.and_true, Bool.and_self, h37, h10, e1, e9, e35, e36, Int.toNat_natCast, hrD, gi, gr, ints_len, hrl, hil, hgl i hi, w1, w2, w3, w4]
    refine ⟨⟨by omega, hlt⟩, by omega, ⟨by omega, hlt⟩, by omega, ⟨by omega, hlt⟩, by omega, by omega, rfl, ?_⟩
    refine loop1 hM hM2 hn (hgl i hi) (hgM i hi) cts (ints x) (addR M (g.getD i []) n 0 inner) _ inner hil hin rfl (fun _ _ => rfl) rfl rfl rfl e9 e1 rfl ?_
    intro E' hE'
    have f1 : E' 1 = .int .i64 M := (hE' 1 (by decide)).trans e1
    have f5 : E' 5 = v5 := (hE' 5 (by decide)).trans e5
    have f7 : E' 7 = v7 := (hE' 7 (by decide)).trans e7
    have f8 : E' 8 = .sl 1 0 n 1 (some n) := (hE' 8 (by decide)).trans e8
    have f9 : E' 9 = .sl 2 0 n 1 (some n) := (hE' 9 (by decide)).trans e9
    have f35 : E' 35 = .vec rows n cg := (hE' 35 (by decide)).trans e35
    have f36 : E' 36 = .int .i64 n := (hE' 36 (by decide)).trans e36
    have f37 : E' 37 = .int .i64 (i : Int) := (hE' 37 (by decide)).trans h37
    have f10 : E' 10 = .int .i64 (((norm + 2 * inner.getD i 0 + (g.getD i []).getD i 0) % M : Nat) : Int) := (hE' 10 (by decide)).trans rfl
    have f11 : E' 11 = .int .i64 (i : Int) := (hE' 11 (by decide)).trans rfl
    clear hE'
    have gx := ints_getD x i (by omega) AV.junk
    have bx := getD_lt hx (i := i) (by omega)
    have gx2 := ints_getD (x.set i (x.getD i 0 + 1)) i (by simp; omega) AV.junk
    have hx2 : (x.set i (x.getD i 0 + 1)).getD i 0 = x.getD i 0 + 1 := by
      rw [List.getD_eq_getElem?_getD, List.getElem?_set_self (by omega)]; rfl
    rw [hx2] at gx2
    have w5 : IntKind.i64.wrap (((x.getD i 0 : Nat) : Int) + 1) = ((x.getD i 0 + 1 : Nat) : Int) := by
      have : (((x.getD i 0 : Nat) : Int) + 1) = ((x.getD i 0 + 1 : Nat) : Int) := by omega
      rw [this]; exact wrapN (by omega)
    have w6 : IntKind.i64.wrap ((i : Int) + 1) = ((i + 1 : Nat) : Int) := by
      have : ((i : Int) + 1) = ((i + 1 : Nat) : Int) := by omega
      rw [this]; exact wrapN (by omega)
    have z0 : AV.int .i64 0 = AV.int .i64 ((0 : Nat) : Int) := rfl
    obtain ⟨ral, ram⟩ := addR_ok hM (g.getD i []) n 0 inner hin
    simp only [bump] at hres
    simp only [r79_16, r79_17, r79_18, r79_19, wpC, andThen_normal, andThen_ret, andThen_exit, andThen_goto, inBlk_normal, inBlk_ret, inBlk_exit, rA_mov, rA_pick, rA_box, rA_build, rA_bsl, rA_load, rA_store, rA_nilck, rA_bin, rA_beq, rA_snil, rA_un, rA_conv, rA_mksl, rA_slice, rA_fld, rA_part, rA_idx, rA_idxa, rA_idxv, rA_idxs, rA_ext, rA_len, rA_lens, rA_lenk, rA_max, rA_mkfn, rA_append, rA_callf, rA_callc, rA_guardf, rA_nil, restA_pure, goon, boolA_bool, condA_bool, condA_any, both_some, both_none, pickA_bool, ldA_ptr, ldA_iptr, ldv_f, ldv_t, stA_ptr, nilA_ptr, nilA_iptr, binA_add, binA_sub, binA_mul, binA_quo, binA_rem, binA_shl, binA_shr, binA_and, binA_or, binA_andNot, binA_eql, binA_neq, binA_lss, binA_leq, binA_gtr, binA_geq, binA_seql, binA_sadd, beqA_bool, snilA_vec, snilA_sl, unA_neg, unA_not, convA_int, mkslA_int, natOf_int, optNat_none, optNat_some, sliceA_vec, sliceA_sl, sliceA_vec3, sliceA_sl3, subCap_none, subCap_zero, fldA_ptr, fldA_iptr, partA_agg, idxA_sl, idxA_vec, idxaA_ptr, idxaA_iptr, idxvA_agg, idxsA_str, extA_tup, lenSA_vec, lenSA_sl, lenStA_str, maxA_int, val_t, val_k, updO_some, updO_none, cells_agg, cells_int, cells_bool, cells_vec, cells_sl, firm_agg, firm_int, firm_bool, firm_vec, firm_sl, setL_nil, setL_cons, scalL_nil, scalL_cons, scal_int, scal_bool, scal_vec, scal_sl, fillA_nil, fillA_cons, zeros_one, bindP_some, bindP_need, bindP_none, bindP_bind, upd_app, argsE_app, getB_zero, getB_succ, List.getD_cons_zero, List.getD_cons_succ, List.getD_nil, List.map_cons, List.map_nil, List.length_cons, List.length_nil, List.nil_append, List.cons_append, true_and, and_true, forall_const, true_implies, Option.bind_some, Option.bind_none, reduceCtorEq, reduceIte, false_implies, implies_true, Bool.not_true, Bool.not_false, Bool.true_eq_false, Bool.false_eq_true, Nat.zero_add, Nat.reduceAdd, Nat.reduceEqDiff, Nat.succ_ne_zero, Nat.reduceLeDiff, decide_eq_true_eq, decide_eq_false_iff_not, Nat.mul_one, List.take_succ_cons, List.take_zero, List.drop_zero, List.drop_succ_cons, List.set_cons_zero, List.set_cons_succ, Bool.and_true, Bool.and_self, f1, f8, f11, f37, Int.toNat_natCast, gx, ints_len, hxl, w5, w6, ints_set, gx2, List.length_set, z0]
    refine ⟨⟨by omega, hlt⟩, by omega, ⟨by omega, hlt⟩, by omega, ⟨by omega, hlt⟩, by omega, fun hl => ?_, fun hl => ?_⟩
    · have hl' : x.getD i 0 + 1 < M := by omega
      rw [if_pos hl'] at hres
      refine hQ2 _ _ _ hres.symm (Nat.mod_lt _ hM) (ral.trans hil) ram (by simp [hxl]) (set_lt hx (by omega)) _ ⟨?_, ?_, ?_, ?_, ?_, ?_, ?_⟩ ?_ <;> simp only [upd_app, Nat.reduceEqDiff, reduceIte, if_false, *]
    · have hl' : ¬ x.getD i 0 + 1 < M := by omega
      rw [if_neg hl'] at hres
      refine ⟨⟨by omega, hlt⟩, by omega, ?_⟩
      refine ⟨k', _, _, by omega, ⟨i + 1, _, _, _, by omega, Nat.mod_lt _ hM, ral.trans hil, ram, by simp [hxl], (by rw [List.set_set]; exact set_lt hx hM), hres, ⟨?_, ?_, ?_, ?_, ?_, ?_, ?_⟩, ?_, ?_, rfl⟩, .refl⟩ <;> simp only [upd_app, Nat.reduceEqDiff, reduceIte, if_false, *]
  · have hi : i = n := by omega
    have hk : k = 0 := by omega
    subst hk
    refine hQ1 hres.symm _ _ _ ⟨?_, ?_, ?_, ?_, ?_, ?_, ?_⟩ <;> simp only [upd_app, Nat.reduceEqDiff, reduceIte, if_false, *]

def J79 (g : List (List Nat)) (n M F : Nat) (rows : List AV) (cg : Option Nat) (fin : List Nat) (f : Nat) (E : Env) (H : Heap) : Prop :=
  ∃ cts norm inner x, cts.length = M ∧ (∀ a ∈ cts, a < F - f + 1) ∧ f ≤ F ∧ norm < M ∧ inner.length = n ∧ (∀ a ∈ inner, a < M) ∧ x.length = n ∧ (∀ a ∈ x, a < M) ∧ runC g n M f cts norm inner x = some fin ∧
    E 1 = .int .i64 (M : Int) ∧ E 5 = .vec rows n cg ∧ E 7 = .sl 0 0 M 1 (some M) ∧ E 8 = .sl 1 0 n 1 (some n) ∧ E 9 = .sl 2 0 n 1 (some n) ∧ E 10 = .int .i64 (norm : Int) ∧ H = [some (ints cts), some (ints x), some (ints inner)]

theorem body79 {g : List (List Nat)} {n M F : Nat} {rows : List AV} {cg : Option Nat} {fin : List Nat} (hM : 0 < M) (hM2 : M < 2 ^ 40) (hn : n < 2 ^ 20) (hF : F < 2 ^ 60)
    (hrl : rows.length = n) (hrows : ∀ i, i < n → ∃ c, rows[i]? = some (.vec (ints (g.getD i [])) n c)) (hgl : ∀ i, i < n → (g.getD i []).length = n) (hgM : ∀ i, i < n → ∀ a ∈ g.getD i [], a < M)
    {f : Nat} {E : Env} {H : Heap} (hJ : J79 g n M F rows cg fin f E H) {Jp : Env → Heap → Prop} {Q : Post} (h1 : ∀ f' E' H', f' < f → J79 g n M F rows cg fin f' E' H' → Jp E' H')
    (h2 : ∀ E' a b, E' 4 = .sl 0 0 M 1 (some M) → Q .ret E' [some (ints fin), some a, some b]) :
    wpC Tryz.prog G 0 92 (.seq (.reg r79_6 none) (.seq (.seq (.reg r79_7 none) (.block 0 (.loop l79_0))) (.seq (.reg r79_20 none) .ret))) E H (jumpP 0 Jp Q) := by
  obtain ⟨cts, norm, inner, x, hcl, hcb, hfF, hno, hil, hin, hxl, hx, hrun, e1, e5, e7, e8, e9, e10, rfl⟩ := hJ
  cases f with
  | zero => simp [runC] at hrun
  | succ f =>
    have gc := ints_getD cts norm (by omega) AV.junk
    have bc := getD_lt hcb (i := norm) (by omega)
    have w1 : IntKind.i64.wrap (((cts.getD norm 0 : Nat) : Int) + 1) = ((cts.getD norm 0 + 1 : Nat) : Int) := by
      have : (((cts.getD norm 0 : Nat) : Int) + 1) = ((cts.getD norm 0 + 1 : Nat) : Int) := by omega
      rw [this]; exact wrapN (by omega)
    simp only [r79_6, r79_7, r79_20, wpC, andThen_normal, andThen_ret, andThen_exit, andThen_goto, inBlk_normal, inBlk_ret, inBlk_exit, rA_mov, rA_pick, rA_box, rA_build, rA_bsl, rA_load, rA_store, rA_nilck, rA_bin, rA_beq, rA_snil, rA_un, rA_conv, rA_mksl, rA_slice, rA_fld, rA_part, rA_idx, rA_idxa, rA_idxv, rA_idxs, rA_ext, rA_len, rA_lens, rA_lenk, rA_max, rA_mkfn, rA_append, rA_callf, rA_callc, rA_guardf, rA_nil, restA_pure, goon, boolA_bool, condA_bool, condA_any, both_some, both_none, pickA_bool, ldA_ptr, ldA_iptr, ldv_f, ldv_t, stA_ptr, nilA_ptr, nilA_iptr, binA_add, binA_sub, binA_mul, binA_quo, binA_rem, binA_shl, binA_shr, binA_and, binA_or, binA_andNot, binA_eql, binA_neq, binA_lss, binA_leq, binA_gtr, binA_geq, binA_seql, binA_sadd, beqA_bool, snilA_vec, snilA_sl, unA_neg, unA_not, convA_int, mkslA_int, natOf_int, optNat_none, optNat_some, sliceA_vec, sliceA_sl, sliceA_vec3, sliceA_sl3, subCap_none, subCap_zero, fldA_ptr, fldA_iptr, partA_agg, idxA_sl, idxA_vec, idxaA_ptr, idxaA_iptr, idxvA_agg, idxsA_str, extA_tup, lenSA_vec, lenSA_sl, lenStA_str, maxA_int, val_t, val_k, updO_some, updO_none, cells_agg, cells_int, cells_bool, cells_vec, cells_sl, firm_agg, firm_int, firm_bool, firm_vec, firm_sl, setL_nil, setL_cons, scalL_nil, scalL_cons, scal_int, scal_bool, scal_vec, scal_sl, fillA_nil, fillA_cons, zeros_one, bindP_some, bindP_need, bindP_none, bindP_bind, upd_app, argsE_app, getB_zero, getB_succ, List.getD_cons_zero, List.getD_cons_succ, List.getD_nil, List.map_cons, List.map_nil, List.length_cons, List.length_nil, List.nil_append, List.cons_append, true_and, and_true, forall_const, true_implies, Option.bind_some, Option.bind_none, reduceCtorEq, reduceIte, false_implies, implies_true, Bool.not_true, Bool.not_false, Bool.true_eq_false, Bool.false_eq_true, Nat.zero_add, Nat.reduceAdd, Nat.reduceEqDiff, Nat.succ_ne_zero, Nat.reduceLeDiff, decide_eq_true_eq, decide_eq_false_iff_not, Nat.mul_one, List.take_succ_cons, List.take_zero, List.drop_zero, List.drop_succ_cons, List.set_cons_zero, List.set_cons_succ, Bool.and_true, Bool.and_self, e7, e10, e5, Int.toNat_natCast, gc, w1, ints_len, hcl, ints_set]
    refine ⟨⟨by omega, by omega⟩, by omega, ⟨by omega, by omega⟩, by omega, ?_⟩
    refine loop0 hM hM2 hn hrl hrows hgl hgM (.vec rows n cg) (.sl 0 0 M 1 (some M)) (ints (cts.set norm (cts.getD norm 0 + 1))) (bump g n M n 0 norm inner x) norm inner x hno hil hin hxl hx rfl
      ⟨e1, e5, e7, e8, e9, rfl, rfl⟩ rfl e10 rfl ?_ ?_
    · intro hb E' a b hE'
      simp only [runC, hb] at hrun
      have hfin : cts.set norm (cts.getD norm 0 + 1) = fin := Option.some.inj hrun
      rw [hfin]
      exact h2 _ _ _ hE'.e7
    · intro norm' inner' x' hb q1 q2 q3 q4 q5 E' hE' q6
      simp only [runC, hb] at hrun
      refine ⟨rfl, h1 f E' _ (by omega) ⟨_, norm', inner', x', ?_, ?_, by omega, q1, q2, q3, q4, q5, hrun, hE'.e1, hE'.e5, hE'.e7, hE'.e8, hE'.e9, q6, rfl⟩⟩
      · simp [hcl]
      · refine set_lt (fun a ha => ?_) (by omega)
        have := hcb a ha
        omega

theorem count_ret {g : List (List Nat)} {n M F : Nat} {hs rows : List AV} {ch cg : Option Nat} {kd : IntKind} {en : Int} {fin : List Nat} (hM : 0 < M) (hM2 : M < 2 ^ 40) (hn : n < 2 ^ 20) (hF : F < 2 ^ 60)
    (hres : Ret Tryz.prog G 95 [.vec hs n ch, .int .i64 (M : Int)] [] (.tup [.vec rows n cg, .int kd en]) [])
    (hrl : rows.length = n) (hrows : ∀ i, i < n → ∃ c, rows[i]? = some (.vec (ints (g.getD i [])) n c)) (hgl : ∀ i, i < n → (g.getD i []).length = n) (hgM : ∀ i, i < n → ∀ a ∈ g.getD i [], a < M)
    (hrun : runC g n M F (List.replicate M 0) 0 (List.replicate n 0) (List.replicate n 0) = some fin) (hfl : fin.length = M) :
    Ret Tryz.prog G 79 [.vec hs n ch, .int .i64 (M : Int)] [] (.vec (ints fin) M (some M)) [] := by
  refine Ret_of mixed Tryz.func79 comp79 _ 92 res79 nt79 (by simp) (by simp) ?_
  simp only [c79, r79_0, wpC, andThen_normal, andThen_ret, andThen_exit, andThen_goto, inBlk_normal, inBlk_ret, inBlk_exit, rA_mov, rA_pick, rA_box, rA_build, rA_bsl, rA_load, rA_store, rA_nilck, rA_bin, rA_beq, rA_snil, rA_un, rA_conv, rA_mksl, rA_slice, rA_fld, rA_part, rA_idx, rA_idxa, rA_idxv, rA_idxs, rA_ext, rA_len, rA_lens, rA_lenk, rA_max, rA_mkfn, rA_append, rA_callf, rA_callc, rA_guardf, rA_nil, restA_pure, goon, boolA_bool, condA_bool, condA_any, both_some, both_none, pickA_bool, ldA_ptr, ldA_iptr, ldv_f, ldv_t, stA_ptr, nilA_ptr, nilA_iptr, binA_add, binA_sub, binA_mul, binA_quo, binA_rem, binA_shl, binA_shr, binA_and, binA_or, binA_andNot, binA_eql, binA_neq, binA_lss, binA_leq, binA_gtr, binA_geq, binA_seql, binA_sadd, beqA_bool, snilA_vec, snilA_sl, unA_neg, unA_not, convA_int, mkslA_int, natOf_int, optNat_none, optNat_some, sliceA_vec, sliceA_sl, sliceA_vec3, sliceA_sl3, subCap_none, subCap_zero, fldA_ptr, fldA_iptr, partA_agg, idxA_sl, idxA_vec, idxaA_ptr, idxaA_iptr, idxvA_agg, idxsA_str, extA_tup, lenSA_vec, lenSA_sl, lenStA_str, maxA_int, val_t, val_k, updO_some, updO_none, cells_agg, cells_int, cells_bool, cells_vec, cells_sl, firm_agg, firm_int, firm_bool, firm_vec, firm_sl, setL_nil, setL_cons, scalL_nil, scalL_cons, scal_int, scal_bool, scal_vec, scal_sl, fillA_nil, fillA_cons, zeros_one, bindP_some, bindP_need, bindP_none, bindP_bind, upd_app, argsE_app, getB_zero, getB_succ, List.getD_cons_zero, List.getD_cons_succ, List.getD_nil, List.map_cons, List.map_nil, List.length_cons, List.length_nil, List.nil_append, List.cons_append, true_and, and_true, forall_const, true_implies, Option.bind_some, Option.bind_none, reduceCtorEq, reduceIte, false_implies, implies_true, Bool.not_true, Bool.not_false, Bool.true_eq_false, Bool.false_eq_true, Nat.zero_add, Nat.reduceAdd, Nat.reduceEqDiff, Nat.succ_ne_zero, Nat.reduceLeDiff, decide_eq_true_eq, decide_eq_false_iff_not, Nat.mul_one, List.take_succ_cons, List.take_zero, List.drop_zero, List.drop_succ_cons, List.set_cons_zero, List.set_cons_succ, Bool.and_true, Bool.and_self]
  have hrep : ∀ k : Nat, List.replicate k (AV.int IntKind.i64 0) = ints (List.replicate k 0) := by intro k; simp [ints]
  have hfinal : ∀ (E' : Env) (a b : List AV), E' 4 = .sl 0 0 M 1 (some M) → (fun (x : Exit) (E' : Env) (H' : Heap) => (x = Exit.ret ∨ x = Exit.normal) ∧ ∃ v', resA Tryz.prog [ResultVar.tmp 4] E' H' = some v' ∧ AL.Fin 0 v' H' (AV.vec (ints fin) M (some M)) []) .ret E' [some (ints fin), some a, some b] := by
    intro E' a b h4
    refine ⟨.inl rfl, .sl 0 0 M 1 (some M), by simp [resA, resOne, h4], .freeze 2 _ _ _ ?_ (by intro i cs h; omega)⟩
    have hm : ∀ l : List Nat, (ints l).mapM (frzI 0 [some (ints fin), some a, some b] 1) = some (ints l) := by
      intro l
      induction l with
      | nil => rfl
      | cons y l ih =>
        have : ints (y :: l) = .int .i64 (y : Int) :: ints l := rfl
        rw [this, List.mapM_cons, ih]
        rfl
    have e : frzI 0 [some (ints fin), some a, some b] 2 (.sl 0 0 M 1 (some M)) = need (0 + M * 1 ≤ (ints fin).length) (((((ints fin).drop 0).take (M * 1)).mapM (frzI 0 [some (ints fin), some a, some b] 1)).map fun l => .vec l M (some M)) := rfl
    have ht : ((ints fin).drop 0).take (M * 1) = ints fin := by rw [List.drop_zero, List.take_of_length_le (by rw [ints_len, hfl]; omega)]
    rw [e, ht, hm]
    unfold need
    rw [if_pos (by rw [ints_len, hfl]; omega)]
    rfl
  refine W_scope 0 (fun f E H => J79 g n M F rows cg fin f E H) rfl ?_ ?_
  · refine wpC_sound mixed ?_
    simp only [r79_1, r79_2, r79_3, r79_4, r79_5, wpC, andThen_normal, andThen_ret, andThen_exit, andThen_goto, inBlk_normal, inBlk_ret, inBlk_exit, rA_mov, rA_pick, rA_box, rA_build, rA_bsl, rA_load, rA_store, rA_nilck, rA_bin, rA_beq, rA_snil, rA_un, rA_conv, rA_mksl, rA_slice, rA_fld, rA_part, rA_idx, rA_idxa, rA_idxv, rA_idxs, rA_ext, rA_len, rA_lens, rA_lenk, rA_max, rA_mkfn, rA_append, rA_callf, rA_callc, rA_guardf, rA_nil, restA_pure, goon, boolA_bool, condA_bool, condA_any, both_some, both_none, pickA_bool, ldA_ptr, ldA_iptr, ldv_f, ldv_t, stA_ptr, nilA_ptr, nilA_iptr, binA_add, binA_sub, binA_mul, binA_quo, binA_rem, binA_shl, binA_shr, binA_and, binA_or, binA_andNot, binA_eql, binA_neq, binA_lss, binA_leq, binA_gtr, binA_geq, binA_seql, binA_sadd, beqA_bool, snilA_vec, snilA_sl, unA_neg, unA_not, convA_int, mkslA_int, natOf_int, optNat_none, optNat_some, sliceA_vec, sliceA_sl, sliceA_vec3, sliceA_sl3, subCap_none, subCap_zero, fldA_ptr, fldA_iptr, partA_agg, idxA_sl, idxA_vec, idxaA_ptr, idxaA_iptr, idxvA_agg, idxsA_str, extA_tup, lenSA_vec, lenSA_sl, lenStA_str, maxA_int, val_t, val_k, updO_some, updO_none, cells_agg, cells_int, cells_bool, cells_vec, cells_sl, firm_agg, firm_int, firm_bool, firm_vec, firm_sl, setL_nil, setL_cons, scalL_nil, scalL_cons, scal_int, scal_bool, scal_vec, scal_sl, fillA_nil, fillA_cons, zeros_one, bindP_some, bindP_need, bindP_none, bindP_bind, upd_app, argsE_app, getB_zero, getB_succ, List.getD_cons_zero, List.getD_cons_succ, List.getD_nil, List.map_cons, List.map_nil, List.length_cons, List.length_nil, List.nil_append, List.cons_append, true_and, and_true, forall_const, true_implies, Option.bind_some, Option.bind_none, reduceCtorEq, reduceIte, false_implies, implies_true, Bool.not_true, Bool.not_false, Bool.true_eq_false, Bool.false_eq_true, Nat.zero_add, Nat.reduceAdd, Nat.reduceEqDiff, Nat.succ_ne_zero, Nat.reduceLeDiff, decide_eq_true_eq, decide_eq_false_iff_not, Nat.mul_one, List.take_succ_cons, List.take_zero, List.drop_zero, List.drop_succ_cons, List.set_cons_zero, List.set_cons_succ, Bool.and_true, Bool.and_self]
    refine callA_pure hres ?_
    simp only [wpC, andThen_normal, andThen_ret, andThen_exit, andThen_goto, inBlk_normal, inBlk_ret, inBlk_exit, rA_mov, rA_pick, rA_box, rA_build, rA_bsl, rA_load, rA_store, rA_nilck, rA_bin, rA_beq, rA_snil, rA_un, rA_conv, rA_mksl, rA_slice, rA_fld, rA_part, rA_idx, rA_idxa, rA_idxv, rA_idxs, rA_ext, rA_len, rA_lens, rA_lenk, rA_max, rA_mkfn, rA_append, rA_callf, rA_callc, rA_guardf, rA_nil, restA_pure, goon, boolA_bool, condA_bool, condA_any, both_some, both_none, pickA_bool, ldA_ptr, ldA_iptr, ldv_f, ldv_t, stA_ptr, nilA_ptr, nilA_iptr, binA_add, binA_sub, binA_mul, binA_quo, binA_rem, binA_shl, binA_shr, binA_and, binA_or, binA_andNot, binA_eql, binA_neq, binA_lss, binA_leq, binA_gtr, binA_geq, binA_seql, binA_sadd, beqA_bool, snilA_vec, snilA_sl, unA_neg, unA_not, convA_int, mkslA_int, natOf_int, optNat_none, optNat_some, sliceA_vec, sliceA_sl, sliceA_vec3, sliceA_sl3, subCap_none, subCap_zero, fldA_ptr, fldA_iptr, partA_agg, idxA_sl, idxA_vec, idxaA_ptr, idxaA_iptr, idxvA_agg, idxsA_str, extA_tup, lenSA_vec, lenSA_sl, lenStA_str, maxA_int, val_t, val_k, updO_some, updO_none, cells_agg, cells_int, cells_bool, cells_vec, cells_sl, firm_agg, firm_int, firm_bool, firm_vec, firm_sl, setL_nil, setL_cons, scalL_nil, scalL_cons, scal_int, scal_bool, scal_vec, scal_sl, fillA_nil, fillA_cons, zeros_one, bindP_some, bindP_need, bindP_none, bindP_bind, upd_app, argsE_app, getB_zero, getB_succ, List.getD_cons_zero, List.getD_cons_succ, List.getD_nil, List.map_cons, List.map_nil, List.length_cons, List.length_nil, List.nil_append, List.cons_append, true_and, and_true, forall_const, true_implies, Option.bind_some, Option.bind_none, reduceCtorEq, reduceIte, false_implies, implies_true, Bool.not_true, Bool.not_false, Bool.true_eq_false, Bool.false_eq_true, Nat.zero_add, Nat.reduceAdd, Nat.reduceEqDiff, Nat.succ_ne_zero, Nat.reduceLeDiff, decide_eq_true_eq, decide_eq_false_iff_not, Nat.mul_one, List.take_succ_cons, List.take_zero, List.drop_zero, List.drop_succ_cons, List.set_cons_zero, List.set_cons_succ, Bool.and_true, Bool.and_self, Int.toNat_natCast, List.getElem?_cons_zero, List.getElem?_cons_succ, hrep, List.length_append]
    refine ⟨by omega, ⟨by omega, by omega, by omega, by omega⟩, by omega, ⟨by omega, by omega, by omega, by omega⟩, by omega, ⟨by omega, by omega, by omega, by omega⟩, ?_⟩
    have zr : ∀ (k B : Nat), 0 < B → ∀ a ∈ List.replicate k 0, a < B := by
      intro k B hB a ha
      rw [List.mem_replicate] at ha
      omega
    refine body79 (f := F) (E := _) (H := _) hM hM2 hn hF hrl hrows hgl hgM ⟨List.replicate M 0, 0, List.replicate n 0, List.replicate n 0, by simp, zr _ _ (by omega), Nat.le_refl _, hM, by simp, zr _ _ hM, by simp, zr _ _ hM, hrun, rfl, rfl, rfl, rfl, rfl, rfl, rfl⟩
      (fun f' E' H' hlt h => ⟨f', E', H', h, .refl⟩) hfinal
  · intro f E H hJ
    refine wpC_sound mixed ?_
    exact body79 hM hM2 hn hF hrl hrows hgl hgM hJ (fun f' E' H' hlt h => ⟨f', E', H', hlt, h, .refl⟩) hfinal
end Go.Proofs.YtbcjjalhomlaaaaGreatDoorRR
