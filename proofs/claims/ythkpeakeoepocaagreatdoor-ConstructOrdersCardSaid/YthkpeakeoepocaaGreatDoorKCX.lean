/- The compiled code of some functions, by program (gencode.py). -/
import Derived.Test.YthkpeakeoepocaaGreatDoorAL24
import Derived.Test.YthkpeakeoepocaaGreatDoorXB
import Derived.KernelRfl
import Derived.Test.YthkpeakeoepocaaGreatDoorAL34

namespace Go.Proofs.YthkpeakeoepocaaGreatDoor
set_option linter.unusedSimpArgs false
set_option linter.unusedVariables false
open Go Go.AL Go.Proofs
set_option maxRecDepth 100000
-- slices.Clone[[]uint32,uint32] (function 171)
def r171_0 : List COp := [⟨(some 2), none, (.mov (.k (.vec [] 0 (some 0))))⟩]
def r171_1 : List COp := [⟨(some 3), none, (.mov (.t 0))⟩, ⟨(some 4), none, (.snil false (.t 3))⟩]
def r171_2 : List COp := [⟨(some 2), none, (.mov (.k (.vec [] 0 (some 0))))⟩]
def r171_3 : List COp := [⟨(some 5), none, (.bsl 0 1 [] [])⟩, ⟨(some 6), none, (.mov (.t 0))⟩, ⟨(some 7), none, (.append 1 4 (.t 5) (.t 6))⟩, ⟨(some 2), none, (.mov (.t 7))⟩]
def c171 : CC := (.seq (.reg r171_0 none) (.seq (.seq (.reg r171_1 none) (.cond (.t 4) (.seq (.reg r171_2 none) .ret) .skip)) (.seq (.reg r171_3 none) .ret)))
theorem comp171 : Tryz.f171.body.bind (compC Tryz.prog G Tryz.f171.ntmps) = some c171 := by kernel_rfl
theorem res171 : Tryz.f171.results.toList = [(.tmp 2)] := by kernel_rfl
end Go.Proofs.YthkpeakeoepocaaGreatDoor

/- slices.Clone of a list of 32-bit numbers (function 171), for the evaluator. -/
namespace Go.Proofs.YthkpeakeoepocaaGreatDoor
set_option linter.unusedSimpArgs false
set_option linter.unusedVariables false
open Go Go.AL Go.Proofs
set_option maxRecDepth 100000

theorem nt171 : Tryz.f171.ntmps = 8 := by kernel_rfl

theorem clone0 (cs : List AV) (c : Option Nat) : Ret Tryz.prog G 171 [.vec cs 0 c] [] (.vec [] 0 (some 0)) [] := by
  refine Ret_of mixed Tryz.func171 comp171 _ 8 res171 nt171 (by simp) (by simp) ?_
  simp only [c171, r171_0, r171_1, r171_2, r171_3, wpC, andThen_normal, andThen_ret, andThen_exit, andThen_goto, inBlk_normal, inBlk_ret, inBlk_exit, rA_mov, rA_pick, rA_box, rA_build, rA_bsl, rA_load, rA_store, rA_nilck, rA_bin, rA_beq, rA_snil, rA_un, rA_conv, rA_mksl, rA_slice, rA_fld, rA_part, rA_idx, rA_idxa, rA_idxv, rA_idxs, rA_ext, rA_len, rA_lens, rA_lenk, rA_max, rA_mkfn, rA_append, rA_callf, rA_callc, rA_guardf, rA_nil, restA_pure, goon, boolA_bool, condA_bool, condA_any, both_some, both_none, pickA_bool, ldA_ptr, ldA_iptr, ldv_f, ldv_t, stA_ptr, nilA_ptr, nilA_iptr, binA_add, binA_sub, binA_mul, binA_quo, binA_rem, binA_shl, binA_shr, binA_and, binA_or, binA_andNot, binA_eql, binA_neq, binA_lss, binA_leq, binA_gtr, binA_geq, binA_seql, binA_sadd, beqA_bool, snilA_vec, snilA_sl, unA_neg, unA_not, convA_int, mkslA_int, natOf_int, optNat_none, optNat_some, sliceA_vec, sliceA_sl, sliceA_vec3, sliceA_sl3, subCap_none, subCap_zero, fldA_ptr, fldA_iptr, partA_agg, idxA_sl, idxA_vec, idxaA_ptr, idxaA_iptr, idxvA_agg, idxsA_str, extA_tup, lenSA_vec, lenSA_sl, lenStA_str, maxA_int, val_t, val_k, updO_some, updO_none, cells_agg, cells_int, cells_bool, cells_vec, cells_sl, firm_agg, firm_int, firm_bool, firm_vec, firm_sl, setL_nil, setL_cons, scalL_nil, scalL_cons, scal_int, scal_bool, scal_vec, scal_sl, fillA_nil, fillA_cons, zeros_one, bindP_some, bindP_need, bindP_none, bindP_bind, upd_app, argsE_app, getB_zero, getB_succ, List.getD_cons_zero, List.getD_cons_succ, List.getD_nil, List.map_cons, List.map_nil, List.length_cons, List.length_nil, List.nil_append, List.cons_append, true_and, and_true, forall_const, true_implies, Option.bind_some, Option.bind_none, reduceCtorEq, reduceIte, false_implies, implies_true, Bool.not_true, Bool.not_false, Bool.true_eq_false, Bool.false_eq_true, Nat.zero_add, Nat.reduceAdd, Nat.reduceEqDiff, Nat.succ_ne_zero, Nat.reduceLeDiff, decide_eq_true_eq, decide_eq_false_iff_not, Nat.mul_one, List.take_succ_cons, List.take_zero, List.drop_zero, List.drop_succ_cons, List.set_cons_zero, List.set_cons_succ, Bool.and_true, Bool.and_self, emptyS_sub, emptyS_succ, emptyS_zero]
  refine ⟨⟨.inl trivial, _, rfl, .keep _ _⟩, ?_⟩
  simp only [appendA, lenA, elems, need, Option.bind_some, Nat.zero_mul, Nat.le_refl, Nat.zero_le, and_self, if_true, bindP_some, applyE, List.take_zero]
  exact ⟨.inl trivial, _, rfl, .freeze 1 _ _ _ rfl (by intro i cs h; omega)⟩

theorem clone1 (cs : List AV) (n : Nat) (c : Option Nat) (h0 : 0 < n) (hn : n ≤ cs.length) (hb : 16 * n ≤ 2 ^ 48) : Ret Tryz.prog G 171 [.vec cs n c] [] (.sl 1 0 n 1 none) [some [], some (cs.take n)] := by
  refine Ret_of mixed Tryz.func171 comp171 _ 8 res171 nt171 (by simp) (by simp) ?_
  simp only [c171, r171_0, r171_1, r171_2, r171_3, wpC, andThen_normal, andThen_ret, andThen_exit, andThen_goto, inBlk_normal, inBlk_ret, inBlk_exit, rA_mov, rA_pick, rA_box, rA_build, rA_bsl, rA_load, rA_store, rA_nilck, rA_bin, rA_beq, rA_snil, rA_un, rA_conv, rA_mksl, rA_slice, rA_fld, rA_part, rA_idx, rA_idxa, rA_idxv, rA_idxs, rA_ext, rA_len, rA_lens, rA_lenk, rA_max, rA_mkfn, rA_append, rA_callf, rA_callc, rA_guardf, rA_nil, restA_pure, goon, boolA_bool, condA_bool, condA_any, both_some, both_none, pickA_bool, ldA_ptr, ldA_iptr, ldv_f, ldv_t, stA_ptr, nilA_ptr, nilA_iptr, binA_add, binA_sub, binA_mul, binA_quo, binA_rem, binA_shl, binA_shr, binA_and, binA_or, binA_andNot, binA_eql, binA_neq, binA_lss, binA_leq, binA_gtr, binA_geq, binA_seql, binA_sadd, beqA_bool, snilA_vec, snilA_sl, unA_neg, unA_not, convA_int, mkslA_int, natOf_int, optNat_none, optNat_some, sliceA_vec, sliceA_sl, sliceA_vec3, sliceA_sl3, subCap_none, subCap_zero, fldA_ptr, fldA_iptr, partA_agg, idxA_sl, idxA_vec, idxaA_ptr, idxaA_iptr, idxvA_agg, idxsA_str, extA_tup, lenSA_vec, lenSA_sl, lenStA_str, maxA_int, val_t, val_k, updO_some, updO_none, cells_agg, cells_int, cells_bool, cells_vec, cells_sl, firm_agg, firm_int, firm_bool, firm_vec, firm_sl, setL_nil, setL_cons, scalL_nil, scalL_cons, scal_int, scal_bool, scal_vec, scal_sl, fillA_nil, fillA_cons, zeros_one, bindP_some, bindP_need, bindP_none, bindP_bind, upd_app, argsE_app, getB_zero, getB_succ, List.getD_cons_zero, List.getD_cons_succ, List.getD_nil, List.map_cons, List.map_nil, List.length_cons, List.length_nil, List.nil_append, List.cons_append, true_and, and_true, forall_const, true_implies, Option.bind_some, Option.bind_none, reduceCtorEq, reduceIte, false_implies, implies_true, Bool.not_true, Bool.not_false, Bool.true_eq_false, Bool.false_eq_true, Nat.zero_add, Nat.reduceAdd, Nat.reduceEqDiff, Nat.succ_ne_zero, Nat.reduceLeDiff, decide_eq_true_eq, decide_eq_false_iff_not, Nat.mul_one, List.take_succ_cons, List.take_zero, List.drop_zero, List.drop_succ_cons, List.set_cons_zero, List.set_cons_succ, Bool.and_true, Bool.and_self, emptyS_sub, emptyS_succ, emptyS_zero, show n ≠ 0 by omega, if_false]
  have e1 : n * 1 ≤ cs.length := by omega
  simp only [appendA, lenA, elems, need, Option.bind_some, hn, e1, Nat.le_refl, and_self, if_true, show n ≠ 0 by omega, if_false, getB, List.getElem?_cons_zero, Nat.zero_mul, Nat.zero_le, Nat.zero_add, true_and, show 4 * n * 4 ≤ 2 ^ 48 by omega, show n < 2 ^ 62 by omega, bindP_some, applyE, Nat.mul_one, List.set_cons_succ, List.set_cons_zero, List.take_zero, List.nil_append]
  exact ⟨.inl trivial, _, rfl, .keep _ _⟩

def g171 : List AV → Heap → Option (AV × Heap)
  | [.vec cs n _], [] => match n with
    | 0 => some (.vec [] 0 (some 0), [])
    | n + 1 => if n + 1 ≤ cs.length ∧ 16 * (n + 1) ≤ 281474976710656 then some (.sl 1 0 (n + 1) 1 none, [some [], some (cs.take (n + 1))]) else none
  | _, _ => none

theorem g171_ok : EOT Tryz.prog G okB 171 (.known g171) := by
  intro args H v H' h
  unfold g171 at h
  split at h
  · split at h
    · simp only [Option.some.injEq, Prod.mk.injEq] at h
      obtain ⟨rfl, rfl⟩ := h
      exact clone0 _ _
    · split at h
      · rename_i hh
        simp only [Option.some.injEq, Prod.mk.injEq] at h
        obtain ⟨rfl, rfl⟩ := h
        exact clone1 _ _ _ (by omega) hh.1 hh.2
      · simp at h
  · simp at h
end Go.Proofs.YthkpeakeoepocaaGreatDoor
