/- Contracts of package integer for numbers of at most one limb. -/
import Derived.Test.YthkpeakeoepocaaGreatDoorAL52
import Derived.Test.YthkpeakeoepocaaGreatDoorCI
import Derived.Test.YthkpeakeoepocaaGreatDoorKCX
namespace Go.Proofs.YthkpeakeoepocaaGreatDoor
set_option linter.unusedSimpArgs false
set_option linter.unusedVariables false
open Go Go.AL Go.Proofs
set_option maxRecDepth 100000

theorem n1 : ((1 : Nat) : Int) = 1 := rfl
theorem n2 : ((2 : Nat) : Int) = 2 := rfl
theorem wi0 : IntKind.i64.wrap 0 = 0 := rfl
theorem wi1 : IntKind.i64.wrap 1 = 1 := rfl
theorem wi2 : IntKind.i64.wrap 2 = 2 := rfl
theorem wim1 : IntKind.i64.wrap (-1) = -1 := rfl
theorem tn0 : Int.toNat 0 = 0 := rfl
theorem tn1 : Int.toNat 1 = 1 := rfl
theorem le0 : ((0 : Int) ≤ 0) = True := eq_true (by decide)
theorem lt01 : ((0 : Int) < 1) = True := eq_true (by decide)
theorem lt12 : ((1 : Int) < 2) = True := eq_true (by decide)
theorem getB0 {a : List AV} {r : Heap} : getB (some a :: r) 0 = some a := rfl
theorem getB1 {a : Option (List AV)} {b : List AV} {r : Heap} : getB (a :: some b :: r) 1 = some b := rfl
theorem getB2 {a b : Option (List AV)} {c : List AV} {r : Heap} : getB (a :: b :: some c :: r) 2 = some c := rfl
theorem ne0 {x : Nat} (h : x ≠ 0) : decide ((x : Int) = 0) = false := by simp; omega

theorem nt61 : Tryz.f61.ntmps = 21 := by kernel_rfl
theorem nt102 : Tryz.f102.ntmps = 22 := by kernel_rfl
theorem nt58 : Tryz.f58.ntmps = 12 := by kernel_rfl
theorem nt59 : Tryz.f59.ntmps = 10 := by kernel_rfl
theorem nt60 : Tryz.f60.ntmps = 86 := by kernel_rfl
theorem nt28 : Tryz.f28.ntmps = 18 := by kernel_rfl
theorem nt27 : Tryz.f27.ntmps = 14 := by kernel_rfl
theorem nt107 : Tryz.f107.ntmps = 12 := by kernel_rfl
theorem nt108 : Tryz.f108.ntmps = 45 := by kernel_rfl
theorem nt69 : Tryz.f69.ntmps = 28 := by kernel_rfl
theorem nt200 : Tryz.f200.ntmps = 83 := by kernel_rfl
theorem nt201 : Tryz.f201.ntmps = 45 := by kernel_rfl
theorem nt198 : Tryz.f198.ntmps = 33 := by kernel_rfl
theorem nt164 : Tryz.f164.ntmps = 16 := by kernel_rfl
theorem nt167 : Tryz.f167.ntmps = 17 := by kernel_rfl
theorem nt165 : Tryz.f165.ntmps = 11 := by kernel_rfl
theorem nt117 : Tryz.f117.ntmps = 10 := by kernel_rfl
theorem nt199 : Tryz.f199.ntmps = 104 := by kernel_rfl
theorem nt168 : Tryz.f168.ntmps = 53 := by kernel_rfl
theorem nt123 : Tryz.f123.ntmps = 34 := by kernel_rfl
-- trim
theorem trim0 (c : Option Nat) : Ret Tryz.prog G 61 [.vec [] 0 c] [] (.vec [] 0 c) [] := by
  refine Ret_of mixed Tryz.func61 comp61 _ 21 res61 nt61 (by simp) (by simp) ?_
  simp only [c61, r61_0, wpC, andThen_normal, rA_mov, rA_nil, goon, val_k, updO_some, List.length_nil, reduceCtorEq]
  refine W_un mixed 1 (Un_in ?_)
  simp only [l61_0, r61_1, wpC, andThen_normal, andThen_exit, inBlk_normal, inBlk_exit, rA_mov, rA_pick, rA_load, rA_bin, rA_idx, rA_len, rA_guardf, rA_nil, goon, boolA_bool, condA_bool, both_some, pickA_bool, ldA_iptr, ldv_f, binA_sub, binA_gtr, idxA_vec, lenSA_vec, val_t, val_k, updO_some, bindP_some, bindP_need, upd_app, argsE_app, List.getD_cons_zero, List.getD_cons_succ, List.getD_nil, List.length_nil, true_and, and_true, forall_const, reduceCtorEq, reduceIte, false_implies, Bool.not_true, Bool.true_eq_false, Bool.false_eq_true, Nat.reduceEqDiff, Nat.reduceLeDiff, Nat.mul_one, decide_false, Int.reduceLT, Int.reduceLE, Int.reduceSub, Int.reduceNeg, Int.natCast_zero, wim1]
  simp only [r61_3, rA_mov, rA_nil, goon, val_t, updO_some, upd_app, argsE_app, List.getD_cons_zero, List.getD_cons_succ, List.getD_nil, reduceCtorEq, reduceIte, Nat.reduceEqDiff]
  exact ⟨.inl trivial, _, rfl, .keep _ _⟩
theorem trim1 (x : Nat) (c : Option Nat) (hx : x ≠ 0) : Ret Tryz.prog G 61 [.vec [.int .u32 x] 1 c] [] (.vec [.int .u32 x] 1 c) [] := by
  have h0 := ne0 hx
  refine Ret_of mixed Tryz.func61 comp61 _ 21 res61 nt61 (by simp) (by simp) ?_
  simp only [c61, r61_0, wpC, andThen_normal, rA_mov, rA_nil, goon, val_k, updO_some, List.length_nil, reduceCtorEq]
  refine W_un mixed 1 (Un_in ?_)
  simp only [l61_0, r61_1, wpC, andThen_normal, andThen_exit, inBlk_normal, inBlk_exit, rA_mov, rA_pick, rA_load, rA_bin, rA_idx, rA_len, rA_guardf, rA_nil, goon, boolA_bool, condA_bool, both_some, pickA_bool, ldA_iptr, ldv_f, binA_sub, binA_eql, binA_gtr, idxA_vec, lenSA_vec, val_t, val_k, updO_some, bindP_some, bindP_need, upd_app, argsE_app, List.getD_cons_zero, List.getD_cons_succ, List.getD_nil, List.length_cons, List.length_nil, true_and, and_true, forall_const, reduceCtorEq, reduceIte, false_implies, Bool.not_true, Bool.true_eq_false, Bool.false_eq_true, Nat.zero_add, Nat.reduceEqDiff, Nat.reduceLeDiff, Nat.mul_one, decide_true, Int.reduceSub, n1, wi0, tn0, le0, lt01, h0]
  simp only [r61_3, rA_mov, rA_nil, goon, val_t, updO_some, upd_app, argsE_app, List.getD_cons_zero, List.getD_cons_succ, List.getD_nil, reduceCtorEq, reduceIte, Nat.reduceEqDiff]
  exact ⟨.inl trivial, _, rfl, .keep _ _⟩
theorem trimS1 (x : Nat) (k : Option Nat) (hx : x ≠ 0) : Ret Tryz.prog G 61 [.sl 0 0 1 1 k] [some [.int .u32 x]] (.sl 0 0 1 1 k) [some [.int .u32 x]] := by
  have h0 := ne0 hx
  refine Ret_of mixed Tryz.func61 comp61 _ 21 res61 nt61 (by simp) (by simp) ?_
  simp only [c61, r61_0, wpC, andThen_normal, rA_mov, rA_nil, goon, val_k, updO_some, List.length_cons, List.length_nil, reduceCtorEq, Nat.zero_add]
  refine W_un mixed 1 (Un_in ?_)
  simp only [l61_0, r61_1, wpC, andThen_normal, andThen_exit, inBlk_normal, inBlk_exit, rA_mov, rA_pick, rA_load, rA_bin, rA_idx, rA_len, rA_guardf, rA_nil, goon, boolA_bool, condA_bool, both_some, pickA_bool, ldA_ptr, ldv_f, binA_sub, binA_eql, binA_gtr, idxA_sl, lenSA_sl, val_t, val_k, updO_some, bindP_some, bindP_need, upd_app, argsE_app, getB_zero, List.getD_cons_zero, List.getD_cons_succ, List.getD_nil, List.length_cons, List.length_nil, true_and, and_true, forall_const, Option.bind_some, reduceCtorEq, reduceIte, false_implies, Bool.not_true, Bool.true_eq_false, Bool.false_eq_true, Nat.zero_add, Nat.reduceEqDiff, Nat.reduceLeDiff, Nat.mul_one, decide_true, Int.reduceSub, n1, wi0, tn0, le0, lt01, h0]
  simp only [r61_3, rA_mov, rA_nil, goon, val_t, updO_some, upd_app, argsE_app, List.getD_cons_zero, List.getD_cons_succ, List.getD_nil, reduceCtorEq, reduceIte, Nat.reduceEqDiff]
  exact ⟨.inl trivial, _, rfl, .keep _ _⟩
theorem trimS1z (k : Nat) : Ret Tryz.prog G 61 [.sl 0 0 1 1 (some k)] [some [.int .u32 0]] (.vec [] 0 (some k)) [some [.int .u32 0]] := by
  refine Ret_of mixed Tryz.func61 comp61 _ 21 res61 nt61 (by simp) (by simp) ?_
  simp only [c61, r61_0, wpC, andThen_normal, rA_mov, rA_nil, goon, val_k, updO_some, List.length_cons, List.length_nil, reduceCtorEq, Nat.zero_add]
  refine W_un mixed 2 (Un_in ?_)
  simp only [l61_0, r61_1, r61_2, wpC, andThen_normal, andThen_exit, inBlk_normal, inBlk_exit, rA_mov, rA_pick, rA_load, rA_bin, rA_slice, rA_idx, rA_len, rA_guardf, rA_nil, goon, boolA_bool, condA_bool, both_some, pickA_bool, ldA_ptr, ldv_f, binA_sub, binA_eql, binA_gtr, natOf_int, optNat_none, optNat_some, sliceA_sl, subCap_zero, idxA_sl, lenSA_sl, val_t, val_k, updO_some, bindP_some, bindP_need, bindP_bind, upd_app, argsE_app, getB_zero, List.getD_cons_zero, List.getD_cons_succ, List.getD_nil, List.length_cons, List.length_nil, true_and, and_true, forall_const, Option.bind_some, reduceCtorEq, reduceIte, false_implies, Bool.not_true, Bool.true_eq_false, Bool.false_eq_true, Nat.zero_add, Nat.reduceEqDiff, Nat.reduceLeDiff, Nat.mul_one, decide_true, Int.reduceSub, Nat.reduceSub, n1, wi0, tn0, le0, lt01]
  refine Un_in ?_
  simp only [wpC, andThen_normal, andThen_exit, inBlk_normal, inBlk_exit, rA_mov, rA_pick, rA_load, rA_bin, rA_slice, rA_idx, rA_len, rA_guardf, rA_nil, goon, boolA_bool, condA_bool, both_some, pickA_bool, ldA_iptr, ldv_f, binA_sub, binA_gtr, natOf_int, optNat_none, optNat_some, sliceA_vec, subCap_zero, idxA_vec, lenSA_vec, val_t, val_k, updO_some, bindP_some, bindP_need, bindP_bind, upd_app, argsE_app, List.getD_cons_zero, List.getD_cons_succ, List.getD_nil, List.length_nil, true_and, and_true, forall_const, Option.bind_some, reduceCtorEq, reduceIte, false_implies, Bool.not_true, Bool.true_eq_false, Bool.false_eq_true, Nat.reduceEqDiff, Nat.succ_ne_zero, Nat.reduceLeDiff, Nat.mul_one, List.drop_zero, decide_false, Int.reduceLT, Int.reduceLE, Int.reduceSub, Int.reduceNeg, Int.natCast_zero, wim1]
  simp only [r61_3, rA_mov, rA_nil, goon, val_t, updO_some, upd_app, argsE_app, List.getD_cons_zero, List.getD_cons_succ, List.getD_nil, reduceCtorEq, reduceIte, Nat.reduceEqDiff, Nat.succ_ne_zero]
  exact ⟨.inl trivial, _, rfl, .keep _ _⟩
theorem trimS2 (x y : Nat) (k : Option Nat) (hy : y ≠ 0) : Ret Tryz.prog G 61 [.sl 0 0 2 1 k] [some [.int .u32 x, .int .u32 y]] (.sl 0 0 2 1 k) [some [.int .u32 x, .int .u32 y]] := by
  have h0 := ne0 hy
  refine Ret_of mixed Tryz.func61 comp61 _ 21 res61 nt61 (by simp) (by simp) ?_
  simp only [c61, r61_0, wpC, andThen_normal, rA_mov, rA_nil, goon, val_k, updO_some, List.length_cons, List.length_nil, reduceCtorEq, Nat.zero_add]
  refine W_un mixed 1 (Un_in ?_)
  simp only [l61_0, r61_1, wpC, andThen_normal, andThen_exit, inBlk_normal, inBlk_exit, rA_mov, rA_pick, rA_load, rA_bin, rA_idx, rA_len, rA_guardf, rA_nil, goon, boolA_bool, condA_bool, both_some, pickA_bool, ldA_ptr, ldv_f, binA_sub, binA_eql, binA_gtr, idxA_sl, lenSA_sl, val_t, val_k, updO_some, bindP_some, bindP_need, upd_app, argsE_app, getB_zero, List.getD_cons_zero, List.getD_cons_succ, List.getD_nil, List.length_cons, List.length_nil, true_and, and_true, forall_const, Option.bind_some, reduceCtorEq, reduceIte, false_implies, Bool.not_true, Bool.true_eq_false, Bool.false_eq_true, Nat.zero_add, Nat.reduceAdd, Nat.reduceEqDiff, Nat.reduceLeDiff, Nat.mul_one, decide_true, Int.reduceLT, Int.reduceLE, Int.reduceSub, Nat.reduceAdd, n2, wi1, tn1, lt12, h0]
  simp only [r61_3, rA_mov, rA_nil, goon, val_t, updO_some, upd_app, argsE_app, List.getD_cons_zero, List.getD_cons_succ, List.getD_nil, reduceCtorEq, reduceIte, Nat.reduceEqDiff]
  exact ⟨.inl trivial, _, rfl, .keep _ _⟩
theorem trimS2z (x : Nat) (k : Nat) (hx : x ≠ 0) : Ret Tryz.prog G 61 [.sl 0 0 2 1 (some k)] [some [.int .u32 x, .int .u32 0]] (.sl 0 0 1 1 (some k)) [some [.int .u32 x, .int .u32 0]] := by
  have h0 := ne0 hx
  refine Ret_of mixed Tryz.func61 comp61 _ 21 res61 nt61 (by simp) (by simp) ?_
  simp only [c61, r61_0, wpC, andThen_normal, rA_mov, rA_nil, goon, val_k, updO_some, List.length_cons, List.length_nil, reduceCtorEq, Nat.zero_add]
  refine W_un mixed 2 (Un_in ?_)
  simp only [l61_0, r61_1, r61_2, wpC, andThen_normal, andThen_exit, inBlk_normal, inBlk_exit, rA_mov, rA_pick, rA_load, rA_bin, rA_slice, rA_idx, rA_len, rA_guardf, rA_nil, goon, boolA_bool, condA_bool, both_some, pickA_bool, ldA_ptr, ldv_f, binA_sub, binA_eql, binA_gtr, natOf_int, optNat_none, optNat_some, sliceA_sl, subCap_zero, idxA_sl, lenSA_sl, val_t, val_k, updO_some, bindP_some, bindP_need, bindP_bind, upd_app, argsE_app, getB_zero, List.getD_cons_zero, List.getD_cons_succ, List.getD_nil, List.length_cons, List.length_nil, true_and, and_true, forall_const, Option.bind_some, reduceCtorEq, reduceIte, false_implies, Bool.not_true, Bool.true_eq_false, Bool.false_eq_true, Nat.zero_add, Nat.reduceAdd, Nat.reduceEqDiff, Nat.reduceLeDiff, Nat.mul_one, decide_true, Int.reduceLT, Int.reduceLE, Int.reduceSub, Nat.reduceAdd, Nat.reduceSub, n2, wi1, tn1, lt12]
  refine Un_in ?_
  simp only [wpC, andThen_normal, andThen_exit, inBlk_normal, inBlk_exit, rA_mov, rA_pick, rA_load, rA_bin, rA_slice, rA_idx, rA_len, rA_guardf, rA_nil, goon, boolA_bool, condA_bool, both_some, pickA_bool, ldA_ptr, ldv_f, binA_sub, binA_eql, binA_gtr, natOf_int, optNat_none, optNat_some, sliceA_sl, subCap_zero, idxA_sl, lenSA_sl, val_t, val_k, updO_some, bindP_some, bindP_need, bindP_bind, upd_app, argsE_app, getB_zero, List.getD_cons_zero, List.getD_cons_succ, List.getD_nil, List.length_cons, List.length_nil, true_and, and_true, forall_const, Option.bind_some, reduceCtorEq, reduceIte, false_implies, Bool.not_true, Bool.true_eq_false, Bool.false_eq_true, Nat.zero_add, Nat.reduceAdd, Nat.reduceEqDiff, Nat.succ_ne_zero, Nat.reduceLeDiff, Nat.mul_one, decide_true, Int.reduceSub, Nat.reduceAdd, Nat.reduceSub, n1, wi0, tn0, le0, lt01, h0]
  simp only [r61_3, rA_mov, rA_nil, goon, val_t, updO_some, upd_app, argsE_app, List.getD_cons_zero, List.getD_cons_succ, List.getD_nil, reduceCtorEq, reduceIte, Nat.reduceEqDiff, Nat.succ_ne_zero]
  exact ⟨.inl trivial, _, rfl, .keep _ _⟩
theorem trimS2zz (k : Nat) : Ret Tryz.prog G 61 [.sl 0 0 2 1 (some k)] [some [.int .u32 0, .int .u32 0]] (.vec [] 0 (some k)) [some [.int .u32 0, .int .u32 0]] := by
  refine Ret_of mixed Tryz.func61 comp61 _ 21 res61 nt61 (by simp) (by simp) ?_
  simp only [c61, r61_0, wpC, andThen_normal, rA_mov, rA_nil, goon, val_k, updO_some, List.length_cons, List.length_nil, reduceCtorEq, Nat.zero_add]
  refine W_un mixed 3 (Un_in ?_)
  simp only [l61_0, r61_1, r61_2, wpC, andThen_normal, andThen_exit, inBlk_normal, inBlk_exit, rA_mov, rA_pick, rA_load, rA_bin, rA_slice, rA_idx, rA_len, rA_guardf, rA_nil, goon, boolA_bool, condA_bool, both_some, pickA_bool, ldA_ptr, ldv_f, binA_sub, binA_eql, binA_gtr, natOf_int, optNat_none, optNat_some, sliceA_sl, subCap_zero, idxA_sl, lenSA_sl, val_t, val_k, updO_some, bindP_some, bindP_need, bindP_bind, upd_app, argsE_app, getB_zero, List.getD_cons_zero, List.getD_cons_succ, List.getD_nil, List.length_cons, List.length_nil, true_and, and_true, forall_const, Option.bind_some, reduceCtorEq, reduceIte, false_implies, Bool.not_true, Bool.true_eq_false, Bool.false_eq_true, Nat.zero_add, Nat.reduceAdd, Nat.reduceEqDiff, Nat.reduceLeDiff, Nat.mul_one, decide_true, Int.reduceLT, Int.reduceLE, Int.reduceSub, Nat.reduceAdd, Nat.reduceSub, n2, wi1, tn1, lt12]
  refine Un_in ?_
  simp only [wpC, andThen_normal, andThen_exit, inBlk_normal, inBlk_exit, rA_mov, rA_pick, rA_load, rA_bin, rA_slice, rA_idx, rA_len, rA_guardf, rA_nil, goon, boolA_bool, condA_bool, both_some, pickA_bool, ldA_ptr, ldv_f, binA_sub, binA_eql, binA_gtr, natOf_int, optNat_none, optNat_some, sliceA_sl, subCap_zero, idxA_sl, lenSA_sl, val_t, val_k, updO_some, bindP_some, bindP_need, bindP_bind, upd_app, argsE_app, getB_zero, List.getD_cons_zero, List.getD_cons_succ, List.getD_nil, List.length_cons, List.length_nil, true_and, and_true, forall_const, Option.bind_some, reduceCtorEq, reduceIte, false_implies, Bool.not_true, Bool.true_eq_false, Bool.false_eq_true, Nat.zero_add, Nat.reduceAdd, Nat.reduceEqDiff, Nat.succ_ne_zero, Nat.reduceLeDiff, Nat.mul_one, decide_true, Int.reduceSub, Nat.reduceAdd, Nat.reduceSub, n1, wi0, tn0, le0, lt01]
  refine Un_in ?_
  simp only [wpC, andThen_normal, andThen_exit, inBlk_normal, inBlk_exit, rA_mov, rA_pick, rA_load, rA_bin, rA_slice, rA_idx, rA_len, rA_guardf, rA_nil, goon, boolA_bool, condA_bool, both_some, pickA_bool, ldA_iptr, ldv_f, binA_sub, binA_gtr, natOf_int, optNat_none, optNat_some, sliceA_vec, subCap_zero, idxA_vec, lenSA_vec, val_t, val_k, updO_some, bindP_some, bindP_need, bindP_bind, upd_app, argsE_app, List.getD_cons_zero, List.getD_cons_succ, List.getD_nil, List.length_nil, true_and, and_true, forall_const, Option.bind_some, reduceCtorEq, reduceIte, false_implies, Bool.not_true, Bool.true_eq_false, Bool.false_eq_true, Nat.reduceEqDiff, Nat.succ_ne_zero, Nat.reduceLeDiff, Nat.mul_one, List.drop_zero, decide_false, Int.reduceLT, Int.reduceLE, Int.reduceSub, Int.reduceNeg, Int.natCast_zero, wim1]
  simp only [r61_3, rA_mov, rA_nil, goon, val_t, updO_some, upd_app, argsE_app, List.getD_cons_zero, List.getD_cons_succ, List.getD_nil, reduceCtorEq, reduceIte, Nat.reduceEqDiff, Nat.succ_ne_zero]
  exact ⟨.inl trivial, _, rfl, .keep _ _⟩
-- word
theorem word0 (c : Option Nat) : Ret Tryz.prog G 102 [.vec [] 0 c] [] (.int .u64 0) [] := by
  refine Ret_of mixed Tryz.func102 comp102 _ 22 res102 nt102 (by simp) (by simp) ?_
  simp only [c102, r102_0, r102_1, r102_2, wpC, andThen_normal, rA_mov, rA_len, rA_nil, goon, lenSA_vec, val_t, val_k, updO_some, bindP_some, upd_app, argsE_app, List.getD_cons_zero, List.length_nil, reduceCtorEq, reduceIte]
  refine W_un mixed 1 (Un_in ?_)
  simp only [l102_0, r102_3, wpC, andThen_normal, andThen_exit, inBlk_normal, inBlk_exit, rA_bin, rA_nil, goon, condA_bool, both_some, binA_lss, val_t, updO_some, bindP_some, upd_app, argsE_app, List.getD_cons_succ, List.getD_nil, true_and, forall_const, reduceCtorEq, reduceIte, false_implies, Bool.false_eq_true, Nat.reduceEqDiff, decide_false, Int.reduceLT, Int.natCast_zero]
  simp only [r102_7, rA_mov, rA_nil, goon, val_t, updO_some, upd_app, argsE_app, List.getD_cons_succ, List.getD_nil, reduceIte, Nat.reduceEqDiff]
  exact ⟨.inl trivial, _, rfl, .keep _ _⟩
theorem word1 (x : Nat) (c : Option Nat) (hx : x < 4294967296) : Ret Tryz.prog G 102 [.vec [.int .u32 x] 1 c] [] (.int .u64 x) [] := by
  have w1 : IntKind.u64.wrap (x : Int) = x := wrap_u64 (by omega)
  have w2 : IntKind.u64.wrap ((BitVec.ofInt IntKind.u64.bits 0 ||| BitVec.ofInt IntKind.u64.bits (x : Int)).toNat : Int) = x := or_zero64 (x := x) (by omega)
  refine Ret_of mixed Tryz.func102 comp102 _ 22 res102 nt102 (by simp) (by simp) ?_
  simp only [c102, r102_0, r102_1, r102_2, wpC, andThen_normal, rA_mov, rA_len, rA_nil, goon, lenSA_vec, val_t, val_k, updO_some, bindP_some, upd_app, argsE_app, List.getD_cons_zero, List.length_nil, reduceCtorEq, reduceIte]
  refine W_un mixed 2 (Un_in ?_)
  simp only [l102_0, r102_3, wpC, andThen_normal, andThen_exit, inBlk_normal, inBlk_exit, rA_bin, rA_nil, goon, condA_bool, both_some, binA_lss, val_t, updO_some, bindP_some, upd_app, argsE_app, List.getD_cons_succ, List.getD_nil, and_true, forall_const, reduceCtorEq, reduceIte, false_implies, Bool.true_eq_false, Nat.reduceEqDiff, decide_true, n1, lt01]
  simp only [r102_4, r102_5, rA_mov, rA_load, rA_bin, rA_conv, rA_idx, rA_nil, goon, ldA_iptr, ldv_f, binA_mul, binA_shl, binA_or, convA_int, idxA_vec, val_t, val_k, updO_some, bindP_some, bindP_need, upd_app, argsE_app, List.getD_cons_zero, List.getD_cons_succ, List.getD_nil, List.length_cons, List.length_nil, true_and, and_true, forall_const, reduceIte, Nat.zero_add, Nat.reduceEqDiff, Nat.reduceLeDiff, Nat.mul_one, Int.reduceMul, n1, wi0, tn0, le0, lt01, w1, Nat.zero_min, Int.pow_zero, Int.mul_one, w2]
  simp only [r102_6, rA_mov, rA_bin, rA_nil, goon, binA_add, val_t, val_k, updO_some, bindP_some, upd_app, argsE_app, List.getD_cons_succ, List.getD_nil, reduceIte, Nat.reduceEqDiff, Int.reduceAdd, wi1]
  refine Un_in ?_
  simp only [wpC, andThen_normal, andThen_exit, inBlk_normal, inBlk_exit, rA_mov, rA_load, rA_bin, rA_conv, rA_idx, rA_nil, goon, condA_bool, both_some, ldA_iptr, ldv_f, binA_lss, idxA_vec, val_t, val_k, updO_some, bindP_some, bindP_need, upd_app, argsE_app, List.getD_cons_succ, List.getD_nil, List.length_cons, List.length_nil, true_and, forall_const, reduceCtorEq, reduceIte, false_implies, Bool.false_eq_true, Nat.zero_add, Nat.reduceAdd, Nat.reduceEqDiff, Nat.reduceLeDiff, Nat.mul_one, decide_false, Int.reduceLT, Int.reduceLE, Nat.reduceAdd, n1, tn1]
  simp only [r102_7, rA_mov, rA_nil, goon, val_t, updO_some, upd_app, argsE_app, List.getD_cons_succ, List.getD_nil, reduceIte, Nat.reduceEqDiff]
  exact ⟨.inl trivial, _, rfl, .keep _ _⟩
-- build
theorem build0 (s : Bool) (cs : List AV) (c : Option Nat) : Ret Tryz.prog G 58 [.bool s, .vec cs 0 c] [] (.agg [.bool false, .vec [] 0 (some 0)]) [] := by
  refine Ret_of mixed Tryz.func58 comp58 _ 12 res58 nt58 (by simp) (by simp) ?_
  simp only [c58, r58_0, r58_1, r58_2, wpC, andThen_normal, andThen_ret, rA_mov, rA_box, rA_build, rA_store, rA_bin, rA_len, rA_nil, goon, condA_bool, both_some, stA_ptr, binA_eql, lenSA_vec, val_t, val_k, updO_some, cells_agg, firm_agg, setL_nil, setL_cons, scalL_nil, scalL_cons, scal_bool, scal_vec, fillA_nil, bindP_some, bindP_need, upd_app, argsE_app, getB_zero, List.getD_cons_zero, List.getD_cons_succ, List.getD_nil, List.length_cons, List.length_nil, List.nil_append, true_and, and_true, forall_const, Option.bind_some, reduceCtorEq, reduceIte, false_implies, Bool.true_eq_false, Nat.zero_add, Nat.reduceAdd, Nat.reduceEqDiff, Nat.reduceLeDiff, List.set_cons_zero, List.set_cons_succ, Bool.and_self, decide_true, Nat.reduceAdd, Int.natCast_zero]
  exact ⟨.inl trivial, _, rfl, .drop _ _ rfl (by intro i cs h; omega)⟩
theorem build1 (s : Bool) (l : List AV) (c : Option Nat) : Ret Tryz.prog G 58 [.bool s, .vec l 1 c] [] (.agg [.bool s, .vec l 1 c]) [] := by
  refine Ret_of mixed Tryz.func58 comp58 _ 12 res58 nt58 (by simp) (by simp) ?_
  simp only [c58, r58_0, r58_1, r58_3, wpC, andThen_normal, andThen_ret, rA_mov, rA_box, rA_build, rA_store, rA_bin, rA_len, rA_nil, goon, condA_bool, both_some, stA_ptr, binA_eql, lenSA_vec, val_t, val_k, updO_some, cells_agg, cells_bool, cells_vec, firm_agg, firm_bool, firm_vec, setL_nil, setL_cons, scalL_nil, scalL_cons, scal_bool, scal_vec, fillA_nil, fillA_cons, bindP_some, bindP_need, upd_app, argsE_app, getB_zero, List.getD_cons_zero, List.getD_cons_succ, List.getD_nil, List.length_cons, List.length_nil, List.nil_append, true_and, and_true, forall_const, Option.bind_some, reduceCtorEq, reduceIte, false_implies, Bool.false_eq_true, Nat.zero_add, Nat.reduceAdd, Nat.reduceEqDiff, Nat.reduceLeDiff, List.set_cons_zero, List.set_cons_succ, Bool.and_self, decide_false, Int.reduceEq, Nat.reduceAdd, n1]
  exact ⟨.inl trivial, _, rfl, .drop _ _ rfl (by intro i cs h; omega)⟩
-- fromWord
theorem fromWord0 : Ret Tryz.prog G 59 [.int .u64 0] [] (.vec [] 0 (some 2)) [] := by
  have w1 : IntKind.u32.wrap 0 = 0 := rfl
  have w2 : Int.fdiv 0 (2 ^ min (Int.toNat 32) IntKind.u64.bits) = 0 := rfl
  refine Ret_of mixed Tryz.func59 comp59 _ 10 res59 nt59 (by simp) (by simp) ?_
  simp only [c59, r59_0, r59_1, wpC, andThen_normal, rA_mov, rA_bsl, rA_bin, rA_conv, rA_callf, rA_nil, goon, binA_shr, convA_int, val_t, val_k, updO_some, cells_int, firm_int, setL_nil, setL_cons, fillA_nil, fillA_cons, bindP_some, bindP_need, upd_app, argsE_app, List.getD_cons_zero, List.getD_cons_succ, List.getD_nil, List.map_cons, List.map_nil, List.length_cons, List.length_nil, List.nil_append, true_and, and_true, reduceCtorEq, reduceIte, Nat.zero_add, Nat.reduceAdd, Nat.reduceEqDiff, Nat.reduceLeDiff, Nat.mul_one, List.set_cons_zero, List.set_cons_succ, Int.reduceLE, Nat.reduceAdd, w1, w2]
  refine callA_one (trimS2zz 2) rfl rfl ?_
  simp only [restA, applyE, List.replicate_zero, List.append_nil, rA_mov, rA_nil, goon, val_t, updO_some, upd_app, argsE_app, List.getD_cons_succ, List.getD_nil, List.length_cons, List.length_nil, reduceIte, Nat.zero_add, Nat.reduceEqDiff, List.set_cons_zero]
  exact ⟨.inl trivial, _, rfl, .freeze 3 _ _ _ rfl (by intro i cs h; omega)⟩
theorem fromWord1 (x : Nat) (hx : x ≠ 0) (hx' : x < 4294967296) : Ret Tryz.prog G 59 [.int .u64 x] [] (.vec [.int .u32 x] 1 (some 2)) [] := by
  have w1 : IntKind.u32.wrap (x : Int) = x := wrap_u32 hx'
  have w3 : IntKind.u32.wrap 0 = 0 := rfl
  have w2 : Int.fdiv (x : Int) (2 ^ min (Int.toNat 32) IntKind.u64.bits) = 0 := by
    show Int.fdiv (x : Int) 4294967296 = 0
    rw [Int.fdiv_eq_ediv_of_nonneg _ (by decide)]
    omega
  refine Ret_of mixed Tryz.func59 comp59 _ 10 res59 nt59 (by simp) (by simp) ?_
  simp only [c59, r59_0, r59_1, wpC, andThen_normal, rA_mov, rA_bsl, rA_bin, rA_conv, rA_callf, rA_nil, goon, binA_shr, convA_int, val_t, val_k, updO_some, cells_int, firm_int, setL_nil, setL_cons, fillA_nil, fillA_cons, bindP_some, bindP_need, upd_app, argsE_app, List.getD_cons_zero, List.getD_cons_succ, List.getD_nil, List.map_cons, List.map_nil, List.length_cons, List.length_nil, List.nil_append, true_and, and_true, reduceCtorEq, reduceIte, Nat.zero_add, Nat.reduceAdd, Nat.reduceEqDiff, Nat.reduceLeDiff, Nat.mul_one, List.set_cons_zero, List.set_cons_succ, Int.reduceLE, Nat.reduceAdd, w1, w2, w3]
  refine callA_one (trimS2z x 2 hx) rfl rfl ?_
  simp only [restA, applyE, List.replicate_zero, List.append_nil, rA_mov, rA_nil, goon, val_t, updO_some, upd_app, argsE_app, List.getD_cons_succ, List.getD_nil, List.length_cons, List.length_nil, reduceIte, Nat.zero_add, Nat.reduceEqDiff, List.set_cons_zero]
  exact ⟨.inl trivial, _, rfl, .freeze 3 _ _ _ rfl (by intro i cs h; omega)⟩
-- mulNat
theorem mulNat00 (c d : Option Nat) : Ret Tryz.prog G 60 [.vec [] 0 c, .vec [] 0 d] [] (.vec [] 0 (some 2)) [] := by
  have w1 : IntKind.u64.wrap 0 = 0 := rfl
  refine Ret_of mixed Tryz.func60 comp60 _ 86 res60 nt60 (by simp) (by simp) ?_
  simp only [c60, wpC, andThen_normal, andThen_ret, val_t, List.length_nil, reduceCtorEq]
  simp only [r60_0, rA_mov, rA_nil, goon, val_k, updO_some]
  simp only [r60_1, rA_mov, rA_pick, rA_bin, rA_len, rA_guardf, rA_nil, goon, boolA_bool, condA_bool, both_some, pickA_bool, binA_leq, lenSA_vec, val_t, val_k, updO_some, bindP_some, upd_app, argsE_app, List.getD_cons_zero, List.getD_cons_succ, List.getD_nil, true_and, and_true, forall_const, reduceCtorEq, reduceIte, false_implies, Bool.not_true, Bool.true_eq_false, Bool.false_eq_true, Nat.reduceEqDiff, decide_true, Int.reduceLE, Int.natCast_zero]
  simp only [r60_2, rA_mov, rA_callf, goon, val_t, updO_some, upd_app, argsE_app, List.getD_cons_zero, List.getD_cons_succ, List.getD_nil, List.map_cons, List.map_nil, reduceCtorEq, reduceIte, Nat.reduceEqDiff]
  refine callA_pure (word0 c) ?_
  simp only [rA_mov, rA_callf, restA_pure, goon, val_t, updO_some, upd_app, argsE_app, List.getD_cons_zero, List.getD_cons_succ, List.getD_nil, List.map_cons, List.map_nil, reduceIte, Nat.reduceEqDiff]
  refine callA_pure (word0 d) ?_
  simp only [rA_bin, rA_callf, restA_pure, goon, binA_mul, val_t, updO_some, bindP_some, upd_app, argsE_app, List.getD_cons_succ, List.getD_nil, List.map_cons, List.map_nil, reduceIte, Nat.reduceEqDiff, w1, Int.mul_zero]
  refine callA_pure fromWord0 ?_
  simp only [rA_mov, rA_nil, restA_pure, goon, val_t, updO_some, upd_app, argsE_app, List.getD_cons_succ, List.getD_nil, reduceIte, Nat.reduceEqDiff]
  exact ⟨.inl trivial, _, rfl, .keep _ _⟩
theorem mulNat01 (y : Nat) (c d : Option Nat) (hy : y ≠ 0) (hy' : y < 4294967296) : Ret Tryz.prog G 60 [.vec [] 0 c, .vec [.int .u32 y] 1 d] [] (.vec [] 0 (some 2)) [] := by
  have w1 : IntKind.u64.wrap 0 = 0 := rfl
  refine Ret_of mixed Tryz.func60 comp60 _ 86 res60 nt60 (by simp) (by simp) ?_
  simp only [c60, wpC, andThen_normal, andThen_ret, val_t, List.length_nil, reduceCtorEq]
  simp only [r60_0, rA_mov, rA_nil, goon, val_k, updO_some]
  simp only [r60_1, rA_mov, rA_pick, rA_bin, rA_len, rA_guardf, rA_nil, goon, boolA_bool, condA_bool, both_some, pickA_bool, binA_leq, lenSA_vec, val_t, val_k, updO_some, bindP_some, upd_app, argsE_app, List.getD_cons_zero, List.getD_cons_succ, List.getD_nil, true_and, and_true, forall_const, reduceCtorEq, reduceIte, false_implies, Bool.not_true, Bool.true_eq_false, Bool.false_eq_true, Nat.reduceEqDiff, decide_true, Int.reduceLE, n1, Int.natCast_zero]
  simp only [r60_2, rA_mov, rA_callf, goon, val_t, updO_some, upd_app, argsE_app, List.getD_cons_zero, List.getD_cons_succ, List.getD_nil, List.map_cons, List.map_nil, reduceCtorEq, reduceIte, Nat.reduceEqDiff]
  refine callA_pure (word0 c) ?_
  simp only [rA_mov, rA_callf, restA_pure, goon, val_t, updO_some, upd_app, argsE_app, List.getD_cons_zero, List.getD_cons_succ, List.getD_nil, List.map_cons, List.map_nil, reduceIte, Nat.reduceEqDiff]
  refine callA_pure (word1 y d hy') ?_
  simp only [rA_bin, rA_callf, restA_pure, goon, binA_mul, val_t, updO_some, bindP_some, upd_app, argsE_app, List.getD_cons_succ, List.getD_nil, List.map_cons, List.map_nil, reduceIte, Nat.reduceEqDiff, w1, Int.zero_mul]
  refine callA_pure fromWord0 ?_
  simp only [rA_mov, rA_nil, restA_pure, goon, val_t, updO_some, upd_app, argsE_app, List.getD_cons_succ, List.getD_nil, reduceIte, Nat.reduceEqDiff]
  exact ⟨.inl trivial, _, rfl, .keep _ _⟩
theorem mulNat10 (x : Nat) (c d : Option Nat) (hx : x ≠ 0) (hx' : x < 4294967296) : Ret Tryz.prog G 60 [.vec [.int .u32 x] 1 c, .vec [] 0 d] [] (.vec [] 0 (some 2)) [] := by
  have w1 : IntKind.u64.wrap 0 = 0 := rfl
  refine Ret_of mixed Tryz.func60 comp60 _ 86 res60 nt60 (by simp) (by simp) ?_
  simp only [c60, wpC, andThen_normal, andThen_ret, val_t, List.length_nil, reduceCtorEq]
  simp only [r60_0, rA_mov, rA_nil, goon, val_k, updO_some]
  simp only [r60_1, rA_mov, rA_pick, rA_bin, rA_len, rA_guardf, rA_nil, goon, boolA_bool, condA_bool, both_some, pickA_bool, binA_leq, lenSA_vec, val_t, val_k, updO_some, bindP_some, upd_app, argsE_app, List.getD_cons_zero, List.getD_cons_succ, List.getD_nil, true_and, and_true, forall_const, reduceCtorEq, reduceIte, false_implies, Bool.not_true, Bool.true_eq_false, Bool.false_eq_true, Nat.reduceEqDiff, decide_true, Int.reduceLE, n1, Int.natCast_zero]
  simp only [r60_2, rA_mov, rA_callf, goon, val_t, updO_some, upd_app, argsE_app, List.getD_cons_zero, List.getD_cons_succ, List.getD_nil, List.map_cons, List.map_nil, reduceCtorEq, reduceIte, Nat.reduceEqDiff]
  refine callA_pure (word1 x c hx') ?_
  simp only [rA_mov, rA_callf, restA_pure, goon, val_t, updO_some, upd_app, argsE_app, List.getD_cons_zero, List.getD_cons_succ, List.getD_nil, List.map_cons, List.map_nil, reduceIte, Nat.reduceEqDiff]
  refine callA_pure (word0 d) ?_
  simp only [rA_bin, rA_callf, restA_pure, goon, binA_mul, val_t, updO_some, bindP_some, upd_app, argsE_app, List.getD_cons_succ, List.getD_nil, List.map_cons, List.map_nil, reduceIte, Nat.reduceEqDiff, w1, Int.mul_zero]
  refine callA_pure fromWord0 ?_
  simp only [rA_mov, rA_nil, restA_pure, goon, val_t, updO_some, upd_app, argsE_app, List.getD_cons_succ, List.getD_nil, reduceIte, Nat.reduceEqDiff]
  exact ⟨.inl trivial, _, rfl, .keep _ _⟩
theorem mulNat11 (x : Nat) (y : Nat) (c d : Option Nat) (hx : x ≠ 0) (hx' : x < 4294967296) (hy : y ≠ 0) (hy' : y < 4294967296) (hxy : x * y < 4294967296) : Ret Tryz.prog G 60 [.vec [.int .u32 x] 1 c, .vec [.int .u32 y] 1 d] [] (.vec [.int .u32 (x * y : Nat)] 1 (some 2)) [] := by
  have w1 : IntKind.u64.wrap ((x : Int) * (y : Int)) = ((x * y : Nat) : Int) := by rw [← Int.natCast_mul]; exact wrap_u64 (by omega)
  have hn : x * y ≠ 0 := Nat.mul_ne_zero hx hy
  refine Ret_of mixed Tryz.func60 comp60 _ 86 res60 nt60 (by simp) (by simp) ?_
  simp only [c60, wpC, andThen_normal, andThen_ret, val_t, List.length_nil, reduceCtorEq]
  simp only [r60_0, rA_mov, rA_nil, goon, val_k, updO_some]
  simp only [r60_1, rA_mov, rA_pick, rA_bin, rA_len, rA_guardf, rA_nil, goon, boolA_bool, condA_bool, both_some, pickA_bool, binA_leq, lenSA_vec, val_t, val_k, updO_some, bindP_some, upd_app, argsE_app, List.getD_cons_zero, List.getD_cons_succ, List.getD_nil, true_and, and_true, forall_const, reduceCtorEq, reduceIte, false_implies, Bool.not_true, Bool.true_eq_false, Bool.false_eq_true, Nat.reduceEqDiff, decide_true, Int.reduceLE, n1]
  simp only [r60_2, rA_mov, rA_callf, goon, val_t, updO_some, upd_app, argsE_app, List.getD_cons_zero, List.getD_cons_succ, List.getD_nil, List.map_cons, List.map_nil, reduceCtorEq, reduceIte, Nat.reduceEqDiff]
  refine callA_pure (word1 x c hx') ?_
  simp only [rA_mov, rA_callf, restA_pure, goon, val_t, updO_some, upd_app, argsE_app, List.getD_cons_zero, List.getD_cons_succ, List.getD_nil, List.map_cons, List.map_nil, reduceIte, Nat.reduceEqDiff]
  refine callA_pure (word1 y d hy') ?_
  simp only [rA_bin, rA_callf, restA_pure, goon, binA_mul, val_t, updO_some, bindP_some, upd_app, argsE_app, List.getD_cons_succ, List.getD_nil, List.map_cons, List.map_nil, reduceIte, Nat.reduceEqDiff, w1]
  refine callA_pure (fromWord1 _ hn hxy) ?_
  simp only [rA_mov, rA_nil, restA_pure, goon, val_t, updO_some, upd_app, argsE_app, List.getD_cons_succ, List.getD_nil, reduceIte, Nat.reduceEqDiff]
  exact ⟨.inl trivial, _, rfl, .keep _ _⟩
-- Mul
theorem mul00 (s t : Bool) (c d : Option Nat) : Ret Tryz.prog G 28 [.agg [.bool s, .vec [] 0 c], .agg [.bool t, .vec [] 0 d]] [] (.agg [.bool false, .vec [] 0 (some 0)]) [] := by
  refine Ret_of mixed Tryz.func28 comp28 _ 18 res28 nt28 (by simp) (by simp) ?_
  simp only [c28, wpC, andThen_normal, List.length_nil, reduceCtorEq]
  simp only [r28_0, rA_box, rA_nil, val_t, val_k, updO_some, cells_agg, firm_agg, upd_app, argsE_app, List.getD_cons_zero, List.getD_cons_succ, List.length_cons, List.length_nil, List.nil_append, List.cons_append, true_and, reduceIte, Nat.zero_add, Nat.reduceAdd, Nat.reduceEqDiff]
  simp only [r28_1, rA_load, rA_beq, rA_fld, rA_callf, goon, ldA_ptr, ldv_f, beqA_bool, fldA_ptr, val_t, updO_some, bindP_some, bindP_need, upd_app, argsE_app, getB_zero, getB_succ, List.getD_cons_zero, List.getD_cons_succ, List.getD_nil, List.map_cons, List.map_nil, List.length_cons, List.length_nil, true_and, forall_const, Option.bind_some, reduceIte, Nat.zero_add, Nat.reduceAdd, Nat.reduceEqDiff, Nat.reduceLeDiff, Nat.reduceAdd]
  refine callA_pure (trim0 c) ?_
  simp only [rA_load, rA_fld, rA_callf, restA_pure, goon, ldA_ptr, ldv_f, fldA_ptr, val_t, updO_some, bindP_some, bindP_need, upd_app, argsE_app, getB_zero, getB_succ, List.getD_cons_zero, List.getD_cons_succ, List.getD_nil, List.map_cons, List.map_nil, List.length_cons, List.length_nil, true_and, forall_const, Option.bind_some, reduceIte, Nat.zero_add, Nat.reduceAdd, Nat.reduceEqDiff, Nat.reduceLeDiff, Nat.reduceAdd]
  refine callA_pure (trim0 d) ?_
  simp only [rA_callf, restA_pure, val_t, updO_some, upd_app, argsE_app, List.getD_cons_succ, List.getD_nil, List.map_cons, List.map_nil, reduceIte, Nat.reduceEqDiff]
  refine callA_pure (mulNat00 c d) ?_
  simp only [rA_callf, restA_pure, val_t, updO_some, upd_app, argsE_app, List.getD_cons_succ, List.getD_nil, List.map_cons, List.map_nil, reduceIte, Nat.reduceEqDiff]
  refine callA_pure (build0 _ _ _) ?_
  simp only [rA_store, rA_nil, restA_pure, stA_ptr, val_t, updO_some, cells_agg, firm_agg, setL_nil, setL_cons, scalL_nil, scalL_cons, scal_bool, scal_vec, bindP_some, bindP_need, upd_app, argsE_app, getB_zero, getB_succ, List.getD_cons_succ, List.getD_nil, List.length_cons, List.length_nil, true_and, Option.bind_some, reduceIte, Nat.zero_add, Nat.reduceAdd, Nat.reduceEqDiff, Nat.reduceLeDiff, List.set_cons_zero, List.set_cons_succ, Bool.and_self, Nat.reduceAdd]
  refine ⟨rfl, ?_⟩
  exact ⟨.inl trivial, _, rfl, .drop _ _ rfl (by intro i cs h; omega)⟩
theorem mul01 (s t : Bool) (y : Nat) (c d : Option Nat) (hy : y ≠ 0) (hy' : y < 4294967296) : Ret Tryz.prog G 28 [.agg [.bool s, .vec [] 0 c], .agg [.bool t, .vec [.int .u32 y] 1 d]] [] (.agg [.bool false, .vec [] 0 (some 0)]) [] := by
  refine Ret_of mixed Tryz.func28 comp28 _ 18 res28 nt28 (by simp) (by simp) ?_
  simp only [c28, wpC, andThen_normal, List.length_nil, reduceCtorEq]
  simp only [r28_0, rA_box, rA_nil, val_t, val_k, updO_some, cells_agg, firm_agg, upd_app, argsE_app, List.getD_cons_zero, List.getD_cons_succ, List.length_cons, List.length_nil, List.nil_append, List.cons_append, true_and, reduceIte, Nat.zero_add, Nat.reduceAdd, Nat.reduceEqDiff]
  simp only [r28_1, rA_load, rA_beq, rA_fld, rA_callf, goon, ldA_ptr, ldv_f, beqA_bool, fldA_ptr, val_t, updO_some, bindP_some, bindP_need, upd_app, argsE_app, getB_zero, getB_succ, List.getD_cons_zero, List.getD_cons_succ, List.getD_nil, List.map_cons, List.map_nil, List.length_cons, List.length_nil, true_and, forall_const, Option.bind_some, reduceIte, Nat.zero_add, Nat.reduceAdd, Nat.reduceEqDiff, Nat.reduceLeDiff, Nat.reduceAdd]
  refine callA_pure (trim0 c) ?_
  simp only [rA_load, rA_fld, rA_callf, restA_pure, goon, ldA_ptr, ldv_f, fldA_ptr, val_t, updO_some, bindP_some, bindP_need, upd_app, argsE_app, getB_zero, getB_succ, List.getD_cons_zero, List.getD_cons_succ, List.getD_nil, List.map_cons, List.map_nil, List.length_cons, List.length_nil, true_and, forall_const, Option.bind_some, reduceIte, Nat.zero_add, Nat.reduceAdd, Nat.reduceEqDiff, Nat.reduceLeDiff, Nat.reduceAdd]
  refine callA_pure (trim1 y d hy) ?_
  simp only [rA_callf, restA_pure, val_t, updO_some, upd_app, argsE_app, List.getD_cons_succ, List.getD_nil, List.map_cons, List.map_nil, reduceIte, Nat.reduceEqDiff]
  refine callA_pure (mulNat01 y c d hy hy') ?_
  simp only [rA_callf, restA_pure, val_t, updO_some, upd_app, argsE_app, List.getD_cons_succ, List.getD_nil, List.map_cons, List.map_nil, reduceIte, Nat.reduceEqDiff]
  refine callA_pure (build0 _ _ _) ?_
  simp only [rA_store, rA_nil, restA_pure, stA_ptr, val_t, updO_some, cells_agg, firm_agg, setL_nil, setL_cons, scalL_nil, scalL_cons, scal_bool, scal_vec, bindP_some, bindP_need, upd_app, argsE_app, getB_zero, getB_succ, List.getD_cons_succ, List.getD_nil, List.length_cons, List.length_nil, true_and, Option.bind_some, reduceIte, Nat.zero_add, Nat.reduceAdd, Nat.reduceEqDiff, Nat.reduceLeDiff, List.set_cons_zero, List.set_cons_succ, Bool.and_self, Nat.reduceAdd]
  refine ⟨rfl, ?_⟩
  exact ⟨.inl trivial, _, rfl, .drop _ _ rfl (by intro i cs h; omega)⟩
theorem mul10 (s t : Bool) (x : Nat) (c d : Option Nat) (hx : x ≠ 0) (hx' : x < 4294967296) : Ret Tryz.prog G 28 [.agg [.bool s, .vec [.int .u32 x] 1 c], .agg [.bool t, .vec [] 0 d]] [] (.agg [.bool false, .vec [] 0 (some 0)]) [] := by
  refine Ret_of mixed Tryz.func28 comp28 _ 18 res28 nt28 (by simp) (by simp) ?_
  simp only [c28, wpC, andThen_normal, List.length_nil, reduceCtorEq]
  simp only [r28_0, rA_box, rA_nil, val_t, val_k, updO_some, cells_agg, firm_agg, upd_app, argsE_app, List.getD_cons_zero, List.getD_cons_succ, List.length_cons, List.length_nil, List.nil_append, List.cons_append, true_and, reduceIte, Nat.zero_add, Nat.reduceAdd, Nat.reduceEqDiff]
  simp only [r28_1, rA_load, rA_beq, rA_fld, rA_callf, goon, ldA_ptr, ldv_f, beqA_bool, fldA_ptr, val_t, updO_some, bindP_some, bindP_need, upd_app, argsE_app, getB_zero, getB_succ, List.getD_cons_zero, List.getD_cons_succ, List.getD_nil, List.map_cons, List.map_nil, List.length_cons, List.length_nil, true_and, forall_const, Option.bind_some, reduceIte, Nat.zero_add, Nat.reduceAdd, Nat.reduceEqDiff, Nat.reduceLeDiff, Nat.reduceAdd]
  refine callA_pure (trim1 x c hx) ?_
  simp only [rA_load, rA_fld, rA_callf, restA_pure, goon, ldA_ptr, ldv_f, fldA_ptr, val_t, updO_some, bindP_some, bindP_need, upd_app, argsE_app, getB_zero, getB_succ, List.getD_cons_zero, List.getD_cons_succ, List.getD_nil, List.map_cons, List.map_nil, List.length_cons, List.length_nil, true_and, forall_const, Option.bind_some, reduceIte, Nat.zero_add, Nat.reduceAdd, Nat.reduceEqDiff, Nat.reduceLeDiff, Nat.reduceAdd]
  refine callA_pure (trim0 d) ?_
  simp only [rA_callf, restA_pure, val_t, updO_some, upd_app, argsE_app, List.getD_cons_succ, List.getD_nil, List.map_cons, List.map_nil, reduceIte, Nat.reduceEqDiff]
  refine callA_pure (mulNat10 x c d hx hx') ?_
  simp only [rA_callf, restA_pure, val_t, updO_some, upd_app, argsE_app, List.getD_cons_succ, List.getD_nil, List.map_cons, List.map_nil, reduceIte, Nat.reduceEqDiff]
  refine callA_pure (build0 _ _ _) ?_
  simp only [rA_store, rA_nil, restA_pure, stA_ptr, val_t, updO_some, cells_agg, firm_agg, setL_nil, setL_cons, scalL_nil, scalL_cons, scal_bool, scal_vec, bindP_some, bindP_need, upd_app, argsE_app, getB_zero, getB_succ, List.getD_cons_succ, List.getD_nil, List.length_cons, List.length_nil, true_and, Option.bind_some, reduceIte, Nat.zero_add, Nat.reduceAdd, Nat.reduceEqDiff, Nat.reduceLeDiff, List.set_cons_zero, List.set_cons_succ, Bool.and_self, Nat.reduceAdd]
  refine ⟨rfl, ?_⟩
  exact ⟨.inl trivial, _, rfl, .drop _ _ rfl (by intro i cs h; omega)⟩
theorem mul11 (s t : Bool) (x : Nat) (y : Nat) (c d : Option Nat) (hx : x ≠ 0) (hx' : x < 4294967296) (hy : y ≠ 0) (hy' : y < 4294967296) (hxy : x * y < 4294967296) : Ret Tryz.prog G 28 [.agg [.bool s, .vec [.int .u32 x] 1 c], .agg [.bool t, .vec [.int .u32 y] 1 d]] [] (.agg [.bool (!(s == t)), .vec [.int .u32 (x * y : Nat)] 1 (some 2)]) [] := by
  refine Ret_of mixed Tryz.func28 comp28 _ 18 res28 nt28 (by simp) (by simp) ?_
  simp only [c28, wpC, andThen_normal, List.length_nil, reduceCtorEq]
  simp only [r28_0, rA_box, rA_nil, val_t, val_k, updO_some, cells_agg, firm_agg, upd_app, argsE_app, List.getD_cons_zero, List.getD_cons_succ, List.length_cons, List.length_nil, List.nil_append, List.cons_append, true_and, reduceIte, Nat.zero_add, Nat.reduceAdd, Nat.reduceEqDiff]
  simp only [r28_1, rA_load, rA_beq, rA_fld, rA_callf, goon, ldA_ptr, ldv_f, beqA_bool, fldA_ptr, val_t, updO_some, bindP_some, bindP_need, upd_app, argsE_app, getB_zero, getB_succ, List.getD_cons_zero, List.getD_cons_succ, List.getD_nil, List.map_cons, List.map_nil, List.length_cons, List.length_nil, true_and, forall_const, Option.bind_some, reduceIte, Nat.zero_add, Nat.reduceAdd, Nat.reduceEqDiff, Nat.reduceLeDiff, Nat.reduceAdd]
  refine callA_pure (trim1 x c hx) ?_
  simp only [rA_load, rA_fld, rA_callf, restA_pure, goon, ldA_ptr, ldv_f, fldA_ptr, val_t, updO_some, bindP_some, bindP_need, upd_app, argsE_app, getB_zero, getB_succ, List.getD_cons_zero, List.getD_cons_succ, List.getD_nil, List.map_cons, List.map_nil, List.length_cons, List.length_nil, true_and, forall_const, Option.bind_some, reduceIte, Nat.zero_add, Nat.reduceAdd, Nat.reduceEqDiff, Nat.reduceLeDiff, Nat.reduceAdd]
  refine callA_pure (trim1 y d hy) ?_
  simp only [rA_callf, restA_pure, val_t, updO_some, upd_app, argsE_app, List.getD_cons_succ, List.getD_nil, List.map_cons, List.map_nil, reduceIte, Nat.reduceEqDiff]
  refine callA_pure (mulNat11 x y c d hx hx' hy hy' hxy) ?_
  simp only [rA_callf, restA_pure, val_t, updO_some, upd_app, argsE_app, List.getD_cons_succ, List.getD_nil, List.map_cons, List.map_nil, reduceIte, Nat.reduceEqDiff]
  refine callA_pure (build1 _ _ _) ?_
  simp only [rA_store, rA_nil, restA_pure, stA_ptr, val_t, updO_some, cells_agg, firm_agg, setL_nil, setL_cons, scalL_nil, scalL_cons, scal_bool, scal_vec, bindP_some, bindP_need, upd_app, argsE_app, getB_zero, getB_succ, List.getD_cons_succ, List.getD_nil, List.length_cons, List.length_nil, true_and, Option.bind_some, reduceIte, Nat.zero_add, Nat.reduceAdd, Nat.reduceEqDiff, Nat.reduceLeDiff, List.set_cons_zero, List.set_cons_succ, Bool.and_self, Nat.reduceAdd]
  refine ⟨rfl, ?_⟩
  exact ⟨.inl trivial, _, rfl, .drop _ _ rfl (by intro i cs h; omega)⟩
-- Small
theorem small0 : Ret Tryz.prog G 27 [.int .i64 0] [] (.agg [.bool false, .vec [] 0 (some 0)]) [] := by
  have w1 : IntKind.u64.wrap 0 = 0 := rfl
  refine Ret_of mixed Tryz.func27 comp27 _ 14 res27 nt27 (by simp) (by simp) ?_
  simp only [c27, wpC, andThen_normal, andThen_ret, val_t, List.length_nil, reduceCtorEq]
  simp only [r27_0, rA_box, rA_nil, val_k, updO_some, cells_agg, firm_agg, List.length_nil, List.nil_append, true_and]
  simp only [r27_1, rA_mov, rA_bin, rA_nil, goon, condA_bool, both_some, binA_lss, val_t, val_k, updO_some, bindP_some, upd_app, argsE_app, List.getD_cons_zero, List.getD_cons_succ, List.getD_nil, true_and, forall_const, reduceCtorEq, reduceIte, false_implies, Bool.false_eq_true, Nat.reduceEqDiff, decide_false, Int.reduceLT]
  simp only [r27_3, rA_mov, rA_conv, rA_callf, goon, convA_int, val_t, updO_some, bindP_some, upd_app, argsE_app, List.getD_cons_zero, List.getD_cons_succ, List.getD_nil, List.map_cons, List.map_nil, reduceCtorEq, reduceIte, Nat.reduceEqDiff, w1]
  refine callA_pure fromWord0 ?_
  simp only [rA_callf, restA_pure, val_t, val_k, updO_some, upd_app, argsE_app, List.getD_cons_succ, List.getD_nil, List.map_cons, List.map_nil, reduceIte, Nat.reduceEqDiff]
  refine callA_pure (build0 _ _ _) ?_
  simp only [rA_store, rA_nil, restA_pure, stA_ptr, val_t, updO_some, cells_agg, firm_agg, setL_nil, setL_cons, scalL_nil, scalL_cons, scal_bool, scal_vec, bindP_some, bindP_need, upd_app, argsE_app, getB_zero, List.getD_cons_succ, List.getD_nil, List.length_cons, List.length_nil, true_and, Option.bind_some, reduceIte, Nat.zero_add, Nat.reduceAdd, Nat.reduceEqDiff, Nat.reduceLeDiff, List.set_cons_zero, List.set_cons_succ, Bool.and_self, Nat.reduceAdd]
  exact ⟨.inl trivial, _, rfl, .drop _ _ rfl (by intro i cs h; omega)⟩
theorem smallP (x : Nat) (hx : x ≠ 0) (hx' : x < 4294967296) : Ret Tryz.prog G 27 [.int .i64 x] [] (.agg [.bool false, .vec [.int .u32 x] 1 (some 2)]) [] := by
  have w1 : IntKind.u64.wrap (x : Int) = x := wrap_u64 (by omega)
  have h1 : decide ((x : Int) < 0) = false := by simp
  refine Ret_of mixed Tryz.func27 comp27 _ 14 res27 nt27 (by simp) (by simp) ?_
  simp only [c27, wpC, andThen_normal, andThen_ret, val_t, List.length_nil, reduceCtorEq]
  simp only [r27_0, rA_box, rA_nil, val_k, updO_some, cells_agg, firm_agg, List.length_nil, List.nil_append, true_and]
  simp only [r27_1, rA_mov, rA_bin, rA_nil, goon, condA_bool, both_some, binA_lss, val_t, val_k, updO_some, bindP_some, upd_app, argsE_app, List.getD_cons_zero, List.getD_cons_succ, List.getD_nil, true_and, forall_const, reduceCtorEq, reduceIte, false_implies, Bool.false_eq_true, Nat.reduceEqDiff, h1]
  simp only [r27_3, rA_mov, rA_conv, rA_callf, goon, convA_int, val_t, updO_some, bindP_some, upd_app, argsE_app, List.getD_cons_zero, List.getD_cons_succ, List.getD_nil, List.map_cons, List.map_nil, reduceCtorEq, reduceIte, Nat.reduceEqDiff, w1]
  refine callA_pure (fromWord1 x hx hx') ?_
  simp only [rA_callf, restA_pure, val_t, val_k, updO_some, upd_app, argsE_app, List.getD_cons_succ, List.getD_nil, List.map_cons, List.map_nil, reduceIte, Nat.reduceEqDiff]
  refine callA_pure (build1 _ _ _) ?_
  simp only [rA_store, rA_nil, restA_pure, stA_ptr, val_t, updO_some, cells_agg, firm_agg, setL_nil, setL_cons, scalL_nil, scalL_cons, scal_bool, scal_vec, bindP_some, bindP_need, upd_app, argsE_app, getB_zero, List.getD_cons_succ, List.getD_nil, List.length_cons, List.length_nil, true_and, Option.bind_some, reduceIte, Nat.zero_add, Nat.reduceAdd, Nat.reduceEqDiff, Nat.reduceLeDiff, List.set_cons_zero, List.set_cons_succ, Bool.and_self, Nat.reduceAdd]
  exact ⟨.inl trivial, _, rfl, .drop _ _ rfl (by intro i cs h; omega)⟩
theorem smallN (x : Nat) (hx : x ≠ 0) (hx' : x < 4294967296) : Ret Tryz.prog G 27 [.int .i64 (-(x : Int))] [] (.agg [.bool true, .vec [.int .u32 x] 1 (some 2)]) [] := by
  have w1 : IntKind.u64.wrap (0 - IntKind.u64.wrap (-(x : Int))) = x := by
    simp [IntKind.wrap, IntKind.bits, IntKind.signed]; omega
  have h1 : decide (-(x : Int) < 0) = true := by simp; omega
  refine Ret_of mixed Tryz.func27 comp27 _ 14 res27 nt27 (by simp) (by simp) ?_
  simp only [c27, wpC, andThen_normal, andThen_ret, val_t, List.length_nil, reduceCtorEq]
  simp only [r27_0, rA_box, rA_nil, val_k, updO_some, cells_agg, firm_agg, List.length_nil, List.nil_append, true_and]
  simp only [r27_1, rA_mov, rA_bin, rA_nil, goon, condA_bool, both_some, binA_lss, val_t, val_k, updO_some, bindP_some, upd_app, argsE_app, List.getD_cons_zero, List.getD_cons_succ, List.getD_nil, and_true, forall_const, reduceCtorEq, reduceIte, false_implies, Bool.true_eq_false, Nat.reduceEqDiff, h1]
  simp only [r27_2, rA_mov, rA_un, rA_conv, rA_callf, goon, unA_neg, convA_int, val_t, updO_some, bindP_some, upd_app, argsE_app, List.getD_cons_zero, List.getD_cons_succ, List.getD_nil, List.map_cons, List.map_nil, reduceCtorEq, reduceIte, Nat.reduceEqDiff, w1]
  refine callA_pure (fromWord1 x hx hx') ?_
  simp only [rA_callf, restA_pure, val_t, val_k, updO_some, upd_app, argsE_app, List.getD_cons_succ, List.getD_nil, List.map_cons, List.map_nil, reduceIte, Nat.reduceEqDiff]
  refine callA_pure (build1 _ _ _) ?_
  simp only [rA_store, rA_nil, restA_pure, stA_ptr, val_t, updO_some, cells_agg, firm_agg, setL_nil, setL_cons, scalL_nil, scalL_cons, scal_bool, scal_vec, bindP_some, bindP_need, upd_app, argsE_app, getB_zero, List.getD_cons_succ, List.getD_nil, List.length_cons, List.length_nil, true_and, Option.bind_some, reduceIte, Nat.zero_add, Nat.reduceAdd, Nat.reduceEqDiff, Nat.reduceLeDiff, List.set_cons_zero, List.set_cons_succ, Bool.and_self, Nat.reduceAdd]
  exact ⟨.inl trivial, _, rfl, .drop _ _ rfl (by intro i cs h; omega)⟩
-- Sign
theorem sign0 (s : Bool) (c : Option Nat) : Ret Tryz.prog G 107 [.agg [.bool s, .vec [] 0 c]] [] (.int .i64 0) [] := by
  refine Ret_of mixed Tryz.func107 comp107 _ 12 res107 nt107 (by simp) (by simp) ?_
  simp only [c107, wpC, andThen_normal, andThen_ret, inBlk_normal, inBlk_ret, val_t, List.length_nil, reduceCtorEq]
  simp only [r107_0, rA_mov, rA_box, rA_nil, goon, val_t, val_k, updO_some, cells_agg, firm_agg, argsE_app, List.getD_cons_zero, List.length_nil, List.nil_append, true_and]
  simp only [r107_1, rA_load, rA_fld, rA_callf, goon, ldA_ptr, ldv_f, fldA_ptr, val_t, updO_some, bindP_some, bindP_need, upd_app, argsE_app, getB_zero, List.getD_cons_zero, List.getD_cons_succ, List.getD_nil, List.map_cons, List.map_nil, List.length_cons, List.length_nil, true_and, forall_const, Option.bind_some, reduceIte, Nat.zero_add, Nat.reduceAdd, Nat.reduceEqDiff, Nat.reduceLeDiff, Nat.reduceAdd]
  refine callA_pure (trim0 c) ?_
  simp only [rA_mov, rA_bin, rA_len, rA_nil, restA_pure, goon, condA_bool, both_some, binA_eql, lenSA_vec, val_t, val_k, updO_some, bindP_some, upd_app, argsE_app, List.getD_cons_succ, List.getD_nil, and_true, forall_const, reduceIte, false_implies, Bool.true_eq_false, Nat.reduceEqDiff, decide_true, Int.natCast_zero]
  simp only [r107_2, rA_mov, rA_nil, goon, val_k, updO_some]
  exact ⟨.inl trivial, _, rfl, .drop _ _ rfl (by intro i cs h; omega)⟩
theorem sign1t (x : Nat) (c : Option Nat) (hx : x ≠ 0) (hx' : x < 4294967296) : Ret Tryz.prog G 107 [.agg [.bool true, .vec [.int .u32 x] 1 c]] [] (.int .i64 (-1)) [] := by
  refine Ret_of mixed Tryz.func107 comp107 _ 12 res107 nt107 (by simp) (by simp) ?_
  simp only [c107, wpC, andThen_normal, andThen_ret, inBlk_normal, inBlk_ret, val_t, List.length_nil, reduceCtorEq]
  simp only [r107_0, rA_mov, rA_box, rA_nil, goon, val_t, val_k, updO_some, cells_agg, firm_agg, argsE_app, List.getD_cons_zero, List.length_nil, List.nil_append, true_and]
  simp only [r107_1, rA_load, rA_fld, rA_callf, goon, ldA_ptr, ldv_f, fldA_ptr, val_t, updO_some, bindP_some, bindP_need, upd_app, argsE_app, getB_zero, List.getD_cons_zero, List.getD_cons_succ, List.getD_nil, List.map_cons, List.map_nil, List.length_cons, List.length_nil, true_and, forall_const, Option.bind_some, reduceIte, Nat.zero_add, Nat.reduceAdd, Nat.reduceEqDiff, Nat.reduceLeDiff, Int.reduceNeg, Nat.reduceAdd]
  refine callA_pure (trim1 x c hx) ?_
  simp only [rA_mov, rA_bin, rA_len, rA_nil, restA_pure, goon, condA_bool, both_some, binA_eql, lenSA_vec, val_t, val_k, updO_some, bindP_some, upd_app, argsE_app, List.getD_cons_succ, List.getD_nil, true_and, forall_const, reduceIte, false_implies, Bool.false_eq_true, Nat.reduceEqDiff, decide_false, Int.reduceEq, Int.reduceNeg, n1]
  simp only [r107_3, rA_mov, rA_load, rA_fld, rA_nil, goon, condA_bool, both_some, ldA_ptr, ldv_f, fldA_ptr, val_t, updO_some, bindP_some, bindP_need, upd_app, argsE_app, getB_zero, List.getD_cons_zero, List.getD_cons_succ, List.getD_nil, List.length_cons, List.length_nil, true_and, and_true, forall_const, Option.bind_some, reduceIte, false_implies, Bool.true_eq_false, Nat.zero_add, Nat.reduceAdd, Nat.reduceEqDiff, Nat.reduceLeDiff, Int.reduceNeg, Nat.reduceAdd]
  simp only [r107_4, rA_mov, rA_nil, goon, val_k, updO_some]
  exact ⟨.inl trivial, _, rfl, .drop _ _ rfl (by intro i cs h; omega)⟩
theorem sign1f (x : Nat) (c : Option Nat) (hx : x ≠ 0) (hx' : x < 4294967296) : Ret Tryz.prog G 107 [.agg [.bool false, .vec [.int .u32 x] 1 c]] [] (.int .i64 1) [] := by
  refine Ret_of mixed Tryz.func107 comp107 _ 12 res107 nt107 (by simp) (by simp) ?_
  simp only [c107, wpC, andThen_normal, andThen_ret, inBlk_normal, inBlk_ret, val_t, List.length_nil, reduceCtorEq]
  simp only [r107_0, rA_mov, rA_box, rA_nil, goon, val_t, val_k, updO_some, cells_agg, firm_agg, argsE_app, List.getD_cons_zero, List.length_nil, List.nil_append, true_and]
  simp only [r107_1, rA_load, rA_fld, rA_callf, goon, ldA_ptr, ldv_f, fldA_ptr, val_t, updO_some, bindP_some, bindP_need, upd_app, argsE_app, getB_zero, List.getD_cons_zero, List.getD_cons_succ, List.getD_nil, List.map_cons, List.map_nil, List.length_cons, List.length_nil, true_and, forall_const, Option.bind_some, reduceIte, Nat.zero_add, Nat.reduceAdd, Nat.reduceEqDiff, Nat.reduceLeDiff, Nat.reduceAdd]
  refine callA_pure (trim1 x c hx) ?_
  simp only [rA_mov, rA_bin, rA_len, rA_nil, restA_pure, goon, condA_bool, both_some, binA_eql, lenSA_vec, val_t, val_k, updO_some, bindP_some, upd_app, argsE_app, List.getD_cons_succ, List.getD_nil, true_and, forall_const, reduceIte, false_implies, Bool.false_eq_true, Nat.reduceEqDiff, decide_false, Int.reduceEq, n1]
  simp only [r107_3, rA_mov, rA_load, rA_fld, rA_nil, goon, condA_bool, both_some, ldA_ptr, ldv_f, fldA_ptr, val_t, updO_some, bindP_some, bindP_need, upd_app, argsE_app, getB_zero, List.getD_cons_zero, List.getD_cons_succ, List.getD_nil, List.length_cons, List.length_nil, true_and, forall_const, Option.bind_some, reduceIte, false_implies, Bool.false_eq_true, Nat.zero_add, Nat.reduceAdd, Nat.reduceEqDiff, Nat.reduceLeDiff, Nat.reduceAdd]
  simp only [r107_5, rA_mov, rA_nil, goon, val_k, updO_some]
  exact ⟨.inl trivial, _, rfl, .drop _ _ rfl (by intro i cs h; omega)⟩
-- compareNat
theorem cmpNat00 (c d : Option Nat) : Ret Tryz.prog G 108 [.vec [] 0 c, .vec [] 0 d] [] (.int .i64 0) [] := by
  refine Ret_of mixed Tryz.func108 comp108 _ 45 res108 nt108 (by simp) (by simp) ?_
  simp only [c108, wpC, andThen_normal, andThen_ret, inBlk_normal, inBlk_ret, val_t, List.length_nil, reduceCtorEq]
  simp only [r108_0, rA_mov, rA_nil, goon, val_k, updO_some]
  simp only [r108_1, rA_mov, rA_bin, rA_len, rA_nil, goon, condA_bool, both_some, binA_lss, lenSA_vec, val_t, updO_some, bindP_some, upd_app, argsE_app, List.getD_cons_zero, List.getD_cons_succ, List.getD_nil, true_and, forall_const, reduceCtorEq, reduceIte, false_implies, Bool.false_eq_true, Nat.reduceEqDiff, decide_false, Int.reduceLT, Int.natCast_zero]
  simp only [r108_3, rA_mov, rA_bin, rA_len, rA_nil, goon, condA_bool, both_some, binA_gtr, lenSA_vec, val_t, updO_some, bindP_some, upd_app, argsE_app, List.getD_cons_zero, List.getD_cons_succ, List.getD_nil, true_and, forall_const, reduceCtorEq, reduceIte, false_implies, Bool.false_eq_true, Nat.reduceEqDiff, decide_false, Int.reduceLT, Int.natCast_zero]
  simp only [r108_5, rA_mov, rA_bin, rA_len, rA_nil, goon, binA_sub, lenSA_vec, val_t, val_k, updO_some, bindP_some, upd_app, argsE_app, List.getD_cons_zero, List.getD_cons_succ, List.getD_nil, reduceCtorEq, reduceIte, Nat.reduceEqDiff, Int.reduceSub, Int.reduceNeg, Int.natCast_zero, wim1]
  refine W_un mixed 1 (Un_in ?_)
  simp only [l108_0, r108_6, wpC, andThen_normal, andThen_ret, andThen_exit, inBlk_normal, inBlk_ret, inBlk_exit, rA_mov, rA_bin, rA_nil, goon, condA_bool, both_some, binA_geq, val_t, val_k, updO_some, bindP_some, upd_app, argsE_app, List.getD_cons_succ, List.getD_nil, true_and, forall_const, reduceCtorEq, reduceIte, false_implies, Bool.false_eq_true, Nat.reduceEqDiff, decide_false, Int.reduceLE, Int.reduceNeg]
  simp only [r108_12, rA_mov, rA_nil, goon, val_k, updO_some]
  exact ⟨.inl trivial, _, rfl, .keep _ _⟩
theorem cmpNat01 (l : List AV) (c d : Option Nat) : Ret Tryz.prog G 108 [.vec [] 0 c, .vec l 1 d] [] (.int .i64 (-1)) [] := by
  refine Ret_of mixed Tryz.func108 comp108 _ 45 res108 nt108 (by simp) (by simp) ?_
  simp only [c108, wpC, andThen_normal, andThen_ret, inBlk_normal, inBlk_ret, val_t, List.length_nil, reduceCtorEq]
  simp only [r108_0, rA_mov, rA_nil, goon, val_k, updO_some]
  simp only [r108_1, rA_mov, rA_bin, rA_len, rA_nil, goon, condA_bool, both_some, binA_lss, lenSA_vec, val_t, updO_some, bindP_some, upd_app, argsE_app, List.getD_cons_zero, List.getD_cons_succ, List.getD_nil, and_true, forall_const, reduceCtorEq, reduceIte, false_implies, Bool.true_eq_false, Nat.reduceEqDiff, decide_true, Int.reduceNeg, n1, Int.natCast_zero, lt01]
  simp only [r108_2, rA_mov, rA_nil, goon, val_k, updO_some, Int.reduceNeg]
  exact ⟨.inl trivial, _, rfl, .keep _ _⟩
theorem cmpNat10 (l : List AV) (c d : Option Nat) : Ret Tryz.prog G 108 [.vec l 1 c, .vec [] 0 d] [] (.int .i64 1) [] := by
  refine Ret_of mixed Tryz.func108 comp108 _ 45 res108 nt108 (by simp) (by simp) ?_
  simp only [c108, wpC, andThen_normal, andThen_ret, inBlk_normal, inBlk_ret, val_t, List.length_nil, reduceCtorEq]
  simp only [r108_0, rA_mov, rA_nil, goon, val_k, updO_some]
  simp only [r108_1, rA_mov, rA_bin, rA_len, rA_nil, goon, condA_bool, both_some, binA_lss, lenSA_vec, val_t, updO_some, bindP_some, upd_app, argsE_app, List.getD_cons_zero, List.getD_cons_succ, List.getD_nil, true_and, forall_const, reduceCtorEq, reduceIte, false_implies, Bool.false_eq_true, Nat.reduceEqDiff, decide_false, Int.reduceLT, n1, Int.natCast_zero]
  simp only [r108_3, rA_mov, rA_bin, rA_len, rA_nil, goon, condA_bool, both_some, binA_gtr, lenSA_vec, val_t, updO_some, bindP_some, upd_app, argsE_app, List.getD_cons_zero, List.getD_cons_succ, List.getD_nil, and_true, forall_const, reduceCtorEq, reduceIte, false_implies, Bool.true_eq_false, Nat.reduceEqDiff, decide_true, n1, Int.natCast_zero, lt01]
  simp only [r108_4, rA_mov, rA_nil, goon, val_k, updO_some]
  exact ⟨.inl trivial, _, rfl, .keep _ _⟩
theorem cmpNatlt (x y : Nat) (c d : Option Nat) (h1 : decide ((x : Int) < (y : Int)) = true) : Ret Tryz.prog G 108 [.vec [.int .u32 x] 1 c, .vec [.int .u32 y] 1 d] [] (.int .i64 (-1)) [] := by
  refine Ret_of mixed Tryz.func108 comp108 _ 45 res108 nt108 (by simp) (by simp) ?_
  simp only [c108, wpC, andThen_normal, andThen_ret, inBlk_normal, inBlk_ret, val_t, List.length_nil, reduceCtorEq]
  simp only [r108_0, rA_mov, rA_nil, goon, val_k, updO_some]
  simp only [r108_1, rA_mov, rA_bin, rA_len, rA_nil, goon, condA_bool, both_some, binA_lss, lenSA_vec, val_t, updO_some, bindP_some, upd_app, argsE_app, List.getD_cons_zero, List.getD_cons_succ, List.getD_nil, true_and, forall_const, reduceCtorEq, reduceIte, false_implies, Bool.false_eq_true, Nat.reduceEqDiff, decide_false, Int.reduceLT, Int.reduceNeg, n1]
  simp only [r108_3, rA_mov, rA_bin, rA_len, rA_nil, goon, condA_bool, both_some, binA_gtr, lenSA_vec, val_t, updO_some, bindP_some, upd_app, argsE_app, List.getD_cons_zero, List.getD_cons_succ, List.getD_nil, true_and, forall_const, reduceCtorEq, reduceIte, false_implies, Bool.false_eq_true, Nat.reduceEqDiff, decide_false, Int.reduceLT, Int.reduceNeg, n1]
  simp only [r108_5, rA_mov, rA_bin, rA_len, rA_nil, goon, binA_sub, lenSA_vec, val_t, val_k, updO_some, bindP_some, upd_app, argsE_app, List.getD_cons_zero, List.getD_cons_succ, List.getD_nil, reduceCtorEq, reduceIte, Nat.reduceEqDiff, Int.reduceSub, Int.reduceNeg, n1, wi0]
  refine W_un mixed 2 (Un_in ?_)
  simp only [l108_0, r108_6, wpC, andThen_normal, andThen_ret, andThen_exit, inBlk_normal, inBlk_ret, inBlk_exit, rA_mov, rA_bin, rA_nil, goon, condA_bool, both_some, binA_geq, val_t, val_k, updO_some, bindP_some, upd_app, argsE_app, List.getD_cons_succ, List.getD_nil, and_true, forall_const, reduceCtorEq, reduceIte, false_implies, Bool.true_eq_false, Nat.reduceEqDiff, decide_true, Int.reduceNeg, le0]
  simp only [r108_7, rA_mov, rA_load, rA_bin, rA_idx, rA_nil, goon, condA_bool, both_some, ldA_iptr, ldv_f, binA_lss, idxA_vec, val_t, updO_some, bindP_some, bindP_need, upd_app, argsE_app, List.getD_cons_zero, List.getD_cons_succ, List.getD_nil, List.length_cons, List.length_nil, true_and, and_true, forall_const, reduceCtorEq, reduceIte, false_implies, Bool.true_eq_false, Nat.zero_add, Nat.reduceEqDiff, Nat.reduceLeDiff, Nat.mul_one, Int.reduceNeg, n1, tn0, le0, lt01, h1]
  refine ⟨rfl, ?_⟩
  simp only [r108_8, rA_mov, rA_nil, goon, val_k, updO_some]
  exact ⟨.inl trivial, _, rfl, .keep _ _⟩
theorem cmpNatgt (x y : Nat) (c d : Option Nat) (h1 : decide ((x : Int) < (y : Int)) = false) (h2 : decide ((y : Int) < (x : Int)) = true) : Ret Tryz.prog G 108 [.vec [.int .u32 x] 1 c, .vec [.int .u32 y] 1 d] [] (.int .i64 1) [] := by
  refine Ret_of mixed Tryz.func108 comp108 _ 45 res108 nt108 (by simp) (by simp) ?_
  simp only [c108, wpC, andThen_normal, andThen_ret, inBlk_normal, inBlk_ret, val_t, List.length_nil, reduceCtorEq]
  simp only [r108_0, rA_mov, rA_nil, goon, val_k, updO_some]
  simp only [r108_1, rA_mov, rA_bin, rA_len, rA_nil, goon, condA_bool, both_some, binA_lss, lenSA_vec, val_t, updO_some, bindP_some, upd_app, argsE_app, List.getD_cons_zero, List.getD_cons_succ, List.getD_nil, true_and, forall_const, reduceCtorEq, reduceIte, false_implies, Bool.false_eq_true, Nat.reduceEqDiff, decide_false, Int.reduceLT, n1]
  simp only [r108_3, rA_mov, rA_bin, rA_len, rA_nil, goon, condA_bool, both_some, binA_gtr, lenSA_vec, val_t, updO_some, bindP_some, upd_app, argsE_app, List.getD_cons_zero, List.getD_cons_succ, List.getD_nil, true_and, forall_const, reduceCtorEq, reduceIte, false_implies, Bool.false_eq_true, Nat.reduceEqDiff, decide_false, Int.reduceLT, n1]
  simp only [r108_5, rA_mov, rA_bin, rA_len, rA_nil, goon, binA_sub, lenSA_vec, val_t, val_k, updO_some, bindP_some, upd_app, argsE_app, List.getD_cons_zero, List.getD_cons_succ, List.getD_nil, reduceCtorEq, reduceIte, Nat.reduceEqDiff, Int.reduceSub, n1, wi0]
  refine W_un mixed 2 (Un_in ?_)
  simp only [l108_0, r108_6, wpC, andThen_normal, andThen_ret, andThen_exit, inBlk_normal, inBlk_ret, inBlk_exit, rA_mov, rA_bin, rA_nil, goon, condA_bool, both_some, binA_geq, val_t, val_k, updO_some, bindP_some, upd_app, argsE_app, List.getD_cons_succ, List.getD_nil, and_true, forall_const, reduceCtorEq, reduceIte, false_implies, Bool.true_eq_false, Nat.reduceEqDiff, decide_true, le0]
  simp only [r108_7, rA_mov, rA_load, rA_bin, rA_idx, rA_nil, goon, condA_bool, both_some, ldA_iptr, ldv_f, binA_lss, idxA_vec, val_t, updO_some, bindP_some, bindP_need, upd_app, argsE_app, List.getD_cons_zero, List.getD_cons_succ, List.getD_nil, List.length_cons, List.length_nil, true_and, and_true, forall_const, reduceCtorEq, reduceIte, false_implies, Bool.false_eq_true, Nat.zero_add, Nat.reduceEqDiff, Nat.reduceLeDiff, Nat.mul_one, n1, tn0, le0, lt01, h1]
  refine ⟨rfl, ?_⟩
  simp only [r108_9, rA_mov, rA_load, rA_bin, rA_idx, rA_nil, goon, condA_bool, both_some, ldA_iptr, ldv_f, binA_gtr, idxA_vec, val_t, updO_some, bindP_some, bindP_need, upd_app, argsE_app, List.getD_cons_zero, List.getD_cons_succ, List.getD_nil, List.length_cons, List.length_nil, true_and, and_true, forall_const, reduceCtorEq, reduceIte, false_implies, Bool.true_eq_false, Nat.zero_add, Nat.reduceEqDiff, Nat.reduceLeDiff, Nat.mul_one, n1, tn0, le0, lt01, h2]
  refine ⟨rfl, ?_⟩
  simp only [r108_10, rA_mov, rA_nil, goon, val_k, updO_some]
  exact ⟨.inl trivial, _, rfl, .keep _ _⟩
theorem cmpNateq (x y : Nat) (c d : Option Nat) (h1 : decide ((x : Int) < (y : Int)) = false) (h2 : decide ((y : Int) < (x : Int)) = false) : Ret Tryz.prog G 108 [.vec [.int .u32 x] 1 c, .vec [.int .u32 y] 1 d] [] (.int .i64 0) [] := by
  refine Ret_of mixed Tryz.func108 comp108 _ 45 res108 nt108 (by simp) (by simp) ?_
  simp only [c108, wpC, andThen_normal, andThen_ret, inBlk_normal, inBlk_ret, val_t, List.length_nil, reduceCtorEq]
  simp only [r108_0, rA_mov, rA_nil, goon, val_k, updO_some]
  simp only [r108_1, rA_mov, rA_bin, rA_len, rA_nil, goon, condA_bool, both_some, binA_lss, lenSA_vec, val_t, updO_some, bindP_some, upd_app, argsE_app, List.getD_cons_zero, List.getD_cons_succ, List.getD_nil, true_and, forall_const, reduceCtorEq, reduceIte, false_implies, Bool.false_eq_true, Nat.reduceEqDiff, decide_false, Int.reduceLT, n1]
  simp only [r108_3, rA_mov, rA_bin, rA_len, rA_nil, goon, condA_bool, both_some, binA_gtr, lenSA_vec, val_t, updO_some, bindP_some, upd_app, argsE_app, List.getD_cons_zero, List.getD_cons_succ, List.getD_nil, true_and, forall_const, reduceCtorEq, reduceIte, false_implies, Bool.false_eq_true, Nat.reduceEqDiff, decide_false, Int.reduceLT, n1]
  simp only [r108_5, rA_mov, rA_bin, rA_len, rA_nil, goon, binA_sub, lenSA_vec, val_t, val_k, updO_some, bindP_some, upd_app, argsE_app, List.getD_cons_zero, List.getD_cons_succ, List.getD_nil, reduceCtorEq, reduceIte, Nat.reduceEqDiff, Int.reduceSub, n1, wi0]
  refine W_un mixed 2 (Un_in ?_)
  simp only [l108_0, r108_6, wpC, andThen_normal, andThen_ret, andThen_exit, inBlk_normal, inBlk_ret, inBlk_exit, rA_mov, rA_bin, rA_nil, goon, condA_bool, both_some, binA_geq, val_t, val_k, updO_some, bindP_some, upd_app, argsE_app, List.getD_cons_succ, List.getD_nil, and_true, forall_const, reduceCtorEq, reduceIte, false_implies, Bool.true_eq_false, Nat.reduceEqDiff, decide_true, le0]
  simp only [r108_7, rA_mov, rA_load, rA_bin, rA_idx, rA_nil, goon, condA_bool, both_some, ldA_iptr, ldv_f, binA_lss, idxA_vec, val_t, updO_some, bindP_some, bindP_need, upd_app, argsE_app, List.getD_cons_zero, List.getD_cons_succ, List.getD_nil, List.length_cons, List.length_nil, true_and, and_true, forall_const, reduceCtorEq, reduceIte, false_implies, Bool.false_eq_true, Nat.zero_add, Nat.reduceEqDiff, Nat.reduceLeDiff, Nat.mul_one, n1, tn0, le0, lt01, h1]
  refine ⟨rfl, ?_⟩
  simp only [r108_9, rA_mov, rA_load, rA_bin, rA_idx, rA_nil, goon, condA_bool, both_some, ldA_iptr, ldv_f, binA_gtr, idxA_vec, val_t, updO_some, bindP_some, bindP_need, upd_app, argsE_app, List.getD_cons_zero, List.getD_cons_succ, List.getD_nil, List.length_cons, List.length_nil, true_and, and_true, forall_const, reduceCtorEq, reduceIte, false_implies, Bool.false_eq_true, Nat.zero_add, Nat.reduceEqDiff, Nat.reduceLeDiff, Nat.mul_one, n1, tn0, le0, lt01, h2]
  refine ⟨rfl, ?_⟩
  simp only [r108_11, rA_mov, rA_bin, rA_nil, goon, binA_sub, val_t, val_k, updO_some, bindP_some, upd_app, argsE_app, List.getD_cons_succ, List.getD_nil, reduceIte, Nat.reduceEqDiff, Int.reduceSub, Int.reduceNeg, wim1]
  refine Un_in ?_
  simp only [wpC, andThen_normal, andThen_ret, andThen_exit, inBlk_normal, inBlk_ret, inBlk_exit, rA_mov, rA_load, rA_bin, rA_idx, rA_nil, goon, condA_bool, both_some, ldA_iptr, ldv_f, binA_geq, idxA_vec, val_t, val_k, updO_some, bindP_some, bindP_need, upd_app, argsE_app, List.getD_cons_zero, List.getD_cons_succ, List.getD_nil, List.length_cons, List.length_nil, true_and, and_true, forall_const, reduceCtorEq, reduceIte, false_implies, Bool.false_eq_true, Nat.zero_add, Nat.reduceEqDiff, Nat.reduceLeDiff, Nat.mul_one, decide_false, Int.reduceLT, Int.reduceLE, Int.reduceNeg, n1]
  simp only [r108_12, rA_mov, rA_nil, goon, val_k, updO_some]
  exact ⟨.inl trivial, _, rfl, .keep _ _⟩

-- addNat
theorem fd0 {z : Nat} (h : z < 4294967296) : Int.fdiv (z : Int) (2 ^ min (Int.toNat 32) IntKind.u64.bits) = 0 := by
  show Int.fdiv (z : Int) 4294967296 = 0
  rw [Int.fdiv_eq_ediv_of_nonneg _ (by decide)]
  omega
theorem fd63 {z : Nat} (h : z < 4294967296) : Int.fdiv (z : Int) (2 ^ min (Int.toNat 63) IntKind.u64.bits) = 0 := by
  show Int.fdiv (z : Int) 9223372036854775808 = 0
  rw [Int.fdiv_eq_ediv_of_nonneg _ (by decide)]
  omega
theorem u32z : IntKind.u32.wrap 0 = 0 := rfl
theorem fd00 : Int.fdiv 0 (2 ^ min (Int.toNat 32) IntKind.u64.bits) = 0 := rfl
theorem fd630 : Int.fdiv 0 (2 ^ min (Int.toNat 63) IntKind.u64.bits) = 0 := rfl
theorem u64z : IntKind.u64.wrap 0 = 0 := rfl
theorem m1 : ((0 : Int) ≤ 1 ∧ (1 : Int) ≤ 1 ∧ (1 : Int) * (4 : Nat) ≤ 2 ^ 48 ∧ (1 : Int) < 2 ^ 63) = True := eq_true (by decide)
theorem m2 : ((0 : Int) ≤ 2 ∧ (2 : Int) ≤ 2 ∧ (2 : Int) * (4 : Nat) ≤ 2 ^ 48 ∧ (2 : Int) < 2 ^ 63) = True := eq_true (by decide)
theorem m0 : ((0 : Int) ≤ 0 ∧ (0 : Int) ≤ 0 ∧ (0 : Int) * (4 : Nat) ≤ 2 ^ 48 ∧ (0 : Int) < 2 ^ 63) = True := eq_true (by decide)
theorem tn2 : Int.toNat 2 = 2 := rfl
theorem trimS0 (k : Option Nat) : Ret Tryz.prog G 61 [.sl 0 0 0 1 k] [some []] (.sl 0 0 0 1 k) [some []] := by
  refine Ret_of mixed Tryz.func61 comp61 _ 21 res61 nt61 (by simp) (by simp) ?_
  simp only [c61, r61_0, wpC, andThen_normal, rA_mov, rA_nil, goon, val_k, updO_some, List.length_cons, List.length_nil, reduceCtorEq, Nat.zero_add]
  refine W_un mixed 1 (Un_in ?_)
  simp only [l61_0, r61_1, wpC, andThen_normal, andThen_exit, inBlk_normal, inBlk_exit, rA_mov, rA_pick, rA_load, rA_bin, rA_idx, rA_len, rA_guardf, rA_nil, goon, boolA_bool, condA_bool, both_some, pickA_bool, ldA_ptr, ldv_f, binA_sub, binA_gtr, idxA_sl, lenSA_sl, val_t, val_k, updO_some, bindP_some, bindP_need, upd_app, argsE_app, getB_zero, List.getD_cons_zero, List.getD_cons_succ, List.getD_nil, List.length_nil, true_and, and_true, forall_const, Option.bind_some, reduceCtorEq, reduceIte, false_implies, Bool.not_true, Bool.true_eq_false, Bool.false_eq_true, Nat.zero_add, Nat.reduceEqDiff, Nat.reduceLeDiff, Nat.mul_one, decide_false, Int.reduceLT, Int.reduceLE, Int.reduceSub, Int.reduceNeg, Int.natCast_zero, wim1]
  simp only [r61_3, rA_mov, rA_nil, goon, val_t, updO_some, upd_app, argsE_app, List.getD_cons_zero, List.getD_cons_succ, List.getD_nil, reduceCtorEq, reduceIte, Nat.reduceEqDiff]
  exact ⟨.inl trivial, _, rfl, .keep _ _⟩
theorem addNat00 (c d : Option Nat) : Ret Tryz.prog G 200 [.vec [] 0 c, .vec [] 0 d] [] (.vec [] 0 (some 1)) [] := by
  refine Ret_of mixed Tryz.func200 comp200 _ 83 res200 nt200 (by simp) (by simp) ?_
  simp only [c200, wpC, andThen_normal, val_t, List.length_nil, reduceCtorEq]
  simp only [r200_0, rA_mov, rA_nil, goon, val_k, updO_some]
  simp only [r200_1, rA_mov, rA_bin, rA_len, rA_nil, goon, condA_bool, both_some, binA_lss, lenSA_vec, val_t, updO_some, bindP_some, upd_app, argsE_app, List.getD_cons_zero, List.getD_cons_succ, List.getD_nil, true_and, forall_const, reduceCtorEq, reduceIte, false_implies, Bool.false_eq_true, Nat.reduceEqDiff, decide_false, Int.reduceLT, Int.natCast_zero]
  simp only [r200_3, rA_mov, rA_bin, rA_mksl, rA_len, rA_nil, goon, binA_add, mkslA_int, lenSA_vec, val_t, val_k, updO_some, zeros_one, bindP_some, bindP_need, upd_app, argsE_app, List.getD_cons_zero, List.getD_cons_succ, List.getD_nil, List.length_cons, List.length_nil, List.nil_append, true_and, reduceCtorEq, reduceIte, Nat.zero_add, Nat.reduceEqDiff, Int.reduceLE, Int.natCast_zero, wi1, tn1, Int.zero_add, zeros_one, List.replicate_succ, List.replicate_zero]
  refine ⟨by decide, ⟨by decide, by decide⟩, ?_⟩
  simp only [r200_4, r200_5, rA_mov, rA_len, rA_nil, goon, lenSA_vec, val_t, val_k, updO_some, bindP_some, upd_app, argsE_app, List.getD_cons_zero, List.getD_cons_succ, reduceIte, Nat.reduceEqDiff, Int.natCast_zero]
  refine W_un mixed 1 (Un_in ?_)
  simp only [l200_0, r200_6, wpC, andThen_normal, andThen_exit, inBlk_normal, inBlk_exit, rA_bin, rA_nil, goon, condA_bool, both_some, binA_lss, val_t, updO_some, bindP_some, upd_app, argsE_app, List.getD_cons_succ, List.getD_nil, true_and, forall_const, reduceCtorEq, reduceIte, false_implies, Bool.false_eq_true, Nat.reduceEqDiff, decide_false, Int.reduceLT]
  simp only [r200_12, rA_mov, rA_bin, rA_len, rA_nil, goon, binA_sub, lenSA_vec, val_t, val_k, updO_some, bindP_some, upd_app, argsE_app, List.getD_cons_zero, List.getD_cons_succ, List.getD_nil, reduceCtorEq, reduceIte, Nat.reduceEqDiff, Int.reduceSub, Int.natCast_zero, wi0]
  refine W_un mixed 1 (Un_in ?_)
  simp only [l200_1, r200_13, wpC, andThen_normal, andThen_exit, inBlk_normal, inBlk_exit, rA_bin, rA_nil, goon, condA_bool, both_some, binA_lss, val_t, updO_some, bindP_some, upd_app, argsE_app, List.getD_cons_succ, List.getD_nil, true_and, forall_const, reduceCtorEq, reduceIte, false_implies, Bool.false_eq_true, Nat.reduceEqDiff, decide_false, Int.reduceLT]
  simp only [r200_19, rA_mov, rA_store, rA_conv, rA_idx, rA_len, rA_nil, goon, stA_ptr, convA_int, idxA_sl, lenSA_vec, val_t, updO_some, cells_int, firm_int, setL_nil, setL_cons, scalL_nil, scalL_cons, scal_int, bindP_some, bindP_need, upd_app, argsE_app, getB_zero, List.getD_cons_zero, List.getD_cons_succ, List.getD_nil, List.length_cons, List.length_nil, true_and, and_true, Option.bind_some, reduceCtorEq, reduceIte, Nat.zero_add, Nat.reduceEqDiff, Nat.reduceLeDiff, Nat.mul_one, List.set_cons_zero, Bool.and_self, n1, Int.natCast_zero, tn0, le0, lt01, u32z]
  simp only [r200_20, rA_mov, rA_callf, goon, val_t, updO_some, upd_app, argsE_app, List.getD_cons_succ, List.getD_nil, List.map_cons, List.map_nil, reduceIte, Nat.reduceEqDiff]
  refine callA_one (trimS1z 1) rfl rfl ?_
  simp only [restA, applyE, List.replicate_zero, List.append_nil, rA_mov, rA_nil, goon, val_t, updO_some, upd_app, argsE_app, List.getD_cons_succ, List.getD_nil, List.length_cons, List.length_nil, reduceIte, Nat.zero_add, Nat.reduceEqDiff, List.set_cons_zero]
  exact ⟨.inl trivial, _, rfl, .freeze 3 _ _ _ rfl (by intro i cs h; omega)⟩
theorem addNat01 (y : Nat) (c d : Option Nat) (hy : y ≠ 0) (hy' : y < 4294967296) : Ret Tryz.prog G 200 [.vec [] 0 c, .vec [.int .u32 y] 1 d] [] (.vec [.int .u32 (y : Nat)] 1 (some 2)) [] := by
  have w2 : IntKind.u64.wrap (y : Int) = y := wrap_u64 (by omega)
  have w5 : IntKind.u32.wrap ((y : Nat) : Int) = ((y : Nat) : Int) := wrap_u32 (by omega)
  have w6 := fd0 (z := y) (by omega)
  refine Ret_of mixed Tryz.func200 comp200 _ 83 res200 nt200 (by simp) (by simp) ?_
  simp only [c200, wpC, andThen_normal, val_t, List.length_nil, reduceCtorEq]
  simp only [r200_0, rA_mov, rA_nil, goon, val_k, updO_some]
  simp only [r200_1, rA_mov, rA_bin, rA_len, rA_nil, goon, condA_bool, both_some, binA_lss, lenSA_vec, val_t, updO_some, bindP_some, upd_app, argsE_app, List.getD_cons_zero, List.getD_cons_succ, List.getD_nil, and_true, forall_const, reduceCtorEq, reduceIte, false_implies, Bool.true_eq_false, Nat.reduceEqDiff, decide_true, n1, Int.natCast_zero, lt01]
  simp only [r200_2, rA_mov, rA_nil, goon, val_t, updO_some, upd_app, argsE_app, List.getD_cons_zero, List.getD_cons_succ, List.getD_nil, reduceCtorEq, reduceIte, Nat.reduceEqDiff, Nat.succ_ne_zero]
  simp only [r200_3, rA_mov, rA_bin, rA_mksl, rA_len, rA_nil, goon, binA_add, mkslA_int, lenSA_vec, val_t, val_k, updO_some, zeros_one, bindP_some, bindP_need, upd_app, argsE_app, List.getD_cons_zero, List.getD_cons_succ, List.getD_nil, List.length_cons, List.length_nil, List.nil_append, true_and, reduceCtorEq, reduceIte, Nat.zero_add, Nat.reduceEqDiff, Nat.succ_ne_zero, Int.reduceLE, Int.reduceAdd, n1, wi2, zeros_one, List.replicate_succ, List.replicate_zero, wi2, tn2]
  refine ⟨by decide, ⟨by decide, by decide⟩, ?_⟩
  simp only [r200_4, r200_5, rA_mov, rA_len, rA_nil, goon, lenSA_vec, val_t, val_k, updO_some, bindP_some, upd_app, argsE_app, List.getD_cons_zero, List.getD_cons_succ, reduceIte, Nat.reduceEqDiff, Nat.succ_ne_zero, Int.natCast_zero]
  refine W_un mixed 1 (Un_in ?_)
  simp only [l200_0, r200_6, wpC, andThen_normal, andThen_exit, inBlk_normal, inBlk_exit, rA_bin, rA_nil, goon, condA_bool, both_some, binA_lss, val_t, updO_some, bindP_some, upd_app, argsE_app, List.getD_cons_succ, List.getD_nil, true_and, forall_const, reduceCtorEq, reduceIte, false_implies, Bool.false_eq_true, Nat.reduceEqDiff, Nat.succ_ne_zero, decide_false, Int.reduceLT]
  simp only [r200_12, rA_mov, rA_bin, rA_len, rA_nil, goon, binA_sub, lenSA_vec, val_t, val_k, updO_some, bindP_some, upd_app, argsE_app, List.getD_cons_zero, List.getD_cons_succ, List.getD_nil, reduceCtorEq, reduceIte, Nat.reduceEqDiff, Nat.succ_ne_zero, Int.reduceSub, n1, Int.natCast_zero, wi1]
  refine W_un mixed 2 (Un_in ?_)
  simp only [l200_1, r200_13, wpC, andThen_normal, andThen_exit, inBlk_normal, inBlk_exit, rA_bin, rA_nil, goon, condA_bool, both_some, binA_lss, val_t, updO_some, bindP_some, upd_app, argsE_app, List.getD_cons_succ, List.getD_nil, and_true, forall_const, reduceCtorEq, reduceIte, false_implies, Bool.true_eq_false, Nat.reduceEqDiff, Nat.succ_ne_zero, decide_true, lt01]
  simp only [r200_14, r200_15, rA_mov, rA_load, rA_bin, rA_conv, rA_idx, rA_len, rA_nil, goon, ldA_iptr, ldv_f, binA_add, convA_int, idxA_vec, lenSA_vec, val_t, updO_some, bindP_some, bindP_need, upd_app, argsE_app, List.getD_cons_zero, List.getD_cons_succ, List.getD_nil, List.length_cons, List.length_nil, true_and, and_true, forall_const, reduceCtorEq, reduceIte, Nat.zero_add, Nat.reduceEqDiff, Nat.succ_ne_zero, Nat.reduceLeDiff, Nat.mul_one, n1, Int.natCast_zero, wi0, tn0, le0, lt01, Int.zero_add, w2]
  simp only [r200_16, rA_mov, rA_store, rA_bin, rA_conv, rA_idx, rA_len, rA_nil, goon, stA_ptr, binA_add, convA_int, idxA_sl, lenSA_vec, val_t, updO_some, cells_int, firm_int, setL_nil, setL_cons, scalL_nil, scalL_cons, scal_int, bindP_some, bindP_need, upd_app, argsE_app, getB_zero, List.getD_cons_zero, List.getD_cons_succ, List.getD_nil, List.length_cons, List.length_nil, true_and, and_true, Option.bind_some, reduceIte, Nat.zero_add, Nat.reduceAdd, Nat.reduceEqDiff, Nat.succ_ne_zero, Nat.reduceLeDiff, Nat.mul_one, List.set_cons_zero, Bool.and_self, Int.reduceLT, Nat.reduceAdd, n2, Int.natCast_zero, wi0, tn0, le0, Int.zero_add, w5]
  simp only [r200_17, r200_18, rA_mov, rA_bin, rA_nil, goon, binA_add, binA_shr, val_t, val_k, updO_some, bindP_some, bindP_need, upd_app, argsE_app, List.getD_cons_succ, List.getD_nil, true_and, reduceIte, Nat.reduceEqDiff, Nat.succ_ne_zero, Int.reduceLE, wi1, Int.zero_add, w6]
  refine Un_in ?_
  simp only [wpC, andThen_normal, andThen_exit, inBlk_normal, inBlk_exit, rA_mov, rA_load, rA_bin, rA_conv, rA_idx, rA_len, rA_nil, goon, condA_bool, both_some, ldA_iptr, ldv_f, binA_add, binA_lss, idxA_vec, lenSA_vec, val_t, val_k, updO_some, bindP_some, bindP_need, upd_app, argsE_app, List.getD_cons_zero, List.getD_cons_succ, List.getD_nil, List.length_cons, List.length_nil, true_and, forall_const, reduceCtorEq, reduceIte, false_implies, Bool.false_eq_true, Nat.zero_add, Nat.reduceAdd, Nat.reduceEqDiff, Nat.succ_ne_zero, Nat.reduceLeDiff, Nat.mul_one, decide_false, Int.reduceLT, Int.reduceLE, Int.reduceAdd, Nat.reduceAdd, n1, Int.natCast_zero, wi1, tn1]
  simp only [r200_19, rA_mov, rA_store, rA_conv, rA_idx, rA_len, rA_nil, goon, stA_ptr, convA_int, idxA_sl, lenSA_vec, val_t, updO_some, cells_int, firm_int, setL_nil, setL_cons, scalL_nil, scalL_cons, scal_int, bindP_some, bindP_need, upd_app, argsE_app, getB_zero, List.getD_cons_zero, List.getD_cons_succ, List.getD_nil, List.length_cons, List.length_nil, true_and, and_true, Option.bind_some, reduceCtorEq, reduceIte, Nat.zero_add, Nat.reduceAdd, Nat.reduceEqDiff, Nat.succ_ne_zero, Nat.reduceLeDiff, Nat.mul_one, List.set_cons_zero, List.set_cons_succ, Bool.and_self, Int.reduceLE, Nat.reduceAdd, n1, n2, tn1, lt12, u32z]
  simp only [r200_20, rA_mov, rA_callf, goon, val_t, updO_some, upd_app, argsE_app, List.getD_cons_succ, List.getD_nil, List.map_cons, List.map_nil, reduceIte, Nat.reduceEqDiff, Nat.succ_ne_zero]
  refine callA_one (trimS2z y 2 (by omega)) rfl rfl ?_
  simp only [restA, applyE, List.replicate_zero, List.append_nil, rA_mov, rA_nil, goon, val_t, updO_some, upd_app, argsE_app, List.getD_cons_succ, List.getD_nil, List.length_cons, List.length_nil, reduceIte, Nat.zero_add, Nat.reduceEqDiff, Nat.succ_ne_zero, List.set_cons_zero]
  exact ⟨.inl trivial, _, rfl, .freeze 3 _ _ _ rfl (by intro i cs h; omega)⟩
theorem addNat10 (x : Nat) (c d : Option Nat) (hx : x ≠ 0) (hx' : x < 4294967296) : Ret Tryz.prog G 200 [.vec [.int .u32 x] 1 c, .vec [] 0 d] [] (.vec [.int .u32 (x : Nat)] 1 (some 2)) [] := by
  have w1 : IntKind.u64.wrap (x : Int) = x := wrap_u64 (by omega)
  have w5 : IntKind.u32.wrap ((x : Nat) : Int) = ((x : Nat) : Int) := wrap_u32 (by omega)
  have w6 := fd0 (z := x) (by omega)
  refine Ret_of mixed Tryz.func200 comp200 _ 83 res200 nt200 (by simp) (by simp) ?_
  simp only [c200, wpC, andThen_normal, val_t, List.length_nil, reduceCtorEq]
  simp only [r200_0, rA_mov, rA_nil, goon, val_k, updO_some]
  simp only [r200_1, rA_mov, rA_bin, rA_len, rA_nil, goon, condA_bool, both_some, binA_lss, lenSA_vec, val_t, updO_some, bindP_some, upd_app, argsE_app, List.getD_cons_zero, List.getD_cons_succ, List.getD_nil, true_and, forall_const, reduceCtorEq, reduceIte, false_implies, Bool.false_eq_true, Nat.reduceEqDiff, decide_false, Int.reduceLT, n1, Int.natCast_zero]
  simp only [r200_3, rA_mov, rA_bin, rA_mksl, rA_len, rA_nil, goon, binA_add, mkslA_int, lenSA_vec, val_t, val_k, updO_some, zeros_one, bindP_some, bindP_need, upd_app, argsE_app, List.getD_cons_zero, List.getD_cons_succ, List.getD_nil, List.length_cons, List.length_nil, List.nil_append, true_and, reduceCtorEq, reduceIte, Nat.zero_add, Nat.reduceEqDiff, Int.reduceLE, Int.reduceAdd, n1, wi2, zeros_one, List.replicate_succ, List.replicate_zero, wi2, tn2]
  refine ⟨by decide, ⟨by decide, by decide⟩, ?_⟩
  simp only [r200_4, r200_5, rA_mov, rA_len, rA_nil, goon, lenSA_vec, val_t, val_k, updO_some, bindP_some, upd_app, argsE_app, List.getD_cons_zero, List.getD_cons_succ, reduceIte, Nat.reduceEqDiff, Int.natCast_zero]
  refine W_un mixed 1 (Un_in ?_)
  simp only [l200_0, r200_6, wpC, andThen_normal, andThen_exit, inBlk_normal, inBlk_exit, rA_bin, rA_nil, goon, condA_bool, both_some, binA_lss, val_t, updO_some, bindP_some, upd_app, argsE_app, List.getD_cons_succ, List.getD_nil, true_and, forall_const, reduceCtorEq, reduceIte, false_implies, Bool.false_eq_true, Nat.reduceEqDiff, decide_false, Int.reduceLT]
  simp only [r200_12, rA_mov, rA_bin, rA_len, rA_nil, goon, binA_sub, lenSA_vec, val_t, val_k, updO_some, bindP_some, upd_app, argsE_app, List.getD_cons_zero, List.getD_cons_succ, List.getD_nil, reduceCtorEq, reduceIte, Nat.reduceEqDiff, Int.reduceSub, n1, Int.natCast_zero, wi1]
  refine W_un mixed 2 (Un_in ?_)
  simp only [l200_1, r200_13, wpC, andThen_normal, andThen_exit, inBlk_normal, inBlk_exit, rA_bin, rA_nil, goon, condA_bool, both_some, binA_lss, val_t, updO_some, bindP_some, upd_app, argsE_app, List.getD_cons_succ, List.getD_nil, and_true, forall_const, reduceCtorEq, reduceIte, false_implies, Bool.true_eq_false, Nat.reduceEqDiff, decide_true, lt01]
  simp only [r200_14, r200_15, rA_mov, rA_load, rA_bin, rA_conv, rA_idx, rA_len, rA_nil, goon, ldA_iptr, ldv_f, binA_add, convA_int, idxA_vec, lenSA_vec, val_t, updO_some, bindP_some, bindP_need, upd_app, argsE_app, List.getD_cons_zero, List.getD_cons_succ, List.getD_nil, List.length_cons, List.length_nil, true_and, and_true, forall_const, reduceCtorEq, reduceIte, Nat.zero_add, Nat.reduceEqDiff, Nat.reduceLeDiff, Nat.mul_one, n1, Int.natCast_zero, wi0, tn0, le0, lt01, Int.zero_add, w1]
  simp only [r200_16, rA_mov, rA_store, rA_bin, rA_conv, rA_idx, rA_len, rA_nil, goon, stA_ptr, binA_add, convA_int, idxA_sl, lenSA_vec, val_t, updO_some, cells_int, firm_int, setL_nil, setL_cons, scalL_nil, scalL_cons, scal_int, bindP_some, bindP_need, upd_app, argsE_app, getB_zero, List.getD_cons_zero, List.getD_cons_succ, List.getD_nil, List.length_cons, List.length_nil, true_and, and_true, Option.bind_some, reduceIte, Nat.zero_add, Nat.reduceAdd, Nat.reduceEqDiff, Nat.reduceLeDiff, Nat.mul_one, List.set_cons_zero, Bool.and_self, Int.reduceLT, Nat.reduceAdd, n2, Int.natCast_zero, wi0, tn0, le0, Int.zero_add, w5]
  simp only [r200_17, r200_18, rA_mov, rA_bin, rA_nil, goon, binA_add, binA_shr, val_t, val_k, updO_some, bindP_some, bindP_need, upd_app, argsE_app, List.getD_cons_succ, List.getD_nil, true_and, reduceIte, Nat.reduceEqDiff, Int.reduceLE, wi1, Int.zero_add, w6]
  refine Un_in ?_
  simp only [wpC, andThen_normal, andThen_exit, inBlk_normal, inBlk_exit, rA_mov, rA_load, rA_bin, rA_conv, rA_idx, rA_len, rA_nil, goon, condA_bool, both_some, ldA_iptr, ldv_f, binA_add, binA_lss, idxA_vec, lenSA_vec, val_t, val_k, updO_some, bindP_some, bindP_need, upd_app, argsE_app, List.getD_cons_zero, List.getD_cons_succ, List.getD_nil, List.length_cons, List.length_nil, true_and, forall_const, reduceCtorEq, reduceIte, false_implies, Bool.false_eq_true, Nat.zero_add, Nat.reduceAdd, Nat.reduceEqDiff, Nat.reduceLeDiff, Nat.mul_one, decide_false, Int.reduceLT, Int.reduceLE, Int.reduceAdd, Nat.reduceAdd, n1, Int.natCast_zero, wi1, tn1]
  simp only [r200_19, rA_mov, rA_store, rA_conv, rA_idx, rA_len, rA_nil, goon, stA_ptr, convA_int, idxA_sl, lenSA_vec, val_t, updO_some, cells_int, firm_int, setL_nil, setL_cons, scalL_nil, scalL_cons, scal_int, bindP_some, bindP_need, upd_app, argsE_app, getB_zero, List.getD_cons_zero, List.getD_cons_succ, List.getD_nil, List.length_cons, List.length_nil, true_and, and_true, Option.bind_some, reduceCtorEq, reduceIte, Nat.zero_add, Nat.reduceAdd, Nat.reduceEqDiff, Nat.reduceLeDiff, Nat.mul_one, List.set_cons_zero, List.set_cons_succ, Bool.and_self, Int.reduceLE, Nat.reduceAdd, n1, n2, tn1, lt12, u32z]
  simp only [r200_20, rA_mov, rA_callf, goon, val_t, updO_some, upd_app, argsE_app, List.getD_cons_succ, List.getD_nil, List.map_cons, List.map_nil, reduceIte, Nat.reduceEqDiff]
  refine callA_one (trimS2z x 2 (by omega)) rfl rfl ?_
  simp only [restA, applyE, List.replicate_zero, List.append_nil, rA_mov, rA_nil, goon, val_t, updO_some, upd_app, argsE_app, List.getD_cons_succ, List.getD_nil, List.length_cons, List.length_nil, reduceIte, Nat.zero_add, Nat.reduceEqDiff, List.set_cons_zero]
  exact ⟨.inl trivial, _, rfl, .freeze 3 _ _ _ rfl (by intro i cs h; omega)⟩
theorem addNat11 (x : Nat) (y : Nat) (c d : Option Nat) (hx : x ≠ 0) (hx' : x < 4294967296) (hy : y ≠ 0) (hy' : y < 4294967296) (hxy : x + y < 4294967296) : Ret Tryz.prog G 200 [.vec [.int .u32 x] 1 c, .vec [.int .u32 y] 1 d] [] (.vec [.int .u32 (x + y : Nat)] 1 (some 2)) [] := by
  have w1 : IntKind.u64.wrap (x : Int) = x := wrap_u64 (by omega)
  have w2 : IntKind.u64.wrap (y : Int) = y := wrap_u64 (by omega)
  have w3 : IntKind.u64.wrap ((x : Int) + (y : Int)) = ((x + y : Nat) : Int) := by rw [← Int.natCast_add]; exact wrap_u64 (by omega)
  have w4 : IntKind.u64.wrap ((x + y : Nat) : Int) = ((x + y : Nat) : Int) := wrap_u64 (by omega)
  have w5 : IntKind.u32.wrap (((x + y) : Nat) : Int) = (((x + y) : Nat) : Int) := wrap_u32 (by omega)
  have w6 := fd0 (z := (x + y)) (by omega)
  refine Ret_of mixed Tryz.func200 comp200 _ 83 res200 nt200 (by simp) (by simp) ?_
  simp only [c200, wpC, andThen_normal, val_t, List.length_nil, reduceCtorEq]
  simp only [r200_0, rA_mov, rA_nil, goon, val_k, updO_some]
  simp only [r200_1, rA_mov, rA_bin, rA_len, rA_nil, goon, condA_bool, both_some, binA_lss, lenSA_vec, val_t, updO_some, bindP_some, upd_app, argsE_app, List.getD_cons_zero, List.getD_cons_succ, List.getD_nil, true_and, forall_const, reduceCtorEq, reduceIte, false_implies, Bool.false_eq_true, Nat.reduceEqDiff, decide_false, Int.reduceLT, n1]
  simp only [r200_3, rA_mov, rA_bin, rA_mksl, rA_len, rA_nil, goon, binA_add, mkslA_int, lenSA_vec, val_t, val_k, updO_some, zeros_one, bindP_some, bindP_need, upd_app, argsE_app, List.getD_cons_zero, List.getD_cons_succ, List.getD_nil, List.length_cons, List.length_nil, List.nil_append, true_and, reduceCtorEq, reduceIte, Nat.zero_add, Nat.reduceEqDiff, Int.reduceLE, Int.reduceAdd, n1, wi2, zeros_one, List.replicate_succ, List.replicate_zero, wi2, tn2]
  refine ⟨by decide, ⟨by decide, by decide⟩, ?_⟩
  simp only [r200_4, r200_5, rA_mov, rA_len, rA_nil, goon, lenSA_vec, val_t, val_k, updO_some, bindP_some, upd_app, argsE_app, List.getD_cons_zero, List.getD_cons_succ, reduceIte, Nat.reduceEqDiff, n1]
  refine W_un mixed 2 (Un_in ?_)
  simp only [l200_0, r200_6, wpC, andThen_normal, andThen_exit, inBlk_normal, inBlk_exit, rA_bin, rA_nil, goon, condA_bool, both_some, binA_lss, val_t, updO_some, bindP_some, upd_app, argsE_app, List.getD_cons_succ, List.getD_nil, and_true, forall_const, reduceCtorEq, reduceIte, false_implies, Bool.true_eq_false, Nat.reduceEqDiff, decide_true, lt01]
  simp only [r200_7, r200_8, rA_mov, rA_load, rA_bin, rA_conv, rA_idx, rA_nil, goon, ldA_iptr, ldv_f, binA_add, convA_int, idxA_vec, val_t, updO_some, bindP_some, bindP_need, upd_app, argsE_app, List.getD_cons_zero, List.getD_cons_succ, List.getD_nil, List.length_cons, List.length_nil, true_and, and_true, forall_const, reduceCtorEq, reduceIte, Nat.zero_add, Nat.reduceEqDiff, Nat.reduceLeDiff, Nat.mul_one, n1, tn0, le0, lt01, Int.zero_add, w1, w2, w3, w4]
  refine ⟨rfl, ?_⟩
  simp only [r200_9, rA_mov, rA_store, rA_conv, rA_idx, rA_nil, goon, stA_ptr, convA_int, idxA_sl, val_t, updO_some, cells_int, firm_int, setL_nil, setL_cons, scalL_nil, scalL_cons, scal_int, bindP_some, bindP_need, upd_app, argsE_app, getB_zero, List.getD_cons_succ, List.getD_nil, List.length_cons, List.length_nil, true_and, and_true, Option.bind_some, reduceIte, Nat.zero_add, Nat.reduceAdd, Nat.reduceEqDiff, Nat.reduceLeDiff, Nat.mul_one, List.set_cons_zero, Bool.and_self, Int.reduceLT, Nat.reduceAdd, n2, tn0, le0, w5]
  simp only [r200_10, r200_11, rA_mov, rA_bin, rA_nil, goon, binA_add, binA_shr, val_t, val_k, updO_some, bindP_some, bindP_need, upd_app, argsE_app, List.getD_cons_succ, List.getD_nil, true_and, reduceIte, Nat.reduceEqDiff, Int.reduceLE, wi1, Int.zero_add, w6]
  refine Un_in ?_
  simp only [wpC, andThen_normal, andThen_exit, inBlk_normal, inBlk_exit, rA_mov, rA_load, rA_bin, rA_conv, rA_idx, rA_nil, goon, condA_bool, both_some, ldA_iptr, ldv_f, binA_lss, idxA_vec, val_t, val_k, updO_some, bindP_some, bindP_need, upd_app, argsE_app, List.getD_cons_zero, List.getD_cons_succ, List.getD_nil, List.length_cons, List.length_nil, true_and, forall_const, reduceCtorEq, reduceIte, false_implies, Bool.false_eq_true, Nat.zero_add, Nat.reduceAdd, Nat.reduceEqDiff, Nat.reduceLeDiff, Nat.mul_one, decide_false, Int.reduceLT, Int.reduceLE, Nat.reduceAdd, n1, tn1]
  simp only [r200_12, rA_mov, rA_bin, rA_len, rA_nil, goon, binA_sub, lenSA_vec, val_t, val_k, updO_some, bindP_some, upd_app, argsE_app, List.getD_cons_zero, List.getD_cons_succ, List.getD_nil, reduceCtorEq, reduceIte, Nat.reduceEqDiff, Int.reduceSub, n1, wi0]
  refine W_un mixed 1 (Un_in ?_)
  simp only [l200_1, r200_13, wpC, andThen_normal, andThen_exit, inBlk_normal, inBlk_exit, rA_bin, rA_nil, goon, condA_bool, both_some, binA_lss, val_t, updO_some, bindP_some, upd_app, argsE_app, List.getD_cons_succ, List.getD_nil, true_and, forall_const, reduceCtorEq, reduceIte, false_implies, Bool.false_eq_true, Nat.reduceEqDiff, decide_false, Int.reduceLT]
  simp only [r200_19, rA_mov, rA_store, rA_conv, rA_idx, rA_len, rA_nil, goon, stA_ptr, convA_int, idxA_sl, lenSA_vec, val_t, updO_some, cells_int, firm_int, setL_nil, setL_cons, scalL_nil, scalL_cons, scal_int, bindP_some, bindP_need, upd_app, argsE_app, getB_zero, List.getD_cons_zero, List.getD_cons_succ, List.getD_nil, List.length_cons, List.length_nil, true_and, and_true, Option.bind_some, reduceCtorEq, reduceIte, Nat.zero_add, Nat.reduceAdd, Nat.reduceEqDiff, Nat.reduceLeDiff, Nat.mul_one, List.set_cons_zero, List.set_cons_succ, Bool.and_self, Int.reduceLE, Nat.reduceAdd, n1, n2, tn1, lt12, u32z]
  simp only [r200_20, rA_mov, rA_callf, goon, val_t, updO_some, upd_app, argsE_app, List.getD_cons_succ, List.getD_nil, List.map_cons, List.map_nil, reduceIte, Nat.reduceEqDiff]
  refine callA_one (trimS2z (x + y) 2 (by omega)) rfl rfl ?_
  simp only [restA, applyE, List.replicate_zero, List.append_nil, rA_mov, rA_nil, goon, val_t, updO_some, upd_app, argsE_app, List.getD_cons_succ, List.getD_nil, List.length_cons, List.length_nil, reduceIte, Nat.zero_add, Nat.reduceEqDiff, List.set_cons_zero]
  exact ⟨.inl trivial, _, rfl, .freeze 3 _ _ _ rfl (by intro i cs h; omega)⟩

-- subNat
theorem subNat00 (c d : Option Nat) : Ret Tryz.prog G 201 [.vec [] 0 c, .vec [] 0 d] [] (.vec [] 0 (some 0)) [] := by
  refine Ret_of mixed Tryz.func201 comp201 _ 45 res201 nt201 (by simp) (by simp) ?_
  simp only [c201, wpC, andThen_normal, List.length_nil, reduceCtorEq]
  simp only [r201_0, rA_mov, rA_nil, goon, val_k, updO_some]
  simp only [r201_1, rA_mov, rA_mksl, rA_len, rA_nil, goon, mkslA_int, lenSA_vec, val_t, updO_some, zeros_one, bindP_some, bindP_need, upd_app, argsE_app, List.getD_cons_zero, List.getD_cons_succ, List.getD_nil, List.length_cons, List.length_nil, List.nil_append, true_and, reduceCtorEq, reduceIte, Nat.zero_add, Nat.reduceEqDiff, Int.natCast_zero, tn0, le0, zeros_one, List.replicate_zero]
  refine ⟨by decide, by decide, ?_⟩
  simp only [r201_2, r201_3, rA_mov, rA_len, rA_nil, goon, lenSA_vec, val_t, val_k, updO_some, bindP_some, upd_app, argsE_app, List.getD_cons_zero, reduceCtorEq, reduceIte, Int.natCast_zero]
  refine W_un mixed 1 (Un_in ?_)
  simp only [l201_0, r201_4, wpC, andThen_normal, andThen_exit, inBlk_normal, inBlk_exit, rA_bin, rA_nil, goon, condA_bool, both_some, binA_lss, val_t, updO_some, bindP_some, upd_app, argsE_app, List.getD_cons_succ, List.getD_nil, true_and, forall_const, reduceCtorEq, reduceIte, false_implies, Bool.false_eq_true, Nat.reduceEqDiff, decide_false, Int.reduceLT]
  simp only [r201_12, rA_mov, rA_callf, goon, val_t, updO_some, upd_app, argsE_app, List.getD_cons_succ, List.getD_nil, List.map_cons, List.map_nil, reduceIte, Nat.reduceEqDiff]
  refine callA_one (trimS0 _) rfl rfl ?_
  simp only [restA, applyE, List.replicate_zero, List.append_nil, rA_mov, rA_nil, goon, val_t, updO_some, upd_app, argsE_app, List.getD_cons_succ, List.getD_nil, List.length_cons, List.length_nil, reduceIte, Nat.zero_add, Nat.reduceEqDiff, List.set_cons_zero]
  exact ⟨.inl trivial, _, rfl, .freeze 3 _ _ _ rfl (by intro i cs h; omega)⟩
theorem subNat10 (x : Nat) (c d : Option Nat) (hx : x ≠ 0) (hx' : x < 4294967296) : Ret Tryz.prog G 201 [.vec [.int .u32 x] 1 c, .vec [] 0 d] [] (.vec [.int .u32 x] 1 (some 1)) [] := by
  have w1 : IntKind.u64.wrap (x : Int) = x := wrap_u64 (by omega)
  have w5 : IntKind.u32.wrap (x : Int) = x := wrap_u32 hx'
  have w6 := fd63 hx'
  refine Ret_of mixed Tryz.func201 comp201 _ 45 res201 nt201 (by simp) (by simp) ?_
  simp only [c201, wpC, andThen_normal, List.length_nil, reduceCtorEq]
  simp only [r201_0, rA_mov, rA_nil, goon, val_k, updO_some]
  simp only [r201_1, rA_mov, rA_mksl, rA_len, rA_nil, goon, mkslA_int, lenSA_vec, val_t, updO_some, zeros_one, bindP_some, bindP_need, upd_app, argsE_app, List.getD_cons_zero, List.getD_cons_succ, List.getD_nil, List.length_cons, List.length_nil, List.nil_append, true_and, reduceCtorEq, reduceIte, Nat.zero_add, Nat.reduceEqDiff, Int.reduceLE, n1, tn1, zeros_one, List.replicate_succ, List.replicate_zero]
  refine ⟨by decide, ⟨by decide, by decide⟩, ?_⟩
  simp only [r201_2, r201_3, rA_mov, rA_len, rA_nil, goon, lenSA_vec, val_t, val_k, updO_some, bindP_some, upd_app, argsE_app, List.getD_cons_zero, reduceCtorEq, reduceIte, n1]
  refine W_un mixed 2 (Un_in ?_)
  simp only [l201_0, r201_4, wpC, andThen_normal, andThen_exit, inBlk_normal, inBlk_exit, rA_bin, rA_nil, goon, condA_bool, both_some, binA_lss, val_t, updO_some, bindP_some, upd_app, argsE_app, List.getD_cons_succ, List.getD_nil, and_true, forall_const, reduceCtorEq, reduceIte, false_implies, Bool.true_eq_false, Nat.reduceEqDiff, decide_true, lt01]
  simp only [r201_5, r201_6, rA_mov, rA_load, rA_bin, rA_conv, rA_idx, rA_nil, goon, ldA_iptr, ldv_f, binA_sub, convA_int, idxA_vec, val_t, updO_some, bindP_some, bindP_need, upd_app, argsE_app, List.getD_cons_zero, List.getD_cons_succ, List.getD_nil, List.length_cons, List.length_nil, true_and, and_true, forall_const, reduceCtorEq, reduceIte, Nat.zero_add, Nat.reduceEqDiff, Nat.reduceLeDiff, Nat.mul_one, n1, tn0, le0, lt01, Int.sub_zero, w1]
  simp only [r201_7, rA_mov, rA_bin, rA_len, rA_nil, goon, condA_bool, both_some, binA_lss, lenSA_vec, val_t, updO_some, bindP_some, upd_app, argsE_app, List.getD_cons_zero, List.getD_cons_succ, List.getD_nil, true_and, forall_const, reduceIte, false_implies, Bool.false_eq_true, Nat.reduceEqDiff, decide_false, Int.reduceLT, Int.natCast_zero]
  simp only [r201_9, rA_mov, rA_store, rA_conv, rA_idx, rA_nil, goon, stA_ptr, convA_int, idxA_sl, val_t, updO_some, cells_int, firm_int, setL_nil, setL_cons, scalL_nil, scalL_cons, scal_int, bindP_some, bindP_need, upd_app, argsE_app, getB_zero, List.getD_cons_succ, List.getD_nil, List.length_cons, List.length_nil, true_and, and_true, Option.bind_some, reduceIte, Nat.zero_add, Nat.reduceEqDiff, Nat.reduceLeDiff, Nat.mul_one, List.set_cons_zero, Bool.and_self, n1, tn0, le0, lt01, w5]
  simp only [r201_10, r201_11, rA_mov, rA_bin, rA_nil, goon, binA_add, binA_shr, val_t, val_k, updO_some, bindP_some, bindP_need, upd_app, argsE_app, List.getD_cons_succ, List.getD_nil, true_and, reduceIte, Nat.reduceEqDiff, Int.reduceLE, Int.reduceAdd, wi1, w6]
  refine Un_in ?_
  simp only [wpC, andThen_normal, andThen_exit, inBlk_normal, inBlk_exit, rA_mov, rA_load, rA_bin, rA_conv, rA_idx, rA_len, rA_nil, goon, condA_bool, both_some, ldA_iptr, ldv_f, binA_lss, idxA_vec, val_t, val_k, updO_some, bindP_some, bindP_need, upd_app, argsE_app, List.getD_cons_zero, List.getD_cons_succ, List.getD_nil, List.length_cons, List.length_nil, true_and, forall_const, reduceCtorEq, reduceIte, false_implies, Bool.false_eq_true, Nat.zero_add, Nat.reduceAdd, Nat.reduceEqDiff, Nat.reduceLeDiff, Nat.mul_one, decide_false, Int.reduceLT, Int.reduceLE, Nat.reduceAdd, n1, tn1]
  simp only [r201_12, rA_mov, rA_callf, goon, val_t, updO_some, upd_app, argsE_app, List.getD_cons_succ, List.getD_nil, List.map_cons, List.map_nil, reduceIte, Nat.reduceEqDiff]
  refine callA_one (trimS1 x _ hx) rfl rfl ?_
  simp only [restA, applyE, List.replicate_zero, List.append_nil, rA_mov, rA_nil, goon, val_t, updO_some, upd_app, argsE_app, List.getD_cons_succ, List.getD_nil, List.length_cons, List.length_nil, reduceIte, Nat.zero_add, Nat.reduceEqDiff, List.set_cons_zero]
  exact ⟨.inl trivial, _, rfl, .freeze 3 _ _ _ rfl (by intro i cs h; omega)⟩
theorem subNat11g (x y : Nat) (c d : Option Nat) (hxy : y < x) (hx' : x < 4294967296) : Ret Tryz.prog G 201 [.vec [.int .u32 x] 1 c, .vec [.int .u32 y] 1 d] [] (.vec [.int .u32 (x - y : Nat)] 1 (some 1)) [] := by
  have w1 : IntKind.u64.wrap (x : Int) = x := wrap_u64 (by omega)
  have w2 : IntKind.u64.wrap (y : Int) = y := wrap_u64 (by omega)
  have w3 : IntKind.u64.wrap ((x : Int) - (y : Int)) = ((x - y : Nat) : Int) := by rw [show (x : Int) - y = ((x - y : Nat) : Int) by omega]; exact wrap_u64 (by omega)
  have w5 : IntKind.u32.wrap ((x - y : Nat) : Int) = ((x - y : Nat) : Int) := wrap_u32 (by omega)
  have w6 := fd63 (z := x - y) (by omega)
  refine Ret_of mixed Tryz.func201 comp201 _ 45 res201 nt201 (by simp) (by simp) ?_
  simp only [c201, wpC, andThen_normal, List.length_nil, reduceCtorEq]
  simp only [r201_0, rA_mov, rA_nil, goon, val_k, updO_some]
  simp only [r201_1, rA_mov, rA_mksl, rA_len, rA_nil, goon, mkslA_int, lenSA_vec, val_t, updO_some, zeros_one, bindP_some, bindP_need, upd_app, argsE_app, List.getD_cons_zero, List.getD_cons_succ, List.getD_nil, List.length_cons, List.length_nil, List.nil_append, true_and, reduceCtorEq, reduceIte, Nat.zero_add, Nat.reduceEqDiff, Int.reduceLE, n1, tn1, zeros_one, List.replicate_succ, List.replicate_zero]
  refine ⟨by decide, ⟨by decide, by decide⟩, ?_⟩
  simp only [r201_2, r201_3, rA_mov, rA_len, rA_nil, goon, lenSA_vec, val_t, val_k, updO_some, bindP_some, upd_app, argsE_app, List.getD_cons_zero, reduceCtorEq, reduceIte, n1]
  refine W_un mixed 2 (Un_in ?_)
  simp only [l201_0, r201_4, wpC, andThen_normal, andThen_exit, inBlk_normal, inBlk_exit, rA_bin, rA_nil, goon, condA_bool, both_some, binA_lss, val_t, updO_some, bindP_some, upd_app, argsE_app, List.getD_cons_succ, List.getD_nil, and_true, forall_const, reduceCtorEq, reduceIte, false_implies, Bool.true_eq_false, Nat.reduceEqDiff, decide_true, lt01]
  simp only [r201_5, r201_6, rA_mov, rA_load, rA_bin, rA_conv, rA_idx, rA_nil, goon, ldA_iptr, ldv_f, binA_sub, convA_int, idxA_vec, val_t, updO_some, bindP_some, bindP_need, upd_app, argsE_app, List.getD_cons_zero, List.getD_cons_succ, List.getD_nil, List.length_cons, List.length_nil, true_and, and_true, forall_const, reduceCtorEq, reduceIte, Nat.zero_add, Nat.reduceEqDiff, Nat.reduceLeDiff, Nat.mul_one, n1, tn0, le0, lt01, Int.sub_zero, w1]
  simp only [r201_7, rA_mov, rA_bin, rA_len, rA_nil, goon, condA_bool, both_some, binA_lss, lenSA_vec, val_t, updO_some, bindP_some, upd_app, argsE_app, List.getD_cons_zero, List.getD_cons_succ, List.getD_nil, and_true, forall_const, reduceIte, false_implies, Bool.true_eq_false, Nat.reduceEqDiff, decide_true, n1, lt01]
  simp only [r201_8, rA_mov, rA_load, rA_bin, rA_conv, rA_idx, rA_nil, goon, ldA_iptr, ldv_f, binA_sub, convA_int, idxA_vec, val_t, updO_some, bindP_some, bindP_need, upd_app, argsE_app, List.getD_cons_zero, List.getD_cons_succ, List.getD_nil, List.length_cons, List.length_nil, true_and, and_true, forall_const, reduceIte, Nat.zero_add, Nat.reduceEqDiff, Nat.reduceLeDiff, Nat.mul_one, n1, tn0, le0, lt01, w2, w3]
  simp only [r201_9, rA_mov, rA_store, rA_conv, rA_idx, rA_nil, goon, stA_ptr, convA_int, idxA_sl, val_t, updO_some, cells_int, firm_int, setL_nil, setL_cons, scalL_nil, scalL_cons, scal_int, bindP_some, bindP_need, upd_app, argsE_app, getB_zero, List.getD_cons_succ, List.getD_nil, List.length_cons, List.length_nil, true_and, and_true, Option.bind_some, reduceIte, Nat.zero_add, Nat.reduceEqDiff, Nat.reduceLeDiff, Nat.mul_one, List.set_cons_zero, Bool.and_self, n1, tn0, le0, lt01, w5]
  simp only [r201_10, r201_11, rA_mov, rA_bin, rA_nil, goon, binA_add, binA_shr, val_t, val_k, updO_some, bindP_some, bindP_need, upd_app, argsE_app, List.getD_cons_succ, List.getD_nil, true_and, reduceIte, Nat.reduceEqDiff, Int.reduceLE, Int.reduceAdd, wi1, w6]
  refine Un_in ?_
  simp only [wpC, andThen_normal, andThen_exit, inBlk_normal, inBlk_exit, rA_mov, rA_load, rA_bin, rA_conv, rA_idx, rA_len, rA_nil, goon, condA_bool, both_some, ldA_iptr, ldv_f, binA_lss, idxA_vec, val_t, val_k, updO_some, bindP_some, bindP_need, upd_app, argsE_app, List.getD_cons_zero, List.getD_cons_succ, List.getD_nil, List.length_cons, List.length_nil, true_and, forall_const, reduceCtorEq, reduceIte, false_implies, Bool.false_eq_true, Nat.zero_add, Nat.reduceAdd, Nat.reduceEqDiff, Nat.reduceLeDiff, Nat.mul_one, decide_false, Int.reduceLT, Int.reduceLE, Nat.reduceAdd, n1, tn1]
  simp only [r201_12, rA_mov, rA_callf, goon, val_t, updO_some, upd_app, argsE_app, List.getD_cons_succ, List.getD_nil, List.map_cons, List.map_nil, reduceIte, Nat.reduceEqDiff]
  refine callA_one (trimS1 (x - y) _ (by omega)) rfl rfl ?_
  simp only [restA, applyE, List.replicate_zero, List.append_nil, rA_mov, rA_nil, goon, val_t, updO_some, upd_app, argsE_app, List.getD_cons_succ, List.getD_nil, List.length_cons, List.length_nil, reduceIte, Nat.zero_add, Nat.reduceEqDiff, List.set_cons_zero]
  exact ⟨.inl trivial, _, rfl, .freeze 3 _ _ _ rfl (by intro i cs h; omega)⟩
theorem subNat11e (x : Nat) (c d : Option Nat) (hx' : x < 4294967296) : Ret Tryz.prog G 201 [.vec [.int .u32 x] 1 c, .vec [.int .u32 x] 1 d] [] (.vec [] 0 (some 1)) [] := by
  have w1 : IntKind.u64.wrap (x : Int) = x := wrap_u64 (by omega)
  have w3 : IntKind.u64.wrap ((x : Int) - (x : Int)) = 0 := by rw [Int.sub_self]; rfl
  refine Ret_of mixed Tryz.func201 comp201 _ 45 res201 nt201 (by simp) (by simp) ?_
  simp only [c201, wpC, andThen_normal, List.length_nil, reduceCtorEq]
  simp only [r201_0, rA_mov, rA_nil, goon, val_k, updO_some]
  simp only [r201_1, rA_mov, rA_mksl, rA_len, rA_nil, goon, mkslA_int, lenSA_vec, val_t, updO_some, zeros_one, bindP_some, bindP_need, upd_app, argsE_app, List.getD_cons_zero, List.getD_cons_succ, List.getD_nil, List.length_cons, List.length_nil, List.nil_append, true_and, reduceCtorEq, reduceIte, Nat.zero_add, Nat.reduceEqDiff, Int.reduceLE, n1, tn1, zeros_one, List.replicate_succ, List.replicate_zero]
  refine ⟨by decide, ⟨by decide, by decide⟩, ?_⟩
  simp only [r201_2, r201_3, rA_mov, rA_len, rA_nil, goon, lenSA_vec, val_t, val_k, updO_some, bindP_some, upd_app, argsE_app, List.getD_cons_zero, reduceCtorEq, reduceIte, n1]
  refine W_un mixed 2 (Un_in ?_)
  simp only [l201_0, r201_4, wpC, andThen_normal, andThen_exit, inBlk_normal, inBlk_exit, rA_bin, rA_nil, goon, condA_bool, both_some, binA_lss, val_t, updO_some, bindP_some, upd_app, argsE_app, List.getD_cons_succ, List.getD_nil, and_true, forall_const, reduceCtorEq, reduceIte, false_implies, Bool.true_eq_false, Nat.reduceEqDiff, decide_true, lt01]
  simp only [r201_5, r201_6, rA_mov, rA_load, rA_bin, rA_conv, rA_idx, rA_nil, goon, ldA_iptr, ldv_f, binA_sub, convA_int, idxA_vec, val_t, updO_some, bindP_some, bindP_need, upd_app, argsE_app, List.getD_cons_zero, List.getD_cons_succ, List.getD_nil, List.length_cons, List.length_nil, true_and, and_true, forall_const, reduceCtorEq, reduceIte, Nat.zero_add, Nat.reduceEqDiff, Nat.reduceLeDiff, Nat.mul_one, n1, tn0, le0, lt01, Int.sub_zero, w1]
  simp only [r201_7, rA_mov, rA_bin, rA_len, rA_nil, goon, condA_bool, both_some, binA_lss, lenSA_vec, val_t, updO_some, bindP_some, upd_app, argsE_app, List.getD_cons_zero, List.getD_cons_succ, List.getD_nil, and_true, forall_const, reduceIte, false_implies, Bool.true_eq_false, Nat.reduceEqDiff, decide_true, n1, lt01]
  simp only [r201_8, rA_mov, rA_load, rA_bin, rA_conv, rA_idx, rA_nil, goon, ldA_iptr, ldv_f, binA_sub, convA_int, idxA_vec, val_t, updO_some, bindP_some, bindP_need, upd_app, argsE_app, List.getD_cons_zero, List.getD_cons_succ, List.getD_nil, List.length_cons, List.length_nil, true_and, and_true, forall_const, reduceIte, Nat.zero_add, Nat.reduceEqDiff, Nat.reduceLeDiff, Nat.mul_one, n1, tn0, le0, lt01, w1, w3]
  simp only [r201_9, rA_mov, rA_store, rA_conv, rA_idx, rA_nil, goon, stA_ptr, convA_int, idxA_sl, val_t, updO_some, cells_int, firm_int, setL_nil, setL_cons, scalL_nil, scalL_cons, scal_int, bindP_some, bindP_need, upd_app, argsE_app, getB_zero, List.getD_cons_succ, List.getD_nil, List.length_cons, List.length_nil, true_and, and_true, Option.bind_some, reduceIte, Nat.zero_add, Nat.reduceEqDiff, Nat.reduceLeDiff, Nat.mul_one, List.set_cons_zero, Bool.and_self, n1, tn0, le0, lt01, u32z]
  simp only [r201_10, r201_11, rA_mov, rA_bin, rA_nil, goon, binA_add, binA_shr, val_t, val_k, updO_some, bindP_some, bindP_need, upd_app, argsE_app, List.getD_cons_succ, List.getD_nil, true_and, reduceIte, Nat.reduceEqDiff, Int.reduceLE, Int.reduceAdd, wi1, fd630]
  refine Un_in ?_
  simp only [wpC, andThen_normal, andThen_exit, inBlk_normal, inBlk_exit, rA_mov, rA_load, rA_bin, rA_conv, rA_idx, rA_len, rA_nil, goon, condA_bool, both_some, ldA_iptr, ldv_f, binA_lss, idxA_vec, val_t, val_k, updO_some, bindP_some, bindP_need, upd_app, argsE_app, List.getD_cons_zero, List.getD_cons_succ, List.getD_nil, List.length_cons, List.length_nil, true_and, forall_const, reduceCtorEq, reduceIte, false_implies, Bool.false_eq_true, Nat.zero_add, Nat.reduceAdd, Nat.reduceEqDiff, Nat.reduceLeDiff, Nat.mul_one, decide_false, Int.reduceLT, Int.reduceLE, Nat.reduceAdd, n1, tn1]
  simp only [r201_12, rA_mov, rA_callf, goon, val_t, updO_some, upd_app, argsE_app, List.getD_cons_succ, List.getD_nil, List.map_cons, List.map_nil, reduceIte, Nat.reduceEqDiff]
  refine callA_one (trimS1z 1) rfl rfl ?_
  simp only [restA, applyE, List.replicate_zero, List.append_nil, rA_mov, rA_nil, goon, val_t, updO_some, upd_app, argsE_app, List.getD_cons_succ, List.getD_nil, List.length_cons, List.length_nil, reduceIte, Nat.zero_add, Nat.reduceEqDiff, List.set_cons_zero]
  exact ⟨.inl trivial, _, rfl, .freeze 3 _ _ _ rfl (by intro i cs h; omega)⟩

end Go.Proofs.YthkpeakeoepocaaGreatDoor
