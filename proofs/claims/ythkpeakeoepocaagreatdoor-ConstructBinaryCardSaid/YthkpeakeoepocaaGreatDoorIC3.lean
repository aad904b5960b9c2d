/- Contracts of package integer for numbers of at most one limb (part 3). -/
import Derived.Test.YthkpeakeoepocaaGreatDoorIC2
namespace Go.Proofs.YthkpeakeoepocaaGreatDoor
set_option linter.unusedSimpArgs false
set_option linter.unusedVariables false
open Go Go.AL Go.Proofs
set_option maxRecDepth 100000
theorem clone1f (x : Nat) (c : Option Nat) : Ret Tryz.prog G 171 [.vec [.int .u32 x] 1 c] [] (.vec [.int .u32 x] 1 none) [] := by
  refine Ret_of mixed Tryz.func171 comp171 _ 8 res171 nt171 (by simp) (by simp) ?_
  simp only [c171, r171_0, r171_1, r171_2, r171_3, wpC, andThen_normal, andThen_ret, rA_mov, rA_bsl, rA_snil, rA_append, rA_nil, goon, condA_bool, both_some, snilA_vec, val_t, val_k, updO_some, fillA_nil, bindP_some, upd_app, argsE_app, List.getD_cons_zero, List.getD_cons_succ, List.getD_nil, List.length_cons, List.length_nil, List.nil_append, List.cons_append, true_and, forall_const, reduceCtorEq, reduceIte, false_implies, Bool.false_eq_true, Nat.zero_add, Nat.reduceEqDiff, Nat.mul_one, show (1 : Nat) ≠ 0 by omega, if_false]
  have e1 : 1 * 1 ≤ [AV.int IntKind.u32 (x : Int)].length := Nat.le_refl _
  have e2 : 1 ≤ [AV.int IntKind.u32 (x : Int)].length := Nat.le_refl _
  simp only [appendA, lenA, elems, need, Option.bind_some, e2, Nat.le_refl, and_self, if_true, show (1 : Nat) ≠ 0 by omega, if_false, getB, List.getElem?_cons_zero, Nat.zero_le, Nat.zero_add, true_and, show 4 * 1 * 4 ≤ 2 ^ 48 by omega, show 1 < 2 ^ 62 by omega, bindP_some, applyE, Nat.mul_one, List.set_cons_succ, List.set_cons_zero, List.take_zero, List.nil_append]
  exact ⟨.inl trivial, _, rfl, .freeze 3 _ _ _ rfl (by intro i cs h; omega)⟩
theorem normalize0 (s : Bool) (c : Option Nat) : Ret Tryz.prog G 117 [.agg [.bool s, .vec [] 0 c]] [] (.agg [.bool false, .vec [] 0 (some 0)]) [] := by
  refine Ret_of mixed Tryz.func117 comp117 _ 10 res117 nt117 (by simp) (by simp) ?_
  simp only [c117, wpC, andThen_normal, List.length_nil, reduceCtorEq]
  simp only [r117_0, rA_box, rA_nil, val_t, val_k, updO_some, cells_agg, firm_agg, argsE_app, List.getD_cons_zero, List.length_cons, List.length_nil, List.nil_append, List.cons_append, true_and, Nat.zero_add]
  simp only [r117_1, rA_load, rA_fld, rA_callf, goon, ldA_ptr, ldv_f, fldA_ptr, val_t, updO_some, bindP_some, bindP_need, upd_app, argsE_app, getB_zero, List.getD_cons_zero, List.getD_cons_succ, List.getD_nil, List.map_cons, List.map_nil, List.length_cons, List.length_nil, true_and, forall_const, Option.bind_some, reduceIte, Nat.zero_add, Nat.reduceAdd, Nat.reduceEqDiff, Nat.reduceLeDiff, Nat.reduceAdd]
  refine callA_pure (trim0 c) ?_
  simp only [rA_callf, restA_pure, val_t, updO_some, upd_app, argsE_app, List.getD_cons_succ, List.getD_nil, List.map_cons, List.map_nil, reduceIte, Nat.reduceEqDiff]
  refine callA_pure (clone0 _ _) ?_
  simp only [rA_callf, restA_pure, val_t, updO_some, upd_app, argsE_app, List.getD_cons_succ, List.getD_nil, List.map_cons, List.map_nil, reduceIte, Nat.reduceEqDiff]
  refine callA_pure (build0 _ _ _) ?_
  simp only [rA_store, rA_nil, restA_pure, stA_ptr, val_t, updO_some, cells_agg, firm_agg, setL_nil, setL_cons, scalL_nil, scalL_cons, scal_bool, scal_vec, bindP_some, bindP_need, upd_app, argsE_app, getB_zero, getB_succ, List.getD_cons_succ, List.getD_nil, List.length_cons, List.length_nil, true_and, Option.bind_some, reduceIte, Nat.zero_add, Nat.reduceAdd, Nat.reduceEqDiff, Nat.reduceLeDiff, List.set_cons_zero, List.set_cons_succ, Bool.and_self, Nat.reduceAdd]
  refine ⟨rfl, ?_⟩
  exact ⟨.inl trivial, _, rfl, .drop _ _ rfl (by intro i cs h; omega)⟩
theorem normalize1 (s : Bool) (x : Nat) (c : Option Nat) (hx : x ≠ 0) (hx' : x < 4294967296) : Ret Tryz.prog G 117 [.agg [.bool s, .vec [.int .u32 x] 1 c]] [] (.agg [.bool s, .vec [.int .u32 x] 1 none]) [] := by
  refine Ret_of mixed Tryz.func117 comp117 _ 10 res117 nt117 (by simp) (by simp) ?_
  simp only [c117, wpC, andThen_normal, List.length_nil, reduceCtorEq]
  simp only [r117_0, rA_box, rA_nil, val_t, val_k, updO_some, cells_agg, firm_agg, argsE_app, List.getD_cons_zero, List.length_cons, List.length_nil, List.nil_append, List.cons_append, true_and, Nat.zero_add]
  simp only [r117_1, rA_load, rA_fld, rA_callf, goon, ldA_ptr, ldv_f, fldA_ptr, val_t, updO_some, bindP_some, bindP_need, upd_app, argsE_app, getB_zero, List.getD_cons_zero, List.getD_cons_succ, List.getD_nil, List.map_cons, List.map_nil, List.length_cons, List.length_nil, true_and, forall_const, Option.bind_some, reduceIte, Nat.zero_add, Nat.reduceAdd, Nat.reduceEqDiff, Nat.reduceLeDiff, Nat.reduceAdd]
  refine callA_pure (trim1 x c hx) ?_
  simp only [rA_callf, restA_pure, val_t, updO_some, upd_app, argsE_app, List.getD_cons_succ, List.getD_nil, List.map_cons, List.map_nil, reduceIte, Nat.reduceEqDiff]
  refine callA_pure (clone1f x c) ?_
  simp only [rA_callf, restA_pure, val_t, updO_some, upd_app, argsE_app, List.getD_cons_succ, List.getD_nil, List.map_cons, List.map_nil, reduceIte, Nat.reduceEqDiff]
  refine callA_pure (build1 _ _ _) ?_
  simp only [rA_store, rA_nil, restA_pure, stA_ptr, val_t, updO_some, cells_agg, firm_agg, setL_nil, setL_cons, scalL_nil, scalL_cons, scal_bool, scal_vec, bindP_some, bindP_need, upd_app, argsE_app, getB_zero, getB_succ, List.getD_cons_succ, List.getD_nil, List.length_cons, List.length_nil, true_and, Option.bind_some, reduceIte, Nat.zero_add, Nat.reduceAdd, Nat.reduceEqDiff, Nat.reduceLeDiff, List.set_cons_zero, List.set_cons_succ, Bool.and_self, Nat.reduceAdd]
  refine ⟨rfl, ?_⟩
  exact ⟨.inl trivial, _, rfl, .drop _ _ rfl (by intro i cs h; omega)⟩
theorem neg0 (s : Bool) (c : Option Nat) : Ret Tryz.prog G 165 [.agg [.bool s, .vec [] 0 c]] [] (.agg [.bool false, .vec [] 0 (some 0)]) [] := by
  refine Ret_of mixed Tryz.func165 comp165 _ 11 res165 nt165 (by simp) (by simp) ?_
  simp only [c165, wpC, andThen_normal, List.length_nil, reduceCtorEq]
  simp only [r165_0, rA_box, rA_nil, val_t, val_k, updO_some, cells_agg, firm_agg, argsE_app, List.getD_cons_zero, List.length_cons, List.length_nil, List.nil_append, List.cons_append, true_and, Nat.zero_add]
  simp only [r165_1, rA_load, rA_un, rA_fld, rA_callf, goon, ldA_ptr, ldv_f, unA_not, fldA_ptr, val_t, updO_some, bindP_some, bindP_need, upd_app, argsE_app, getB_zero, List.getD_cons_zero, List.getD_cons_succ, List.getD_nil, List.map_cons, List.map_nil, List.length_cons, List.length_nil, true_and, forall_const, Option.bind_some, reduceIte, Nat.zero_add, Nat.reduceAdd, Nat.reduceEqDiff, Nat.reduceLeDiff, Nat.reduceAdd]
  refine callA_pure (trim0 c) ?_
  simp only [rA_callf, restA_pure, val_t, updO_some, upd_app, argsE_app, List.getD_cons_succ, List.getD_nil, List.map_cons, List.map_nil, reduceIte, Nat.reduceEqDiff]
  refine callA_pure (clone0 _ _) ?_
  simp only [rA_callf, restA_pure, val_t, updO_some, upd_app, argsE_app, List.getD_cons_succ, List.getD_nil, List.map_cons, List.map_nil, reduceIte, Nat.reduceEqDiff]
  refine callA_pure (build0 _ _ _) ?_
  simp only [rA_store, rA_nil, restA_pure, stA_ptr, val_t, updO_some, cells_agg, firm_agg, setL_nil, setL_cons, scalL_nil, scalL_cons, scal_bool, scal_vec, bindP_some, bindP_need, upd_app, argsE_app, getB_zero, getB_succ, List.getD_cons_succ, List.getD_nil, List.length_cons, List.length_nil, true_and, Option.bind_some, reduceIte, Nat.zero_add, Nat.reduceAdd, Nat.reduceEqDiff, Nat.reduceLeDiff, List.set_cons_zero, List.set_cons_succ, Bool.and_self, Nat.reduceAdd]
  refine ⟨rfl, ?_⟩
  exact ⟨.inl trivial, _, rfl, .drop _ _ rfl (by intro i cs h; omega)⟩
theorem neg1 (s : Bool) (x : Nat) (c : Option Nat) (hx : x ≠ 0) (hx' : x < 4294967296) : Ret Tryz.prog G 165 [.agg [.bool s, .vec [.int .u32 x] 1 c]] [] (.agg [.bool (!s), .vec [.int .u32 x] 1 none]) [] := by
  refine Ret_of mixed Tryz.func165 comp165 _ 11 res165 nt165 (by simp) (by simp) ?_
  simp only [c165, wpC, andThen_normal, List.length_nil, reduceCtorEq]
  simp only [r165_0, rA_box, rA_nil, val_t, val_k, updO_some, cells_agg, firm_agg, argsE_app, List.getD_cons_zero, List.length_cons, List.length_nil, List.nil_append, List.cons_append, true_and, Nat.zero_add]
  simp only [r165_1, rA_load, rA_un, rA_fld, rA_callf, goon, ldA_ptr, ldv_f, unA_not, fldA_ptr, val_t, updO_some, bindP_some, bindP_need, upd_app, argsE_app, getB_zero, List.getD_cons_zero, List.getD_cons_succ, List.getD_nil, List.map_cons, List.map_nil, List.length_cons, List.length_nil, true_and, forall_const, Option.bind_some, reduceIte, Nat.zero_add, Nat.reduceAdd, Nat.reduceEqDiff, Nat.reduceLeDiff, Nat.reduceAdd]
  refine callA_pure (trim1 x c hx) ?_
  simp only [rA_callf, restA_pure, val_t, updO_some, upd_app, argsE_app, List.getD_cons_succ, List.getD_nil, List.map_cons, List.map_nil, reduceIte, Nat.reduceEqDiff]
  refine callA_pure (clone1f x c) ?_
  simp only [rA_callf, restA_pure, val_t, updO_some, upd_app, argsE_app, List.getD_cons_succ, List.getD_nil, List.map_cons, List.map_nil, reduceIte, Nat.reduceEqDiff]
  refine callA_pure (build1 _ _ _) ?_
  simp only [rA_store, rA_nil, restA_pure, stA_ptr, val_t, updO_some, cells_agg, firm_agg, setL_nil, setL_cons, scalL_nil, scalL_cons, scal_bool, scal_vec, bindP_some, bindP_need, upd_app, argsE_app, getB_zero, getB_succ, List.getD_cons_succ, List.getD_nil, List.length_cons, List.length_nil, true_and, Option.bind_some, reduceIte, Nat.zero_add, Nat.reduceAdd, Nat.reduceEqDiff, Nat.reduceLeDiff, List.set_cons_zero, List.set_cons_succ, Bool.and_self, Nat.reduceAdd]
  refine ⟨rfl, ?_⟩
  exact ⟨.inl trivial, _, rfl, .drop _ _ rfl (by intro i cs h; omega)⟩
-- Cmp
theorem cmp_zz (s : Bool) (t : Bool) (c d : Option Nat) : Ret Tryz.prog G 69 [.agg [.bool s, .vec [] 0 c], .agg [.bool t, .vec [] 0 d]] [] (.int .i64 0) [] := by
  refine Ret_of mixed Tryz.func69 comp69 _ 28 res69 nt69 (by simp) (by simp) ?_
  simp only [c69, wpC, andThen_normal, andThen_ret, inBlk_normal, inBlk_ret, val_t, List.length_nil, reduceCtorEq]
  simp only [r69_0, rA_mov, rA_box, rA_nil, goon, val_t, val_k, updO_some, cells_agg, firm_agg, upd_app, argsE_app, List.getD_cons_zero, List.getD_cons_succ, List.length_cons, List.length_nil, List.nil_append, List.cons_append, true_and, reduceIte, Nat.zero_add, Nat.reduceEqDiff]
  simp only [r69_1, rA_load, rA_callf, ldA_ptr, ldv_t, val_t, updO_some, bindP_some, bindP_need, upd_app, argsE_app, getB_zero, List.getD_cons_succ, List.getD_nil, List.map_cons, List.map_nil, List.length_cons, List.length_nil, true_and, Option.bind_some, reduceIte, false_implies, Bool.true_eq_false, Nat.zero_add, Nat.reduceAdd, Nat.reduceEqDiff, Nat.reduceLeDiff, List.take_succ_cons, List.take_zero, List.drop_zero, Nat.reduceAdd]
  refine callA_pure (sign0 s c) ?_
  simp only [rA_load, rA_callf, restA_pure, ldA_ptr, ldv_t, val_t, updO_some, bindP_some, bindP_need, upd_app, argsE_app, getB_zero, getB_succ, List.getD_cons_succ, List.getD_nil, List.map_cons, List.map_nil, List.length_cons, List.length_nil, true_and, Option.bind_some, reduceIte, false_implies, Bool.true_eq_false, Nat.zero_add, Nat.reduceAdd, Nat.reduceEqDiff, Nat.reduceLeDiff, List.take_succ_cons, List.take_zero, List.drop_zero, Nat.reduceAdd]
  refine callA_pure (sign0 t d) ?_
  simp only [rA_mov, rA_nil, restA_pure, goon, val_t, updO_some, upd_app, argsE_app, List.getD_cons_succ, List.getD_nil, reduceIte, Nat.reduceEqDiff]
  refine ⟨rfl, ?_⟩
  simp only [r69_2, rA_mov, rA_bin, rA_nil, goon, condA_bool, both_some, binA_lss, val_t, updO_some, bindP_some, upd_app, argsE_app, List.getD_cons_succ, List.getD_nil, true_and, forall_const, reduceIte, false_implies, Bool.false_eq_true, Nat.reduceEqDiff, decide_false, Int.reduceLT]
  simp only [r69_4, rA_mov, rA_bin, rA_nil, goon, condA_bool, both_some, binA_gtr, val_t, updO_some, bindP_some, upd_app, argsE_app, List.getD_cons_succ, List.getD_nil, true_and, forall_const, reduceIte, false_implies, Bool.false_eq_true, Nat.reduceEqDiff, decide_false, Int.reduceLT]
  simp only [r69_6, rA_mov, rA_load, rA_fld, rA_callf, goon, ldA_ptr, ldv_f, fldA_ptr, val_t, updO_some, bindP_some, bindP_need, upd_app, argsE_app, getB_zero, List.getD_cons_zero, List.getD_cons_succ, List.getD_nil, List.map_cons, List.map_nil, List.length_cons, List.length_nil, true_and, forall_const, Option.bind_some, reduceIte, Nat.zero_add, Nat.reduceAdd, Nat.reduceEqDiff, Nat.reduceLeDiff, Nat.reduceAdd]
  refine callA_pure (trim0 c) ?_
  simp only [rA_load, rA_fld, rA_callf, restA_pure, goon, ldA_ptr, ldv_f, fldA_ptr, val_t, updO_some, bindP_some, bindP_need, upd_app, argsE_app, getB_zero, getB_succ, List.getD_cons_zero, List.getD_cons_succ, List.getD_nil, List.map_cons, List.map_nil, List.length_cons, List.length_nil, true_and, forall_const, Option.bind_some, reduceIte, Nat.zero_add, Nat.reduceAdd, Nat.reduceEqDiff, Nat.reduceLeDiff, Nat.reduceAdd]
  refine callA_pure (trim0 d) ?_
  simp only [rA_callf, restA_pure, val_t, updO_some, upd_app, argsE_app, List.getD_cons_succ, List.getD_nil, List.map_cons, List.map_nil, reduceIte, Nat.reduceEqDiff]
  refine callA_pure (cmpNat00 c d) ?_
  simp only [rA_mov, rA_bin, rA_nil, restA_pure, goon, binA_mul, val_t, updO_some, bindP_some, upd_app, argsE_app, List.getD_cons_succ, List.getD_nil, reduceIte, Nat.reduceEqDiff, Int.reduceMul, wi0]
  refine ⟨rfl, ?_⟩
  exact ⟨.inl trivial, _, rfl, .drop _ _ rfl (by intro i cs h; omega)⟩
theorem cmp_zn (s : Bool) (y : Nat) (c d : Option Nat) (hy : y ≠ 0) (hy' : y < 4294967296) : Ret Tryz.prog G 69 [.agg [.bool s, .vec [] 0 c], .agg [.bool true, .vec [.int .u32 y] 1 d]] [] (.int .i64 1) [] := by
  refine Ret_of mixed Tryz.func69 comp69 _ 28 res69 nt69 (by simp) (by simp) ?_
  simp only [c69, wpC, andThen_normal, andThen_ret, inBlk_normal, inBlk_ret, val_t, List.length_nil, reduceCtorEq]
  simp only [r69_0, rA_mov, rA_box, rA_nil, goon, val_t, val_k, updO_some, cells_agg, firm_agg, upd_app, argsE_app, List.getD_cons_zero, List.getD_cons_succ, List.length_cons, List.length_nil, List.nil_append, List.cons_append, true_and, reduceIte, Nat.zero_add, Nat.reduceEqDiff]
  simp only [r69_1, rA_load, rA_callf, ldA_ptr, ldv_t, val_t, updO_some, bindP_some, bindP_need, upd_app, argsE_app, getB_zero, List.getD_cons_succ, List.getD_nil, List.map_cons, List.map_nil, List.length_cons, List.length_nil, true_and, Option.bind_some, reduceIte, false_implies, Bool.true_eq_false, Nat.zero_add, Nat.reduceAdd, Nat.reduceEqDiff, Nat.reduceLeDiff, List.take_succ_cons, List.take_zero, List.drop_zero, Nat.reduceAdd]
  refine callA_pure (sign0 s c) ?_
  simp only [rA_load, rA_callf, restA_pure, ldA_ptr, ldv_t, val_t, updO_some, bindP_some, bindP_need, upd_app, argsE_app, getB_zero, getB_succ, List.getD_cons_succ, List.getD_nil, List.map_cons, List.map_nil, List.length_cons, List.length_nil, true_and, Option.bind_some, reduceIte, false_implies, Bool.true_eq_false, Nat.zero_add, Nat.reduceAdd, Nat.reduceEqDiff, Nat.reduceLeDiff, List.take_succ_cons, List.take_zero, List.drop_zero, Nat.reduceAdd]
  refine callA_pure (sign1t y d hy hy') ?_
  simp only [rA_mov, rA_nil, restA_pure, goon, val_t, updO_some, upd_app, argsE_app, List.getD_cons_succ, List.getD_nil, reduceIte, Nat.reduceEqDiff, Int.reduceNeg]
  refine ⟨rfl, ?_⟩
  simp only [r69_2, rA_mov, rA_bin, rA_nil, goon, condA_bool, both_some, binA_lss, val_t, updO_some, bindP_some, upd_app, argsE_app, List.getD_cons_succ, List.getD_nil, true_and, forall_const, reduceIte, false_implies, Bool.false_eq_true, Nat.reduceEqDiff, decide_false, Int.reduceLT, Int.reduceNeg]
  simp only [r69_4, rA_mov, rA_bin, rA_nil, goon, condA_bool, both_some, binA_gtr, val_t, updO_some, bindP_some, upd_app, argsE_app, List.getD_cons_succ, List.getD_nil, and_true, forall_const, reduceIte, false_implies, Bool.true_eq_false, Nat.reduceEqDiff, decide_true, Int.reduceLT, Int.reduceNeg]
  simp only [r69_5, rA_mov, rA_nil, goon, val_k, updO_some]
  exact ⟨.inl trivial, _, rfl, .drop _ _ rfl (by intro i cs h; omega)⟩
theorem cmp_zp (s : Bool) (y : Nat) (c d : Option Nat) (hy : y ≠ 0) (hy' : y < 4294967296) : Ret Tryz.prog G 69 [.agg [.bool s, .vec [] 0 c], .agg [.bool false, .vec [.int .u32 y] 1 d]] [] (.int .i64 (-1)) [] := by
  refine Ret_of mixed Tryz.func69 comp69 _ 28 res69 nt69 (by simp) (by simp) ?_
  simp only [c69, wpC, andThen_normal, andThen_ret, inBlk_normal, inBlk_ret, val_t, List.length_nil, reduceCtorEq]
  simp only [r69_0, rA_mov, rA_box, rA_nil, goon, val_t, val_k, updO_some, cells_agg, firm_agg, upd_app, argsE_app, List.getD_cons_zero, List.getD_cons_succ, List.length_cons, List.length_nil, List.nil_append, List.cons_append, true_and, reduceIte, Nat.zero_add, Nat.reduceEqDiff]
  simp only [r69_1, rA_load, rA_callf, ldA_ptr, ldv_t, val_t, updO_some, bindP_some, bindP_need, upd_app, argsE_app, getB_zero, List.getD_cons_succ, List.getD_nil, List.map_cons, List.map_nil, List.length_cons, List.length_nil, true_and, Option.bind_some, reduceIte, false_implies, Bool.true_eq_false, Nat.zero_add, Nat.reduceAdd, Nat.reduceEqDiff, Nat.reduceLeDiff, List.take_succ_cons, List.take_zero, List.drop_zero, Int.reduceNeg, Nat.reduceAdd]
  refine callA_pure (sign0 s c) ?_
  simp only [rA_load, rA_callf, restA_pure, ldA_ptr, ldv_t, val_t, updO_some, bindP_some, bindP_need, upd_app, argsE_app, getB_zero, getB_succ, List.getD_cons_succ, List.getD_nil, List.map_cons, List.map_nil, List.length_cons, List.length_nil, true_and, Option.bind_some, reduceIte, false_implies, Bool.true_eq_false, Nat.zero_add, Nat.reduceAdd, Nat.reduceEqDiff, Nat.reduceLeDiff, List.take_succ_cons, List.take_zero, List.drop_zero, Int.reduceNeg, Nat.reduceAdd]
  refine callA_pure (sign1f y d hy hy') ?_
  simp only [rA_mov, rA_nil, restA_pure, goon, val_t, updO_some, upd_app, argsE_app, List.getD_cons_succ, List.getD_nil, reduceIte, Nat.reduceEqDiff, Int.reduceNeg]
  refine ⟨rfl, ?_⟩
  simp only [r69_2, rA_mov, rA_bin, rA_nil, goon, condA_bool, both_some, binA_lss, val_t, updO_some, bindP_some, upd_app, argsE_app, List.getD_cons_succ, List.getD_nil, and_true, forall_const, reduceIte, false_implies, Bool.true_eq_false, Nat.reduceEqDiff, decide_true, Int.reduceNeg, lt01]
  simp only [r69_3, rA_mov, rA_nil, goon, val_k, updO_some]
  exact ⟨.inl trivial, _, rfl, .drop _ _ rfl (by intro i cs h; omega)⟩
theorem cmp_nz (t : Bool) (x : Nat) (c d : Option Nat) (hx : x ≠ 0) (hx' : x < 4294967296) : Ret Tryz.prog G 69 [.agg [.bool true, .vec [.int .u32 x] 1 c], .agg [.bool t, .vec [] 0 d]] [] (.int .i64 (-1)) [] := by
  refine Ret_of mixed Tryz.func69 comp69 _ 28 res69 nt69 (by simp) (by simp) ?_
  simp only [c69, wpC, andThen_normal, andThen_ret, inBlk_normal, inBlk_ret, val_t, List.length_nil, reduceCtorEq]
  simp only [r69_0, rA_mov, rA_box, rA_nil, goon, val_t, val_k, updO_some, cells_agg, firm_agg, upd_app, argsE_app, List.getD_cons_zero, List.getD_cons_succ, List.length_cons, List.length_nil, List.nil_append, List.cons_append, true_and, reduceIte, Nat.zero_add, Nat.reduceEqDiff]
  simp only [r69_1, rA_load, rA_callf, ldA_ptr, ldv_t, val_t, updO_some, bindP_some, bindP_need, upd_app, argsE_app, getB_zero, List.getD_cons_succ, List.getD_nil, List.map_cons, List.map_nil, List.length_cons, List.length_nil, true_and, Option.bind_some, reduceIte, false_implies, Bool.true_eq_false, Nat.zero_add, Nat.reduceAdd, Nat.reduceEqDiff, Nat.reduceLeDiff, List.take_succ_cons, List.take_zero, List.drop_zero, Int.reduceNeg, Nat.reduceAdd]
  refine callA_pure (sign1t x c hx hx') ?_
  simp only [rA_load, rA_callf, restA_pure, ldA_ptr, ldv_t, val_t, updO_some, bindP_some, bindP_need, upd_app, argsE_app, getB_zero, getB_succ, List.getD_cons_succ, List.getD_nil, List.map_cons, List.map_nil, List.length_cons, List.length_nil, true_and, Option.bind_some, reduceIte, false_implies, Bool.true_eq_false, Nat.zero_add, Nat.reduceAdd, Nat.reduceEqDiff, Nat.reduceLeDiff, List.take_succ_cons, List.take_zero, List.drop_zero, Int.reduceNeg, Nat.reduceAdd]
  refine callA_pure (sign0 t d) ?_
  simp only [rA_mov, rA_nil, restA_pure, goon, val_t, updO_some, upd_app, argsE_app, List.getD_cons_succ, List.getD_nil, reduceIte, Nat.reduceEqDiff, Int.reduceNeg]
  refine ⟨rfl, ?_⟩
  simp only [r69_2, rA_mov, rA_bin, rA_nil, goon, condA_bool, both_some, binA_lss, val_t, updO_some, bindP_some, upd_app, argsE_app, List.getD_cons_succ, List.getD_nil, and_true, forall_const, reduceIte, false_implies, Bool.true_eq_false, Nat.reduceEqDiff, decide_true, Int.reduceLT, Int.reduceNeg]
  simp only [r69_3, rA_mov, rA_nil, goon, val_k, updO_some]
  exact ⟨.inl trivial, _, rfl, .drop _ _ rfl (by intro i cs h; omega)⟩
theorem cmp_nnl (x : Nat) (y : Nat) (c d : Option Nat) (hx : x ≠ 0) (hx' : x < 4294967296) (hy : y ≠ 0) (hy' : y < 4294967296) (hxy : x < y) : Ret Tryz.prog G 69 [.agg [.bool true, .vec [.int .u32 x] 1 c], .agg [.bool true, .vec [.int .u32 y] 1 d]] [] (.int .i64 1) [] := by
  have q1 : decide ((x : Int) < (y : Int)) = true := by simp; omega
  refine Ret_of mixed Tryz.func69 comp69 _ 28 res69 nt69 (by simp) (by simp) ?_
  simp only [c69, wpC, andThen_normal, andThen_ret, inBlk_normal, inBlk_ret, val_t, List.length_nil, reduceCtorEq]
  simp only [r69_0, rA_mov, rA_box, rA_nil, goon, val_t, val_k, updO_some, cells_agg, firm_agg, upd_app, argsE_app, List.getD_cons_zero, List.getD_cons_succ, List.length_cons, List.length_nil, List.nil_append, List.cons_append, true_and, reduceIte, Nat.zero_add, Nat.reduceEqDiff]
  simp only [r69_1, rA_load, rA_callf, ldA_ptr, ldv_t, val_t, updO_some, bindP_some, bindP_need, upd_app, argsE_app, getB_zero, List.getD_cons_succ, List.getD_nil, List.map_cons, List.map_nil, List.length_cons, List.length_nil, true_and, Option.bind_some, reduceIte, false_implies, Bool.true_eq_false, Nat.zero_add, Nat.reduceAdd, Nat.reduceEqDiff, Nat.reduceLeDiff, List.take_succ_cons, List.take_zero, List.drop_zero, Nat.reduceAdd]
  refine callA_pure (sign1t x c hx hx') ?_
  simp only [rA_load, rA_callf, restA_pure, ldA_ptr, ldv_t, val_t, updO_some, bindP_some, bindP_need, upd_app, argsE_app, getB_zero, getB_succ, List.getD_cons_succ, List.getD_nil, List.map_cons, List.map_nil, List.length_cons, List.length_nil, true_and, Option.bind_some, reduceIte, false_implies, Bool.true_eq_false, Nat.zero_add, Nat.reduceAdd, Nat.reduceEqDiff, Nat.reduceLeDiff, List.take_succ_cons, List.take_zero, List.drop_zero, Int.reduceNeg, Nat.reduceAdd]
  refine callA_pure (sign1t y d hy hy') ?_
  simp only [rA_mov, rA_nil, restA_pure, goon, val_t, updO_some, upd_app, argsE_app, List.getD_cons_succ, List.getD_nil, reduceIte, Nat.reduceEqDiff, Int.reduceNeg]
  refine ⟨rfl, ?_⟩
  simp only [r69_2, rA_mov, rA_bin, rA_nil, goon, condA_bool, both_some, binA_lss, val_t, updO_some, bindP_some, upd_app, argsE_app, List.getD_cons_succ, List.getD_nil, true_and, forall_const, reduceIte, false_implies, Bool.false_eq_true, Nat.reduceEqDiff, decide_false, Int.reduceLT, Int.reduceNeg]
  simp only [r69_4, rA_mov, rA_bin, rA_nil, goon, condA_bool, both_some, binA_gtr, val_t, updO_some, bindP_some, upd_app, argsE_app, List.getD_cons_succ, List.getD_nil, true_and, forall_const, reduceIte, false_implies, Bool.false_eq_true, Nat.reduceEqDiff, decide_false, Int.reduceLT, Int.reduceNeg]
  simp only [r69_6, rA_mov, rA_load, rA_fld, rA_callf, goon, ldA_ptr, ldv_f, fldA_ptr, val_t, updO_some, bindP_some, bindP_need, upd_app, argsE_app, getB_zero, List.getD_cons_zero, List.getD_cons_succ, List.getD_nil, List.map_cons, List.map_nil, List.length_cons, List.length_nil, true_and, forall_const, Option.bind_some, reduceIte, Nat.zero_add, Nat.reduceAdd, Nat.reduceEqDiff, Nat.reduceLeDiff, Int.reduceNeg, Nat.reduceAdd]
  refine callA_pure (trim1 x c hx) ?_
  simp only [rA_load, rA_fld, rA_callf, restA_pure, goon, ldA_ptr, ldv_f, fldA_ptr, val_t, updO_some, bindP_some, bindP_need, upd_app, argsE_app, getB_zero, getB_succ, List.getD_cons_zero, List.getD_cons_succ, List.getD_nil, List.map_cons, List.map_nil, List.length_cons, List.length_nil, true_and, forall_const, Option.bind_some, reduceIte, Nat.zero_add, Nat.reduceAdd, Nat.reduceEqDiff, Nat.reduceLeDiff, Int.reduceNeg, Nat.reduceAdd]
  refine callA_pure (trim1 y d hy) ?_
  simp only [rA_callf, restA_pure, val_t, updO_some, upd_app, argsE_app, List.getD_cons_succ, List.getD_nil, List.map_cons, List.map_nil, reduceIte, Nat.reduceEqDiff, Int.reduceNeg]
  refine callA_pure (cmpNatlt x y c d q1) ?_
  simp only [rA_mov, rA_bin, rA_nil, restA_pure, goon, binA_mul, val_t, updO_some, bindP_some, upd_app, argsE_app, List.getD_cons_succ, List.getD_nil, reduceIte, Nat.reduceEqDiff, Int.reduceMul, Int.reduceNeg, wi1]
  refine ⟨rfl, ?_⟩
  exact ⟨.inl trivial, _, rfl, .drop _ _ rfl (by intro i cs h; omega)⟩
theorem cmp_nng (x : Nat) (y : Nat) (c d : Option Nat) (hx : x ≠ 0) (hx' : x < 4294967296) (hy : y ≠ 0) (hy' : y < 4294967296) (hxy : y < x) : Ret Tryz.prog G 69 [.agg [.bool true, .vec [.int .u32 x] 1 c], .agg [.bool true, .vec [.int .u32 y] 1 d]] [] (.int .i64 (-1)) [] := by
  have q1 : decide ((x : Int) < (y : Int)) = false := by simp; omega
  have q2 : decide ((y : Int) < (x : Int)) = true := by simp; omega
  refine Ret_of mixed Tryz.func69 comp69 _ 28 res69 nt69 (by simp) (by simp) ?_
  simp only [c69, wpC, andThen_normal, andThen_ret, inBlk_normal, inBlk_ret, val_t, List.length_nil, reduceCtorEq]
  simp only [r69_0, rA_mov, rA_box, rA_nil, goon, val_t, val_k, updO_some, cells_agg, firm_agg, upd_app, argsE_app, List.getD_cons_zero, List.getD_cons_succ, List.length_cons, List.length_nil, List.nil_append, List.cons_append, true_and, reduceIte, Nat.zero_add, Nat.reduceEqDiff]
  simp only [r69_1, rA_load, rA_callf, ldA_ptr, ldv_t, val_t, updO_some, bindP_some, bindP_need, upd_app, argsE_app, getB_zero, List.getD_cons_succ, List.getD_nil, List.map_cons, List.map_nil, List.length_cons, List.length_nil, true_and, Option.bind_some, reduceIte, false_implies, Bool.true_eq_false, Nat.zero_add, Nat.reduceAdd, Nat.reduceEqDiff, Nat.reduceLeDiff, List.take_succ_cons, List.take_zero, List.drop_zero, Int.reduceNeg, Nat.reduceAdd]
  refine callA_pure (sign1t x c hx hx') ?_
  simp only [rA_load, rA_callf, restA_pure, ldA_ptr, ldv_t, val_t, updO_some, bindP_some, bindP_need, upd_app, argsE_app, getB_zero, getB_succ, List.getD_cons_succ, List.getD_nil, List.map_cons, List.map_nil, List.length_cons, List.length_nil, true_and, Option.bind_some, reduceIte, false_implies, Bool.true_eq_false, Nat.zero_add, Nat.reduceAdd, Nat.reduceEqDiff, Nat.reduceLeDiff, List.take_succ_cons, List.take_zero, List.drop_zero, Int.reduceNeg, Nat.reduceAdd]
  refine callA_pure (sign1t y d hy hy') ?_
  simp only [rA_mov, rA_nil, restA_pure, goon, val_t, updO_some, upd_app, argsE_app, List.getD_cons_succ, List.getD_nil, reduceIte, Nat.reduceEqDiff, Int.reduceNeg]
  refine ⟨rfl, ?_⟩
  simp only [r69_2, rA_mov, rA_bin, rA_nil, goon, condA_bool, both_some, binA_lss, val_t, updO_some, bindP_some, upd_app, argsE_app, List.getD_cons_succ, List.getD_nil, true_and, forall_const, reduceIte, false_implies, Bool.false_eq_true, Nat.reduceEqDiff, decide_false, Int.reduceLT, Int.reduceNeg]
  simp only [r69_4, rA_mov, rA_bin, rA_nil, goon, condA_bool, both_some, binA_gtr, val_t, updO_some, bindP_some, upd_app, argsE_app, List.getD_cons_succ, List.getD_nil, true_and, forall_const, reduceIte, false_implies, Bool.false_eq_true, Nat.reduceEqDiff, decide_false, Int.reduceLT, Int.reduceNeg]
  simp only [r69_6, rA_mov, rA_load, rA_fld, rA_callf, goon, ldA_ptr, ldv_f, fldA_ptr, val_t, updO_some, bindP_some, bindP_need, upd_app, argsE_app, getB_zero, List.getD_cons_zero, List.getD_cons_succ, List.getD_nil, List.map_cons, List.map_nil, List.length_cons, List.length_nil, true_and, forall_const, Option.bind_some, reduceIte, Nat.zero_add, Nat.reduceAdd, Nat.reduceEqDiff, Nat.reduceLeDiff, Int.reduceNeg, Nat.reduceAdd]
  refine callA_pure (trim1 x c hx) ?_
  simp only [rA_load, rA_fld, rA_callf, restA_pure, goon, ldA_ptr, ldv_f, fldA_ptr, val_t, updO_some, bindP_some, bindP_need, upd_app, argsE_app, getB_zero, getB_succ, List.getD_cons_zero, List.getD_cons_succ, List.getD_nil, List.map_cons, List.map_nil, List.length_cons, List.length_nil, true_and, forall_const, Option.bind_some, reduceIte, Nat.zero_add, Nat.reduceAdd, Nat.reduceEqDiff, Nat.reduceLeDiff, Int.reduceNeg, Nat.reduceAdd]
  refine callA_pure (trim1 y d hy) ?_
  simp only [rA_callf, restA_pure, val_t, updO_some, upd_app, argsE_app, List.getD_cons_succ, List.getD_nil, List.map_cons, List.map_nil, reduceIte, Nat.reduceEqDiff, Int.reduceNeg]
  refine callA_pure (cmpNatgt x y c d q1 q2) ?_
  simp only [rA_mov, rA_bin, rA_nil, restA_pure, goon, binA_mul, val_t, updO_some, bindP_some, upd_app, argsE_app, List.getD_cons_succ, List.getD_nil, reduceIte, Nat.reduceEqDiff, Int.reduceMul, Int.reduceNeg, wim1]
  refine ⟨rfl, ?_⟩
  exact ⟨.inl trivial, _, rfl, .drop _ _ rfl (by intro i cs h; omega)⟩
theorem cmp_nne (x : Nat) (y : Nat) (c d : Option Nat) (hx : x ≠ 0) (hx' : x < 4294967296) (hy : y ≠ 0) (hy' : y < 4294967296) (hxy : x = y) : Ret Tryz.prog G 69 [.agg [.bool true, .vec [.int .u32 x] 1 c], .agg [.bool true, .vec [.int .u32 y] 1 d]] [] (.int .i64 0) [] := by
  subst hxy
  have q1 : decide ((x : Int) < (x : Int)) = false := by simp
  refine Ret_of mixed Tryz.func69 comp69 _ 28 res69 nt69 (by simp) (by simp) ?_
  simp only [c69, wpC, andThen_normal, andThen_ret, inBlk_normal, inBlk_ret, val_t, List.length_nil, reduceCtorEq]
  simp only [r69_0, rA_mov, rA_box, rA_nil, goon, val_t, val_k, updO_some, cells_agg, firm_agg, upd_app, argsE_app, List.getD_cons_zero, List.getD_cons_succ, List.length_cons, List.length_nil, List.nil_append, List.cons_append, true_and, reduceIte, Nat.zero_add, Nat.reduceEqDiff]
  simp only [r69_1, rA_load, rA_callf, ldA_ptr, ldv_t, val_t, updO_some, bindP_some, bindP_need, upd_app, argsE_app, getB_zero, List.getD_cons_succ, List.getD_nil, List.map_cons, List.map_nil, List.length_cons, List.length_nil, true_and, Option.bind_some, reduceIte, false_implies, Bool.true_eq_false, Nat.zero_add, Nat.reduceAdd, Nat.reduceEqDiff, Nat.reduceLeDiff, List.take_succ_cons, List.take_zero, List.drop_zero, Nat.reduceAdd]
  refine callA_pure (sign1t x c hx hx') ?_
  simp only [rA_load, rA_callf, restA_pure, ldA_ptr, ldv_t, val_t, updO_some, bindP_some, bindP_need, upd_app, argsE_app, getB_zero, getB_succ, List.getD_cons_succ, List.getD_nil, List.map_cons, List.map_nil, List.length_cons, List.length_nil, true_and, Option.bind_some, reduceIte, false_implies, Bool.true_eq_false, Nat.zero_add, Nat.reduceAdd, Nat.reduceEqDiff, Nat.reduceLeDiff, List.take_succ_cons, List.take_zero, List.drop_zero, Int.reduceNeg, Nat.reduceAdd]
  refine callA_pure (sign1t x d hx hx') ?_
  simp only [rA_mov, rA_nil, restA_pure, goon, val_t, updO_some, upd_app, argsE_app, List.getD_cons_succ, List.getD_nil, reduceIte, Nat.reduceEqDiff, Int.reduceNeg]
  refine ⟨rfl, ?_⟩
  simp only [r69_2, rA_mov, rA_bin, rA_nil, goon, condA_bool, both_some, binA_lss, val_t, updO_some, bindP_some, upd_app, argsE_app, List.getD_cons_succ, List.getD_nil, true_and, forall_const, reduceIte, false_implies, Bool.false_eq_true, Nat.reduceEqDiff, decide_false, Int.reduceLT, Int.reduceNeg]
  simp only [r69_4, rA_mov, rA_bin, rA_nil, goon, condA_bool, both_some, binA_gtr, val_t, updO_some, bindP_some, upd_app, argsE_app, List.getD_cons_succ, List.getD_nil, true_and, forall_const, reduceIte, false_implies, Bool.false_eq_true, Nat.reduceEqDiff, decide_false, Int.reduceLT, Int.reduceNeg]
  simp only [r69_6, rA_mov, rA_load, rA_fld, rA_callf, goon, ldA_ptr, ldv_f, fldA_ptr, val_t, updO_some, bindP_some, bindP_need, upd_app, argsE_app, getB_zero, List.getD_cons_zero, List.getD_cons_succ, List.getD_nil, List.map_cons, List.map_nil, List.length_cons, List.length_nil, true_and, forall_const, Option.bind_some, reduceIte, Nat.zero_add, Nat.reduceAdd, Nat.reduceEqDiff, Nat.reduceLeDiff, Int.reduceNeg, Nat.reduceAdd]
  refine callA_pure (trim1 x c hx) ?_
  simp only [rA_load, rA_fld, rA_callf, restA_pure, goon, ldA_ptr, ldv_f, fldA_ptr, val_t, updO_some, bindP_some, bindP_need, upd_app, argsE_app, getB_zero, getB_succ, List.getD_cons_zero, List.getD_cons_succ, List.getD_nil, List.map_cons, List.map_nil, List.length_cons, List.length_nil, true_and, forall_const, Option.bind_some, reduceIte, Nat.zero_add, Nat.reduceAdd, Nat.reduceEqDiff, Nat.reduceLeDiff, Int.reduceNeg, Nat.reduceAdd]
  refine callA_pure (trim1 x d hx) ?_
  simp only [rA_callf, restA_pure, val_t, updO_some, upd_app, argsE_app, List.getD_cons_succ, List.getD_nil, List.map_cons, List.map_nil, reduceIte, Nat.reduceEqDiff, Int.reduceNeg]
  refine callA_pure (cmpNateq x x c d q1 q1) ?_
  simp only [rA_mov, rA_bin, rA_nil, restA_pure, goon, binA_mul, val_t, updO_some, bindP_some, upd_app, argsE_app, List.getD_cons_succ, List.getD_nil, reduceIte, Nat.reduceEqDiff, Int.reduceMul, Int.reduceNeg, wi0]
  refine ⟨rfl, ?_⟩
  exact ⟨.inl trivial, _, rfl, .drop _ _ rfl (by intro i cs h; omega)⟩
theorem cmp_np (x : Nat) (y : Nat) (c d : Option Nat) (hx : x ≠ 0) (hx' : x < 4294967296) (hy : y ≠ 0) (hy' : y < 4294967296) : Ret Tryz.prog G 69 [.agg [.bool true, .vec [.int .u32 x] 1 c], .agg [.bool false, .vec [.int .u32 y] 1 d]] [] (.int .i64 (-1)) [] := by
  refine Ret_of mixed Tryz.func69 comp69 _ 28 res69 nt69 (by simp) (by simp) ?_
  simp only [c69, wpC, andThen_normal, andThen_ret, inBlk_normal, inBlk_ret, val_t, List.length_nil, reduceCtorEq]
  simp only [r69_0, rA_mov, rA_box, rA_nil, goon, val_t, val_k, updO_some, cells_agg, firm_agg, upd_app, argsE_app, List.getD_cons_zero, List.getD_cons_succ, List.length_cons, List.length_nil, List.nil_append, List.cons_append, true_and, reduceIte, Nat.zero_add, Nat.reduceEqDiff]
  simp only [r69_1, rA_load, rA_callf, ldA_ptr, ldv_t, val_t, updO_some, bindP_some, bindP_need, upd_app, argsE_app, getB_zero, List.getD_cons_succ, List.getD_nil, List.map_cons, List.map_nil, List.length_cons, List.length_nil, true_and, Option.bind_some, reduceIte, false_implies, Bool.true_eq_false, Nat.zero_add, Nat.reduceAdd, Nat.reduceEqDiff, Nat.reduceLeDiff, List.take_succ_cons, List.take_zero, List.drop_zero, Int.reduceNeg, Nat.reduceAdd]
  refine callA_pure (sign1t x c hx hx') ?_
  simp only [rA_load, rA_callf, restA_pure, ldA_ptr, ldv_t, val_t, updO_some, bindP_some, bindP_need, upd_app, argsE_app, getB_zero, getB_succ, List.getD_cons_succ, List.getD_nil, List.map_cons, List.map_nil, List.length_cons, List.length_nil, true_and, Option.bind_some, reduceIte, false_implies, Bool.true_eq_false, Nat.zero_add, Nat.reduceAdd, Nat.reduceEqDiff, Nat.reduceLeDiff, List.take_succ_cons, List.take_zero, List.drop_zero, Int.reduceNeg, Nat.reduceAdd]
  refine callA_pure (sign1f y d hy hy') ?_
  simp only [rA_mov, rA_nil, restA_pure, goon, val_t, updO_some, upd_app, argsE_app, List.getD_cons_succ, List.getD_nil, reduceIte, Nat.reduceEqDiff, Int.reduceNeg]
  refine ⟨rfl, ?_⟩
  simp only [r69_2, rA_mov, rA_bin, rA_nil, goon, condA_bool, both_some, binA_lss, val_t, updO_some, bindP_some, upd_app, argsE_app, List.getD_cons_succ, List.getD_nil, and_true, forall_const, reduceIte, false_implies, Bool.true_eq_false, Nat.reduceEqDiff, decide_true, Int.reduceLT, Int.reduceNeg]
  simp only [r69_3, rA_mov, rA_nil, goon, val_k, updO_some]
  exact ⟨.inl trivial, _, rfl, .drop _ _ rfl (by intro i cs h; omega)⟩
theorem cmp_pz (t : Bool) (x : Nat) (c d : Option Nat) (hx : x ≠ 0) (hx' : x < 4294967296) : Ret Tryz.prog G 69 [.agg [.bool false, .vec [.int .u32 x] 1 c], .agg [.bool t, .vec [] 0 d]] [] (.int .i64 1) [] := by
  refine Ret_of mixed Tryz.func69 comp69 _ 28 res69 nt69 (by simp) (by simp) ?_
  simp only [c69, wpC, andThen_normal, andThen_ret, inBlk_normal, inBlk_ret, val_t, List.length_nil, reduceCtorEq]
  simp only [r69_0, rA_mov, rA_box, rA_nil, goon, val_t, val_k, updO_some, cells_agg, firm_agg, upd_app, argsE_app, List.getD_cons_zero, List.getD_cons_succ, List.length_cons, List.length_nil, List.nil_append, List.cons_append, true_and, reduceIte, Nat.zero_add, Nat.reduceEqDiff]
  simp only [r69_1, rA_load, rA_callf, ldA_ptr, ldv_t, val_t, updO_some, bindP_some, bindP_need, upd_app, argsE_app, getB_zero, List.getD_cons_succ, List.getD_nil, List.map_cons, List.map_nil, List.length_cons, List.length_nil, true_and, Option.bind_some, reduceIte, false_implies, Bool.true_eq_false, Nat.zero_add, Nat.reduceAdd, Nat.reduceEqDiff, Nat.reduceLeDiff, List.take_succ_cons, List.take_zero, List.drop_zero, Nat.reduceAdd]
  refine callA_pure (sign1f x c hx hx') ?_
  simp only [rA_load, rA_callf, restA_pure, ldA_ptr, ldv_t, val_t, updO_some, bindP_some, bindP_need, upd_app, argsE_app, getB_zero, getB_succ, List.getD_cons_succ, List.getD_nil, List.map_cons, List.map_nil, List.length_cons, List.length_nil, true_and, Option.bind_some, reduceIte, false_implies, Bool.true_eq_false, Nat.zero_add, Nat.reduceAdd, Nat.reduceEqDiff, Nat.reduceLeDiff, List.take_succ_cons, List.take_zero, List.drop_zero, Nat.reduceAdd]
  refine callA_pure (sign0 t d) ?_
  simp only [rA_mov, rA_nil, restA_pure, goon, val_t, updO_some, upd_app, argsE_app, List.getD_cons_succ, List.getD_nil, reduceIte, Nat.reduceEqDiff]
  refine ⟨rfl, ?_⟩
  simp only [r69_2, rA_mov, rA_bin, rA_nil, goon, condA_bool, both_some, binA_lss, val_t, updO_some, bindP_some, upd_app, argsE_app, List.getD_cons_succ, List.getD_nil, true_and, forall_const, reduceIte, false_implies, Bool.false_eq_true, Nat.reduceEqDiff, decide_false, Int.reduceLT]
  simp only [r69_4, rA_mov, rA_bin, rA_nil, goon, condA_bool, both_some, binA_gtr, val_t, updO_some, bindP_some, upd_app, argsE_app, List.getD_cons_succ, List.getD_nil, and_true, forall_const, reduceIte, false_implies, Bool.true_eq_false, Nat.reduceEqDiff, decide_true, lt01]
  simp only [r69_5, rA_mov, rA_nil, goon, val_k, updO_some]
  exact ⟨.inl trivial, _, rfl, .drop _ _ rfl (by intro i cs h; omega)⟩
theorem cmp_pn (x : Nat) (y : Nat) (c d : Option Nat) (hx : x ≠ 0) (hx' : x < 4294967296) (hy : y ≠ 0) (hy' : y < 4294967296) : Ret Tryz.prog G 69 [.agg [.bool false, .vec [.int .u32 x] 1 c], .agg [.bool true, .vec [.int .u32 y] 1 d]] [] (.int .i64 1) [] := by
  refine Ret_of mixed Tryz.func69 comp69 _ 28 res69 nt69 (by simp) (by simp) ?_
  simp only [c69, wpC, andThen_normal, andThen_ret, inBlk_normal, inBlk_ret, val_t, List.length_nil, reduceCtorEq]
  simp only [r69_0, rA_mov, rA_box, rA_nil, goon, val_t, val_k, updO_some, cells_agg, firm_agg, upd_app, argsE_app, List.getD_cons_zero, List.getD_cons_succ, List.length_cons, List.length_nil, List.nil_append, List.cons_append, true_and, reduceIte, Nat.zero_add, Nat.reduceEqDiff]
  simp only [r69_1, rA_load, rA_callf, ldA_ptr, ldv_t, val_t, updO_some, bindP_some, bindP_need, upd_app, argsE_app, getB_zero, List.getD_cons_succ, List.getD_nil, List.map_cons, List.map_nil, List.length_cons, List.length_nil, true_and, Option.bind_some, reduceIte, false_implies, Bool.true_eq_false, Nat.zero_add, Nat.reduceAdd, Nat.reduceEqDiff, Nat.reduceLeDiff, List.take_succ_cons, List.take_zero, List.drop_zero, Nat.reduceAdd]
  refine callA_pure (sign1f x c hx hx') ?_
  simp only [rA_load, rA_callf, restA_pure, ldA_ptr, ldv_t, val_t, updO_some, bindP_some, bindP_need, upd_app, argsE_app, getB_zero, getB_succ, List.getD_cons_succ, List.getD_nil, List.map_cons, List.map_nil, List.length_cons, List.length_nil, true_and, Option.bind_some, reduceIte, false_implies, Bool.true_eq_false, Nat.zero_add, Nat.reduceAdd, Nat.reduceEqDiff, Nat.reduceLeDiff, List.take_succ_cons, List.take_zero, List.drop_zero, Nat.reduceAdd]
  refine callA_pure (sign1t y d hy hy') ?_
  simp only [rA_mov, rA_nil, restA_pure, goon, val_t, updO_some, upd_app, argsE_app, List.getD_cons_succ, List.getD_nil, reduceIte, Nat.reduceEqDiff, Int.reduceNeg]
  refine ⟨rfl, ?_⟩
  simp only [r69_2, rA_mov, rA_bin, rA_nil, goon, condA_bool, both_some, binA_lss, val_t, updO_some, bindP_some, upd_app, argsE_app, List.getD_cons_succ, List.getD_nil, true_and, forall_const, reduceIte, false_implies, Bool.false_eq_true, Nat.reduceEqDiff, decide_false, Int.reduceLT, Int.reduceNeg]
  simp only [r69_4, rA_mov, rA_bin, rA_nil, goon, condA_bool, both_some, binA_gtr, val_t, updO_some, bindP_some, upd_app, argsE_app, List.getD_cons_succ, List.getD_nil, and_true, forall_const, reduceIte, false_implies, Bool.true_eq_false, Nat.reduceEqDiff, decide_true, Int.reduceLT, Int.reduceNeg]
  simp only [r69_5, rA_mov, rA_nil, goon, val_k, updO_some]
  exact ⟨.inl trivial, _, rfl, .drop _ _ rfl (by intro i cs h; omega)⟩
theorem cmp_ppl (x : Nat) (y : Nat) (c d : Option Nat) (hx : x ≠ 0) (hx' : x < 4294967296) (hy : y ≠ 0) (hy' : y < 4294967296) (hxy : x < y) : Ret Tryz.prog G 69 [.agg [.bool false, .vec [.int .u32 x] 1 c], .agg [.bool false, .vec [.int .u32 y] 1 d]] [] (.int .i64 (-1)) [] := by
  have q1 : decide ((x : Int) < (y : Int)) = true := by simp; omega
  refine Ret_of mixed Tryz.func69 comp69 _ 28 res69 nt69 (by simp) (by simp) ?_
  simp only [c69, wpC, andThen_normal, andThen_ret, inBlk_normal, inBlk_ret, val_t, List.length_nil, reduceCtorEq]
  simp only [r69_0, rA_mov, rA_box, rA_nil, goon, val_t, val_k, updO_some, cells_agg, firm_agg, upd_app, argsE_app, List.getD_cons_zero, List.getD_cons_succ, List.length_cons, List.length_nil, List.nil_append, List.cons_append, true_and, reduceIte, Nat.zero_add, Nat.reduceEqDiff]
  simp only [r69_1, rA_load, rA_callf, ldA_ptr, ldv_t, val_t, updO_some, bindP_some, bindP_need, upd_app, argsE_app, getB_zero, List.getD_cons_succ, List.getD_nil, List.map_cons, List.map_nil, List.length_cons, List.length_nil, true_and, Option.bind_some, reduceIte, false_implies, Bool.true_eq_false, Nat.zero_add, Nat.reduceAdd, Nat.reduceEqDiff, Nat.reduceLeDiff, List.take_succ_cons, List.take_zero, List.drop_zero, Int.reduceNeg, Nat.reduceAdd]
  refine callA_pure (sign1f x c hx hx') ?_
  simp only [rA_load, rA_callf, restA_pure, ldA_ptr, ldv_t, val_t, updO_some, bindP_some, bindP_need, upd_app, argsE_app, getB_zero, getB_succ, List.getD_cons_succ, List.getD_nil, List.map_cons, List.map_nil, List.length_cons, List.length_nil, true_and, Option.bind_some, reduceIte, false_implies, Bool.true_eq_false, Nat.zero_add, Nat.reduceAdd, Nat.reduceEqDiff, Nat.reduceLeDiff, List.take_succ_cons, List.take_zero, List.drop_zero, Int.reduceNeg, Nat.reduceAdd]
  refine callA_pure (sign1f y d hy hy') ?_
  simp only [rA_mov, rA_nil, restA_pure, goon, val_t, updO_some, upd_app, argsE_app, List.getD_cons_succ, List.getD_nil, reduceIte, Nat.reduceEqDiff, Int.reduceNeg]
  refine ⟨rfl, ?_⟩
  simp only [r69_2, rA_mov, rA_bin, rA_nil, goon, condA_bool, both_some, binA_lss, val_t, updO_some, bindP_some, upd_app, argsE_app, List.getD_cons_succ, List.getD_nil, true_and, forall_const, reduceIte, false_implies, Bool.false_eq_true, Nat.reduceEqDiff, decide_false, Int.reduceLT, Int.reduceNeg]
  simp only [r69_4, rA_mov, rA_bin, rA_nil, goon, condA_bool, both_some, binA_gtr, val_t, updO_some, bindP_some, upd_app, argsE_app, List.getD_cons_succ, List.getD_nil, true_and, forall_const, reduceIte, false_implies, Bool.false_eq_true, Nat.reduceEqDiff, decide_false, Int.reduceLT, Int.reduceNeg]
  simp only [r69_6, rA_mov, rA_load, rA_fld, rA_callf, goon, ldA_ptr, ldv_f, fldA_ptr, val_t, updO_some, bindP_some, bindP_need, upd_app, argsE_app, getB_zero, List.getD_cons_zero, List.getD_cons_succ, List.getD_nil, List.map_cons, List.map_nil, List.length_cons, List.length_nil, true_and, forall_const, Option.bind_some, reduceIte, Nat.zero_add, Nat.reduceAdd, Nat.reduceEqDiff, Nat.reduceLeDiff, Int.reduceNeg, Nat.reduceAdd]
  refine callA_pure (trim1 x c hx) ?_
  simp only [rA_load, rA_fld, rA_callf, restA_pure, goon, ldA_ptr, ldv_f, fldA_ptr, val_t, updO_some, bindP_some, bindP_need, upd_app, argsE_app, getB_zero, getB_succ, List.getD_cons_zero, List.getD_cons_succ, List.getD_nil, List.map_cons, List.map_nil, List.length_cons, List.length_nil, true_and, forall_const, Option.bind_some, reduceIte, Nat.zero_add, Nat.reduceAdd, Nat.reduceEqDiff, Nat.reduceLeDiff, Int.reduceNeg, Nat.reduceAdd]
  refine callA_pure (trim1 y d hy) ?_
  simp only [rA_callf, restA_pure, val_t, updO_some, upd_app, argsE_app, List.getD_cons_succ, List.getD_nil, List.map_cons, List.map_nil, reduceIte, Nat.reduceEqDiff, Int.reduceNeg]
  refine callA_pure (cmpNatlt x y c d q1) ?_
  simp only [rA_mov, rA_bin, rA_nil, restA_pure, goon, binA_mul, val_t, updO_some, bindP_some, upd_app, argsE_app, List.getD_cons_succ, List.getD_nil, reduceIte, Nat.reduceEqDiff, Int.reduceMul, Int.reduceNeg, wim1]
  refine ⟨rfl, ?_⟩
  exact ⟨.inl trivial, _, rfl, .drop _ _ rfl (by intro i cs h; omega)⟩
theorem cmp_ppg (x : Nat) (y : Nat) (c d : Option Nat) (hx : x ≠ 0) (hx' : x < 4294967296) (hy : y ≠ 0) (hy' : y < 4294967296) (hxy : y < x) : Ret Tryz.prog G 69 [.agg [.bool false, .vec [.int .u32 x] 1 c], .agg [.bool false, .vec [.int .u32 y] 1 d]] [] (.int .i64 1) [] := by
  have q1 : decide ((x : Int) < (y : Int)) = false := by simp; omega
  have q2 : decide ((y : Int) < (x : Int)) = true := by simp; omega
  refine Ret_of mixed Tryz.func69 comp69 _ 28 res69 nt69 (by simp) (by simp) ?_
  simp only [c69, wpC, andThen_normal, andThen_ret, inBlk_normal, inBlk_ret, val_t, List.length_nil, reduceCtorEq]
  simp only [r69_0, rA_mov, rA_box, rA_nil, goon, val_t, val_k, updO_some, cells_agg, firm_agg, upd_app, argsE_app, List.getD_cons_zero, List.getD_cons_succ, List.length_cons, List.length_nil, List.nil_append, List.cons_append, true_and, reduceIte, Nat.zero_add, Nat.reduceEqDiff]
  simp only [r69_1, rA_load, rA_callf, ldA_ptr, ldv_t, val_t, updO_some, bindP_some, bindP_need, upd_app, argsE_app, getB_zero, List.getD_cons_succ, List.getD_nil, List.map_cons, List.map_nil, List.length_cons, List.length_nil, true_and, Option.bind_some, reduceIte, false_implies, Bool.true_eq_false, Nat.zero_add, Nat.reduceAdd, Nat.reduceEqDiff, Nat.reduceLeDiff, List.take_succ_cons, List.take_zero, List.drop_zero, Nat.reduceAdd]
  refine callA_pure (sign1f x c hx hx') ?_
  simp only [rA_load, rA_callf, restA_pure, ldA_ptr, ldv_t, val_t, updO_some, bindP_some, bindP_need, upd_app, argsE_app, getB_zero, getB_succ, List.getD_cons_succ, List.getD_nil, List.map_cons, List.map_nil, List.length_cons, List.length_nil, true_and, Option.bind_some, reduceIte, false_implies, Bool.true_eq_false, Nat.zero_add, Nat.reduceAdd, Nat.reduceEqDiff, Nat.reduceLeDiff, List.take_succ_cons, List.take_zero, List.drop_zero, Nat.reduceAdd]
  refine callA_pure (sign1f y d hy hy') ?_
  simp only [rA_mov, rA_nil, restA_pure, goon, val_t, updO_some, upd_app, argsE_app, List.getD_cons_succ, List.getD_nil, reduceIte, Nat.reduceEqDiff]
  refine ⟨rfl, ?_⟩
  simp only [r69_2, rA_mov, rA_bin, rA_nil, goon, condA_bool, both_some, binA_lss, val_t, updO_some, bindP_some, upd_app, argsE_app, List.getD_cons_succ, List.getD_nil, true_and, forall_const, reduceIte, false_implies, Bool.false_eq_true, Nat.reduceEqDiff, decide_false, Int.reduceLT]
  simp only [r69_4, rA_mov, rA_bin, rA_nil, goon, condA_bool, both_some, binA_gtr, val_t, updO_some, bindP_some, upd_app, argsE_app, List.getD_cons_succ, List.getD_nil, true_and, forall_const, reduceIte, false_implies, Bool.false_eq_true, Nat.reduceEqDiff, decide_false, Int.reduceLT]
  simp only [r69_6, rA_mov, rA_load, rA_fld, rA_callf, goon, ldA_ptr, ldv_f, fldA_ptr, val_t, updO_some, bindP_some, bindP_need, upd_app, argsE_app, getB_zero, List.getD_cons_zero, List.getD_cons_succ, List.getD_nil, List.map_cons, List.map_nil, List.length_cons, List.length_nil, true_and, forall_const, Option.bind_some, reduceIte, Nat.zero_add, Nat.reduceAdd, Nat.reduceEqDiff, Nat.reduceLeDiff, Nat.reduceAdd]
  refine callA_pure (trim1 x c hx) ?_
  simp only [rA_load, rA_fld, rA_callf, restA_pure, goon, ldA_ptr, ldv_f, fldA_ptr, val_t, updO_some, bindP_some, bindP_need, upd_app, argsE_app, getB_zero, getB_succ, List.getD_cons_zero, List.getD_cons_succ, List.getD_nil, List.map_cons, List.map_nil, List.length_cons, List.length_nil, true_and, forall_const, Option.bind_some, reduceIte, Nat.zero_add, Nat.reduceAdd, Nat.reduceEqDiff, Nat.reduceLeDiff, Nat.reduceAdd]
  refine callA_pure (trim1 y d hy) ?_
  simp only [rA_callf, restA_pure, val_t, updO_some, upd_app, argsE_app, List.getD_cons_succ, List.getD_nil, List.map_cons, List.map_nil, reduceIte, Nat.reduceEqDiff]
  refine callA_pure (cmpNatgt x y c d q1 q2) ?_
  simp only [rA_mov, rA_bin, rA_nil, restA_pure, goon, binA_mul, val_t, updO_some, bindP_some, upd_app, argsE_app, List.getD_cons_succ, List.getD_nil, reduceIte, Nat.reduceEqDiff, Int.reduceMul, wi1]
  refine ⟨rfl, ?_⟩
  exact ⟨.inl trivial, _, rfl, .drop _ _ rfl (by intro i cs h; omega)⟩
theorem cmp_ppe (x : Nat) (y : Nat) (c d : Option Nat) (hx : x ≠ 0) (hx' : x < 4294967296) (hy : y ≠ 0) (hy' : y < 4294967296) (hxy : x = y) : Ret Tryz.prog G 69 [.agg [.bool false, .vec [.int .u32 x] 1 c], .agg [.bool false, .vec [.int .u32 y] 1 d]] [] (.int .i64 0) [] := by
  subst hxy
  have q1 : decide ((x : Int) < (x : Int)) = false := by simp
  refine Ret_of mixed Tryz.func69 comp69 _ 28 res69 nt69 (by simp) (by simp) ?_
  simp only [c69, wpC, andThen_normal, andThen_ret, inBlk_normal, inBlk_ret, val_t, List.length_nil, reduceCtorEq]
  simp only [r69_0, rA_mov, rA_box, rA_nil, goon, val_t, val_k, updO_some, cells_agg, firm_agg, upd_app, argsE_app, List.getD_cons_zero, List.getD_cons_succ, List.length_cons, List.length_nil, List.nil_append, List.cons_append, true_and, reduceIte, Nat.zero_add, Nat.reduceEqDiff]
  simp only [r69_1, rA_load, rA_callf, ldA_ptr, ldv_t, val_t, updO_some, bindP_some, bindP_need, upd_app, argsE_app, getB_zero, List.getD_cons_succ, List.getD_nil, List.map_cons, List.map_nil, List.length_cons, List.length_nil, true_and, Option.bind_some, reduceIte, false_implies, Bool.true_eq_false, Nat.zero_add, Nat.reduceAdd, Nat.reduceEqDiff, Nat.reduceLeDiff, List.take_succ_cons, List.take_zero, List.drop_zero, Nat.reduceAdd]
  refine callA_pure (sign1f x c hx hx') ?_
  simp only [rA_load, rA_callf, restA_pure, ldA_ptr, ldv_t, val_t, updO_some, bindP_some, bindP_need, upd_app, argsE_app, getB_zero, getB_succ, List.getD_cons_succ, List.getD_nil, List.map_cons, List.map_nil, List.length_cons, List.length_nil, true_and, Option.bind_some, reduceIte, false_implies, Bool.true_eq_false, Nat.zero_add, Nat.reduceAdd, Nat.reduceEqDiff, Nat.reduceLeDiff, List.take_succ_cons, List.take_zero, List.drop_zero, Nat.reduceAdd]
  refine callA_pure (sign1f x d hx hx') ?_
  simp only [rA_mov, rA_nil, restA_pure, goon, val_t, updO_some, upd_app, argsE_app, List.getD_cons_succ, List.getD_nil, reduceIte, Nat.reduceEqDiff]
  refine ⟨rfl, ?_⟩
  simp only [r69_2, rA_mov, rA_bin, rA_nil, goon, condA_bool, both_some, binA_lss, val_t, updO_some, bindP_some, upd_app, argsE_app, List.getD_cons_succ, List.getD_nil, true_and, forall_const, reduceIte, false_implies, Bool.false_eq_true, Nat.reduceEqDiff, decide_false, Int.reduceLT]
  simp only [r69_4, rA_mov, rA_bin, rA_nil, goon, condA_bool, both_some, binA_gtr, val_t, updO_some, bindP_some, upd_app, argsE_app, List.getD_cons_succ, List.getD_nil, true_and, forall_const, reduceIte, false_implies, Bool.false_eq_true, Nat.reduceEqDiff, decide_false, Int.reduceLT]
  simp only [r69_6, rA_mov, rA_load, rA_fld, rA_callf, goon, ldA_ptr, ldv_f, fldA_ptr, val_t, updO_some, bindP_some, bindP_need, upd_app, argsE_app, getB_zero, List.getD_cons_zero, List.getD_cons_succ, List.getD_nil, List.map_cons, List.map_nil, List.length_cons, List.length_nil, true_and, forall_const, Option.bind_some, reduceIte, Nat.zero_add, Nat.reduceAdd, Nat.reduceEqDiff, Nat.reduceLeDiff, Nat.reduceAdd]
  refine callA_pure (trim1 x c hx) ?_
  simp only [rA_load, rA_fld, rA_callf, restA_pure, goon, ldA_ptr, ldv_f, fldA_ptr, val_t, updO_some, bindP_some, bindP_need, upd_app, argsE_app, getB_zero, getB_succ, List.getD_cons_zero, List.getD_cons_succ, List.getD_nil, List.map_cons, List.map_nil, List.length_cons, List.length_nil, true_and, forall_const, Option.bind_some, reduceIte, Nat.zero_add, Nat.reduceAdd, Nat.reduceEqDiff, Nat.reduceLeDiff, Nat.reduceAdd]
  refine callA_pure (trim1 x d hx) ?_
  simp only [rA_callf, restA_pure, val_t, updO_some, upd_app, argsE_app, List.getD_cons_succ, List.getD_nil, List.map_cons, List.map_nil, reduceIte, Nat.reduceEqDiff]
  refine callA_pure (cmpNateq x x c d q1 q1) ?_
  simp only [rA_mov, rA_bin, rA_nil, restA_pure, goon, binA_mul, val_t, updO_some, bindP_some, upd_app, argsE_app, List.getD_cons_succ, List.getD_nil, reduceIte, Nat.reduceEqDiff, Int.reduceMul, wi0]
  refine ⟨rfl, ?_⟩
  exact ⟨.inl trivial, _, rfl, .drop _ _ rfl (by intro i cs h; omega)⟩
-- Int64
theorem int64z (s : Bool) (c : Option Nat) : Ret Tryz.prog G 123 [.agg [.bool s, .vec [] 0 c]] [] (.tup [.int .i64 0, .bool true]) [] := by
  have w1 : IntKind.i64.wrap (IntKind.u64.wrap (0 - 0)) = 0 := rfl
  have w2 : IntKind.i64.wrap 0 = 0 := rfl
  refine Ret_of mixed Tryz.func123 comp123 _ 34 res123 nt123 (by simp) (by simp) ?_
  simp only [c123, wpC, andThen_normal, andThen_ret, inBlk_normal, inBlk_ret, val_t, List.length_nil, reduceCtorEq]
  simp only [r123_0, rA_mov, rA_box, rA_nil, goon, val_t, val_k, updO_some, cells_agg, firm_agg, argsE_app, List.getD_cons_zero, List.length_nil, List.nil_append, true_and]
  simp only [r123_1, rA_load, rA_fld, rA_callf, goon, ldA_ptr, ldv_f, fldA_ptr, val_t, updO_some, bindP_some, bindP_need, upd_app, argsE_app, getB_zero, List.getD_cons_zero, List.getD_cons_succ, List.getD_nil, List.map_cons, List.map_nil, List.length_cons, List.length_nil, true_and, forall_const, Option.bind_some, reduceIte, Nat.zero_add, Nat.reduceAdd, Nat.reduceEqDiff, Nat.reduceLeDiff, Nat.reduceAdd]
  refine callA_pure (trim0 c) ?_
  simp only [rA_mov, rA_nil, restA_pure, goon, val_t, updO_some, upd_app, argsE_app, List.getD_cons_succ, List.getD_nil, reduceIte, Nat.reduceEqDiff]
  simp only [r123_2, rA_mov, rA_bin, rA_len, rA_nil, goon, condA_bool, both_some, binA_gtr, lenSA_vec, val_t, val_k, updO_some, bindP_some, upd_app, argsE_app, List.getD_cons_succ, List.getD_nil, true_and, forall_const, reduceIte, false_implies, Bool.false_eq_true, Nat.reduceEqDiff, decide_false, Int.reduceLT, Int.natCast_zero]
  simp only [r123_4, rA_mov, rA_callf, goon, val_t, updO_some, upd_app, argsE_app, List.getD_cons_succ, List.getD_nil, List.map_cons, List.map_nil, reduceIte, Nat.reduceEqDiff]
  refine callA_pure (word0 c) ?_
  simp only [rA_mov, rA_nil, restA_pure, goon, val_t, updO_some, upd_app, argsE_app, List.getD_cons_succ, List.getD_nil, reduceIte, Nat.reduceEqDiff]
  cases s
  · simp only [r123_5, rA_mov, rA_pick, rA_load, rA_bin, rA_fld, rA_guardf, rA_nil, goon, boolA_bool, condA_bool, both_some, pickA_bool, ldA_ptr, ldv_f, binA_leq, fldA_ptr, val_t, val_k, updO_some, bindP_some, bindP_need, upd_app, argsE_app, getB_zero, List.getD_cons_zero, List.getD_cons_succ, List.getD_nil, List.length_cons, List.length_nil, true_and, and_true, forall_const, Option.bind_some, reduceIte, false_implies, Bool.not_true, Bool.true_eq_false, Bool.false_eq_true, Nat.zero_add, Nat.reduceAdd, Nat.reduceEqDiff, Nat.reduceLeDiff, decide_true, Int.reduceLE, Nat.reduceAdd]
    simp only [r123_7, rA_mov, rA_pick, rA_load, rA_bin, rA_un, rA_fld, rA_guardf, rA_nil, goon, boolA_bool, condA_bool, both_some, pickA_bool, ldA_ptr, ldv_f, binA_lss, unA_not, fldA_ptr, val_t, val_k, updO_some, bindP_some, bindP_need, upd_app, argsE_app, getB_zero, List.getD_cons_zero, List.getD_cons_succ, List.getD_nil, List.length_cons, List.length_nil, true_and, and_true, forall_const, Option.bind_some, reduceIte, false_implies, Bool.not_true, Bool.not_false, Bool.true_eq_false, Bool.false_eq_true, Nat.zero_add, Nat.reduceAdd, Nat.reduceEqDiff, Nat.reduceLeDiff, decide_true, Int.reduceLT, Nat.reduceAdd]
    simp only [r123_8, rA_mov, rA_conv, rA_nil, goon, convA_int, val_t, val_k, updO_some, bindP_some, upd_app, argsE_app, List.getD_cons_succ, List.getD_nil, reduceIte, Nat.reduceEqDiff, w2]
    exact ⟨.inl trivial, _, rfl, .drop _ _ rfl (by intro i cs h; omega)⟩
  · simp only [r123_5, rA_mov, rA_pick, rA_load, rA_bin, rA_fld, rA_guardf, rA_nil, goon, boolA_bool, condA_bool, both_some, pickA_bool, ldA_ptr, ldv_f, binA_leq, fldA_ptr, val_t, val_k, updO_some, bindP_some, bindP_need, upd_app, argsE_app, getB_zero, List.getD_cons_zero, List.getD_cons_succ, List.getD_nil, List.length_cons, List.length_nil, true_and, and_true, forall_const, Option.bind_some, reduceIte, false_implies, Bool.not_true, Bool.true_eq_false, Bool.false_eq_true, Nat.zero_add, Nat.reduceAdd, Nat.reduceEqDiff, Nat.reduceLeDiff, decide_true, Int.reduceLE, Nat.reduceAdd]
    simp only [r123_6, rA_mov, rA_un, rA_conv, rA_nil, goon, unA_neg, convA_int, val_t, val_k, updO_some, bindP_some, upd_app, argsE_app, List.getD_cons_succ, List.getD_nil, reduceIte, Nat.reduceEqDiff, Int.reduceSub]
    exact ⟨.inl trivial, _, rfl, .drop _ _ rfl (by intro i cs h; omega)⟩
theorem int64p (x : Nat) (c : Option Nat) (hx : x ≠ 0) (hx' : x < 4294967296) : Ret Tryz.prog G 123 [.agg [.bool false, .vec [.int .u32 x] 1 c]] [] (.tup [.int .i64 x, .bool true]) [] := by
  have w2 : IntKind.i64.wrap (x : Int) = x := wrap_i64 (by omega) (by omega)
  have q1 : decide ((x : Int) < 9223372036854775808) = true := by simp; omega
  refine Ret_of mixed Tryz.func123 comp123 _ 34 res123 nt123 (by simp) (by simp) ?_
  simp only [c123, wpC, andThen_normal, andThen_ret, inBlk_normal, inBlk_ret, val_t, List.length_nil, reduceCtorEq]
  simp only [r123_0, rA_mov, rA_box, rA_nil, goon, val_t, val_k, updO_some, cells_agg, firm_agg, argsE_app, List.getD_cons_zero, List.length_nil, List.nil_append, true_and]
  simp only [r123_1, rA_load, rA_fld, rA_callf, goon, ldA_ptr, ldv_f, fldA_ptr, val_t, updO_some, bindP_some, bindP_need, upd_app, argsE_app, getB_zero, List.getD_cons_zero, List.getD_cons_succ, List.getD_nil, List.map_cons, List.map_nil, List.length_cons, List.length_nil, true_and, forall_const, Option.bind_some, reduceIte, Nat.zero_add, Nat.reduceAdd, Nat.reduceEqDiff, Nat.reduceLeDiff, Nat.reduceAdd]
  refine callA_pure (trim1 x c hx) ?_
  simp only [rA_mov, rA_nil, restA_pure, goon, val_t, updO_some, upd_app, argsE_app, List.getD_cons_succ, List.getD_nil, reduceIte, Nat.reduceEqDiff]
  simp only [r123_2, rA_mov, rA_bin, rA_len, rA_nil, goon, condA_bool, both_some, binA_gtr, lenSA_vec, val_t, val_k, updO_some, bindP_some, upd_app, argsE_app, List.getD_cons_succ, List.getD_nil, true_and, forall_const, reduceIte, false_implies, Bool.false_eq_true, Nat.reduceEqDiff, decide_false, Int.reduceLT, n1]
  simp only [r123_4, rA_mov, rA_callf, goon, val_t, updO_some, upd_app, argsE_app, List.getD_cons_succ, List.getD_nil, List.map_cons, List.map_nil, reduceIte, Nat.reduceEqDiff]
  refine callA_pure (word1 x c hx') ?_
  simp only [rA_mov, rA_nil, restA_pure, goon, val_t, updO_some, upd_app, argsE_app, List.getD_cons_succ, List.getD_nil, reduceIte, Nat.reduceEqDiff]
  simp only [r123_5, rA_mov, rA_pick, rA_load, rA_bin, rA_fld, rA_guardf, rA_nil, goon, boolA_bool, condA_bool, both_some, pickA_bool, ldA_ptr, ldv_f, binA_leq, fldA_ptr, val_t, val_k, updO_some, bindP_some, bindP_need, upd_app, argsE_app, getB_zero, List.getD_cons_zero, List.getD_cons_succ, List.getD_nil, List.length_cons, List.length_nil, true_and, and_true, forall_const, Option.bind_some, reduceIte, false_implies, Bool.not_true, Bool.true_eq_false, Bool.false_eq_true, Nat.zero_add, Nat.reduceAdd, Nat.reduceEqDiff, Nat.reduceLeDiff, decide_eq_true_eq, decide_eq_false_iff_not, Nat.reduceAdd]
  simp only [r123_7, rA_mov, rA_pick, rA_load, rA_bin, rA_un, rA_fld, rA_guardf, rA_nil, goon, boolA_bool, condA_bool, both_some, pickA_bool, ldA_ptr, ldv_f, binA_lss, unA_not, fldA_ptr, val_t, val_k, updO_some, bindP_some, bindP_need, upd_app, argsE_app, getB_zero, List.getD_cons_zero, List.getD_cons_succ, List.getD_nil, List.length_cons, List.length_nil, true_and, and_true, forall_const, Option.bind_some, reduceIte, false_implies, Bool.not_true, Bool.not_false, Bool.true_eq_false, Bool.false_eq_true, Nat.zero_add, Nat.reduceAdd, Nat.reduceEqDiff, Nat.reduceLeDiff, Nat.reduceAdd, q1]
  simp only [r123_8, rA_mov, rA_conv, rA_nil, goon, convA_int, val_t, val_k, updO_some, bindP_some, upd_app, argsE_app, List.getD_cons_succ, List.getD_nil, reduceIte, Nat.reduceEqDiff, w2]
  exact ⟨.inl trivial, _, rfl, .drop _ _ rfl (by intro i cs h; omega)⟩
theorem int64n (x : Nat) (c : Option Nat) (hx : x ≠ 0) (hx' : x < 4294967296) : Ret Tryz.prog G 123 [.agg [.bool true, .vec [.int .u32 x] 1 c]] [] (.tup [.int .i64 (-(x : Int)), .bool true]) [] := by
  have w1 : IntKind.i64.wrap (IntKind.u64.wrap (0 - (x : Int))) = -(x : Int) := by
    simp [IntKind.wrap, IntKind.bits, IntKind.signed]; omega
  have q1 : decide ((x : Int) ≤ 9223372036854775808) = true := by simp; omega
  refine Ret_of mixed Tryz.func123 comp123 _ 34 res123 nt123 (by simp) (by simp) ?_
  simp only [c123, wpC, andThen_normal, andThen_ret, inBlk_normal, inBlk_ret, val_t, List.length_nil, reduceCtorEq]
  simp only [r123_0, rA_mov, rA_box, rA_nil, goon, val_t, val_k, updO_some, cells_agg, firm_agg, argsE_app, List.getD_cons_zero, List.length_nil, List.nil_append, true_and]
  simp only [r123_1, rA_load, rA_fld, rA_callf, goon, ldA_ptr, ldv_f, fldA_ptr, val_t, updO_some, bindP_some, bindP_need, upd_app, argsE_app, getB_zero, List.getD_cons_zero, List.getD_cons_succ, List.getD_nil, List.map_cons, List.map_nil, List.length_cons, List.length_nil, true_and, forall_const, Option.bind_some, reduceIte, Nat.zero_add, Nat.reduceAdd, Nat.reduceEqDiff, Nat.reduceLeDiff, Nat.reduceAdd]
  refine callA_pure (trim1 x c hx) ?_
  simp only [rA_mov, rA_nil, restA_pure, goon, val_t, updO_some, upd_app, argsE_app, List.getD_cons_succ, List.getD_nil, reduceIte, Nat.reduceEqDiff]
  simp only [r123_2, rA_mov, rA_bin, rA_len, rA_nil, goon, condA_bool, both_some, binA_gtr, lenSA_vec, val_t, val_k, updO_some, bindP_some, upd_app, argsE_app, List.getD_cons_succ, List.getD_nil, true_and, forall_const, reduceIte, false_implies, Bool.false_eq_true, Nat.reduceEqDiff, decide_false, Int.reduceLT, n1]
  simp only [r123_4, rA_mov, rA_callf, goon, val_t, updO_some, upd_app, argsE_app, List.getD_cons_succ, List.getD_nil, List.map_cons, List.map_nil, reduceIte, Nat.reduceEqDiff]
  refine callA_pure (word1 x c hx') ?_
  simp only [rA_mov, rA_nil, restA_pure, goon, val_t, updO_some, upd_app, argsE_app, List.getD_cons_succ, List.getD_nil, reduceIte, Nat.reduceEqDiff]
  simp only [r123_5, rA_mov, rA_pick, rA_load, rA_bin, rA_fld, rA_guardf, rA_nil, goon, boolA_bool, condA_bool, both_some, pickA_bool, ldA_ptr, ldv_f, binA_leq, fldA_ptr, val_t, val_k, updO_some, bindP_some, bindP_need, upd_app, argsE_app, getB_zero, List.getD_cons_zero, List.getD_cons_succ, List.getD_nil, List.length_cons, List.length_nil, true_and, and_true, forall_const, Option.bind_some, reduceIte, false_implies, Bool.not_true, Bool.true_eq_false, Bool.false_eq_true, Nat.zero_add, Nat.reduceAdd, Nat.reduceEqDiff, Nat.reduceLeDiff, Nat.reduceAdd, q1]
  simp only [r123_6, rA_mov, rA_un, rA_conv, rA_nil, goon, unA_neg, convA_int, val_t, val_k, updO_some, bindP_some, upd_app, argsE_app, List.getD_cons_succ, List.getD_nil, reduceIte, Nat.reduceEqDiff, w1]
  exact ⟨.inl trivial, _, rfl, .drop _ _ rfl (by intro i cs h; omega)⟩
-- divNat: the quotient and the remainder of numbers of one limb
theorem divNat0 (y : Nat) (c d : Option Nat) : Ret Tryz.prog G 199 [.vec [] 0 c, .vec [.int .u32 y] 1 d] [] (.tup [.vec [] 0 (some 0), .vec [] 0 (some 0)]) [] := by
  refine Ret_of mixed Tryz.func199 comp199 _ 104 res199 nt199 (by simp) (by simp) ?_
  simp only [c199, wpC, andThen_normal, andThen_ret, inBlk_normal, inBlk_ret, val_t, List.length_nil, reduceCtorEq]
  simp only [r199_0, rA_mov, rA_nil, goon, val_k, updO_some]
  simp only [r199_1, rA_mov, rA_callf, goon, val_t, updO_some, upd_app, argsE_app, List.getD_cons_zero, List.getD_cons_succ, List.getD_nil, List.map_cons, List.map_nil, reduceCtorEq, reduceIte, Nat.reduceEqDiff]
  refine callA_pure (cmpNat01 _ c d) ?_
  simp only [rA_mov, rA_bin, rA_nil, restA_pure, goon, condA_bool, both_some, binA_lss, val_t, val_k, updO_some, bindP_some, upd_app, argsE_app, List.getD_cons_succ, List.getD_nil, and_true, forall_const, reduceIte, false_implies, Bool.true_eq_false, Nat.reduceEqDiff, decide_true, Int.reduceLT, Int.reduceNeg]
  simp only [r199_2, rA_mov, rA_callf, goon, val_t, updO_some, upd_app, argsE_app, List.getD_cons_zero, List.getD_cons_succ, List.getD_nil, List.map_cons, List.map_nil, reduceCtorEq, reduceIte, Nat.reduceEqDiff, Int.reduceNeg]
  refine callA_pure (clone0 _ _) ?_
  simp only [rA_mov, rA_nil, restA_pure, goon, val_t, val_k, updO_some, upd_app, argsE_app, List.getD_cons_succ, List.getD_nil, reduceIte, Nat.reduceEqDiff, Int.reduceNeg]
  exact ⟨.inl trivial, _, rfl, .keep _ _⟩
theorem divNatl (x y : Nat) (c d : Option Nat) (hxy : x < y) : Ret Tryz.prog G 199 [.vec [.int .u32 x] 1 c, .vec [.int .u32 y] 1 d] [] (.tup [.vec [] 0 (some 0), .vec [.int .u32 x] 1 none]) [] := by
  have q1 : decide ((x : Int) < (y : Int)) = true := by simp; omega
  refine Ret_of mixed Tryz.func199 comp199 _ 104 res199 nt199 (by simp) (by simp) ?_
  simp only [c199, wpC, andThen_normal, andThen_ret, inBlk_normal, inBlk_ret, val_t, List.length_nil, reduceCtorEq]
  simp only [r199_0, rA_mov, rA_nil, goon, val_k, updO_some]
  simp only [r199_1, rA_mov, rA_callf, goon, val_t, updO_some, upd_app, argsE_app, List.getD_cons_zero, List.getD_cons_succ, List.getD_nil, List.map_cons, List.map_nil, reduceCtorEq, reduceIte, Nat.reduceEqDiff]
  refine callA_pure (cmpNatlt x y c d q1) ?_
  simp only [rA_mov, rA_bin, rA_nil, restA_pure, goon, condA_bool, both_some, binA_lss, val_t, val_k, updO_some, bindP_some, upd_app, argsE_app, List.getD_cons_succ, List.getD_nil, and_true, forall_const, reduceIte, false_implies, Bool.true_eq_false, Nat.reduceEqDiff, decide_true, Int.reduceLT, Int.reduceNeg]
  simp only [r199_2, rA_mov, rA_callf, goon, val_t, updO_some, upd_app, argsE_app, List.getD_cons_zero, List.getD_cons_succ, List.getD_nil, List.map_cons, List.map_nil, reduceCtorEq, reduceIte, Nat.reduceEqDiff, Int.reduceNeg]
  refine callA_pure (clone1f x c) ?_
  simp only [rA_mov, rA_nil, restA_pure, goon, val_t, val_k, updO_some, upd_app, argsE_app, List.getD_cons_succ, List.getD_nil, reduceIte, Nat.reduceEqDiff, Int.reduceNeg]
  exact ⟨.inl trivial, _, rfl, .keep _ _⟩
theorem cmpNatge (x y : Nat) (c d : Option Nat) (hxy : y ≤ x) : ∃ r : Int, 0 ≤ r ∧ Ret Tryz.prog G 108 [.vec [.int .u32 x] 1 c, .vec [.int .u32 y] 1 d] [] (.int .i64 r) [] := by
  have q1 : decide ((x : Int) < (y : Int)) = false := by simp; omega
  rcases Nat.lt_or_ge y x with h | h
  · exact ⟨1, by decide, cmpNatgt x y c d q1 (by simp; omega)⟩
  · exact ⟨0, by decide, cmpNateq x y c d q1 (by simp; omega)⟩
theorem divNatg0 (x y : Nat) (c d : Option Nat) (hy : y ≠ 0) (hxy : y ≤ x) (hx' : x < 4294967296) (hr : x % y = 0) : Ret Tryz.prog G 199 [.vec [.int .u32 x] 1 c, .vec [.int .u32 y] 1 d] [] (.tup [.vec [.int .u32 (x / y : Nat)] 1 (some 2), .vec [] 0 (some 2)]) [] := by
  obtain ⟨r, hr0, hcmp⟩ := cmpNatge x y c d hxy
  have q1 : decide (r < 0) = false := by simp; omega
  have q2 : ((y : Int) ≠ 0) = True := eq_true (by omega)
  have w1 : IntKind.u64.wrap (Int.tdiv (x : Int) (y : Int)) = ((x / y : Nat) : Int) := by
    rw [show Int.tdiv (x : Int) (y : Int) = ((x / y : Nat) : Int) from rfl]; exact wrap_u64 (by have := Nat.div_le_self x y; omega)
  have w2 : Int.tmod (x : Int) (y : Int) = 0 := by
    rw [show Int.tmod (x : Int) (y : Int) = ((x % y : Nat) : Int) from rfl, hr]; rfl
  have hq : x / y ≠ 0 := by have := Nat.div_pos hxy (Nat.pos_of_ne_zero hy); omega
  have hq' : x / y < 4294967296 := by have := Nat.div_le_self x y; omega
  refine Ret_of mixed Tryz.func199 comp199 _ 104 res199 nt199 (by simp) (by simp) ?_
  simp only [c199, wpC, andThen_normal, andThen_ret, inBlk_normal, inBlk_ret, val_t, List.length_nil, reduceCtorEq]
  simp only [r199_0, rA_mov, rA_nil, goon, val_k, updO_some]
  simp only [r199_1, rA_mov, rA_callf, goon, val_t, updO_some, upd_app, argsE_app, List.getD_cons_zero, List.getD_cons_succ, List.getD_nil, List.map_cons, List.map_nil, reduceCtorEq, reduceIte, Nat.reduceEqDiff]
  refine callA_pure hcmp ?_
  simp only [rA_mov, rA_bin, rA_nil, restA_pure, goon, condA_bool, both_some, binA_lss, val_t, val_k, updO_some, bindP_some, upd_app, argsE_app, List.getD_cons_succ, List.getD_nil, true_and, forall_const, reduceIte, false_implies, Bool.false_eq_true, Nat.reduceEqDiff, q1]
  simp only [r199_3, rA_mov, rA_bin, rA_len, rA_nil, goon, condA_bool, both_some, binA_leq, lenSA_vec, val_t, val_k, updO_some, bindP_some, upd_app, argsE_app, List.getD_cons_zero, List.getD_cons_succ, List.getD_nil, and_true, forall_const, reduceCtorEq, reduceIte, false_implies, Bool.true_eq_false, Nat.reduceEqDiff, decide_true, Int.reduceLE, n1]
  simp only [r199_4, rA_mov, rA_callf, goon, val_t, updO_some, upd_app, argsE_app, List.getD_cons_zero, List.getD_cons_succ, List.getD_nil, List.map_cons, List.map_nil, reduceCtorEq, reduceIte, Nat.reduceEqDiff]
  refine callA_pure (word1 x c hx') ?_
  simp only [rA_mov, rA_callf, restA_pure, goon, val_t, updO_some, upd_app, argsE_app, List.getD_cons_zero, List.getD_cons_succ, List.getD_nil, List.map_cons, List.map_nil, reduceIte, Nat.reduceEqDiff]
  refine callA_pure (word1 y d (by omega)) ?_
  simp only [rA_mov, rA_nil, restA_pure, goon, val_t, updO_some, upd_app, argsE_app, List.getD_cons_succ, List.getD_nil, reduceIte, Nat.reduceEqDiff]
  simp only [r199_5, rA_mov, rA_bin, rA_callf, goon, binA_quo, val_t, updO_some, bindP_some, bindP_need, upd_app, argsE_app, List.getD_cons_succ, List.getD_nil, List.map_cons, List.map_nil, true_and, reduceIte, Nat.reduceEqDiff, w1, q2]
  refine callA_pure (fromWord1 _ hq hq') ?_
  simp only [rA_mov, rA_bin, rA_callf, restA_pure, goon, binA_rem, val_t, updO_some, bindP_some, bindP_need, upd_app, argsE_app, List.getD_cons_succ, List.getD_nil, List.map_cons, List.map_nil, true_and, reduceIte, Nat.reduceEqDiff, w2, q2]
  refine callA_pure fromWord0 ?_
  simp only [rA_mov, rA_nil, restA_pure, goon, val_t, updO_some, upd_app, argsE_app, List.getD_cons_succ, List.getD_nil, reduceIte, Nat.reduceEqDiff]
  refine ⟨rfl, ?_⟩
  exact ⟨.inl trivial, _, rfl, .keep _ _⟩
theorem divNatg1 (x y : Nat) (c d : Option Nat) (hy : y ≠ 0) (hxy : y ≤ x) (hx' : x < 4294967296) (hr : x % y ≠ 0) : Ret Tryz.prog G 199 [.vec [.int .u32 x] 1 c, .vec [.int .u32 y] 1 d] [] (.tup [.vec [.int .u32 (x / y : Nat)] 1 (some 2), .vec [.int .u32 (x % y : Nat)] 1 (some 2)]) [] := by
  obtain ⟨r, hr0, hcmp⟩ := cmpNatge x y c d hxy
  have q1 : decide (r < 0) = false := by simp; omega
  have q2 : ((y : Int) ≠ 0) = True := eq_true (by omega)
  have w1 : IntKind.u64.wrap (Int.tdiv (x : Int) (y : Int)) = ((x / y : Nat) : Int) := by
    rw [show Int.tdiv (x : Int) (y : Int) = ((x / y : Nat) : Int) from rfl]; exact wrap_u64 (by have := Nat.div_le_self x y; omega)
  have w2 : Int.tmod (x : Int) (y : Int) = ((x % y : Nat) : Int) := rfl
  have hq : x / y ≠ 0 := by have := Nat.div_pos hxy (Nat.pos_of_ne_zero hy); omega
  have hq' : x / y < 4294967296 := by have := Nat.div_le_self x y; omega
  have hr' : x % y < 4294967296 := by have := Nat.mod_le x y; omega
  refine Ret_of mixed Tryz.func199 comp199 _ 104 res199 nt199 (by simp) (by simp) ?_
  simp only [c199, wpC, andThen_normal, andThen_ret, inBlk_normal, inBlk_ret, val_t, List.length_nil, reduceCtorEq]
  simp only [r199_0, rA_mov, rA_nil, goon, val_k, updO_some]
  simp only [r199_1, rA_mov, rA_callf, goon, val_t, updO_some, upd_app, argsE_app, List.getD_cons_zero, List.getD_cons_succ, List.getD_nil, List.map_cons, List.map_nil, reduceCtorEq, reduceIte, Nat.reduceEqDiff]
  refine callA_pure hcmp ?_
  simp only [rA_mov, rA_bin, rA_nil, restA_pure, goon, condA_bool, both_some, binA_lss, val_t, val_k, updO_some, bindP_some, upd_app, argsE_app, List.getD_cons_succ, List.getD_nil, true_and, forall_const, reduceIte, false_implies, Bool.false_eq_true, Nat.reduceEqDiff, q1]
  simp only [r199_3, rA_mov, rA_bin, rA_len, rA_nil, goon, condA_bool, both_some, binA_leq, lenSA_vec, val_t, val_k, updO_some, bindP_some, upd_app, argsE_app, List.getD_cons_zero, List.getD_cons_succ, List.getD_nil, and_true, forall_const, reduceCtorEq, reduceIte, false_implies, Bool.true_eq_false, Nat.reduceEqDiff, decide_true, Int.reduceLE, n1]
  simp only [r199_4, rA_mov, rA_callf, goon, val_t, updO_some, upd_app, argsE_app, List.getD_cons_zero, List.getD_cons_succ, List.getD_nil, List.map_cons, List.map_nil, reduceCtorEq, reduceIte, Nat.reduceEqDiff]
  refine callA_pure (word1 x c hx') ?_
  simp only [rA_mov, rA_callf, restA_pure, goon, val_t, updO_some, upd_app, argsE_app, List.getD_cons_zero, List.getD_cons_succ, List.getD_nil, List.map_cons, List.map_nil, reduceIte, Nat.reduceEqDiff]
  refine callA_pure (word1 y d (by omega)) ?_
  simp only [rA_mov, rA_nil, restA_pure, goon, val_t, updO_some, upd_app, argsE_app, List.getD_cons_succ, List.getD_nil, reduceIte, Nat.reduceEqDiff]
  simp only [r199_5, rA_mov, rA_bin, rA_callf, goon, binA_quo, val_t, updO_some, bindP_some, bindP_need, upd_app, argsE_app, List.getD_cons_succ, List.getD_nil, List.map_cons, List.map_nil, true_and, reduceIte, Nat.reduceEqDiff, w1, q2]
  refine callA_pure (fromWord1 _ hq hq') ?_
  simp only [rA_mov, rA_bin, rA_callf, restA_pure, goon, binA_rem, val_t, updO_some, bindP_some, bindP_need, upd_app, argsE_app, List.getD_cons_succ, List.getD_nil, List.map_cons, List.map_nil, true_and, reduceIte, Nat.reduceEqDiff, w2, q2]
  refine callA_pure (fromWord1 _ hr hr') ?_
  simp only [rA_mov, rA_nil, restA_pure, goon, val_t, updO_some, upd_app, argsE_app, List.getD_cons_succ, List.getD_nil, reduceIte, Nat.reduceEqDiff]
  refine ⟨rfl, ?_⟩
  exact ⟨.inl trivial, _, rfl, .keep _ _⟩

end Go.Proofs.YthkpeakeoepocaaGreatDoor
