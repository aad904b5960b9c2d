/- Contracts of package integer for numbers of at most one limb (part 2). -/
import Derived.Test.YthkpeakeoepocaaGreatDoorIC
namespace Go.Proofs.YthkpeakeoepocaaGreatDoor
set_option linter.unusedSimpArgs false
set_option linter.unusedVariables false
open Go Go.AL Go.Proofs
set_option maxRecDepth 100000
theorem addSigned_s00 (s t : Bool) (c d : Option Nat) (hst : (s == t) = true) : Ret Tryz.prog G 198 [.bool s, .vec [] 0 c, .bool t, .vec [] 0 d] [] (.agg [.bool false, .vec [] 0 (some 0)]) [] := by
  refine Ret_of mixed Tryz.func198 comp198 _ 33 res198 nt198 (by simp) (by simp) ?_
  simp only [c198, wpC, andThen_normal, andThen_ret, inBlk_normal, inBlk_ret, val_t, List.length_nil, reduceCtorEq]
  simp only [r198_0, rA_box, rA_nil, val_k, updO_some, cells_agg, firm_agg, List.length_nil, List.nil_append, true_and]
  simp only [r198_1, rA_mov, rA_beq, rA_nil, goon, condA_bool, both_some, beqA_bool, val_t, updO_some, bindP_some, upd_app, argsE_app, List.getD_cons_zero, List.getD_cons_succ, List.getD_nil, and_true, forall_const, reduceCtorEq, reduceIte, false_implies, Bool.not_true, Bool.true_eq_false, Bool.false_eq_true, Nat.reduceEqDiff, hst]
  simp only [r198_2, rA_mov, rA_callf, goon, val_t, updO_some, upd_app, argsE_app, List.getD_cons_zero, List.getD_cons_succ, List.getD_nil, List.map_cons, List.map_nil, reduceCtorEq, reduceIte, Nat.reduceEqDiff]
  refine callA_pure (addNat00 c d) ?_
  simp only [rA_callf, restA_pure, val_t, updO_some, upd_app, argsE_app, List.getD_cons_succ, List.getD_nil, List.map_cons, List.map_nil, reduceIte, Nat.reduceEqDiff]
  refine callA_pure (build0 _ _ _) ?_
  simp only [rA_store, rA_nil, restA_pure, stA_ptr, val_t, updO_some, cells_agg, firm_agg, setL_nil, setL_cons, scalL_nil, scalL_cons, scal_bool, scal_vec, bindP_some, bindP_need, upd_app, argsE_app, getB_zero, List.getD_cons_succ, List.getD_nil, List.length_cons, List.length_nil, true_and, Option.bind_some, reduceIte, Nat.zero_add, Nat.reduceAdd, Nat.reduceEqDiff, Nat.reduceLeDiff, List.set_cons_zero, List.set_cons_succ, Bool.and_self, Nat.reduceAdd]
  exact ⟨.inl trivial, _, rfl, .drop _ _ rfl (by intro i cs h; omega)⟩
theorem addSigned_s01 (s t : Bool) (y : Nat) (c d : Option Nat) (hst : (s == t) = true) (hy : y ≠ 0) (hy' : y < 4294967296) : Ret Tryz.prog G 198 [.bool s, .vec [] 0 c, .bool t, .vec [.int .u32 y] 1 d] [] (.agg [.bool s, .vec [.int .u32 y] 1 (some 2)]) [] := by
  refine Ret_of mixed Tryz.func198 comp198 _ 33 res198 nt198 (by simp) (by simp) ?_
  simp only [c198, wpC, andThen_normal, andThen_ret, inBlk_normal, inBlk_ret, val_t, List.length_nil, reduceCtorEq]
  simp only [r198_0, rA_box, rA_nil, val_k, updO_some, cells_agg, firm_agg, List.length_nil, List.nil_append, true_and]
  simp only [r198_1, rA_mov, rA_beq, rA_nil, goon, condA_bool, both_some, beqA_bool, val_t, updO_some, bindP_some, upd_app, argsE_app, List.getD_cons_zero, List.getD_cons_succ, List.getD_nil, and_true, forall_const, reduceCtorEq, reduceIte, false_implies, Bool.not_true, Bool.true_eq_false, Bool.false_eq_true, Nat.reduceEqDiff, hst]
  simp only [r198_2, rA_mov, rA_callf, goon, val_t, updO_some, upd_app, argsE_app, List.getD_cons_zero, List.getD_cons_succ, List.getD_nil, List.map_cons, List.map_nil, reduceCtorEq, reduceIte, Nat.reduceEqDiff]
  refine callA_pure (addNat01 y c d hy hy') ?_
  simp only [rA_callf, restA_pure, val_t, updO_some, upd_app, argsE_app, List.getD_cons_succ, List.getD_nil, List.map_cons, List.map_nil, reduceIte, Nat.reduceEqDiff]
  refine callA_pure (build1 _ _ _) ?_
  simp only [rA_store, rA_nil, restA_pure, stA_ptr, val_t, updO_some, cells_agg, firm_agg, setL_nil, setL_cons, scalL_nil, scalL_cons, scal_bool, scal_vec, bindP_some, bindP_need, upd_app, argsE_app, getB_zero, List.getD_cons_succ, List.getD_nil, List.length_cons, List.length_nil, true_and, Option.bind_some, reduceIte, Nat.zero_add, Nat.reduceAdd, Nat.reduceEqDiff, Nat.reduceLeDiff, List.set_cons_zero, List.set_cons_succ, Bool.and_self, Nat.reduceAdd]
  exact ⟨.inl trivial, _, rfl, .drop _ _ rfl (by intro i cs h; omega)⟩
theorem addSigned_s10 (s t : Bool) (x : Nat) (c d : Option Nat) (hst : (s == t) = true) (hx : x ≠ 0) (hx' : x < 4294967296) : Ret Tryz.prog G 198 [.bool s, .vec [.int .u32 x] 1 c, .bool t, .vec [] 0 d] [] (.agg [.bool s, .vec [.int .u32 x] 1 (some 2)]) [] := by
  refine Ret_of mixed Tryz.func198 comp198 _ 33 res198 nt198 (by simp) (by simp) ?_
  simp only [c198, wpC, andThen_normal, andThen_ret, inBlk_normal, inBlk_ret, val_t, List.length_nil, reduceCtorEq]
  simp only [r198_0, rA_box, rA_nil, val_k, updO_some, cells_agg, firm_agg, List.length_nil, List.nil_append, true_and]
  simp only [r198_1, rA_mov, rA_beq, rA_nil, goon, condA_bool, both_some, beqA_bool, val_t, updO_some, bindP_some, upd_app, argsE_app, List.getD_cons_zero, List.getD_cons_succ, List.getD_nil, and_true, forall_const, reduceCtorEq, reduceIte, false_implies, Bool.not_true, Bool.true_eq_false, Bool.false_eq_true, Nat.reduceEqDiff, hst]
  simp only [r198_2, rA_mov, rA_callf, goon, val_t, updO_some, upd_app, argsE_app, List.getD_cons_zero, List.getD_cons_succ, List.getD_nil, List.map_cons, List.map_nil, reduceCtorEq, reduceIte, Nat.reduceEqDiff]
  refine callA_pure (addNat10 x c d hx hx') ?_
  simp only [rA_callf, restA_pure, val_t, updO_some, upd_app, argsE_app, List.getD_cons_succ, List.getD_nil, List.map_cons, List.map_nil, reduceIte, Nat.reduceEqDiff]
  refine callA_pure (build1 _ _ _) ?_
  simp only [rA_store, rA_nil, restA_pure, stA_ptr, val_t, updO_some, cells_agg, firm_agg, setL_nil, setL_cons, scalL_nil, scalL_cons, scal_bool, scal_vec, bindP_some, bindP_need, upd_app, argsE_app, getB_zero, List.getD_cons_succ, List.getD_nil, List.length_cons, List.length_nil, true_and, Option.bind_some, reduceIte, Nat.zero_add, Nat.reduceAdd, Nat.reduceEqDiff, Nat.reduceLeDiff, List.set_cons_zero, List.set_cons_succ, Bool.and_self, Nat.reduceAdd]
  exact ⟨.inl trivial, _, rfl, .drop _ _ rfl (by intro i cs h; omega)⟩
theorem addSigned_s11 (s t : Bool) (x : Nat) (y : Nat) (c d : Option Nat) (hst : (s == t) = true) (hx : x ≠ 0) (hx' : x < 4294967296) (hy : y ≠ 0) (hy' : y < 4294967296) (hxy : x + y < 4294967296) : Ret Tryz.prog G 198 [.bool s, .vec [.int .u32 x] 1 c, .bool t, .vec [.int .u32 y] 1 d] [] (.agg [.bool s, .vec [.int .u32 (x + y : Nat)] 1 (some 2)]) [] := by
  refine Ret_of mixed Tryz.func198 comp198 _ 33 res198 nt198 (by simp) (by simp) ?_
  simp only [c198, wpC, andThen_normal, andThen_ret, inBlk_normal, inBlk_ret, val_t, List.length_nil, reduceCtorEq]
  simp only [r198_0, rA_box, rA_nil, val_k, updO_some, cells_agg, firm_agg, List.length_nil, List.nil_append, true_and]
  simp only [r198_1, rA_mov, rA_beq, rA_nil, goon, condA_bool, both_some, beqA_bool, val_t, updO_some, bindP_some, upd_app, argsE_app, List.getD_cons_zero, List.getD_cons_succ, List.getD_nil, and_true, forall_const, reduceCtorEq, reduceIte, false_implies, Bool.not_true, Bool.true_eq_false, Bool.false_eq_true, Nat.reduceEqDiff, hst]
  simp only [r198_2, rA_mov, rA_callf, goon, val_t, updO_some, upd_app, argsE_app, List.getD_cons_zero, List.getD_cons_succ, List.getD_nil, List.map_cons, List.map_nil, reduceCtorEq, reduceIte, Nat.reduceEqDiff]
  refine callA_pure (addNat11 x y c d hx hx' hy hy' hxy) ?_
  simp only [rA_callf, restA_pure, val_t, updO_some, upd_app, argsE_app, List.getD_cons_succ, List.getD_nil, List.map_cons, List.map_nil, reduceIte, Nat.reduceEqDiff]
  refine callA_pure (build1 _ _ _) ?_
  simp only [rA_store, rA_nil, restA_pure, stA_ptr, val_t, updO_some, cells_agg, firm_agg, setL_nil, setL_cons, scalL_nil, scalL_cons, scal_bool, scal_vec, bindP_some, bindP_need, upd_app, argsE_app, getB_zero, List.getD_cons_succ, List.getD_nil, List.length_cons, List.length_nil, true_and, Option.bind_some, reduceIte, Nat.zero_add, Nat.reduceAdd, Nat.reduceEqDiff, Nat.reduceLeDiff, List.set_cons_zero, List.set_cons_succ, Bool.and_self, Nat.reduceAdd]
  exact ⟨.inl trivial, _, rfl, .drop _ _ rfl (by intro i cs h; omega)⟩
theorem addSigned_d00 (s t : Bool) (c d : Option Nat) (hst : (s == t) = false) : Ret Tryz.prog G 198 [.bool s, .vec [] 0 c, .bool t, .vec [] 0 d] [] (.agg [.bool false, .vec [] 0 (some 0)]) [] := by
  refine Ret_of mixed Tryz.func198 comp198 _ 33 res198 nt198 (by simp) (by simp) ?_
  simp only [c198, wpC, andThen_normal, andThen_ret, inBlk_normal, inBlk_ret, val_t, List.length_nil, reduceCtorEq]
  simp only [r198_0, rA_box, rA_nil, val_k, updO_some, cells_agg, firm_agg, List.length_nil, List.nil_append, true_and]
  simp only [r198_1, rA_mov, rA_beq, rA_nil, goon, condA_bool, both_some, beqA_bool, val_t, updO_some, bindP_some, upd_app, argsE_app, List.getD_cons_zero, List.getD_cons_succ, List.getD_nil, true_and, forall_const, reduceCtorEq, reduceIte, false_implies, Bool.not_false, Bool.false_eq_true, Nat.reduceEqDiff, hst]
  simp only [r198_3, rA_mov, rA_callf, goon, val_t, updO_some, upd_app, argsE_app, List.getD_cons_zero, List.getD_cons_succ, List.getD_nil, List.map_cons, List.map_nil, reduceIte, Nat.reduceEqDiff]
  refine callA_pure (cmpNat00 c d) ?_
  simp only [rA_mov, rA_bin, rA_nil, restA_pure, goon, condA_bool, both_some, binA_geq, val_t, val_k, updO_some, bindP_some, upd_app, argsE_app, List.getD_cons_succ, List.getD_nil, and_true, forall_const, reduceIte, false_implies, Bool.true_eq_false, Nat.reduceEqDiff, decide_true, le0]
  simp only [r198_4, rA_mov, rA_callf, goon, val_t, updO_some, upd_app, argsE_app, List.getD_cons_zero, List.getD_cons_succ, List.getD_nil, List.map_cons, List.map_nil, reduceCtorEq, reduceIte, Nat.reduceEqDiff]
  refine callA_pure (subNat00 c d) ?_
  simp only [rA_callf, restA_pure, val_t, updO_some, upd_app, argsE_app, List.getD_cons_succ, List.getD_nil, List.map_cons, List.map_nil, reduceIte, Nat.reduceEqDiff]
  refine callA_pure (build0 _ _ _) ?_
  simp only [rA_store, rA_nil, restA_pure, stA_ptr, val_t, updO_some, cells_agg, firm_agg, setL_nil, setL_cons, scalL_nil, scalL_cons, scal_bool, scal_vec, bindP_some, bindP_need, upd_app, argsE_app, getB_zero, List.getD_cons_succ, List.getD_nil, List.length_cons, List.length_nil, true_and, Option.bind_some, reduceIte, Nat.zero_add, Nat.reduceAdd, Nat.reduceEqDiff, Nat.reduceLeDiff, List.set_cons_zero, List.set_cons_succ, Bool.and_self, Nat.reduceAdd]
  exact ⟨.inl trivial, _, rfl, .drop _ _ rfl (by intro i cs h; omega)⟩
theorem addSigned_d01 (s t : Bool) (y : Nat) (c d : Option Nat) (hst : (s == t) = false) (hy : y ≠ 0) (hy' : y < 4294967296) : Ret Tryz.prog G 198 [.bool s, .vec [] 0 c, .bool t, .vec [.int .u32 y] 1 d] [] (.agg [.bool t, .vec [.int .u32 y] 1 (some 1)]) [] := by
  refine Ret_of mixed Tryz.func198 comp198 _ 33 res198 nt198 (by simp) (by simp) ?_
  simp only [c198, wpC, andThen_normal, andThen_ret, inBlk_normal, inBlk_ret, val_t, List.length_nil, reduceCtorEq]
  simp only [r198_0, rA_box, rA_nil, val_k, updO_some, cells_agg, firm_agg, List.length_nil, List.nil_append, true_and]
  simp only [r198_1, rA_mov, rA_beq, rA_nil, goon, condA_bool, both_some, beqA_bool, val_t, updO_some, bindP_some, upd_app, argsE_app, List.getD_cons_zero, List.getD_cons_succ, List.getD_nil, true_and, forall_const, reduceCtorEq, reduceIte, false_implies, Bool.not_false, Bool.false_eq_true, Nat.reduceEqDiff, hst]
  simp only [r198_3, rA_mov, rA_callf, goon, val_t, updO_some, upd_app, argsE_app, List.getD_cons_zero, List.getD_cons_succ, List.getD_nil, List.map_cons, List.map_nil, reduceIte, Nat.reduceEqDiff]
  refine callA_pure (cmpNat01 _ c d) ?_
  simp only [rA_mov, rA_bin, rA_nil, restA_pure, goon, condA_bool, both_some, binA_geq, val_t, val_k, updO_some, bindP_some, upd_app, argsE_app, List.getD_cons_succ, List.getD_nil, true_and, forall_const, reduceIte, false_implies, Bool.false_eq_true, Nat.reduceEqDiff, decide_false, Int.reduceLE, Int.reduceNeg]
  simp only [r198_5, rA_mov, rA_callf, goon, val_t, updO_some, upd_app, argsE_app, List.getD_cons_zero, List.getD_cons_succ, List.getD_nil, List.map_cons, List.map_nil, reduceIte, Nat.reduceEqDiff, Int.reduceNeg]
  refine callA_pure (subNat10 y d c hy hy') ?_
  simp only [rA_callf, restA_pure, val_t, updO_some, upd_app, argsE_app, List.getD_cons_succ, List.getD_nil, List.map_cons, List.map_nil, reduceIte, Nat.reduceEqDiff, Int.reduceNeg]
  refine callA_pure (build1 _ _ _) ?_
  simp only [rA_store, rA_nil, restA_pure, stA_ptr, val_t, updO_some, cells_agg, firm_agg, setL_nil, setL_cons, scalL_nil, scalL_cons, scal_bool, scal_vec, bindP_some, bindP_need, upd_app, argsE_app, getB_zero, List.getD_cons_succ, List.getD_nil, List.length_cons, List.length_nil, true_and, Option.bind_some, reduceIte, Nat.zero_add, Nat.reduceAdd, Nat.reduceEqDiff, Nat.reduceLeDiff, List.set_cons_zero, List.set_cons_succ, Bool.and_self, Int.reduceNeg, Nat.reduceAdd]
  exact ⟨.inl trivial, _, rfl, .drop _ _ rfl (by intro i cs h; omega)⟩
theorem addSigned_d10 (s t : Bool) (x : Nat) (c d : Option Nat) (hst : (s == t) = false) (hx : x ≠ 0) (hx' : x < 4294967296) : Ret Tryz.prog G 198 [.bool s, .vec [.int .u32 x] 1 c, .bool t, .vec [] 0 d] [] (.agg [.bool s, .vec [.int .u32 x] 1 (some 1)]) [] := by
  refine Ret_of mixed Tryz.func198 comp198 _ 33 res198 nt198 (by simp) (by simp) ?_
  simp only [c198, wpC, andThen_normal, andThen_ret, inBlk_normal, inBlk_ret, val_t, List.length_nil, reduceCtorEq]
  simp only [r198_0, rA_box, rA_nil, val_k, updO_some, cells_agg, firm_agg, List.length_nil, List.nil_append, true_and]
  simp only [r198_1, rA_mov, rA_beq, rA_nil, goon, condA_bool, both_some, beqA_bool, val_t, updO_some, bindP_some, upd_app, argsE_app, List.getD_cons_zero, List.getD_cons_succ, List.getD_nil, true_and, forall_const, reduceCtorEq, reduceIte, false_implies, Bool.not_false, Bool.false_eq_true, Nat.reduceEqDiff, hst]
  simp only [r198_3, rA_mov, rA_callf, goon, val_t, updO_some, upd_app, argsE_app, List.getD_cons_zero, List.getD_cons_succ, List.getD_nil, List.map_cons, List.map_nil, reduceIte, Nat.reduceEqDiff]
  refine callA_pure (cmpNat10 _ c d) ?_
  simp only [rA_mov, rA_bin, rA_nil, restA_pure, goon, condA_bool, both_some, binA_geq, val_t, val_k, updO_some, bindP_some, upd_app, argsE_app, List.getD_cons_succ, List.getD_nil, and_true, forall_const, reduceIte, false_implies, Bool.true_eq_false, Nat.reduceEqDiff, decide_true, Int.reduceLE]
  simp only [r198_4, rA_mov, rA_callf, goon, val_t, updO_some, upd_app, argsE_app, List.getD_cons_zero, List.getD_cons_succ, List.getD_nil, List.map_cons, List.map_nil, reduceCtorEq, reduceIte, Nat.reduceEqDiff]
  refine callA_pure (subNat10 x c d hx hx') ?_
  simp only [rA_callf, restA_pure, val_t, updO_some, upd_app, argsE_app, List.getD_cons_succ, List.getD_nil, List.map_cons, List.map_nil, reduceIte, Nat.reduceEqDiff]
  refine callA_pure (build1 _ _ _) ?_
  simp only [rA_store, rA_nil, restA_pure, stA_ptr, val_t, updO_some, cells_agg, firm_agg, setL_nil, setL_cons, scalL_nil, scalL_cons, scal_bool, scal_vec, bindP_some, bindP_need, upd_app, argsE_app, getB_zero, List.getD_cons_succ, List.getD_nil, List.length_cons, List.length_nil, true_and, Option.bind_some, reduceIte, Nat.zero_add, Nat.reduceAdd, Nat.reduceEqDiff, Nat.reduceLeDiff, List.set_cons_zero, List.set_cons_succ, Bool.and_self, Nat.reduceAdd]
  exact ⟨.inl trivial, _, rfl, .drop _ _ rfl (by intro i cs h; omega)⟩
theorem addSigned_d11g (s t : Bool) (x : Nat) (y : Nat) (c d : Option Nat) (hst : (s == t) = false) (hx : x ≠ 0) (hx' : x < 4294967296) (hy : y ≠ 0) (hy' : y < 4294967296) (hxy : y < x) : Ret Tryz.prog G 198 [.bool s, .vec [.int .u32 x] 1 c, .bool t, .vec [.int .u32 y] 1 d] [] (.agg [.bool s, .vec [.int .u32 (x - y : Nat)] 1 (some 1)]) [] := by
  have q1 : decide ((x : Int) < (y : Int)) = false := by simp; omega
  have q2 : decide ((y : Int) < (x : Int)) = true := by simp; omega
  refine Ret_of mixed Tryz.func198 comp198 _ 33 res198 nt198 (by simp) (by simp) ?_
  simp only [c198, wpC, andThen_normal, andThen_ret, inBlk_normal, inBlk_ret, val_t, List.length_nil, reduceCtorEq]
  simp only [r198_0, rA_box, rA_nil, val_k, updO_some, cells_agg, firm_agg, List.length_nil, List.nil_append, true_and]
  simp only [r198_1, rA_mov, rA_beq, rA_nil, goon, condA_bool, both_some, beqA_bool, val_t, updO_some, bindP_some, upd_app, argsE_app, List.getD_cons_zero, List.getD_cons_succ, List.getD_nil, true_and, forall_const, reduceCtorEq, reduceIte, false_implies, Bool.not_false, Bool.false_eq_true, Nat.reduceEqDiff, hst]
  simp only [r198_3, rA_mov, rA_callf, goon, val_t, updO_some, upd_app, argsE_app, List.getD_cons_zero, List.getD_cons_succ, List.getD_nil, List.map_cons, List.map_nil, reduceIte, Nat.reduceEqDiff]
  refine callA_pure (cmpNatgt x y c d q1 q2) ?_
  simp only [rA_mov, rA_bin, rA_nil, restA_pure, goon, condA_bool, both_some, binA_geq, val_t, val_k, updO_some, bindP_some, upd_app, argsE_app, List.getD_cons_succ, List.getD_nil, and_true, forall_const, reduceIte, false_implies, Bool.true_eq_false, Nat.reduceEqDiff, decide_true, Int.reduceLE]
  simp only [r198_4, rA_mov, rA_callf, goon, val_t, updO_some, upd_app, argsE_app, List.getD_cons_zero, List.getD_cons_succ, List.getD_nil, List.map_cons, List.map_nil, reduceCtorEq, reduceIte, Nat.reduceEqDiff]
  refine callA_pure (subNat11g x y c d hxy hx') ?_
  simp only [rA_callf, restA_pure, val_t, updO_some, upd_app, argsE_app, List.getD_cons_succ, List.getD_nil, List.map_cons, List.map_nil, reduceIte, Nat.reduceEqDiff]
  refine callA_pure (build1 _ _ _) ?_
  simp only [rA_store, rA_nil, restA_pure, stA_ptr, val_t, updO_some, cells_agg, firm_agg, setL_nil, setL_cons, scalL_nil, scalL_cons, scal_bool, scal_vec, bindP_some, bindP_need, upd_app, argsE_app, getB_zero, List.getD_cons_succ, List.getD_nil, List.length_cons, List.length_nil, true_and, Option.bind_some, reduceIte, Nat.zero_add, Nat.reduceAdd, Nat.reduceEqDiff, Nat.reduceLeDiff, List.set_cons_zero, List.set_cons_succ, Bool.and_self, Nat.reduceAdd]
  exact ⟨.inl trivial, _, rfl, .drop _ _ rfl (by intro i cs h; omega)⟩
theorem addSigned_d11l (s t : Bool) (x : Nat) (y : Nat) (c d : Option Nat) (hst : (s == t) = false) (hx : x ≠ 0) (hx' : x < 4294967296) (hy : y ≠ 0) (hy' : y < 4294967296) (hxy : x < y) : Ret Tryz.prog G 198 [.bool s, .vec [.int .u32 x] 1 c, .bool t, .vec [.int .u32 y] 1 d] [] (.agg [.bool t, .vec [.int .u32 (y - x : Nat)] 1 (some 1)]) [] := by
  have q1 : decide ((x : Int) < (y : Int)) = true := by simp; omega
  refine Ret_of mixed Tryz.func198 comp198 _ 33 res198 nt198 (by simp) (by simp) ?_
  simp only [c198, wpC, andThen_normal, andThen_ret, inBlk_normal, inBlk_ret, val_t, List.length_nil, reduceCtorEq]
  simp only [r198_0, rA_box, rA_nil, val_k, updO_some, cells_agg, firm_agg, List.length_nil, List.nil_append, true_and]
  simp only [r198_1, rA_mov, rA_beq, rA_nil, goon, condA_bool, both_some, beqA_bool, val_t, updO_some, bindP_some, upd_app, argsE_app, List.getD_cons_zero, List.getD_cons_succ, List.getD_nil, true_and, forall_const, reduceCtorEq, reduceIte, false_implies, Bool.not_false, Bool.false_eq_true, Nat.reduceEqDiff, hst]
  simp only [r198_3, rA_mov, rA_callf, goon, val_t, updO_some, upd_app, argsE_app, List.getD_cons_zero, List.getD_cons_succ, List.getD_nil, List.map_cons, List.map_nil, reduceIte, Nat.reduceEqDiff]
  refine callA_pure (cmpNatlt x y c d q1) ?_
  simp only [rA_mov, rA_bin, rA_nil, restA_pure, goon, condA_bool, both_some, binA_geq, val_t, val_k, updO_some, bindP_some, upd_app, argsE_app, List.getD_cons_succ, List.getD_nil, true_and, forall_const, reduceIte, false_implies, Bool.false_eq_true, Nat.reduceEqDiff, decide_false, Int.reduceLE, Int.reduceNeg]
  simp only [r198_5, rA_mov, rA_callf, goon, val_t, updO_some, upd_app, argsE_app, List.getD_cons_zero, List.getD_cons_succ, List.getD_nil, List.map_cons, List.map_nil, reduceIte, Nat.reduceEqDiff, Int.reduceNeg]
  refine callA_pure (subNat11g y x d c hxy hy') ?_
  simp only [rA_callf, restA_pure, val_t, updO_some, upd_app, argsE_app, List.getD_cons_succ, List.getD_nil, List.map_cons, List.map_nil, reduceIte, Nat.reduceEqDiff, Int.reduceNeg]
  refine callA_pure (build1 _ _ _) ?_
  simp only [rA_store, rA_nil, restA_pure, stA_ptr, val_t, updO_some, cells_agg, firm_agg, setL_nil, setL_cons, scalL_nil, scalL_cons, scal_bool, scal_vec, bindP_some, bindP_need, upd_app, argsE_app, getB_zero, List.getD_cons_succ, List.getD_nil, List.length_cons, List.length_nil, true_and, Option.bind_some, reduceIte, Nat.zero_add, Nat.reduceAdd, Nat.reduceEqDiff, Nat.reduceLeDiff, List.set_cons_zero, List.set_cons_succ, Bool.and_self, Int.reduceNeg, Nat.reduceAdd]
  exact ⟨.inl trivial, _, rfl, .drop _ _ rfl (by intro i cs h; omega)⟩
theorem addSigned_d11e (s t : Bool) (x : Nat) (y : Nat) (c d : Option Nat) (hst : (s == t) = false) (hx : x ≠ 0) (hx' : x < 4294967296) (hy : y ≠ 0) (hy' : y < 4294967296) (hxy : x = y) : Ret Tryz.prog G 198 [.bool s, .vec [.int .u32 x] 1 c, .bool t, .vec [.int .u32 y] 1 d] [] (.agg [.bool false, .vec [] 0 (some 0)]) [] := by
  subst hxy
  have q1 : decide ((x : Int) < (x : Int)) = false := by simp
  refine Ret_of mixed Tryz.func198 comp198 _ 33 res198 nt198 (by simp) (by simp) ?_
  simp only [c198, wpC, andThen_normal, andThen_ret, inBlk_normal, inBlk_ret, val_t, List.length_nil, reduceCtorEq]
  simp only [r198_0, rA_box, rA_nil, val_k, updO_some, cells_agg, firm_agg, List.length_nil, List.nil_append, true_and]
  simp only [r198_1, rA_mov, rA_beq, rA_nil, goon, condA_bool, both_some, beqA_bool, val_t, updO_some, bindP_some, upd_app, argsE_app, List.getD_cons_zero, List.getD_cons_succ, List.getD_nil, true_and, forall_const, reduceCtorEq, reduceIte, false_implies, Bool.not_false, Bool.false_eq_true, Nat.reduceEqDiff, hst]
  simp only [r198_3, rA_mov, rA_callf, goon, val_t, updO_some, upd_app, argsE_app, List.getD_cons_zero, List.getD_cons_succ, List.getD_nil, List.map_cons, List.map_nil, reduceIte, Nat.reduceEqDiff]
  refine callA_pure (cmpNateq x x c d q1 q1) ?_
  simp only [rA_mov, rA_bin, rA_nil, restA_pure, goon, condA_bool, both_some, binA_geq, val_t, val_k, updO_some, bindP_some, upd_app, argsE_app, List.getD_cons_succ, List.getD_nil, and_true, forall_const, reduceIte, false_implies, Bool.true_eq_false, Nat.reduceEqDiff, decide_true, le0]
  simp only [r198_4, rA_mov, rA_callf, goon, val_t, updO_some, upd_app, argsE_app, List.getD_cons_zero, List.getD_cons_succ, List.getD_nil, List.map_cons, List.map_nil, reduceCtorEq, reduceIte, Nat.reduceEqDiff]
  refine callA_pure (subNat11e x c d hx') ?_
  simp only [rA_callf, restA_pure, val_t, updO_some, upd_app, argsE_app, List.getD_cons_succ, List.getD_nil, List.map_cons, List.map_nil, reduceIte, Nat.reduceEqDiff]
  refine callA_pure (build0 _ _ _) ?_
  simp only [rA_store, rA_nil, restA_pure, stA_ptr, val_t, updO_some, cells_agg, firm_agg, setL_nil, setL_cons, scalL_nil, scalL_cons, scal_bool, scal_vec, bindP_some, bindP_need, upd_app, argsE_app, getB_zero, List.getD_cons_succ, List.getD_nil, List.length_cons, List.length_nil, true_and, Option.bind_some, reduceIte, Nat.zero_add, Nat.reduceAdd, Nat.reduceEqDiff, Nat.reduceLeDiff, List.set_cons_zero, List.set_cons_succ, Bool.and_self, Nat.reduceAdd]
  exact ⟨.inl trivial, _, rfl, .drop _ _ rfl (by intro i cs h; omega)⟩
theorem add_s00 (s t : Bool) (c d : Option Nat) (hst : (s == t) = true) : Ret Tryz.prog G 164 [.agg [.bool s, .vec [] 0 c], .agg [.bool t, .vec [] 0 d]] [] (.agg [.bool false, .vec [] 0 (some 0)]) [] := by
  refine Ret_of mixed Tryz.func164 comp164 _ 16 res164 nt164 (by simp) (by simp) ?_
  simp only [c164, wpC, andThen_normal, List.length_nil, reduceCtorEq]
  simp only [r164_0, rA_box, rA_nil, val_t, val_k, updO_some, cells_agg, firm_agg, upd_app, argsE_app, List.getD_cons_zero, List.getD_cons_succ, List.length_cons, List.length_nil, List.nil_append, List.cons_append, true_and, reduceIte, Nat.zero_add, Nat.reduceAdd, Nat.reduceEqDiff]
  simp only [r164_1, rA_load, rA_fld, rA_callf, goon, ldA_ptr, ldv_f, fldA_ptr, val_t, updO_some, bindP_some, bindP_need, upd_app, argsE_app, getB_zero, List.getD_cons_zero, List.getD_cons_succ, List.getD_nil, List.map_cons, List.map_nil, List.length_cons, List.length_nil, true_and, forall_const, Option.bind_some, reduceIte, Nat.zero_add, Nat.reduceAdd, Nat.reduceEqDiff, Nat.reduceLeDiff, Nat.reduceAdd]
  refine callA_pure (trim0 c) ?_
  simp only [rA_load, rA_fld, rA_callf, restA_pure, goon, ldA_ptr, ldv_f, fldA_ptr, val_t, updO_some, bindP_some, bindP_need, upd_app, argsE_app, getB_zero, getB_succ, List.getD_cons_zero, List.getD_cons_succ, List.getD_nil, List.map_cons, List.map_nil, List.length_cons, List.length_nil, true_and, forall_const, Option.bind_some, reduceIte, Nat.zero_add, Nat.reduceAdd, Nat.reduceEqDiff, Nat.reduceLeDiff, Nat.reduceAdd]
  refine callA_pure (trim0 d) ?_
  simp only [rA_callf, restA_pure, val_t, updO_some, upd_app, argsE_app, List.getD_cons_succ, List.getD_nil, List.map_cons, List.map_nil, reduceIte, Nat.reduceEqDiff]
  refine callA_pure (addSigned_s00 s t c d hst) ?_
  simp only [rA_store, rA_nil, restA_pure, stA_ptr, val_t, updO_some, cells_agg, firm_agg, setL_nil, setL_cons, scalL_nil, scalL_cons, scal_bool, scal_vec, bindP_some, bindP_need, upd_app, argsE_app, getB_zero, getB_succ, List.getD_cons_succ, List.getD_nil, List.length_cons, List.length_nil, true_and, Option.bind_some, reduceIte, Nat.zero_add, Nat.reduceAdd, Nat.reduceEqDiff, Nat.reduceLeDiff, List.set_cons_zero, List.set_cons_succ, Bool.and_self, Nat.reduceAdd]
  refine ⟨rfl, ?_⟩
  exact ⟨.inl trivial, _, rfl, .drop _ _ rfl (by intro i cs h; omega)⟩
theorem add_s01 (s t : Bool) (y : Nat) (c d : Option Nat) (hst : (s == t) = true) (hy : y ≠ 0) (hy' : y < 4294967296) : Ret Tryz.prog G 164 [.agg [.bool s, .vec [] 0 c], .agg [.bool t, .vec [.int .u32 y] 1 d]] [] (.agg [.bool s, .vec [.int .u32 y] 1 (some 2)]) [] := by
  refine Ret_of mixed Tryz.func164 comp164 _ 16 res164 nt164 (by simp) (by simp) ?_
  simp only [c164, wpC, andThen_normal, List.length_nil, reduceCtorEq]
  simp only [r164_0, rA_box, rA_nil, val_t, val_k, updO_some, cells_agg, firm_agg, upd_app, argsE_app, List.getD_cons_zero, List.getD_cons_succ, List.length_cons, List.length_nil, List.nil_append, List.cons_append, true_and, reduceIte, Nat.zero_add, Nat.reduceAdd, Nat.reduceEqDiff]
  simp only [r164_1, rA_load, rA_fld, rA_callf, goon, ldA_ptr, ldv_f, fldA_ptr, val_t, updO_some, bindP_some, bindP_need, upd_app, argsE_app, getB_zero, List.getD_cons_zero, List.getD_cons_succ, List.getD_nil, List.map_cons, List.map_nil, List.length_cons, List.length_nil, true_and, forall_const, Option.bind_some, reduceIte, Nat.zero_add, Nat.reduceAdd, Nat.reduceEqDiff, Nat.reduceLeDiff, Nat.reduceAdd]
  refine callA_pure (trim0 c) ?_
  simp only [rA_load, rA_fld, rA_callf, restA_pure, goon, ldA_ptr, ldv_f, fldA_ptr, val_t, updO_some, bindP_some, bindP_need, upd_app, argsE_app, getB_zero, getB_succ, List.getD_cons_zero, List.getD_cons_succ, List.getD_nil, List.map_cons, List.map_nil, List.length_cons, List.length_nil, true_and, forall_const, Option.bind_some, reduceIte, Nat.zero_add, Nat.reduceAdd, Nat.reduceEqDiff, Nat.reduceLeDiff, Nat.reduceAdd]
  refine callA_pure (trim1 y d hy) ?_
  simp only [rA_callf, restA_pure, val_t, updO_some, upd_app, argsE_app, List.getD_cons_succ, List.getD_nil, List.map_cons, List.map_nil, reduceIte, Nat.reduceEqDiff]
  refine callA_pure (addSigned_s01 s t y c d hst hy hy') ?_
  simp only [rA_store, rA_nil, restA_pure, stA_ptr, val_t, updO_some, cells_agg, firm_agg, setL_nil, setL_cons, scalL_nil, scalL_cons, scal_bool, scal_vec, bindP_some, bindP_need, upd_app, argsE_app, getB_zero, getB_succ, List.getD_cons_succ, List.getD_nil, List.length_cons, List.length_nil, true_and, Option.bind_some, reduceIte, Nat.zero_add, Nat.reduceAdd, Nat.reduceEqDiff, Nat.reduceLeDiff, List.set_cons_zero, List.set_cons_succ, Bool.and_self, Nat.reduceAdd]
  refine ⟨rfl, ?_⟩
  exact ⟨.inl trivial, _, rfl, .drop _ _ rfl (by intro i cs h; omega)⟩
theorem add_s10 (s t : Bool) (x : Nat) (c d : Option Nat) (hst : (s == t) = true) (hx : x ≠ 0) (hx' : x < 4294967296) : Ret Tryz.prog G 164 [.agg [.bool s, .vec [.int .u32 x] 1 c], .agg [.bool t, .vec [] 0 d]] [] (.agg [.bool s, .vec [.int .u32 x] 1 (some 2)]) [] := by
  refine Ret_of mixed Tryz.func164 comp164 _ 16 res164 nt164 (by simp) (by simp) ?_
  simp only [c164, wpC, andThen_normal, List.length_nil, reduceCtorEq]
  simp only [r164_0, rA_box, rA_nil, val_t, val_k, updO_some, cells_agg, firm_agg, upd_app, argsE_app, List.getD_cons_zero, List.getD_cons_succ, List.length_cons, List.length_nil, List.nil_append, List.cons_append, true_and, reduceIte, Nat.zero_add, Nat.reduceAdd, Nat.reduceEqDiff]
  simp only [r164_1, rA_load, rA_fld, rA_callf, goon, ldA_ptr, ldv_f, fldA_ptr, val_t, updO_some, bindP_some, bindP_need, upd_app, argsE_app, getB_zero, List.getD_cons_zero, List.getD_cons_succ, List.getD_nil, List.map_cons, List.map_nil, List.length_cons, List.length_nil, true_and, forall_const, Option.bind_some, reduceIte, Nat.zero_add, Nat.reduceAdd, Nat.reduceEqDiff, Nat.reduceLeDiff, Nat.reduceAdd]
  refine callA_pure (trim1 x c hx) ?_
  simp only [rA_load, rA_fld, rA_callf, restA_pure, goon, ldA_ptr, ldv_f, fldA_ptr, val_t, updO_some, bindP_some, bindP_need, upd_app, argsE_app, getB_zero, getB_succ, List.getD_cons_zero, List.getD_cons_succ, List.getD_nil, List.map_cons, List.map_nil, List.length_cons, List.length_nil, true_and, forall_const, Option.bind_some, reduceIte, Nat.zero_add, Nat.reduceAdd, Nat.reduceEqDiff, Nat.reduceLeDiff, Nat.reduceAdd]
  refine callA_pure (trim0 d) ?_
  simp only [rA_callf, restA_pure, val_t, updO_some, upd_app, argsE_app, List.getD_cons_succ, List.getD_nil, List.map_cons, List.map_nil, reduceIte, Nat.reduceEqDiff]
  refine callA_pure (addSigned_s10 s t x c d hst hx hx') ?_
  simp only [rA_store, rA_nil, restA_pure, stA_ptr, val_t, updO_some, cells_agg, firm_agg, setL_nil, setL_cons, scalL_nil, scalL_cons, scal_bool, scal_vec, bindP_some, bindP_need, upd_app, argsE_app, getB_zero, getB_succ, List.getD_cons_succ, List.getD_nil, List.length_cons, List.length_nil, true_and, Option.bind_some, reduceIte, Nat.zero_add, Nat.reduceAdd, Nat.reduceEqDiff, Nat.reduceLeDiff, List.set_cons_zero, List.set_cons_succ, Bool.and_self, Nat.reduceAdd]
  refine ⟨rfl, ?_⟩
  exact ⟨.inl trivial, _, rfl, .drop _ _ rfl (by intro i cs h; omega)⟩
theorem add_s11 (s t : Bool) (x : Nat) (y : Nat) (c d : Option Nat) (hst : (s == t) = true) (hx : x ≠ 0) (hx' : x < 4294967296) (hy : y ≠ 0) (hy' : y < 4294967296) (hxy : x + y < 4294967296) : Ret Tryz.prog G 164 [.agg [.bool s, .vec [.int .u32 x] 1 c], .agg [.bool t, .vec [.int .u32 y] 1 d]] [] (.agg [.bool s, .vec [.int .u32 (x + y : Nat)] 1 (some 2)]) [] := by
  refine Ret_of mixed Tryz.func164 comp164 _ 16 res164 nt164 (by simp) (by simp) ?_
  simp only [c164, wpC, andThen_normal, List.length_nil, reduceCtorEq]
  simp only [r164_0, rA_box, rA_nil, val_t, val_k, updO_some, cells_agg, firm_agg, upd_app, argsE_app, List.getD_cons_zero, List.getD_cons_succ, List.length_cons, List.length_nil, List.nil_append, List.cons_append, true_and, reduceIte, Nat.zero_add, Nat.reduceAdd, Nat.reduceEqDiff]
  simp only [r164_1, rA_load, rA_fld, rA_callf, goon, ldA_ptr, ldv_f, fldA_ptr, val_t, updO_some, bindP_some, bindP_need, upd_app, argsE_app, getB_zero, List.getD_cons_zero, List.getD_cons_succ, List.getD_nil, List.map_cons, List.map_nil, List.length_cons, List.length_nil, true_and, forall_const, Option.bind_some, reduceIte, Nat.zero_add, Nat.reduceAdd, Nat.reduceEqDiff, Nat.reduceLeDiff, Nat.reduceAdd]
  refine callA_pure (trim1 x c hx) ?_
  simp only [rA_load, rA_fld, rA_callf, restA_pure, goon, ldA_ptr, ldv_f, fldA_ptr, val_t, updO_some, bindP_some, bindP_need, upd_app, argsE_app, getB_zero, getB_succ, List.getD_cons_zero, List.getD_cons_succ, List.getD_nil, List.map_cons, List.map_nil, List.length_cons, List.length_nil, true_and, forall_const, Option.bind_some, reduceIte, Nat.zero_add, Nat.reduceAdd, Nat.reduceEqDiff, Nat.reduceLeDiff, Nat.reduceAdd]
  refine callA_pure (trim1 y d hy) ?_
  simp only [rA_callf, restA_pure, val_t, updO_some, upd_app, argsE_app, List.getD_cons_succ, List.getD_nil, List.map_cons, List.map_nil, reduceIte, Nat.reduceEqDiff]
  refine callA_pure (addSigned_s11 s t x y c d hst hx hx' hy hy' hxy) ?_
  simp only [rA_store, rA_nil, restA_pure, stA_ptr, val_t, updO_some, cells_agg, firm_agg, setL_nil, setL_cons, scalL_nil, scalL_cons, scal_bool, scal_vec, bindP_some, bindP_need, upd_app, argsE_app, getB_zero, getB_succ, List.getD_cons_succ, List.getD_nil, List.length_cons, List.length_nil, true_and, Option.bind_some, reduceIte, Nat.zero_add, Nat.reduceAdd, Nat.reduceEqDiff, Nat.reduceLeDiff, List.set_cons_zero, List.set_cons_succ, Bool.and_self, Nat.reduceAdd]
  refine ⟨rfl, ?_⟩
  exact ⟨.inl trivial, _, rfl, .drop _ _ rfl (by intro i cs h; omega)⟩
theorem add_d00 (s t : Bool) (c d : Option Nat) (hst : (s == t) = false) : Ret Tryz.prog G 164 [.agg [.bool s, .vec [] 0 c], .agg [.bool t, .vec [] 0 d]] [] (.agg [.bool false, .vec [] 0 (some 0)]) [] := by
  refine Ret_of mixed Tryz.func164 comp164 _ 16 res164 nt164 (by simp) (by simp) ?_
  simp only [c164, wpC, andThen_normal, List.length_nil, reduceCtorEq]
  simp only [r164_0, rA_box, rA_nil, val_t, val_k, updO_some, cells_agg, firm_agg, upd_app, argsE_app, List.getD_cons_zero, List.getD_cons_succ, List.length_cons, List.length_nil, List.nil_append, List.cons_append, true_and, reduceIte, Nat.zero_add, Nat.reduceAdd, Nat.reduceEqDiff]
  simp only [r164_1, rA_load, rA_fld, rA_callf, goon, ldA_ptr, ldv_f, fldA_ptr, val_t, updO_some, bindP_some, bindP_need, upd_app, argsE_app, getB_zero, List.getD_cons_zero, List.getD_cons_succ, List.getD_nil, List.map_cons, List.map_nil, List.length_cons, List.length_nil, true_and, forall_const, Option.bind_some, reduceIte, Nat.zero_add, Nat.reduceAdd, Nat.reduceEqDiff, Nat.reduceLeDiff, Nat.reduceAdd]
  refine callA_pure (trim0 c) ?_
  simp only [rA_load, rA_fld, rA_callf, restA_pure, goon, ldA_ptr, ldv_f, fldA_ptr, val_t, updO_some, bindP_some, bindP_need, upd_app, argsE_app, getB_zero, getB_succ, List.getD_cons_zero, List.getD_cons_succ, List.getD_nil, List.map_cons, List.map_nil, List.length_cons, List.length_nil, true_and, forall_const, Option.bind_some, reduceIte, Nat.zero_add, Nat.reduceAdd, Nat.reduceEqDiff, Nat.reduceLeDiff, Nat.reduceAdd]
  refine callA_pure (trim0 d) ?_
  simp only [rA_callf, restA_pure, val_t, updO_some, upd_app, argsE_app, List.getD_cons_succ, List.getD_nil, List.map_cons, List.map_nil, reduceIte, Nat.reduceEqDiff]
  refine callA_pure (addSigned_d00 s t c d hst) ?_
  simp only [rA_store, rA_nil, restA_pure, stA_ptr, val_t, updO_some, cells_agg, firm_agg, setL_nil, setL_cons, scalL_nil, scalL_cons, scal_bool, scal_vec, bindP_some, bindP_need, upd_app, argsE_app, getB_zero, getB_succ, List.getD_cons_succ, List.getD_nil, List.length_cons, List.length_nil, true_and, Option.bind_some, reduceIte, Nat.zero_add, Nat.reduceAdd, Nat.reduceEqDiff, Nat.reduceLeDiff, List.set_cons_zero, List.set_cons_succ, Bool.and_self, Nat.reduceAdd]
  refine ⟨rfl, ?_⟩
  exact ⟨.inl trivial, _, rfl, .drop _ _ rfl (by intro i cs h; omega)⟩
theorem add_d01 (s t : Bool) (y : Nat) (c d : Option Nat) (hst : (s == t) = false) (hy : y ≠ 0) (hy' : y < 4294967296) : Ret Tryz.prog G 164 [.agg [.bool s, .vec [] 0 c], .agg [.bool t, .vec [.int .u32 y] 1 d]] [] (.agg [.bool t, .vec [.int .u32 y] 1 (some 1)]) [] := by
  refine Ret_of mixed Tryz.func164 comp164 _ 16 res164 nt164 (by simp) (by simp) ?_
  simp only [c164, wpC, andThen_normal, List.length_nil, reduceCtorEq]
  simp only [r164_0, rA_box, rA_nil, val_t, val_k, updO_some, cells_agg, firm_agg, upd_app, argsE_app, List.getD_cons_zero, List.getD_cons_succ, List.length_cons, List.length_nil, List.nil_append, List.cons_append, true_and, reduceIte, Nat.zero_add, Nat.reduceAdd, Nat.reduceEqDiff]
  simp only [r164_1, rA_load, rA_fld, rA_callf, goon, ldA_ptr, ldv_f, fldA_ptr, val_t, updO_some, bindP_some, bindP_need, upd_app, argsE_app, getB_zero, List.getD_cons_zero, List.getD_cons_succ, List.getD_nil, List.map_cons, List.map_nil, List.length_cons, List.length_nil, true_and, forall_const, Option.bind_some, reduceIte, Nat.zero_add, Nat.reduceAdd, Nat.reduceEqDiff, Nat.reduceLeDiff, Nat.reduceAdd]
  refine callA_pure (trim0 c) ?_
  simp only [rA_load, rA_fld, rA_callf, restA_pure, goon, ldA_ptr, ldv_f, fldA_ptr, val_t, updO_some, bindP_some, bindP_need, upd_app, argsE_app, getB_zero, getB_succ, List.getD_cons_zero, List.getD_cons_succ, List.getD_nil, List.map_cons, List.map_nil, List.length_cons, List.length_nil, true_and, forall_const, Option.bind_some, reduceIte, Nat.zero_add, Nat.reduceAdd, Nat.reduceEqDiff, Nat.reduceLeDiff, Nat.reduceAdd]
  refine callA_pure (trim1 y d hy) ?_
  simp only [rA_callf, restA_pure, val_t, updO_some, upd_app, argsE_app, List.getD_cons_succ, List.getD_nil, List.map_cons, List.map_nil, reduceIte, Nat.reduceEqDiff]
  refine callA_pure (addSigned_d01 s t y c d hst hy hy') ?_
  simp only [rA_store, rA_nil, restA_pure, stA_ptr, val_t, updO_some, cells_agg, firm_agg, setL_nil, setL_cons, scalL_nil, scalL_cons, scal_bool, scal_vec, bindP_some, bindP_need, upd_app, argsE_app, getB_zero, getB_succ, List.getD_cons_succ, List.getD_nil, List.length_cons, List.length_nil, true_and, Option.bind_some, reduceIte, Nat.zero_add, Nat.reduceAdd, Nat.reduceEqDiff, Nat.reduceLeDiff, List.set_cons_zero, List.set_cons_succ, Bool.and_self, Nat.reduceAdd]
  refine ⟨rfl, ?_⟩
  exact ⟨.inl trivial, _, rfl, .drop _ _ rfl (by intro i cs h; omega)⟩
theorem add_d10 (s t : Bool) (x : Nat) (c d : Option Nat) (hst : (s == t) = false) (hx : x ≠ 0) (hx' : x < 4294967296) : Ret Tryz.prog G 164 [.agg [.bool s, .vec [.int .u32 x] 1 c], .agg [.bool t, .vec [] 0 d]] [] (.agg [.bool s, .vec [.int .u32 x] 1 (some 1)]) [] := by
  refine Ret_of mixed Tryz.func164 comp164 _ 16 res164 nt164 (by simp) (by simp) ?_
  simp only [c164, wpC, andThen_normal, List.length_nil, reduceCtorEq]
  simp only [r164_0, rA_box, rA_nil, val_t, val_k, updO_some, cells_agg, firm_agg, upd_app, argsE_app, List.getD_cons_zero, List.getD_cons_succ, List.length_cons, List.length_nil, List.nil_append, List.cons_append, true_and, reduceIte, Nat.zero_add, Nat.reduceAdd, Nat.reduceEqDiff]
  simp only [r164_1, rA_load, rA_fld, rA_callf, goon, ldA_ptr, ldv_f, fldA_ptr, val_t, updO_some, bindP_some, bindP_need, upd_app, argsE_app, getB_zero, List.getD_cons_zero, List.getD_cons_succ, List.getD_nil, List.map_cons, List.map_nil, List.length_cons, List.length_nil, true_and, forall_const, Option.bind_some, reduceIte, Nat.zero_add, Nat.reduceAdd, Nat.reduceEqDiff, Nat.reduceLeDiff, Nat.reduceAdd]
  refine callA_pure (trim1 x c hx) ?_
  simp only [rA_load, rA_fld, rA_callf, restA_pure, goon, ldA_ptr, ldv_f, fldA_ptr, val_t, updO_some, bindP_some, bindP_need, upd_app, argsE_app, getB_zero, getB_succ, List.getD_cons_zero, List.getD_cons_succ, List.getD_nil, List.map_cons, List.map_nil, List.length_cons, List.length_nil, true_and, forall_const, Option.bind_some, reduceIte, Nat.zero_add, Nat.reduceAdd, Nat.reduceEqDiff, Nat.reduceLeDiff, Nat.reduceAdd]
  refine callA_pure (trim0 d) ?_
  simp only [rA_callf, restA_pure, val_t, updO_some, upd_app, argsE_app, List.getD_cons_succ, List.getD_nil, List.map_cons, List.map_nil, reduceIte, Nat.reduceEqDiff]
  refine callA_pure (addSigned_d10 s t x c d hst hx hx') ?_
  simp only [rA_store, rA_nil, restA_pure, stA_ptr, val_t, updO_some, cells_agg, firm_agg, setL_nil, setL_cons, scalL_nil, scalL_cons, scal_bool, scal_vec, bindP_some, bindP_need, upd_app, argsE_app, getB_zero, getB_succ, List.getD_cons_succ, List.getD_nil, List.length_cons, List.length_nil, true_and, Option.bind_some, reduceIte, Nat.zero_add, Nat.reduceAdd, Nat.reduceEqDiff, Nat.reduceLeDiff, List.set_cons_zero, List.set_cons_succ, Bool.and_self, Nat.reduceAdd]
  refine ⟨rfl, ?_⟩
  exact ⟨.inl trivial, _, rfl, .drop _ _ rfl (by intro i cs h; omega)⟩
theorem add_d11g (s t : Bool) (x : Nat) (y : Nat) (c d : Option Nat) (hst : (s == t) = false) (hx : x ≠ 0) (hx' : x < 4294967296) (hy : y ≠ 0) (hy' : y < 4294967296) (hxy : y < x) : Ret Tryz.prog G 164 [.agg [.bool s, .vec [.int .u32 x] 1 c], .agg [.bool t, .vec [.int .u32 y] 1 d]] [] (.agg [.bool s, .vec [.int .u32 (x - y : Nat)] 1 (some 1)]) [] := by
  refine Ret_of mixed Tryz.func164 comp164 _ 16 res164 nt164 (by simp) (by simp) ?_
  simp only [c164, wpC, andThen_normal, List.length_nil, reduceCtorEq]
  simp only [r164_0, rA_box, rA_nil, val_t, val_k, updO_some, cells_agg, firm_agg, upd_app, argsE_app, List.getD_cons_zero, List.getD_cons_succ, List.length_cons, List.length_nil, List.nil_append, List.cons_append, true_and, reduceIte, Nat.zero_add, Nat.reduceAdd, Nat.reduceEqDiff]
  simp only [r164_1, rA_load, rA_fld, rA_callf, goon, ldA_ptr, ldv_f, fldA_ptr, val_t, updO_some, bindP_some, bindP_need, upd_app, argsE_app, getB_zero, List.getD_cons_zero, List.getD_cons_succ, List.getD_nil, List.map_cons, List.map_nil, List.length_cons, List.length_nil, true_and, forall_const, Option.bind_some, reduceIte, Nat.zero_add, Nat.reduceAdd, Nat.reduceEqDiff, Nat.reduceLeDiff, Nat.reduceAdd]
  refine callA_pure (trim1 x c hx) ?_
  simp only [rA_load, rA_fld, rA_callf, restA_pure, goon, ldA_ptr, ldv_f, fldA_ptr, val_t, updO_some, bindP_some, bindP_need, upd_app, argsE_app, getB_zero, getB_succ, List.getD_cons_zero, List.getD_cons_succ, List.getD_nil, List.map_cons, List.map_nil, List.length_cons, List.length_nil, true_and, forall_const, Option.bind_some, reduceIte, Nat.zero_add, Nat.reduceAdd, Nat.reduceEqDiff, Nat.reduceLeDiff, Nat.reduceAdd]
  refine callA_pure (trim1 y d hy) ?_
  simp only [rA_callf, restA_pure, val_t, updO_some, upd_app, argsE_app, List.getD_cons_succ, List.getD_nil, List.map_cons, List.map_nil, reduceIte, Nat.reduceEqDiff]
  refine callA_pure (addSigned_d11g s t x y c d hst hx hx' hy hy' hxy) ?_
  simp only [rA_store, rA_nil, restA_pure, stA_ptr, val_t, updO_some, cells_agg, firm_agg, setL_nil, setL_cons, scalL_nil, scalL_cons, scal_bool, scal_vec, bindP_some, bindP_need, upd_app, argsE_app, getB_zero, getB_succ, List.getD_cons_succ, List.getD_nil, List.length_cons, List.length_nil, true_and, Option.bind_some, reduceIte, Nat.zero_add, Nat.reduceAdd, Nat.reduceEqDiff, Nat.reduceLeDiff, List.set_cons_zero, List.set_cons_succ, Bool.and_self, Nat.reduceAdd]
  refine ⟨rfl, ?_⟩
  exact ⟨.inl trivial, _, rfl, .drop _ _ rfl (by intro i cs h; omega)⟩
theorem add_d11l (s t : Bool) (x : Nat) (y : Nat) (c d : Option Nat) (hst : (s == t) = false) (hx : x ≠ 0) (hx' : x < 4294967296) (hy : y ≠ 0) (hy' : y < 4294967296) (hxy : x < y) : Ret Tryz.prog G 164 [.agg [.bool s, .vec [.int .u32 x] 1 c], .agg [.bool t, .vec [.int .u32 y] 1 d]] [] (.agg [.bool t, .vec [.int .u32 (y - x : Nat)] 1 (some 1)]) [] := by
  refine Ret_of mixed Tryz.func164 comp164 _ 16 res164 nt164 (by simp) (by simp) ?_
  simp only [c164, wpC, andThen_normal, List.length_nil, reduceCtorEq]
  simp only [r164_0, rA_box, rA_nil, val_t, val_k, updO_some, cells_agg, firm_agg, upd_app, argsE_app, List.getD_cons_zero, List.getD_cons_succ, List.length_cons, List.length_nil, List.nil_append, List.cons_append, true_and, reduceIte, Nat.zero_add, Nat.reduceAdd, Nat.reduceEqDiff]
  simp only [r164_1, rA_load, rA_fld, rA_callf, goon, ldA_ptr, ldv_f, fldA_ptr, val_t, updO_some, bindP_some, bindP_need, upd_app, argsE_app, getB_zero, List.getD_cons_zero, List.getD_cons_succ, List.getD_nil, List.map_cons, List.map_nil, List.length_cons, List.length_nil, true_and, forall_const, Option.bind_some, reduceIte, Nat.zero_add, Nat.reduceAdd, Nat.reduceEqDiff, Nat.reduceLeDiff, Nat.reduceAdd]
  refine callA_pure (trim1 x c hx) ?_
  simp only [rA_load, rA_fld, rA_callf, restA_pure, goon, ldA_ptr, ldv_f, fldA_ptr, val_t, updO_some, bindP_some, bindP_need, upd_app, argsE_app, getB_zero, getB_succ, List.getD_cons_zero, List.getD_cons_succ, List.getD_nil, List.map_cons, List.map_nil, List.length_cons, List.length_nil, true_and, forall_const, Option.bind_some, reduceIte, Nat.zero_add, Nat.reduceAdd, Nat.reduceEqDiff, Nat.reduceLeDiff, Nat.reduceAdd]
  refine callA_pure (trim1 y d hy) ?_
  simp only [rA_callf, restA_pure, val_t, updO_some, upd_app, argsE_app, List.getD_cons_succ, List.getD_nil, List.map_cons, List.map_nil, reduceIte, Nat.reduceEqDiff]
  refine callA_pure (addSigned_d11l s t x y c d hst hx hx' hy hy' hxy) ?_
  simp only [rA_store, rA_nil, restA_pure, stA_ptr, val_t, updO_some, cells_agg, firm_agg, setL_nil, setL_cons, scalL_nil, scalL_cons, scal_bool, scal_vec, bindP_some, bindP_need, upd_app, argsE_app, getB_zero, getB_succ, List.getD_cons_succ, List.getD_nil, List.length_cons, List.length_nil, true_and, Option.bind_some, reduceIte, Nat.zero_add, Nat.reduceAdd, Nat.reduceEqDiff, Nat.reduceLeDiff, List.set_cons_zero, List.set_cons_succ, Bool.and_self, Nat.reduceAdd]
  refine ⟨rfl, ?_⟩
  exact ⟨.inl trivial, _, rfl, .drop _ _ rfl (by intro i cs h; omega)⟩
theorem add_d11e (s t : Bool) (x : Nat) (y : Nat) (c d : Option Nat) (hst : (s == t) = false) (hx : x ≠ 0) (hx' : x < 4294967296) (hy : y ≠ 0) (hy' : y < 4294967296) (hxy : x = y) : Ret Tryz.prog G 164 [.agg [.bool s, .vec [.int .u32 x] 1 c], .agg [.bool t, .vec [.int .u32 y] 1 d]] [] (.agg [.bool false, .vec [] 0 (some 0)]) [] := by
  refine Ret_of mixed Tryz.func164 comp164 _ 16 res164 nt164 (by simp) (by simp) ?_
  simp only [c164, wpC, andThen_normal, List.length_nil, reduceCtorEq]
  simp only [r164_0, rA_box, rA_nil, val_t, val_k, updO_some, cells_agg, firm_agg, upd_app, argsE_app, List.getD_cons_zero, List.getD_cons_succ, List.length_cons, List.length_nil, List.nil_append, List.cons_append, true_and, reduceIte, Nat.zero_add, Nat.reduceAdd, Nat.reduceEqDiff]
  simp only [r164_1, rA_load, rA_fld, rA_callf, goon, ldA_ptr, ldv_f, fldA_ptr, val_t, updO_some, bindP_some, bindP_need, upd_app, argsE_app, getB_zero, List.getD_cons_zero, List.getD_cons_succ, List.getD_nil, List.map_cons, List.map_nil, List.length_cons, List.length_nil, true_and, forall_const, Option.bind_some, reduceIte, Nat.zero_add, Nat.reduceAdd, Nat.reduceEqDiff, Nat.reduceLeDiff, Nat.reduceAdd]
  refine callA_pure (trim1 x c hx) ?_
  simp only [rA_load, rA_fld, rA_callf, restA_pure, goon, ldA_ptr, ldv_f, fldA_ptr, val_t, updO_some, bindP_some, bindP_need, upd_app, argsE_app, getB_zero, getB_succ, List.getD_cons_zero, List.getD_cons_succ, List.getD_nil, List.map_cons, List.map_nil, List.length_cons, List.length_nil, true_and, forall_const, Option.bind_some, reduceIte, Nat.zero_add, Nat.reduceAdd, Nat.reduceEqDiff, Nat.reduceLeDiff, Nat.reduceAdd]
  refine callA_pure (trim1 y d hy) ?_
  simp only [rA_callf, restA_pure, val_t, updO_some, upd_app, argsE_app, List.getD_cons_succ, List.getD_nil, List.map_cons, List.map_nil, reduceIte, Nat.reduceEqDiff]
  refine callA_pure (addSigned_d11e s t x y c d hst hx hx' hy hy' hxy) ?_
  simp only [rA_store, rA_nil, restA_pure, stA_ptr, val_t, updO_some, cells_agg, firm_agg, setL_nil, setL_cons, scalL_nil, scalL_cons, scal_bool, scal_vec, bindP_some, bindP_need, upd_app, argsE_app, getB_zero, getB_succ, List.getD_cons_succ, List.getD_nil, List.length_cons, List.length_nil, true_and, Option.bind_some, reduceIte, Nat.zero_add, Nat.reduceAdd, Nat.reduceEqDiff, Nat.reduceLeDiff, List.set_cons_zero, List.set_cons_succ, Bool.and_self, Nat.reduceAdd]
  refine ⟨rfl, ?_⟩
  exact ⟨.inl trivial, _, rfl, .drop _ _ rfl (by intro i cs h; omega)⟩
theorem sub_s00 (s t : Bool) (c d : Option Nat) (hst : (s == (!t)) = true) : Ret Tryz.prog G 167 [.agg [.bool s, .vec [] 0 c], .agg [.bool t, .vec [] 0 d]] [] (.agg [.bool false, .vec [] 0 (some 0)]) [] := by
  refine Ret_of mixed Tryz.func167 comp167 _ 17 res167 nt167 (by simp) (by simp) ?_
  simp only [c167, wpC, andThen_normal, List.length_nil, reduceCtorEq]
  simp only [r167_0, rA_box, rA_nil, val_t, val_k, updO_some, cells_agg, firm_agg, upd_app, argsE_app, List.getD_cons_zero, List.getD_cons_succ, List.length_cons, List.length_nil, List.nil_append, List.cons_append, true_and, reduceIte, Nat.zero_add, Nat.reduceAdd, Nat.reduceEqDiff]
  simp only [r167_1, rA_load, rA_fld, rA_callf, goon, ldA_ptr, ldv_f, fldA_ptr, val_t, updO_some, bindP_some, bindP_need, upd_app, argsE_app, getB_zero, List.getD_cons_zero, List.getD_cons_succ, List.getD_nil, List.map_cons, List.map_nil, List.length_cons, List.length_nil, true_and, forall_const, Option.bind_some, reduceIte, Nat.zero_add, Nat.reduceAdd, Nat.reduceEqDiff, Nat.reduceLeDiff, Nat.reduceAdd]
  refine callA_pure (trim0 c) ?_
  simp only [rA_load, rA_un, rA_fld, rA_callf, restA_pure, goon, ldA_ptr, ldv_f, unA_not, fldA_ptr, val_t, updO_some, bindP_some, bindP_need, upd_app, argsE_app, getB_zero, getB_succ, List.getD_cons_zero, List.getD_cons_succ, List.getD_nil, List.map_cons, List.map_nil, List.length_cons, List.length_nil, true_and, forall_const, Option.bind_some, reduceIte, Nat.zero_add, Nat.reduceAdd, Nat.reduceEqDiff, Nat.reduceLeDiff, Nat.reduceAdd]
  refine callA_pure (trim0 d) ?_
  simp only [rA_callf, restA_pure, val_t, updO_some, upd_app, argsE_app, List.getD_cons_succ, List.getD_nil, List.map_cons, List.map_nil, reduceIte, Nat.reduceEqDiff]
  refine callA_pure (addSigned_s00 s (!t) c d hst) ?_
  simp only [rA_store, rA_nil, restA_pure, stA_ptr, val_t, updO_some, cells_agg, firm_agg, setL_nil, setL_cons, scalL_nil, scalL_cons, scal_bool, scal_vec, bindP_some, bindP_need, upd_app, argsE_app, getB_zero, getB_succ, List.getD_cons_succ, List.getD_nil, List.length_cons, List.length_nil, true_and, Option.bind_some, reduceIte, Nat.zero_add, Nat.reduceAdd, Nat.reduceEqDiff, Nat.reduceLeDiff, List.set_cons_zero, List.set_cons_succ, Bool.and_self, Nat.reduceAdd]
  refine ⟨rfl, ?_⟩
  exact ⟨.inl trivial, _, rfl, .drop _ _ rfl (by intro i cs h; omega)⟩
theorem sub_s01 (s t : Bool) (y : Nat) (c d : Option Nat) (hst : (s == (!t)) = true) (hy : y ≠ 0) (hy' : y < 4294967296) : Ret Tryz.prog G 167 [.agg [.bool s, .vec [] 0 c], .agg [.bool t, .vec [.int .u32 y] 1 d]] [] (.agg [.bool s, .vec [.int .u32 y] 1 (some 2)]) [] := by
  refine Ret_of mixed Tryz.func167 comp167 _ 17 res167 nt167 (by simp) (by simp) ?_
  simp only [c167, wpC, andThen_normal, List.length_nil, reduceCtorEq]
  simp only [r167_0, rA_box, rA_nil, val_t, val_k, updO_some, cells_agg, firm_agg, upd_app, argsE_app, List.getD_cons_zero, List.getD_cons_succ, List.length_cons, List.length_nil, List.nil_append, List.cons_append, true_and, reduceIte, Nat.zero_add, Nat.reduceAdd, Nat.reduceEqDiff]
  simp only [r167_1, rA_load, rA_fld, rA_callf, goon, ldA_ptr, ldv_f, fldA_ptr, val_t, updO_some, bindP_some, bindP_need, upd_app, argsE_app, getB_zero, List.getD_cons_zero, List.getD_cons_succ, List.getD_nil, List.map_cons, List.map_nil, List.length_cons, List.length_nil, true_and, forall_const, Option.bind_some, reduceIte, Nat.zero_add, Nat.reduceAdd, Nat.reduceEqDiff, Nat.reduceLeDiff, Nat.reduceAdd]
  refine callA_pure (trim0 c) ?_
  simp only [rA_load, rA_un, rA_fld, rA_callf, restA_pure, goon, ldA_ptr, ldv_f, unA_not, fldA_ptr, val_t, updO_some, bindP_some, bindP_need, upd_app, argsE_app, getB_zero, getB_succ, List.getD_cons_zero, List.getD_cons_succ, List.getD_nil, List.map_cons, List.map_nil, List.length_cons, List.length_nil, true_and, forall_const, Option.bind_some, reduceIte, Nat.zero_add, Nat.reduceAdd, Nat.reduceEqDiff, Nat.reduceLeDiff, Nat.reduceAdd]
  refine callA_pure (trim1 y d hy) ?_
  simp only [rA_callf, restA_pure, val_t, updO_some, upd_app, argsE_app, List.getD_cons_succ, List.getD_nil, List.map_cons, List.map_nil, reduceIte, Nat.reduceEqDiff]
  refine callA_pure (addSigned_s01 s (!t) y c d hst hy hy') ?_
  simp only [rA_store, rA_nil, restA_pure, stA_ptr, val_t, updO_some, cells_agg, firm_agg, setL_nil, setL_cons, scalL_nil, scalL_cons, scal_bool, scal_vec, bindP_some, bindP_need, upd_app, argsE_app, getB_zero, getB_succ, List.getD_cons_succ, List.getD_nil, List.length_cons, List.length_nil, true_and, Option.bind_some, reduceIte, Nat.zero_add, Nat.reduceAdd, Nat.reduceEqDiff, Nat.reduceLeDiff, List.set_cons_zero, List.set_cons_succ, Bool.and_self, Nat.reduceAdd]
  refine ⟨rfl, ?_⟩
  exact ⟨.inl trivial, _, rfl, .drop _ _ rfl (by intro i cs h; omega)⟩
theorem sub_s10 (s t : Bool) (x : Nat) (c d : Option Nat) (hst : (s == (!t)) = true) (hx : x ≠ 0) (hx' : x < 4294967296) : Ret Tryz.prog G 167 [.agg [.bool s, .vec [.int .u32 x] 1 c], .agg [.bool t, .vec [] 0 d]] [] (.agg [.bool s, .vec [.int .u32 x] 1 (some 2)]) [] := by
  refine Ret_of mixed Tryz.func167 comp167 _ 17 res167 nt167 (by simp) (by simp) ?_
  simp only [c167, wpC, andThen_normal, List.length_nil, reduceCtorEq]
  simp only [r167_0, rA_box, rA_nil, val_t, val_k, updO_some, cells_agg, firm_agg, upd_app, argsE_app, List.getD_cons_zero, List.getD_cons_succ, List.length_cons, List.length_nil, List.nil_append, List.cons_append, true_and, reduceIte, Nat.zero_add, Nat.reduceAdd, Nat.reduceEqDiff]
  simp only [r167_1, rA_load, rA_fld, rA_callf, goon, ldA_ptr, ldv_f, fldA_ptr, val_t, updO_some, bindP_some, bindP_need, upd_app, argsE_app, getB_zero, List.getD_cons_zero, List.getD_cons_succ, List.getD_nil, List.map_cons, List.map_nil, List.length_cons, List.length_nil, true_and, forall_const, Option.bind_some, reduceIte, Nat.zero_add, Nat.reduceAdd, Nat.reduceEqDiff, Nat.reduceLeDiff, Nat.reduceAdd]
  refine callA_pure (trim1 x c hx) ?_
  simp only [rA_load, rA_un, rA_fld, rA_callf, restA_pure, goon, ldA_ptr, ldv_f, unA_not, fldA_ptr, val_t, updO_some, bindP_some, bindP_need, upd_app, argsE_app, getB_zero, getB_succ, List.getD_cons_zero, List.getD_cons_succ, List.getD_nil, List.map_cons, List.map_nil, List.length_cons, List.length_nil, true_and, forall_const, Option.bind_some, reduceIte, Nat.zero_add, Nat.reduceAdd, Nat.reduceEqDiff, Nat.reduceLeDiff, Nat.reduceAdd]
  refine callA_pure (trim0 d) ?_
  simp only [rA_callf, restA_pure, val_t, updO_some, upd_app, argsE_app, List.getD_cons_succ, List.getD_nil, List.map_cons, List.map_nil, reduceIte, Nat.reduceEqDiff]
  refine callA_pure (addSigned_s10 s (!t) x c d hst hx hx') ?_
  simp only [rA_store, rA_nil, restA_pure, stA_ptr, val_t, updO_some, cells_agg, firm_agg, setL_nil, setL_cons, scalL_nil, scalL_cons, scal_bool, scal_vec, bindP_some, bindP_need, upd_app, argsE_app, getB_zero, getB_succ, List.getD_cons_succ, List.getD_nil, List.length_cons, List.length_nil, true_and, Option.bind_some, reduceIte, Nat.zero_add, Nat.reduceAdd, Nat.reduceEqDiff, Nat.reduceLeDiff, List.set_cons_zero, List.set_cons_succ, Bool.and_self, Nat.reduceAdd]
  refine ⟨rfl, ?_⟩
  exact ⟨.inl trivial, _, rfl, .drop _ _ rfl (by intro i cs h; omega)⟩
theorem sub_s11 (s t : Bool) (x : Nat) (y : Nat) (c d : Option Nat) (hst : (s == (!t)) = true) (hx : x ≠ 0) (hx' : x < 4294967296) (hy : y ≠ 0) (hy' : y < 4294967296) (hxy : x + y < 4294967296) : Ret Tryz.prog G 167 [.agg [.bool s, .vec [.int .u32 x] 1 c], .agg [.bool t, .vec [.int .u32 y] 1 d]] [] (.agg [.bool s, .vec [.int .u32 (x + y : Nat)] 1 (some 2)]) [] := by
  refine Ret_of mixed Tryz.func167 comp167 _ 17 res167 nt167 (by simp) (by simp) ?_
  simp only [c167, wpC, andThen_normal, List.length_nil, reduceCtorEq]
  simp only [r167_0, rA_box, rA_nil, val_t, val_k, updO_some, cells_agg, firm_agg, upd_app, argsE_app, List.getD_cons_zero, List.getD_cons_succ, List.length_cons, List.length_nil, List.nil_append, List.cons_append, true_and, reduceIte, Nat.zero_add, Nat.reduceAdd, Nat.reduceEqDiff]
  simp only [r167_1, rA_load, rA_fld, rA_callf, goon, ldA_ptr, ldv_f, fldA_ptr, val_t, updO_some, bindP_some, bindP_need, upd_app, argsE_app, getB_zero, List.getD_cons_zero, List.getD_cons_succ, List.getD_nil, List.map_cons, List.map_nil, List.length_cons, List.length_nil, true_and, forall_const, Option.bind_some, reduceIte, Nat.zero_add, Nat.reduceAdd, Nat.reduceEqDiff, Nat.reduceLeDiff, Nat.reduceAdd]
  refine callA_pure (trim1 x c hx) ?_
  simp only [rA_load, rA_un, rA_fld, rA_callf, restA_pure, goon, ldA_ptr, ldv_f, unA_not, fldA_ptr, val_t, updO_some, bindP_some, bindP_need, upd_app, argsE_app, getB_zero, getB_succ, List.getD_cons_zero, List.getD_cons_succ, List.getD_nil, List.map_cons, List.map_nil, List.length_cons, List.length_nil, true_and, forall_const, Option.bind_some, reduceIte, Nat.zero_add, Nat.reduceAdd, Nat.reduceEqDiff, Nat.reduceLeDiff, Nat.reduceAdd]
  refine callA_pure (trim1 y d hy) ?_
  simp only [rA_callf, restA_pure, val_t, updO_some, upd_app, argsE_app, List.getD_cons_succ, List.getD_nil, List.map_cons, List.map_nil, reduceIte, Nat.reduceEqDiff]
  refine callA_pure (addSigned_s11 s (!t) x y c d hst hx hx' hy hy' hxy) ?_
  simp only [rA_store, rA_nil, restA_pure, stA_ptr, val_t, updO_some, cells_agg, firm_agg, setL_nil, setL_cons, scalL_nil, scalL_cons, scal_bool, scal_vec, bindP_some, bindP_need, upd_app, argsE_app, getB_zero, getB_succ, List.getD_cons_succ, List.getD_nil, List.length_cons, List.length_nil, true_and, Option.bind_some, reduceIte, Nat.zero_add, Nat.reduceAdd, Nat.reduceEqDiff, Nat.reduceLeDiff, List.set_cons_zero, List.set_cons_succ, Bool.and_self, Nat.reduceAdd]
  refine ⟨rfl, ?_⟩
  exact ⟨.inl trivial, _, rfl, .drop _ _ rfl (by intro i cs h; omega)⟩
theorem sub_d00 (s t : Bool) (c d : Option Nat) (hst : (s == (!t)) = false) : Ret Tryz.prog G 167 [.agg [.bool s, .vec [] 0 c], .agg [.bool t, .vec [] 0 d]] [] (.agg [.bool false, .vec [] 0 (some 0)]) [] := by
  refine Ret_of mixed Tryz.func167 comp167 _ 17 res167 nt167 (by simp) (by simp) ?_
  simp only [c167, wpC, andThen_normal, List.length_nil, reduceCtorEq]
  simp only [r167_0, rA_box, rA_nil, val_t, val_k, updO_some, cells_agg, firm_agg, upd_app, argsE_app, List.getD_cons_zero, List.getD_cons_succ, List.length_cons, List.length_nil, List.nil_append, List.cons_append, true_and, reduceIte, Nat.zero_add, Nat.reduceAdd, Nat.reduceEqDiff]
  simp only [r167_1, rA_load, rA_fld, rA_callf, goon, ldA_ptr, ldv_f, fldA_ptr, val_t, updO_some, bindP_some, bindP_need, upd_app, argsE_app, getB_zero, List.getD_cons_zero, List.getD_cons_succ, List.getD_nil, List.map_cons, List.map_nil, List.length_cons, List.length_nil, true_and, forall_const, Option.bind_some, reduceIte, Nat.zero_add, Nat.reduceAdd, Nat.reduceEqDiff, Nat.reduceLeDiff, Nat.reduceAdd]
  refine callA_pure (trim0 c) ?_
  simp only [rA_load, rA_un, rA_fld, rA_callf, restA_pure, goon, ldA_ptr, ldv_f, unA_not, fldA_ptr, val_t, updO_some, bindP_some, bindP_need, upd_app, argsE_app, getB_zero, getB_succ, List.getD_cons_zero, List.getD_cons_succ, List.getD_nil, List.map_cons, List.map_nil, List.length_cons, List.length_nil, true_and, forall_const, Option.bind_some, reduceIte, Nat.zero_add, Nat.reduceAdd, Nat.reduceEqDiff, Nat.reduceLeDiff, Nat.reduceAdd]
  refine callA_pure (trim0 d) ?_
  simp only [rA_callf, restA_pure, val_t, updO_some, upd_app, argsE_app, List.getD_cons_succ, List.getD_nil, List.map_cons, List.map_nil, reduceIte, Nat.reduceEqDiff]
  refine callA_pure (addSigned_d00 s (!t) c d hst) ?_
  simp only [rA_store, rA_nil, restA_pure, stA_ptr, val_t, updO_some, cells_agg, firm_agg, setL_nil, setL_cons, scalL_nil, scalL_cons, scal_bool, scal_vec, bindP_some, bindP_need, upd_app, argsE_app, getB_zero, getB_succ, List.getD_cons_succ, List.getD_nil, List.length_cons, List.length_nil, true_and, Option.bind_some, reduceIte, Nat.zero_add, Nat.reduceAdd, Nat.reduceEqDiff, Nat.reduceLeDiff, List.set_cons_zero, List.set_cons_succ, Bool.and_self, Nat.reduceAdd]
  refine ⟨rfl, ?_⟩
  exact ⟨.inl trivial, _, rfl, .drop _ _ rfl (by intro i cs h; omega)⟩
theorem sub_d01 (s t : Bool) (y : Nat) (c d : Option Nat) (hst : (s == (!t)) = false) (hy : y ≠ 0) (hy' : y < 4294967296) : Ret Tryz.prog G 167 [.agg [.bool s, .vec [] 0 c], .agg [.bool t, .vec [.int .u32 y] 1 d]] [] (.agg [.bool (!t), .vec [.int .u32 y] 1 (some 1)]) [] := by
  refine Ret_of mixed Tryz.func167 comp167 _ 17 res167 nt167 (by simp) (by simp) ?_
  simp only [c167, wpC, andThen_normal, List.length_nil, reduceCtorEq]
  simp only [r167_0, rA_box, rA_nil, val_t, val_k, updO_some, cells_agg, firm_agg, upd_app, argsE_app, List.getD_cons_zero, List.getD_cons_succ, List.length_cons, List.length_nil, List.nil_append, List.cons_append, true_and, reduceIte, Nat.zero_add, Nat.reduceAdd, Nat.reduceEqDiff]
  simp only [r167_1, rA_load, rA_fld, rA_callf, goon, ldA_ptr, ldv_f, fldA_ptr, val_t, updO_some, bindP_some, bindP_need, upd_app, argsE_app, getB_zero, List.getD_cons_zero, List.getD_cons_succ, List.getD_nil, List.map_cons, List.map_nil, List.length_cons, List.length_nil, true_and, forall_const, Option.bind_some, reduceIte, Nat.zero_add, Nat.reduceAdd, Nat.reduceEqDiff, Nat.reduceLeDiff, Nat.reduceAdd]
  refine callA_pure (trim0 c) ?_
  simp only [rA_load, rA_un, rA_fld, rA_callf, restA_pure, goon, ldA_ptr, ldv_f, unA_not, fldA_ptr, val_t, updO_some, bindP_some, bindP_need, upd_app, argsE_app, getB_zero, getB_succ, List.getD_cons_zero, List.getD_cons_succ, List.getD_nil, List.map_cons, List.map_nil, List.length_cons, List.length_nil, true_and, forall_const, Option.bind_some, reduceIte, Nat.zero_add, Nat.reduceAdd, Nat.reduceEqDiff, Nat.reduceLeDiff, Nat.reduceAdd]
  refine callA_pure (trim1 y d hy) ?_
  simp only [rA_callf, restA_pure, val_t, updO_some, upd_app, argsE_app, List.getD_cons_succ, List.getD_nil, List.map_cons, List.map_nil, reduceIte, Nat.reduceEqDiff]
  refine callA_pure (addSigned_d01 s (!t) y c d hst hy hy') ?_
  simp only [rA_store, rA_nil, restA_pure, stA_ptr, val_t, updO_some, cells_agg, firm_agg, setL_nil, setL_cons, scalL_nil, scalL_cons, scal_bool, scal_vec, bindP_some, bindP_need, upd_app, argsE_app, getB_zero, getB_succ, List.getD_cons_succ, List.getD_nil, List.length_cons, List.length_nil, true_and, Option.bind_some, reduceIte, Nat.zero_add, Nat.reduceAdd, Nat.reduceEqDiff, Nat.reduceLeDiff, List.set_cons_zero, List.set_cons_succ, Bool.and_self, Nat.reduceAdd]
  refine ⟨rfl, ?_⟩
  exact ⟨.inl trivial, _, rfl, .drop _ _ rfl (by intro i cs h; omega)⟩
theorem sub_d10 (s t : Bool) (x : Nat) (c d : Option Nat) (hst : (s == (!t)) = false) (hx : x ≠ 0) (hx' : x < 4294967296) : Ret Tryz.prog G 167 [.agg [.bool s, .vec [.int .u32 x] 1 c], .agg [.bool t, .vec [] 0 d]] [] (.agg [.bool s, .vec [.int .u32 x] 1 (some 1)]) [] := by
  refine Ret_of mixed Tryz.func167 comp167 _ 17 res167 nt167 (by simp) (by simp) ?_
  simp only [c167, wpC, andThen_normal, List.length_nil, reduceCtorEq]
  simp only [r167_0, rA_box, rA_nil, val_t, val_k, updO_some, cells_agg, firm_agg, upd_app, argsE_app, List.getD_cons_zero, List.getD_cons_succ, List.length_cons, List.length_nil, List.nil_append, List.cons_append, true_and, reduceIte, Nat.zero_add, Nat.reduceAdd, Nat.reduceEqDiff]
  simp only [r167_1, rA_load, rA_fld, rA_callf, goon, ldA_ptr, ldv_f, fldA_ptr, val_t, updO_some, bindP_some, bindP_need, upd_app, argsE_app, getB_zero, List.getD_cons_zero, List.getD_cons_succ, List.getD_nil, List.map_cons, List.map_nil, List.length_cons, List.length_nil, true_and, forall_const, Option.bind_some, reduceIte, Nat.zero_add, Nat.reduceAdd, Nat.reduceEqDiff, Nat.reduceLeDiff, Nat.reduceAdd]
  refine callA_pure (trim1 x c hx) ?_
  simp only [rA_load, rA_un, rA_fld, rA_callf, restA_pure, goon, ldA_ptr, ldv_f, unA_not, fldA_ptr, val_t, updO_some, bindP_some, bindP_need, upd_app, argsE_app, getB_zero, getB_succ, List.getD_cons_zero, List.getD_cons_succ, List.getD_nil, List.map_cons, List.map_nil, List.length_cons, List.length_nil, true_and, forall_const, Option.bind_some, reduceIte, Nat.zero_add, Nat.reduceAdd, Nat.reduceEqDiff, Nat.reduceLeDiff, Nat.reduceAdd]
  refine callA_pure (trim0 d) ?_
  simp only [rA_callf, restA_pure, val_t, updO_some, upd_app, argsE_app, List.getD_cons_succ, List.getD_nil, List.map_cons, List.map_nil, reduceIte, Nat.reduceEqDiff]
  refine callA_pure (addSigned_d10 s (!t) x c d hst hx hx') ?_
  simp only [rA_store, rA_nil, restA_pure, stA_ptr, val_t, updO_some, cells_agg, firm_agg, setL_nil, setL_cons, scalL_nil, scalL_cons, scal_bool, scal_vec, bindP_some, bindP_need, upd_app, argsE_app, getB_zero, getB_succ, List.getD_cons_succ, List.getD_nil, List.length_cons, List.length_nil, true_and, Option.bind_some, reduceIte, Nat.zero_add, Nat.reduceAdd, Nat.reduceEqDiff, Nat.reduceLeDiff, List.set_cons_zero, List.set_cons_succ, Bool.and_self, Nat.reduceAdd]
  refine ⟨rfl, ?_⟩
  exact ⟨.inl trivial, _, rfl, .drop _ _ rfl (by intro i cs h; omega)⟩
theorem sub_d11g (s t : Bool) (x : Nat) (y : Nat) (c d : Option Nat) (hst : (s == (!t)) = false) (hx : x ≠ 0) (hx' : x < 4294967296) (hy : y ≠ 0) (hy' : y < 4294967296) (hxy : y < x) : Ret Tryz.prog G 167 [.agg [.bool s, .vec [.int .u32 x] 1 c], .agg [.bool t, .vec [.int .u32 y] 1 d]] [] (.agg [.bool s, .vec [.int .u32 (x - y : Nat)] 1 (some 1)]) [] := by
  refine Ret_of mixed Tryz.func167 comp167 _ 17 res167 nt167 (by simp) (by simp) ?_
  simp only [c167, wpC, andThen_normal, List.length_nil, reduceCtorEq]
  simp only [r167_0, rA_box, rA_nil, val_t, val_k, updO_some, cells_agg, firm_agg, upd_app, argsE_app, List.getD_cons_zero, List.getD_cons_succ, List.length_cons, List.length_nil, List.nil_append, List.cons_append, true_and, reduceIte, Nat.zero_add, Nat.reduceAdd, Nat.reduceEqDiff]
  simp only [r167_1, rA_load, rA_fld, rA_callf, goon, ldA_ptr, ldv_f, fldA_ptr, val_t, updO_some, bindP_some, bindP_need, upd_app, argsE_app, getB_zero, List.getD_cons_zero, List.getD_cons_succ, List.getD_nil, List.map_cons, List.map_nil, List.length_cons, List.length_nil, true_and, forall_const, Option.bind_some, reduceIte, Nat.zero_add, Nat.reduceAdd, Nat.reduceEqDiff, Nat.reduceLeDiff, Nat.reduceAdd]
  refine callA_pure (trim1 x c hx) ?_
  simp only [rA_load, rA_un, rA_fld, rA_callf, restA_pure, goon, ldA_ptr, ldv_f, unA_not, fldA_ptr, val_t, updO_some, bindP_some, bindP_need, upd_app, argsE_app, getB_zero, getB_succ, List.getD_cons_zero, List.getD_cons_succ, List.getD_nil, List.map_cons, List.map_nil, List.length_cons, List.length_nil, true_and, forall_const, Option.bind_some, reduceIte, Nat.zero_add, Nat.reduceAdd, Nat.reduceEqDiff, Nat.reduceLeDiff, Nat.reduceAdd]
  refine callA_pure (trim1 y d hy) ?_
  simp only [rA_callf, restA_pure, val_t, updO_some, upd_app, argsE_app, List.getD_cons_succ, List.getD_nil, List.map_cons, List.map_nil, reduceIte, Nat.reduceEqDiff]
  refine callA_pure (addSigned_d11g s (!t) x y c d hst hx hx' hy hy' hxy) ?_
  simp only [rA_store, rA_nil, restA_pure, stA_ptr, val_t, updO_some, cells_agg, firm_agg, setL_nil, setL_cons, scalL_nil, scalL_cons, scal_bool, scal_vec, bindP_some, bindP_need, upd_app, argsE_app, getB_zero, getB_succ, List.getD_cons_succ, List.getD_nil, List.length_cons, List.length_nil, true_and, Option.bind_some, reduceIte, Nat.zero_add, Nat.reduceAdd, Nat.reduceEqDiff, Nat.reduceLeDiff, List.set_cons_zero, List.set_cons_succ, Bool.and_self, Nat.reduceAdd]
  refine ⟨rfl, ?_⟩
  exact ⟨.inl trivial, _, rfl, .drop _ _ rfl (by intro i cs h; omega)⟩
theorem sub_d11l (s t : Bool) (x : Nat) (y : Nat) (c d : Option Nat) (hst : (s == (!t)) = false) (hx : x ≠ 0) (hx' : x < 4294967296) (hy : y ≠ 0) (hy' : y < 4294967296) (hxy : x < y) : Ret Tryz.prog G 167 [.agg [.bool s, .vec [.int .u32 x] 1 c], .agg [.bool t, .vec [.int .u32 y] 1 d]] [] (.agg [.bool (!t), .vec [.int .u32 (y - x : Nat)] 1 (some 1)]) [] := by
  refine Ret_of mixed Tryz.func167 comp167 _ 17 res167 nt167 (by simp) (by simp) ?_
  simp only [c167, wpC, andThen_normal, List.length_nil, reduceCtorEq]
  simp only [r167_0, rA_box, rA_nil, val_t, val_k, updO_some, cells_agg, firm_agg, upd_app, argsE_app, List.getD_cons_zero, List.getD_cons_succ, List.length_cons, List.length_nil, List.nil_append, List.cons_append, true_and, reduceIte, Nat.zero_add, Nat.reduceAdd, Nat.reduceEqDiff]
  simp only [r167_1, rA_load, rA_fld, rA_callf, goon, ldA_ptr, ldv_f, fldA_ptr, val_t, updO_some, bindP_some, bindP_need, upd_app, argsE_app, getB_zero, List.getD_cons_zero, List.getD_cons_succ, List.getD_nil, List.map_cons, List.map_nil, List.length_cons, List.length_nil, true_and, forall_const, Option.bind_some, reduceIte, Nat.zero_add, Nat.reduceAdd, Nat.reduceEqDiff, Nat.reduceLeDiff, Nat.reduceAdd]
  refine callA_pure (trim1 x c hx) ?_
  simp only [rA_load, rA_un, rA_fld, rA_callf, restA_pure, goon, ldA_ptr, ldv_f, unA_not, fldA_ptr, val_t, updO_some, bindP_some, bindP_need, upd_app, argsE_app, getB_zero, getB_succ, List.getD_cons_zero, List.getD_cons_succ, List.getD_nil, List.map_cons, List.map_nil, List.length_cons, List.length_nil, true_and, forall_const, Option.bind_some, reduceIte, Nat.zero_add, Nat.reduceAdd, Nat.reduceEqDiff, Nat.reduceLeDiff, Nat.reduceAdd]
  refine callA_pure (trim1 y d hy) ?_
  simp only [rA_callf, restA_pure, val_t, updO_some, upd_app, argsE_app, List.getD_cons_succ, List.getD_nil, List.map_cons, List.map_nil, reduceIte, Nat.reduceEqDiff]
  refine callA_pure (addSigned_d11l s (!t) x y c d hst hx hx' hy hy' hxy) ?_
  simp only [rA_store, rA_nil, restA_pure, stA_ptr, val_t, updO_some, cells_agg, firm_agg, setL_nil, setL_cons, scalL_nil, scalL_cons, scal_bool, scal_vec, bindP_some, bindP_need, upd_app, argsE_app, getB_zero, getB_succ, List.getD_cons_succ, List.getD_nil, List.length_cons, List.length_nil, true_and, Option.bind_some, reduceIte, Nat.zero_add, Nat.reduceAdd, Nat.reduceEqDiff, Nat.reduceLeDiff, List.set_cons_zero, List.set_cons_succ, Bool.and_self, Nat.reduceAdd]
  refine ⟨rfl, ?_⟩
  exact ⟨.inl trivial, _, rfl, .drop _ _ rfl (by intro i cs h; omega)⟩
theorem sub_d11e (s t : Bool) (x : Nat) (y : Nat) (c d : Option Nat) (hst : (s == (!t)) = false) (hx : x ≠ 0) (hx' : x < 4294967296) (hy : y ≠ 0) (hy' : y < 4294967296) (hxy : x = y) : Ret Tryz.prog G 167 [.agg [.bool s, .vec [.int .u32 x] 1 c], .agg [.bool t, .vec [.int .u32 y] 1 d]] [] (.agg [.bool false, .vec [] 0 (some 0)]) [] := by
  refine Ret_of mixed Tryz.func167 comp167 _ 17 res167 nt167 (by simp) (by simp) ?_
  simp only [c167, wpC, andThen_normal, List.length_nil, reduceCtorEq]
  simp only [r167_0, rA_box, rA_nil, val_t, val_k, updO_some, cells_agg, firm_agg, upd_app, argsE_app, List.getD_cons_zero, List.getD_cons_succ, List.length_cons, List.length_nil, List.nil_append, List.cons_append, true_and, reduceIte, Nat.zero_add, Nat.reduceAdd, Nat.reduceEqDiff]
  simp only [r167_1, rA_load, rA_fld, rA_callf, goon, ldA_ptr, ldv_f, fldA_ptr, val_t, updO_some, bindP_some, bindP_need, upd_app, argsE_app, getB_zero, List.getD_cons_zero, List.getD_cons_succ, List.getD_nil, List.map_cons, List.map_nil, List.length_cons, List.length_nil, true_and, forall_const, Option.bind_some, reduceIte, Nat.zero_add, Nat.reduceAdd, Nat.reduceEqDiff, Nat.reduceLeDiff, Nat.reduceAdd]
  refine callA_pure (trim1 x c hx) ?_
  simp only [rA_load, rA_un, rA_fld, rA_callf, restA_pure, goon, ldA_ptr, ldv_f, unA_not, fldA_ptr, val_t, updO_some, bindP_some, bindP_need, upd_app, argsE_app, getB_zero, getB_succ, List.getD_cons_zero, List.getD_cons_succ, List.getD_nil, List.map_cons, List.map_nil, List.length_cons, List.length_nil, true_and, forall_const, Option.bind_some, reduceIte, Nat.zero_add, Nat.reduceAdd, Nat.reduceEqDiff, Nat.reduceLeDiff, Nat.reduceAdd]
  refine callA_pure (trim1 y d hy) ?_
  simp only [rA_callf, restA_pure, val_t, updO_some, upd_app, argsE_app, List.getD_cons_succ, List.getD_nil, List.map_cons, List.map_nil, reduceIte, Nat.reduceEqDiff]
  refine callA_pure (addSigned_d11e s (!t) x y c d hst hx hx' hy hy' hxy) ?_
  simp only [rA_store, rA_nil, restA_pure, stA_ptr, val_t, updO_some, cells_agg, firm_agg, setL_nil, setL_cons, scalL_nil, scalL_cons, scal_bool, scal_vec, bindP_some, bindP_need, upd_app, argsE_app, getB_zero, getB_succ, List.getD_cons_succ, List.getD_nil, List.length_cons, List.length_nil, true_and, Option.bind_some, reduceIte, Nat.zero_add, Nat.reduceAdd, Nat.reduceEqDiff, Nat.reduceLeDiff, List.set_cons_zero, List.set_cons_succ, Bool.and_self, Nat.reduceAdd]
  refine ⟨rfl, ?_⟩
  exact ⟨.inl trivial, _, rfl, .drop _ _ rfl (by intro i cs h; omega)⟩

end Go.Proofs.YthkpeakeoepocaaGreatDoor
