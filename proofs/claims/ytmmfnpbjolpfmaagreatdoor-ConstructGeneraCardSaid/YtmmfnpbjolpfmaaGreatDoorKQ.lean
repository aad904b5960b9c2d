/- Package integer: trim, word, build, fromWord for numbers of one limb, as quick entries of the evaluator. -/
import Derived.Test.YtmmfnpbjolpfmaaGreatDoorAL52
import Derived.Test.YtmmfnpbjolpfmaaGreatDoorALZ
import Derived.Test.YtmmfnpbjolpfmaaGreatDoorXB
import Derived.Test.YtmmfnpbjolpfmaaGreatDoorAL24
import Derived.KernelRfl
import Derived.Test.YtmmfnpbjolpfmaaGreatDoorAL34
namespace Go.Proofs.YtmmfnpbjolpfmaaGreatDoor
set_option linter.unusedSimpArgs false
set_option linter.unusedVariables false
open Go Go.AL Go.Proofs
set_option maxRecDepth 100000
-- integer.trim (function 72)
def r72_0 : List COp := [⟨(some 2), none, (.mov (.k (.vec [] 0 (some 0))))⟩]
def r72_1 : List COp := [⟨(some 3), none, (.mov (.t 0))⟩, ⟨(some 4), none, (.len false (.t 3))⟩, ⟨(some 5), none, (.bin .gtr (.t 4) (.k (.int .i64 0)))⟩, ⟨(some 6), none, (.mov (.t 5))⟩, ⟨(some 7), (some (6, true)), (.mov (.t 0))⟩, ⟨(some 8), (some (6, true)), (.mov (.t 0))⟩, ⟨(some 9), (some (6, true)), (.len false (.t 8))⟩, ⟨(some 10), (some (6, true)), (.bin .sub (.t 9) (.k (.int .i64 1)))⟩, ⟨(some 11), (some (6, true)), (.idx 1 (.t 7) (.t 10))⟩, ⟨(some 12), (some (6, true)), (.load false 1 (.t 11))⟩, ⟨(some 13), (some (6, true)), (.bin .eql (.t 12) (.k (.int .u32 0)))⟩, ⟨(some 14), none, (.pick (.t 6) (.t 13) (.k (.bool false)))⟩]
def r72_2 : List COp := [⟨(some 15), none, (.mov (.t 0))⟩, ⟨(some 16), none, (.mov (.t 0))⟩, ⟨(some 17), none, (.len false (.t 16))⟩, ⟨(some 18), none, (.bin .sub (.t 17) (.k (.int .i64 1)))⟩, ⟨(some 19), none, (.slice 1 (.t 15) none (some (.t 18)) none)⟩, ⟨(some 0), none, (.mov (.t 19))⟩]
def l72_0 : CC := (.seq (.seq (.reg r72_1 none) (.cond (.t 14) .skip (.exit 0))) (.block 1 (.reg r72_2 none)))
def r72_3 : List COp := [⟨(some 20), none, (.mov (.t 0))⟩, ⟨(some 2), none, (.mov (.t 20))⟩]
def c72 : CC := (.seq (.reg r72_0 none) (.seq (.block 0 (.loop l72_0)) (.seq (.reg r72_3 none) .ret)))
theorem comp72 : Tryz.f72.body.bind (compC Tryz.prog G Tryz.f72.ntmps) = some c72 := by kernel_rfl
theorem res72 : Tryz.f72.results.toList = [(.tmp 2)] := by kernel_rfl
-- integer.word (function 73)
def r73_0 : List COp := [⟨(some 2), none, (.mov (.k (.int .u64 0)))⟩]
def r73_1 : List COp := [⟨(some 3), none, (.mov (.k (.int .u64 0)))⟩]
def r73_2 : List COp := [⟨(some 6), none, (.mov (.t 0))⟩, ⟨(some 7), none, (.len false (.t 6))⟩, ⟨(some 8), none, (.mov (.k (.int .i64 0)))⟩]
def r73_3 : List COp := [⟨(some 9), none, (.bin .lss (.t 8) (.t 7))⟩]
def r73_4 : List COp := [⟨(some 10), none, (.mov (.t 8))⟩, ⟨(some 11), none, (.idx 1 (.t 6) (.t 8))⟩, ⟨(some 12), none, (.load false 1 (.t 11))⟩, ⟨(some 4), none, (.mov (.t 10))⟩, ⟨(some 5), none, (.mov (.t 12))⟩]
def r73_5 : List COp := [⟨(some 13), none, (.mov (.t 3))⟩, ⟨(some 14), none, (.mov (.t 5))⟩, ⟨(some 15), none, (.conv .u64 (.t 14))⟩, ⟨(some 16), none, (.mov (.t 4))⟩, ⟨(some 17), none, (.bin .mul (.k (.int .i64 32)) (.t 16))⟩, ⟨(some 18), none, (.bin .shl (.t 15) (.t 17))⟩, ⟨(some 19), none, (.bin .or (.t 13) (.t 18))⟩, ⟨(some 3), none, (.mov (.t 19))⟩]
def r73_6 : List COp := [⟨(some 20), none, (.bin .add (.t 8) (.k (.int .i64 1)))⟩, ⟨(some 8), none, (.mov (.t 20))⟩]
def l73_0 : CC := (.seq (.reg r73_3 none) (.seq (.cond (.t 9) .skip (.exit 0)) (.seq (.block 1 (.seq (.reg r73_4 none) (.reg r73_5 none))) (.reg r73_6 none))))
def r73_7 : List COp := [⟨(some 21), none, (.mov (.t 3))⟩, ⟨(some 2), none, (.mov (.t 21))⟩]
def c73 : CC := (.seq (.reg r73_0 none) (.seq (.reg r73_1 none) (.seq (.seq (.reg r73_2 none) (.block 0 (.loop l73_0))) (.seq (.reg r73_7 none) .ret))))
theorem comp73 : Tryz.f73.body.bind (compC Tryz.prog G Tryz.f73.ntmps) = some c73 := by kernel_rfl
theorem res73 : Tryz.f73.results.toList = [(.tmp 2)] := by kernel_rfl
-- integer.build (function 118)
def r118_0 : List COp := [⟨(some 4), none, (.box (.k (.agg [(.bool false), (.vec [] 0 (some 0))])))⟩]
def r118_1 : List COp := [⟨(some 5), none, (.mov (.t 1))⟩, ⟨(some 6), none, (.len false (.t 5))⟩, ⟨(some 7), none, (.bin .eql (.t 6) (.k (.int .i64 0)))⟩]
def r118_2 : List COp := [⟨(some 8), none, (.build [(.bool false), (.vec [] 0 (some 0))] [])⟩, ⟨none, none, (.store 2 (.t 4) (.t 8))⟩]
def r118_3 : List COp := [⟨(some 9), none, (.mov (.t 0))⟩, ⟨(some 10), none, (.mov (.t 1))⟩, ⟨(some 11), none, (.build [(.bool false), (.vec [] 0 (some 0))] [(0, (1, (.t 9))), (1, (1, (.t 10)))])⟩, ⟨none, none, (.store 2 (.t 4) (.t 11))⟩]
def c118 : CC := (.seq (.reg r118_0 none) (.seq (.seq (.reg r118_1 none) (.cond (.t 7) (.seq (.reg r118_2 none) .ret) .skip)) (.seq (.reg r118_3 none) .ret)))
theorem comp118 : Tryz.f118.body.bind (compC Tryz.prog G Tryz.f118.ntmps) = some c118 := by kernel_rfl
theorem res118 : Tryz.f118.results.toList = [(.cell 4 69)] := by kernel_rfl
-- integer.fromWord (function 119)
def r119_0 : List COp := [⟨(some 2), none, (.mov (.k (.vec [] 0 (some 0))))⟩]
def r119_1 : List COp := [⟨(some 3), none, (.mov (.t 0))⟩, ⟨(some 4), none, (.conv .u32 (.t 3))⟩, ⟨(some 5), none, (.mov (.t 0))⟩, ⟨(some 6), none, (.bin .shr (.t 5) (.k (.int .u64 32)))⟩, ⟨(some 7), none, (.conv .u32 (.t 6))⟩, ⟨(some 8), none, (.bsl 2 1 [(.int .u32 0), (.int .u32 0)] [(0, (1, (.t 4))), (1, (1, (.t 7)))])⟩, ⟨(some 9), none, (.call 72 [(.t 8)])⟩, ⟨(some 2), none, (.mov (.t 9))⟩]
def c119 : CC := (.seq (.reg r119_0 none) (.seq (.reg r119_1 none) .ret))
theorem comp119 : Tryz.f119.body.bind (compC Tryz.prog G Tryz.f119.ntmps) = some c119 := by kernel_rfl
theorem res119 : Tryz.f119.results.toList = [(.tmp 2)] := by kernel_rfl

theorem n1 : ((1 : Nat) : Int) = 1 := rfl
theorem n2 : ((2 : Nat) : Int) = 2 := rfl
theorem wi0 : IntKind.i64.wrap 0 = 0 := rfl
theorem wi1 : IntKind.i64.wrap 1 = 1 := rfl
theorem wi2 : IntKind.i64.wrap 2 = 2 := rfl
theorem wim1 : IntKind.i64.wrap (-1) = -1 := rfl
theorem tn0 : Int.toNat 0 = 0 := rfl
theorem tn1 : Int.toNat 1 = 1 := rfl
theorem le0 : ((0 : Int) ≤ 0) = True := eq_true (by decide)
theorem lt01 : ((0 : Int) < 1) = True := eq_true (by decide)
theorem lt12 : ((1 : Int) < 2) = True := eq_true (by decide)
theorem getB0 {a : List AV} {r : Heap} : getB (some a :: r) 0 = some a := rfl
theorem getB1 {a : Option (List AV)} {b : List AV} {r : Heap} : getB (a :: some b :: r) 1 = some b := rfl
theorem getB2 {a b : Option (List AV)} {c : List AV} {r : Heap} : getB (a :: b :: some c :: r) 2 = some c := rfl
theorem ne0 {x : Nat} (h : x ≠ 0) : decide ((x : Int) = 0) = false := by simp; omega

theorem nt72 : Tryz.f72.ntmps = 21 := by kernel_rfl
theorem nt73 : Tryz.f73.ntmps = 22 := by kernel_rfl
theorem nt118 : Tryz.f118.ntmps = 12 := by kernel_rfl
theorem nt119 : Tryz.f119.ntmps = 10 := by kernel_rfl
theorem trim0 (c : Option Nat) : Ret Tryz.prog G 72 [.vec [] 0 c] [] (.vec [] 0 c) [] := by
  refine Ret_of mixed Tryz.func72 comp72 _ 21 res72 nt72 (by simp) (by simp) ?_
  simp only [c72, r72_0, wpC, andThen_normal, rA_mov, rA_nil, goon, val_k, updO_some, List.length_nil, reduceCtorEq]
  refine W_un mixed 1 (Un_in ?_)
  simp only [l72_0, r72_1, wpC, andThen_normal, andThen_exit, inBlk_normal, inBlk_exit, rA_mov, rA_pick, rA_load, rA_bin, rA_idx, rA_len, rA_guardf, rA_nil, goon, boolA_bool, condA_bool, both_some, pickA_bool, ldA_iptr, ldv_f, binA_sub, binA_gtr, idxA_vec, lenSA_vec, val_t, val_k, updO_some, bindP_some, bindP_need, upd_app, argsE_app, List.getD_cons_zero, List.getD_cons_succ, List.getD_nil, List.length_nil, true_and, and_true, forall_const, reduceCtorEq, reduceIte, false_implies, Bool.not_true, Bool.true_eq_false, Bool.false_eq_true, Nat.reduceEqDiff, Nat.reduceLeDiff, Nat.mul_one, decide_false, Int.reduceLT, Int.reduceLE, Int.reduceSub, Int.reduceNeg, Int.natCast_zero, wim1]
  simp only [r72_3, rA_mov, rA_nil, goon, val_t, updO_some, upd_app, argsE_app, List.getD_cons_zero, List.getD_cons_succ, List.getD_nil, reduceCtorEq, reduceIte, Nat.reduceEqDiff]
  exact ⟨.inl trivial, _, rfl, .keep _ _⟩
theorem trim1 (x : Nat) (c : Option Nat) (hx : x ≠ 0) : Ret Tryz.prog G 72 [.vec [.int .u32 x] 1 c] [] (.vec [.int .u32 x] 1 c) [] := by
  have h0 := ne0 hx
  refine Ret_of mixed Tryz.func72 comp72 _ 21 res72 nt72 (by simp) (by simp) ?_
  simp only [c72, r72_0, wpC, andThen_normal, rA_mov, rA_nil, goon, val_k, updO_some, List.length_nil, reduceCtorEq]
  refine W_un mixed 1 (Un_in ?_)
  simp only [l72_0, r72_1, wpC, andThen_normal, andThen_exit, inBlk_normal, inBlk_exit, rA_mov, rA_pick, rA_load, rA_bin, rA_idx, rA_len, rA_guardf, rA_nil, goon, boolA_bool, condA_bool, both_some, pickA_bool, ldA_iptr, ldv_f, binA_sub, binA_eql, binA_gtr, idxA_vec, lenSA_vec, val_t, val_k, updO_some, bindP_some, bindP_need, upd_app, argsE_app, List.getD_cons_zero, List.getD_cons_succ, List.getD_nil, List.length_cons, List.length_nil, true_and, and_true, forall_const, reduceCtorEq, reduceIte, false_implies, Bool.not_true, Bool.true_eq_false, Bool.false_eq_true, Nat.zero_add, Nat.reduceEqDiff, Nat.reduceLeDiff, Nat.mul_one, decide_true, Int.reduceSub, n1, wi0, tn0, le0, lt01, h0]
  simp only [r72_3, rA_mov, rA_nil, goon, val_t, updO_some, upd_app, argsE_app, List.getD_cons_zero, List.getD_cons_succ, List.getD_nil, reduceCtorEq, reduceIte, Nat.reduceEqDiff]
  exact ⟨.inl trivial, _, rfl, .keep _ _⟩
theorem trimS1 (x : Nat) (k : Option Nat) (hx : x ≠ 0) : Ret Tryz.prog G 72 [.sl 0 0 1 1 k] [some [.int .u32 x]] (.sl 0 0 1 1 k) [some [.int .u32 x]] := by
  have h0 := ne0 hx
  refine Ret_of mixed Tryz.func72 comp72 _ 21 res72 nt72 (by simp) (by simp) ?_
  simp only [c72, r72_0, wpC, andThen_normal, rA_mov, rA_nil, goon, val_k, updO_some, List.length_cons, List.length_nil, reduceCtorEq, Nat.zero_add]
  refine W_un mixed 1 (Un_in ?_)
  simp only [l72_0, r72_1, wpC, andThen_normal, andThen_exit, inBlk_normal, inBlk_exit, rA_mov, rA_pick, rA_load, rA_bin, rA_idx, rA_len, rA_guardf, rA_nil, goon, boolA_bool, condA_bool, both_some, pickA_bool, ldA_ptr, ldv_f, binA_sub, binA_eql, binA_gtr, idxA_sl, lenSA_sl, val_t, val_k, updO_some, bindP_some, bindP_need, upd_app, argsE_app, getB_zero, List.getD_cons_zero, List.getD_cons_succ, List.getD_nil, List.length_cons, List.length_nil, true_and, and_true, forall_const, Option.bind_some, reduceCtorEq, reduceIte, false_implies, Bool.not_true, Bool.true_eq_false, Bool.false_eq_true, Nat.zero_add, Nat.reduceEqDiff, Nat.reduceLeDiff, Nat.mul_one, decide_true, Int.reduceSub, n1, wi0, tn0, le0, lt01, h0]
  simp only [r72_3, rA_mov, rA_nil, goon, val_t, updO_some, upd_app, argsE_app, List.getD_cons_zero, List.getD_cons_succ, List.getD_nil, reduceCtorEq, reduceIte, Nat.reduceEqDiff]
  exact ⟨.inl trivial, _, rfl, .keep _ _⟩
theorem trimS1z (k : Nat) : Ret Tryz.prog G 72 [.sl 0 0 1 1 (some k)] [some [.int .u32 0]] (.vec [] 0 (some k)) [some [.int .u32 0]] := by
  refine Ret_of mixed Tryz.func72 comp72 _ 21 res72 nt72 (by simp) (by simp) ?_
  simp only [c72, r72_0, wpC, andThen_normal, rA_mov, rA_nil, goon, val_k, updO_some, List.length_cons, List.length_nil, reduceCtorEq, Nat.zero_add]
  refine W_un mixed 2 (Un_in ?_)
  simp only [l72_0, r72_1, r72_2, wpC, andThen_normal, andThen_exit, inBlk_normal, inBlk_exit, rA_mov, rA_pick, rA_load, rA_bin, rA_slice, rA_idx, rA_len, rA_guardf, rA_nil, goon, boolA_bool, condA_bool, both_some, pickA_bool, ldA_ptr, ldv_f, binA_sub, binA_eql, binA_gtr, natOf_int, optNat_none, optNat_some, sliceA_sl, emptyS_sub, emptyS_zero, subCap_zero, subCap_zero, idxA_sl, lenSA_sl, val_t, val_k, updO_some, bindP_some, bindP_need, bindP_bind, upd_app, argsE_app, getB_zero, List.getD_cons_zero, List.getD_cons_succ, List.getD_nil, List.length_cons, List.length_nil, true_and, and_true, forall_const, Option.bind_some, reduceCtorEq, reduceIte, false_implies, Bool.not_true, Bool.true_eq_false, Bool.false_eq_true, Nat.zero_add, Nat.reduceEqDiff, Nat.reduceLeDiff, Nat.mul_one, decide_true, Int.reduceSub, Nat.reduceSub, n1, wi0, tn0, le0, lt01]
  refine Un_in ?_
  simp only [wpC, andThen_normal, andThen_exit, inBlk_normal, inBlk_exit, rA_mov, rA_pick, rA_load, rA_bin, rA_slice, rA_idx, rA_len, rA_guardf, rA_nil, goon, boolA_bool, condA_bool, both_some, pickA_bool, ldA_iptr, ldv_f, binA_sub, binA_gtr, natOf_int, optNat_none, optNat_some, sliceA_vec, subCap_zero, idxA_vec, lenSA_vec, val_t, val_k, updO_some, bindP_some, bindP_need, bindP_bind, upd_app, argsE_app, List.getD_cons_zero, List.getD_cons_succ, List.getD_nil, List.length_nil, true_and, and_true, forall_const, Option.bind_some, reduceCtorEq, reduceIte, false_implies, Bool.not_true, Bool.true_eq_false, Bool.false_eq_true, Nat.reduceEqDiff, Nat.succ_ne_zero, Nat.reduceLeDiff, Nat.mul_one, List.drop_zero, decide_false, Int.reduceLT, Int.reduceLE, Int.reduceSub, Int.reduceNeg, Int.natCast_zero, wim1]
  simp only [r72_3, rA_mov, rA_nil, goon, val_t, updO_some, upd_app, argsE_app, List.getD_cons_zero, List.getD_cons_succ, List.getD_nil, reduceCtorEq, reduceIte, Nat.reduceEqDiff, Nat.succ_ne_zero]
  exact ⟨.inl trivial, _, rfl, .keep _ _⟩
theorem trimS2 (x y : Nat) (k : Option Nat) (hy : y ≠ 0) : Ret Tryz.prog G 72 [.sl 0 0 2 1 k] [some [.int .u32 x, .int .u32 y]] (.sl 0 0 2 1 k) [some [.int .u32 x, .int .u32 y]] := by
  have h0 := ne0 hy
  refine Ret_of mixed Tryz.func72 comp72 _ 21 res72 nt72 (by simp) (by simp) ?_
  simp only [c72, r72_0, wpC, andThen_normal, rA_mov, rA_nil, goon, val_k, updO_some, List.length_cons, List.length_nil, reduceCtorEq, Nat.zero_add]
  refine W_un mixed 1 (Un_in ?_)
  simp only [l72_0, r72_1, wpC, andThen_normal, andThen_exit, inBlk_normal, inBlk_exit, rA_mov, rA_pick, rA_load, rA_bin, rA_idx, rA_len, rA_guardf, rA_nil, goon, boolA_bool, condA_bool, both_some, pickA_bool, ldA_ptr, ldv_f, binA_sub, binA_eql, binA_gtr, idxA_sl, lenSA_sl, val_t, val_k, updO_some, bindP_some, bindP_need, upd_app, argsE_app, getB_zero, List.getD_cons_zero, List.getD_cons_succ, List.getD_nil, List.length_cons, List.length_nil, true_and, and_true, forall_const, Option.bind_some, reduceCtorEq, reduceIte, false_implies, Bool.not_true, Bool.true_eq_false, Bool.false_eq_true, Nat.zero_add, Nat.reduceAdd, Nat.reduceEqDiff, Nat.reduceLeDiff, Nat.mul_one, decide_true, Int.reduceLT, Int.reduceLE, Int.reduceSub, Nat.reduceAdd, n2, wi1, tn1, lt12, h0]
  simp only [r72_3, rA_mov, rA_nil, goon, val_t, updO_some, upd_app, argsE_app, List.getD_cons_zero, List.getD_cons_succ, List.getD_nil, reduceCtorEq, reduceIte, Nat.reduceEqDiff]
  exact ⟨.inl trivial, _, rfl, .keep _ _⟩
theorem trimS2z (x : Nat) (k : Nat) (hx : x ≠ 0) : Ret Tryz.prog G 72 [.sl 0 0 2 1 (some k)] [some [.int .u32 x, .int .u32 0]] (.sl 0 0 1 1 (some k)) [some [.int .u32 x, .int .u32 0]] := by
  have h0 := ne0 hx
  refine Ret_of mixed Tryz.func72 comp72 _ 21 res72 nt72 (by simp) (by simp) ?_
  simp only [c72, r72_0, wpC, andThen_normal, rA_mov, rA_nil, goon, val_k, updO_some, List.length_cons, List.length_nil, reduceCtorEq, Nat.zero_add]
  refine W_un mixed 2 (Un_in ?_)
  simp only [l72_0, r72_1, r72_2, wpC, andThen_normal, andThen_exit, inBlk_normal, inBlk_exit, rA_mov, rA_pick, rA_load, rA_bin, rA_slice, rA_idx, rA_len, rA_guardf, rA_nil, goon, boolA_bool, condA_bool, both_some, pickA_bool, ldA_ptr, ldv_f, binA_sub, binA_eql, binA_gtr, natOf_int, optNat_none, optNat_some, sliceA_sl, emptyS_sub, emptyS_zero, subCap_zero, subCap_zero, idxA_sl, lenSA_sl, val_t, val_k, updO_some, bindP_some, bindP_need, bindP_bind, upd_app, argsE_app, getB_zero, List.getD_cons_zero, List.getD_cons_succ, List.getD_nil, List.length_cons, List.length_nil, true_and, and_true, forall_const, Option.bind_some, reduceCtorEq, reduceIte, false_implies, Bool.not_true, Bool.true_eq_false, Bool.false_eq_true, Nat.zero_add, Nat.reduceAdd, Nat.reduceEqDiff, Nat.reduceLeDiff, Nat.mul_one, decide_true, Int.reduceLT, Int.reduceLE, Int.reduceSub, Nat.reduceAdd, Nat.reduceSub, n2, wi1, tn1, lt12]
  refine Un_in ?_
  simp only [wpC, andThen_normal, andThen_exit, inBlk_normal, inBlk_exit, rA_mov, rA_pick, rA_load, rA_bin, rA_slice, rA_idx, rA_len, rA_guardf, rA_nil, goon, boolA_bool, condA_bool, both_some, pickA_bool, ldA_ptr, ldv_f, binA_sub, binA_eql, binA_gtr, natOf_int, optNat_none, optNat_some, sliceA_sl, emptyS_sub, emptyS_zero, subCap_zero, subCap_zero, idxA_sl, lenSA_sl, val_t, val_k, updO_some, bindP_some, bindP_need, bindP_bind, upd_app, argsE_app, getB_zero, List.getD_cons_zero, List.getD_cons_succ, List.getD_nil, List.length_cons, List.length_nil, true_and, and_true, forall_const, Option.bind_some, reduceCtorEq, reduceIte, false_implies, Bool.not_true, Bool.true_eq_false, Bool.false_eq_true, Nat.zero_add, Nat.reduceAdd, Nat.reduceEqDiff, Nat.succ_ne_zero, Nat.reduceLeDiff, Nat.mul_one, decide_true, Int.reduceSub, Nat.reduceAdd, Nat.reduceSub, n1, wi0, tn0, le0, lt01, h0]
  simp only [r72_3, rA_mov, rA_nil, goon, val_t, updO_some, upd_app, argsE_app, List.getD_cons_zero, List.getD_cons_succ, List.getD_nil, reduceCtorEq, reduceIte, Nat.reduceEqDiff, Nat.succ_ne_zero]
  exact ⟨.inl trivial, _, rfl, .keep _ _⟩
theorem trimS2zz (k : Nat) : Ret Tryz.prog G 72 [.sl 0 0 2 1 (some k)] [some [.int .u32 0, .int .u32 0]] (.vec [] 0 (some k)) [some [.int .u32 0, .int .u32 0]] := by
  refine Ret_of mixed Tryz.func72 comp72 _ 21 res72 nt72 (by simp) (by simp) ?_
  simp only [c72, r72_0, wpC, andThen_normal, rA_mov, rA_nil, goon, val_k, updO_some, List.length_cons, List.length_nil, reduceCtorEq, Nat.zero_add]
  refine W_un mixed 3 (Un_in ?_)
  simp only [l72_0, r72_1, r72_2, wpC, andThen_normal, andThen_exit, inBlk_normal, inBlk_exit, rA_mov, rA_pick, rA_load, rA_bin, rA_slice, rA_idx, rA_len, rA_guardf, rA_nil, goon, boolA_bool, condA_bool, both_some, pickA_bool, ldA_ptr, ldv_f, binA_sub, binA_eql, binA_gtr, natOf_int, optNat_none, optNat_some, sliceA_sl, emptyS_sub, emptyS_zero, subCap_zero, subCap_zero, idxA_sl, lenSA_sl, val_t, val_k, updO_some, bindP_some, bindP_need, bindP_bind, upd_app, argsE_app, getB_zero, List.getD_cons_zero, List.getD_cons_succ, List.getD_nil, List.length_cons, List.length_nil, true_and, and_true, forall_const, Option.bind_some, reduceCtorEq, reduceIte, false_implies, Bool.not_true, Bool.true_eq_false, Bool.false_eq_true, Nat.zero_add, Nat.reduceAdd, Nat.reduceEqDiff, Nat.reduceLeDiff, Nat.mul_one, decide_true, Int.reduceLT, Int.reduceLE, Int.reduceSub, Nat.reduceAdd, Nat.reduceSub, n2, wi1, tn1, lt12]
  refine Un_in ?_
  simp only [wpC, andThen_normal, andThen_exit, inBlk_normal, inBlk_exit, rA_mov, rA_pick, rA_load, rA_bin, rA_slice, rA_idx, rA_len, rA_guardf, rA_nil, goon, boolA_bool, condA_bool, both_some, pickA_bool, ldA_ptr, ldv_f, binA_sub, binA_eql, binA_gtr, natOf_int, optNat_none, optNat_some, sliceA_sl, emptyS_sub, emptyS_zero, subCap_zero, subCap_zero, idxA_sl, lenSA_sl, val_t, val_k, updO_some, bindP_some, bindP_need, bindP_bind, upd_app, argsE_app, getB_zero, List.getD_cons_zero, List.getD_cons_succ, List.getD_nil, List.length_cons, List.length_nil, true_and, and_true, forall_const, Option.bind_some, reduceCtorEq, reduceIte, false_implies, Bool.not_true, Bool.true_eq_false, Bool.false_eq_true, Nat.zero_add, Nat.reduceAdd, Nat.reduceEqDiff, Nat.succ_ne_zero, Nat.reduceLeDiff, Nat.mul_one, decide_true, Int.reduceSub, Nat.reduceAdd, Nat.reduceSub, n1, wi0, tn0, le0, lt01]
  refine Un_in ?_
  simp only [wpC, andThen_normal, andThen_exit, inBlk_normal, inBlk_exit, rA_mov, rA_pick, rA_load, rA_bin, rA_slice, rA_idx, rA_len, rA_guardf, rA_nil, goon, boolA_bool, condA_bool, both_some, pickA_bool, ldA_iptr, ldv_f, binA_sub, binA_gtr, natOf_int, optNat_none, optNat_some, sliceA_vec, subCap_zero, idxA_vec, lenSA_vec, val_t, val_k, updO_some, bindP_some, bindP_need, bindP_bind, upd_app, argsE_app, List.getD_cons_zero, List.getD_cons_succ, List.getD_nil, List.length_nil, true_and, and_true, forall_const, Option.bind_some, reduceCtorEq, reduceIte, false_implies, Bool.not_true, Bool.true_eq_false, Bool.false_eq_true, Nat.reduceEqDiff, Nat.succ_ne_zero, Nat.reduceLeDiff, Nat.mul_one, List.drop_zero, decide_false, Int.reduceLT, Int.reduceLE, Int.reduceSub, Int.reduceNeg, Int.natCast_zero, wim1]
  simp only [r72_3, rA_mov, rA_nil, goon, val_t, updO_some, upd_app, argsE_app, List.getD_cons_zero, List.getD_cons_succ, List.getD_nil, reduceCtorEq, reduceIte, Nat.reduceEqDiff, Nat.succ_ne_zero]
  exact ⟨.inl trivial, _, rfl, .keep _ _⟩
-- word
theorem word0 (c : Option Nat) : Ret Tryz.prog G 73 [.vec [] 0 c] [] (.int .u64 0) [] := by
  refine Ret_of mixed Tryz.func73 comp73 _ 22 res73 nt73 (by simp) (by simp) ?_
  simp only [c73, r73_0, r73_1, r73_2, wpC, andThen_normal, rA_mov, rA_len, rA_nil, goon, lenSA_vec, val_t, val_k, updO_some, bindP_some, upd_app, argsE_app, List.getD_cons_zero, List.length_nil, reduceCtorEq, reduceIte]
  refine W_un mixed 1 (Un_in ?_)
  simp only [l73_0, r73_3, wpC, andThen_normal, andThen_exit, inBlk_normal, inBlk_exit, rA_bin, rA_nil, goon, condA_bool, both_some, binA_lss, val_t, updO_some, bindP_some, upd_app, argsE_app, List.getD_cons_succ, List.getD_nil, true_and, forall_const, reduceCtorEq, reduceIte, false_implies, Bool.false_eq_true, Nat.reduceEqDiff, decide_false, Int.reduceLT, Int.natCast_zero]
  simp only [r73_7, rA_mov, rA_nil, goon, val_t, updO_some, upd_app, argsE_app, List.getD_cons_succ, List.getD_nil, reduceIte, Nat.reduceEqDiff]
  exact ⟨.inl trivial, _, rfl, .keep _ _⟩
theorem word1 (x : Nat) (c : Option Nat) (hx : x < 4294967296) : Ret Tryz.prog G 73 [.vec [.int .u32 x] 1 c] [] (.int .u64 x) [] := by
  have w1 : IntKind.u64.wrap (x : Int) = x := wrap_u64 (by omega)
  have w2 : IntKind.u64.wrap ((BitVec.ofInt IntKind.u64.bits 0 ||| BitVec.ofInt IntKind.u64.bits (x : Int)).toNat : Int) = x := or_zero64 (x := x) (by omega)
  refine Ret_of mixed Tryz.func73 comp73 _ 22 res73 nt73 (by simp) (by simp) ?_
  simp only [c73, r73_0, r73_1, r73_2, wpC, andThen_normal, rA_mov, rA_len, rA_nil, goon, lenSA_vec, val_t, val_k, updO_some, bindP_some, upd_app, argsE_app, List.getD_cons_zero, List.length_nil, reduceCtorEq, reduceIte]
  refine W_un mixed 2 (Un_in ?_)
  simp only [l73_0, r73_3, wpC, andThen_normal, andThen_exit, inBlk_normal, inBlk_exit, rA_bin, rA_nil, goon, condA_bool, both_some, binA_lss, val_t, updO_some, bindP_some, upd_app, argsE_app, List.getD_cons_succ, List.getD_nil, and_true, forall_const, reduceCtorEq, reduceIte, false_implies, Bool.true_eq_false, Nat.reduceEqDiff, decide_true, n1, lt01]
  simp only [r73_4, r73_5, rA_mov, rA_load, rA_bin, rA_conv, rA_idx, rA_nil, goon, ldA_iptr, ldv_f, binA_mul, binA_shl, binA_or, convA_int, idxA_vec, val_t, val_k, updO_some, bindP_some, bindP_need, upd_app, argsE_app, List.getD_cons_zero, List.getD_cons_succ, List.getD_nil, List.length_cons, List.length_nil, true_and, and_true, forall_const, reduceIte, Nat.zero_add, Nat.reduceEqDiff, Nat.reduceLeDiff, Nat.mul_one, Int.reduceMul, n1, wi0, tn0, le0, lt01, w1, Nat.zero_min, Int.pow_zero, Int.mul_one, w2]
  simp only [r73_6, rA_mov, rA_bin, rA_nil, goon, binA_add, val_t, val_k, updO_some, bindP_some, upd_app, argsE_app, List.getD_cons_succ, List.getD_nil, reduceIte, Nat.reduceEqDiff, Int.reduceAdd, wi1]
  refine Un_in ?_
  simp only [wpC, andThen_normal, andThen_exit, inBlk_normal, inBlk_exit, rA_mov, rA_load, rA_bin, rA_conv, rA_idx, rA_nil, goon, condA_bool, both_some, ldA_iptr, ldv_f, binA_lss, idxA_vec, val_t, val_k, updO_some, bindP_some, bindP_need, upd_app, argsE_app, List.getD_cons_succ, List.getD_nil, List.length_cons, List.length_nil, true_and, forall_const, reduceCtorEq, reduceIte, false_implies, Bool.false_eq_true, Nat.zero_add, Nat.reduceAdd, Nat.reduceEqDiff, Nat.reduceLeDiff, Nat.mul_one, decide_false, Int.reduceLT, Int.reduceLE, Nat.reduceAdd, n1, tn1]
  simp only [r73_7, rA_mov, rA_nil, goon, val_t, updO_some, upd_app, argsE_app, List.getD_cons_succ, List.getD_nil, reduceIte, Nat.reduceEqDiff]
  exact ⟨.inl trivial, _, rfl, .keep _ _⟩
-- build
theorem build0 (s : Bool) (cs : List AV) (c : Option Nat) : Ret Tryz.prog G 118 [.bool s, .vec cs 0 c] [] (.agg [.bool false, .vec [] 0 (some 0)]) [] := by
  refine Ret_of mixed Tryz.func118 comp118 _ 12 res118 nt118 (by simp) (by simp) ?_
  simp only [c118, r118_0, r118_1, r118_2, wpC, andThen_normal, andThen_ret, rA_mov, rA_box, rA_build, rA_store, rA_bin, rA_len, rA_nil, goon, condA_bool, both_some, stA_ptr, binA_eql, lenSA_vec, val_t, val_k, updO_some, cells_agg, firm_agg, setL_nil, setL_cons, scalL_nil, scalL_cons, scal_bool, scal_vec, fillA_nil, bindP_some, bindP_need, upd_app, argsE_app, getB_zero, List.getD_cons_zero, List.getD_cons_succ, List.getD_nil, List.length_cons, List.length_nil, List.nil_append, true_and, and_true, forall_const, Option.bind_some, reduceCtorEq, reduceIte, false_implies, Bool.true_eq_false, Nat.zero_add, Nat.reduceAdd, Nat.reduceEqDiff, Nat.reduceLeDiff, List.set_cons_zero, List.set_cons_succ, Bool.and_self, decide_true, Nat.reduceAdd, Int.natCast_zero]
  exact ⟨.inl trivial, _, rfl, .drop _ _ rfl (by intro i cs h; omega)⟩
theorem build1 (s : Bool) (l : List AV) (c : Option Nat) : Ret Tryz.prog G 118 [.bool s, .vec l 1 c] [] (.agg [.bool s, .vec l 1 c]) [] := by
  refine Ret_of mixed Tryz.func118 comp118 _ 12 res118 nt118 (by simp) (by simp) ?_
  simp only [c118, r118_0, r118_1, r118_3, wpC, andThen_normal, andThen_ret, rA_mov, rA_box, rA_build, rA_store, rA_bin, rA_len, rA_nil, goon, condA_bool, both_some, stA_ptr, binA_eql, lenSA_vec, val_t, val_k, updO_some, cells_agg, cells_bool, cells_vec, firm_agg, firm_bool, firm_vec, setL_nil, setL_cons, scalL_nil, scalL_cons, scal_bool, scal_vec, fillA_nil, fillA_cons, bindP_some, bindP_need, upd_app, argsE_app, getB_zero, List.getD_cons_zero, List.getD_cons_succ, List.getD_nil, List.length_cons, List.length_nil, List.nil_append, true_and, and_true, forall_const, Option.bind_some, reduceCtorEq, reduceIte, false_implies, Bool.false_eq_true, Nat.zero_add, Nat.reduceAdd, Nat.reduceEqDiff, Nat.reduceLeDiff, List.set_cons_zero, List.set_cons_succ, Bool.and_self, decide_false, Int.reduceEq, Nat.reduceAdd, n1]
  exact ⟨.inl trivial, _, rfl, .drop _ _ rfl (by intro i cs h; omega)⟩
-- fromWord
theorem fromWord0 : Ret Tryz.prog G 119 [.int .u64 0] [] (.vec [] 0 (some 2)) [] := by
  have w1 : IntKind.u32.wrap 0 = 0 := rfl
  have w2 : Int.fdiv 0 (2 ^ min (Int.toNat 32) IntKind.u64.bits) = 0 := rfl
  refine Ret_of mixed Tryz.func119 comp119 _ 10 res119 nt119 (by simp) (by simp) ?_
  simp only [c119, r119_0, r119_1, wpC, andThen_normal, rA_mov, rA_bsl, rA_bin, rA_conv, rA_callf, rA_nil, goon, binA_shr, convA_int, val_t, val_k, updO_some, cells_int, firm_int, setL_nil, setL_cons, fillA_nil, fillA_cons, bindP_some, bindP_need, upd_app, argsE_app, List.getD_cons_zero, List.getD_cons_succ, List.getD_nil, List.map_cons, List.map_nil, List.length_cons, List.length_nil, List.nil_append, true_and, and_true, reduceCtorEq, reduceIte, Nat.zero_add, Nat.reduceAdd, Nat.reduceEqDiff, Nat.reduceLeDiff, Nat.mul_one, List.set_cons_zero, List.set_cons_succ, Int.reduceLE, Nat.reduceAdd, w1, w2]
  refine callA_one (trimS2zz 2) rfl rfl ?_
  simp only [restA, applyE, List.replicate_zero, List.append_nil, rA_mov, rA_nil, goon, val_t, updO_some, upd_app, argsE_app, List.getD_cons_succ, List.getD_nil, List.length_cons, List.length_nil, reduceIte, Nat.zero_add, Nat.reduceEqDiff, List.set_cons_zero]
  exact ⟨.inl trivial, _, rfl, .freeze 3 _ _ _ rfl (by intro i cs h; omega)⟩
theorem fromWord1 (x : Nat) (hx : x ≠ 0) (hx' : x < 4294967296) : Ret Tryz.prog G 119 [.int .u64 x] [] (.vec [.int .u32 x] 1 (some 2)) [] := by
  have w1 : IntKind.u32.wrap (x : Int) = x := wrap_u32 hx'
  have w3 : IntKind.u32.wrap 0 = 0 := rfl
  have w2 : Int.fdiv (x : Int) (2 ^ min (Int.toNat 32) IntKind.u64.bits) = 0 := by
    show Int.fdiv (x : Int) 4294967296 = 0
    rw [Int.fdiv_eq_ediv_of_nonneg _ (by decide)]
    omega
  refine Ret_of mixed Tryz.func119 comp119 _ 10 res119 nt119 (by simp) (by simp) ?_
  simp only [c119, r119_0, r119_1, wpC, andThen_normal, rA_mov, rA_bsl, rA_bin, rA_conv, rA_callf, rA_nil, goon, binA_shr, convA_int, val_t, val_k, updO_some, cells_int, firm_int, setL_nil, setL_cons, fillA_nil, fillA_cons, bindP_some, bindP_need, upd_app, argsE_app, List.getD_cons_zero, List.getD_cons_succ, List.getD_nil, List.map_cons, List.map_nil, List.length_cons, List.length_nil, List.nil_append, true_and, and_true, reduceCtorEq, reduceIte, Nat.zero_add, Nat.reduceAdd, Nat.reduceEqDiff, Nat.reduceLeDiff, Nat.mul_one, List.set_cons_zero, List.set_cons_succ, Int.reduceLE, Nat.reduceAdd, w1, w2, w3]
  refine callA_one (trimS2z x 2 hx) rfl rfl ?_
  simp only [restA, applyE, List.replicate_zero, List.append_nil, rA_mov, rA_nil, goon, val_t, updO_some, upd_app, argsE_app, List.getD_cons_succ, List.getD_nil, List.length_cons, List.length_nil, reduceIte, Nat.zero_add, Nat.reduceEqDiff, List.set_cons_zero]
  exact ⟨.inl trivial, _, rfl, .freeze 3 _ _ _ rfl (by intro i cs h; omega)⟩
-- mulNat

def gTrim2 (x : Nat) (y : Nat) (k : Option Nat) : O := match y with
  | y + 1 => some (.sl 0 0 2 1 k, [some [.int .u32 (.ofNat x), .int .u32 (.ofNat (y + 1))]])
  | 0 => match k with
    | some k => match x with
      | x + 1 => some (.sl 0 0 1 1 (some k), [some [.int .u32 (.ofNat (x + 1)), .int .u32 (.ofNat 0)]])
      | 0 => some (.vec [] 0 (some k), [some [.int .u32 (.ofNat 0), .int .u32 (.ofNat 0)]])
    | none => none
def gTrim1 (x : Nat) (k : Option Nat) : O := match x with
  | x + 1 => some (.sl 0 0 1 1 k, [some [.int .u32 (.ofNat (x + 1))]])
  | 0 => match k with
    | some k => some (.vec [] 0 (some k), [some [.int .u32 (.ofNat 0)]])
    | none => none
def gTrim (args : List AV) (H : Heap) : O := match args, H with
  | [.vec cs n c], [] => match n, cs with
    | 0, [] => some (.vec [] 0 c, [])
    | 1, [.int .u32 (.ofNat (x + 1))] => some (.vec [.int .u32 (.ofNat (x + 1))] 1 c, [])
    | _, _ => none
  | [.sl id off n sz k], [some cs] => match id, off, sz, n, cs with
    | 0, 0, 1, 1, [.int .u32 (.ofNat x)] => gTrim1 x k
    | 0, 0, 1, 2, [.int .u32 (.ofNat x), .int .u32 (.ofNat y)] => gTrim2 x y k
    | _, _, _, _, _ => none
  | _, _ => none
theorem gTrim_ok : EOT Tryz.prog G okB 72 (.known gTrim) := by
  intro args H v H' h
  unfold gTrim at h
  split at h
  · split at h
    · cases h; exact trim0 _
    · cases h; exact trim1 _ _ (Nat.succ_ne_zero _)
    · simp at h
  · split at h
    · unfold gTrim1 at h
      split at h
      · cases h; exact trimS1 _ _ (Nat.succ_ne_zero _)
      · split at h
        · cases h; exact trimS1z _
        · simp at h
    · unfold gTrim2 at h
      split at h
      · cases h; exact trimS2 _ _ _ (Nat.succ_ne_zero _)
      · split at h
        · split at h
          · cases h; exact trimS2z _ _ (Nat.succ_ne_zero _)
          · cases h; exact trimS2zz _
        · simp at h
    · simp at h
  · simp at h
def gWord (args : List AV) (H : Heap) : O := match args, H with
  | [.vec cs n _], [] => match n, cs with
    | 0, [] => some (.int .u64 (.ofNat 0), [])
    | 1, [.int .u32 (.ofNat x)] => if x < 4294967296 then some (.int .u64 (.ofNat x), []) else none
    | _, _ => none
  | _, _ => none
theorem gWord_ok : EOT Tryz.prog G okB 73 (.known gWord) := by
  intro args H v H' h
  unfold gWord at h
  split at h
  · split at h
    · cases h; exact word0 _
    · split at h
      · rename_i hx
        cases h; exact word1 _ _ hx
      · simp at h
    · simp at h
  · simp at h
def gBuild (args : List AV) (H : Heap) : O := match args, H with
  | [.bool s, .vec cs n c], [] => match n with
    | 0 => some (.agg [.bool false, .vec [] 0 (some 0)], [])
    | 1 => some (.agg [.bool s, .vec cs 1 c], [])
    | _ => none
  | _, _ => none
theorem gBuild_ok : EOT Tryz.prog G okB 118 (.known gBuild) := by
  intro args H v H' h
  unfold gBuild at h
  split at h
  · split at h
    · cases h; exact build0 _ _ _
    · cases h; exact build1 _ _ _
    · simp at h
  · simp at h
def gFromWord (args : List AV) (H : Heap) : O := match args, H with
  | [.int .u64 (.ofNat x)], [] => match x with
    | 0 => some (.vec [] 0 (some 2), [])
    | x + 1 => if x + 1 < 4294967296 then some (.vec [.int .u32 (.ofNat (x + 1))] 1 (some 2), []) else none
  | _, _ => none
theorem gFromWord_ok : EOT Tryz.prog G okB 119 (.known gFromWord) := by
  intro args H v H' h
  unfold gFromWord at h
  split at h
  · split at h
    · cases h; exact fromWord0
    · split at h
      · rename_i hx
        cases h; exact fromWord1 _ (Nat.succ_ne_zero _) hx
      · simp at h
  · simp at h
end Go.Proofs.YtmmfnpbjolpfmaaGreatDoor

/- The compiled code of some functions, by program (gencode.py). -/

namespace Go.Proofs.YtmmfnpbjolpfmaaGreatDoor
set_option linter.unusedSimpArgs false
set_option linter.unusedVariables false
open Go Go.AL Go.Proofs
set_option maxRecDepth 100000
-- slices.Clone[[]uint32,uint32] (function 179)
def r179_0 : List COp := [⟨(some 2), none, (.mov (.k (.vec [] 0 (some 0))))⟩]
def r179_1 : List COp := [⟨(some 3), none, (.mov (.t 0))⟩, ⟨(some 4), none, (.snil false (.t 3))⟩]
def r179_2 : List COp := [⟨(some 2), none, (.mov (.k (.vec [] 0 (some 0))))⟩]
def r179_3 : List COp := [⟨(some 5), none, (.bsl 0 1 [] [])⟩, ⟨(some 6), none, (.mov (.t 0))⟩, ⟨(some 7), none, (.append 1 4 (.t 5) (.t 6))⟩, ⟨(some 2), none, (.mov (.t 7))⟩]
def c179 : CC := (.seq (.reg r179_0 none) (.seq (.seq (.reg r179_1 none) (.cond (.t 4) (.seq (.reg r179_2 none) .ret) .skip)) (.seq (.reg r179_3 none) .ret)))
theorem comp179 : Tryz.f179.body.bind (compC Tryz.prog G Tryz.f179.ntmps) = some c179 := by kernel_rfl
theorem res179 : Tryz.f179.results.toList = [(.tmp 2)] := by kernel_rfl
end Go.Proofs.YtmmfnpbjolpfmaaGreatDoor

/- slices.Clone of a list of 32-bit numbers (function 179), for the evaluator. -/
namespace Go.Proofs.YtmmfnpbjolpfmaaGreatDoor
set_option linter.unusedSimpArgs false
set_option linter.unusedVariables false
open Go Go.AL Go.Proofs
set_option maxRecDepth 100000

theorem nt179 : Tryz.f179.ntmps = 8 := by kernel_rfl

theorem clone0 (cs : List AV) (c : Option Nat) : Ret Tryz.prog G 179 [.vec cs 0 c] [] (.vec [] 0 (some 0)) [] := by
  refine Ret_of mixed Tryz.func179 comp179 _ 8 res179 nt179 (by simp) (by simp) ?_
  simp only [c179, r179_0, r179_1, r179_2, r179_3, wpC, andThen_normal, andThen_ret, andThen_exit, andThen_goto, inBlk_normal, inBlk_ret, inBlk_exit, rA_mov, rA_pick, rA_box, rA_build, rA_bsl, rA_load, rA_store, rA_nilck, rA_bin, rA_beq, rA_snil, rA_un, rA_conv, rA_mksl, rA_slice, rA_fld, rA_part, rA_idx, rA_idxa, rA_idxv, rA_idxs, rA_ext, rA_len, rA_lens, rA_lenk, rA_max, rA_mkfn, rA_append, rA_callf, rA_callc, rA_guardf, rA_nil, restA_pure, goon, boolA_bool, condA_bool, condA_any, both_some, both_none, pickA_bool, ldA_ptr, ldA_iptr, ldv_f, ldv_t, stA_ptr, nilA_ptr, nilA_iptr, binA_add, binA_sub, binA_mul, binA_quo, binA_rem, binA_shl, binA_shr, binA_and, binA_or, binA_andNot, binA_eql, binA_neq, binA_lss, binA_leq, binA_gtr, binA_geq, binA_seql, binA_sadd, beqA_bool, snilA_vec, snilA_sl, unA_neg, unA_not, convA_int, mkslA_int, natOf_int, optNat_none, optNat_some, sliceA_vec, sliceA_sl, sliceA_vec3, sliceA_sl3, subCap_none, subCap_zero, fldA_ptr, fldA_iptr, partA_agg, idxA_sl, idxA_vec, idxaA_ptr, idxaA_iptr, idxvA_agg, idxsA_str, extA_tup, lenSA_vec, lenSA_sl, lenStA_str, maxA_int, val_t, val_k, updO_some, updO_none, cells_agg, cells_int, cells_bool, cells_vec, cells_sl, firm_agg, firm_int, firm_bool, firm_vec, firm_sl, setL_nil, setL_cons, scalL_nil, scalL_cons, scal_int, scal_bool, scal_vec, scal_sl, fillA_nil, fillA_cons, zeros_one, bindP_some, bindP_need, bindP_none, bindP_bind, upd_app, argsE_app, getB_zero, getB_succ, List.getD_cons_zero, List.getD_cons_succ, List.getD_nil, List.map_cons, List.map_nil, List.length_cons, List.length_nil, List.nil_append, List.cons_append, true_and, and_true, forall_const, true_implies, Option.bind_some, Option.bind_none, reduceCtorEq, reduceIte, false_implies, implies_true, Bool.not_true, Bool.not_false, Bool.true_eq_false, Bool.false_eq_true, Nat.zero_add, Nat.reduceAdd, Nat.reduceEqDiff, Nat.succ_ne_zero, Nat.reduceLeDiff, decide_eq_true_eq, decide_eq_false_iff_not, Nat.mul_one, List.take_succ_cons, List.take_zero, List.drop_zero, List.drop_succ_cons, List.set_cons_zero, List.set_cons_succ, Bool.and_true, Bool.and_self, emptyS_sub, emptyS_succ, emptyS_zero]
  refine ⟨⟨.inl trivial, _, rfl, .keep _ _⟩, ?_⟩
  simp only [appendA, lenA, elems, need, Option.bind_some, Nat.zero_mul, Nat.le_refl, Nat.zero_le, and_self, if_true, bindP_some, applyE, List.take_zero]
  exact ⟨.inl trivial, _, rfl, .freeze 1 _ _ _ rfl (by intro i cs h; omega)⟩

theorem clone1 (cs : List AV) (n : Nat) (c : Option Nat) (h0 : 0 < n) (hn : n ≤ cs.length) (hb : 16 * n ≤ 2 ^ 48) : Ret Tryz.prog G 179 [.vec cs n c] [] (.sl 1 0 n 1 none) [some [], some (cs.take n)] := by
  refine Ret_of mixed Tryz.func179 comp179 _ 8 res179 nt179 (by simp) (by simp) ?_
  simp only [c179, r179_0, r179_1, r179_2, r179_3, wpC, andThen_normal, andThen_ret, andThen_exit, andThen_goto, inBlk_normal, inBlk_ret, inBlk_exit, rA_mov, rA_pick, rA_box, rA_build, rA_bsl, rA_load, rA_store, rA_nilck, rA_bin, rA_beq, rA_snil, rA_un, rA_conv, rA_mksl, rA_slice, rA_fld, rA_part, rA_idx, rA_idxa, rA_idxv, rA_idxs, rA_ext, rA_len, rA_lens, rA_lenk, rA_max, rA_mkfn, rA_append, rA_callf, rA_callc, rA_guardf, rA_nil, restA_pure, goon, boolA_bool, condA_bool, condA_any, both_some, both_none, pickA_bool, ldA_ptr, ldA_iptr, ldv_f, ldv_t, stA_ptr, nilA_ptr, nilA_iptr, binA_add, binA_sub, binA_mul, binA_quo, binA_rem, binA_shl, binA_shr, binA_and, binA_or, binA_andNot, binA_eql, binA_neq, binA_lss, binA_leq, binA_gtr, binA_geq, binA_seql, binA_sadd, beqA_bool, snilA_vec, snilA_sl, unA_neg, unA_not, convA_int, mkslA_int, natOf_int, optNat_none, optNat_some, sliceA_vec, sliceA_sl, sliceA_vec3, sliceA_sl3, subCap_none, subCap_zero, fldA_ptr, fldA_iptr, partA_agg, idxA_sl, idxA_vec, idxaA_ptr, idxaA_iptr, idxvA_agg, idxsA_str, extA_tup, lenSA_vec, lenSA_sl, lenStA_str, maxA_int, val_t, val_k, updO_some, updO_none, cells_agg, cells_int, cells_bool, cells_vec, cells_sl, firm_agg, firm_int, firm_bool, firm_vec, firm_sl, setL_nil, setL_cons, scalL_nil, scalL_cons, scal_int, scal_bool, scal_vec, scal_sl, fillA_nil, fillA_cons, zeros_one, bindP_some, bindP_need, bindP_none, bindP_bind, upd_app, argsE_app, getB_zero, getB_succ, List.getD_cons_zero, List.getD_cons_succ, List.getD_nil, List.map_cons, List.map_nil, List.length_cons, List.length_nil, List.nil_append, List.cons_append, true_and, and_true, forall_const, true_implies, Option.bind_some, Option.bind_none, reduceCtorEq, reduceIte, false_implies, implies_true, Bool.not_true, Bool.not_false, Bool.true_eq_false, Bool.false_eq_true, Nat.zero_add, Nat.reduceAdd, Nat.reduceEqDiff, Nat.succ_ne_zero, Nat.reduceLeDiff, decide_eq_true_eq, decide_eq_false_iff_not, Nat.mul_one, List.take_succ_cons, List.take_zero, List.drop_zero, List.drop_succ_cons, List.set_cons_zero, List.set_cons_succ, Bool.and_true, Bool.and_self, emptyS_sub, emptyS_succ, emptyS_zero, show n ≠ 0 by omega, if_false]
  have e1 : n * 1 ≤ cs.length := by omega
  simp only [appendA, lenA, elems, need, Option.bind_some, hn, e1, Nat.le_refl, and_self, if_true, show n ≠ 0 by omega, if_false, getB, List.getElem?_cons_zero, Nat.zero_mul, Nat.zero_le, Nat.zero_add, true_and, show 4 * n * 4 ≤ 2 ^ 48 by omega, show n < 2 ^ 62 by omega, bindP_some, applyE, Nat.mul_one, List.set_cons_succ, List.set_cons_zero, List.take_zero, List.nil_append]
  exact ⟨.inl trivial, _, rfl, .keep _ _⟩

def g179 : List AV → Heap → Option (AV × Heap)
  | [.vec cs n _], [] => match n with
    | 0 => some (.vec [] 0 (some 0), [])
    | n + 1 => if n + 1 ≤ cs.length ∧ 16 * (n + 1) ≤ 281474976710656 then some (.sl 1 0 (n + 1) 1 none, [some [], some (cs.take (n + 1))]) else none
  | _, _ => none

theorem g179_ok : EOT Tryz.prog G okB 179 (.known g179) := by
  intro args H v H' h
  unfold g179 at h
  split at h
  · split at h
    · simp only [Option.some.injEq, Prod.mk.injEq] at h
      obtain ⟨rfl, rfl⟩ := h
      exact clone0 _ _
    · split at h
      · rename_i hh
        simp only [Option.some.injEq, Prod.mk.injEq] at h
        obtain ⟨rfl, rfl⟩ := h
        exact clone1 _ _ _ (by omega) hh.1 hh.2
      · simp at h
  · simp at h
end Go.Proofs.YtmmfnpbjolpfmaaGreatDoor
