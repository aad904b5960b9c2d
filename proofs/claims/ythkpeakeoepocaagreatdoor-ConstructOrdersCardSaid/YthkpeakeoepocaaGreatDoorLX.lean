/- Threaded code of some functions, by program (gent.py). -/
import Derived.Test.YthkpeakeoepocaaGreatDoorXB
import Derived.Test.YthkpeakeoepocaaGreatDoorOOM
namespace Go.Proofs.YthkpeakeoepocaaGreatDoor.LB
set_option linter.unusedSimpArgs false
set_option linter.unusedVariables false
open Go Go.AL Go.Proofs
set_option maxRecDepth 100000
-- quadformlaw30.ConstructOrders (function 6)
noncomputable def q6_0 : RunT := (t_seq (t_seq (t_reg (o_mov (s1 u12) (g0 h7) (o_bin .mul b_mul (s1 u13) (gk (.int .i64 (.ofNat (nat_lit 2)))) (g1 h12) (o_mov (s1 u14) (g0 h6) (o_bin .leq (b_cmp leI) (s1 u15) (g1 h13) (g1 h14) q_end))))) (t_cond (g1 h15) t_skip (t_exit (nat_lit 2)))) (t_seq (t_blk (nat_lit 3) (t_seq (t_seq (t_reg (o_mov (s2 u2) (g0 h3) (o_mov (s2 u3) (g0 h7) (o_mov (s2 u4) (g0 h7) (o_bin .mul b_mul (s2 u5) (g2 h3) (g2 h4) (o_bin .add b_add (s2 u6) (g2 h2) (g2 h5) (o_mov (s2 u7) (g0 h6) (o_bin .rem b_rem (s2 u8) (g2 h6) (g2 h7) (o_bin .neq (b_cmp neI) (s2 u9) (g2 h8) (gk (.int .i64 (.ofNat (nat_lit 0)))) (o_mov (s2 u10) (g2 h9) (o_grd (g2 h10) false (s2 u11) (o_mov (s2 u11) (g0 h3)) (o_grd (g2 h10) false (s2 u12) (o_mov (s2 u12) (g0 h7)) (o_grd (g2 h10) false (s2 u13) (o_mov (s2 u13) (g0 h7)) (o_grd (g2 h10) false (s2 u14) (o_bin .mul b_mul (s2 u14) (g2 h12) (g2 h13)) (o_grd (g2 h10) false (s2 u15) (o_bin .add b_add (s2 u15) (g2 h11) (g2 h14)) (o_grd (g2 h10) false (s3 u0) (o_mov (s3 u0) (g0 h6)) (o_grd (g2 h10) false (s3 u1) (o_bin .quo b_quo (s3 u1) (g2 h15) (g3 h0)) (o_grd (g2 h10) false (s3 u2) (o_mov (s3 u2) (g0 h6)) (o_grd (g2 h10) false (s3 u3) (o_bin .lss (b_cmp ltI) (s3 u3) (g3 h1) (g3 h2)) (o_pick (s3 u4) (g2 h10) (gk (.bool true)) (g3 h3) q_end)))))))))))))))))))) (t_cond (g3 h4) (t_exit (nat_lit 3)) t_skip)) (t_seq (t_reg (o_mov (s3 u5) (g0 h3) (o_mov (s3 u6) (g0 h7) (o_mov (s3 u7) (g0 h7) (o_bin .mul b_mul (s3 u8) (g3 h6) (g3 h7) (o_bin .add b_add (s3 u9) (g3 h5) (g3 h8) (o_mov (s3 u10) (g0 h6) (o_bin .quo b_quo (s3 u11) (g3 h9) (g3 h10) (o_mov (s0 u8) (g3 h11) q_end))))))))) (t_blk (nat_lit 4) (t_seq (t_reg (o_mov (s3 u15) (g0 h6) (o_mov (s4 u0) (g0 h8) (o_bin .eql (b_cmp eqI) (s4 u1) (g3 h15) (g4 h0) (o_mov (s4 u2) (g4 h1) (o_grd (g4 h2) true (s4 u3) (o_mov (s4 u3) (g0 h7)) (o_grd (g4 h2) true (s4 u4) (o_bin .mul b_mul (s4 u4) (gk (.int .i64 (.ofNat (nat_lit 2)))) (g4 h3)) (o_grd (g4 h2) true (s4 u5) (o_mov (s4 u5) (g0 h6)) (o_grd (g4 h2) true (s4 u6) (o_bin .eql (b_cmp eqI) (s4 u6) (g4 h4) (g4 h5)) (o_pick (s4 u7) (g4 h2) (g4 h6) (gk (.bool false)) (o_mov (s3 u14) (g4 h7) q_end))))))))))) (t_cond (g3 h14) (t_reg (o_mov (s4 u8) (g0 h4) (o_bin .add b_add (s4 u9) (g4 h8) (gk (.int .i64 (.ofNat (nat_lit 12)))) (o_mov (s0 u4) (g4 h9) q_end)))) (t_seq (t_reg (o_mov (s4 u11) (g0 h6) (o_mov (s4 u12) (g0 h8) (o_bin .eql (b_cmp eqI) (s4 u13) (g4 h11) (g4 h12) (o_mov (s4 u14) (g4 h13) (o_grd (g4 h14) true (s4 u15) (o_mov (s4 u15) (g0 h7)) (o_grd (g4 h14) true (s5 u0) (o_bin .eql (b_cmp eqI) (s5 u0) (g4 h15) (gk (.int .i64 (.ofNat (nat_lit 0))))) (o_pick (s5 u1) (g4 h14) (g5 h0) (gk (.bool false)) (o_mov (s4 u10) (g5 h1) q_end))))))))) (t_cond (g4 h10) (t_reg (o_mov (s5 u2) (g0 h4) (o_bin .add b_add (s5 u3) (g5 h2) (gk (.int .i64 (.ofNat (nat_lit 8)))) (o_mov (s0 u4) (g5 h3) q_end)))) (t_seq (t_reg (o_mov (s5 u5) (g0 h7) (o_bin .eql (b_cmp eqI) (s5 u6) (g5 h5) (gk (.int .i64 (.ofNat (nat_lit 0)))) (o_mov (s5 u7) (g5 h6) (o_grd (g5 h7) false (s5 u8) (o_mov (s5 u8) (g0 h7)) (o_grd (g5 h7) false (s5 u9) (o_bin .mul b_mul (s5 u9) (gk (.int .i64 (.ofNat (nat_lit 2)))) (g5 h8)) (o_grd (g5 h7) false (s5 u10) (o_mov (s5 u10) (g0 h6)) (o_grd (g5 h7) false (s5 u11) (o_bin .eql (b_cmp eqI) (s5 u11) (g5 h9) (g5 h10)) (o_pick (s5 u12) (g5 h7) (gk (.bool true)) (g5 h11) (o_mov (s5 u13) (g5 h12) (o_grd (g5 h13) false (s5 u14) (o_mov (s5 u14) (g0 h6)) (o_grd (g5 h13) false (s5 u15) (o_mov (s5 u15) (g0 h8)) (o_grd (g5 h13) false (s6 u0) (o_bin .eql (b_cmp eqI) (s6 u0) (g5 h14) (g5 h15)) (o_pick (s6 u1) (g5 h13) (gk (.bool true)) (g6 h0) (o_mov (s5 u4) (g6 h1) q_end))))))))))))))) (t_cond (g5 h4) (t_reg (o_mov (s6 u2) (g0 h4) (o_bin .add b_add (s6 u3) (g6 h2) (gk (.int .i64 (.ofNat (nat_lit 4)))) (o_mov (s0 u4) (g6 h3) q_end)))) (t_reg (o_mov (s3 u12) (g0 h4) (o_bin .add b_add (s3 u13) (g3 h12) (gk (.int .i64 (.ofNat (nat_lit 2)))) (o_mov (s0 u4) (g3 h13) q_end)))))))))))))) (t_reg (o_mov (s2 u0) (g0 h7) (o_bin .add b_add (s2 u1) (g2 h0) (gk (.int .i64 (.ofNat (nat_lit 1)))) (o_mov (s0 u7) (g2 h1) q_end))))))
noncomputable def q6_1 : RunT := (t_seq (t_seq (t_reg (o_mov (s1 u3) (g0 h6) (o_bin .mul b_mul (s1 u4) (gk (.int .i64 (.ofNat (nat_lit 3)))) (g1 h3) (o_mov (s1 u5) (g0 h6) (o_bin .mul b_mul (s1 u6) (g1 h4) (g1 h5) (o_mov (s1 u7) (g0 h3) (o_bin .mul b_mul (s1 u8) (gk (.int .i64 (.ofNat (nat_lit 4)))) (g1 h7) (o_bin .leq (b_cmp leI) (s1 u9) (g1 h6) (g1 h8) q_end)))))))) (t_cond (g1 h9) t_skip (t_exit (nat_lit 0)))) (t_seq (t_blk (nat_lit 1) (t_seq (t_reg (o_mov (s0 u7) (gk (.int .i64 (.ofNat (nat_lit 0)))) q_end)) (t_blk (nat_lit 2) (t_loop q6_0)))) (t_reg (o_mov (s1 u10) (g0 h6) (o_bin .add b_add (s1 u11) (g1 h10) (gk (.int .i64 (.ofNat (nat_lit 1)))) (o_mov (s0 u6) (g1 h11) q_end))))))
noncomputable def q6_2 : RunT := (t_seq (t_reg (o_bin .lss (b_cmp ltI) (s6 u12) (g6 h11) (g6 h10) q_end)) (t_seq (t_cond (g6 h12) t_skip (t_exit (nat_lit 5))) (t_seq (t_blk (nat_lit 6) (t_seq (t_reg (o_idx (nat_lit 1) (s6 u13) (g6 h9) (g6 h11) (o_load (s6 u14) (g6 h13) (o_mov (s0 u12) (g6 h14) q_end)))) (t_seq (t_reg (o_mov (s7 u0) (g0 h12) (o_call .d0 .d0 .d13 (s7 u1) [(g7 h0), (gk (.int .i64 (.ofNat (nat_lit 200000))))] (o_mov (s6 u15) (g7 h1) (o_ext (nat_lit 0) (s7 u2) (g6 h15) (o_ext (nat_lit 1) (s7 u3) (g6 h15) (o_box (s0 u13) (gk (.agg [(.bool false), (.vec [] 0 (some 0))])) (o_storea (nat_lit 2) (g0 h13) (g7 h2) (o_mov (s0 u14) (g7 h3) q_end))))))))) (t_seq (t_seq (t_reg (o_mov (s7 u4) (g0 h14) (o_bin .neq (b_cmp neI) (s7 u5) (g7 h4) (gk (.int .i64 (.ofNat (nat_lit 0)))) (o_mov (s7 u6) (g7 h5) (o_grd (g7 h6) false (s7 u7) (o_fld (nat_lit 1) (s7 u7) (g0 h13)) (o_grd (g7 h6) false (s7 u8) (o_load (s7 u8) (g7 h7)) (o_grd (g7 h6) false (s7 u9) (o_len (s7 u9) (g7 h8)) (o_grd (g7 h6) false (s7 u10) (o_bin .neq (b_cmp neI) (s7 u10) (g7 h9) (gk (.int .i64 (.ofNat (nat_lit 1))))) (o_pick (s7 u11) (g7 h6) (gk (.bool true)) (g7 h10) q_end))))))))) (t_cond (g7 h11) (t_seq (t_reg (o_mov (s0 u2) (gk (.bool false)) q_end)) t_ret) t_skip)) (t_reg (o_mov (s7 u12) (g0 h5) (o_fld (nat_lit 1) (s7 u13) (g0 h13) (o_load (s7 u14) (g7 h13) (o_idx (nat_lit 1) (s7 u15) (g7 h14) (gk (.int .i64 (.ofNat (nat_lit 0)))) (o_load (s8 u0) (g7 h15) (o_conv .i64 (s8 u1) (g8 h0) (o_bin .add b_add (s8 u2) (g7 h12) (g8 h1) (o_mov (s0 u5) (g8 h2) q_end))))))))))))) (t_reg (o_bin .add b_add (s8 u3) (g6 h11) (gk (.int .i64 (.ofNat (nat_lit 1)))) (o_mov (s6 u11) (g8 h3) q_end))))))
noncomputable def t6 : RunT := (t_seq (t_reg (o_mov (s0 u2) (gk (.bool false)) q_end)) (t_seq (t_reg (o_mov (s0 u15) (g0 h0) (o_conv .i64 (s1 u0) (g0 h15) (o_bin .rem b_rem (s1 u1) (g1 h0) (gk (.int .i64 (.ofNat (nat_lit 60)))) (o_bin .add b_add (s1 u2) (gk (.int .i64 (.ofNat (nat_lit 1)))) (g1 h1) (o_mov (s0 u3) (g1 h2) q_end)))))) (t_seq (t_reg (o_mov (s0 u4) (gk (.int .i64 (.ofNat (nat_lit 0)))) (o_mov (s0 u5) (gk (.int .i64 (.ofNat (nat_lit 0)))) q_end))) (t_seq (t_seq (t_reg (o_mov (s0 u6) (gk (.int .i64 (.ofNat (nat_lit 1)))) q_end)) (t_blk (nat_lit 0) (t_loop q6_1))) (t_seq (t_reg (o_mov (s6 u5) (g0 h3) (o_call .d0 .d0 .d8 (s6 u6) [(gk (.int .i64 (.ofNat (nat_lit 2)))), (g6 h5)] (o_mov (s6 u4) (g6 h6) (o_ext (nat_lit 0) (s6 u7) (g6 h4) (o_ext (nat_lit 1) (s6 u8) (g6 h4) (o_mov (s0 u9) (g6 h7) (o_mov (s0 u10) (g6 h8) q_end)))))))) (t_seq (t_seq (t_reg (o_mov (s6 u9) (g0 h9) (o_len (s6 u10) (g6 h9) (o_mov (s6 u11) (gk (.int .i64 (.ofNat (nat_lit 0)))) q_end)))) (t_blk (nat_lit 5) (t_loop q6_2))) (t_seq (t_reg (o_mov (s8 u4) (g0 h10) (o_bin .eql (b_cmp eqI) (s8 u5) (g8 h4) (gk (.int .i64 (.ofNat (nat_lit 0)))) (o_mov (s8 u6) (g8 h5) (o_grd (g8 h6) true (s8 u7) (o_mov (s8 u7) (g0 h5)) (o_grd (g8 h6) true (s8 u8) (o_mov (s8 u8) (g0 h4)) (o_grd (g8 h6) true (s8 u9) (o_bin .eql (b_cmp eqI) (s8 u9) (g8 h7) (g8 h8)) (o_pick (s8 u10) (g8 h6) (g8 h9) (gk (.bool false)) (o_mov (s8 u11) (g8 h10) (o_grd (g8 h11) true (s8 u12) (o_call .d0 .d0 .d7 (s8 u12) []) (o_pick (s8 u13) (g8 h11) (g8 h12) (gk (.bool false)) (o_mov (s0 u2) (g8 h13) q_end)))))))))))) t_ret)))))))
noncomputable def e6 : Ent := .code t6 142 [(.t (g0 h2))] false
theorem k6 : EOT Tryz.prog G okB 6 e6 := eot true Tryz.func6 (by kernel_rfl) (by kernel_rfl) (by kernel_rfl) (by kernel_rfl) (by kernel_rfl)
end Go.Proofs.YthkpeakeoepocaaGreatDoor.LB

/- The table of the fast evaluator, by program (gent.py). -/
namespace Go.Proofs.YthkpeakeoepocaaGreatDoor.LB
set_option linter.unusedSimpArgs false
set_option linter.unusedVariables false
open Go Go.AL Go.Proofs
set_option maxRecDepth 100000
def nR : N16 Ent := ⟨.no, .no, .no, .no, .no, .no, .no, .no, .no, .no, .no, .no, .no, .no, .no, .no⟩
theorem nR_ok (g : Nat → Nat) : nR.All fun k e => EOT Tryz.prog G okB (g k) e := ⟨trivial, trivial, trivial, trivial, trivial, trivial, trivial, trivial, trivial, trivial, trivial, trivial, trivial, trivial, trivial, trivial⟩
def nRR : N16 (N16 Ent) := ⟨nR, nR, nR, nR, nR, nR, nR, nR, nR, nR, nR, nR, nR, nR, nR, nR⟩
theorem nRR_ok (g : Nat → Nat → Nat) : nRR.All fun j r => r.All fun k e => EOT Tryz.prog G okB (g j k) e := ⟨nR_ok _, nR_ok _, nR_ok _, nR_ok _, nR_ok _, nR_ok _, nR_ok _, nR_ok _, nR_ok _, nR_ok _, nR_ok _, nR_ok _, nR_ok _, nR_ok _, nR_ok _, nR_ok _⟩
noncomputable def w0 : N16 Ent := ⟨.no, .no, .no, .no, .no, .no, e6, (.known (memoK OO.memo7)), (.known (memoK OO.memo8)), .no, .no, .no, .no, (.known (memoK OO.memo13)), .no, .no⟩
theorem w0_ok : w0.All fun k e => EOT Tryz.prog G okB (256 * 0 + 16 * 0 + k) e := ⟨trivial, trivial, trivial, trivial, trivial, trivial, k6, OO.memo7_e, OO.memo8_e, trivial, trivial, trivial, trivial, OO.memo13_e, trivial, trivial⟩
noncomputable def v0 : N16 (N16 Ent) := ⟨w0, nR, nR, nR, nR, nR, nR, nR, nR, nR, nR, nR, nR, nR, nR, nR⟩
theorem v0_ok : v0.All fun j r => r.All fun k e => EOT Tryz.prog G okB (256 * 0 + 16 * j + k) e := ⟨w0_ok, nR_ok _, nR_ok _, nR_ok _, nR_ok _, nR_ok _, nR_ok _, nR_ok _, nR_ok _, nR_ok _, nR_ok _, nR_ok _, nR_ok _, nR_ok _, nR_ok _, nR_ok _⟩
noncomputable def T : Tab := ⟨v0, nRR, nRR, nRR, nRR, nRR, nRR, nRR, nRR, nRR, nRR, nRR, nRR, nRR, nRR, nRR⟩
theorem T_ok : TOK Tryz.prog G okB T := ⟨v0_ok, nRR_ok _, nRR_ok _, nRR_ok _, nRR_ok _, nRR_ok _, nRR_ok _, nRR_ok _, nRR_ok _, nRR_ok _, nRR_ok _, nRR_ok _, nRR_ok _, nRR_ok _, nRR_ok _, nRR_ok _⟩
theorem run_ok {n f : Nat} {args : List AV} {H : Heap} {v : AV} {H' : Heap} (h : frun (exT T n) f args H = some (v, H')) : Ret Tryz.prog G f args H v H' := exT_sound (by kernel_rfl) okB_ok mixed T_ok n f args H v H' h
end Go.Proofs.YthkpeakeoepocaaGreatDoor.LB

/- The law ConstructOrders at one argument: the form of its answer. -/
namespace Go.Proofs.YthkpeakeoepocaaGreatDoor.LB
set_option linter.unusedSimpArgs false
set_option linter.unusedVariables false
open Go Go.AL Go.Proofs
set_option maxRecDepth 1000000
def chkB (r : O) : Bool := match r with
  | some (.bool true, []) => true
  | _ => false
theorem chkB_ok {r : O} (h : chkB r = true) : r = some (.bool true, []) := by
  unfold chkB at h
  split at h
  · rfl
  · simp at h
def B (n : Nat) : Prop := Ret Tryz.prog G 6 [.int .u8 (.ofNat n)] [] (.bool true) []
theorem b_run {n : Nat} (h : chkB (frun (exT T 1000) 6 [.int .u8 (.ofNat n)] []) = true) : B n := run_ok (chkB_ok h)
def AllB (s : Nat) : Nat → Prop
  | 0 => True
  | k + 1 => B s ∧ AllB (s + 1) k
theorem allB_get : ∀ (k s i : Nat), AllB s k → i < k → B (s + i)
  | 0, _, _, _, h => absurd h (by omega)
  | k + 1, s, 0, hb, _ => hb.1
  | k + 1, s, i + 1, hb, h => by
    have := allB_get k (s + 1) i hb.2 (by omega)
    rwa [show s + 1 + i = s + (i + 1) by omega] at this
end Go.Proofs.YthkpeakeoepocaaGreatDoor.LB
