/- Threaded code of some functions, by program (gent.py). -/
import Derived.Test.YtgkpcjahopacjaaGreatDoorXB
import Derived.Test.YtgkpcjahopacjaaGreatDoorALZ
import Derived.Test.YtgkpcjahopacjaaGreatDoorGB0
import Derived.Test.YtgkpcjahopacjaaGreatDoorGB1
import Derived.Test.YtgkpcjahopacjaaGreatDoorGB2
import Derived.Test.YtgkpcjahopacjaaGreatDoorGB3
namespace Go.Proofs.YtgkpcjahopacjaaGreatDoor.LB
set_option linter.unusedSimpArgs false
set_option linter.unusedVariables false
open Go Go.AL Go.Proofs
set_option maxRecDepth 100000
noncomputable section
def rest3 : RunT := (t_seq (t_seq (t_reg (o_mov D24 Y8 (o_bin .neq (b_cmp neI) D25 Y24 K0 (o_mov D26 Y25 (o_grd Y26 false D27 (o_mov D27 Y7) (o_grd Y26 false D28 (o_len D28 Y27) (o_grd Y26 false D29 (o_bin .eql (b_cmp eqI) D29 Y28 K0) (o_pick D30 Y26 (gk (.bool true)) Y29 q_end)))))))) (t_cond Y30 (t_seq (t_reg (o_mov D31 Y8 (o_bin .eql (b_cmp eqI) D32 Y31 (gk (.int .i64 (.ofNat (nat_lit 7)))) (o_mov D33 Y32 (o_grd Y33 true D34 (o_call .d0 .d0 .d5 D34 []) (o_pick D35 Y33 Y34 (gk (.bool false)) (o_mov D6 Y35 q_end))))))) t_ret) t_skip)) (t_seq (t_reg (o_mov D36 Y7 (o_mov D37 Y2 (o_conv .i64 D38 Y37 (o_mov D39 Y7 (o_len D40 Y39 (o_bin .rem b_rem D41 Y38 Y40 (o_idx (nat_lit 3) D42 Y36 Y41 (o_loada (nat_lit 3) D43 Y42 (o_box D9 (gk (.agg [(.int .i64 (.ofNat (nat_lit 0))), (.int .i64 (.ofNat (nat_lit 0))), (.vec [] 0 (some 0))])) (o_storea (nat_lit 3) Y9 Y43 q_end))))))))))) (t_seq (t_reg (o_loada (nat_lit 3) D45 Y9 (o_call .d0 .d0 .d6 D46 [Y45] (o_mov D44 Y46 (o_ext (nat_lit 0) D47 Y44 (o_ext (nat_lit 1) D48 Y44 (o_mov D10 Y47 (o_mov D11 Y48 q_end)))))))) (t_seq (t_reg (o_mov D49 Y11 (o_bin .eql (b_cmp eqI) D50 Y49 K0 (o_mov D51 Y50 (o_grd Y51 true D52 (o_mov D52 Y10) (o_grd Y51 true D53 (o_callP .d0 .d0 .d7 D53 [Y52]) (o_pick D54 Y51 Y53 (gk (.bool false)) (o_mov D55 Y54 (o_grd Y55 true D56 (o_mov D56 Y10) (o_grd Y55 true D57 (o_callP .d0 .d0 .d9 D57 [Y56]) (o_grd Y55 true D58 (o_loada (nat_lit 3) D58 Y9) (o_grd Y55 true D59 (o_callP .d0 .d0 .d8 D59 [Y57, Y58]) (o_pick D60 Y55 Y59 (gk (.bool false)) (o_mov D61 Y60 (o_grd Y61 true D62 (o_callP .d0 .d0 .d5 D62 []) (o_pick D63 Y61 Y62 (gk (.bool false)) (o_mov D6 Y63 q_end))))))))))))))))) t_ret))))
def os3_0 : List COp := [⟨(some 6), none, (.mov (.k (.bool false)))⟩]
def os3_1 : List COp := [⟨(some 13), none, (.mov (.t 0))⟩, ⟨(some 14), none, (.conv .i64 (.t 13))⟩, ⟨(some 15), none, (.bin .rem (.t 14) (.k (.int .i64 (.ofNat (nat_lit 3)))))⟩, ⟨(some 16), none, (.bin .add (.k (.int .i64 (.ofNat (nat_lit 1)))) (.t 15))⟩, ⟨(some 17), none, (.mov (.t 1))⟩, ⟨(some 18), none, (.conv .i64 (.t 17))⟩, ⟨(some 19), none, (.bin .rem (.t 18) (.k (.int .i64 (.ofNat (nat_lit 40)))))⟩, ⟨(some 20), none, (.bin .add (.k (.int .i64 (.ofNat (nat_lit 1)))) (.t 19))⟩, ⟨(some 21), none, (.call 4 [(.t 16), (.t 20)])⟩, ⟨(some 12), none, (.mov (.t 21))⟩, ⟨(some 22), none, (.ext (.t 12) 0)⟩, ⟨(some 23), none, (.ext (.t 12) 1)⟩, ⟨(some 7), none, (.mov (.t 22))⟩, ⟨(some 8), none, (.mov (.t 23))⟩]
theorem rest3_ok : rest3 = tr okB true (tail2 ((Tryz.f3.body.bind (compC Tryz.prog G Tryz.f3.ntmps)).getD .skip)) := by kernel_rfl
theorem comp3 : Tryz.f3.body.bind (compC Tryz.prog G Tryz.f3.ntmps) = some (.seq (.reg os3_0 none) (.seq (.reg os3_1 none) (tail2 ((Tryz.f3.body.bind (compC Tryz.prog G Tryz.f3.ntmps)).getD .skip)))) := by kernel_rfl
def rg3 : List RG := [(.t Y6)]
theorem rv3 : (Tryz.f3.results.toList.mapM (cRes Tryz.prog)) = some ((Tryz.f3.results.toList.mapM (cRes Tryz.prog)).getD []) := by kernel_rfl
theorem rg3_ok : rg3 = ((Tryz.f3.results.toList.mapM (cRes Tryz.prog)).getD []).map trR := by kernel_rfl
def q8_0 : RunT := (t_seq (t_reg (o_bin .lss (b_cmp ltI) D31 Y30 Y29 q_end)) (t_seq (t_cond Y31 t_skip (t_exit (nat_lit 0))) (t_seq (t_blk (nat_lit 1) (t_seq (t_reg (o_mov D32 Y30 (o_mov D5 Y32 q_end))) (t_seq (t_reg (o_fld (nat_lit 2) D33 Y2 (o_load D34 Y33 (o_mov D35 Y5 (o_idx (nat_lit 2) D36 Y34 Y35 (o_loada (nat_lit 2) D37 Y36 (o_fld (nat_lit 2) D38 Y3 (o_load D39 Y38 (o_mov D40 Y5 (o_idx (nat_lit 2) D41 Y39 Y40 (o_loada (nat_lit 2) D42 Y41 (o_call .d0 .d1 .d10 D43 [Y37, Y42] (o_un .not D44 Y43 q_end))))))))))))) (t_cond Y44 (t_seq (t_reg (o_mov D4 (gk (.bool false)) q_end)) t_ret) t_skip)))) (t_reg (o_bin .add b_add D45 Y30 K1 (o_mov D30 Y45 q_end))))))
def t8 : RunT := (t_seq (t_reg (o_box D2 Y0 (o_box D3 Y1 (o_mov D4 (gk (.bool false)) q_end)))) (t_seq (t_seq (t_reg (o_fld (nat_lit 0) D6 Y2 (o_load D7 Y6 (o_fld (nat_lit 0) D8 Y3 (o_load D9 Y8 (o_bin .neq (b_cmp neI) D10 Y7 Y9 (o_mov D11 Y10 (o_grd Y11 false D12 (o_fld (nat_lit 1) D12 Y2) (o_grd Y11 false D13 (o_load D13 Y12) (o_grd Y11 false D14 (o_fld (nat_lit 1) D14 Y3) (o_grd Y11 false D15 (o_load D15 Y14) (o_grd Y11 false D16 (o_bin .neq (b_cmp neI) D16 Y13 Y15) (o_pick D17 Y11 (gk (.bool true)) Y16 (o_mov D18 Y17 (o_grd Y18 false D19 (o_fld (nat_lit 2) D19 Y2) (o_grd Y18 false D20 (o_load D20 Y19) (o_grd Y18 false D21 (o_len D21 Y20) (o_grd Y18 false D22 (o_fld (nat_lit 2) D22 Y3) (o_grd Y18 false D23 (o_load D23 Y22) (o_grd Y18 false D24 (o_len D24 Y23) (o_grd Y18 false D25 (o_bin .neq (b_cmp neI) D25 Y21 Y24) (o_pick D26 Y18 (gk (.bool true)) Y25 q_end)))))))))))))))))))))) (t_cond Y26 (t_seq (t_reg (o_mov D4 (gk (.bool false)) q_end)) t_ret) t_skip)) (t_seq (t_seq (t_reg (o_fld (nat_lit 2) D27 Y2 (o_load D28 Y27 (o_len D29 Y28 (o_mov D30 K0 q_end))))) (t_blk (nat_lit 0) (t_loop q8_0))) (t_seq (t_reg (o_mov D4 (gk (.bool true)) q_end)) t_ret))))
def e8 : Ent := .code t8 46 [(.t Y4)] false
theorem k8 : EOT Tryz.prog G okB 8 e8 := eotA true Tryz.func8
def t26 : RunT := (t_seq (t_reg (o_box D2 Y0 (o_box D3 Y1 (o_mov D4 (gk (.bool false)) q_end)))) (t_seq (t_reg (o_fld (nat_lit 0) D5 Y2 (o_load D6 Y5 (o_fld (nat_lit 0) D7 Y3 (o_load D8 Y7 (o_bin .eql (b_cmp eqI) D9 Y6 Y8 (o_mov D10 Y9 (o_grd Y10 true D11 (o_fld (nat_lit 1) D11 Y2) (o_grd Y10 true D12 (o_load D12 Y11) (o_grd Y10 true D13 (o_fld (nat_lit 1) D13 Y3) (o_grd Y10 true D14 (o_load D14 Y13) (o_grd Y10 true D15 (o_call .d0 .d5 .d0 D15 [Y12, Y14]) (o_pick D16 Y10 Y15 (gk (.bool false)) (o_mov D4 Y16 q_end)))))))))))))) t_ret))
def e26 : Ent := .code t26 17 [(.t Y4)] false
theorem k26 : EOT Tryz.prog G okB 26 e26 := eotA true Tryz.func26
def q80_0 : RunT := (t_seq (t_reg (o_bin .lss (b_cmp ltI) D14 Y13 Y12 q_end)) (t_seq (t_cond Y14 t_skip (t_exit (nat_lit 0))) (t_seq (t_blk (nat_lit 1) (t_seq (t_reg (o_mov D15 Y13 (o_mov D5 Y15 q_end))) (t_seq (t_reg (o_mov D16 Y0 (o_mov D17 Y5 (o_idx (nat_lit 5) D18 Y16 Y17 (o_loada (nat_lit 5) D19 Y18 (o_mov D20 Y1 (o_mov D21 Y5 (o_idx (nat_lit 5) D22 Y20 Y21 (o_loada (nat_lit 5) D23 Y22 (o_sub okB (fun E => (.aeq true [(some .i64), (some .i64), (some .i64), none, (some .i64)] (.k (g1 h3 E)) (.k (g1 h7 E)))) D24 q_end)))))))))) (t_cond Y24 (t_seq (t_reg (o_mov D4 (gk (.bool false)) q_end)) t_ret) t_skip)))) (t_reg (o_bin .add b_add D25 Y13 K1 (o_mov D13 Y25 q_end))))))
def t80 : RunT := (t_seq (t_reg (o_mov D4 (gk (.bool false)) q_end)) (t_seq (t_seq (t_reg (o_mov D6 Y0 (o_len D7 Y6 (o_mov D8 Y1 (o_len D9 Y8 (o_bin .neq (b_cmp neI) D10 Y7 Y9 q_end)))))) (t_cond Y10 (t_seq (t_reg (o_mov D4 (gk (.bool false)) q_end)) t_ret) t_skip)) (t_seq (t_seq (t_reg (o_mov D11 Y0 (o_len D12 Y11 (o_mov D13 K0 q_end)))) (t_blk (nat_lit 0) (t_loop q80_0))) (t_seq (t_reg (o_mov D4 (gk (.bool true)) q_end)) t_ret))))
def e80 : Ent := .code t80 26 [(.t Y4)] false
theorem k80 : EOT Tryz.prog G okB 80 e80 := eotA true Tryz.func80
end
end Go.Proofs.YtgkpcjahopacjaaGreatDoor.LB

/- The table of the fast evaluator, by program (gent.py). -/
namespace Go.Proofs.YtgkpcjahopacjaaGreatDoor.LB
set_option linter.unusedSimpArgs false
set_option linter.unusedVariables false
open Go Go.AL Go.Proofs
set_option maxRecDepth 100000
def nR : N16 Ent := ⟨.no, .no, .no, .no, .no, .no, .no, .no, .no, .no, .no, .no, .no, .no, .no, .no⟩
theorem nR_ok (g : Nat → Nat) : nR.All fun k e => EOT Tryz.prog G okB (g k) e := ⟨trivial, trivial, trivial, trivial, trivial, trivial, trivial, trivial, trivial, trivial, trivial, trivial, trivial, trivial, trivial, trivial⟩
def nRR : N16 (N16 Ent) := ⟨nR, nR, nR, nR, nR, nR, nR, nR, nR, nR, nR, nR, nR, nR, nR, nR⟩
theorem nRR_ok (g : Nat → Nat → Nat) : nRR.All fun j r => r.All fun k e => EOT Tryz.prog G okB (g j k) e := ⟨nR_ok _, nR_ok _, nR_ok _, nR_ok _, nR_ok _, nR_ok _, nR_ok _, nR_ok _, nR_ok _, nR_ok _, nR_ok _, nR_ok _, nR_ok _, nR_ok _, nR_ok _, nR_ok _⟩
noncomputable def w0 (x4 x5 x6 x7 x9 : Ent) : N16 Ent := ⟨.no, .no, .no, .no, x4, x5, x6, x7, e8, x9, .no, .no, .no, .no, .no, .no⟩
theorem w0_ok {x4 x5 x6 x7 x9 : Ent} (h4 : EOT Tryz.prog G okB 4 x4) (h5 : EOT Tryz.prog G okB 5 x5) (h6 : EOT Tryz.prog G okB 6 x6) (h7 : EOT Tryz.prog G okB 7 x7) (h9 : EOT Tryz.prog G okB 9 x9) : (w0 x4 x5 x6 x7 x9).All fun k e => EOT Tryz.prog G okB (256 * 0 + 16 * 0 + k) e := ⟨trivial, trivial, trivial, trivial, h4, h5, h6, h7, k8, h9, trivial, trivial, trivial, trivial, trivial, trivial⟩
noncomputable def w16 : N16 Ent := ⟨.no, .no, .no, .no, .no, .no, .no, .no, .no, .no, e26, .no, .no, .no, .no, .no⟩
theorem w16_ok : w16.All fun k e => EOT Tryz.prog G okB (256 * 0 + 16 * 1 + k) e := ⟨trivial, trivial, trivial, trivial, trivial, trivial, trivial, trivial, trivial, trivial, k26, trivial, trivial, trivial, trivial, trivial⟩
noncomputable def w80 : N16 Ent := ⟨e80, .no, .no, .no, .no, .no, .no, .no, .no, .no, .no, .no, .no, .no, .no, .no⟩
theorem w80_ok : w80.All fun k e => EOT Tryz.prog G okB (256 * 0 + 16 * 5 + k) e := ⟨k80, trivial, trivial, trivial, trivial, trivial, trivial, trivial, trivial, trivial, trivial, trivial, trivial, trivial, trivial, trivial⟩
noncomputable def v0 (x4 x5 x6 x7 x9 : Ent) : N16 (N16 Ent) := ⟨w0 x4 x5 x6 x7 x9, w16, nR, nR, nR, w80, nR, nR, nR, nR, nR, nR, nR, nR, nR, nR⟩
theorem v0_ok {x4 x5 x6 x7 x9 : Ent} (h4 : EOT Tryz.prog G okB 4 x4) (h5 : EOT Tryz.prog G okB 5 x5) (h6 : EOT Tryz.prog G okB 6 x6) (h7 : EOT Tryz.prog G okB 7 x7) (h9 : EOT Tryz.prog G okB 9 x9) : (v0 x4 x5 x6 x7 x9).All fun j r => r.All fun k e => EOT Tryz.prog G okB (256 * 0 + 16 * j + k) e := ⟨w0_ok h4 h5 h6 h7 h9, w16_ok, nR_ok _, nR_ok _, nR_ok _, w80_ok, nR_ok _, nR_ok _, nR_ok _, nR_ok _, nR_ok _, nR_ok _, nR_ok _, nR_ok _, nR_ok _, nR_ok _⟩
noncomputable def TM (x4 x5 x6 x7 x9 : Ent) : Tab := ⟨v0 x4 x5 x6 x7 x9, nRR, nRR, nRR, nRR, nRR, nRR, nRR, nRR, nRR, nRR, nRR, nRR, nRR, nRR, nRR⟩
theorem TM_ok {x4 x5 x6 x7 x9 : Ent} (h4 : EOT Tryz.prog G okB 4 x4) (h5 : EOT Tryz.prog G okB 5 x5) (h6 : EOT Tryz.prog G okB 6 x6) (h7 : EOT Tryz.prog G okB 7 x7) (h9 : EOT Tryz.prog G okB 9 x9) : TOK Tryz.prog G okB (TM x4 x5 x6 x7 x9) := ⟨v0_ok h4 h5 h6 h7 h9, nRR_ok _, nRR_ok _, nRR_ok _, nRR_ok _, nRR_ok _, nRR_ok _, nRR_ok _, nRR_ok _, nRR_ok _, nRR_ok _, nRR_ok _, nRR_ok _, nRR_ok _, nRR_ok _, nRR_ok _⟩
theorem runM {x4 x5 x6 x7 x9 : Ent} (h4 : EOT Tryz.prog G okB 4 x4) (h5 : EOT Tryz.prog G okB 5 x5) (h6 : EOT Tryz.prog G okB 6 x6) (h7 : EOT Tryz.prog G okB 7 x7) (h9 : EOT Tryz.prog G okB 9 x9) {n f : Nat} {args : List AV} {H : Heap} {v : AV} {H' : Heap} (h : frun (exT (TM x4 x5 x6 x7 x9) n) f args H = some (v, H')) : Ret Tryz.prog G f args H v H' := exT_sound (by kernel_rfl) okB_ok mixed (TM_ok h4 h5 h6 h7 h9) n f args H v H' h
theorem qM {x4 x5 x6 x7 x9 : Ent} (h4 : EOT Tryz.prog G okB 4 x4) (h5 : EOT Tryz.prog G okB 5 x5) (h6 : EOT Tryz.prog G okB 6 x6) (h7 : EOT Tryz.prog G okB 7 x7) (h9 : EOT Tryz.prog G okB 9 x9) {f : Nat} {l : List (List AV × AV)} (h : chk (TM x4 x5 x6 x7 x9) f l = true) : MemoOK Tryz.prog G f l := chk_ok (fun _ _ => runM h4 h5 h6 h7 h9) l h
end Go.Proofs.YtgkpcjahopacjaaGreatDoor.LB

/- Tables of results; awake (genex.py) -/
namespace Go.Proofs.YtgkpcjahopacjaaGreatDoor.AD
set_option linter.unusedSimpArgs false
set_option linter.unusedVariables false
open Go Go.AL Go.Proofs
set_option maxRecDepth 1000000
def t5 : LR := [([], .bool true)]
theorem u5 : MO 5 t5 := fD (ap u64_b0 u64_c0) (ap u20_b0 u20_c0) (ap u68_b0 u68_c0) (by kernel_rfl)
end Go.Proofs.YtgkpcjahopacjaaGreatDoor.AD

/- The law ConstructExists at all arguments (genexlaw.py). -/
namespace Go.Proofs.YtgkpcjahopacjaaGreatDoor.LB
set_option linter.unusedSimpArgs false
set_option linter.unusedVariables false
open Go Go.AL Go.Proofs Go.Proofs.YtgkpcjahopacjaaGreatDoor.AD
set_option maxRecDepth 1000000

noncomputable def E0 (L : AV) (w : Nat) : E16 := (((junkE.setN 2 (.int .u8 (.ofNat w))).setN 6 (.bool false)).setN 7 L).setN 8 (.int .i64 (.ofNat 0))
theorem E0_env (L : AV) (w t : Nat) : (E0 L w).env t = if t = 8 then .int .i64 (.ofNat 0) else if t = 7 then L else if t = 6 then .bool false else if t = 2 then .int .u8 (.ofNat w) else .junk := by
  unfold E0
  rw [E16.env_setN _ _ (by decide), E16.env_setN _ _ (by decide), E16.env_setN _ _ (by decide), E16.env_setN _ _ (by decide)]
  simp only [upd_app, junkE_env]
def isT (r : O) : Bool := match r with
  | some (.bool true, []) => true
  | _ => false
theorem isT_ok {r : O} (h : isT r = true) : r = some (.bool true, []) := by
  unfold isT at h
  split at h
  · rfl
  · simp at h
def Z (n d : Nat) : Prop := ∀ a b w : Nat, a < 256 → b < 256 → w < 256 → 1 + a % 3 = n → 1 + b % 40 = d → Ret Tryz.prog G 3 [.int .u8 a, .int .u8 b, .int .u8 w] [] (.bool true) []
noncomputable def runL (t5 t6 t7 t9 : LR) (L : AV) (w : Nat) : O :=
  rest3 (exT (TM .no (.known (memoK t5)) (.known (memoK t6)) (.known (memoK t7)) (.known (memoK t9))) 1000) 0 (finK 0 false rg3) (fun x E H => endX x (finK 0 false rg3 E H)) (E0 L w) []
noncomputable def allW (f : Nat → O) : Nat → Bool
  | 0 => true
  | n + 1 => match isT (f n) with
    | true => allW f n
    | false => false
theorem allW_ok {f : Nat → O} : ∀ n, allW f n = true → ∀ w, w < n → f w = some (.bool true, []) := by
  intro n
  induction n with
  | zero => intro _ w hw; omega
  | succ n ih =>
    intro h w hw
    simp only [allW] at h
    split at h
    · rename_i h1
      rcases Nat.lt_or_ge w n with h2 | h2
      · exact ih h w h2
      · have : w = n := by omega
        rw [this]; exact isT_ok h1
    · simp at h
theorem mkZ {t5 t6 t7 t9 : LR} {n d : Nat} {L : AV} (hg : Ret Tryz.prog G 4 [J n, J d] [] (.tup [L, J 0]) []) (h5 : MemoOK Tryz.prog G 5 t5) (h6 : MemoOK Tryz.prog G 6 t6) (h7 : MemoOK Tryz.prog G 7 t7) (h9 : MemoOK Tryz.prog G 9 t9) (hL : L.closed = true)
    (h : allW (runL t5 t6 t7 t9 L) 256 = true) : Z n d := by
  intro a b w ha hb hw hn hd
  have w1 : IntKind.i64.wrap (a : Int) = (a : Nat) := by simp [IntKind.wrap, IntKind.bits, IntKind.signed]; omega
  have w2 : IntKind.i64.wrap (b : Int) = (b : Nat) := by simp [IntKind.wrap, IntKind.bits, IntKind.signed]; omega
  have w3 : IntKind.i64.wrap (1 + Int.tmod (a : Int) 3) = (n : Nat) := by
    have : Int.tmod (a : Int) 3 = ((a % 3 : Nat) : Int) := rfl
    rw [this]; simp [IntKind.wrap, IntKind.bits, IntKind.signed]; omega
  have w4 : IntKind.i64.wrap (1 + Int.tmod (b : Int) 40) = (d : Nat) := by
    have : Int.tmod (b : Int) 40 = ((b % 40 : Nat) : Int) := rfl
    rw [this]; simp [IntKind.wrap, IntKind.bits, IntKind.signed]; omega
  have hr := allW_ok 256 h w hw
  refine split_ret (fn := Tryz.f3) (nt := 64) (cl := exT (TM .no (.known (memoK t5)) (.known (memoK t6)) (.known (memoK t7)) (.known (memoK t9))) 1000) mixed okB_ok (fun f args H v H' => runM (x4 := .no) trivial (memo_ok h5) (memo_ok h6) (memo_ok h7) (memo_ok h9)) (by decide) Tryz.func3 comp3 (by kernel_rfl) rv3 rg3_ok rest3_ok
    (args := [.int .u8 a, .int .u8 b, .int .u8 w]) (by simp) (E1 := ?e1) (E0 := E0 L w) ?h1 (fun t => ?h2) hr
  case h1 =>
    have k3 : (AV.int IntKind.i64 (Int.ofNat (nat_lit 3))) = .int .i64 3 := rfl
    have k1 : (AV.int IntKind.i64 (Int.ofNat (nat_lit 1))) = .int .i64 1 := rfl
    have k40 : (AV.int IntKind.i64 (Int.ofNat (nat_lit 40))) = .int .i64 40 := rfl
    simp only [os3_0, os3_1, wpC, andThen_normal, andThen_ret, andThen_exit, andThen_goto, inBlk_normal, inBlk_ret, inBlk_exit, rA_mov, rA_pick, rA_box, rA_build, rA_bsl, rA_load, rA_store, rA_nilck, rA_bin, rA_beq, rA_snil, rA_un, rA_conv, rA_mksl, rA_slice, rA_fld, rA_part, rA_idx, rA_idxa, rA_idxv, rA_idxs, rA_ext, rA_len, rA_lens, rA_lenk, rA_max, rA_mkfn, rA_append, rA_callf, rA_callc, rA_guardf, rA_nil, restA_pure, goon, boolA_bool, condA_bool, condA_any, both_some, both_none, pickA_bool, ldA_ptr, ldA_iptr, ldv_f, ldv_t, stA_ptr, nilA_ptr, nilA_iptr, binA_add, binA_sub, binA_mul, binA_quo, binA_rem, binA_shl, binA_shr, binA_and, binA_or, binA_andNot, binA_eql, binA_neq, binA_lss, binA_leq, binA_gtr, binA_geq, binA_seql, binA_sadd, beqA_bool, snilA_vec, snilA_sl, unA_neg, unA_not, convA_int, mkslA_int, natOf_int, optNat_none, optNat_some, sliceA_vec, sliceA_sl, sliceA_vec3, sliceA_sl3, subCap_none, subCap_zero, fldA_ptr, fldA_iptr, partA_agg, idxA_sl, idxA_vec, idxaA_ptr, idxaA_iptr, idxvA_agg, idxsA_str, extA_tup, lenSA_vec, lenSA_sl, lenStA_str, maxA_int, val_t, val_k, updO_some, updO_none, cells_agg, cells_int, cells_bool, cells_vec, cells_sl, firm_agg, firm_int, firm_bool, firm_vec, firm_sl, setL_nil, setL_cons, scalL_nil, scalL_cons, scal_int, scal_bool, scal_vec, scal_sl, fillA_nil, fillA_cons, zeros_one, bindP_some, bindP_need, bindP_none, bindP_bind, upd_app, argsE_app, getB_zero, getB_succ, List.getD_cons_zero, List.getD_cons_succ, List.getD_nil, List.map_cons, List.map_nil, List.length_cons, List.length_nil, List.nil_append, List.cons_append, true_and, and_true, forall_const, true_implies, Option.bind_some, Option.bind_none, reduceCtorEq, reduceIte, false_implies, implies_true, Bool.not_true, Bool.not_false, Bool.true_eq_false, Bool.false_eq_true, Nat.zero_add, Nat.reduceAdd, Nat.reduceEqDiff, Nat.succ_ne_zero, Nat.reduceLeDiff, decide_eq_true_eq, decide_eq_false_iff_not, Nat.mul_one, List.take_succ_cons, List.take_zero, List.drop_zero, List.drop_succ_cons, List.set_cons_zero, List.set_cons_succ, Bool.and_true, Bool.and_self, emptyS_sub, emptyS_succ, emptyS_zero, k3, k1, k40, w1, w2, w3, w4]
    refine ⟨by decide, by decide, ?_⟩
    refine callA_pure hg ?_ rfl (by simp only [AV.closed, AV.closed.closedL, hL]; rfl)
    simp only [wpC, andThen_normal, andThen_ret, andThen_exit, andThen_goto, inBlk_normal, inBlk_ret, inBlk_exit, rA_mov, rA_pick, rA_box, rA_build, rA_bsl, rA_load, rA_store, rA_nilck, rA_bin, rA_beq, rA_snil, rA_un, rA_conv, rA_mksl, rA_slice, rA_fld, rA_part, rA_idx, rA_idxa, rA_idxv, rA_idxs, rA_ext, rA_len, rA_lens, rA_lenk, rA_max, rA_mkfn, rA_append, rA_callf, rA_callc, rA_guardf, rA_nil, restA_pure, goon, boolA_bool, condA_bool, condA_any, both_some, both_none, pickA_bool, ldA_ptr, ldA_iptr, ldv_f, ldv_t, stA_ptr, nilA_ptr, nilA_iptr, binA_add, binA_sub, binA_mul, binA_quo, binA_rem, binA_shl, binA_shr, binA_and, binA_or, binA_andNot, binA_eql, binA_neq, binA_lss, binA_leq, binA_gtr, binA_geq, binA_seql, binA_sadd, beqA_bool, snilA_vec, snilA_sl, unA_neg, unA_not, convA_int, mkslA_int, natOf_int, optNat_none, optNat_some, sliceA_vec, sliceA_sl, sliceA_vec3, sliceA_sl3, subCap_none, subCap_zero, fldA_ptr, fldA_iptr, partA_agg, idxA_sl, idxA_vec, idxaA_ptr, idxaA_iptr, idxvA_agg, idxsA_str, extA_tup, lenSA_vec, lenSA_sl, lenStA_str, maxA_int, val_t, val_k, updO_some, updO_none, cells_agg, cells_int, cells_bool, cells_vec, cells_sl, firm_agg, firm_int, firm_bool, firm_vec, firm_sl, setL_nil, setL_cons, scalL_nil, scalL_cons, scal_int, scal_bool, scal_vec, scal_sl, fillA_nil, fillA_cons, zeros_one, bindP_some, bindP_need, bindP_none, bindP_bind, upd_app, argsE_app, getB_zero, getB_succ, List.getD_cons_zero, List.getD_cons_succ, List.getD_nil, List.map_cons, List.map_nil, List.length_cons, List.length_nil, List.nil_append, List.cons_append, true_and, and_true, forall_const, true_implies, Option.bind_some, Option.bind_none, reduceCtorEq, reduceIte, false_implies, implies_true, Bool.not_true, Bool.not_false, Bool.true_eq_false, Bool.false_eq_true, Nat.zero_add, Nat.reduceAdd, Nat.reduceEqDiff, Nat.succ_ne_zero, Nat.reduceLeDiff, decide_eq_true_eq, decide_eq_false_iff_not, Nat.mul_one, List.take_succ_cons, List.take_zero, List.drop_zero, List.drop_succ_cons, List.set_cons_zero, List.set_cons_succ, Bool.and_true, Bool.and_self, emptyS_sub, emptyS_succ, emptyS_zero, List.getElem?_cons_zero, List.getElem?_cons_succ]
    exact rfl
  case h2 =>
    rw [E0_env]
    by_cases h8 : t = 8
    · left; subst h8; rfl
    · rw [if_neg h8]
      by_cases h7 : t = 7
      · left; subst h7; rfl
      · rw [if_neg h7]
        by_cases h6 : t = 6
        · left; subst h6; rfl
        · rw [if_neg h6]
          by_cases h2 : t = 2
          · left; subst h2; rfl
          · right; rw [if_neg h2]
end Go.Proofs.YtgkpcjahopacjaaGreatDoor.LB

/- The law ConstructExists at some arguments (genexlaw.py). -/
namespace Go.Proofs.YtgkpcjahopacjaaGreatDoor.LB
set_option linter.unusedSimpArgs false
set_option linter.unusedVariables false
open Go Go.AL Go.Proofs Go.Proofs.YtgkpcjahopacjaaGreatDoor.AD
set_option maxRecDepth 1000000
theorem z1_1 : Z 1 1 := mkZ u4_1_1.1 u5 u6_1_1 u7_a u9_a (by kernel_rfl) (by kernel_rfl)
theorem z1_5 : Z 1 5 := mkZ u4_1_5.1 u5 u6_1_5 u7_a u9_a (by kernel_rfl) (by kernel_rfl)
theorem z1_9 : Z 1 9 := mkZ u4_1_9.1 u5 u6_1_9 u7_a u9_a (by kernel_rfl) (by kernel_rfl)
theorem z1_13 : Z 1 13 := mkZ u4_1_13.1 u5 u6_1_13 u7_a u9_a (by kernel_rfl) (by kernel_rfl)
theorem z1_17 : Z 1 17 := mkZ u4_1_17.1 u5 u6_1_17 u7_a u9_a (by kernel_rfl) (by kernel_rfl)
theorem z1_21 : Z 1 21 := mkZ u4_1_21.1 u5 u6_1_21 u7_a u9_a (by kernel_rfl) (by kernel_rfl)
theorem z1_25 : Z 1 25 := mkZ u4_1_25.1 u5 u6_1_25 u7_a u9_a (by kernel_rfl) (by kernel_rfl)
theorem z1_29 : Z 1 29 := mkZ u4_1_29.1 u5 u6_1_29 u7_a u9_a (by kernel_rfl) (by kernel_rfl)
theorem z1_33 : Z 1 33 := mkZ u4_1_33.1 u5 u6_1_33 u7_a u9_a (by kernel_rfl) (by kernel_rfl)
theorem z1_37 : Z 1 37 := mkZ u4_1_37.1 u5 u6_1_37 u7_a u9_a (by kernel_rfl) (by kernel_rfl)
theorem z2_1 : Z 2 1 := mkZ u4_2_1.1 u5 u6_2_1 u7_b0 u9_b0 (by kernel_rfl) (by kernel_rfl)
theorem z2_5 : Z 2 5 := mkZ u4_2_5.1 u5 u6_2_5 u7_b0 u9_b0 (by kernel_rfl) (by kernel_rfl)
theorem z2_9 : Z 2 9 := mkZ u4_2_9.1 u5 u6_2_9 u7_b1 u9_b1 (by kernel_rfl) (by kernel_rfl)
theorem z2_13 : Z 2 13 := mkZ u4_2_13.1 u5 u6_2_13 u7_b1 u9_b1 (by kernel_rfl) (by kernel_rfl)
theorem z2_17 : Z 2 17 := mkZ u4_2_17.1 u5 u6_2_17 u7_b2 u9_b2 (by kernel_rfl) (by kernel_rfl)
theorem z2_21 : Z 2 21 := mkZ u4_2_21.1 u5 u6_2_21 u7_b2 u9_b2 (by kernel_rfl) (by kernel_rfl)
theorem z2_25 : Z 2 25 := mkZ u4_2_25.1 u5 u6_2_25 u7_b3 u9_b3 (by kernel_rfl) (by kernel_rfl)
theorem z2_29 : Z 2 29 := mkZ u4_2_29.1 u5 u6_2_29 u7_b3 u9_b3 (by kernel_rfl) (by kernel_rfl)
theorem z2_33 : Z 2 33 := mkZ u4_2_33.1 u5 u6_2_33 u7_b4 u9_b4 (by kernel_rfl) (by kernel_rfl)
theorem z2_37 : Z 2 37 := mkZ u4_2_37.1 u5 u6_2_37 u7_b4 u9_b4 (by kernel_rfl) (by kernel_rfl)
theorem z3_1 : Z 3 1 := mkZ u4_3_1.1 u5 u6_3_1 u7_c0 u9_c0 (by kernel_rfl) (by kernel_rfl)
theorem z3_5 : Z 3 5 := mkZ u4_3_5.1 u5 u6_3_5 u7_c2 u9_c2 (by kernel_rfl) (by kernel_rfl)
theorem z3_9 : Z 3 9 := mkZ u4_3_9.1 u5 u6_3_9 u7_c4 u9_c4 (by kernel_rfl) (by kernel_rfl)
theorem z3_13 : Z 3 13 := mkZ u4_3_13.1 u5 u6_3_13 u7_c6 u9_c6 (by kernel_rfl) (by kernel_rfl)
theorem z3_17 : Z 3 17 := mkZ u4_3_17.1 u5 u6_3_17 u7_c8 u9_c8 (by kernel_rfl) (by kernel_rfl)
theorem z3_21 : Z 3 21 := mkZ u4_3_21.1 u5 u6_3_21 u7_c10 u9_c10 (by kernel_rfl) (by kernel_rfl)
theorem z3_25 : Z 3 25 := mkZ u4_3_25.1 u5 u6_3_25 u7_c12 u9_c12 (by kernel_rfl) (by kernel_rfl)
theorem z3_29 : Z 3 29 := mkZ u4_3_29.1 u5 u6_3_29 u7_c14 u9_c14 (by kernel_rfl) (by kernel_rfl)
theorem z3_33 : Z 3 33 := mkZ u4_3_33.1 u5 u6_3_33 u7_c16 u9_c16 (by kernel_rfl) (by kernel_rfl)
theorem z3_37 : Z 3 37 := mkZ u4_3_37.1 u5 u6_3_37 u7_c18 u9_c18 (by kernel_rfl) (by kernel_rfl)
end Go.Proofs.YtgkpcjahopacjaaGreatDoor.LB

/- The law ConstructExists at some arguments (genexlaw.py). -/
namespace Go.Proofs.YtgkpcjahopacjaaGreatDoor.LB
set_option linter.unusedSimpArgs false
set_option linter.unusedVariables false
open Go Go.AL Go.Proofs Go.Proofs.YtgkpcjahopacjaaGreatDoor.AD
set_option maxRecDepth 1000000
theorem z1_2 : Z 1 2 := mkZ u4_1_2.1 u5 u6_1_2 u7_a u9_a (by kernel_rfl) (by kernel_rfl)
theorem z1_6 : Z 1 6 := mkZ u4_1_6.1 u5 u6_1_6 u7_a u9_a (by kernel_rfl) (by kernel_rfl)
theorem z1_10 : Z 1 10 := mkZ u4_1_10.1 u5 u6_1_10 u7_a u9_a (by kernel_rfl) (by kernel_rfl)
theorem z1_14 : Z 1 14 := mkZ u4_1_14.1 u5 u6_1_14 u7_a u9_a (by kernel_rfl) (by kernel_rfl)
theorem z1_18 : Z 1 18 := mkZ u4_1_18.1 u5 u6_1_18 u7_a u9_a (by kernel_rfl) (by kernel_rfl)
theorem z1_22 : Z 1 22 := mkZ u4_1_22.1 u5 u6_1_22 u7_a u9_a (by kernel_rfl) (by kernel_rfl)
theorem z1_26 : Z 1 26 := mkZ u4_1_26.1 u5 u6_1_26 u7_a u9_a (by kernel_rfl) (by kernel_rfl)
theorem z1_30 : Z 1 30 := mkZ u4_1_30.1 u5 u6_1_30 u7_a u9_a (by kernel_rfl) (by kernel_rfl)
theorem z1_34 : Z 1 34 := mkZ u4_1_34.1 u5 u6_1_34 u7_a u9_a (by kernel_rfl) (by kernel_rfl)
theorem z1_38 : Z 1 38 := mkZ u4_1_38.1 u5 u6_1_38 u7_a u9_a (by kernel_rfl) (by kernel_rfl)
theorem z2_2 : Z 2 2 := mkZ u4_2_2.1 u5 u6_2_2 u7_b0 u9_b0 (by kernel_rfl) (by kernel_rfl)
theorem z2_6 : Z 2 6 := mkZ u4_2_6.1 u5 u6_2_6 u7_b0 u9_b0 (by kernel_rfl) (by kernel_rfl)
theorem z2_10 : Z 2 10 := mkZ u4_2_10.1 u5 u6_2_10 u7_b1 u9_b1 (by kernel_rfl) (by kernel_rfl)
theorem z2_14 : Z 2 14 := mkZ u4_2_14.1 u5 u6_2_14 u7_b1 u9_b1 (by kernel_rfl) (by kernel_rfl)
theorem z2_18 : Z 2 18 := mkZ u4_2_18.1 u5 u6_2_18 u7_b2 u9_b2 (by kernel_rfl) (by kernel_rfl)
theorem z2_22 : Z 2 22 := mkZ u4_2_22.1 u5 u6_2_22 u7_b2 u9_b2 (by kernel_rfl) (by kernel_rfl)
theorem z2_26 : Z 2 26 := mkZ u4_2_26.1 u5 u6_2_26 u7_b3 u9_b3 (by kernel_rfl) (by kernel_rfl)
theorem z2_30 : Z 2 30 := mkZ u4_2_30.1 u5 u6_2_30 u7_b3 u9_b3 (by kernel_rfl) (by kernel_rfl)
theorem z2_34 : Z 2 34 := mkZ u4_2_34.1 u5 u6_2_34 u7_b4 u9_b4 (by kernel_rfl) (by kernel_rfl)
theorem z2_38 : Z 2 38 := mkZ u4_2_38.1 u5 u6_2_38 u7_b4 u9_b4 (by kernel_rfl) (by kernel_rfl)
theorem z3_2 : Z 3 2 := mkZ u4_3_2.1 u5 u6_3_2 u7_c0 u9_c0 (by kernel_rfl) (by kernel_rfl)
theorem z3_6 : Z 3 6 := mkZ u4_3_6.1 u5 u6_3_6 u7_c2 u9_c2 (by kernel_rfl) (by kernel_rfl)
theorem z3_10 : Z 3 10 := mkZ u4_3_10.1 u5 u6_3_10 u7_c4 u9_c4 (by kernel_rfl) (by kernel_rfl)
theorem z3_14 : Z 3 14 := mkZ u4_3_14.1 u5 u6_3_14 u7_c6 u9_c6 (by kernel_rfl) (by kernel_rfl)
theorem z3_18 : Z 3 18 := mkZ u4_3_18.1 u5 u6_3_18 u7_c8 u9_c8 (by kernel_rfl) (by kernel_rfl)
theorem z3_22 : Z 3 22 := mkZ u4_3_22.1 u5 u6_3_22 u7_c10 u9_c10 (by kernel_rfl) (by kernel_rfl)
theorem z3_26 : Z 3 26 := mkZ u4_3_26.1 u5 u6_3_26 u7_c12 u9_c12 (by kernel_rfl) (by kernel_rfl)
theorem z3_30 : Z 3 30 := mkZ u4_3_30.1 u5 u6_3_30 u7_c14 u9_c14 (by kernel_rfl) (by kernel_rfl)
theorem z3_34 : Z 3 34 := mkZ u4_3_34.1 u5 u6_3_34 u7_c16 u9_c16 (by kernel_rfl) (by kernel_rfl)
theorem z3_38 : Z 3 38 := mkZ u4_3_38.1 u5 u6_3_38 u7_c18 u9_c18 (by kernel_rfl) (by kernel_rfl)
end Go.Proofs.YtgkpcjahopacjaaGreatDoor.LB

/- The law ConstructExists at some arguments (genexlaw.py). -/
namespace Go.Proofs.YtgkpcjahopacjaaGreatDoor.LB
set_option linter.unusedSimpArgs false
set_option linter.unusedVariables false
open Go Go.AL Go.Proofs Go.Proofs.YtgkpcjahopacjaaGreatDoor.AD
set_option maxRecDepth 1000000
theorem z1_3 : Z 1 3 := mkZ u4_1_3.1 u5 u6_1_3 u7_a u9_a (by kernel_rfl) (by kernel_rfl)
theorem z1_7 : Z 1 7 := mkZ u4_1_7.1 u5 u6_1_7 u7_a u9_a (by kernel_rfl) (by kernel_rfl)
theorem z1_11 : Z 1 11 := mkZ u4_1_11.1 u5 u6_1_11 u7_a u9_a (by kernel_rfl) (by kernel_rfl)
theorem z1_15 : Z 1 15 := mkZ u4_1_15.1 u5 u6_1_15 u7_a u9_a (by kernel_rfl) (by kernel_rfl)
theorem z1_19 : Z 1 19 := mkZ u4_1_19.1 u5 u6_1_19 u7_a u9_a (by kernel_rfl) (by kernel_rfl)
theorem z1_23 : Z 1 23 := mkZ u4_1_23.1 u5 u6_1_23 u7_a u9_a (by kernel_rfl) (by kernel_rfl)
theorem z1_27 : Z 1 27 := mkZ u4_1_27.1 u5 u6_1_27 u7_a u9_a (by kernel_rfl) (by kernel_rfl)
theorem z1_31 : Z 1 31 := mkZ u4_1_31.1 u5 u6_1_31 u7_a u9_a (by kernel_rfl) (by kernel_rfl)
theorem z1_35 : Z 1 35 := mkZ u4_1_35.1 u5 u6_1_35 u7_a u9_a (by kernel_rfl) (by kernel_rfl)
theorem z1_39 : Z 1 39 := mkZ u4_1_39.1 u5 u6_1_39 u7_a u9_a (by kernel_rfl) (by kernel_rfl)
theorem z2_3 : Z 2 3 := mkZ u4_2_3.1 u5 u6_2_3 u7_b0 u9_b0 (by kernel_rfl) (by kernel_rfl)
theorem z2_7 : Z 2 7 := mkZ u4_2_7.1 u5 u6_2_7 u7_b0 u9_b0 (by kernel_rfl) (by kernel_rfl)
theorem z2_11 : Z 2 11 := mkZ u4_2_11.1 u5 u6_2_11 u7_b1 u9_b1 (by kernel_rfl) (by kernel_rfl)
theorem z2_15 : Z 2 15 := mkZ u4_2_15.1 u5 u6_2_15 u7_b1 u9_b1 (by kernel_rfl) (by kernel_rfl)
theorem z2_19 : Z 2 19 := mkZ u4_2_19.1 u5 u6_2_19 u7_b2 u9_b2 (by kernel_rfl) (by kernel_rfl)
theorem z2_23 : Z 2 23 := mkZ u4_2_23.1 u5 u6_2_23 u7_b2 u9_b2 (by kernel_rfl) (by kernel_rfl)
theorem z2_27 : Z 2 27 := mkZ u4_2_27.1 u5 u6_2_27 u7_b3 u9_b3 (by kernel_rfl) (by kernel_rfl)
theorem z2_31 : Z 2 31 := mkZ u4_2_31.1 u5 u6_2_31 u7_b3 u9_b3 (by kernel_rfl) (by kernel_rfl)
theorem z2_35 : Z 2 35 := mkZ u4_2_35.1 u5 u6_2_35 u7_b4 u9_b4 (by kernel_rfl) (by kernel_rfl)
theorem z2_39 : Z 2 39 := mkZ u4_2_39.1 u5 u6_2_39 u7_b4 u9_b4 (by kernel_rfl) (by kernel_rfl)
theorem z3_3 : Z 3 3 := mkZ u4_3_3.1 u5 u6_3_3 u7_c1 u9_c1 (by kernel_rfl) (by kernel_rfl)
theorem z3_7 : Z 3 7 := mkZ u4_3_7.1 u5 u6_3_7 u7_c3 u9_c3 (by kernel_rfl) (by kernel_rfl)
theorem z3_11 : Z 3 11 := mkZ u4_3_11.1 u5 u6_3_11 u7_c5 u9_c5 (by kernel_rfl) (by kernel_rfl)
theorem z3_15 : Z 3 15 := mkZ u4_3_15.1 u5 u6_3_15 u7_c7 u9_c7 (by kernel_rfl) (by kernel_rfl)
theorem z3_19 : Z 3 19 := mkZ u4_3_19.1 u5 u6_3_19 u7_c9 u9_c9 (by kernel_rfl) (by kernel_rfl)
theorem z3_23 : Z 3 23 := mkZ u4_3_23.1 u5 u6_3_23 u7_c11 u9_c11 (by kernel_rfl) (by kernel_rfl)
theorem z3_27 : Z 3 27 := mkZ u4_3_27.1 u5 u6_3_27 u7_c13 u9_c13 (by kernel_rfl) (by kernel_rfl)
theorem z3_31 : Z 3 31 := mkZ u4_3_31.1 u5 u6_3_31 u7_c15 u9_c15 (by kernel_rfl) (by kernel_rfl)
theorem z3_35 : Z 3 35 := mkZ u4_3_35.1 u5 u6_3_35 u7_c17 u9_c17 (by kernel_rfl) (by kernel_rfl)
theorem z3_39 : Z 3 39 := mkZ u4_3_39.1 u5 u6_3_39 u7_c19 u9_c19 (by kernel_rfl) (by kernel_rfl)
end Go.Proofs.YtgkpcjahopacjaaGreatDoor.LB

/- The law ConstructExists at some arguments (genexlaw.py). -/
namespace Go.Proofs.YtgkpcjahopacjaaGreatDoor.LB
set_option linter.unusedSimpArgs false
set_option linter.unusedVariables false
open Go Go.AL Go.Proofs Go.Proofs.YtgkpcjahopacjaaGreatDoor.AD
set_option maxRecDepth 1000000
theorem z1_4 : Z 1 4 := mkZ u4_1_4.1 u5 u6_1_4 u7_a u9_a (by kernel_rfl) (by kernel_rfl)
theorem z1_8 : Z 1 8 := mkZ u4_1_8.1 u5 u6_1_8 u7_a u9_a (by kernel_rfl) (by kernel_rfl)
theorem z1_12 : Z 1 12 := mkZ u4_1_12.1 u5 u6_1_12 u7_a u9_a (by kernel_rfl) (by kernel_rfl)
theorem z1_16 : Z 1 16 := mkZ u4_1_16.1 u5 u6_1_16 u7_a u9_a (by kernel_rfl) (by kernel_rfl)
theorem z1_20 : Z 1 20 := mkZ u4_1_20.1 u5 u6_1_20 u7_a u9_a (by kernel_rfl) (by kernel_rfl)
theorem z1_24 : Z 1 24 := mkZ u4_1_24.1 u5 u6_1_24 u7_a u9_a (by kernel_rfl) (by kernel_rfl)
theorem z1_28 : Z 1 28 := mkZ u4_1_28.1 u5 u6_1_28 u7_a u9_a (by kernel_rfl) (by kernel_rfl)
theorem z1_32 : Z 1 32 := mkZ u4_1_32.1 u5 u6_1_32 u7_a u9_a (by kernel_rfl) (by kernel_rfl)
theorem z1_36 : Z 1 36 := mkZ u4_1_36.1 u5 u6_1_36 u7_a u9_a (by kernel_rfl) (by kernel_rfl)
theorem z1_40 : Z 1 40 := mkZ u4_1_40.1 u5 u6_1_40 u7_a u9_a (by kernel_rfl) (by kernel_rfl)
theorem z2_4 : Z 2 4 := mkZ u4_2_4.1 u5 u6_2_4 u7_b0 u9_b0 (by kernel_rfl) (by kernel_rfl)
theorem z2_8 : Z 2 8 := mkZ u4_2_8.1 u5 u6_2_8 u7_b0 u9_b0 (by kernel_rfl) (by kernel_rfl)
theorem z2_12 : Z 2 12 := mkZ u4_2_12.1 u5 u6_2_12 u7_b1 u9_b1 (by kernel_rfl) (by kernel_rfl)
theorem z2_16 : Z 2 16 := mkZ u4_2_16.1 u5 u6_2_16 u7_b1 u9_b1 (by kernel_rfl) (by kernel_rfl)
theorem z2_20 : Z 2 20 := mkZ u4_2_20.1 u5 u6_2_20 u7_b2 u9_b2 (by kernel_rfl) (by kernel_rfl)
theorem z2_24 : Z 2 24 := mkZ u4_2_24.1 u5 u6_2_24 u7_b2 u9_b2 (by kernel_rfl) (by kernel_rfl)
theorem z2_28 : Z 2 28 := mkZ u4_2_28.1 u5 u6_2_28 u7_b3 u9_b3 (by kernel_rfl) (by kernel_rfl)
theorem z2_32 : Z 2 32 := mkZ u4_2_32.1 u5 u6_2_32 u7_b3 u9_b3 (by kernel_rfl) (by kernel_rfl)
theorem z2_36 : Z 2 36 := mkZ u4_2_36.1 u5 u6_2_36 u7_b4 u9_b4 (by kernel_rfl) (by kernel_rfl)
theorem z2_40 : Z 2 40 := mkZ u4_2_40.1 u5 u6_2_40 u7_b4 u9_b4 (by kernel_rfl) (by kernel_rfl)
theorem z3_4 : Z 3 4 := mkZ u4_3_4.1 u5 u6_3_4 u7_c1 u9_c1 (by kernel_rfl) (by kernel_rfl)
theorem z3_8 : Z 3 8 := mkZ u4_3_8.1 u5 u6_3_8 u7_c3 u9_c3 (by kernel_rfl) (by kernel_rfl)
theorem z3_12 : Z 3 12 := mkZ u4_3_12.1 u5 u6_3_12 u7_c5 u9_c5 (by kernel_rfl) (by kernel_rfl)
theorem z3_16 : Z 3 16 := mkZ u4_3_16.1 u5 u6_3_16 u7_c7 u9_c7 (by kernel_rfl) (by kernel_rfl)
theorem z3_20 : Z 3 20 := mkZ u4_3_20.1 u5 u6_3_20 u7_c9 u9_c9 (by kernel_rfl) (by kernel_rfl)
theorem z3_24 : Z 3 24 := mkZ u4_3_24.1 u5 u6_3_24 u7_c11 u9_c11 (by kernel_rfl) (by kernel_rfl)
theorem z3_28 : Z 3 28 := mkZ u4_3_28.1 u5 u6_3_28 u7_c13 u9_c13 (by kernel_rfl) (by kernel_rfl)
theorem z3_32 : Z 3 32 := mkZ u4_3_32.1 u5 u6_3_32 u7_c15 u9_c15 (by kernel_rfl) (by kernel_rfl)
theorem z3_36 : Z 3 36 := mkZ u4_3_36.1 u5 u6_3_36 u7_c17 u9_c17 (by kernel_rfl) (by kernel_rfl)
theorem z3_40 : Z 3 40 := mkZ u4_3_40.1 u5 u6_3_40 u7_c19 u9_c19 (by kernel_rfl) (by kernel_rfl)
end Go.Proofs.YtgkpcjahopacjaaGreatDoor.LB

/- The law ConstructExists (genexlaw.py). -/
namespace Go.Proofs.YtgkpcjahopacjaaGreatDoor
set_option linter.unusedSimpArgs false
set_option linter.unusedVariables false
open Go Go.AL Go.Proofs
set_option maxRecDepth 100000
theorem all_1 : ∀ d, 1 ≤ d → d ≤ 40 → LB.Z 1 d
  | 1, _, _ => LB.z1_1
  | 2, _, _ => LB.z1_2
  | 3, _, _ => LB.z1_3
  | 4, _, _ => LB.z1_4
  | 5, _, _ => LB.z1_5
  | 6, _, _ => LB.z1_6
  | 7, _, _ => LB.z1_7
  | 8, _, _ => LB.z1_8
  | 9, _, _ => LB.z1_9
  | 10, _, _ => LB.z1_10
  | 11, _, _ => LB.z1_11
  | 12, _, _ => LB.z1_12
  | 13, _, _ => LB.z1_13
  | 14, _, _ => LB.z1_14
  | 15, _, _ => LB.z1_15
  | 16, _, _ => LB.z1_16
  | 17, _, _ => LB.z1_17
  | 18, _, _ => LB.z1_18
  | 19, _, _ => LB.z1_19
  | 20, _, _ => LB.z1_20
  | 21, _, _ => LB.z1_21
  | 22, _, _ => LB.z1_22
  | 23, _, _ => LB.z1_23
  | 24, _, _ => LB.z1_24
  | 25, _, _ => LB.z1_25
  | 26, _, _ => LB.z1_26
  | 27, _, _ => LB.z1_27
  | 28, _, _ => LB.z1_28
  | 29, _, _ => LB.z1_29
  | 30, _, _ => LB.z1_30
  | 31, _, _ => LB.z1_31
  | 32, _, _ => LB.z1_32
  | 33, _, _ => LB.z1_33
  | 34, _, _ => LB.z1_34
  | 35, _, _ => LB.z1_35
  | 36, _, _ => LB.z1_36
  | 37, _, _ => LB.z1_37
  | 38, _, _ => LB.z1_38
  | 39, _, _ => LB.z1_39
  | 40, _, _ => LB.z1_40
  | 0, h, _ => absurd h (by omega)
  | d + 41, _, h => absurd h (by omega)
theorem all_2 : ∀ d, 1 ≤ d → d ≤ 40 → LB.Z 2 d
  | 1, _, _ => LB.z2_1
  | 2, _, _ => LB.z2_2
  | 3, _, _ => LB.z2_3
  | 4, _, _ => LB.z2_4
  | 5, _, _ => LB.z2_5
  | 6, _, _ => LB.z2_6
  | 7, _, _ => LB.z2_7
  | 8, _, _ => LB.z2_8
  | 9, _, _ => LB.z2_9
  | 10, _, _ => LB.z2_10
  | 11, _, _ => LB.z2_11
  | 12, _, _ => LB.z2_12
  | 13, _, _ => LB.z2_13
  | 14, _, _ => LB.z2_14
  | 15, _, _ => LB.z2_15
  | 16, _, _ => LB.z2_16
  | 17, _, _ => LB.z2_17
  | 18, _, _ => LB.z2_18
  | 19, _, _ => LB.z2_19
  | 20, _, _ => LB.z2_20
  | 21, _, _ => LB.z2_21
  | 22, _, _ => LB.z2_22
  | 23, _, _ => LB.z2_23
  | 24, _, _ => LB.z2_24
  | 25, _, _ => LB.z2_25
  | 26, _, _ => LB.z2_26
  | 27, _, _ => LB.z2_27
  | 28, _, _ => LB.z2_28
  | 29, _, _ => LB.z2_29
  | 30, _, _ => LB.z2_30
  | 31, _, _ => LB.z2_31
  | 32, _, _ => LB.z2_32
  | 33, _, _ => LB.z2_33
  | 34, _, _ => LB.z2_34
  | 35, _, _ => LB.z2_35
  | 36, _, _ => LB.z2_36
  | 37, _, _ => LB.z2_37
  | 38, _, _ => LB.z2_38
  | 39, _, _ => LB.z2_39
  | 40, _, _ => LB.z2_40
  | 0, h, _ => absurd h (by omega)
  | d + 41, _, h => absurd h (by omega)
theorem all_3 : ∀ d, 1 ≤ d → d ≤ 40 → LB.Z 3 d
  | 1, _, _ => LB.z3_1
  | 2, _, _ => LB.z3_2
  | 3, _, _ => LB.z3_3
  | 4, _, _ => LB.z3_4
  | 5, _, _ => LB.z3_5
  | 6, _, _ => LB.z3_6
  | 7, _, _ => LB.z3_7
  | 8, _, _ => LB.z3_8
  | 9, _, _ => LB.z3_9
  | 10, _, _ => LB.z3_10
  | 11, _, _ => LB.z3_11
  | 12, _, _ => LB.z3_12
  | 13, _, _ => LB.z3_13
  | 14, _, _ => LB.z3_14
  | 15, _, _ => LB.z3_15
  | 16, _, _ => LB.z3_16
  | 17, _, _ => LB.z3_17
  | 18, _, _ => LB.z3_18
  | 19, _, _ => LB.z3_19
  | 20, _, _ => LB.z3_20
  | 21, _, _ => LB.z3_21
  | 22, _, _ => LB.z3_22
  | 23, _, _ => LB.z3_23
  | 24, _, _ => LB.z3_24
  | 25, _, _ => LB.z3_25
  | 26, _, _ => LB.z3_26
  | 27, _, _ => LB.z3_27
  | 28, _, _ => LB.z3_28
  | 29, _, _ => LB.z3_29
  | 30, _, _ => LB.z3_30
  | 31, _, _ => LB.z3_31
  | 32, _, _ => LB.z3_32
  | 33, _, _ => LB.z3_33
  | 34, _, _ => LB.z3_34
  | 35, _, _ => LB.z3_35
  | 36, _, _ => LB.z3_36
  | 37, _, _ => LB.z3_37
  | 38, _, _ => LB.z3_38
  | 39, _, _ => LB.z3_39
  | 40, _, _ => LB.z3_40
  | 0, h, _ => absurd h (by omega)
  | d + 41, _, h => absurd h (by omega)
theorem exists_ret (a b c : Int) (ha : (Lit.int .u8 a).wf = true) (hb : (Lit.int .u8 b).wf = true) (hc : (Lit.int .u8 c).wf = true) : Ret Tryz.prog G 3 [.int .u8 a, .int .u8 b, .int .u8 c] [] (.bool true) [] := by
  have h1 : 0 ≤ a ∧ a < 256 := by
    simp [Lit.wf, show IntKind.min .u8 = 0 from rfl, show IntKind.max .u8 = 255 from rfl] at ha
    omega
  have h2 : 0 ≤ b ∧ b < 256 := by
    simp [Lit.wf, show IntKind.min .u8 = 0 from rfl, show IntKind.max .u8 = 255 from rfl] at hb
    omega
  have h3 : 0 ≤ c ∧ c < 256 := by
    simp [Lit.wf, show IntKind.min .u8 = 0 from rfl, show IntKind.max .u8 = 255 from rfl] at hc
    omega
  obtain ⟨m, rfl⟩ : ∃ n : Nat, a = n := ⟨a.toNat, by omega⟩
  obtain ⟨k, rfl⟩ : ∃ n : Nat, b = n := ⟨b.toNat, by omega⟩
  obtain ⟨w, rfl⟩ : ∃ n : Nat, c = n := ⟨c.toNat, by omega⟩
  rcases (by omega : 1 + m % 3 = 1 ∨ 1 + m % 3 = 2 ∨ 1 + m % 3 = 3) with h | h | h
  · exact all_1 (1 + k % 40) (by omega) (by omega) m k w (by omega) (by omega) (by omega) h rfl
  · exact all_2 (1 + k % 40) (by omega) (by omega) m k w (by omega) (by omega) (by omega) h rfl
  · exact all_3 (1 + k % 40) (by omega) (by omega) m k w (by omega) (by omega) (by omega) h rfl
end Go.Proofs.YtgkpcjahopacjaaGreatDoor
