/- Threaded code of some functions, by program (gent.py). -/
import Derived.Test.YtmmfnpbjolpfmaaGreatDoorXB
import Derived.Test.YtmmfnpbjolpfmaaGreatDoorALZ
import Derived.Test.YtmmfnpbjolpfmaaGreatDoorGBA
import Derived.Test.YtmmfnpbjolpfmaaGreatDoorGBB
import Derived.Test.YtmmfnpbjolpfmaaGreatDoorGBC
import Derived.Test.YtmmfnpbjolpfmaaGreatDoorGBD
namespace Go.Proofs.YtmmfnpbjolpfmaaGreatDoor.LB
set_option linter.unusedSimpArgs false
set_option linter.unusedVariables false
open Go Go.AL Go.Proofs
set_option maxRecDepth 100000
noncomputable section
def q3_0 : RunT := (t_seq (t_reg (o_bin .lss (b_cmp ltI) D69 Y68 Y67 q_end)) (t_seq (t_cond Y69 t_skip (t_exit (nat_lit 2))) (t_seq (t_blk (nat_lit 3) (t_seq (t_reg (o_idx (nat_lit 1) D70 Y66 Y68 (o_load D71 Y70 (o_mov D15 Y71 q_end)))) (t_seq (t_reg (o_mov D73 Y15 (o_call .d0 .d0 .d7 D74 [Y73] (o_mov D72 Y74 (o_ext (nat_lit 0) D75 Y72 (o_ext (nat_lit 1) D76 Y72 (o_box D16 (gk (.agg [(.int .i64 (.ofNat (nat_lit 0))), (.int .i64 (.ofNat (nat_lit 0))), (.vec [] 0 (some 0))])) (o_storea (nat_lit 3) Y16 Y75 (o_mov D17 Y76 q_end))))))))) (t_reg (o_mov D77 Y13 (o_mov D78 Y77 (o_grd Y78 false D79 (o_loada (nat_lit 3) D79 Y16) (o_grd Y78 false D80 (o_loada (nat_lit 3) D80 Y12) (o_grd Y78 false D81 (o_call .d0 .d0 .d8 D81 [Y79, Y80]) (o_pick D82 Y78 (gk (.bool true)) Y81 (o_mov D13 Y82 q_end))))))))))) (t_reg (o_bin .add b_add D83 Y68 K1 (o_mov D68 Y83 q_end))))))
def q3_1 : RunT := (t_seq (t_reg (o_bin .lss (b_cmp ltI) D63 Y62 Y61 q_end)) (t_seq (t_cond Y63 t_skip (t_exit (nat_lit 0))) (t_seq (t_blk (nat_lit 1) (t_seq (t_reg (o_idx (nat_lit 3) D64 Y60 Y62 (o_loada (nat_lit 3) D65 Y64 (o_box D12 (gk (.agg [(.int .i64 (.ofNat (nat_lit 0))), (.int .i64 (.ofNat (nat_lit 0))), (.vec [] 0 (some 0))])) (o_storea (nat_lit 3) Y12 Y65 q_end))))) (t_seq (t_reg (o_mov D13 (gk (.bool false)) q_end)) (t_seq (t_seq (t_reg (o_mov D66 Y7 (o_len D67 Y66 (o_mov D68 K0 q_end)))) (t_blk (nat_lit 2) (t_loop q3_0))) (t_seq (t_reg (o_mov D84 Y13 (o_un .not D85 Y84 q_end))) (t_cond Y85 (t_seq (t_reg (o_mov D4 (gk (.bool false)) q_end)) t_ret) t_skip)))))) (t_reg (o_bin .add b_add D86 Y62 K1 (o_mov D62 Y86 q_end))))))
def q3_2 : RunT := (t_seq (t_reg (o_bin .lss (b_cmp ltI) D101 Y100 Y99 q_end)) (t_seq (t_cond Y101 t_skip (t_exit (nat_lit 6))) (t_seq (t_blk (nat_lit 7) (t_seq (t_reg (o_idx (nat_lit 3) D102 Y98 Y100 (o_loada (nat_lit 3) D103 Y102 (o_box D24 (gk (.agg [(.int .i64 (.ofNat (nat_lit 0))), (.int .i64 (.ofNat (nat_lit 0))), (.vec [] 0 (some 0))])) (o_storea (nat_lit 3) Y24 Y103 q_end))))) (t_seq (t_reg (o_loada (nat_lit 3) D104 Y20 (o_loada (nat_lit 3) D105 Y24 (o_call .d0 .d0 .d8 D106 [Y104, Y105] q_end)))) (t_cond Y106 (t_reg (o_mov D107 Y22 (o_bin .add b_add D108 Y107 K1 (o_mov D22 Y108 q_end)))) t_skip)))) (t_reg (o_bin .add b_add D109 Y100 K1 (o_mov D100 Y109 q_end))))))
def q3_3 : RunT := (t_seq (t_reg (o_bin .lss (b_cmp ltI) D90 Y89 Y88 q_end)) (t_seq (t_cond Y90 t_skip (t_exit (nat_lit 4))) (t_seq (t_blk (nat_lit 5) (t_seq (t_reg (o_idx (nat_lit 1) D91 Y87 Y89 (o_load D92 Y91 (o_mov D19 Y92 q_end)))) (t_seq (t_reg (o_mov D94 Y19 (o_call .d0 .d0 .d7 D95 [Y94] (o_mov D93 Y95 (o_ext (nat_lit 0) D96 Y93 (o_ext (nat_lit 1) D97 Y93 (o_box D20 (gk (.agg [(.int .i64 (.ofNat (nat_lit 0))), (.int .i64 (.ofNat (nat_lit 0))), (.vec [] 0 (some 0))])) (o_storea (nat_lit 3) Y20 Y96 (o_mov D21 Y97 q_end))))))))) (t_seq (t_reg (o_mov D22 K0 q_end)) (t_seq (t_seq (t_reg (o_mov D98 Y9 (o_len D99 Y98 (o_mov D100 K0 q_end)))) (t_blk (nat_lit 6) (t_loop q3_2))) (t_seq (t_reg (o_mov D110 Y21 (o_bin .neq (b_cmp neI) D111 Y110 K0 (o_mov D112 Y111 (o_grd Y112 false D113 (o_mov D113 Y22) (o_grd Y112 false D114 (o_bin .neq (b_cmp neI) D114 Y113 K1) (o_pick D115 Y112 (gk (.bool true)) Y114 q_end))))))) (t_cond Y115 (t_seq (t_reg (o_mov D4 (gk (.bool false)) q_end)) t_ret) t_skip))))))) (t_reg (o_bin .add b_add D116 Y89 K1 (o_mov D89 Y116 q_end))))))
def rest3 : RunT := (t_seq (t_reg (o_mov D34 Y5 (o_mov D35 Y6 (o_call .d0 .d0 .d4 D36 [Y34, Y35] (o_mov D33 Y36 (o_ext (nat_lit 0) D37 Y33 (o_ext (nat_lit 1) D38 Y33 (o_mov D7 Y37 (o_mov D8 Y38 q_end))))))))) (t_seq (t_reg (o_mov D40 Y5 (o_mov D41 Y6 (o_call .d0 .d0 .d5 D42 [Y40, Y41] (o_mov D39 Y42 (o_ext (nat_lit 0) D43 Y39 (o_ext (nat_lit 1) D44 Y39 (o_mov D9 Y43 (o_mov D10 Y44 q_end))))))))) (t_seq (t_seq (t_reg (o_mov D45 Y8 (o_bin .neq (b_cmp neI) D46 Y45 K0 (o_mov D47 Y46 (o_grd Y47 false D48 (o_mov D48 Y10) (o_grd Y47 false D49 (o_bin .neq (b_cmp neI) D49 Y48 K0) (o_pick D50 Y47 (gk (.bool true)) Y49 q_end))))))) (t_cond Y50 (t_seq (t_reg (o_mov D51 Y8 (o_bin .eql (b_cmp eqI) D52 Y51 K0 (o_mov D53 Y52 (o_grd Y53 true D54 (o_mov D54 Y10) (o_grd Y53 true D55 (o_bin .eql (b_cmp eqI) D55 Y54 (gk (.int .i64 (.ofNat (nat_lit 7))))) (o_pick D56 Y53 Y55 (gk (.bool false)) (o_mov D57 Y56 (o_grd Y57 true D58 (o_call .d0 .d0 .d6 D58 []) (o_pick D59 Y57 Y58 (gk (.bool false)) (o_mov D4 Y59 q_end))))))))))) t_ret) t_skip)) (t_seq (t_seq (t_reg (o_mov D60 Y9 (o_len D61 Y60 (o_mov D62 K0 q_end)))) (t_blk (nat_lit 0) (t_loop q3_1))) (t_seq (t_seq (t_reg (o_mov D87 Y7 (o_len D88 Y87 (o_mov D89 K0 q_end)))) (t_blk (nat_lit 4) (t_loop q3_3))) (t_seq (t_reg (o_mov D117 Y7 (o_len D118 Y117 (o_mov D119 Y9 (o_len D120 Y119 (o_bin .geq (b_cmp geI) D121 Y118 Y120 (o_mov D122 Y121 (o_grd Y122 true D123 (o_call .d0 .d0 .d6 D123 []) (o_pick D124 Y122 Y123 (gk (.bool false)) (o_mov D4 Y124 q_end)))))))))) t_ret))))))
def os3_0 : List COp := [⟨(some 4), none, (.mov (.k (.bool false)))⟩]
def os3_1 : List COp := [⟨(some 25), none, (.mov (.t 0))⟩, ⟨(some 26), none, (.conv .i64 (.t 25))⟩, ⟨(some 27), none, (.bin .rem (.t 26) (.k (.int .i64 (.ofNat (nat_lit 3)))))⟩, ⟨(some 28), none, (.bin .add (.k (.int .i64 (.ofNat (nat_lit 1)))) (.t 27))⟩, ⟨(some 29), none, (.mov (.t 1))⟩, ⟨(some 30), none, (.conv .i64 (.t 29))⟩, ⟨(some 31), none, (.bin .rem (.t 30) (.k (.int .i64 (.ofNat (nat_lit 24)))))⟩, ⟨(some 32), none, (.bin .add (.k (.int .i64 (.ofNat (nat_lit 1)))) (.t 31))⟩, ⟨(some 5), none, (.mov (.t 28))⟩, ⟨(some 6), none, (.mov (.t 32))⟩]
theorem rest3_ok : rest3 = tr okB true (tail2 ((Tryz.f3.body.bind (compC Tryz.prog G Tryz.f3.ntmps)).getD .skip)) := by kernel_rfl
theorem comp3 : Tryz.f3.body.bind (compC Tryz.prog G Tryz.f3.ntmps) = some (.seq (.reg os3_0 none) (.seq (.reg os3_1 none) (tail2 ((Tryz.f3.body.bind (compC Tryz.prog G Tryz.f3.ntmps)).getD .skip)))) := by kernel_rfl
def rg3 : List RG := [(.t Y4)]
theorem rv3 : (Tryz.f3.results.toList.mapM (cRes Tryz.prog)) = some ((Tryz.f3.results.toList.mapM (cRes Tryz.prog)).getD []) := by kernel_rfl
theorem rg3_ok : rg3 = ((Tryz.f3.results.toList.mapM (cRes Tryz.prog)).getD []).map trR := by kernel_rfl
def t8 : RunT := (t_seq (t_reg (o_box D2 Y0 (o_box D3 Y1 (o_mov D4 (gk (.bool false)) q_end)))) (t_seq (t_reg (o_loada (nat_lit 3) D5 Y2 (o_loada (nat_lit 3) D6 Y3 (o_call .d0 .d1 .d4 D7 [Y5, Y6] (o_bin .eql (b_cmp eqI) D8 Y7 K0 (o_mov D4 Y8 q_end)))))) t_ret))
def e8 : Ent := .code t8 9 [(.t Y4)] false
theorem k8 : EOT Tryz.prog G okB 8 e8 := eotA true Tryz.func8
def t20 : RunT := (t_seq (t_reg (o_box D2 Y0 (o_box D3 Y1 (o_mov D4 K0 q_end)))) (t_seq (t_seq (t_dyf (f_op (fun next => o_fld (nat_lit 0) D6 Y2 (next ([], []))) (f_op (f_load D7 Y6) (f_op (fun next => o_fld (nat_lit 0) D8 Y3 (next ([], []))) (f_op (f_load D9 Y8) (f_op (f_call (nat_lit 60) D10 [Y7, Y9]) (f_op (fun next => o_fld (nat_lit 1) D11 Y2 (next ([], []))) (f_op (f_load D12 Y11) (f_op (fun next => o_fld (nat_lit 1) D13 Y3 (next ([], []))) (f_op (f_load D14 Y13) (f_op (f_call (nat_lit 61) D15 [Y12, Y14]) (f_op (f_slow okB (fun E => (.bsl 2 1 [(.int .i64 (.ofNat (nat_lit 0))), (.int .i64 (.ofNat (nat_lit 0)))] [(0, (1, (.k (g0 h10 E)))), (1, (1, (.k (g0 h15 E))))])) D16) (f_op (f_call (nat_lit 59) D17 [Y16]) (f_op (fun next => o_mov D5 Y17 (next ([], []))) (f_end [(1, 3), (1, 6), (3, 6), (4, 6), (1, 8), (3, 8), (4, 8), (6, 8)]))))))))))))))) (t_seq (t_reg (o_mov D18 Y5 (o_bin .neq (b_cmp neI) D19 Y18 K0 q_end))) (t_cond Y19 (t_seq (t_reg (o_mov D20 Y5 (o_mov D4 Y20 q_end))) t_ret) t_skip))) (t_seq (t_reg (o_fld (nat_lit 2) D21 Y2 (o_load D22 Y21 (o_fld (nat_lit 2) D23 Y3 (o_load D24 Y23 (o_call .d0 .d3 .d14 D25 [Y22, Y24, (gk (.clo 63 []))] (o_mov D4 Y25 q_end))))))) t_ret)))
def e20 : Ent := .code t20 26 [(.t Y4)] false
theorem k20 : EOT Tryz.prog G okB 20 e20 := eotA false Tryz.func20
def q59_0 : RunT := (t_seq (t_reg (o_bin .lss (b_cmp ltI) D9 Y8 Y7 q_end)) (t_seq (t_cond Y9 t_skip (t_exit (nat_lit 0))) (t_seq (t_blk (nat_lit 1) (t_seq (t_reg (o_idx (nat_lit 1) D10 Y6 Y8 (o_load D11 Y10 (o_mov D5 Y11 q_end)))) (t_seq (t_reg (o_mov D12 Y5 (o_mov D13 Y3 (o_bin .neq (b_cmp neI) D14 Y12 Y13 q_end)))) (t_cond Y14 (t_seq (t_reg (o_mov D15 Y5 (o_mov D2 Y15 q_end))) t_ret) t_skip)))) (t_reg (o_bin .add b_add D16 Y8 K1 (o_mov D8 Y16 q_end))))))
def t59 : RunT := (t_seq (t_reg (o_mov D2 K0 q_end)) (t_seq (t_reg (o_mov D3 K0 q_end)) (t_seq (t_seq (t_reg (o_mov D6 Y0 (o_len D7 Y6 (o_mov D8 K0 q_end)))) (t_blk (nat_lit 0) (t_loop q59_0))) (t_seq (t_reg (o_mov D17 Y3 (o_mov D2 Y17 q_end))) t_ret))))
def e59 : Ent := .code t59 18 [(.t Y2)] false
theorem k59 : EOT Tryz.prog G okB 59 e59 := eotA true Tryz.func59
def t60 : RunT := (t_seq (t_reg (o_mov D4 K0 q_end)) (t_seq (t_reg (o_mov D7 Y0 (o_call .d0 .d7 .d1 D8 [Y7] (o_mov D5 Y8 q_end)))) (t_seq (t_reg (o_mov D9 Y1 (o_call .d0 .d7 .d1 D10 [Y9] (o_mov D6 Y10 q_end)))) (t_seq (t_seq (t_reg (o_mov D11 Y5 q_end)) (t_cond Y11 (t_seq (t_seq (t_reg (o_mov D12 Y6 q_end)) (t_cond Y12 (t_seq (t_reg (o_mov D4 K0 q_end)) t_ret) t_skip)) (t_seq (t_reg (o_mov D4 (gk (.int .i64 (.negSucc (nat_lit 0)))) q_end)) t_ret)) t_skip)) (t_seq (t_seq (t_reg (o_mov D13 Y6 q_end)) (t_cond Y13 (t_seq (t_reg (o_mov D4 K1 q_end)) t_ret) t_skip)) (t_seq (t_seq (t_reg (o_mov D14 Y0 (o_mov D15 Y1 (o_bin .lss (b_cmp ltI) D16 Y14 Y15 q_end)))) (t_cond Y16 (t_seq (t_reg (o_mov D4 (gk (.int .i64 (.negSucc (nat_lit 0)))) q_end)) t_ret) t_skip)) (t_seq (t_seq (t_reg (o_mov D17 Y0 (o_mov D18 Y1 (o_bin .gtr (b_cmp gtI) D19 Y17 Y18 q_end)))) (t_cond Y19 (t_seq (t_reg (o_mov D4 K1 q_end)) t_ret) t_skip)) (t_seq (t_reg (o_mov D4 K0 q_end)) t_ret))))))))
def e60 : Ent := .code t60 20 [(.t Y4)] false
theorem k60 : EOT Tryz.prog G okB 60 e60 := eotA true Tryz.func60
def t61 : RunT := (t_seq (t_reg (o_mov D4 K0 q_end)) (t_seq (t_reg (o_mov D7 Y0 (o_call .d0 .d7 .d2 D8 [Y7] (o_mov D5 Y8 q_end)))) (t_seq (t_reg (o_mov D9 Y1 (o_call .d0 .d7 .d2 D10 [Y9] (o_mov D6 Y10 q_end)))) (t_seq (t_seq (t_reg (o_mov D11 Y5 q_end)) (t_cond Y11 (t_seq (t_seq (t_reg (o_mov D12 Y6 q_end)) (t_cond Y12 (t_seq (t_reg (o_mov D4 K0 q_end)) t_ret) t_skip)) (t_seq (t_reg (o_mov D4 (gk (.int .i64 (.negSucc (nat_lit 0)))) q_end)) t_ret)) t_skip)) (t_seq (t_seq (t_reg (o_mov D13 Y6 q_end)) (t_cond Y13 (t_seq (t_reg (o_mov D4 K1 q_end)) t_ret) t_skip)) (t_seq (t_seq (t_reg (o_mov D14 Y0 (o_mov D15 Y1 (o_bin .lss (b_cmp ltI) D16 Y14 Y15 q_end)))) (t_cond Y16 (t_seq (t_reg (o_mov D4 (gk (.int .i64 (.negSucc (nat_lit 0)))) q_end)) t_ret) t_skip)) (t_seq (t_seq (t_reg (o_mov D17 Y0 (o_mov D18 Y1 (o_bin .gtr (b_cmp gtI) D19 Y17 Y18 q_end)))) (t_cond Y19 (t_seq (t_reg (o_mov D4 K1 q_end)) t_ret) t_skip)) (t_seq (t_reg (o_mov D4 K0 q_end)) t_ret))))))))
def e61 : Ent := .code t61 20 [(.t Y4)] false
theorem k61 : EOT Tryz.prog G okB 61 e61 := eotA true Tryz.func61
def q62_0 : RunT := (t_seq (t_reg (o_bin .lss (b_cmp ltI) D14 Y13 Y12 q_end)) (t_seq (t_cond Y14 t_skip (t_exit (nat_lit 0))) (t_seq (t_blk (nat_lit 1) (t_seq (t_reg (o_mov D15 Y13 (o_idx (nat_lit 2) D16 Y11 Y13 (o_loada (nat_lit 2) D17 Y16 (o_box D8 (gk (.agg [(.int .i64 (.ofNat (nat_lit 0))), (.vec [] 0 (some 0))])) (o_mov D7 Y15 (o_storea (nat_lit 2) Y8 Y17 q_end))))))) (t_seq (t_seq (t_reg (o_mov D18 Y7 (o_mov D19 Y1 (o_len D20 Y19 (o_bin .geq (b_cmp geI) D21 Y18 Y20 q_end))))) (t_cond Y21 (t_seq (t_reg (o_mov D6 K1 q_end)) t_ret) t_skip)) (t_seq (t_reg (o_mov D22 Y1 (o_mov D23 Y7 (o_idx (nat_lit 2) D24 Y22 Y23 (o_loada (nat_lit 2) D25 Y24 (o_box D9 (gk (.agg [(.int .i64 (.ofNat (nat_lit 0))), (.vec [] 0 (some 0))])) (o_storea (nat_lit 2) Y9 Y25 q_end))))))) (t_seq (t_reg (o_mov D26 Y2 (o_loada (nat_lit 2) D27 Y8 (o_loada (nat_lit 2) D28 Y9 (o_callc okB D29 Y26 [Y27, Y28] (o_mov D10 Y29 q_end)))))) (t_seq (t_reg (o_mov D30 Y10 (o_bin .neq (b_cmp neI) D31 Y30 K0 q_end))) (t_cond Y31 (t_seq (t_reg (o_mov D32 Y10 (o_mov D6 Y32 q_end))) t_ret) t_skip))))))) (t_reg (o_bin .add b_add D33 Y13 K1 (o_mov D13 Y33 q_end))))))
def t62 : RunT := (t_seq (t_reg (o_mov D6 K0 q_end)) (t_seq (t_seq (t_reg (o_mov D11 Y0 (o_len D12 Y11 (o_mov D13 K0 q_end)))) (t_blk (nat_lit 0) (t_loop q62_0))) (t_seq (t_seq (t_reg (o_mov D34 Y0 (o_len D35 Y34 (o_mov D36 Y1 (o_len D37 Y36 (o_bin .lss (b_cmp ltI) D38 Y35 Y37 q_end)))))) (t_cond Y38 (t_seq (t_reg (o_mov D6 (gk (.int .i64 (.negSucc (nat_lit 0)))) q_end)) t_ret) t_skip)) (t_seq (t_reg (o_mov D6 K0 q_end)) t_ret))))
def e62 : Ent := .code t62 39 [(.t Y6)] false
theorem k62 : EOT Tryz.prog G okB 62 e62 := eotA true Tryz.func62
def t63 : RunT := (t_seq (t_reg (o_box D2 Y0 (o_box D3 Y1 (o_mov D4 K0 q_end)))) (t_seq (t_seq (t_reg (o_fld (nat_lit 0) D6 Y2 (o_load D7 Y6 (o_fld (nat_lit 0) D8 Y3 (o_load D9 Y8 (o_call .d0 .d3 .d13 D10 [Y7, Y9] (o_mov D5 Y10 q_end))))))) (t_seq (t_reg (o_mov D11 Y5 (o_bin .neq (b_cmp neI) D12 Y11 K0 q_end))) (t_cond Y12 (t_seq (t_reg (o_mov D13 Y5 (o_mov D4 Y13 q_end))) t_ret) t_skip))) (t_seq (t_reg (o_fld (nat_lit 1) D14 Y2 (o_load D15 Y14 (o_fld (nat_lit 1) D16 Y3 (o_load D17 Y16 (o_call .d0 .d7 .d3 D18 [Y15, Y17, (gk (.clo 116 []))] (o_mov D4 Y18 q_end))))))) t_ret)))
def e63 : Ent := .code t63 19 [(.t Y4)] false
theorem k63 : EOT Tryz.prog G okB 63 e63 := eotA true Tryz.func63
def t113 : RunT := (t_seq (t_reg (o_mov D2 (gk (.bool false)) q_end)) (t_seq (t_reg (o_mov D3 Y0 (o_mov D4 Y0 (o_bin .neq (b_cmp neI) D5 Y3 Y4 (o_mov D2 Y5 q_end))))) t_ret))
def e113 : Ent := .code t113 6 [(.t Y2)] false
theorem k113 : EOT Tryz.prog G okB 113 e113 := eotA true Tryz.func113
def t114 : RunT := (t_seq (t_reg (o_mov D2 (gk (.bool false)) q_end)) (t_seq (t_reg (o_mov D3 Y0 (o_mov D4 Y0 (o_bin .neq (b_cmp neI) D5 Y3 Y4 (o_mov D2 Y5 q_end))))) t_ret))
def e114 : Ent := .code t114 6 [(.t Y2)] false
theorem k114 : EOT Tryz.prog G okB 114 e114 := eotA true Tryz.func114
def q115_0 : RunT := (t_seq (t_reg (o_bin .lss (b_cmp ltI) D14 Y13 Y12 q_end)) (t_seq (t_cond Y14 t_skip (t_exit (nat_lit 0))) (t_seq (t_blk (nat_lit 1) (t_seq (t_reg (o_mov D15 Y13 (o_idx (nat_lit 5) D16 Y11 Y13 (o_loada (nat_lit 5) D17 Y16 (o_box D8 (gk (.agg [(.int .i64 (.ofNat (nat_lit 0))), (.int .i64 (.ofNat (nat_lit 0))), (.int .i64 (.ofNat (nat_lit 0))), (.bool false), (.int .i64 (.ofNat (nat_lit 0)))])) (o_mov D7 Y15 (o_storea (nat_lit 5) Y8 Y17 q_end))))))) (t_seq (t_seq (t_reg (o_mov D18 Y7 (o_mov D19 Y1 (o_len D20 Y19 (o_bin .geq (b_cmp geI) D21 Y18 Y20 q_end))))) (t_cond Y21 (t_seq (t_reg (o_mov D6 K1 q_end)) t_ret) t_skip)) (t_seq (t_reg (o_mov D22 Y1 (o_mov D23 Y7 (o_idx (nat_lit 5) D24 Y22 Y23 (o_loada (nat_lit 5) D25 Y24 (o_box D9 (gk (.agg [(.int .i64 (.ofNat (nat_lit 0))), (.int .i64 (.ofNat (nat_lit 0))), (.int .i64 (.ofNat (nat_lit 0))), (.bool false), (.int .i64 (.ofNat (nat_lit 0)))])) (o_storea (nat_lit 5) Y9 Y25 q_end))))))) (t_seq (t_reg (o_mov D26 Y2 (o_loada (nat_lit 5) D27 Y8 (o_loada (nat_lit 5) D28 Y9 (o_callc okB D29 Y26 [Y27, Y28] (o_mov D10 Y29 q_end)))))) (t_seq (t_reg (o_mov D30 Y10 (o_bin .neq (b_cmp neI) D31 Y30 K0 q_end))) (t_cond Y31 (t_seq (t_reg (o_mov D32 Y10 (o_mov D6 Y32 q_end))) t_ret) t_skip))))))) (t_reg (o_bin .add b_add D33 Y13 K1 (o_mov D13 Y33 q_end))))))
def t115 : RunT := (t_seq (t_reg (o_mov D6 K0 q_end)) (t_seq (t_seq (t_reg (o_mov D11 Y0 (o_len D12 Y11 (o_mov D13 K0 q_end)))) (t_blk (nat_lit 0) (t_loop q115_0))) (t_seq (t_seq (t_reg (o_mov D34 Y0 (o_len D35 Y34 (o_mov D36 Y1 (o_len D37 Y36 (o_bin .lss (b_cmp ltI) D38 Y35 Y37 q_end)))))) (t_cond Y38 (t_seq (t_reg (o_mov D6 (gk (.int .i64 (.negSucc (nat_lit 0)))) q_end)) t_ret) t_skip)) (t_seq (t_reg (o_mov D6 K0 q_end)) t_ret))))
def e115 : Ent := .code t115 39 [(.t Y6)] false
theorem k115 : EOT Tryz.prog G okB 115 e115 := eotA true Tryz.func115
def t116 : RunT := (t_seq (t_reg (o_box D2 Y0 (o_box D3 Y1 (o_mov D4 K0 q_end)))) (t_seq (t_dyf (f_op (fun next => o_fld (nat_lit 0) D5 Y2 (next ([], []))) (f_op (f_load D6 Y5) (f_op (fun next => o_fld (nat_lit 0) D7 Y3 (next ([], []))) (f_op (f_load D8 Y7) (f_op (f_call (nat_lit 60) D9 [Y6, Y8]) (f_op (fun next => o_fld (nat_lit 1) D10 Y2 (next ([], []))) (f_op (f_load D11 Y10) (f_op (fun next => o_fld (nat_lit 1) D12 Y3 (next ([], []))) (f_op (f_load D13 Y12) (f_op (f_call (nat_lit 60) D14 [Y11, Y13]) (f_op (fun next => o_fld (nat_lit 2) D15 Y2 (next ([], []))) (f_op (f_load D16 Y15) (f_op (fun next => o_fld (nat_lit 2) D17 Y3 (next ([], []))) (f_op (f_load D18 Y17) (f_op (f_call (nat_lit 60) D19 [Y16, Y18]) (f_op (fun next => o_fld (nat_lit 3) D20 Y2 (next ([], []))) (f_op (f_load D21 Y20) (f_op (fun next => o_fld (nat_lit 3) D22 Y3 (next ([], []))) (f_op (f_load D23 Y22) (f_op (f_call (nat_lit 117) D24 [Y21, Y23]) (f_op (fun next => o_fld (nat_lit 4) D25 Y2 (next ([], []))) (f_op (f_load D26 Y25) (f_op (fun next => o_fld (nat_lit 4) D27 Y3 (next ([], []))) (f_op (f_load D28 Y27) (f_op (f_call (nat_lit 60) D29 [Y26, Y28]) (f_op (f_slow okB (fun E => (.bsl 5 1 [(.int .i64 (.ofNat (nat_lit 0))), (.int .i64 (.ofNat (nat_lit 0))), (.int .i64 (.ofNat (nat_lit 0))), (.int .i64 (.ofNat (nat_lit 0))), (.int .i64 (.ofNat (nat_lit 0)))] [(0, (1, (.k (g0 h9 E)))), (1, (1, (.k (g0 h14 E)))), (2, (1, (.k (g1 h3 E)))), (3, (1, (.k (g1 h8 E)))), (4, (1, (.k (g1 h13 E))))])) D30) (f_op (f_call (nat_lit 59) D31 [Y30]) (f_op (fun next => o_mov D4 Y31 (next ([], []))) (f_end [(1, 3), (1, 6), (3, 6), (4, 6), (1, 8), (3, 8), (4, 8), (6, 8), (1, 11), (3, 11), (4, 11), (6, 11), (8, 11), (9, 11), (1, 13), (3, 13), (4, 13), (6, 13), (8, 13), (9, 13), (11, 13), (1, 16), (3, 16), (4, 16), (6, 16), (8, 16), (9, 16), (11, 16), (13, 16), (14, 16), (1, 18), (3, 18), (4, 18), (6, 18), (8, 18), (9, 18), (11, 18), (13, 18), (14, 18), (16, 18), (1, 21), (3, 21), (4, 21), (6, 21), (8, 21), (9, 21), (11, 21), (13, 21), (14, 21), (16, 21), (18, 21), (19, 21), (1, 23), (3, 23), (4, 23), (6, 23), (8, 23), (9, 23), (11, 23), (13, 23), (14, 23), (16, 23), (18, 23), (19, 23), (21, 23), (1, 24), (3, 24)])))))))))))))))))))))))))))))) t_ret))
def e116 : Ent := .code t116 32 [(.t Y4)] false
theorem k116 : EOT Tryz.prog G okB 116 e116 := eotA false Tryz.func116
def t117 : RunT := (t_seq (t_reg (o_mov D4 K0 q_end)) (t_seq (t_blk (nat_lit 0) (t_seq (t_reg (o_mov D6 Y0 (o_mov D7 Y1 (o_beq false D8 Y6 Y7 (o_mov D5 Y8 q_end))))) (t_cond Y5 (t_seq (t_reg (o_mov D4 K0 q_end)) t_ret) (t_seq (t_reg (o_mov D10 Y1 (o_mov D9 Y10 q_end))) (t_cond Y9 (t_seq (t_reg (o_mov D4 (gk (.int .i64 (.negSucc (nat_lit 0)))) q_end)) t_ret) t_skip))))) (t_seq (t_reg (o_mov D4 K1 q_end)) t_ret)))
def e117 : Ent := .code t117 11 [(.t Y4)] false
theorem k117 : EOT Tryz.prog G okB 117 e117 := eotA true Tryz.func117
end
end Go.Proofs.YtmmfnpbjolpfmaaGreatDoor.LB

/- The table of the fast evaluator, by program (gent.py). -/
namespace Go.Proofs.YtmmfnpbjolpfmaaGreatDoor.LB
set_option linter.unusedSimpArgs false
set_option linter.unusedVariables false
open Go Go.AL Go.Proofs
set_option maxRecDepth 100000
def nR : N16 Ent := ⟨.no, .no, .no, .no, .no, .no, .no, .no, .no, .no, .no, .no, .no, .no, .no, .no⟩
theorem nR_ok (g : Nat → Nat) : nR.All fun k e => EOT Tryz.prog G okB (g k) e := ⟨trivial, trivial, trivial, trivial, trivial, trivial, trivial, trivial, trivial, trivial, trivial, trivial, trivial, trivial, trivial, trivial⟩
def nRR : N16 (N16 Ent) := ⟨nR, nR, nR, nR, nR, nR, nR, nR, nR, nR, nR, nR, nR, nR, nR, nR⟩
theorem nRR_ok (g : Nat → Nat → Nat) : nRR.All fun j r => r.All fun k e => EOT Tryz.prog G okB (g j k) e := ⟨nR_ok _, nR_ok _, nR_ok _, nR_ok _, nR_ok _, nR_ok _, nR_ok _, nR_ok _, nR_ok _, nR_ok _, nR_ok _, nR_ok _, nR_ok _, nR_ok _, nR_ok _, nR_ok _⟩
noncomputable def w0 (x4 x5 x6 x7 : Ent) : N16 Ent := ⟨.no, .no, .no, .no, x4, x5, x6, x7, e8, .no, .no, .no, .no, .no, .no, .no⟩
theorem w0_ok {x4 x5 x6 x7 : Ent} (h4 : EOT Tryz.prog G okB 4 x4) (h5 : EOT Tryz.prog G okB 5 x5) (h6 : EOT Tryz.prog G okB 6 x6) (h7 : EOT Tryz.prog G okB 7 x7) : (w0 x4 x5 x6 x7).All fun k e => EOT Tryz.prog G okB (256 * 0 + 16 * 0 + k) e := ⟨trivial, trivial, trivial, trivial, h4, h5, h6, h7, k8, trivial, trivial, trivial, trivial, trivial, trivial, trivial⟩
noncomputable def w16 : N16 Ent := ⟨.no, .no, .no, .no, e20, .no, .no, .no, .no, .no, .no, .no, .no, .no, .no, .no⟩
theorem w16_ok : w16.All fun k e => EOT Tryz.prog G okB (256 * 0 + 16 * 1 + k) e := ⟨trivial, trivial, trivial, trivial, k20, trivial, trivial, trivial, trivial, trivial, trivial, trivial, trivial, trivial, trivial, trivial⟩
noncomputable def w48 : N16 Ent := ⟨.no, .no, .no, .no, .no, .no, .no, .no, .no, .no, .no, e59, e60, e61, e62, e63⟩
theorem w48_ok : w48.All fun k e => EOT Tryz.prog G okB (256 * 0 + 16 * 3 + k) e := ⟨trivial, trivial, trivial, trivial, trivial, trivial, trivial, trivial, trivial, trivial, trivial, k59, k60, k61, k62, k63⟩
noncomputable def w112 : N16 Ent := ⟨.no, e113, e114, e115, e116, e117, .no, .no, .no, .no, .no, .no, .no, .no, .no, .no⟩
theorem w112_ok : w112.All fun k e => EOT Tryz.prog G okB (256 * 0 + 16 * 7 + k) e := ⟨trivial, k113, k114, k115, k116, k117, trivial, trivial, trivial, trivial, trivial, trivial, trivial, trivial, trivial, trivial⟩
noncomputable def v0 (x4 x5 x6 x7 : Ent) : N16 (N16 Ent) := ⟨w0 x4 x5 x6 x7, w16, nR, w48, nR, nR, nR, w112, nR, nR, nR, nR, nR, nR, nR, nR⟩
theorem v0_ok {x4 x5 x6 x7 : Ent} (h4 : EOT Tryz.prog G okB 4 x4) (h5 : EOT Tryz.prog G okB 5 x5) (h6 : EOT Tryz.prog G okB 6 x6) (h7 : EOT Tryz.prog G okB 7 x7) : (v0 x4 x5 x6 x7).All fun j r => r.All fun k e => EOT Tryz.prog G okB (256 * 0 + 16 * j + k) e := ⟨w0_ok h4 h5 h6 h7, w16_ok, nR_ok _, w48_ok, nR_ok _, nR_ok _, nR_ok _, w112_ok, nR_ok _, nR_ok _, nR_ok _, nR_ok _, nR_ok _, nR_ok _, nR_ok _, nR_ok _⟩
noncomputable def TM (x4 x5 x6 x7 : Ent) : Tab := ⟨v0 x4 x5 x6 x7, nRR, nRR, nRR, nRR, nRR, nRR, nRR, nRR, nRR, nRR, nRR, nRR, nRR, nRR, nRR⟩
theorem TM_ok {x4 x5 x6 x7 : Ent} (h4 : EOT Tryz.prog G okB 4 x4) (h5 : EOT Tryz.prog G okB 5 x5) (h6 : EOT Tryz.prog G okB 6 x6) (h7 : EOT Tryz.prog G okB 7 x7) : TOK Tryz.prog G okB (TM x4 x5 x6 x7) := ⟨v0_ok h4 h5 h6 h7, nRR_ok _, nRR_ok _, nRR_ok _, nRR_ok _, nRR_ok _, nRR_ok _, nRR_ok _, nRR_ok _, nRR_ok _, nRR_ok _, nRR_ok _, nRR_ok _, nRR_ok _, nRR_ok _, nRR_ok _⟩
theorem runM {x4 x5 x6 x7 : Ent} (h4 : EOT Tryz.prog G okB 4 x4) (h5 : EOT Tryz.prog G okB 5 x5) (h6 : EOT Tryz.prog G okB 6 x6) (h7 : EOT Tryz.prog G okB 7 x7) {n f : Nat} {args : List AV} {H : Heap} {v : AV} {H' : Heap} (h : frun (exT (TM x4 x5 x6 x7) n) f args H = some (v, H')) : Ret Tryz.prog G f args H v H' := exT_sound (by kernel_rfl) okB_ok mixed (TM_ok h4 h5 h6 h7) n f args H v H' h
theorem qM {x4 x5 x6 x7 : Ent} (h4 : EOT Tryz.prog G okB 4 x4) (h5 : EOT Tryz.prog G okB 5 x5) (h6 : EOT Tryz.prog G okB 6 x6) (h7 : EOT Tryz.prog G okB 7 x7) {f : Nat} {l : List (List AV × AV)} (h : chk (TM x4 x5 x6 x7) f l = true) : MemoOK Tryz.prog G f l := chk_ok (fun _ _ => runM h4 h5 h6 h7) l h
end Go.Proofs.YtmmfnpbjolpfmaaGreatDoor.LB

/- Tables of results; construct.All (gengen.py) -/
namespace Go.Proofs.YtmmfnpbjolpfmaaGreatDoor.AD
set_option linter.unusedSimpArgs false
set_option linter.unusedVariables false
open Go Go.AL Go.Proofs
set_option maxRecDepth 1000000
theorem aE {a c l : LR} (h1 : MO 10 a) (h3 : MO 33 c) (h : chk (TM (.known (memoK a)) e13 e22 e31 (.known (memoK c)) e36 e39 e44 e92 e93 e211 e213) 4 l = true) : MO 4 l := qM (memo_ok h1) k13 k22 k31 (memo_ok h3) k36 k39 k44 k92 k93 k211 k213 h
def s3_8 : LR := [([J 3, J 8], lo g178)]
theorem s3_8_ok : MO 13 s3_8 := iD (a := kk0 ++ (kk1 ++ (kk2))) (.append _ _ kk0_ok (.append _ _ kk1_ok (kk2_ok))) (by kernel_rfl)
def ge3_8 : LR := [r5 3 8 [g101, g102, g103, g104, g105]]
theorem ge3_8_ok : MO 5 ge3_8 := jD s3_8_ok (by kernel_rfl)
def kk6 : LR2 := [([.sl 0 0 2 5 none, .ptr 26 0, .ptr 27 0], [(bk [2100, 41100]), (bk [12100, 21111]), (bk [12100, 21117]), (bk [12111, 21110]), (bk [12113, 21110]), (bk [12115, 21110]), (bk [12117, 21110]), (bk [1111, 22100]), (bk [1111, 22110]), (bk [1111, 22112]), (bk [1111, 22116]), (bk [1013, 22000]), (bk [1015, 22000]), (bk [1117, 22100]), (bk [1117, 22110]), (bk [1117, 22112]), (bk [1117, 22116]), (bk [1110, 11110, 31111]), (bk [1010, 11010, 31111]), (bk [1110, 11110, 31117]), (bk [1010, 11010, 31117]), (bk [1112, 11110, 31111]), (bk [1112, 11110, 31117]), (bk [1116, 11110, 31111]), (bk [1116, 11110, 31117]), (bl [(1, 2), (2, 2), (3, 2), (4, 2), (5, 2), (6, 2), (7, 2), (8, 2), (9, 2), (10, 2), (11, 2), (12, 2), (13, 2), (14, 2), (15, 2), (16, 2), (17, 3), (18, 3), (19, 3), (20, 3), (21, 3), (22, 3), (23, 3), (24, 3)]), (some [.sl 25 0 24 2 none]), (some [J 16])], .tup [], [(bk [2100, 41100]), (bk [12100, 21111]), (bk [12100, 21117]), (bk [12111, 21110]), (bk [12113, 21110]), (bk [12115, 21110]), (bk [12117, 21110]), (bk [1111, 22100]), (bk [1111, 22110]), (bk [1111, 22112]), (bk [1111, 22116]), (bk [1013, 22000]), (bk [1015, 22000]), (bk [1117, 22100]), (bk [1117, 22110]), (bk [1117, 22112]), (bk [1117, 22116]), (bk [1110, 11110, 31111]), (bk [1010, 11010, 31111]), (bk [1110, 11110, 31117]), (bk [1010, 11010, 31117]), (bk [1112, 11110, 31111]), (bk [1112, 11110, 31117]), (bk [1116, 11110, 31111]), (bk [1116, 11110, 31117]), none, (some [.sl 44 0 40 2 none]), (some [J 16]), (bk [2100, 41111]), (bk [2000, 41013]), (bk [2000, 41015]), (bk [2100, 41117]), (bk [2110, 41111]), (bk [2110, 41117]), (bk [2112, 41111]), (bk [2012, 41013]), (bk [2012, 41015]), (bk [2112, 41117]), (bk [2014, 41013]), (bk [2014, 41015]), (bk [2116, 41111]), (bk [2016, 41013]), (bk [2016, 41015]), (bk [2116, 41117]), (bl [(1, 2), (2, 2), (3, 2), (4, 2), (5, 2), (6, 2), (7, 2), (8, 2), (9, 2), (10, 2), (11, 2), (12, 2), (13, 2), (14, 2), (15, 2), (16, 2), (17, 3), (18, 3), (19, 3), (20, 3), (21, 3), (22, 3), (23, 3), (24, 3), (28, 2), (29, 2), (30, 2), (31, 2), (32, 2), (33, 2), (34, 2), (35, 2), (36, 2), (37, 2), (38, 2), (39, 2), (40, 2), (41, 2), (42, 2), (43, 2)])])]
theorem kk6_ok : Memo2 Tryz.prog G 36 kk6 := hN (m := n0 ++ (n1 ++ (n2 ++ (n3 ++ (n4))))) u39_3_4 u44_3_4 u93_3_4 (.append _ _ n0_ok (.append _ _ n1_ok (.append _ _ n2_ok (.append _ _ n3_ok (n4_ok))))) (by kernel_rfl)
def s3_16 : LR := [([J 3, J 16], lo g179)]
theorem s3_16_ok : MO 13 s3_16 := iD (a := kk3 ++ (kk4 ++ (kk5 ++ (kk6)))) (.append _ _ kk3_ok (.append _ _ kk4_ok (.append _ _ kk5_ok (kk6_ok)))) (by kernel_rfl)
def ge3_16 : LR := [r5 3 16 [g132, g133, g134, g135, g136, g137, g138, g139]]
theorem ge3_16_ok : MO 5 ge3_16 := jD s3_16_ok (by kernel_rfl)
def s3_24 : LR := [([J 3, J 24], lo g180)]
theorem s3_24_ok : MO 13 s3_24 := iD (a := kk7 ++ (kk8 ++ (kk9))) (.append _ _ kk7_ok (.append _ _ kk8_ok (kk9_ok))) (by kernel_rfl)
def ge3_24 : LR := [r5 3 24 [g166, g167, g168, g169, g170, g171, g172, g173, g174, g175, g176, g177]]
theorem ge3_24_ok : MO 5 ge3_24 := jD s3_24_ok (by kernel_rfl)
def t33_a : LR := []
theorem u33_a : MO 33 t33_a := trivial
def t4_a : LR := [r4 1 1 [h0], r4 1 2 [h1], r4 1 3 [h2], r4 1 4 [h3], r4 1 5 [h4], r4 1 6 [h5], r4 1 7 [h6], r4 1 8 [h7], r4 1 9 [h8], r4 1 10 [h9], r4 1 11 [h10], r4 1 12 [h11], r4 1 13 [h12], r4 1 14 [h13], r4 1 15 [h14], r4 1 16 [h15], r4 1 17 [h16], r4 1 18 [h17], r4 1 19 [h18], r4 1 20 [h19], r4 1 21 [h20], r4 1 22 [h21], r4 1 23 [h22], r4 1 24 [h23]]
theorem u4_a : MO 4 t4_a := aE u10_a u33_a (by kernel_rfl)
def t33_b0 : LR := []
theorem u33_b0 : MO 33 t33_b0 := trivial
def t4_b0 : LR := [r4 2 1 [h24], r4 2 2 [h25], r4 2 3 [h26, h27], r4 2 4 [h28, h29]]
theorem u4_b0 : MO 4 t4_b0 := aD u10_b0 u31_b0 u33_b0 (by kernel_rfl)
def t33_b1 : LR := []
theorem u33_b1 : MO 33 t33_b1 := trivial
def t4_b1 : LR := [r4 2 5 [h30, h31], r4 2 6 [h32, h33], r4 2 7 [h34, h35], r4 2 8 [h36, h37, h38]]
theorem u4_b1 : MO 4 t4_b1 := aD u10_b1 u31_b1 u33_b1 (by kernel_rfl)
def t33_b2 : LR := []
theorem u33_b2 : MO 33 t33_b2 := trivial
def t4_b2 : LR := [r4 2 9 [h39, h40, h41], r4 2 10 [h42, h43], r4 2 11 [h44, h45, h46], r4 2 12 [h47, h48, h49, h50]]
theorem u4_b2 : MO 4 t4_b2 := aD u10_b2 u31_b2 u33_b2 (by kernel_rfl)
def t33_b3 : LR := []
theorem u33_b3 : MO 33 t33_b3 := trivial
def t4_b3 : LR := [r4 2 13 [h51, h52], r4 2 14 [h53, h54, h55], r4 2 15 [h56, h57, h58, h59], r4 2 16 [h60, h61, h62, h63]]
theorem u4_b3 : MO 4 t4_b3 := aD u10_b3 u31_b3 u33_b3 (by kernel_rfl)
def t33_b4 : LR := []
theorem u33_b4 : MO 33 t33_b4 := trivial
def t4_b4 : LR := [r4 2 17 [h64, h65, h66], r4 2 18 [h67, h68, h69], r4 2 19 [h70, h71, h72], r4 2 20 [h73, h74, h75, h76, h77]]
theorem u4_b4 : MO 4 t4_b4 := aD u10_b4 u31_b4 u33_b4 (by kernel_rfl)
def t33_b5 : LR := []
theorem u33_b5 : MO 33 t33_b5 := trivial
def t4_b5 : LR := [r4 2 21 [h78, h79, h80, h81], r4 2 22 [h82, h83], r4 2 23 [h84, h85, h86, h87], r4 2 24 [h88, h89, h90, h91, h92, h93]]
theorem u4_b5 : MO 4 t4_b5 := aD u10_b5 u31_b5 u33_b5 (by kernel_rfl)
def t33_c1 : LR := []
theorem u33_c1 : MO 33 t33_c1 := trivial
def t4_c1 : LR := [r4 3 1 [h94]]
theorem u4_c1 : MO 4 t4_c1 := aD u10_c1 u31_c1 u33_c1 (by kernel_rfl)
def t33_c2 : LR := []
theorem u33_c2 : MO 33 t33_c2 := trivial
def t4_c2 : LR := [r4 3 2 [h95]]
theorem u4_c2 : MO 4 t4_c2 := aD u10_c2 u31_c2 u33_c2 (by kernel_rfl)
def t33_c3 : LR := []
theorem u33_c3 : MO 33 t33_c3 := trivial
def t4_c3 : LR := [r4 3 3 [h96, h97]]
theorem u4_c3 : MO 4 t4_c3 := aD u10_c3 u31_c3 u33_c3 (by kernel_rfl)
def t33_c4 : LR := b0 ++ (b1 ++ (b2 ++ (b3 ++ (b4))))
theorem u33_c4 : MO 33 t33_c4 := ap b0_ok (ap b1_ok (ap b2_ok (ap b3_ok (b4_ok))))
def t4_c4 : LR := [r4 3 4 [h98, h99, h100]]
theorem u4_c4 : MO 4 t4_c4 := aD u10_c4 u31_c4 u33_c4 (by kernel_rfl)
def t33_c5 : LR := []
theorem u33_c5 : MO 33 t33_c5 := trivial
def t4_c5 : LR := [r4 3 5 [h101, h102]]
theorem u4_c5 : MO 4 t4_c5 := aD u10_c5 u31_c5 u33_c5 (by kernel_rfl)
def t33_c6 : LR := b5 ++ (b6 ++ (b7))
theorem u33_c6 : MO 33 t33_c6 := ap b5_ok (ap b6_ok (b7_ok))
def t4_c6 : LR := [r4 3 6 [h103, h104, h105]]
theorem u4_c6 : MO 4 t4_c6 := aD u10_c6 u31_c6 u33_c6 (by kernel_rfl)
def t33_c7 : LR := b8 ++ (b9 ++ (b10))
theorem u33_c7 : MO 33 t33_c7 := ap b8_ok (ap b9_ok (b10_ok))
def t4_c7 : LR := [r4 3 7 [h106, h107, h108]]
theorem u4_c7 : MO 4 t4_c7 := aD u10_c7 u31_c7 u33_c7 (by kernel_rfl)
def t33_c8 : LR := b11
theorem u33_c8 : MO 33 t33_c8 := b11_ok
def t4_c8 : LR := [r4 3 8 [h109, h110, h111, h112, h113]]
theorem u4_c8 : MO 4 t4_c8 := aD u10_c8 u31_c8 u33_c8 (by kernel_rfl)
def t33_c9 : LR := []
theorem u33_c9 : MO 33 t33_c9 := trivial
def t4_c9 : LR := [r4 3 9 [h114, h115, h116, h117]]
theorem u4_c9 : MO 4 t4_c9 := aD u10_c9 u31_c9 u33_c9 (by kernel_rfl)
def t33_c10 : LR := b12 ++ (b13 ++ (b14 ++ (b15 ++ (b16))))
theorem u33_c10 : MO 33 t33_c10 := ap b12_ok (ap b13_ok (ap b14_ok (ap b15_ok (b16_ok))))
def t4_c10 : LR := [r4 3 10 [h118, h119, h120, h121]]
theorem u4_c10 : MO 4 t4_c10 := aD u10_c10 u31_c10 u33_c10 (by kernel_rfl)
def t33_c11 : LR := []
theorem u33_c11 : MO 33 t33_c11 := trivial
def t4_c11 : LR := [r4 3 11 [h122, h123, h124]]
theorem u4_c11 : MO 4 t4_c11 := aD u10_c11 u31_c11 u33_c11 (by kernel_rfl)
def t33_c12 : LR := b17 ++ (b18 ++ (b19 ++ (b20)))
theorem u33_c12 : MO 33 t33_c12 := ap b17_ok (ap b18_ok (ap b19_ok (b20_ok)))
def t4_c12 : LR := [r4 3 12 [h125, h126, h127, h128, h129, h130, h131, h132]]
theorem u4_c12 : MO 4 t4_c12 := aD u10_c12 u31_c12 u33_c12 (by kernel_rfl)
def t33_c13 : LR := b21 ++ (b22 ++ (b23 ++ (b24 ++ (b25))))
theorem u33_c13 : MO 33 t33_c13 := ap b21_ok (ap b22_ok (ap b23_ok (ap b24_ok (b25_ok))))
def t4_c13 : LR := [r4 3 13 [h133, h134, h135, h136]]
theorem u4_c13 : MO 4 t4_c13 := aD u10_c13 u31_c13 u33_c13 (by kernel_rfl)
def t33_c14 : LR := b26 ++ (b27)
theorem u33_c14 : MO 33 t33_c14 := ap b26_ok (b27_ok)
def t4_c14 : LR := [r4 3 14 [h137, h138, h139, h140]]
theorem u4_c14 : MO 4 t4_c14 := aD u10_c14 u31_c14 u33_c14 (by kernel_rfl)
def t33_c15 : LR := b28 ++ (b29)
theorem u33_c15 : MO 33 t33_c15 := ap b28_ok (b29_ok)
def t4_c15 : LR := [r4 3 15 [h141, h142, h143, h144, h145, h146]]
theorem u4_c15 : MO 4 t4_c15 := aD u10_c15 u31_c15 u33_c15 (by kernel_rfl)
def t33_c16 : LR := b30 ++ (b31 ++ (b32 ++ (b33)))
theorem u33_c16 : MO 33 t33_c16 := ap b30_ok (ap b31_ok (ap b32_ok (b33_ok)))
def t4_c16 : LR := [r4 3 16 [h147, h148, h149, h150, h151, h152, h153, h154, h155]]
theorem u4_c16 : MO 4 t4_c16 := aD u10_c16 u31_c16 u33_c16 (by kernel_rfl)
def t33_c17 : LR := b34 ++ (b35)
theorem u33_c17 : MO 33 t33_c17 := ap b34_ok (b35_ok)
def t4_c17 : LR := [r4 3 17 [h156, h157, h158, h159]]
theorem u4_c17 : MO 4 t4_c17 := aD u10_c17 u31_c17 u33_c17 (by kernel_rfl)
def t33_c18 : LR := b36 ++ (b37)
theorem u33_c18 : MO 33 t33_c18 := ap b36_ok (b37_ok)
def t4_c18 : LR := [r4 3 18 [h160, h161, h162, h163, h164, h165, h166]]
theorem u4_c18 : MO 4 t4_c18 := aD u10_c18 u31_c18 u33_c18 (by kernel_rfl)
def t33_c19 : LR := b38 ++ (b39 ++ (b40 ++ (b41)))
theorem u33_c19 : MO 33 t33_c19 := ap b38_ok (ap b39_ok (ap b40_ok (b41_ok)))
def t4_c19 : LR := [r4 3 19 [h167, h168, h169, h170, h171]]
theorem u4_c19 : MO 4 t4_c19 := aD u10_c19 u31_c19 u33_c19 (by kernel_rfl)
def t33_c20 : LR := b42 ++ (b43 ++ (b44 ++ (b45 ++ (b46))))
theorem u33_c20 : MO 33 t33_c20 := ap b42_ok (ap b43_ok (ap b44_ok (ap b45_ok (b46_ok))))
def t4_c20 : LR := [r4 3 20 [h172, h173, h174, h175, h176, h177, h178, h179, h180, h181]]
theorem u4_c20 : MO 4 t4_c20 := aD u10_c20 u31_c20 u33_c20 (by kernel_rfl)
def t33_c21 : LR := b47 ++ (b48 ++ (b49 ++ (b50 ++ (b51))))
theorem u33_c21 : MO 33 t33_c21 := ap b47_ok (ap b48_ok (ap b49_ok (ap b50_ok (b51_ok))))
def t4_c21 : LR := [r4 3 21 [h182, h183, h184, h185, h186, h187, h188]]
theorem u4_c21 : MO 4 t4_c21 := aD u10_c21 u31_c21 u33_c21 (by kernel_rfl)
def t33_c22 : LR := b52 ++ (b53 ++ (b54 ++ (b55 ++ (b56 ++ (b57 ++ (b58))))))
theorem u33_c22 : MO 33 t33_c22 := ap b52_ok (ap b53_ok (ap b54_ok (ap b55_ok (ap b56_ok (ap b57_ok (b58_ok))))))
def t4_c22 : LR := [r4 3 22 [h189, h190, h191, h192, h193, h194]]
theorem u4_c22 : MO 4 t4_c22 := aD u10_c22 u31_c22 u33_c22 (by kernel_rfl)
def t33_c23 : LR := []
theorem u33_c23 : MO 33 t33_c23 := trivial
def t4_c23 : LR := [r4 3 23 [h195, h196, h197, h198, h199]]
theorem u4_c23 : MO 4 t4_c23 := aD u10_c23 u31_c23 u33_c23 (by kernel_rfl)
def t33_c24 : LR := b59 ++ (b60 ++ (b61 ++ (b62 ++ (b63 ++ (b64 ++ (b65 ++ (b66)))))))
theorem u33_c24 : MO 33 t33_c24 := ap b59_ok (ap b60_ok (ap b61_ok (ap b62_ok (ap b63_ok (ap b64_ok (ap b65_ok (b66_ok)))))))
def t4_c24 : LR := [r4 3 24 [h200, h201, h202, h203, h204, h205, h206, h207, h208, h209, h210, h211, h212, h213]]
theorem u4_c24 : MO 4 t4_c24 := aD u10_c24 u31_c24 u33_c24 (by kernel_rfl)
def t6 : LR := [([], .bool true)]
theorem u6 : MO 6 t6 := aD (ap u10_b1 u10_c1) (ap u31_b1 u31_c1) (ap u33_b1 u33_c1) (by kernel_rfl)
end Go.Proofs.YtmmfnpbjolpfmaaGreatDoor.AD

/- The law ConstructGenera at all arguments (gengenlaw.py). -/
namespace Go.Proofs.YtmmfnpbjolpfmaaGreatDoor.LB
set_option linter.unusedSimpArgs false
set_option linter.unusedVariables false
open Go Go.AL Go.Proofs Go.Proofs.YtmmfnpbjolpfmaaGreatDoor.AD
set_option maxRecDepth 1000000

noncomputable def E0 (n d : Nat) : E16 := ((junkE.setN 4 (.bool false)).setN 5 (.int .i64 (.ofNat n))).setN 6 (.int .i64 (.ofNat d))
theorem E0_env (n d t : Nat) : (E0 n d).env t = if t = 6 then .int .i64 (.ofNat d) else if t = 5 then .int .i64 (.ofNat n) else if t = 4 then .bool false else .junk := by
  unfold E0
  rw [E16.env_setN _ _ (by decide), E16.env_setN _ _ (by decide), E16.env_setN _ _ (by decide)]
  simp only [upd_app, junkE_env]
def isT (r : O) : Bool := match r with
  | some (.bool true, []) => true
  | _ => false
theorem isT_ok {r : O} (h : isT r = true) : r = some (.bool true, []) := by
  unfold isT at h
  split at h
  · rfl
  · simp at h
def Z (n d : Nat) : Prop := ∀ a b : Nat, a < 256 → b < 256 → 1 + a % 3 = n → 1 + b % 24 = d → Ret Tryz.prog G 3 [.int .u8 a, .int .u8 b] [] (.bool true) []
noncomputable def runL (t4 t5 t6 t7 : LR) (n d : Nat) : O :=
  rest3 (exT (TM (.known (memoK t4)) (.known (memoK t5)) (.known (memoK t6)) (.known (memoK t7))) 1000) 0 (finK 0 false rg3) (fun x E H => endX x (finK 0 false rg3 E H)) (E0 n d) []
theorem mkZ {t4 t5 t6 t7 : LR} {n d : Nat} (h6 : MemoOK Tryz.prog G 6 t6) (h4 : MemoOK Tryz.prog G 4 t4) (h5 : MemoOK Tryz.prog G 5 t5) (h7 : MemoOK Tryz.prog G 7 t7) (h : isT (runL t4 t5 t6 t7 n d) = true) : Z n d := by
  intro a b ha hb hn hd
  have w1 : IntKind.i64.wrap (a : Int) = (a : Nat) := by simp [IntKind.wrap, IntKind.bits, IntKind.signed]; omega
  have w2 : IntKind.i64.wrap (b : Int) = (b : Nat) := by simp [IntKind.wrap, IntKind.bits, IntKind.signed]; omega
  have w3 : IntKind.i64.wrap (1 + Int.tmod (a : Int) 3) = (n : Nat) := by
    have : Int.tmod (a : Int) 3 = ((a % 3 : Nat) : Int) := rfl
    rw [this]; simp [IntKind.wrap, IntKind.bits, IntKind.signed]; omega
  have w4 : IntKind.i64.wrap (1 + Int.tmod (b : Int) 24) = (d : Nat) := by
    have : Int.tmod (b : Int) 24 = ((b % 24 : Nat) : Int) := rfl
    rw [this]; simp [IntKind.wrap, IntKind.bits, IntKind.signed]; omega
  refine split_ret (fn := Tryz.f3) (nt := 125) (cl := exT (TM (.known (memoK t4)) (.known (memoK t5)) (.known (memoK t6)) (.known (memoK t7))) 1000) mixed okB_ok (fun f args H v H' => runM (memo_ok h4) (memo_ok h5) (memo_ok h6) (memo_ok h7)) (by decide) Tryz.func3 comp3 (by kernel_rfl) rv3 rg3_ok rest3_ok
    (args := [.int .u8 a, .int .u8 b]) (by simp) (E1 := upd (upd (upd (upd (upd (upd (upd (upd (upd (upd (upd (argsE [.int .u8 a, .int .u8 b]) 4 (.bool false)) 25 (.int .u8 a)) 26 (.int .i64 a)) 27 (.int .i64 (Int.tmod (a : Int) 3))) 28 (.int .i64 n)) 29 (.int .u8 b)) 30 (.int .i64 b)) 31 (.int .i64 (Int.tmod (b : Int) 24))) 32 (.int .i64 d)) 5 (.int .i64 n)) 6 (.int .i64 d)) (E0 := E0 n d) ?_ (fun t => ?_) (isT_ok h)
  · have k3 : (AV.int IntKind.i64 (Int.ofNat (nat_lit 3))) = .int .i64 3 := rfl
    have k1 : (AV.int IntKind.i64 (Int.ofNat (nat_lit 1))) = .int .i64 1 := rfl
    have k24 : (AV.int IntKind.i64 (Int.ofNat (nat_lit 24))) = .int .i64 24 := rfl
    simp only [os3_0, os3_1, wpC, andThen_normal, andThen_ret, andThen_exit, andThen_goto, inBlk_normal, inBlk_ret, inBlk_exit, rA_mov, rA_pick, rA_box, rA_build, rA_bsl, rA_load, rA_store, rA_nilck, rA_bin, rA_beq, rA_snil, rA_un, rA_conv, rA_mksl, rA_slice, rA_fld, rA_part, rA_idx, rA_idxa, rA_idxv, rA_idxs, rA_ext, rA_len, rA_lens, rA_lenk, rA_max, rA_mkfn, rA_append, rA_callf, rA_callc, rA_guardf, rA_nil, restA_pure, goon, boolA_bool, condA_bool, condA_any, both_some, both_none, pickA_bool, ldA_ptr, ldA_iptr, ldv_f, ldv_t, stA_ptr, nilA_ptr, nilA_iptr, binA_add, binA_sub, binA_mul, binA_quo, binA_rem, binA_shl, binA_shr, binA_and, binA_or, binA_andNot, binA_eql, binA_neq, binA_lss, binA_leq, binA_gtr, binA_geq, binA_seql, binA_sadd, beqA_bool, snilA_vec, snilA_sl, unA_neg, unA_not, convA_int, mkslA_int, natOf_int, optNat_none, optNat_some, sliceA_vec, sliceA_sl, sliceA_vec3, sliceA_sl3, subCap_none, subCap_zero, fldA_ptr, fldA_iptr, partA_agg, idxA_sl, idxA_vec, idxaA_ptr, idxaA_iptr, idxvA_agg, idxsA_str, extA_tup, lenSA_vec, lenSA_sl, lenStA_str, maxA_int, val_t, val_k, updO_some, updO_none, cells_agg, cells_int, cells_bool, cells_vec, cells_sl, firm_agg, firm_int, firm_bool, firm_vec, firm_sl, setL_nil, setL_cons, scalL_nil, scalL_cons, scal_int, scal_bool, scal_vec, scal_sl, fillA_nil, fillA_cons, zeros_one, bindP_some, bindP_need, bindP_none, bindP_bind, upd_app, argsE_app, getB_zero, getB_succ, List.getD_cons_zero, List.getD_cons_succ, List.getD_nil, List.map_cons, List.map_nil, List.length_cons, List.length_nil, List.nil_append, List.cons_append, true_and, and_true, forall_const, true_implies, Option.bind_some, Option.bind_none, reduceCtorEq, reduceIte, false_implies, implies_true, Bool.not_true, Bool.not_false, Bool.true_eq_false, Bool.false_eq_true, Nat.zero_add, Nat.reduceAdd, Nat.reduceEqDiff, Nat.succ_ne_zero, Nat.reduceLeDiff, decide_eq_true_eq, decide_eq_false_iff_not, Nat.mul_one, List.take_succ_cons, List.take_zero, List.drop_zero, List.drop_succ_cons, List.set_cons_zero, List.set_cons_succ, Bool.and_true, Bool.and_self, emptyS_sub, emptyS_succ, emptyS_zero, k3, k1, k24, w1, w2, w3, w4]
    exact ⟨by decide, by decide⟩
  · rw [E0_env]
    by_cases h6 : t = 6
    · left; subst h6; rfl
    · rw [if_neg h6]
      by_cases h5 : t = 5
      · left; subst h5; rfl
      · rw [if_neg h5]
        by_cases h4 : t = 4
        · left; subst h4; rfl
        · right; rw [if_neg h4]
theorem z1_1 : Z 1 1 := mkZ u6 u4_a ge0_ok u7_a (by kernel_rfl)
theorem z1_2 : Z 1 2 := mkZ u6 u4_a ge3_ok u7_a (by kernel_rfl)
theorem z1_3 : Z 1 3 := mkZ u6 u4_a ge0_ok u7_a (by kernel_rfl)
theorem z1_4 : Z 1 4 := mkZ u6 u4_a ge5_ok u7_a (by kernel_rfl)
theorem z1_5 : Z 1 5 := mkZ u6 u4_a ge0_ok u7_a (by kernel_rfl)
theorem z1_6 : Z 1 6 := mkZ u6 u4_a ge3_ok u7_a (by kernel_rfl)
theorem z1_7 : Z 1 7 := mkZ u6 u4_a ge0_ok u7_a (by kernel_rfl)
theorem z1_8 : Z 1 8 := mkZ u6 u4_a ge6_ok u7_a (by kernel_rfl)
theorem z1_9 : Z 1 9 := mkZ u6 u4_a ge0_ok u7_a (by kernel_rfl)
theorem z1_10 : Z 1 10 := mkZ u6 u4_a ge3_ok u7_a (by kernel_rfl)
theorem z1_11 : Z 1 11 := mkZ u6 u4_a ge1_ok u7_a (by kernel_rfl)
theorem z1_12 : Z 1 12 := mkZ u6 u4_a ge5_ok u7_a (by kernel_rfl)
theorem z1_13 : Z 1 13 := mkZ u6 u4_a ge1_ok u7_a (by kernel_rfl)
theorem z1_14 : Z 1 14 := mkZ u6 u4_a ge3_ok u7_a (by kernel_rfl)
theorem z1_15 : Z 1 15 := mkZ u6 u4_a ge1_ok u7_a (by kernel_rfl)
theorem z1_16 : Z 1 16 := mkZ u6 u4_a ge7_ok u7_a (by kernel_rfl)
theorem z1_17 : Z 1 17 := mkZ u6 u4_a ge1_ok u7_a (by kernel_rfl)
theorem z1_18 : Z 1 18 := mkZ u6 u4_a ge3_ok u7_a (by kernel_rfl)
theorem z1_19 : Z 1 19 := mkZ u6 u4_a ge1_ok u7_a (by kernel_rfl)
theorem z1_20 : Z 1 20 := mkZ u6 u4_a ge5_ok u7_a (by kernel_rfl)
theorem z1_21 : Z 1 21 := mkZ u6 u4_a ge2_ok u7_a (by kernel_rfl)
theorem z1_22 : Z 1 22 := mkZ u6 u4_a ge4_ok u7_a (by kernel_rfl)
theorem z1_23 : Z 1 23 := mkZ u6 u4_a ge2_ok u7_a (by kernel_rfl)
theorem z1_24 : Z 1 24 := mkZ u6 u4_a ge6_ok u7_a (by kernel_rfl)
theorem z2_1 : Z 2 1 := mkZ u6 u4_b0 ge8_ok u7_b0 (by kernel_rfl)
theorem z2_2 : Z 2 2 := mkZ u6 u4_b0 ge15_ok u7_b0 (by kernel_rfl)
theorem z2_3 : Z 2 3 := mkZ u6 u4_b0 ge8_ok u7_b0 (by kernel_rfl)
theorem z2_4 : Z 2 4 := mkZ u6 u4_b0 ge21_ok u7_b0 (by kernel_rfl)
theorem z2_5 : Z 2 5 := mkZ u6 u4_b1 ge8_ok u7_b1 (by kernel_rfl)
theorem z2_6 : Z 2 6 := mkZ u6 u4_b1 ge16_ok u7_b1 (by kernel_rfl)
theorem z2_7 : Z 2 7 := mkZ u6 u4_b1 ge9_ok u7_b1 (by kernel_rfl)
theorem z2_8 : Z 2 8 := mkZ u6 u4_b1 ge24_ok u7_b1 (by kernel_rfl)
theorem z2_9 : Z 2 9 := mkZ u6 u4_b2 ge9_ok u7_b2 (by kernel_rfl)
theorem z2_10 : Z 2 10 := mkZ u6 u4_b2 ge17_ok u7_b2 (by kernel_rfl)
theorem z2_11 : Z 2 11 := mkZ u6 u4_b2 ge10_ok u7_b2 (by kernel_rfl)
theorem z2_12 : Z 2 12 := mkZ u6 u4_b2 ge22_ok u7_b2 (by kernel_rfl)
theorem z2_13 : Z 2 13 := mkZ u6 u4_b3 ge10_ok u7_b3 (by kernel_rfl)
theorem z2_14 : Z 2 14 := mkZ u6 u4_b3 ge18_ok u7_b3 (by kernel_rfl)
theorem z2_15 : Z 2 15 := mkZ u6 u4_b3 ge11_ok u7_b3 (by kernel_rfl)
theorem z2_16 : Z 2 16 := mkZ u6 u4_b3 ge26_ok u7_b3 (by kernel_rfl)
theorem z2_17 : Z 2 17 := mkZ u6 u4_b4 ge12_ok u7_b4 (by kernel_rfl)
theorem z2_18 : Z 2 18 := mkZ u6 u4_b4 ge19_ok u7_b4 (by kernel_rfl)
theorem z2_19 : Z 2 19 := mkZ u6 u4_b4 ge12_ok u7_b4 (by kernel_rfl)
theorem z2_20 : Z 2 20 := mkZ u6 u4_b4 ge23_ok u7_b4 (by kernel_rfl)
theorem z2_21 : Z 2 21 := mkZ u6 u4_b5 ge13_ok u7_b5 (by kernel_rfl)
theorem z2_22 : Z 2 22 := mkZ u6 u4_b5 ge20_ok u7_b5 (by kernel_rfl)
theorem z2_23 : Z 2 23 := mkZ u6 u4_b5 ge14_ok u7_b5 (by kernel_rfl)
theorem z2_24 : Z 2 24 := mkZ u6 u4_b5 ge25_ok u7_b5 (by kernel_rfl)
theorem z3_1 : Z 3 1 := mkZ u6 u4_c1 ge27_ok u7_c1 (by kernel_rfl)
theorem z3_2 : Z 3 2 := mkZ u6 u4_c2 ge34_ok u7_c2 (by kernel_rfl)
theorem z3_3 : Z 3 3 := mkZ u6 u4_c3 ge27_ok u7_c3 (by kernel_rfl)
theorem z3_4 : Z 3 4 := mkZ u6 u4_c4 ge40_ok u7_c4 (by kernel_rfl)
theorem z3_5 : Z 3 5 := mkZ u6 u4_c5 ge27_ok u7_c5 (by kernel_rfl)
theorem z3_6 : Z 3 6 := mkZ u6 u4_c6 ge35_ok u7_c6 (by kernel_rfl)
theorem z3_7 : Z 3 7 := mkZ u6 u4_c7 ge28_ok u7_c7 (by kernel_rfl)
theorem z3_8 : Z 3 8 := mkZ u6 u4_c8 ge3_8_ok u7_c8 (by kernel_rfl)
theorem z3_9 : Z 3 9 := mkZ u6 u4_c9 ge28_ok u7_c9 (by kernel_rfl)
theorem z3_10 : Z 3 10 := mkZ u6 u4_c10 ge36_ok u7_c10 (by kernel_rfl)
theorem z3_11 : Z 3 11 := mkZ u6 u4_c11 ge29_ok u7_c11 (by kernel_rfl)
theorem z3_12 : Z 3 12 := mkZ u6 u4_c12 ge41_ok u7_c12 (by kernel_rfl)
theorem z3_13 : Z 3 13 := mkZ u6 u4_c13 ge29_ok u7_c13 (by kernel_rfl)
theorem z3_14 : Z 3 14 := mkZ u6 u4_c14 ge37_ok u7_c14 (by kernel_rfl)
theorem z3_15 : Z 3 15 := mkZ u6 u4_c15 ge30_ok u7_c15 (by kernel_rfl)
theorem z3_16 : Z 3 16 := mkZ u6 u4_c16 ge3_16_ok u7_c16 (by kernel_rfl)
theorem z3_17 : Z 3 17 := mkZ u6 u4_c17 ge31_ok u7_c17 (by kernel_rfl)
theorem z3_18 : Z 3 18 := mkZ u6 u4_c18 ge38_ok u7_c18 (by kernel_rfl)
theorem z3_19 : Z 3 19 := mkZ u6 u4_c19 ge31_ok u7_c19 (by kernel_rfl)
theorem z3_20 : Z 3 20 := mkZ u6 u4_c20 ge42_ok u7_c20 (by kernel_rfl)
theorem z3_21 : Z 3 21 := mkZ u6 u4_c21 ge32_ok u7_c21 (by kernel_rfl)
theorem z3_22 : Z 3 22 := mkZ u6 u4_c22 ge39_ok u7_c22 (by kernel_rfl)
theorem z3_23 : Z 3 23 := mkZ u6 u4_c23 ge33_ok u7_c23 (by kernel_rfl)
theorem z3_24 : Z 3 24 := mkZ u6 u4_c24 ge3_24_ok u7_c24 (by kernel_rfl)
end Go.Proofs.YtmmfnpbjolpfmaaGreatDoor.LB
namespace Go.Proofs.YtmmfnpbjolpfmaaGreatDoor
open Go Go.AL Go.Proofs
set_option maxRecDepth 100000
theorem all_1 : ∀ d, 1 ≤ d → d ≤ 24 → LB.Z 1 d
  | 1, _, _ => LB.z1_1
  | 2, _, _ => LB.z1_2
  | 3, _, _ => LB.z1_3
  | 4, _, _ => LB.z1_4
  | 5, _, _ => LB.z1_5
  | 6, _, _ => LB.z1_6
  | 7, _, _ => LB.z1_7
  | 8, _, _ => LB.z1_8
  | 9, _, _ => LB.z1_9
  | 10, _, _ => LB.z1_10
  | 11, _, _ => LB.z1_11
  | 12, _, _ => LB.z1_12
  | 13, _, _ => LB.z1_13
  | 14, _, _ => LB.z1_14
  | 15, _, _ => LB.z1_15
  | 16, _, _ => LB.z1_16
  | 17, _, _ => LB.z1_17
  | 18, _, _ => LB.z1_18
  | 19, _, _ => LB.z1_19
  | 20, _, _ => LB.z1_20
  | 21, _, _ => LB.z1_21
  | 22, _, _ => LB.z1_22
  | 23, _, _ => LB.z1_23
  | 24, _, _ => LB.z1_24
  | 0, h, _ => absurd h (by omega)
  | d + 25, _, h => absurd h (by omega)
theorem all_2 : ∀ d, 1 ≤ d → d ≤ 24 → LB.Z 2 d
  | 1, _, _ => LB.z2_1
  | 2, _, _ => LB.z2_2
  | 3, _, _ => LB.z2_3
  | 4, _, _ => LB.z2_4
  | 5, _, _ => LB.z2_5
  | 6, _, _ => LB.z2_6
  | 7, _, _ => LB.z2_7
  | 8, _, _ => LB.z2_8
  | 9, _, _ => LB.z2_9
  | 10, _, _ => LB.z2_10
  | 11, _, _ => LB.z2_11
  | 12, _, _ => LB.z2_12
  | 13, _, _ => LB.z2_13
  | 14, _, _ => LB.z2_14
  | 15, _, _ => LB.z2_15
  | 16, _, _ => LB.z2_16
  | 17, _, _ => LB.z2_17
  | 18, _, _ => LB.z2_18
  | 19, _, _ => LB.z2_19
  | 20, _, _ => LB.z2_20
  | 21, _, _ => LB.z2_21
  | 22, _, _ => LB.z2_22
  | 23, _, _ => LB.z2_23
  | 24, _, _ => LB.z2_24
  | 0, h, _ => absurd h (by omega)
  | d + 25, _, h => absurd h (by omega)
theorem all_3 : ∀ d, 1 ≤ d → d ≤ 24 → LB.Z 3 d
  | 1, _, _ => LB.z3_1
  | 2, _, _ => LB.z3_2
  | 3, _, _ => LB.z3_3
  | 4, _, _ => LB.z3_4
  | 5, _, _ => LB.z3_5
  | 6, _, _ => LB.z3_6
  | 7, _, _ => LB.z3_7
  | 8, _, _ => LB.z3_8
  | 9, _, _ => LB.z3_9
  | 10, _, _ => LB.z3_10
  | 11, _, _ => LB.z3_11
  | 12, _, _ => LB.z3_12
  | 13, _, _ => LB.z3_13
  | 14, _, _ => LB.z3_14
  | 15, _, _ => LB.z3_15
  | 16, _, _ => LB.z3_16
  | 17, _, _ => LB.z3_17
  | 18, _, _ => LB.z3_18
  | 19, _, _ => LB.z3_19
  | 20, _, _ => LB.z3_20
  | 21, _, _ => LB.z3_21
  | 22, _, _ => LB.z3_22
  | 23, _, _ => LB.z3_23
  | 24, _, _ => LB.z3_24
  | 0, h, _ => absurd h (by omega)
  | d + 25, _, h => absurd h (by omega)
theorem genera_ret (a b : Int) (ha : (Lit.int .u8 a).wf = true) (hb : (Lit.int .u8 b).wf = true) : Ret Tryz.prog G 3 [.int .u8 a, .int .u8 b] [] (.bool true) [] := by
  have h1 : 0 ≤ a ∧ a < 256 := by
    simp [Lit.wf, show IntKind.min .u8 = 0 from rfl, show IntKind.max .u8 = 255 from rfl] at ha
    omega
  have h2 : 0 ≤ b ∧ b < 256 := by
    simp [Lit.wf, show IntKind.min .u8 = 0 from rfl, show IntKind.max .u8 = 255 from rfl] at hb
    omega
  obtain ⟨m, rfl⟩ : ∃ n : Nat, a = n := ⟨a.toNat, by omega⟩
  obtain ⟨k, rfl⟩ : ∃ n : Nat, b = n := ⟨b.toNat, by omega⟩
  rcases (by omega : 1 + m % 3 = 1 ∨ 1 + m % 3 = 2 ∨ 1 + m % 3 = 3) with h | h | h
  · exact all_1 (1 + k % 24) (by omega) (by omega) m k (by omega) (by omega) h rfl
  · exact all_2 (1 + k % 24) (by omega) (by omega) m k (by omega) (by omega) h rfl
  · exact all_3 (1 + k % 24) (by omega) (by omega) m k (by omega) (by omega) h rfl
end Go.Proofs.YtmmfnpbjolpfmaaGreatDoor
