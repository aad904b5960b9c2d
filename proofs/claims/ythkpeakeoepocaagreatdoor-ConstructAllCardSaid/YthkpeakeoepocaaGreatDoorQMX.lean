/- Threaded code of some functions of package isometry, in the order that isometry.Find needs; the table with them. -/
import Derived.Test.YthkpeakeoepocaaGreatDoorXC
import Derived.Test.YthkpeakeoepocaaGreatDoorQAA
import Derived.Test.YthkpeakeoepocaaGreatDoorQAB
import Derived.Test.YthkpeakeoepocaaGreatDoorQAC
namespace Go.Proofs.YthkpeakeoepocaaGreatDoor.U
set_option linter.unusedSimpArgs false
set_option linter.unusedVariables false
open Go Go.AL Go.Proofs
set_option maxRecDepth 100000
noncomputable section
def q52_0 : RunT := (t_seq (t_reg (o_bin .lss (b_cmp ltI) D35 Y34 Y33 q_end)) (t_seq (t_cond Y35 t_skip (t_exit (nat_lit 0))) (t_seq (t_blk (nat_lit 1) (t_seq (t_reg (o_mov D36 Y34 (o_mov D9 Y36 q_end))) (t_dyf (f_op (fun next => o_mov D37 Y8 (next ([], []))) (f_op (fun next => o_nilck D38 Y37 (next ([], []))) (f_op (fun next => o_fld (nat_lit 6) D39 Y38 (next ([], []))) (f_op (f_load D40 Y39) (f_op (fun next => o_mov D41 Y9 (next ([], []))) (f_op (fun next => o_mov D42 Y8 (next ([], []))) (f_op (fun next => o_nilck D43 Y42 (next ([], []))) (f_op (fun next => o_fld (nat_lit 1) D44 Y43 (next ([], []))) (f_op (fun next => o_fld (nat_lit 0) D45 Y44 (next ([], []))) (f_op (f_load D46 Y45) (f_op (fun next => o_len D47 Y46 (next ([], []))) (f_op (f_slow okB (fun E => (.mksl 1 8 [(.int .u64 (.ofNat (nat_lit 0)))] (.k (g2 h15 E)) (.k (g2 h15 E)))) D48) (f_op (fun next => o_idx (nat_lit 1) D49 Y40 Y41 (next ([], []))) (f_op (f_store Y49 Y48) (f_end [(3, 9), (3, 11)])))))))))))))))))) (t_reg (o_bin .add b_add D50 Y34 K1 (o_mov D34 Y50 q_end))))))
def q52_1 : RunT := (t_seq (t_reg (o_bin .lss (b_cmp ltI) D53 Y52 Y51 q_end)) (t_seq (t_cond Y53 t_skip (t_exit (nat_lit 2))) (t_seq (t_blk (nat_lit 3) (t_seq (t_reg (o_mov D54 Y52 (o_mov D10 Y54 q_end))) (t_dyf (f_op (fun next => o_mov D55 Y8 (next ([], []))) (f_op (fun next => o_mov D56 Y8 (next ([], []))) (f_op (fun next => o_nilck D57 Y56 (next ([], []))) (f_op (fun next => o_fld (nat_lit 7) D58 Y57 (next ([], []))) (f_op (f_load D59 Y58) (f_op (fun next => o_mov D60 Y1 (next ([], []))) (f_op (fun next => o_mov D61 Y10 (next ([], []))) (f_op (fun next => o_idx (nat_lit 1) D62 Y60 Y61 (next ([], []))) (f_op (f_load D63 Y62) (f_op (fun next => o_mov D64 Y10 (next ([], []))) (f_op (fun next => o_idx (nat_lit 1) D65 Y63 Y64 (next ([], []))) (f_op (f_load D66 Y65) (f_op (fun next => o_sub okB (fun E => (.build [(.int .i64 (.ofNat (nat_lit 0))), (.int .u64 (.ofNat (nat_lit 0)))] [(0, (1, (.k (g4 h2 E))))])) D67 (next ([], []))) (f_op (f_slow okB (fun E => (.bsl 1 2 [(.int .i64 (.ofNat (nat_lit 0))), (.int .u64 (.ofNat (nat_lit 0)))] [(0, (2, (.k (g4 h3 E))))])) D68) (f_op (f_slow okB (fun E => (.append 2 16 (.k (g3 h11 E)) (.k (g4 h4 E)))) D69) (f_op (fun next => o_nilck D70 Y55 (next ([], []))) (f_op (fun next => o_fld (nat_lit 7) D71 Y70 (next ([], []))) (f_op (f_store Y71 Y69) (f_end [(4, 8), (4, 11), (4, 13), (8, 14)])))))))))))))))))))))) (t_reg (o_bin .add b_add D72 Y52 K1 (o_mov D52 Y72 q_end))))))
def t52 : RunT := (t_seq (t_reg (o_mov D6 (gk (.clo 131072 [])) q_end)) (t_seq (t_reg (o_mov D15 Y1 (o_len D16 Y15 (o_mov D7 Y16 q_end)))) (t_seq (t_dyf (f_op (fun next => o_mov D17 Y1 (next ([], []))) (f_op (fun next => o_mov D18 Y0 (next ([], []))) (f_op (fun next => o_mov D19 Y2 (next ([], []))) (f_op (f_call (nat_lit 92) D20 [Y18, Y19]) (f_op (fun next => o_mov D21 Y7 (next ([], []))) (f_op (fun next => o_bin .add b_add D22 Y21 K1 (next ([], []))) (f_op (f_slow okB (fun E => (.mksl 1 24 [(.vec [] 0 (some 0))] (.k (g1 h6 E)) (.k (g1 h6 E)))) D23) (f_op (fun next => o_mov D24 Y7 (next ([], []))) (f_op (fun next => o_bin .add b_add D25 Y24 K1 (next ([], []))) (f_op (f_slow okB (fun E => (.mksl 1 8 [(.int .u64 (.ofNat (nat_lit 0)))] (.k (g1 h9 E)) (.k (g1 h9 E)))) D26) (f_op (fun next => o_sub okB (fun E => (.build [(.vec [] 0 (some 0)), (.vec [] 0 (some 0)), (.vec [] 0 (some 0)), (.vec [] 0 (some 0)), (.vec [] 0 (some 0)), (.vec [] 0 (some 0)), (.vec [] 0 (some 0)), (.vec [] 0 (some 0)), (.vec [] 0 (some 0)), (.bool false)] [(0, (1, (.k (g1 h1 E)))), (1, (4, (.k (g1 h4 E)))), (6, (1, (.k (g1 h7 E)))), (8, (1, (.k (g1 h10 E))))])) D27 (next ([], []))) (f_op (f_box D28 Y27) (f_op (fun next => o_mov D8 Y28 (next ([], []))) (f_end [(3, 6), (3, 9), (6, 9)]))))))))))))))) (t_seq (t_seq (t_reg (o_mov D29 Y8 (o_nilck D30 Y29 (o_fld (nat_lit 6) D31 Y30 (o_load D32 Y31 (o_len D33 Y32 (o_mov D34 K0 q_end))))))) (t_blk (nat_lit 0) (t_loop q52_0))) (t_seq (t_seq (t_reg (o_mov D51 Y7 (o_mov D52 K0 q_end))) (t_blk (nat_lit 2) (t_loop q52_1))) (t_seq (t_reg (o_mov D74 Y1 (o_mov D75 Y1 (o_call .d0 .d5 .d11 D76 [Y75] (o_call .d0 .d5 .d10 D77 [Y74, Y76, (gk (.int .i64 (.ofNat (nat_lit 1000000))))] (o_mov D73 Y77 (o_ext (nat_lit 0) D78 Y73 (o_ext (nat_lit 1) D79 Y73 (o_ext (nat_lit 2) D80 Y73 (o_mov D11 Y78 (o_mov D12 Y79 (o_mov D13 Y80 q_end)))))))))))) (t_seq (t_seq (t_reg (o_mov D81 Y13 (o_bin .eql (b_cmp eqI) D82 Y81 (gk (.int .i64 (.ofNat (nat_lit 9)))) q_end))) (t_cond Y82 (t_seq (t_reg (o_mov D83 Y8 (o_mov D6 Y83 q_end))) t_ret) t_skip)) (t_seq (t_seq (t_reg (o_mov D84 Y13 (o_bin .neq (b_cmp neI) D85 Y84 K0 (o_mov D86 Y85 (o_grd Y86 false D87 (o_mov D87 Y11) (o_grd Y86 false D88 (o_len D88 Y87) (o_grd Y86 false D89 (o_mov D89 Y2) (o_grd Y86 false D90 (o_len D90 Y89) (o_grd Y86 false D91 (o_bin .neq (b_cmp neI) D91 Y88 Y90) (o_pick D92 Y86 (gk (.bool true)) Y91 q_end)))))))))) (t_cond Y92 (t_seq (t_reg (o_mov D6 (gk (.clo 131072 [])) q_end)) t_ret) t_skip)) (t_seq (t_reg (o_mov D93 Y8 (o_nilck D94 Y93 (o_fld (nat_lit 9) D95 Y94 (o_store Y95 (gk (.bool true)) q_end))))) (t_seq (t_reg (o_mov D96 Y8 (o_nilck D97 Y96 (o_fld (nat_lit 1) D98 Y97 (o_call .d0 .d5 .d13 D99 [Y98] q_end))))) (t_seq (t_reg (o_mov D100 Y8 (o_nilck D101 Y100 (o_fld (nat_lit 6) D102 Y101 (o_load D103 Y102 (o_idx (nat_lit 1) D104 Y103 K0 (o_load D105 Y104 (o_mov D106 Y8 (o_nilck D107 Y106 (o_fld (nat_lit 1) D108 Y107 (o_fld (nat_lit 3) D109 Y108 (o_load D110 Y109 (o_sub okB (fun E => (.copy 1 (.k (g6 h9 E)) (.k (g6 h14 E)))) D111 q_end))))))))))))) (t_seq (t_reg (o_mov D112 Y1 (o_mov D113 Y11 (o_call .d0 .d5 .d12 D114 [Y112, Y113] (o_box D14 (gk (.agg [(.vec [] 0 (some 0)), (.vec [] 0 (some 0)), (.vec [] 0 (some 0)), (.vec [] 0 (some 0))])) (o_storea (nat_lit 4) Y14 Y114 q_end)))))) (t_seq (t_reg (o_call .d0 .d5 .d13 D115 [Y14] q_end)) (t_seq (t_reg (o_mov D116 Y8 (o_loada (nat_lit 4) D117 Y14 (o_call .d0 .d5 .d14 D118 [Y116, Y117] q_end)))) (t_seq (t_seq (t_dyf (f_op (fun next => o_mov D119 Y8 (next ([], []))) (f_op (fun next => o_nilck D120 Y119 (next ([], []))) (f_op (fun next => o_fld (nat_lit 6) D121 Y120 (next ([], []))) (f_op (f_load D122 Y121) (f_op (fun next => o_idx (nat_lit 1) D123 Y122 K0 (next ([], []))) (f_op (f_load D124 Y123) (f_op (f_call (nat_lit 95) D125 [Y124]) (f_op (fun next => o_mov D126 Y8 (next ([], []))) (f_op (fun next => o_nilck D127 Y126 (next ([], []))) (f_op (fun next => o_fld (nat_lit 8) D128 Y127 (next ([], []))) (f_op (f_load D129 Y128) (f_op (fun next => o_idx (nat_lit 1) D130 Y129 K0 (next ([], []))) (f_op (f_load D131 Y130) (f_op (fun next => o_bin .neq (b_cmp neI) D132 Y125 Y131 (next ([], []))) (f_end [(3, 10), (5, 10), (6, 10), (3, 12), (5, 12), (6, 12)])))))))))))))))) (t_cond Y132 (t_seq (t_reg (o_mov D6 (gk (.clo 131072 [])) q_end)) t_ret) t_skip)) (t_seq (t_reg (o_mov D133 Y8 (o_mov D6 Y133 q_end))) t_ret))))))))))))))))
def e52 : Ent := .code t52 134 [(.t Y6)] true
theorem k52 : EOT Tryz.prog G okB 52 e52 := eotA false Tryz.func52
def q54_0 : RunT := (t_seq (t_seq (t_reg (o_mov D30 Y4 (o_mov D31 Y5 (o_idx (nat_lit 1) D32 Y30 Y31 (o_load D33 Y32 (o_mov D34 Y0 (o_nilck D35 Y34 (o_fld (nat_lit 1) D36 Y35 (o_fld (nat_lit 0) D37 Y36 (o_load D38 Y37 (o_len D39 Y38 (o_bin .lss (b_cmp ltI) D40 Y33 Y39 q_end)))))))))))) (t_cond Y40 t_skip (t_exit (nat_lit 2)))) (t_blk (nat_lit 3) (t_seq (t_reg (o_mov D41 Y4 (o_mov D42 Y5 (o_idx (nat_lit 1) D43 Y41 Y42 (o_load D44 Y43 (o_bin .add b_add D45 Y44 K1 (o_idx (nat_lit 1) D46 Y41 Y42 (o_store Y46 Y45 q_end)))))))) (t_seq (t_reg (o_mov D47 Y0 (o_mov D48 Y4 (o_mov D49 Y5 (o_idx (nat_lit 1) D50 Y48 Y49 (o_load D51 Y50 (o_bin .sub b_sub D52 Y51 K1 (o_call .d0 .d6 .d2 D53 [Y47, Y52] q_end)))))))) (t_cond Y53 (t_seq (t_reg (o_mov D54 Y4 (o_mov D55 Y5 (o_bin .add b_add D56 Y55 K1 (o_idx (nat_lit 1) D57 Y54 Y56 (o_store Y57 K0 q_end)))))) (t_exit (nat_lit 1))) t_skip)))))
def q54_1 : RunT := (t_blk (nat_lit 1) (t_seq (t_reg (o_mov D18 Y0 (o_nilck D19 Y18 (o_fld (nat_lit 5) D20 Y19 (o_load D21 Y20 (o_len D22 Y21 (o_mov D5 Y22 q_end))))))) (t_seq (t_seq (t_reg (o_mov D23 Y5 (o_mov D24 Y0 (o_nilck D25 Y24 (o_fld (nat_lit 0) D26 Y25 (o_load D27 Y26 (o_len D28 Y27 (o_bin .eql (b_cmp eqI) D29 Y23 Y28 q_end)))))))) (t_cond Y29 (t_seq (t_reg (o_mov D2 (gk (.bool true)) q_end)) t_ret) t_skip)) (t_seq (t_blk (nat_lit 2) (t_loop q54_0)) (t_seq (t_seq (t_reg (o_mov D58 Y5 (o_mov D59 Y3 (o_bin .eql (b_cmp eqI) D60 Y58 Y59 q_end)))) (t_cond Y60 (t_seq (t_reg (o_mov D2 (gk (.bool false)) q_end)) t_ret) t_skip)) (t_reg (o_mov D61 Y0 (o_mov D62 Y0 (o_nilck D63 Y62 (o_fld (nat_lit 5) D64 Y63 (o_load D65 Y64 (o_mov D66 Y5 (o_bin .sub b_sub D67 Y66 K1 (o_sub okB (fun E => (.slice 1 (.k (g4 h1 E)) none (some (.k (g4 h3 E))) none)) D68 (o_nilck D69 Y61 (o_fld (nat_lit 5) D70 Y69 (o_store Y70 Y68 q_end)))))))))))))))))
def t54 : RunT := (t_seq (t_reg (o_mov D2 (gk (.bool false)) q_end)) (t_scope (t_seq (t_reg (o_mov D6 Y0 (o_nilck D7 Y6 (o_fld (nat_lit 5) D8 Y7 (o_load D9 Y8 (o_len D10 Y9 (o_mov D3 Y10 q_end))))))) (t_seq (t_reg (o_mov D11 Y0 (o_nilck D12 Y11 (o_fld (nat_lit 0) D13 Y12 (o_load D14 Y13 (o_len D15 Y14 (o_bin .add b_add D16 Y15 K1 (o_mksl (nat_lit 1) (nat_lit 8) [(.int .i64 (.ofNat (nat_lit 0)))] D17 Y16 Y16 (o_mov D4 Y17 q_end))))))))) (t_seq t_skip (t_blk (nat_lit 0) (t_loop q54_1)))))))
def e54 : Ent := .code t54 71 [(.t Y2)] true
theorem k54 : EOT Tryz.prog G okB 54 e54 := eotA true Tryz.func54
def q92_0 : RunT := (t_seq (t_reg (o_bin .lss (b_cmp ltI) D28 Y27 Y26 q_end)) (t_seq (t_cond Y28 t_skip (t_exit (nat_lit 2))) (t_seq (t_blk (nat_lit 3) (t_seq (t_reg (o_mov D29 Y27 (o_idx (nat_lit 1) D30 Y25 Y27 (o_load D31 Y30 (o_mov D9 Y29 (o_mov D10 Y31 q_end)))))) (t_reg (o_mov D32 Y8 (o_mov D33 Y9 (o_mov D34 Y10 (o_un .neg D35 Y34 (o_idx (nat_lit 1) D36 Y32 Y33 (o_store Y36 Y35 q_end))))))))) (t_reg (o_bin .add b_add D37 Y27 K1 (o_mov D27 Y37 q_end))))))
def q92_1 : RunT := (t_seq (t_reg (o_bin .lss (b_cmp ltI) D19 Y18 Y17 q_end)) (t_seq (t_cond Y19 t_skip (t_exit (nat_lit 0))) (t_seq (t_blk (nat_lit 1) (t_seq (t_reg (o_idx (nat_lit 1) D20 Y16 Y18 (o_load D21 Y20 (o_mov D7 Y21 q_end)))) (t_seq (t_reg (o_mov D22 Y7 (o_len D23 Y22 (o_mksl (nat_lit 1) (nat_lit 8) [(.int .i64 (.ofNat (nat_lit 0)))] D24 Y23 Y23 (o_mov D8 Y24 q_end))))) (t_seq (t_seq (t_reg (o_mov D25 Y7 (o_len D26 Y25 (o_mov D27 K0 q_end)))) (t_blk (nat_lit 2) (t_loop q92_0))) (t_reg (o_fld (nat_lit 0) D38 Y5 (o_load D39 Y38 (o_mov D40 Y7 (o_mov D41 Y8 (o_sub okB (fun E => (.bsl 2 1 [(.vec [] 0 (some 0)), (.vec [] 0 (some 0))] [(0, (1, (.k (g2 h8 E)))), (1, (1, (.k (g2 h9 E))))])) D42 (o_sub okB (fun E => (.append 1 24 (.k (g2 h7 E)) (.k (g2 h10 E)))) D43 (o_fld (nat_lit 0) D44 Y5 (o_store Y44 Y43 q_end))))))))))))) (t_reg (o_bin .add b_add D45 Y18 K1 (o_mov D18 Y45 q_end))))))
def q92_2 : RunT := (t_seq (t_reg (o_bin .lss (b_cmp ltI) D62 Y61 Y60 q_end)) (t_seq (t_cond Y62 t_skip (t_exit (nat_lit 6))) (t_seq (t_blk (nat_lit 7) (t_seq (t_reg (o_mov D63 Y61 (o_idx (nat_lit 1) D64 Y59 Y61 (o_load D65 Y64 (o_mov D14 Y63 (o_mov D15 Y65 q_end)))))) (t_reg (o_mov D66 Y13 (o_mov D67 Y14 (o_mov D68 Y15 (o_mov D69 Y12 (o_call .d0 .d8 .d7 D70 [Y68, Y69] (o_idx (nat_lit 1) D71 Y66 Y67 (o_store Y71 Y70 q_end)))))))))) (t_reg (o_bin .add b_add D72 Y61 K1 (o_mov D61 Y72 q_end))))))
def q92_3 : RunT := (t_seq (t_reg (o_bin .lss (b_cmp ltI) D53 Y52 Y51 q_end)) (t_seq (t_cond Y53 t_skip (t_exit (nat_lit 4))) (t_seq (t_blk (nat_lit 5) (t_seq (t_reg (o_idx (nat_lit 1) D54 Y50 Y52 (o_load D55 Y54 (o_mov D12 Y55 q_end)))) (t_seq (t_reg (o_mov D56 Y0 (o_len D57 Y56 (o_mksl (nat_lit 1) (nat_lit 8) [(.int .i64 (.ofNat (nat_lit 0)))] D58 Y57 Y57 (o_mov D13 Y58 q_end))))) (t_seq (t_seq (t_reg (o_mov D59 Y0 (o_len D60 Y59 (o_mov D61 K0 q_end)))) (t_blk (nat_lit 6) (t_loop q92_2))) (t_seq (t_reg (o_fld (nat_lit 1) D73 Y5 (o_load D74 Y73 (o_mov D75 Y13 (o_sub okB (fun E => (.bsl 1 1 [(.vec [] 0 (some 0))] [(0, (1, (.k (g4 h11 E))))])) D76 (o_sub okB (fun E => (.append 1 24 (.k (g4 h10 E)) (.k (g4 h12 E)))) D77 (o_fld (nat_lit 1) D78 Y5 (o_store Y78 Y77 q_end)))))))) (t_dyf (f_op (fun next => o_fld (nat_lit 2) D79 Y5 (next ([], []))) (f_op (f_load D80 Y79) (f_op (fun next => o_mov D81 Y13 (next ([], []))) (f_op (fun next => o_mov D82 Y12 (next ([], []))) (f_op (f_call (nat_lit 135) D83 [Y81, Y82]) (f_op (f_slow okB (fun E => (.bsl 1 1 [(.int .i64 (.ofNat (nat_lit 0)))] [(0, (1, (.k (g5 h3 E))))])) D84) (f_op (f_slow okB (fun E => (.append 1 8 (.k (g5 h0 E)) (.k (g5 h4 E)))) D85) (f_op (fun next => o_fld (nat_lit 2) D86 Y5 (next ([], []))) (f_op (f_store Y86 Y85) (f_end [(1, 4), (1, 5)])))))))))))))))) (t_reg (o_bin .add b_add D87 Y52 K1 (o_mov D52 Y87 q_end))))))
def t92 : RunT := (t_seq (t_reg (o_box D4 (gk (.agg [(.vec [] 0 (some 0)), (.vec [] 0 (some 0)), (.vec [] 0 (some 0)), (.vec [] 0 (some 0))])) q_end)) (t_seq (t_reg (o_box D5 (gk (.agg [(.vec [] 0 (some 0)), (.vec [] 0 (some 0)), (.vec [] 0 (some 0)), (.vec [] 0 (some 0))])) q_end)) (t_seq (t_seq (t_reg (o_mov D16 Y1 (o_len D17 Y16 (o_mov D18 K0 q_end)))) (t_blk (nat_lit 0) (t_loop q92_1))) (t_seq (t_reg (o_fld (nat_lit 0) D46 Y5 (o_load D47 Y46 (o_call .d0 .d8 .d6 D48 [Y47, (gk (.clo 97 []))] q_end)))) (t_seq (t_seq (t_reg (o_fld (nat_lit 0) D49 Y5 (o_load D50 Y49 (o_len D51 Y50 (o_mov D52 K0 q_end))))) (t_blk (nat_lit 4) (t_loop q92_3))) (t_seq (t_reg (o_loada (nat_lit 4) D88 Y5 (o_storea (nat_lit 4) Y4 Y88 q_end))) t_ret))))))
def e92 : Ent := .code t92 89 [(.c Y4 true (nat_lit 4))] false
theorem k92 : EOT Tryz.prog G okB 92 e92 := eotA false Tryz.func92
def q93_0 : RunT := (t_seq (t_reg (o_bin .lss (b_cmp ltI) D24 Y23 Y22 q_end)) (t_seq (t_cond Y24 t_skip (t_exit (nat_lit 0))) (t_seq (t_blk (nat_lit 1) (t_seq (t_reg (o_mov D25 Y23 (o_idx (nat_lit 1) D26 Y21 Y23 (o_load D27 Y26 (o_mov D2 Y25 (o_mov D3 Y27 q_end)))))) (t_reg (o_mov D28 Y0 (o_nilck D29 Y28 (o_fld (nat_lit 3) D30 Y29 (o_load D31 Y30 (o_mov D32 Y2 (o_mov D33 Y3 (o_conv .u64 D34 Y33 (o_callP .d0 .d8 .d8 D35 [Y34] (o_idx (nat_lit 1) D36 Y31 Y32 (o_store Y36 Y35 q_end))))))))))))) (t_reg (o_bin .add b_add D37 Y23 K1 (o_mov D23 Y37 q_end))))))
def q93_1 : RunT := (t_seq (t_reg (o_bin .lss (b_cmp ltI) D69 Y68 Y67 q_end)) (t_seq (t_cond Y69 t_skip (t_exit (nat_lit 6))) (t_seq (t_blk (nat_lit 7) (t_seq (t_reg (o_mov D70 Y68 (o_mov D7 Y70 q_end))) (t_seq (t_reg (o_mov D71 Y0 (o_nilck D72 Y71 (o_fld (nat_lit 1) D73 Y72 (o_load D74 Y73 (o_mov D75 Y6 (o_idx (nat_lit 1) D76 Y74 Y75 (o_load D77 Y76 (o_mov D78 Y0 (o_nilck D79 Y78 (o_fld (nat_lit 0) D80 Y79 (o_load D81 Y80 (o_mov D82 Y7 (o_idx (nat_lit 1) D83 Y81 Y82 (o_load D84 Y83 (o_call .d0 .d8 .d7 D85 [Y77, Y84] (o_mov D8 Y85 q_end))))))))))))))))) (t_reg (o_mov D86 Y5 (o_mov D87 Y6 (o_idx (nat_lit 1) D88 Y86 Y87 (o_load D89 Y88 (o_mov D90 Y0 (o_nilck D91 Y90 (o_fld (nat_lit 3) D92 Y91 (o_load D93 Y92 (o_mov D94 Y7 (o_idx (nat_lit 1) D95 Y93 Y94 (o_load D96 Y95 (o_mov D97 Y8 (o_mov D98 Y8 (o_un .neg D99 Y98 (o_sub okB (fun E => (.max (.k (g6 h1 E)) (.k (g6 h3 E)))) D100 (o_callP .d0 .d8 .d9 D101 [Y96, Y100] (o_bin .add b_add D102 Y89 Y101 (o_idx (nat_lit 1) D103 Y86 Y87 (o_store Y103 Y102 q_end))))))))))))))))))))))) (t_reg (o_bin .add b_add D104 Y68 K1 (o_mov D68 Y104 q_end))))))
def q93_2 : RunT := (t_seq (t_reg (o_bin .lss (b_cmp ltI) D54 Y53 Y52 q_end)) (t_seq (t_cond Y54 t_skip (t_exit (nat_lit 4))) (t_seq (t_blk (nat_lit 5) (t_seq (t_reg (o_mov D55 Y53 (o_mov D6 Y55 q_end))) (t_seq (t_reg (o_mov D56 Y5 (o_mov D57 Y6 (o_mov D58 Y0 (o_nilck D59 Y58 (o_fld (nat_lit 3) D60 Y59 (o_load D61 Y60 (o_mov D62 Y6 (o_idx (nat_lit 1) D63 Y61 Y62 (o_load D64 Y63 (o_call .d0 .d8 .d8 D65 [Y64] (o_idx (nat_lit 1) D66 Y56 Y57 (o_store Y66 Y65 q_end))))))))))))) (t_seq (t_seq (t_reg (o_mov D67 Y4 (o_mov D68 K0 q_end))) (t_blk (nat_lit 6) (t_loop q93_1))) (t_reg (o_mov D105 Y5 (o_mov D106 Y5 (o_len D107 Y106 (o_bin .sub b_sub D108 Y107 K1 (o_mov D109 Y6 (o_bin .sub b_sub D110 Y108 Y109 (o_mov D111 Y5 (o_mov D112 Y6 (o_idx (nat_lit 1) D113 Y111 Y112 (o_load D114 Y113 (o_idx (nat_lit 1) D115 Y105 Y110 (o_store Y115 Y114 q_end))))))))))))))))) (t_reg (o_bin .add b_add D116 Y53 K1 (o_mov D53 Y116 q_end))))))
def q93_3 : RunT := (t_seq (t_reg (o_bin .lss (b_cmp ltI) D45 Y44 K2 q_end)) (t_seq (t_cond Y45 t_skip (t_exit (nat_lit 2))) (t_seq (t_blk (nat_lit 3) (t_seq (t_reg (o_mov D46 Y0 (o_nilck D47 Y46 (o_fld (nat_lit 0) D48 Y47 (o_load D49 Y48 (o_len D50 Y49 (o_mksl (nat_lit 1) (nat_lit 8) [(.int .u64 (.ofNat (nat_lit 0)))] D51 Y50 Y50 (o_mov D5 Y51 q_end)))))))) (t_seq (t_seq (t_reg (o_mov D52 Y4 (o_mov D53 K0 q_end))) (t_blk (nat_lit 4) (t_loop q93_2))) (t_reg (o_mov D117 Y0 (o_mov D118 Y5 (o_nilck D119 Y117 (o_fld (nat_lit 3) D120 Y119 (o_store Y120 Y118 q_end))))))))) (t_reg (o_bin .add b_add D121 Y44 K1 (o_mov D44 Y121 q_end))))))
def t93 : RunT := (t_seq (t_reg (o_mov D9 Y0 (o_mov D10 Y0 (o_nilck D11 Y10 (o_fld (nat_lit 0) D12 Y11 (o_load D13 Y12 (o_len D14 Y13 (o_mksl (nat_lit 1) (nat_lit 8) [(.int .u64 (.ofNat (nat_lit 0)))] D15 Y14 Y14 (o_nilck D16 Y9 (o_fld (nat_lit 3) D17 Y16 (o_store Y17 Y15 q_end))))))))))) (t_seq (t_seq (t_reg (o_mov D18 Y0 (o_nilck D19 Y18 (o_fld (nat_lit 2) D20 Y19 (o_load D21 Y20 (o_len D22 Y21 (o_mov D23 K0 q_end))))))) (t_blk (nat_lit 0) (t_loop q93_0))) (t_seq (t_reg (o_mov D38 Y0 (o_nilck D39 Y38 (o_fld (nat_lit 0) D40 Y39 (o_load D41 Y40 (o_len D42 Y41 (o_bin .quo b_quo D43 Y42 K2 (o_mov D4 Y43 q_end)))))))) (t_seq (t_reg (o_mov D44 K0 q_end)) (t_blk (nat_lit 2) (t_loop q93_3))))))
def e93 : Ent := .code t93 122 [] true
theorem k93 : EOT Tryz.prog G okB 93 e93 := eotA true Tryz.func93
def q94_0 : RunT := (t_seq (t_reg (o_bin .lss (b_cmp ltI) D24 Y23 Y22 q_end)) (t_seq (t_cond Y24 t_skip (t_exit (nat_lit 0))) (t_seq (t_blk (nat_lit 1) (t_seq (t_reg (o_mov D25 Y23 (o_mov D5 Y25 q_end))) (t_seq (t_dyf (f_op (fun next => o_fld (nat_lit 0) D27 Y3 (next ([], []))) (f_op (f_load D28 Y27) (f_op (fun next => o_mov D29 Y0 (next ([], []))) (f_op (fun next => o_nilck D30 Y29 (next ([], []))) (f_op (fun next => o_fld (nat_lit 7) D31 Y30 (next ([], []))) (f_op (f_load D32 Y31) (f_op (fun next => o_len D33 Y32 (next ([], []))) (f_op (fun next => o_mov D34 Y5 (next ([], []))) (f_op (f_call (nat_lit 138) D35 [Y33, Y34]) (f_op (f_call (nat_lit 96) D36 [Y28, Y35, (gk (.clo 97 []))]) (f_op (fun next => o_mov D26 Y36 (next ([], []))) (f_op (fun next => o_ext (nat_lit 0) D37 Y26 (next ([], []))) (f_op (fun next => o_ext (nat_lit 1) D38 Y26 (next ([], []))) (f_op (fun next => o_mov D6 Y37 (next ([], []))) (f_op (fun next => o_mov D7 Y38 (next ([], []))) (f_end [(1, 5), (1, 8)]))))))))))))))))) (t_seq (t_reg (o_mov D39 Y0 (o_nilck D40 Y39 (o_fld (nat_lit 7) D41 Y40 (o_load D42 Y41 (o_mov D43 Y5 (o_mov D44 Y4 (o_mov D45 Y6 (o_idx (nat_lit 1) D46 Y44 Y45 (o_load D47 Y46 (o_idx (nat_lit 2) D48 Y42 Y43 (o_fld (nat_lit 1) D49 Y48 (o_store Y49 Y47 q_end))))))))))))) (t_seq (t_reg (o_mov D50 Y4 (o_len D51 Y50 (o_mksl (nat_lit 1) (nat_lit 8) [(.int .u64 (.ofNat (nat_lit 0)))] D52 Y51 Y51 (o_mov D8 Y52 q_end))))) (t_seq (t_dyf (f_op (fun next => o_mov D53 Y0 (next ([], []))) (f_op (fun next => o_nilck D54 Y53 (next ([], []))) (f_op (fun next => o_fld (nat_lit 8) D55 Y54 (next ([], []))) (f_op (f_load D56 Y55) (f_op (fun next => o_mov D57 Y5 (next ([], []))) (f_op (fun next => o_bin .add b_add D58 Y57 K1 (next ([], []))) (f_op (fun next => o_mov D59 Y4 (next ([], []))) (f_op (fun next => o_mov D60 Y6 (next ([], []))) (f_op (fun next => o_mov D61 Y8 (next ([], []))) (f_op (f_call (nat_lit 139) D62 [Y3, Y59, Y60, Y61]) (f_op (fun next => o_idx (nat_lit 1) D63 Y56 Y58 (next ([], []))) (f_op (f_store Y63 Y62) (f_end [(3, 9)])))))))))))))) (t_reg (o_mov D64 Y8 (o_mov D4 Y64 q_end))))))))) (t_reg (o_bin .add b_add D65 Y23 K1 (o_mov D23 Y65 q_end))))))
def t94 : RunT := (t_seq (t_reg (o_box D3 Y1 q_end)) (t_seq (t_reg (o_fld (nat_lit 3) D9 Y3 (o_load D10 Y9 (o_mov D4 Y10 q_end)))) (t_seq (t_dyf (f_op (fun next => o_mov D11 Y0 (next ([], []))) (f_op (fun next => o_nilck D12 Y11 (next ([], []))) (f_op (fun next => o_fld (nat_lit 8) D13 Y12 (next ([], []))) (f_op (f_load D14 Y13) (f_op (fun next => o_mov D15 Y4 (next ([], []))) (f_op (f_call (nat_lit 95) D16 [Y15]) (f_op (fun next => o_idx (nat_lit 1) D17 Y14 K0 (next ([], []))) (f_op (f_store Y17 Y16) (f_end [(3, 5)])))))))))) (t_seq (t_reg (o_mov D18 Y0 (o_nilck D19 Y18 (o_fld (nat_lit 7) D20 Y19 (o_load D21 Y20 (o_len D22 Y21 (o_mov D23 K0 q_end))))))) (t_blk (nat_lit 0) (t_loop q94_0))))))
def e94 : Ent := .code t94 66 [] false
theorem k94 : EOT Tryz.prog G okB 94 e94 := eotA false Tryz.func94
def q98_0 : RunT := (t_seq (t_reg (o_bin .lss (b_cmp ltI) D46 Y45 Y44 q_end)) (t_seq (t_cond Y46 t_skip (t_exit (nat_lit 0))) (t_seq (t_blk (nat_lit 1) (t_seq (t_reg (o_mov D47 Y45 (o_idx (nat_lit 1) D48 Y43 Y45 (o_load D49 Y48 (o_mov D6 Y47 (o_mov D7 Y49 q_end)))))) (t_seq (t_dyf (f_op (fun next => o_mov D50 Y0 (next ([], []))) (f_op (fun next => o_nilck D51 Y50 (next ([], []))) (f_op (fun next => o_fld (nat_lit 1) D52 Y51 (next ([], []))) (f_op (fun next => o_fld (nat_lit 1) D53 Y52 (next ([], []))) (f_op (f_load D54 Y53) (f_op (fun next => o_mov D55 Y7 (next ([], []))) (f_op (fun next => o_idx (nat_lit 1) D56 Y54 Y55 (next ([], []))) (f_op (f_load D57 Y56) (f_op (fun next => o_mov D58 Y0 (next ([], []))) (f_op (fun next => o_nilck D59 Y58 (next ([], []))) (f_op (fun next => o_fld (nat_lit 1) D60 Y59 (next ([], []))) (f_op (fun next => o_fld (nat_lit 0) D61 Y60 (next ([], []))) (f_op (f_load D62 Y61) (f_op (fun next => o_mov D63 Y1 (next ([], []))) (f_op (fun next => o_idx (nat_lit 1) D64 Y62 Y63 (next ([], []))) (f_op (f_load D65 Y64) (f_op (f_call (nat_lit 135) D66 [Y57, Y65]) (f_op (fun next => o_mov D67 Y0 (next ([], []))) (f_op (fun next => o_nilck D68 Y67 (next ([], []))) (f_op (fun next => o_fld (nat_lit 0) D69 Y68 (next ([], []))) (f_op (f_load D70 Y69) (f_op (fun next => o_mov D71 Y6 (next ([], []))) (f_op (fun next => o_idx (nat_lit 1) D72 Y70 Y71 (next ([], []))) (f_op (f_load D73 Y72) (f_op (fun next => o_mov D74 Y5 (next ([], []))) (f_op (fun next => o_idx (nat_lit 1) D75 Y73 Y74 (next ([], []))) (f_op (f_load D76 Y75) (f_op (fun next => o_bin .neq (b_cmp neI) D77 Y66 Y76 (next ([], []))) (f_end [(4, 12), (7, 12), (4, 15), (7, 15), (4, 20), (7, 20), (12, 20), (15, 20), (16, 20), (4, 23), (7, 23), (12, 23), (15, 23), (16, 23), (4, 26), (7, 26), (12, 26), (15, 26), (16, 26)])))))))))))))))))))))))))))))) (t_cond Y77 (t_seq (t_reg (o_mov D4 (gk (.bool false)) q_end)) t_ret) t_skip)))) (t_reg (o_bin .add b_add D78 Y45 K1 (o_mov D45 Y78 q_end))))))
def t98 : RunT := (t_seq (t_reg (o_mov D4 (gk (.bool false)) q_end)) (t_seq (t_reg (o_mov D8 Y0 (o_nilck D9 Y8 (o_fld (nat_lit 5) D10 Y9 (o_load D11 Y10 (o_len D12 Y11 (o_mov D5 Y12 q_end))))))) (t_seq (t_seq (t_reg (o_mov D13 Y0 (o_nilck D14 Y13 (o_fld (nat_lit 1) D15 Y14 (o_fld (nat_lit 2) D16 Y15 (o_load D17 Y16 (o_mov D18 Y1 (o_idx (nat_lit 1) D19 Y17 Y18 (o_load D20 Y19 (o_mov D21 Y0 (o_nilck D22 Y21 (o_fld (nat_lit 6) D23 Y22 (o_load D24 Y23 (o_mov D25 Y5 (o_idx (nat_lit 1) D26 Y24 Y25 (o_load D27 Y26 (o_mov D28 Y1 (o_idx (nat_lit 1) D29 Y27 Y28 (o_load D30 Y29 (o_sub okB (fun E => (.build [(.int .i64 (.ofNat (nat_lit 0))), (.int .u64 (.ofNat (nat_lit 0)))] [(0, (1, (.k (g1 h4 E)))), (1, (1, (.k (g1 h14 E))))])) D31 (o_mov D32 Y0 (o_nilck D33 Y32 (o_fld (nat_lit 7) D34 Y33 (o_load D35 Y34 (o_mov D36 Y5 (o_idx (nat_lit 2) D37 Y35 Y36 (o_loada (nat_lit 2) D38 Y37 (o_sub okB (fun E => (.aeq true [.i64, .u64] (.k (g1 h15 E)) (.k (g2 h6 E)))) D39 q_end)))))))))))))))))))))))))))) (t_cond Y39 (t_seq (t_reg (o_mov D4 (gk (.bool false)) q_end)) t_ret) t_skip)) (t_seq (t_seq (t_reg (o_mov D40 Y0 (o_nilck D41 Y40 (o_fld (nat_lit 5) D42 Y41 (o_load D43 Y42 (o_len D44 Y43 (o_mov D45 K0 q_end))))))) (t_blk (nat_lit 0) (t_loop q98_0))) (t_seq (t_seq (t_dyf (f_op (fun next => o_mov D79 Y0 (next ([], []))) (f_op (fun next => o_nilck D80 Y79 (next ([], []))) (f_op (fun next => o_fld (nat_lit 9) D81 Y80 (next ([], []))) (f_op (f_load D82 Y81) (f_op (fun next => o_mov D83 Y82 (next ([], []))) (f_op (f_grd Y83 true D84 (fun next => o_mov D84 Y0 (next ([], [])))) (f_op (f_grd Y83 true D85 (fun next => o_nilck D85 Y84 (next ([], [])))) (f_op (f_grd Y83 true D86 (fun next => o_fld (nat_lit 1) D86 Y85 (next ([], [])))) (f_op (f_grd Y83 true D87 (fun next => o_mov D87 Y0 (next ([], [])))) (f_op (f_grd Y83 true D88 (fun next => o_nilck D88 Y87 (next ([], [])))) (f_op (f_grd Y83 true D89 (fun next => o_fld (nat_lit 6) D89 Y88 (next ([], [])))) (f_op (f_grd Y83 true D90 (f_load D90 Y89)) (f_op (f_grd Y83 true D91 (fun next => o_mov D91 Y5 (next ([], [])))) (f_op (f_grd Y83 true D92 (fun next => o_idx (nat_lit 1) D92 Y90 Y91 (next ([], [])))) (f_op (f_grd Y83 true D93 (f_load D93 Y92)) (f_op (f_grd Y83 true D94 (fun next => o_mov D94 Y1 (next ([], [])))) (f_op (f_grd Y83 true D95 (fun next => o_mov D95 Y0 (next ([], [])))) (f_op (f_grd Y83 true D96 (fun next => o_nilck D96 Y95 (next ([], [])))) (f_op (f_grd Y83 true D97 (fun next => o_fld (nat_lit 6) D97 Y96 (next ([], [])))) (f_op (f_grd Y83 true D98 (f_load D98 Y97)) (f_op (f_grd Y83 true D99 (fun next => o_mov D99 Y5 (next ([], [])))) (f_op (f_grd Y83 true D100 (fun next => o_bin .add b_add D100 Y99 K1 (next ([], [])))) (f_op (f_grd Y83 true D101 (fun next => o_idx (nat_lit 1) D101 Y98 Y100 (next ([], [])))) (f_op (f_grd Y83 true D102 (f_load D102 Y101)) (f_op (f_grd Y83 true D103 (f_call (nat_lit 139) D103 [Y86, Y93, Y94, Y102])) (f_op (f_grd Y83 true D104 (fun next => o_mov D104 Y0 (next ([], [])))) (f_op (f_grd Y83 true D105 (fun next => o_nilck D105 Y104 (next ([], [])))) (f_op (f_grd Y83 true D106 (fun next => o_fld (nat_lit 8) D106 Y105 (next ([], [])))) (f_op (f_grd Y83 true D107 (f_load D107 Y106)) (f_op (f_grd Y83 true D108 (fun next => o_mov D108 Y5 (next ([], [])))) (f_op (f_grd Y83 true D109 (fun next => o_bin .add b_add D109 Y108 K1 (next ([], [])))) (f_op (f_grd Y83 true D110 (fun next => o_idx (nat_lit 1) D110 Y107 Y109 (next ([], [])))) (f_op (f_grd Y83 true D111 (f_load D111 Y110)) (f_op (f_grd Y83 true D112 (fun next => o_bin .neq (b_cmp neI) D112 Y103 Y111 (next ([], [])))) (f_op (fun next => o_pick D113 Y83 Y112 (gk (.bool false)) (next ([], []))) (f_end [(11, 19), (14, 19), (11, 23), (14, 23), (11, 28), (14, 28), (19, 28), (23, 28), (24, 28), (11, 32), (14, 32), (19, 32), (23, 32), (24, 32)]))))))))))))))))))))))))))))))))))))) (t_cond Y113 (t_seq (t_reg (o_mov D4 (gk (.bool false)) q_end)) t_ret) t_skip)) (t_seq (t_reg (o_mov D114 Y0 (o_mov D115 Y0 (o_nilck D116 Y115 (o_fld (nat_lit 5) D117 Y116 (o_load D118 Y117 (o_mov D119 Y1 (o_sub okB (fun E => (.bsl 1 1 [(.int .i64 (.ofNat (nat_lit 0)))] [(0, (1, (.k (g7 h7 E))))])) D120 (o_sub okB (fun E => (.append 1 8 (.k (g7 h6 E)) (.k (g7 h8 E)))) D121 (o_nilck D122 Y114 (o_fld (nat_lit 5) D123 Y122 (o_store Y123 Y121 q_end)))))))))))) (t_seq (t_reg (o_mov D4 (gk (.bool true)) q_end)) t_ret)))))))
def e98 : Ent := .code t98 124 [(.t Y4)] true
theorem k98 : EOT Tryz.prog G okB 98 e98 := eotA false Tryz.func98
end
end Go.Proofs.YthkpeakeoepocaaGreatDoor.U
namespace Go.Proofs.YthkpeakeoepocaaGreatDoor.U
set_option linter.unusedVariables false
open Go Go.AL Go.Proofs
set_option maxRecDepth 100000
noncomputable def w48 : N16 Ent := ⟨e48, e49, e50, e51, e52, e53, e54, e55, .no, .no, (orE gBuild e58), (orE gFromWord e59), e60, (orE gTrim e61), e62, e63⟩
theorem w48_ok : w48.All fun k e => EOT Tryz.prog G okB (256 * 0 + 16 * 3 + k) e := ⟨k48, k49, k50, k51, k52, k53, k54, k55, trivial, trivial, (orE_ok (by kernel_rfl) okB_ok mixed gBuild_ok k58), (orE_ok (by kernel_rfl) okB_ok mixed gFromWord_ok k59), k60, (orE_ok (by kernel_rfl) okB_ok mixed gTrim_ok k61), k62, k63⟩
noncomputable def w80 (x12 x15 x31 x87 x88 x90 : Ent) : N16 Ent := ⟨e80, e81, e82, e83, e84, e85, e86, x87, x88, .no, x90, e91, e92, e93, e94, e95⟩
theorem w80_ok {x12 x15 x31 x87 x88 x90 : Ent} (h12 : EOT Tryz.prog G okB 12 x12) (h15 : EOT Tryz.prog G okB 15 x15) (h31 : EOT Tryz.prog G okB 31 x31) (h87 : EOT Tryz.prog G okB 87 x87) (h88 : EOT Tryz.prog G okB 88 x88) (h90 : EOT Tryz.prog G okB 90 x90) : (w80 x12 x15 x31 x87 x88 x90).All fun k e => EOT Tryz.prog G okB (256 * 0 + 16 * 5 + k) e := ⟨k80, k81, k82, k83, k84, k85, k86, h87, h88, trivial, h90, k91, k92, k93, k94, k95⟩
noncomputable def w96 : N16 Ent := ⟨e96, e97, e98, .no, .no, .no, (orE gWord e102), e103, e104, e105, e106, e107, e108, e109, e110, e111⟩
theorem w96_ok : w96.All fun k e => EOT Tryz.prog G okB (256 * 0 + 16 * 6 + k) e := ⟨k96, k97, k98, trivial, trivial, trivial, (orE_ok (by kernel_rfl) okB_ok mixed gWord_ok k102), k103, k104, k105, k106, k107, k108, k109, k110, k111⟩
noncomputable def v0 (x12 x15 x31 x87 x88 x90 : Ent) : N16 (N16 Ent) := ⟨w0 x12 x15 x31 x87 x88 x90, w16 x12 x15 x31 x87 x88 x90, w32, w48, w64, w80 x12 x15 x31 x87 x88 x90, w96, w112, w128, w144, w160, w176, w192, w208, w224, w240⟩
theorem v0_ok {x12 x15 x31 x87 x88 x90 : Ent} (h12 : EOT Tryz.prog G okB 12 x12) (h15 : EOT Tryz.prog G okB 15 x15) (h31 : EOT Tryz.prog G okB 31 x31) (h87 : EOT Tryz.prog G okB 87 x87) (h88 : EOT Tryz.prog G okB 88 x88) (h90 : EOT Tryz.prog G okB 90 x90) : (v0 x12 x15 x31 x87 x88 x90).All fun j r => r.All fun k e => EOT Tryz.prog G okB (256 * 0 + 16 * j + k) e := ⟨w0_ok h12 h15 h31 h87 h88 h90, w16_ok h12 h15 h31 h87 h88 h90, w32_ok, w48_ok, w64_ok, w80_ok h12 h15 h31 h87 h88 h90, w96_ok, w112_ok, w128_ok, w144_ok, w160_ok, w176_ok, w192_ok, w208_ok, w224_ok, w240_ok⟩
noncomputable def v1 : N16 (N16 Ent) := ⟨nR, nR, nR, nR, nR, nR, nR, nR, nR, nR, nR, nR, nR, nR, nR, nR⟩
theorem v1_ok : v1.All fun j r => r.All fun k e => EOT Tryz.prog G okB (256 * 1 + 16 * j + k) e := ⟨nR_ok _, nR_ok _, nR_ok _, nR_ok _, nR_ok _, nR_ok _, nR_ok _, nR_ok _, nR_ok _, nR_ok _, nR_ok _, nR_ok _, nR_ok _, nR_ok _, nR_ok _, nR_ok _⟩
noncomputable def v2 : N16 (N16 Ent) := ⟨nR, nR, nR, nR, nR, nR, nR, nR, nR, nR, nR, nR, nR, nR, nR, nR⟩
theorem v2_ok : v2.All fun j r => r.All fun k e => EOT Tryz.prog G okB (256 * 2 + 16 * j + k) e := ⟨nR_ok _, nR_ok _, nR_ok _, nR_ok _, nR_ok _, nR_ok _, nR_ok _, nR_ok _, nR_ok _, nR_ok _, nR_ok _, nR_ok _, nR_ok _, nR_ok _, nR_ok _, nR_ok _⟩
noncomputable def v3 : N16 (N16 Ent) := ⟨nR, nR, nR, nR, nR, nR, nR, nR, nR, nR, nR, nR, nR, nR, nR, nR⟩
theorem v3_ok : v3.All fun j r => r.All fun k e => EOT Tryz.prog G okB (256 * 3 + 16 * j + k) e := ⟨nR_ok _, nR_ok _, nR_ok _, nR_ok _, nR_ok _, nR_ok _, nR_ok _, nR_ok _, nR_ok _, nR_ok _, nR_ok _, nR_ok _, nR_ok _, nR_ok _, nR_ok _, nR_ok _⟩
noncomputable def v4 : N16 (N16 Ent) := ⟨nR, nR, nR, nR, nR, nR, nR, nR, nR, nR, nR, nR, nR, nR, nR, nR⟩
theorem v4_ok : v4.All fun j r => r.All fun k e => EOT Tryz.prog G okB (256 * 4 + 16 * j + k) e := ⟨nR_ok _, nR_ok _, nR_ok _, nR_ok _, nR_ok _, nR_ok _, nR_ok _, nR_ok _, nR_ok _, nR_ok _, nR_ok _, nR_ok _, nR_ok _, nR_ok _, nR_ok _, nR_ok _⟩
noncomputable def v5 : N16 (N16 Ent) := ⟨nR, nR, nR, nR, nR, nR, nR, nR, nR, nR, nR, nR, nR, nR, nR, nR⟩
theorem v5_ok : v5.All fun j r => r.All fun k e => EOT Tryz.prog G okB (256 * 5 + 16 * j + k) e := ⟨nR_ok _, nR_ok _, nR_ok _, nR_ok _, nR_ok _, nR_ok _, nR_ok _, nR_ok _, nR_ok _, nR_ok _, nR_ok _, nR_ok _, nR_ok _, nR_ok _, nR_ok _, nR_ok _⟩
noncomputable def v6 : N16 (N16 Ent) := ⟨nR, nR, nR, nR, nR, nR, nR, nR, nR, nR, nR, nR, nR, nR, nR, nR⟩
theorem v6_ok : v6.All fun j r => r.All fun k e => EOT Tryz.prog G okB (256 * 6 + 16 * j + k) e := ⟨nR_ok _, nR_ok _, nR_ok _, nR_ok _, nR_ok _, nR_ok _, nR_ok _, nR_ok _, nR_ok _, nR_ok _, nR_ok _, nR_ok _, nR_ok _, nR_ok _, nR_ok _, nR_ok _⟩
noncomputable def v7 : N16 (N16 Ent) := ⟨nR, nR, nR, nR, nR, nR, nR, nR, nR, nR, nR, nR, nR, nR, nR, nR⟩
theorem v7_ok : v7.All fun j r => r.All fun k e => EOT Tryz.prog G okB (256 * 7 + 16 * j + k) e := ⟨nR_ok _, nR_ok _, nR_ok _, nR_ok _, nR_ok _, nR_ok _, nR_ok _, nR_ok _, nR_ok _, nR_ok _, nR_ok _, nR_ok _, nR_ok _, nR_ok _, nR_ok _, nR_ok _⟩
noncomputable def v8 : N16 (N16 Ent) := ⟨nR, nR, nR, nR, nR, nR, nR, nR, nR, nR, nR, nR, nR, nR, nR, nR⟩
theorem v8_ok : v8.All fun j r => r.All fun k e => EOT Tryz.prog G okB (256 * 8 + 16 * j + k) e := ⟨nR_ok _, nR_ok _, nR_ok _, nR_ok _, nR_ok _, nR_ok _, nR_ok _, nR_ok _, nR_ok _, nR_ok _, nR_ok _, nR_ok _, nR_ok _, nR_ok _, nR_ok _, nR_ok _⟩
noncomputable def v9 : N16 (N16 Ent) := ⟨nR, nR, nR, nR, nR, nR, nR, nR, nR, nR, nR, nR, nR, nR, nR, nR⟩
theorem v9_ok : v9.All fun j r => r.All fun k e => EOT Tryz.prog G okB (256 * 9 + 16 * j + k) e := ⟨nR_ok _, nR_ok _, nR_ok _, nR_ok _, nR_ok _, nR_ok _, nR_ok _, nR_ok _, nR_ok _, nR_ok _, nR_ok _, nR_ok _, nR_ok _, nR_ok _, nR_ok _, nR_ok _⟩
noncomputable def v10 : N16 (N16 Ent) := ⟨nR, nR, nR, nR, nR, nR, nR, nR, nR, nR, nR, nR, nR, nR, nR, nR⟩
theorem v10_ok : v10.All fun j r => r.All fun k e => EOT Tryz.prog G okB (256 * 10 + 16 * j + k) e := ⟨nR_ok _, nR_ok _, nR_ok _, nR_ok _, nR_ok _, nR_ok _, nR_ok _, nR_ok _, nR_ok _, nR_ok _, nR_ok _, nR_ok _, nR_ok _, nR_ok _, nR_ok _, nR_ok _⟩
noncomputable def v11 : N16 (N16 Ent) := ⟨nR, nR, nR, nR, nR, nR, nR, nR, nR, nR, nR, nR, nR, nR, nR, nR⟩
theorem v11_ok : v11.All fun j r => r.All fun k e => EOT Tryz.prog G okB (256 * 11 + 16 * j + k) e := ⟨nR_ok _, nR_ok _, nR_ok _, nR_ok _, nR_ok _, nR_ok _, nR_ok _, nR_ok _, nR_ok _, nR_ok _, nR_ok _, nR_ok _, nR_ok _, nR_ok _, nR_ok _, nR_ok _⟩
noncomputable def v12 : N16 (N16 Ent) := ⟨nR, nR, nR, nR, nR, nR, nR, nR, nR, nR, nR, nR, nR, nR, nR, nR⟩
theorem v12_ok : v12.All fun j r => r.All fun k e => EOT Tryz.prog G okB (256 * 12 + 16 * j + k) e := ⟨nR_ok _, nR_ok _, nR_ok _, nR_ok _, nR_ok _, nR_ok _, nR_ok _, nR_ok _, nR_ok _, nR_ok _, nR_ok _, nR_ok _, nR_ok _, nR_ok _, nR_ok _, nR_ok _⟩
noncomputable def v13 : N16 (N16 Ent) := ⟨nR, nR, nR, nR, nR, nR, nR, nR, nR, nR, nR, nR, nR, nR, nR, nR⟩
theorem v13_ok : v13.All fun j r => r.All fun k e => EOT Tryz.prog G okB (256 * 13 + 16 * j + k) e := ⟨nR_ok _, nR_ok _, nR_ok _, nR_ok _, nR_ok _, nR_ok _, nR_ok _, nR_ok _, nR_ok _, nR_ok _, nR_ok _, nR_ok _, nR_ok _, nR_ok _, nR_ok _, nR_ok _⟩
noncomputable def v14 : N16 (N16 Ent) := ⟨nR, nR, nR, nR, nR, nR, nR, nR, nR, nR, nR, nR, nR, nR, nR, nR⟩
theorem v14_ok : v14.All fun j r => r.All fun k e => EOT Tryz.prog G okB (256 * 14 + 16 * j + k) e := ⟨nR_ok _, nR_ok _, nR_ok _, nR_ok _, nR_ok _, nR_ok _, nR_ok _, nR_ok _, nR_ok _, nR_ok _, nR_ok _, nR_ok _, nR_ok _, nR_ok _, nR_ok _, nR_ok _⟩
noncomputable def v15 : N16 (N16 Ent) := ⟨nR, nR, nR, nR, nR, nR, nR, nR, nR, nR, nR, nR, nR, nR, nR, w4080⟩
theorem v15_ok : v15.All fun j r => r.All fun k e => EOT Tryz.prog G okB (256 * 15 + 16 * j + k) e := ⟨nR_ok _, nR_ok _, nR_ok _, nR_ok _, nR_ok _, nR_ok _, nR_ok _, nR_ok _, nR_ok _, nR_ok _, nR_ok _, nR_ok _, nR_ok _, nR_ok _, nR_ok _, w4080_ok⟩
noncomputable def TM (x12 x15 x31 x87 x88 x90 : Ent) : Tab := ⟨v0 x12 x15 x31 x87 x88 x90, v1, v2, v3, v4, v5, v6, v7, v8, v9, v10, v11, v12, v13, v14, v15⟩
theorem TM_ok {x12 x15 x31 x87 x88 x90 : Ent} (h12 : EOT Tryz.prog G okB 12 x12) (h15 : EOT Tryz.prog G okB 15 x15) (h31 : EOT Tryz.prog G okB 31 x31) (h87 : EOT Tryz.prog G okB 87 x87) (h88 : EOT Tryz.prog G okB 88 x88) (h90 : EOT Tryz.prog G okB 90 x90) : TOK Tryz.prog G okB (TM x12 x15 x31 x87 x88 x90) := ⟨v0_ok h12 h15 h31 h87 h88 h90, v1_ok, v2_ok, v3_ok, v4_ok, v5_ok, v6_ok, v7_ok, v8_ok, v9_ok, v10_ok, v11_ok, v12_ok, v13_ok, v14_ok, v15_ok⟩
theorem runM {x12 x15 x31 x87 x88 x90 : Ent} (h12 : EOT Tryz.prog G okB 12 x12) (h15 : EOT Tryz.prog G okB 15 x15) (h31 : EOT Tryz.prog G okB 31 x31) (h87 : EOT Tryz.prog G okB 87 x87) (h88 : EOT Tryz.prog G okB 88 x88) (h90 : EOT Tryz.prog G okB 90 x90) {n f : Nat} {args : List AV} {H : Heap} {v : AV} {H' : Heap} (h : frun (exT (TM x12 x15 x31 x87 x88 x90) n) f args H = some (v, H')) : Ret Tryz.prog G f args H v H' := exT_sound (by kernel_rfl) okB_ok mixed (TM_ok h12 h15 h31 h87 h88 h90) n f args H v H' h
theorem qM {x12 x15 x31 x87 x88 x90 : Ent} (h12 : EOT Tryz.prog G okB 12 x12) (h15 : EOT Tryz.prog G okB 15 x15) (h31 : EOT Tryz.prog G okB 31 x31) (h87 : EOT Tryz.prog G okB 87 x87) (h88 : EOT Tryz.prog G okB 88 x88) (h90 : EOT Tryz.prog G okB 90 x90) {f : Nat} {l : List (List AV × AV)} (h : chk (TM x12 x15 x31 x87 x88 x90) f l = true) : MemoOK Tryz.prog G f l := chk_ok (fun _ _ => runM h12 h15 h31 h87 h88 h90) l h
abbrev MO (f : Nat) (l : List (List AV × AV)) : Prop := MemoOK Tryz.prog G f l
abbrev FQ (a b c : List (List AV × AV)) : Prop := ∀ l, chk (TM e12 e15 e31 (.known (memoK a)) (.known (memoK b)) (.known (memoK c))) 12 l = true → MO 12 l
theorem fD {a b c : List (List AV × AV)} (ha : MO 87 a) (hb : MO 88 b) (hc : MO 90 c) : FQ a b c := fun _ h => qM k12 k15 k31 (memo_ok ha) (memo_ok hb) (memo_ok hc) h
theorem gD {a b c l : List (List AV × AV)} {f : Nat} (ha : MO 12 a) (hb : MO 15 b) (hc : MO 31 c) (h : chk (Go.Proofs.YthkpeakeoepocaaGreatDoor.TM (.known (memoK a)) (.known (memoK b)) (.known (memoK c)) e87 e88 e90) f l = true) : MO f l := Go.Proofs.YthkpeakeoepocaaGreatDoor.qM (memo_ok ha) (memo_ok hb) (memo_ok hc) k87 k88 k90 h
end Go.Proofs.YthkpeakeoepocaaGreatDoor.U

/- Tables of results (genall.py) -/
namespace Go.Proofs.YthkpeakeoepocaaGreatDoor.AD
set_option linter.unusedSimpArgs false
set_option linter.unusedVariables false
open Go Go.AL Go.Proofs U
set_option maxRecDepth 1000000
def t31_a : LR := []
theorem u31_a : MO 31 t31_a := trivial
def t15_a : LR := p63 ++ (p64)
theorem u15_a : MO 15 t15_a := .append _ _ p63_ok (p64_ok)
def t87_a : LR := []
theorem u87_a : MO 87 t87_a := trivial
def t88_a : LR := []
theorem u88_a : MO 88 t88_a := trivial
def t90_a : LR := []
theorem u90_a : MO 90 t90_a := trivial
def t10_a : LR := p553
theorem u10_a : MO 10 t10_a := p553_ok
def t11_a : LR := p631
theorem u11_a : MO 11 t11_a := p631_ok
def t31_b0 : LR := p0
theorem u31_b0 : MO 31 t31_b0 := p0_ok
def t15_b0 : LR := p65 ++ (p66)
theorem u15_b0 : MO 15 t15_b0 := .append _ _ p65_ok (p66_ok)
def t87_b0 : LR := p274
theorem u87_b0 : MO 87 t87_b0 := p274_ok
def t88_b0 : LR := p302
theorem u88_b0 : MO 88 t88_b0 := p302_ok
def t90_b0 : LR := p333
theorem u90_b0 : MO 90 t90_b0 := p333_ok
def t10_b0 : LR := p554
theorem u10_b0 : MO 10 t10_b0 := p554_ok
def t11_b0 : LR := p632
theorem u11_b0 : MO 11 t11_b0 := p632_ok
theorem fb0 : FQ t87_b0 t88_b0 t90_b0 := fD u87_b0 u88_b0 u90_b0
def t31_b1 : LR := p1
theorem u31_b1 : MO 31 t31_b1 := p1_ok
def t15_b1 : LR := p67 ++ (p68 ++ (p69))
theorem u15_b1 : MO 15 t15_b1 := .append _ _ p67_ok (.append _ _ p68_ok (p69_ok))
def t87_b1 : LR := p275
theorem u87_b1 : MO 87 t87_b1 := p275_ok
def t88_b1 : LR := p303
theorem u88_b1 : MO 88 t88_b1 := p303_ok
def t90_b1 : LR := p334 ++ (p335)
theorem u90_b1 : MO 90 t90_b1 := .append _ _ p334_ok (p335_ok)
def t10_b1 : LR := p555 ++ (p556)
theorem u10_b1 : MO 10 t10_b1 := .append _ _ p555_ok (p556_ok)
def t11_b1 : LR := p633
theorem u11_b1 : MO 11 t11_b1 := p633_ok
theorem fb1 : FQ t87_b1 t88_b1 t90_b1 := fD u87_b1 u88_b1 u90_b1
def t31_b2 : LR := p2
theorem u31_b2 : MO 31 t31_b2 := p2_ok
def t15_b2 : LR := p70 ++ (p71 ++ (p72 ++ (p73)))
theorem u15_b2 : MO 15 t15_b2 := .append _ _ p70_ok (.append _ _ p71_ok (.append _ _ p72_ok (p73_ok)))
def t87_b2 : LR := p276
theorem u87_b2 : MO 87 t87_b2 := p276_ok
def t88_b2 : LR := p304
theorem u88_b2 : MO 88 t88_b2 := p304_ok
def t90_b2 : LR := p336 ++ (p337 ++ (p338))
theorem u90_b2 : MO 90 t90_b2 := .append _ _ p336_ok (.append _ _ p337_ok (p338_ok))
def t10_b2 : LR := p557 ++ (p558)
theorem u10_b2 : MO 10 t10_b2 := .append _ _ p557_ok (p558_ok)
def t11_b2 : LR := p634
theorem u11_b2 : MO 11 t11_b2 := p634_ok
theorem fb2 : FQ t87_b2 t88_b2 t90_b2 := fD u87_b2 u88_b2 u90_b2
def t31_b3 : LR := p3
theorem u31_b3 : MO 31 t31_b3 := p3_ok
def t15_b3 : LR := p74 ++ (p75 ++ (p76 ++ (p77 ++ (p78))))
theorem u15_b3 : MO 15 t15_b3 := .append _ _ p74_ok (.append _ _ p75_ok (.append _ _ p76_ok (.append _ _ p77_ok (p78_ok))))
def t87_b3 : LR := p277
theorem u87_b3 : MO 87 t87_b3 := p277_ok
def t88_b3 : LR := p305
theorem u88_b3 : MO 88 t88_b3 := p305_ok
def t90_b3 : LR := p339 ++ (p340 ++ (p341 ++ (p342)))
theorem u90_b3 : MO 90 t90_b3 := .append _ _ p339_ok (.append _ _ p340_ok (.append _ _ p341_ok (p342_ok)))
def t10_b3 : LR := p559 ++ (p560)
theorem u10_b3 : MO 10 t10_b3 := .append _ _ p559_ok (p560_ok)
def t11_b3 : LR := p635
theorem u11_b3 : MO 11 t11_b3 := p635_ok
theorem fb3 : FQ t87_b3 t88_b3 t90_b3 := fD u87_b3 u88_b3 u90_b3
def t31_b4 : LR := p4
theorem u31_b4 : MO 31 t31_b4 := p4_ok
def t15_b4 : LR := p79 ++ (p80 ++ (p81 ++ (p82 ++ (p83))))
theorem u15_b4 : MO 15 t15_b4 := .append _ _ p79_ok (.append _ _ p80_ok (.append _ _ p81_ok (.append _ _ p82_ok (p83_ok))))
def t87_b4 : LR := p278
theorem u87_b4 : MO 87 t87_b4 := p278_ok
def t88_b4 : LR := p306
theorem u88_b4 : MO 88 t88_b4 := p306_ok
def t90_b4 : LR := p343 ++ (p344 ++ (p345 ++ (p346)))
theorem u90_b4 : MO 90 t90_b4 := .append _ _ p343_ok (.append _ _ p344_ok (.append _ _ p345_ok (p346_ok)))
def t10_b4 : LR := p561 ++ (p562)
theorem u10_b4 : MO 10 t10_b4 := .append _ _ p561_ok (p562_ok)
def t11_b4 : LR := p636
theorem u11_b4 : MO 11 t11_b4 := p636_ok
theorem fb4 : FQ t87_b4 t88_b4 t90_b4 := fD u87_b4 u88_b4 u90_b4
def t31_b5 : LR := p5
theorem u31_b5 : MO 31 t31_b5 := p5_ok
def t15_b5 : LR := p84 ++ (p85 ++ (p86 ++ (p87 ++ (p88 ++ (p89)))))
theorem u15_b5 : MO 15 t15_b5 := .append _ _ p84_ok (.append _ _ p85_ok (.append _ _ p86_ok (.append _ _ p87_ok (.append _ _ p88_ok (p89_ok)))))
def t87_b5 : LR := p279
theorem u87_b5 : MO 87 t87_b5 := p279_ok
def t88_b5 : LR := p307
theorem u88_b5 : MO 88 t88_b5 := p307_ok
def t90_b5 : LR := p347 ++ (p348 ++ (p349 ++ (p350 ++ (p351 ++ (p352)))))
theorem u90_b5 : MO 90 t90_b5 := .append _ _ p347_ok (.append _ _ p348_ok (.append _ _ p349_ok (.append _ _ p350_ok (.append _ _ p351_ok (p352_ok)))))
def t10_b5 : LR := p563 ++ (p564)
theorem u10_b5 : MO 10 t10_b5 := .append _ _ p563_ok (p564_ok)
def t11_b5 : LR := p637
theorem u11_b5 : MO 11 t11_b5 := p637_ok
theorem fb5 : FQ t87_b5 t88_b5 t90_b5 := fD u87_b5 u88_b5 u90_b5
def t31_c1 : LR := p6
theorem u31_c1 : MO 31 t31_c1 := p6_ok
def t15_c1 : LR := p90
theorem u15_c1 : MO 15 t15_c1 := p90_ok
def t87_c1 : LR := []
theorem u87_c1 : MO 87 t87_c1 := trivial
def t88_c1 : LR := []
theorem u88_c1 : MO 88 t88_c1 := trivial
def t90_c1 : LR := []
theorem u90_c1 : MO 90 t90_c1 := trivial
def t10_c1 : LR := p565
theorem u10_c1 : MO 10 t10_c1 := p565_ok
def t11_c1 : LR := p638
theorem u11_c1 : MO 11 t11_c1 := p638_ok
def t31_c2 : LR := p7
theorem u31_c2 : MO 31 t31_c2 := p7_ok
def t15_c2 : LR := p91
theorem u15_c2 : MO 15 t15_c2 := p91_ok
def t87_c2 : LR := []
theorem u87_c2 : MO 87 t87_c2 := trivial
def t88_c2 : LR := []
theorem u88_c2 : MO 88 t88_c2 := trivial
def t90_c2 : LR := []
theorem u90_c2 : MO 90 t90_c2 := trivial
def t10_c2 : LR := p566
theorem u10_c2 : MO 10 t10_c2 := p566_ok
def t11_c2 : LR := p639
theorem u11_c2 : MO 11 t11_c2 := p639_ok
def t31_c3 : LR := p8
theorem u31_c3 : MO 31 t31_c3 := p8_ok
def t15_c3 : LR := p92 ++ (p93)
theorem u15_c3 : MO 15 t15_c3 := .append _ _ p92_ok (p93_ok)
def t87_c3 : LR := p280
theorem u87_c3 : MO 87 t87_c3 := p280_ok
def t88_c3 : LR := p308
theorem u88_c3 : MO 88 t88_c3 := p308_ok
def t90_c3 : LR := p353
theorem u90_c3 : MO 90 t90_c3 := p353_ok
def t10_c3 : LR := p567
theorem u10_c3 : MO 10 t10_c3 := p567_ok
def t11_c3 : LR := p640
theorem u11_c3 : MO 11 t11_c3 := p640_ok
theorem fc3 : FQ t87_c3 t88_c3 t90_c3 := fD u87_c3 u88_c3 u90_c3
def t31_c4 : LR := p9 ++ (p10)
theorem u31_c4 : MO 31 t31_c4 := .append _ _ p9_ok (p10_ok)
def t15_c4 : LR := p94 ++ (p95 ++ (p96 ++ (p97 ++ (p98 ++ (p99 ++ (p100 ++ (p101)))))))
theorem u15_c4 : MO 15 t15_c4 := .append _ _ p94_ok (.append _ _ p95_ok (.append _ _ p96_ok (.append _ _ p97_ok (.append _ _ p98_ok (.append _ _ p99_ok (.append _ _ p100_ok (p101_ok)))))))
def t87_c4 : LR := p281
theorem u87_c4 : MO 87 t87_c4 := p281_ok
def t88_c4 : LR := p309
theorem u88_c4 : MO 88 t88_c4 := p309_ok
def t90_c4 : LR := p354 ++ (p355 ++ (p356 ++ (p357)))
theorem u90_c4 : MO 90 t90_c4 := .append _ _ p354_ok (.append _ _ p355_ok (.append _ _ p356_ok (p357_ok)))
def t10_c4 : LR := p568 ++ (p569)
theorem u10_c4 : MO 10 t10_c4 := .append _ _ p568_ok (p569_ok)
def t11_c4 : LR := p641
theorem u11_c4 : MO 11 t11_c4 := p641_ok
theorem fc4 : FQ t87_c4 t88_c4 t90_c4 := fD u87_c4 u88_c4 u90_c4
def t31_c5 : LR := p11
theorem u31_c5 : MO 31 t31_c5 := p11_ok
def t15_c5 : LR := p102 ++ (p103)
theorem u15_c5 : MO 15 t15_c5 := .append _ _ p102_ok (p103_ok)
def t87_c5 : LR := p282
theorem u87_c5 : MO 87 t87_c5 := p282_ok
def t88_c5 : LR := p310
theorem u88_c5 : MO 88 t88_c5 := p310_ok
def t90_c5 : LR := p358
theorem u90_c5 : MO 90 t90_c5 := p358_ok
def t10_c5 : LR := p570
theorem u10_c5 : MO 10 t10_c5 := p570_ok
def t11_c5 : LR := p642
theorem u11_c5 : MO 11 t11_c5 := p642_ok
theorem fc5 : FQ t87_c5 t88_c5 t90_c5 := fD u87_c5 u88_c5 u90_c5
def t31_c6 : LR := p12 ++ (p13)
theorem u31_c6 : MO 31 t31_c6 := .append _ _ p12_ok (p13_ok)
def t15_c6 : LR := p104 ++ (p105 ++ (p106 ++ (p107 ++ (p108 ++ (p109)))))
theorem u15_c6 : MO 15 t15_c6 := .append _ _ p104_ok (.append _ _ p105_ok (.append _ _ p106_ok (.append _ _ p107_ok (.append _ _ p108_ok (p109_ok)))))
def t87_c6 : LR := p283
theorem u87_c6 : MO 87 t87_c6 := p283_ok
def t88_c6 : LR := p311
theorem u88_c6 : MO 88 t88_c6 := p311_ok
def t90_c6 : LR := p359 ++ (p360 ++ (p361))
theorem u90_c6 : MO 90 t90_c6 := .append _ _ p359_ok (.append _ _ p360_ok (p361_ok))
def t10_c6 : LR := p571 ++ (p572)
theorem u10_c6 : MO 10 t10_c6 := .append _ _ p571_ok (p572_ok)
def t11_c6 : LR := p643
theorem u11_c6 : MO 11 t11_c6 := p643_ok
theorem fc6 : FQ t87_c6 t88_c6 t90_c6 := fD u87_c6 u88_c6 u90_c6
def t31_c7 : LR := p14 ++ (p15)
theorem u31_c7 : MO 31 t31_c7 := .append _ _ p14_ok (p15_ok)
def t15_c7 : LR := p110 ++ (p111 ++ (p112 ++ (p113 ++ (p114 ++ (p115)))))
theorem u15_c7 : MO 15 t15_c7 := .append _ _ p110_ok (.append _ _ p111_ok (.append _ _ p112_ok (.append _ _ p113_ok (.append _ _ p114_ok (p115_ok)))))
def t87_c7 : LR := p284
theorem u87_c7 : MO 87 t87_c7 := p284_ok
def t88_c7 : LR := p312
theorem u88_c7 : MO 88 t88_c7 := p312_ok
def t90_c7 : LR := p362 ++ (p363 ++ (p364 ++ (p365)))
theorem u90_c7 : MO 90 t90_c7 := .append _ _ p362_ok (.append _ _ p363_ok (.append _ _ p364_ok (p365_ok)))
def t10_c7 : LR := p573 ++ (p574)
theorem u10_c7 : MO 10 t10_c7 := .append _ _ p573_ok (p574_ok)
def t11_c7 : LR := p644
theorem u11_c7 : MO 11 t11_c7 := p644_ok
theorem fc7 : FQ t87_c7 t88_c7 t90_c7 := fD u87_c7 u88_c7 u90_c7
def t31_c8 : LR := p16 ++ (p17)
theorem u31_c8 : MO 31 t31_c8 := .append _ _ p16_ok (p17_ok)
def t15_c8 : LR := p116 ++ (p117 ++ (p118 ++ (p119 ++ (p120 ++ (p121)))))
theorem u15_c8 : MO 15 t15_c8 := .append _ _ p116_ok (.append _ _ p117_ok (.append _ _ p118_ok (.append _ _ p119_ok (.append _ _ p120_ok (p121_ok)))))
def t87_c8 : LR := p285
theorem u87_c8 : MO 87 t87_c8 := p285_ok
def t88_c8 : LR := p313
theorem u88_c8 : MO 88 t88_c8 := p313_ok
def t90_c8 : LR := p366 ++ (p367 ++ (p368 ++ (p369 ++ (p370))))
theorem u90_c8 : MO 90 t90_c8 := .append _ _ p366_ok (.append _ _ p367_ok (.append _ _ p368_ok (.append _ _ p369_ok (p370_ok))))
def t10_c8 : LR := p575 ++ (p576 ++ (p577))
theorem u10_c8 : MO 10 t10_c8 := .append _ _ p575_ok (.append _ _ p576_ok (p577_ok))
def t11_c8 : LR := p645
theorem u11_c8 : MO 11 t11_c8 := p645_ok
theorem fc8 : FQ t87_c8 t88_c8 t90_c8 := fD u87_c8 u88_c8 u90_c8
def t31_c9 : LR := p18 ++ (p19)
theorem u31_c9 : MO 31 t31_c9 := .append _ _ p18_ok (p19_ok)
def t15_c9 : LR := p122 ++ (p123 ++ (p124 ++ (p125)))
theorem u15_c9 : MO 15 t15_c9 := .append _ _ p122_ok (.append _ _ p123_ok (.append _ _ p124_ok (p125_ok)))
def t87_c9 : LR := p286
theorem u87_c9 : MO 87 t87_c9 := p286_ok
def t88_c9 : LR := p314
theorem u88_c9 : MO 88 t88_c9 := p314_ok
def t90_c9 : LR := p371 ++ (p372 ++ (p373))
theorem u90_c9 : MO 90 t90_c9 := .append _ _ p371_ok (.append _ _ p372_ok (p373_ok))
def t10_c9 : LR := p578 ++ (p579)
theorem u10_c9 : MO 10 t10_c9 := .append _ _ p578_ok (p579_ok)
def t11_c9 : LR := p646
theorem u11_c9 : MO 11 t11_c9 := p646_ok
theorem fc9 : FQ t87_c9 t88_c9 t90_c9 := fD u87_c9 u88_c9 u90_c9
def t31_c10 : LR := p20 ++ (p21)
theorem u31_c10 : MO 31 t31_c10 := .append _ _ p20_ok (p21_ok)
def t15_c10 : LR := p126 ++ (p127 ++ (p128 ++ (p129 ++ (p130 ++ (p131 ++ (p132 ++ (p133 ++ (p134))))))))
theorem u15_c10 : MO 15 t15_c10 := .append _ _ p126_ok (.append _ _ p127_ok (.append _ _ p128_ok (.append _ _ p129_ok (.append _ _ p130_ok (.append _ _ p131_ok (.append _ _ p132_ok (.append _ _ p133_ok (p134_ok))))))))
def t87_c10 : LR := p287
theorem u87_c10 : MO 87 t87_c10 := p287_ok
def t88_c10 : LR := p315
theorem u88_c10 : MO 88 t88_c10 := p315_ok
def t90_c10 : LR := p374 ++ (p375 ++ (p376 ++ (p377 ++ (p378 ++ (p379 ++ (p380))))))
theorem u90_c10 : MO 90 t90_c10 := .append _ _ p374_ok (.append _ _ p375_ok (.append _ _ p376_ok (.append _ _ p377_ok (.append _ _ p378_ok (.append _ _ p379_ok (p380_ok))))))
def t10_c10 : LR := p580 ++ (p581)
theorem u10_c10 : MO 10 t10_c10 := .append _ _ p580_ok (p581_ok)
def t11_c10 : LR := p647
theorem u11_c10 : MO 11 t11_c10 := p647_ok
theorem fc10 : FQ t87_c10 t88_c10 t90_c10 := fD u87_c10 u88_c10 u90_c10
def t31_c11 : LR := p22
theorem u31_c11 : MO 31 t31_c11 := p22_ok
def t15_c11 : LR := p135 ++ (p136 ++ (p137))
theorem u15_c11 : MO 15 t15_c11 := .append _ _ p135_ok (.append _ _ p136_ok (p137_ok))
def t87_c11 : LR := p288
theorem u87_c11 : MO 87 t87_c11 := p288_ok
def t88_c11 : LR := p316
theorem u88_c11 : MO 88 t88_c11 := p316_ok
def t90_c11 : LR := p381 ++ (p382 ++ (p383))
theorem u90_c11 : MO 90 t90_c11 := .append _ _ p381_ok (.append _ _ p382_ok (p383_ok))
def t10_c11 : LR := p582 ++ (p583)
theorem u10_c11 : MO 10 t10_c11 := .append _ _ p582_ok (p583_ok)
def t11_c11 : LR := p648
theorem u11_c11 : MO 11 t11_c11 := p648_ok
theorem fc11 : FQ t87_c11 t88_c11 t90_c11 := fD u87_c11 u88_c11 u90_c11
def t31_c12 : LR := p23 ++ (p24 ++ (p25))
theorem u31_c12 : MO 31 t31_c12 := .append _ _ p23_ok (.append _ _ p24_ok (p25_ok))
def t15_c12 : LR := p138 ++ (p139 ++ (p140 ++ (p141 ++ (p142 ++ (p143 ++ (p144 ++ (p145 ++ (p146 ++ (p147 ++ (p148))))))))))
theorem u15_c12 : MO 15 t15_c12 := .append _ _ p138_ok (.append _ _ p139_ok (.append _ _ p140_ok (.append _ _ p141_ok (.append _ _ p142_ok (.append _ _ p143_ok (.append _ _ p144_ok (.append _ _ p145_ok (.append _ _ p146_ok (.append _ _ p147_ok (p148_ok))))))))))
def t87_c12 : LR := p289
theorem u87_c12 : MO 87 t87_c12 := p289_ok
def t88_c12 : LR := p317
theorem u88_c12 : MO 88 t88_c12 := p317_ok
def t90_c12 : LR := p384 ++ (p385 ++ (p386 ++ (p387 ++ (p388 ++ (p389 ++ (p390 ++ (p391 ++ (p392 ++ (p393 ++ (p394))))))))))
theorem u90_c12 : MO 90 t90_c12 := .append _ _ p384_ok (.append _ _ p385_ok (.append _ _ p386_ok (.append _ _ p387_ok (.append _ _ p388_ok (.append _ _ p389_ok (.append _ _ p390_ok (.append _ _ p391_ok (.append _ _ p392_ok (.append _ _ p393_ok (p394_ok))))))))))
def t10_c12 : LR := p584 ++ (p585 ++ (p586 ++ (p587)))
theorem u10_c12 : MO 10 t10_c12 := .append _ _ p584_ok (.append _ _ p585_ok (.append _ _ p586_ok (p587_ok)))
def t11_c12 : LR := p649
theorem u11_c12 : MO 11 t11_c12 := p649_ok
theorem fc12 : FQ t87_c12 t88_c12 t90_c12 := fD u87_c12 u88_c12 u90_c12
def t31_c13 : LR := p26 ++ (p27)
theorem u31_c13 : MO 31 t31_c13 := .append _ _ p26_ok (p27_ok)
def t15_c13 : LR := p149 ++ (p150 ++ (p151 ++ (p152 ++ (p153 ++ (p154 ++ (p155 ++ (p156 ++ (p157))))))))
theorem u15_c13 : MO 15 t15_c13 := .append _ _ p149_ok (.append _ _ p150_ok (.append _ _ p151_ok (.append _ _ p152_ok (.append _ _ p153_ok (.append _ _ p154_ok (.append _ _ p155_ok (.append _ _ p156_ok (p157_ok))))))))
def t87_c13 : LR := p290
theorem u87_c13 : MO 87 t87_c13 := p290_ok
def t88_c13 : LR := p318
theorem u88_c13 : MO 88 t88_c13 := p318_ok
def t90_c13 : LR := p395 ++ (p396 ++ (p397 ++ (p398 ++ (p399 ++ (p400 ++ (p401))))))
theorem u90_c13 : MO 90 t90_c13 := .append _ _ p395_ok (.append _ _ p396_ok (.append _ _ p397_ok (.append _ _ p398_ok (.append _ _ p399_ok (.append _ _ p400_ok (p401_ok))))))
def t10_c13 : LR := p588 ++ (p589)
theorem u10_c13 : MO 10 t10_c13 := .append _ _ p588_ok (p589_ok)
def t11_c13 : LR := p650
theorem u11_c13 : MO 11 t11_c13 := p650_ok
theorem fc13 : FQ t87_c13 t88_c13 t90_c13 := fD u87_c13 u88_c13 u90_c13
def t31_c14 : LR := p28 ++ (p29)
theorem u31_c14 : MO 31 t31_c14 := .append _ _ p28_ok (p29_ok)
def t15_c14 : LR := p158 ++ (p159 ++ (p160 ++ (p161 ++ (p162 ++ (p163)))))
theorem u15_c14 : MO 15 t15_c14 := .append _ _ p158_ok (.append _ _ p159_ok (.append _ _ p160_ok (.append _ _ p161_ok (.append _ _ p162_ok (p163_ok)))))
def t87_c14 : LR := p291
theorem u87_c14 : MO 87 t87_c14 := p291_ok
def t88_c14 : LR := p319
theorem u88_c14 : MO 88 t88_c14 := p319_ok
def t90_c14 : LR := p402 ++ (p403 ++ (p404 ++ (p405 ++ (p406 ++ (p407)))))
theorem u90_c14 : MO 90 t90_c14 := .append _ _ p402_ok (.append _ _ p403_ok (.append _ _ p404_ok (.append _ _ p405_ok (.append _ _ p406_ok (p407_ok)))))
def t10_c14 : LR := p590 ++ (p591)
theorem u10_c14 : MO 10 t10_c14 := .append _ _ p590_ok (p591_ok)
def t11_c14 : LR := p651
theorem u11_c14 : MO 11 t11_c14 := p651_ok
theorem fc14 : FQ t87_c14 t88_c14 t90_c14 := fD u87_c14 u88_c14 u90_c14
def t31_c15 : LR := p30 ++ (p31 ++ (p32))
theorem u31_c15 : MO 31 t31_c15 := .append _ _ p30_ok (.append _ _ p31_ok (p32_ok))
def t15_c15 : LR := p164 ++ (p165 ++ (p166 ++ (p167 ++ (p168 ++ (p169 ++ (p170 ++ (p171)))))))
theorem u15_c15 : MO 15 t15_c15 := .append _ _ p164_ok (.append _ _ p165_ok (.append _ _ p166_ok (.append _ _ p167_ok (.append _ _ p168_ok (.append _ _ p169_ok (.append _ _ p170_ok (p171_ok)))))))
def t87_c15 : LR := p292
theorem u87_c15 : MO 87 t87_c15 := p292_ok
def t88_c15 : LR := p320
theorem u88_c15 : MO 88 t88_c15 := p320_ok
def t90_c15 : LR := p408 ++ (p409 ++ (p410 ++ (p411 ++ (p412 ++ (p413 ++ (p414 ++ (p415 ++ (p416))))))))
theorem u90_c15 : MO 90 t90_c15 := .append _ _ p408_ok (.append _ _ p409_ok (.append _ _ p410_ok (.append _ _ p411_ok (.append _ _ p412_ok (.append _ _ p413_ok (.append _ _ p414_ok (.append _ _ p415_ok (p416_ok))))))))
def t10_c15 : LR := p592 ++ (p593 ++ (p594))
theorem u10_c15 : MO 10 t10_c15 := .append _ _ p592_ok (.append _ _ p593_ok (p594_ok))
def t11_c15 : LR := p652
theorem u11_c15 : MO 11 t11_c15 := p652_ok
theorem fc15 : FQ t87_c15 t88_c15 t90_c15 := fD u87_c15 u88_c15 u90_c15
def t31_c16 : LR := p33 ++ (p34 ++ (p35 ++ (p36)))
theorem u31_c16 : MO 31 t31_c16 := .append _ _ p33_ok (.append _ _ p34_ok (.append _ _ p35_ok (p36_ok)))
def t15_c16 : LR := p172 ++ (p173 ++ (p174 ++ (p175 ++ (p176 ++ (p177 ++ (p178 ++ (p179 ++ (p180 ++ (p181 ++ (p182 ++ (p183 ++ (p184))))))))))))
theorem u15_c16 : MO 15 t15_c16 := .append _ _ p172_ok (.append _ _ p173_ok (.append _ _ p174_ok (.append _ _ p175_ok (.append _ _ p176_ok (.append _ _ p177_ok (.append _ _ p178_ok (.append _ _ p179_ok (.append _ _ p180_ok (.append _ _ p181_ok (.append _ _ p182_ok (.append _ _ p183_ok (p184_ok))))))))))))
def t87_c16 : LR := p293
theorem u87_c16 : MO 87 t87_c16 := p293_ok
def t88_c16 : LR := p321
theorem u88_c16 : MO 88 t88_c16 := p321_ok
def t90_c16 : LR := p417 ++ (p418 ++ (p419 ++ (p420 ++ (p421 ++ (p422 ++ (p423 ++ (p424 ++ (p425 ++ (p426 ++ (p427 ++ (p428 ++ (p429 ++ (p430 ++ (p431 ++ (p432 ++ (p433))))))))))))))))
theorem u90_c16 : MO 90 t90_c16 := .append _ _ p417_ok (.append _ _ p418_ok (.append _ _ p419_ok (.append _ _ p420_ok (.append _ _ p421_ok (.append _ _ p422_ok (.append _ _ p423_ok (.append _ _ p424_ok (.append _ _ p425_ok (.append _ _ p426_ok (.append _ _ p427_ok (.append _ _ p428_ok (.append _ _ p429_ok (.append _ _ p430_ok (.append _ _ p431_ok (.append _ _ p432_ok (p433_ok))))))))))))))))
def t10_c16 : LR := p595 ++ (p596 ++ (p597 ++ (p598 ++ (p599))))
theorem u10_c16 : MO 10 t10_c16 := .append _ _ p595_ok (.append _ _ p596_ok (.append _ _ p597_ok (.append _ _ p598_ok (p599_ok))))
def t11_c16 : LR := p653
theorem u11_c16 : MO 11 t11_c16 := p653_ok
theorem fc16 : FQ t87_c16 t88_c16 t90_c16 := fD u87_c16 u88_c16 u90_c16
def t31_c17 : LR := p37 ++ (p38)
theorem u31_c17 : MO 31 t31_c17 := .append _ _ p37_ok (p38_ok)
def t15_c17 : LR := p185 ++ (p186 ++ (p187 ++ (p188 ++ (p189 ++ (p190)))))
theorem u15_c17 : MO 15 t15_c17 := .append _ _ p185_ok (.append _ _ p186_ok (.append _ _ p187_ok (.append _ _ p188_ok (.append _ _ p189_ok (p190_ok)))))
def t87_c17 : LR := p294
theorem u87_c17 : MO 87 t87_c17 := p294_ok
def t88_c17 : LR := p322
theorem u88_c17 : MO 88 t88_c17 := p322_ok
def t90_c17 : LR := p434 ++ (p435 ++ (p436 ++ (p437 ++ (p438 ++ (p439)))))
theorem u90_c17 : MO 90 t90_c17 := .append _ _ p434_ok (.append _ _ p435_ok (.append _ _ p436_ok (.append _ _ p437_ok (.append _ _ p438_ok (p439_ok)))))
def t10_c17 : LR := p600 ++ (p601)
theorem u10_c17 : MO 10 t10_c17 := .append _ _ p600_ok (p601_ok)
def t11_c17 : LR := p654
theorem u11_c17 : MO 11 t11_c17 := p654_ok
theorem fc17 : FQ t87_c17 t88_c17 t90_c17 := fD u87_c17 u88_c17 u90_c17
def t31_c18 : LR := p39 ++ (p40 ++ (p41))
theorem u31_c18 : MO 31 t31_c18 := .append _ _ p39_ok (.append _ _ p40_ok (p41_ok))
def t15_c18 : LR := p191 ++ (p192 ++ (p193 ++ (p194 ++ (p195 ++ (p196 ++ (p197 ++ (p198 ++ (p199))))))))
theorem u15_c18 : MO 15 t15_c18 := .append _ _ p191_ok (.append _ _ p192_ok (.append _ _ p193_ok (.append _ _ p194_ok (.append _ _ p195_ok (.append _ _ p196_ok (.append _ _ p197_ok (.append _ _ p198_ok (p199_ok))))))))
def t87_c18 : LR := p295
theorem u87_c18 : MO 87 t87_c18 := p295_ok
def t88_c18 : LR := p323
theorem u88_c18 : MO 88 t88_c18 := p323_ok
def t90_c18 : LR := p440 ++ (p441 ++ (p442 ++ (p443 ++ (p444 ++ (p445 ++ (p446 ++ (p447 ++ (p448 ++ (p449 ++ (p450 ++ (p451)))))))))))
theorem u90_c18 : MO 90 t90_c18 := .append _ _ p440_ok (.append _ _ p441_ok (.append _ _ p442_ok (.append _ _ p443_ok (.append _ _ p444_ok (.append _ _ p445_ok (.append _ _ p446_ok (.append _ _ p447_ok (.append _ _ p448_ok (.append _ _ p449_ok (.append _ _ p450_ok (p451_ok)))))))))))
def t10_c18 : LR := p602 ++ (p603 ++ (p604 ++ (p605)))
theorem u10_c18 : MO 10 t10_c18 := .append _ _ p602_ok (.append _ _ p603_ok (.append _ _ p604_ok (p605_ok)))
def t11_c18 : LR := p655
theorem u11_c18 : MO 11 t11_c18 := p655_ok
theorem fc18 : FQ t87_c18 t88_c18 t90_c18 := fD u87_c18 u88_c18 u90_c18
def t31_c19 : LR := p42 ++ (p43 ++ (p44))
theorem u31_c19 : MO 31 t31_c19 := .append _ _ p42_ok (.append _ _ p43_ok (p44_ok))
def t15_c19 : LR := p200 ++ (p201 ++ (p202 ++ (p203 ++ (p204 ++ (p205 ++ (p206 ++ (p207 ++ (p208))))))))
theorem u15_c19 : MO 15 t15_c19 := .append _ _ p200_ok (.append _ _ p201_ok (.append _ _ p202_ok (.append _ _ p203_ok (.append _ _ p204_ok (.append _ _ p205_ok (.append _ _ p206_ok (.append _ _ p207_ok (p208_ok))))))))
def t87_c19 : LR := p296
theorem u87_c19 : MO 87 t87_c19 := p296_ok
def t88_c19 : LR := p324
theorem u88_c19 : MO 88 t88_c19 := p324_ok
def t90_c19 : LR := p452 ++ (p453 ++ (p454 ++ (p455 ++ (p456 ++ (p457 ++ (p458 ++ (p459 ++ (p460 ++ (p461)))))))))
theorem u90_c19 : MO 90 t90_c19 := .append _ _ p452_ok (.append _ _ p453_ok (.append _ _ p454_ok (.append _ _ p455_ok (.append _ _ p456_ok (.append _ _ p457_ok (.append _ _ p458_ok (.append _ _ p459_ok (.append _ _ p460_ok (p461_ok)))))))))
def t10_c19 : LR := p606 ++ (p607 ++ (p608))
theorem u10_c19 : MO 10 t10_c19 := .append _ _ p606_ok (.append _ _ p607_ok (p608_ok))
def t11_c19 : LR := p656
theorem u11_c19 : MO 11 t11_c19 := p656_ok
theorem fc19 : FQ t87_c19 t88_c19 t90_c19 := fD u87_c19 u88_c19 u90_c19
def t31_c20 : LR := p45 ++ (p46 ++ (p47 ++ (p48)))
theorem u31_c20 : MO 31 t31_c20 := .append _ _ p45_ok (.append _ _ p46_ok (.append _ _ p47_ok (p48_ok)))
def t15_c20 : LR := p209 ++ (p210 ++ (p211 ++ (p212 ++ (p213 ++ (p214 ++ (p215 ++ (p216 ++ (p217 ++ (p218 ++ (p219 ++ (p220 ++ (p221 ++ (p222 ++ (p223))))))))))))))
theorem u15_c20 : MO 15 t15_c20 := .append _ _ p209_ok (.append _ _ p210_ok (.append _ _ p211_ok (.append _ _ p212_ok (.append _ _ p213_ok (.append _ _ p214_ok (.append _ _ p215_ok (.append _ _ p216_ok (.append _ _ p217_ok (.append _ _ p218_ok (.append _ _ p219_ok (.append _ _ p220_ok (.append _ _ p221_ok (.append _ _ p222_ok (p223_ok))))))))))))))
def t87_c20 : LR := p297
theorem u87_c20 : MO 87 t87_c20 := p297_ok
def t88_c20 : LR := p325 ++ (p326)
theorem u88_c20 : MO 88 t88_c20 := .append _ _ p325_ok (p326_ok)
def t90_c20 : LR := p462 ++ (p463 ++ (p464 ++ (p465 ++ (p466 ++ (p467 ++ (p468 ++ (p469 ++ (p470 ++ (p471 ++ (p472 ++ (p473 ++ (p474 ++ (p475 ++ (p476 ++ (p477 ++ (p478 ++ (p479 ++ (p480 ++ (p481 ++ (p482))))))))))))))))))))
theorem u90_c20 : MO 90 t90_c20 := .append _ _ p462_ok (.append _ _ p463_ok (.append _ _ p464_ok (.append _ _ p465_ok (.append _ _ p466_ok (.append _ _ p467_ok (.append _ _ p468_ok (.append _ _ p469_ok (.append _ _ p470_ok (.append _ _ p471_ok (.append _ _ p472_ok (.append _ _ p473_ok (.append _ _ p474_ok (.append _ _ p475_ok (.append _ _ p476_ok (.append _ _ p477_ok (.append _ _ p478_ok (.append _ _ p479_ok (.append _ _ p480_ok (.append _ _ p481_ok (p482_ok))))))))))))))))))))
def t10_c20 : LR := p609 ++ (p610 ++ (p611 ++ (p612 ++ (p613))))
theorem u10_c20 : MO 10 t10_c20 := .append _ _ p609_ok (.append _ _ p610_ok (.append _ _ p611_ok (.append _ _ p612_ok (p613_ok))))
def t11_c20 : LR := p657
theorem u11_c20 : MO 11 t11_c20 := p657_ok
theorem fc20 : FQ t87_c20 t88_c20 t90_c20 := fD u87_c20 u88_c20 u90_c20
def t31_c21 : LR := p49 ++ (p50 ++ (p51))
theorem u31_c21 : MO 31 t31_c21 := .append _ _ p49_ok (.append _ _ p50_ok (p51_ok))
def t15_c21 : LR := p224 ++ (p225 ++ (p226 ++ (p227 ++ (p228 ++ (p229 ++ (p230 ++ (p231 ++ (p232 ++ (p233 ++ (p234 ++ (p235)))))))))))
theorem u15_c21 : MO 15 t15_c21 := .append _ _ p224_ok (.append _ _ p225_ok (.append _ _ p226_ok (.append _ _ p227_ok (.append _ _ p228_ok (.append _ _ p229_ok (.append _ _ p230_ok (.append _ _ p231_ok (.append _ _ p232_ok (.append _ _ p233_ok (.append _ _ p234_ok (p235_ok)))))))))))
def t87_c21 : LR := p298
theorem u87_c21 : MO 87 t87_c21 := p298_ok
def t88_c21 : LR := p327
theorem u88_c21 : MO 88 t88_c21 := p327_ok
def t90_c21 : LR := p483 ++ (p484 ++ (p485 ++ (p486 ++ (p487 ++ (p488 ++ (p489 ++ (p490 ++ (p491 ++ (p492 ++ (p493 ++ (p494 ++ (p495 ++ (p496)))))))))))))
theorem u90_c21 : MO 90 t90_c21 := .append _ _ p483_ok (.append _ _ p484_ok (.append _ _ p485_ok (.append _ _ p486_ok (.append _ _ p487_ok (.append _ _ p488_ok (.append _ _ p489_ok (.append _ _ p490_ok (.append _ _ p491_ok (.append _ _ p492_ok (.append _ _ p493_ok (.append _ _ p494_ok (.append _ _ p495_ok (p496_ok)))))))))))))
def t10_c21 : LR := p614 ++ (p615 ++ (p616 ++ (p617)))
theorem u10_c21 : MO 10 t10_c21 := .append _ _ p614_ok (.append _ _ p615_ok (.append _ _ p616_ok (p617_ok)))
def t11_c21 : LR := p658
theorem u11_c21 : MO 11 t11_c21 := p658_ok
theorem fc21 : FQ t87_c21 t88_c21 t90_c21 := fD u87_c21 u88_c21 u90_c21
def t31_c22 : LR := p52 ++ (p53 ++ (p54))
theorem u31_c22 : MO 31 t31_c22 := .append _ _ p52_ok (.append _ _ p53_ok (p54_ok))
def t15_c22 : LR := p236 ++ (p237 ++ (p238 ++ (p239 ++ (p240 ++ (p241 ++ (p242 ++ (p243 ++ (p244 ++ (p245 ++ (p246 ++ (p247 ++ (p248))))))))))))
theorem u15_c22 : MO 15 t15_c22 := .append _ _ p236_ok (.append _ _ p237_ok (.append _ _ p238_ok (.append _ _ p239_ok (.append _ _ p240_ok (.append _ _ p241_ok (.append _ _ p242_ok (.append _ _ p243_ok (.append _ _ p244_ok (.append _ _ p245_ok (.append _ _ p246_ok (.append _ _ p247_ok (p248_ok))))))))))))
def t87_c22 : LR := p299
theorem u87_c22 : MO 87 t87_c22 := p299_ok
def t88_c22 : LR := p328 ++ (p329)
theorem u88_c22 : MO 88 t88_c22 := .append _ _ p328_ok (p329_ok)
def t90_c22 : LR := p497 ++ (p498 ++ (p499 ++ (p500 ++ (p501 ++ (p502 ++ (p503 ++ (p504 ++ (p505 ++ (p506 ++ (p507 ++ (p508 ++ (p509 ++ (p510 ++ (p511))))))))))))))
theorem u90_c22 : MO 90 t90_c22 := .append _ _ p497_ok (.append _ _ p498_ok (.append _ _ p499_ok (.append _ _ p500_ok (.append _ _ p501_ok (.append _ _ p502_ok (.append _ _ p503_ok (.append _ _ p504_ok (.append _ _ p505_ok (.append _ _ p506_ok (.append _ _ p507_ok (.append _ _ p508_ok (.append _ _ p509_ok (.append _ _ p510_ok (p511_ok))))))))))))))
def t10_c22 : LR := p618 ++ (p619 ++ (p620))
theorem u10_c22 : MO 10 t10_c22 := .append _ _ p618_ok (.append _ _ p619_ok (p620_ok))
def t11_c22 : LR := p659
theorem u11_c22 : MO 11 t11_c22 := p659_ok
theorem fc22 : FQ t87_c22 t88_c22 t90_c22 := fD u87_c22 u88_c22 u90_c22
def t31_c23 : LR := p55 ++ (p56)
theorem u31_c23 : MO 31 t31_c23 := .append _ _ p55_ok (p56_ok)
def t15_c23 : LR := p249 ++ (p250 ++ (p251 ++ (p252 ++ (p253))))
theorem u15_c23 : MO 15 t15_c23 := .append _ _ p249_ok (.append _ _ p250_ok (.append _ _ p251_ok (.append _ _ p252_ok (p253_ok))))
def t87_c23 : LR := p300
theorem u87_c23 : MO 87 t87_c23 := p300_ok
def t88_c23 : LR := p330
theorem u88_c23 : MO 88 t88_c23 := p330_ok
def t90_c23 : LR := p512 ++ (p513 ++ (p514 ++ (p515 ++ (p516 ++ (p517 ++ (p518 ++ (p519)))))))
theorem u90_c23 : MO 90 t90_c23 := .append _ _ p512_ok (.append _ _ p513_ok (.append _ _ p514_ok (.append _ _ p515_ok (.append _ _ p516_ok (.append _ _ p517_ok (.append _ _ p518_ok (p519_ok)))))))
def t10_c23 : LR := p621 ++ (p622 ++ (p623))
theorem u10_c23 : MO 10 t10_c23 := .append _ _ p621_ok (.append _ _ p622_ok (p623_ok))
def t11_c23 : LR := p660
theorem u11_c23 : MO 11 t11_c23 := p660_ok
theorem fc23 : FQ t87_c23 t88_c23 t90_c23 := fD u87_c23 u88_c23 u90_c23
def t31_c24 : LR := p57 ++ (p58 ++ (p59 ++ (p60 ++ (p61 ++ (p62)))))
theorem u31_c24 : MO 31 t31_c24 := .append _ _ p57_ok (.append _ _ p58_ok (.append _ _ p59_ok (.append _ _ p60_ok (.append _ _ p61_ok (p62_ok)))))
def t15_c24 : LR := p254 ++ (p255 ++ (p256 ++ (p257 ++ (p258 ++ (p259 ++ (p260 ++ (p261 ++ (p262 ++ (p263 ++ (p264 ++ (p265 ++ (p266 ++ (p267 ++ (p268 ++ (p269 ++ (p270 ++ (p271 ++ (p272 ++ (p273)))))))))))))))))))
theorem u15_c24 : MO 15 t15_c24 := .append _ _ p254_ok (.append _ _ p255_ok (.append _ _ p256_ok (.append _ _ p257_ok (.append _ _ p258_ok (.append _ _ p259_ok (.append _ _ p260_ok (.append _ _ p261_ok (.append _ _ p262_ok (.append _ _ p263_ok (.append _ _ p264_ok (.append _ _ p265_ok (.append _ _ p266_ok (.append _ _ p267_ok (.append _ _ p268_ok (.append _ _ p269_ok (.append _ _ p270_ok (.append _ _ p271_ok (.append _ _ p272_ok (p273_ok)))))))))))))))))))
def t87_c24 : LR := p301
theorem u87_c24 : MO 87 t87_c24 := p301_ok
def t88_c24 : LR := p331 ++ (p332)
theorem u88_c24 : MO 88 t88_c24 := .append _ _ p331_ok (p332_ok)
def t90_c24 : LR := p520 ++ (p521 ++ (p522 ++ (p523 ++ (p524 ++ (p525 ++ (p526 ++ (p527 ++ (p528 ++ (p529 ++ (p530 ++ (p531 ++ (p532 ++ (p533 ++ (p534 ++ (p535 ++ (p536 ++ (p537 ++ (p538 ++ (p539 ++ (p540 ++ (p541 ++ (p542 ++ (p543 ++ (p544 ++ (p545 ++ (p546 ++ (p547 ++ (p548 ++ (p549 ++ (p550 ++ (p551 ++ (p552))))))))))))))))))))))))))))))))
theorem u90_c24 : MO 90 t90_c24 := .append _ _ p520_ok (.append _ _ p521_ok (.append _ _ p522_ok (.append _ _ p523_ok (.append _ _ p524_ok (.append _ _ p525_ok (.append _ _ p526_ok (.append _ _ p527_ok (.append _ _ p528_ok (.append _ _ p529_ok (.append _ _ p530_ok (.append _ _ p531_ok (.append _ _ p532_ok (.append _ _ p533_ok (.append _ _ p534_ok (.append _ _ p535_ok (.append _ _ p536_ok (.append _ _ p537_ok (.append _ _ p538_ok (.append _ _ p539_ok (.append _ _ p540_ok (.append _ _ p541_ok (.append _ _ p542_ok (.append _ _ p543_ok (.append _ _ p544_ok (.append _ _ p545_ok (.append _ _ p546_ok (.append _ _ p547_ok (.append _ _ p548_ok (.append _ _ p549_ok (.append _ _ p550_ok (.append _ _ p551_ok (p552_ok))))))))))))))))))))))))))))))))
def t10_c24 : LR := p624 ++ (p625 ++ (p626 ++ (p627 ++ (p628 ++ (p629 ++ (p630))))))
theorem u10_c24 : MO 10 t10_c24 := .append _ _ p624_ok (.append _ _ p625_ok (.append _ _ p626_ok (.append _ _ p627_ok (.append _ _ p628_ok (.append _ _ p629_ok (p630_ok))))))
def t11_c24 : LR := p661 ++ (p662)
theorem u11_c24 : MO 11 t11_c24 := .append _ _ p661_ok (p662_ok)
theorem fc24 : FQ t87_c24 t88_c24 t90_c24 := fD u87_c24 u88_c24 u90_c24
end Go.Proofs.YthkpeakeoepocaaGreatDoor.AD
