/- Threaded code of some functions, by program (gent.py). -/
import Derived.Test.YthkpeakeoepocaaGreatDoorXB
import Derived.Test.YthkpeakeoepocaaGreatDoorALZ
import Derived.Test.YthkpeakeoepocaaGreatDoorXC
import Derived.Test.YthkpeakeoepocaaGreatDoorQBA
import Derived.Test.YthkpeakeoepocaaGreatDoorQBB
import Derived.Test.YthkpeakeoepocaaGreatDoorQBC
namespace Go.Proofs.YthkpeakeoepocaaGreatDoor.LB
set_option linter.unusedSimpArgs false
set_option linter.unusedVariables false
open Go Go.AL Go.Proofs
set_option maxRecDepth 100000
noncomputable section
def q4_0 : RunT := (t_seq (t_reg (o_bin .lss (b_cmp ltI) D81 Y80 Y79 q_end)) (t_seq (t_cond Y81 t_skip (t_exit (nat_lit 2))) (t_seq (t_blk (nat_lit 3) (t_seq (t_reg (o_idx (nat_lit 1) D82 Y78 Y80 (o_load D83 Y82 (o_mov D14 Y83 q_end)))) (t_seq (t_reg (o_mov D85 Y14 (o_mov D86 Y12 (o_call .d0 .d0 .d12 D87 [Y85, Y86, (gk (.int .i64 (.ofNat (nat_lit 200000))))] (o_mov D84 Y87 (o_ext (nat_lit 0) D88 Y84 (o_ext (nat_lit 1) D89 Y84 (o_ext (nat_lit 2) D90 Y84 (o_mov D15 Y88 (o_mov D16 Y89 (o_mov D17 Y90 q_end))))))))))) (t_seq (t_reg (o_mov D91 Y16 (o_mov D92 Y91 (o_grd Y92 false D93 (o_mov D93 Y17) (o_grd Y92 false D94 (o_bin .neq (b_cmp neI) D94 Y93 K0) (o_pick D95 Y92 (gk (.bool true)) Y94 q_end)))))) (t_cond Y95 (t_seq (t_reg (o_mov D4 (gk (.bool false)) q_end)) t_ret) t_skip))))) (t_reg (o_bin .add b_add D96 Y80 K1 (o_mov D80 Y96 q_end))))))
def q4_1 : RunT := (t_seq (t_reg (o_bin .lss (b_cmp ltI) D57 Y56 Y55 q_end)) (t_seq (t_cond Y57 t_skip (t_exit (nat_lit 0))) (t_seq (t_blk (nat_lit 1) (t_seq (t_reg (o_mov D58 Y56 (o_idx (nat_lit 1) D59 Y54 Y56 (o_load D60 Y59 (o_mov D11 Y58 (o_mov D12 Y60 q_end)))))) (t_seq (t_seq (t_reg (o_mov D61 Y12 (o_call .d0 .d0 .d10 D62 [Y61] (o_un .not D63 Y62 (o_mov D64 Y63 (o_grd Y64 false D65 (o_mov D65 Y12) (o_grd Y64 false D66 (o_len D66 Y65) (o_grd Y64 false D67 (o_mov D67 Y5) (o_grd Y64 false D68 (o_bin .neq (b_cmp neI) D68 Y66 Y67) (o_pick D69 Y64 (gk (.bool true)) Y68 (o_mov D70 Y69 (o_grd Y70 false D71 (o_mov D71 Y12) (o_grd Y70 false D72 (o_call .d0 .d0 .d11 D72 [Y71]) (o_grd Y70 false D73 (o_mov D73 Y6) (o_grd Y70 false D74 (o_bin .neq (b_cmp neI) D74 Y72 Y73) (o_pick D75 Y70 (gk (.bool true)) Y74 q_end)))))))))))))))) (t_cond Y75 (t_seq (t_reg (o_mov D4 (gk (.bool false)) q_end)) t_ret) t_skip)) (t_seq (t_reg (o_mov D76 Y7 (o_mov D77 Y11 (o_sub okB (fun E => (.slice 1 (.k (g4 h12 E)) none (some (.k (g4 h13 E))) none)) D78 (o_len D79 Y78 (o_mov D80 K0 q_end)))))) (t_blk (nat_lit 2) (t_loop q4_0)))))) (t_reg (o_bin .add b_add D97 Y56 K1 (o_mov D56 Y97 q_end))))))
def rest4 : RunT := (t_seq (t_reg (o_mov D27 Y5 (o_mov D28 Y6 (o_call .d0 .d0 .d8 D29 [Y27, Y28] (o_mov D26 Y29 (o_ext (nat_lit 0) D30 Y26 (o_ext (nat_lit 1) D31 Y26 (o_mov D7 Y30 (o_mov D8 Y31 q_end))))))))) (t_seq (t_reg (o_mov D33 Y5 (o_mov D34 Y6 (o_call .d0 .d0 .d9 D35 [Y33, Y34] (o_mov D32 Y35 (o_ext (nat_lit 0) D36 Y32 (o_ext (nat_lit 1) D37 Y32 (o_mov D9 Y36 (o_mov D10 Y37 q_end))))))))) (t_seq (t_seq (t_reg (o_mov D38 Y8 (o_bin .neq (b_cmp neI) D39 Y38 K0 (o_mov D40 Y39 (o_grd Y40 false D41 (o_mov D41 Y10) (o_grd Y40 false D42 (o_bin .neq (b_cmp neI) D42 Y41 K0) (o_pick D43 Y40 (gk (.bool true)) Y42 (o_mov D44 Y43 (o_grd Y44 false D45 (o_mov D45 Y7) (o_grd Y44 false D46 (o_len D46 Y45) (o_grd Y44 false D47 (o_mov D47 Y9) (o_grd Y44 false D48 (o_bin .neq (b_cmp neI) D48 Y46 Y47) (o_pick D49 Y44 (gk (.bool true)) Y48 (o_mov D50 Y49 (o_grd Y50 false D51 (o_mov D51 Y9) (o_grd Y50 false D52 (o_bin .lss (b_cmp ltI) D52 Y51 K1) (o_pick D53 Y50 (gk (.bool true)) Y52 q_end))))))))))))))))) (t_cond Y53 (t_seq (t_reg (o_mov D4 (gk (.bool false)) q_end)) t_ret) t_skip)) (t_seq (t_seq (t_reg (o_mov D54 Y7 (o_len D55 Y54 (o_mov D56 K0 q_end)))) (t_blk (nat_lit 0) (t_loop q4_1))) (t_seq (t_reg (o_call .d0 .d0 .d7 D98 [] (o_mov D4 Y98 q_end))) t_ret)))))
def os4_0 : List COp := [⟨(some 4), none, (.mov (.k (.bool false)))⟩]
def os4_1 : List COp := [⟨(some 18), none, (.mov (.t 0))⟩, ⟨(some 19), none, (.conv .i64 (.t 18))⟩, ⟨(some 20), none, (.bin .rem (.t 19) (.k (.int .i64 (.ofNat (nat_lit 3)))))⟩, ⟨(some 21), none, (.bin .add (.k (.int .i64 (.ofNat (nat_lit 1)))) (.t 20))⟩, ⟨(some 22), none, (.mov (.t 1))⟩, ⟨(some 23), none, (.conv .i64 (.t 22))⟩, ⟨(some 24), none, (.bin .rem (.t 23) (.k (.int .i64 (.ofNat (nat_lit 24)))))⟩, ⟨(some 25), none, (.bin .add (.k (.int .i64 (.ofNat (nat_lit 1)))) (.t 24))⟩, ⟨(some 5), none, (.mov (.t 21))⟩, ⟨(some 6), none, (.mov (.t 25))⟩]
theorem rest4_ok : rest4 = tr okB true (tail2 ((Tryz.f4.body.bind (compC Tryz.prog G Tryz.f4.ntmps)).getD .skip)) := by kernel_rfl
theorem comp4 : Tryz.f4.body.bind (compC Tryz.prog G Tryz.f4.ntmps) = some (.seq (.reg os4_0 none) (.seq (.reg os4_1 none) (tail2 ((Tryz.f4.body.bind (compC Tryz.prog G Tryz.f4.ntmps)).getD .skip)))) := by kernel_rfl
def rg4 : List RG := [(.t Y4)]
theorem rv4 : (Tryz.f4.results.toList.mapM (cRes Tryz.prog)) = some ((Tryz.f4.results.toList.mapM (cRes Tryz.prog)).getD []) := by kernel_rfl
theorem rg4_ok : rg4 = ((Tryz.f4.results.toList.mapM (cRes Tryz.prog)).getD []).map trR := by kernel_rfl
def t9 : RunT := (t_seq (t_reg (o_mov D4 K0 (o_mov D5 K0 q_end))) (t_seq (t_reg (o_mov D9 Y0 (o_mov D10 Y1 (o_call .d0 .d0 .d8 D11 [Y9, Y10] (o_mov D8 Y11 (o_ext (nat_lit 0) D12 Y8 (o_ext (nat_lit 1) D13 Y8 (o_mov D6 Y12 (o_mov D7 Y13 q_end))))))))) (t_seq (t_reg (o_mov D14 Y6 (o_len D15 Y14 (o_mov D16 Y7 (o_mov D4 Y15 (o_mov D5 Y16 q_end)))))) t_ret)))
def e9 : Ent := .code t9 17 [(.t Y4), (.t Y5)] false
theorem k9 : EOT Tryz.prog G okB 9 e9 := eotA true Tryz.func9
end
end Go.Proofs.YthkpeakeoepocaaGreatDoor.LB

/- The table of the fast evaluator, by program (gent.py). -/
namespace Go.Proofs.YthkpeakeoepocaaGreatDoor.LB
set_option linter.unusedSimpArgs false
set_option linter.unusedVariables false
open Go Go.AL Go.Proofs
set_option maxRecDepth 100000
def nR : N16 Ent := ⟨.no, .no, .no, .no, .no, .no, .no, .no, .no, .no, .no, .no, .no, .no, .no, .no⟩
theorem nR_ok (g : Nat → Nat) : nR.All fun k e => EOT Tryz.prog G okB (g k) e := ⟨trivial, trivial, trivial, trivial, trivial, trivial, trivial, trivial, trivial, trivial, trivial, trivial, trivial, trivial, trivial, trivial⟩
def nRR : N16 (N16 Ent) := ⟨nR, nR, nR, nR, nR, nR, nR, nR, nR, nR, nR, nR, nR, nR, nR, nR⟩
theorem nRR_ok (g : Nat → Nat → Nat) : nRR.All fun j r => r.All fun k e => EOT Tryz.prog G okB (g j k) e := ⟨nR_ok _, nR_ok _, nR_ok _, nR_ok _, nR_ok _, nR_ok _, nR_ok _, nR_ok _, nR_ok _, nR_ok _, nR_ok _, nR_ok _, nR_ok _, nR_ok _, nR_ok _, nR_ok _⟩
noncomputable def w0 (x7 x8 x10 x11 x12 : Ent) : N16 Ent := ⟨.no, .no, .no, .no, .no, .no, .no, x7, x8, e9, x10, x11, x12, .no, .no, .no⟩
theorem w0_ok {x7 x8 x10 x11 x12 : Ent} (h7 : EOT Tryz.prog G okB 7 x7) (h8 : EOT Tryz.prog G okB 8 x8) (h10 : EOT Tryz.prog G okB 10 x10) (h11 : EOT Tryz.prog G okB 11 x11) (h12 : EOT Tryz.prog G okB 12 x12) : (w0 x7 x8 x10 x11 x12).All fun k e => EOT Tryz.prog G okB (256 * 0 + 16 * 0 + k) e := ⟨trivial, trivial, trivial, trivial, trivial, trivial, trivial, h7, h8, k9, h10, h11, h12, trivial, trivial, trivial⟩
noncomputable def v0 (x7 x8 x10 x11 x12 : Ent) : N16 (N16 Ent) := ⟨w0 x7 x8 x10 x11 x12, nR, nR, nR, nR, nR, nR, nR, nR, nR, nR, nR, nR, nR, nR, nR⟩
theorem v0_ok {x7 x8 x10 x11 x12 : Ent} (h7 : EOT Tryz.prog G okB 7 x7) (h8 : EOT Tryz.prog G okB 8 x8) (h10 : EOT Tryz.prog G okB 10 x10) (h11 : EOT Tryz.prog G okB 11 x11) (h12 : EOT Tryz.prog G okB 12 x12) : (v0 x7 x8 x10 x11 x12).All fun j r => r.All fun k e => EOT Tryz.prog G okB (256 * 0 + 16 * j + k) e := ⟨w0_ok h7 h8 h10 h11 h12, nR_ok _, nR_ok _, nR_ok _, nR_ok _, nR_ok _, nR_ok _, nR_ok _, nR_ok _, nR_ok _, nR_ok _, nR_ok _, nR_ok _, nR_ok _, nR_ok _, nR_ok _⟩
noncomputable def TM (x7 x8 x10 x11 x12 : Ent) : Tab := ⟨v0 x7 x8 x10 x11 x12, nRR, nRR, nRR, nRR, nRR, nRR, nRR, nRR, nRR, nRR, nRR, nRR, nRR, nRR, nRR⟩
theorem TM_ok {x7 x8 x10 x11 x12 : Ent} (h7 : EOT Tryz.prog G okB 7 x7) (h8 : EOT Tryz.prog G okB 8 x8) (h10 : EOT Tryz.prog G okB 10 x10) (h11 : EOT Tryz.prog G okB 11 x11) (h12 : EOT Tryz.prog G okB 12 x12) : TOK Tryz.prog G okB (TM x7 x8 x10 x11 x12) := ⟨v0_ok h7 h8 h10 h11 h12, nRR_ok _, nRR_ok _, nRR_ok _, nRR_ok _, nRR_ok _, nRR_ok _, nRR_ok _, nRR_ok _, nRR_ok _, nRR_ok _, nRR_ok _, nRR_ok _, nRR_ok _, nRR_ok _, nRR_ok _⟩
theorem runM {x7 x8 x10 x11 x12 : Ent} (h7 : EOT Tryz.prog G okB 7 x7) (h8 : EOT Tryz.prog G okB 8 x8) (h10 : EOT Tryz.prog G okB 10 x10) (h11 : EOT Tryz.prog G okB 11 x11) (h12 : EOT Tryz.prog G okB 12 x12) {n f : Nat} {args : List AV} {H : Heap} {v : AV} {H' : Heap} (h : frun (exT (TM x7 x8 x10 x11 x12) n) f args H = some (v, H')) : Ret Tryz.prog G f args H v H' := exT_sound (by kernel_rfl) okB_ok mixed (TM_ok h7 h8 h10 h11 h12) n f args H v H' h
theorem qM {x7 x8 x10 x11 x12 : Ent} (h7 : EOT Tryz.prog G okB 7 x7) (h8 : EOT Tryz.prog G okB 8 x8) (h10 : EOT Tryz.prog G okB 10 x10) (h11 : EOT Tryz.prog G okB 11 x11) (h12 : EOT Tryz.prog G okB 12 x12) {f : Nat} {l : List (List AV × AV)} (h : chk (TM x7 x8 x10 x11 x12) f l = true) : MemoOK Tryz.prog G f l := chk_ok (fun _ _ => runM h7 h8 h10 h11 h12) l h
end Go.Proofs.YthkpeakeoepocaaGreatDoor.LB

/- minkowski.shortest again, in the order that dimension 1 needs; the table with it. -/
namespace Go.Proofs.YthkpeakeoepocaaGreatDoor.U1
set_option linter.unusedSimpArgs false
set_option linter.unusedVariables false
open Go Go.AL Go.Proofs
set_option maxRecDepth 100000
noncomputable section
def q104_0 : RunT := (t_seq (t_reg (o_bin .lss (b_cmp ltI) D14 Y13 Y12 q_end)) (t_seq (t_cond Y14 t_skip (t_exit (nat_lit 0))) (t_seq (t_blk (nat_lit 1) (t_seq (t_reg (o_mov D15 Y13 (o_mov D6 Y15 q_end))) (t_seq (t_reg (o_mov D16 Y1 (o_mov D17 Y6 (o_call .d0 .d9 .d12 D18 [Y16, Y17] (o_box D7 (gk (.agg [(.int .i64 (.ofNat (nat_lit 0))), (.int .i64 (.ofNat (nat_lit 0))), (.int .i64 (.ofNat (nat_lit 0))), (.int .i64 (.ofNat (nat_lit 0)))])) (o_storea (nat_lit 4) Y7 Y18 q_end)))))) (t_seq (t_dyf (f_op (fun next => o_mov D19 Y0 (next ([], []))) (f_op (f_loada (nat_lit 4) D20 Y7) (f_op (f_call (nat_lit 157) D21 [Y19, Y20]) (f_op (fun next => o_mov D22 Y0 (next ([], []))) (f_op (f_loada (nat_lit 4) D23 Y5) (f_op (f_call (nat_lit 157) D24 [Y22, Y23]) (f_op (fun next => o_bin .lss (b_cmp ltI) D25 Y21 Y24 (next ([], []))) (f_end [(1, 4), (2, 4)]))))))))) (t_cond Y25 (t_reg (o_loada (nat_lit 4) D26 Y7 (o_storea (nat_lit 4) Y5 Y26 q_end))) t_skip))))) (t_reg (o_bin .add b_add D27 Y13 K1 (o_mov D13 Y27 q_end))))))
def t104 : RunT := (t_seq (t_reg (o_box D4 (gk (.agg [(.int .i64 (.ofNat (nat_lit 0))), (.int .i64 (.ofNat (nat_lit 0))), (.int .i64 (.ofNat (nat_lit 0))), (.int .i64 (.ofNat (nat_lit 0)))])) q_end)) (t_seq (t_reg (o_box D5 (gk (.agg [(.int .i64 (.ofNat (nat_lit 0))), (.int .i64 (.ofNat (nat_lit 0))), (.int .i64 (.ofNat (nat_lit 0))), (.int .i64 (.ofNat (nat_lit 0)))])) q_end)) (t_seq (t_reg (o_mov D8 Y1 (o_idxa (nat_lit 4) (nat_lit 1) D9 Y5 Y8 (o_store Y9 K1 q_end)))) (t_seq (t_seq (t_reg (o_mov D10 Y1 (o_idxa (nat_lit 4) (nat_lit 1) D11 (gk (.iptr [(.int .i64 (.ofNat (nat_lit 1))), (.int .i64 (.ofNat (nat_lit 3))), (.int .i64 (.ofNat (nat_lit 9))), (.int .i64 (.ofNat (nat_lit 27)))] 0)) Y10 (o_load D12 Y11 (o_mov D13 K0 q_end))))) (t_blk (nat_lit 0) (t_loop q104_0))) (t_seq (t_reg (o_loada (nat_lit 4) D28 Y5 (o_storea (nat_lit 4) Y4 Y28 q_end))) t_ret)))))
def e104 : Ent := .code t104 29 [(.c Y4 true (nat_lit 4))] false
theorem k104 : EOT Tryz.prog G okB 104 e104 := eotA false Tryz.func104
def w0 (x12 x15 : Ent) : N16 Ent := ⟨.no, .no, .no, .no, .no, .no, .no, e7, e8, e9, e10, e11, x12, .no, e14, x15⟩
theorem w0_ok {x12 x15 : Ent} (h12 : EOT Tryz.prog G okB 12 x12) (h15 : EOT Tryz.prog G okB 15 x15) : (w0 x12 x15).All fun k e => EOT Tryz.prog G okB (256 * 0 + 16 * 0 + k) e := ⟨trivial, trivial, trivial, trivial, trivial, trivial, trivial, k7, k8, k9, k10, k11, h12, trivial, k14, h15⟩
def w16 : N16 Ent := ⟨e16, e17, e18, e19, e20, e21, e22, e23, e24, e25, .no, e27, e28, e29, e30, e31⟩
theorem w16_ok : w16.All fun k e => EOT Tryz.prog G okB (256 * 0 + 16 * 1 + k) e := ⟨k16, k17, k18, k19, k20, k21, k22, k23, k24, k25, trivial, k27, k28, k29, k30, k31⟩
def w80 : N16 Ent := ⟨e80, e81, e82, e83, e84, e85, e86, e87, e88, .no, e90, e91, e92, e93, e94, e95⟩
theorem w80_ok : w80.All fun k e => EOT Tryz.prog G okB (256 * 0 + 16 * 5 + k) e := ⟨k80, k81, k82, k83, k84, k85, k86, k87, k88, trivial, k90, k91, k92, k93, k94, k95⟩
def w96 : N16 Ent := ⟨e96, e97, e98, .no, .no, .no, (orE gWord e102), e103, e104, e105, e106, e107, e108, e109, e110, e111⟩
theorem w96_ok : w96.All fun k e => EOT Tryz.prog G okB (256 * 0 + 16 * 6 + k) e := ⟨k96, k97, k98, trivial, trivial, trivial, (orE_ok (by kernel_rfl) okB_ok mixed gWord_ok k102), k103, k104, k105, k106, k107, k108, k109, k110, k111⟩
def v0 (x12 x15 : Ent) : N16 (N16 Ent) := ⟨w0 x12 x15, w16, w32, w48, w64, w80, w96, w112, w128, w144, w160, w176, w192, w208, w224, w240⟩
theorem v0_ok {x12 x15 : Ent} (h12 : EOT Tryz.prog G okB 12 x12) (h15 : EOT Tryz.prog G okB 15 x15) : (v0 x12 x15).All fun j r => r.All fun k e => EOT Tryz.prog G okB (256 * 0 + 16 * j + k) e := ⟨w0_ok h12 h15, w16_ok, w32_ok, w48_ok, w64_ok, w80_ok, w96_ok, w112_ok, w128_ok, w144_ok, w160_ok, w176_ok, w192_ok, w208_ok, w224_ok, w240_ok⟩
def v1 : N16 (N16 Ent) := ⟨nR, nR, nR, nR, nR, nR, nR, nR, nR, nR, nR, nR, nR, nR, nR, nR⟩
theorem v1_ok : v1.All fun j r => r.All fun k e => EOT Tryz.prog G okB (256 * 1 + 16 * j + k) e := ⟨nR_ok _, nR_ok _, nR_ok _, nR_ok _, nR_ok _, nR_ok _, nR_ok _, nR_ok _, nR_ok _, nR_ok _, nR_ok _, nR_ok _, nR_ok _, nR_ok _, nR_ok _, nR_ok _⟩
def v2 : N16 (N16 Ent) := ⟨nR, nR, nR, nR, nR, nR, nR, nR, nR, nR, nR, nR, nR, nR, nR, nR⟩
theorem v2_ok : v2.All fun j r => r.All fun k e => EOT Tryz.prog G okB (256 * 2 + 16 * j + k) e := ⟨nR_ok _, nR_ok _, nR_ok _, nR_ok _, nR_ok _, nR_ok _, nR_ok _, nR_ok _, nR_ok _, nR_ok _, nR_ok _, nR_ok _, nR_ok _, nR_ok _, nR_ok _, nR_ok _⟩
def v3 : N16 (N16 Ent) := ⟨nR, nR, nR, nR, nR, nR, nR, nR, nR, nR, nR, nR, nR, nR, nR, nR⟩
theorem v3_ok : v3.All fun j r => r.All fun k e => EOT Tryz.prog G okB (256 * 3 + 16 * j + k) e := ⟨nR_ok _, nR_ok _, nR_ok _, nR_ok _, nR_ok _, nR_ok _, nR_ok _, nR_ok _, nR_ok _, nR_ok _, nR_ok _, nR_ok _, nR_ok _, nR_ok _, nR_ok _, nR_ok _⟩
def v4 : N16 (N16 Ent) := ⟨nR, nR, nR, nR, nR, nR, nR, nR, nR, nR, nR, nR, nR, nR, nR, nR⟩
theorem v4_ok : v4.All fun j r => r.All fun k e => EOT Tryz.prog G okB (256 * 4 + 16 * j + k) e := ⟨nR_ok _, nR_ok _, nR_ok _, nR_ok _, nR_ok _, nR_ok _, nR_ok _, nR_ok _, nR_ok _, nR_ok _, nR_ok _, nR_ok _, nR_ok _, nR_ok _, nR_ok _, nR_ok _⟩
def v5 : N16 (N16 Ent) := ⟨nR, nR, nR, nR, nR, nR, nR, nR, nR, nR, nR, nR, nR, nR, nR, nR⟩
theorem v5_ok : v5.All fun j r => r.All fun k e => EOT Tryz.prog G okB (256 * 5 + 16 * j + k) e := ⟨nR_ok _, nR_ok _, nR_ok _, nR_ok _, nR_ok _, nR_ok _, nR_ok _, nR_ok _, nR_ok _, nR_ok _, nR_ok _, nR_ok _, nR_ok _, nR_ok _, nR_ok _, nR_ok _⟩
def v6 : N16 (N16 Ent) := ⟨nR, nR, nR, nR, nR, nR, nR, nR, nR, nR, nR, nR, nR, nR, nR, nR⟩
theorem v6_ok : v6.All fun j r => r.All fun k e => EOT Tryz.prog G okB (256 * 6 + 16 * j + k) e := ⟨nR_ok _, nR_ok _, nR_ok _, nR_ok _, nR_ok _, nR_ok _, nR_ok _, nR_ok _, nR_ok _, nR_ok _, nR_ok _, nR_ok _, nR_ok _, nR_ok _, nR_ok _, nR_ok _⟩
def v7 : N16 (N16 Ent) := ⟨nR, nR, nR, nR, nR, nR, nR, nR, nR, nR, nR, nR, nR, nR, nR, nR⟩
theorem v7_ok : v7.All fun j r => r.All fun k e => EOT Tryz.prog G okB (256 * 7 + 16 * j + k) e := ⟨nR_ok _, nR_ok _, nR_ok _, nR_ok _, nR_ok _, nR_ok _, nR_ok _, nR_ok _, nR_ok _, nR_ok _, nR_ok _, nR_ok _, nR_ok _, nR_ok _, nR_ok _, nR_ok _⟩
def v8 : N16 (N16 Ent) := ⟨nR, nR, nR, nR, nR, nR, nR, nR, nR, nR, nR, nR, nR, nR, nR, nR⟩
theorem v8_ok : v8.All fun j r => r.All fun k e => EOT Tryz.prog G okB (256 * 8 + 16 * j + k) e := ⟨nR_ok _, nR_ok _, nR_ok _, nR_ok _, nR_ok _, nR_ok _, nR_ok _, nR_ok _, nR_ok _, nR_ok _, nR_ok _, nR_ok _, nR_ok _, nR_ok _, nR_ok _, nR_ok _⟩
def v9 : N16 (N16 Ent) := ⟨nR, nR, nR, nR, nR, nR, nR, nR, nR, nR, nR, nR, nR, nR, nR, nR⟩
theorem v9_ok : v9.All fun j r => r.All fun k e => EOT Tryz.prog G okB (256 * 9 + 16 * j + k) e := ⟨nR_ok _, nR_ok _, nR_ok _, nR_ok _, nR_ok _, nR_ok _, nR_ok _, nR_ok _, nR_ok _, nR_ok _, nR_ok _, nR_ok _, nR_ok _, nR_ok _, nR_ok _, nR_ok _⟩
def v10 : N16 (N16 Ent) := ⟨nR, nR, nR, nR, nR, nR, nR, nR, nR, nR, nR, nR, nR, nR, nR, nR⟩
theorem v10_ok : v10.All fun j r => r.All fun k e => EOT Tryz.prog G okB (256 * 10 + 16 * j + k) e := ⟨nR_ok _, nR_ok _, nR_ok _, nR_ok _, nR_ok _, nR_ok _, nR_ok _, nR_ok _, nR_ok _, nR_ok _, nR_ok _, nR_ok _, nR_ok _, nR_ok _, nR_ok _, nR_ok _⟩
def v11 : N16 (N16 Ent) := ⟨nR, nR, nR, nR, nR, nR, nR, nR, nR, nR, nR, nR, nR, nR, nR, nR⟩
theorem v11_ok : v11.All fun j r => r.All fun k e => EOT Tryz.prog G okB (256 * 11 + 16 * j + k) e := ⟨nR_ok _, nR_ok _, nR_ok _, nR_ok _, nR_ok _, nR_ok _, nR_ok _, nR_ok _, nR_ok _, nR_ok _, nR_ok _, nR_ok _, nR_ok _, nR_ok _, nR_ok _, nR_ok _⟩
def v12 : N16 (N16 Ent) := ⟨nR, nR, nR, nR, nR, nR, nR, nR, nR, nR, nR, nR, nR, nR, nR, nR⟩
theorem v12_ok : v12.All fun j r => r.All fun k e => EOT Tryz.prog G okB (256 * 12 + 16 * j + k) e := ⟨nR_ok _, nR_ok _, nR_ok _, nR_ok _, nR_ok _, nR_ok _, nR_ok _, nR_ok _, nR_ok _, nR_ok _, nR_ok _, nR_ok _, nR_ok _, nR_ok _, nR_ok _, nR_ok _⟩
def v13 : N16 (N16 Ent) := ⟨nR, nR, nR, nR, nR, nR, nR, nR, nR, nR, nR, nR, nR, nR, nR, nR⟩
theorem v13_ok : v13.All fun j r => r.All fun k e => EOT Tryz.prog G okB (256 * 13 + 16 * j + k) e := ⟨nR_ok _, nR_ok _, nR_ok _, nR_ok _, nR_ok _, nR_ok _, nR_ok _, nR_ok _, nR_ok _, nR_ok _, nR_ok _, nR_ok _, nR_ok _, nR_ok _, nR_ok _, nR_ok _⟩
def v14 : N16 (N16 Ent) := ⟨nR, nR, nR, nR, nR, nR, nR, nR, nR, nR, nR, nR, nR, nR, nR, nR⟩
theorem v14_ok : v14.All fun j r => r.All fun k e => EOT Tryz.prog G okB (256 * 14 + 16 * j + k) e := ⟨nR_ok _, nR_ok _, nR_ok _, nR_ok _, nR_ok _, nR_ok _, nR_ok _, nR_ok _, nR_ok _, nR_ok _, nR_ok _, nR_ok _, nR_ok _, nR_ok _, nR_ok _, nR_ok _⟩
def v15 : N16 (N16 Ent) := ⟨nR, nR, nR, nR, nR, nR, nR, nR, nR, nR, nR, nR, nR, nR, nR, w4080⟩
theorem v15_ok : v15.All fun j r => r.All fun k e => EOT Tryz.prog G okB (256 * 15 + 16 * j + k) e := ⟨nR_ok _, nR_ok _, nR_ok _, nR_ok _, nR_ok _, nR_ok _, nR_ok _, nR_ok _, nR_ok _, nR_ok _, nR_ok _, nR_ok _, nR_ok _, nR_ok _, nR_ok _, w4080_ok⟩
def TM (x12 x15 : Ent) : Tab := ⟨v0 x12 x15, v1, v2, v3, v4, v5, v6, v7, v8, v9, v10, v11, v12, v13, v14, v15⟩
theorem TM_ok {x12 x15 : Ent} (h12 : EOT Tryz.prog G okB 12 x12) (h15 : EOT Tryz.prog G okB 15 x15) : TOK Tryz.prog G okB (TM x12 x15) := ⟨v0_ok h12 h15, v1_ok, v2_ok, v3_ok, v4_ok, v5_ok, v6_ok, v7_ok, v8_ok, v9_ok, v10_ok, v11_ok, v12_ok, v13_ok, v14_ok, v15_ok⟩
theorem runM {x12 x15 : Ent} (h12 : EOT Tryz.prog G okB 12 x12) (h15 : EOT Tryz.prog G okB 15 x15) {n f : Nat} {args : List AV} {H : Heap} {v : AV} {H' : Heap} (h : frun (exT (TM x12 x15) n) f args H = some (v, H')) : Ret Tryz.prog G f args H v H' := exT_sound (by kernel_rfl) okB_ok mixed (TM_ok h12 h15) n f args H v H' h
theorem qM {x12 x15 : Ent} (h12 : EOT Tryz.prog G okB 12 x12) (h15 : EOT Tryz.prog G okB 15 x15) {f : Nat} {l : List (List AV × AV)} (h : chk (TM x12 x15) f l = true) : MemoOK Tryz.prog G f l := chk_ok (fun _ _ => runM h12 h15) l h
end
end Go.Proofs.YthkpeakeoepocaaGreatDoor.U1

/- Tables of results; construct.All (genall.py) -/
namespace Go.Proofs.YthkpeakeoepocaaGreatDoor.AD
set_option linter.unusedSimpArgs false
set_option linter.unusedVariables false
open Go Go.AL Go.Proofs U
set_option maxRecDepth 1000000
def r8 (n d : Nat) (l : List AV) : List AV × AV := ([I n, I d], .tup [.vec l l.length none, I 0])
theorem ap {f : Nat} {l r : LR} (h : MO f l) (k : MO f r) : MO f (l ++ r) := .append _ _ h k
def t12_a : LR := []
theorem u12_a : MO 12 t12_a := trivial
def t8_a : LR := [r8 2 2 [h0], r8 2 4 [h1], r8 2 6 [h2], r8 2 8 [h3], r8 2 10 [h4], r8 2 12 [h5], r8 2 14 [h6], r8 2 16 [h7], r8 2 18 [h8], r8 2 20 [h9], r8 2 22 [h10], r8 2 24 [h11], r8 2 26 [h12], r8 2 28 [h13], r8 2 30 [h14], r8 2 32 [h15], r8 2 34 [h16], r8 2 36 [h17], r8 2 38 [h18], r8 2 40 [h19], r8 2 42 [h20], r8 2 44 [h21], r8 2 46 [h22], r8 2 48 [h23]]
theorem u8_a : MO 8 t8_a := U1.qM (x12 := .known (memoK t12_a)) (x15 := .known (memoK t15_a)) (memo_ok u12_a) (memo_ok u15_a) (by kernel_rfl)
def t12_b0 : LR := b0 ++ (b1)
theorem u12_b0 : MO 12 t12_b0 := ap b0_ok (b1_ok)
def t8_b0 : LR := [r8 4 2 [h24], r8 4 4 [h25], r8 4 6 [h26, h27], r8 4 8 [h28, h29]]
theorem u8_b0 : MO 8 t8_b0 := gD u12_b0 u15_b0 u31_b0 (by kernel_rfl)
def t12_b1 : LR := b2 ++ (b3 ++ (b4 ++ (b5 ++ (b6))))
theorem u12_b1 : MO 12 t12_b1 := ap b2_ok (ap b3_ok (ap b4_ok (ap b5_ok (b6_ok))))
def t8_b1 : LR := [r8 4 10 [h30, h31], r8 4 12 [h32, h33], r8 4 14 [h34, h35], r8 4 16 [h36, h37, h38]]
theorem u8_b1 : MO 8 t8_b1 := gD u12_b1 u15_b1 u31_b1 (by kernel_rfl)
def t12_b2 : LR := b7 ++ (b8 ++ (b9 ++ (b10 ++ (b11 ++ (b12 ++ (b13 ++ (b14)))))))
theorem u12_b2 : MO 12 t12_b2 := ap b7_ok (ap b8_ok (ap b9_ok (ap b10_ok (ap b11_ok (ap b12_ok (ap b13_ok (b14_ok)))))))
def t8_b2 : LR := [r8 4 18 [h39, h40, h41], r8 4 20 [h42, h43], r8 4 22 [h44, h45, h46], r8 4 24 [h47, h48, h49, h50]]
theorem u8_b2 : MO 8 t8_b2 := gD u12_b2 u15_b2 u31_b2 (by kernel_rfl)
def t12_b3 : LR := b15 ++ (b16 ++ (b17 ++ (b18 ++ (b19 ++ (b20 ++ (b21 ++ (b22 ++ (b23))))))))
theorem u12_b3 : MO 12 t12_b3 := ap b15_ok (ap b16_ok (ap b17_ok (ap b18_ok (ap b19_ok (ap b20_ok (ap b21_ok (ap b22_ok (b23_ok))))))))
def t8_b3 : LR := [r8 4 26 [h51, h52], r8 4 28 [h53, h54, h55], r8 4 30 [h56, h57, h58, h59], r8 4 32 [h60, h61, h62, h63]]
theorem u8_b3 : MO 8 t8_b3 := gD u12_b3 u15_b3 u31_b3 (by kernel_rfl)
def t12_b4 : LR := b24 ++ (b25 ++ (b26 ++ (b27 ++ (b28 ++ (b29 ++ (b30 ++ (b31 ++ (b32 ++ (b33)))))))))
theorem u12_b4 : MO 12 t12_b4 := ap b24_ok (ap b25_ok (ap b26_ok (ap b27_ok (ap b28_ok (ap b29_ok (ap b30_ok (ap b31_ok (ap b32_ok (b33_ok)))))))))
def t8_b4 : LR := [r8 4 34 [h64, h65, h66], r8 4 36 [h67, h68, h69], r8 4 38 [h70, h71, h72], r8 4 40 [h73, h74, h75, h76, h77]]
theorem u8_b4 : MO 8 t8_b4 := gD u12_b4 u15_b4 u31_b4 (by kernel_rfl)
def t12_b5 : LR := b34 ++ (b35 ++ (b36 ++ (b37 ++ (b38 ++ (b39 ++ (b40 ++ (b41 ++ (b42 ++ (b43 ++ (b44 ++ (b45)))))))))))
theorem u12_b5 : MO 12 t12_b5 := ap b34_ok (ap b35_ok (ap b36_ok (ap b37_ok (ap b38_ok (ap b39_ok (ap b40_ok (ap b41_ok (ap b42_ok (ap b43_ok (ap b44_ok (b45_ok)))))))))))
def t8_b5 : LR := [r8 4 42 [h78, h79, h80, h81], r8 4 44 [h82, h83], r8 4 46 [h84, h85, h86, h87], r8 4 48 [h88, h89, h90, h91, h92, h93]]
theorem u8_b5 : MO 8 t8_b5 := gD u12_b5 u15_b5 u31_b5 (by kernel_rfl)
def t12_c1 : LR := []
theorem u12_c1 : MO 12 t12_c1 := trivial
def t8_c1 : LR := [r8 6 2 [h94]]
theorem u8_c1 : MO 8 t8_c1 := gD u12_c1 u15_c1 u31_c1 (by kernel_rfl)
def t12_c2 : LR := []
theorem u12_c2 : MO 12 t12_c2 := trivial
def t8_c2 : LR := [r8 6 4 [h95]]
theorem u8_c2 : MO 8 t8_c2 := gD u12_c2 u15_c2 u31_c2 (by kernel_rfl)
def t12_c3 : LR := b46
theorem u12_c3 : MO 12 t12_c3 := b46_ok
def t8_c3 : LR := [r8 6 6 [h96, h97]]
theorem u8_c3 : MO 8 t8_c3 := gD u12_c3 u15_c3 u31_c3 (by kernel_rfl)
def t12_c4 : LR := b47 ++ (b48 ++ (b185 ++ (b186 ++ (b187 ++ (b188 ++ (b189))))))
theorem u12_c4 : MO 12 t12_c4 := ap b47_ok (ap b48_ok (ap b185_ok (ap b186_ok (ap b187_ok (ap b188_ok (b189_ok))))))
def t8_c4 : LR := [r8 6 8 [h98, h99, h100]]
theorem u8_c4 : MO 8 t8_c4 := gD u12_c4 u15_c4 u31_c4 (by kernel_rfl)
def t12_c5 : LR := b49
theorem u12_c5 : MO 12 t12_c5 := b49_ok
def t8_c5 : LR := [r8 6 10 [h101, h102]]
theorem u8_c5 : MO 8 t8_c5 := gD u12_c5 u15_c5 u31_c5 (by kernel_rfl)
def t12_c6 : LR := b50 ++ (b51 ++ (b190 ++ (b191 ++ (b192))))
theorem u12_c6 : MO 12 t12_c6 := ap b50_ok (ap b51_ok (ap b190_ok (ap b191_ok (b192_ok))))
def t8_c6 : LR := [r8 6 12 [h103, h104, h105]]
theorem u8_c6 : MO 8 t8_c6 := gD u12_c6 u15_c6 u31_c6 (by kernel_rfl)
def t12_c7 : LR := b52 ++ (b53 ++ (b193 ++ (b194 ++ (b195))))
theorem u12_c7 : MO 12 t12_c7 := ap b52_ok (ap b53_ok (ap b193_ok (ap b194_ok (b195_ok))))
def t8_c7 : LR := [r8 6 14 [h106, h107, h108]]
theorem u8_c7 : MO 8 t8_c7 := gD u12_c7 u15_c7 u31_c7 (by kernel_rfl)
def t12_c8 : LR := b54 ++ (b55 ++ (b56 ++ (b57 ++ (b58))))
theorem u12_c8 : MO 12 t12_c8 := ap b54_ok (ap b55_ok (ap b56_ok (ap b57_ok (b58_ok))))
def t8_c8 : LR := [r8 6 16 [h109, h110, h111, h112, h113]]
theorem u8_c8 : MO 8 t8_c8 := gD u12_c8 u15_c8 u31_c8 (by kernel_rfl)
def t12_c9 : LR := b59 ++ (b60 ++ (b61))
theorem u12_c9 : MO 12 t12_c9 := ap b59_ok (ap b60_ok (b61_ok))
def t8_c9 : LR := [r8 6 18 [h114, h115, h116, h117]]
theorem u8_c9 : MO 8 t8_c9 := gD u12_c9 u15_c9 u31_c9 (by kernel_rfl)
def t12_c10 : LR := b62 ++ (b63 ++ (b64 ++ (b65 ++ (b66 ++ (b196 ++ (b197 ++ (b198)))))))
theorem u12_c10 : MO 12 t12_c10 := ap b62_ok (ap b63_ok (ap b64_ok (ap b65_ok (ap b66_ok (ap b196_ok (ap b197_ok (b198_ok)))))))
def t8_c10 : LR := [r8 6 20 [h118, h119, h120, h121]]
theorem u8_c10 : MO 8 t8_c10 := gD u12_c10 u15_c10 u31_c10 (by kernel_rfl)
def t12_c11 : LR := b67 ++ (b68)
theorem u12_c11 : MO 12 t12_c11 := ap b67_ok (b68_ok)
def t8_c11 : LR := [r8 6 22 [h122, h123, h124]]
theorem u8_c11 : MO 8 t8_c11 := gD u12_c11 u15_c11 u31_c11 (by kernel_rfl)
def t12_c12 : LR := b69 ++ (b70 ++ (b71 ++ (b72 ++ (b73 ++ (b74 ++ (b75 ++ (b76 ++ (b77 ++ (b199 ++ (b200))))))))))
theorem u12_c12 : MO 12 t12_c12 := ap b69_ok (ap b70_ok (ap b71_ok (ap b72_ok (ap b73_ok (ap b74_ok (ap b75_ok (ap b76_ok (ap b77_ok (ap b199_ok (b200_ok))))))))))
def t8_c12 : LR := [r8 6 24 [h125, h126, h127, h128, h129, h130, h131, h132]]
theorem u8_c12 : MO 8 t8_c12 := gD u12_c12 u15_c12 u31_c12 (by kernel_rfl)
def t12_c13 : LR := b78 ++ (b79 ++ (b80 ++ (b81 ++ (b82 ++ (b83 ++ (b201 ++ (b202)))))))
theorem u12_c13 : MO 12 t12_c13 := ap b78_ok (ap b79_ok (ap b80_ok (ap b81_ok (ap b82_ok (ap b83_ok (ap b201_ok (b202_ok)))))))
def t8_c13 : LR := [r8 6 26 [h133, h134, h135, h136]]
theorem u8_c13 : MO 8 t8_c13 := gD u12_c13 u15_c13 u31_c13 (by kernel_rfl)
def t12_c14 : LR := b84 ++ (b85 ++ (b86 ++ (b203 ++ (b204))))
theorem u12_c14 : MO 12 t12_c14 := ap b84_ok (ap b85_ok (ap b86_ok (ap b203_ok (b204_ok))))
def t8_c14 : LR := [r8 6 28 [h137, h138, h139, h140]]
theorem u8_c14 : MO 8 t8_c14 := gD u12_c14 u15_c14 u31_c14 (by kernel_rfl)
def t12_c15 : LR := b87 ++ (b88 ++ (b89 ++ (b90 ++ (b91 ++ (b205 ++ (b206))))))
theorem u12_c15 : MO 12 t12_c15 := ap b87_ok (ap b88_ok (ap b89_ok (ap b90_ok (ap b91_ok (ap b205_ok (b206_ok))))))
def t8_c15 : LR := [r8 6 30 [h141, h142, h143, h144, h145, h146]]
theorem u8_c15 : MO 8 t8_c15 := gD u12_c15 u15_c15 u31_c15 (by kernel_rfl)
def t12_c16 : LR := b92 ++ (b93 ++ (b94 ++ (b95 ++ (b96 ++ (b97 ++ (b98 ++ (b99 ++ (b100 ++ (b101 ++ (b102 ++ (b103 ++ (b104))))))))))))
theorem u12_c16 : MO 12 t12_c16 := ap b92_ok (ap b93_ok (ap b94_ok (ap b95_ok (ap b96_ok (ap b97_ok (ap b98_ok (ap b99_ok (ap b100_ok (ap b101_ok (ap b102_ok (ap b103_ok (b104_ok))))))))))))
def t8_c16 : LR := [r8 6 32 [h147, h148, h149, h150, h151, h152, h153, h154, h155]]
theorem u8_c16 : MO 8 t8_c16 := gD u12_c16 u15_c16 u31_c16 (by kernel_rfl)
def t12_c17 : LR := b105 ++ (b106 ++ (b107 ++ (b207 ++ (b208))))
theorem u12_c17 : MO 12 t12_c17 := ap b105_ok (ap b106_ok (ap b107_ok (ap b207_ok (b208_ok))))
def t8_c17 : LR := [r8 6 34 [h156, h157, h158, h159]]
theorem u8_c17 : MO 8 t8_c17 := gD u12_c17 u15_c17 u31_c17 (by kernel_rfl)
def t12_c18 : LR := b108 ++ (b109 ++ (b110 ++ (b111 ++ (b112 ++ (b113 ++ (b114 ++ (b115)))))))
theorem u12_c18 : MO 12 t12_c18 := ap b108_ok (ap b109_ok (ap b110_ok (ap b111_ok (ap b112_ok (ap b113_ok (ap b114_ok (b115_ok)))))))
def t8_c18 : LR := [r8 6 36 [h160, h161, h162, h163, h164, h165, h166]]
theorem u8_c18 : MO 8 t8_c18 := gD u12_c18 u15_c18 u31_c18 (by kernel_rfl)
def t12_c19 : LR := b116 ++ (b117 ++ (b118 ++ (b119 ++ (b120 ++ (b121 ++ (b122 ++ (b123 ++ (b209))))))))
theorem u12_c19 : MO 12 t12_c19 := ap b116_ok (ap b117_ok (ap b118_ok (ap b119_ok (ap b120_ok (ap b121_ok (ap b122_ok (ap b123_ok (b209_ok))))))))
def t8_c19 : LR := [r8 6 38 [h167, h168, h169, h170, h171]]
theorem u8_c19 : MO 8 t8_c19 := gD u12_c19 u15_c19 u31_c19 (by kernel_rfl)
def t12_c20 : LR := b124 ++ (b125 ++ (b126 ++ (b127 ++ (b128 ++ (b129 ++ (b130 ++ (b131 ++ (b132 ++ (b133 ++ (b134 ++ (b135 ++ (b136 ++ (b137)))))))))))))
theorem u12_c20 : MO 12 t12_c20 := ap b124_ok (ap b125_ok (ap b126_ok (ap b127_ok (ap b128_ok (ap b129_ok (ap b130_ok (ap b131_ok (ap b132_ok (ap b133_ok (ap b134_ok (ap b135_ok (ap b136_ok (b137_ok)))))))))))))
def t8_c20 : LR := [r8 6 40 [h172, h173, h174, h175, h176, h177, h178, h179, h180, h181]]
theorem u8_c20 : MO 8 t8_c20 := gD u12_c20 u15_c20 u31_c20 (by kernel_rfl)
def t12_c21 : LR := b138 ++ (b139 ++ (b140 ++ (b141 ++ (b142 ++ (b143 ++ (b144 ++ (b210 ++ (b211 ++ (b212 ++ (b213))))))))))
theorem u12_c21 : MO 12 t12_c21 := ap b138_ok (ap b139_ok (ap b140_ok (ap b141_ok (ap b142_ok (ap b143_ok (ap b144_ok (ap b210_ok (ap b211_ok (ap b212_ok (b213_ok))))))))))
def t8_c21 : LR := [r8 6 42 [h182, h183, h184, h185, h186, h187, h188]]
theorem u8_c21 : MO 8 t8_c21 := gD u12_c21 u15_c21 u31_c21 (by kernel_rfl)
def t12_c22 : LR := b145 ++ (b146 ++ (b147 ++ (b148 ++ (b149 ++ (b150 ++ (b151 ++ (b152 ++ (b153 ++ (b154 ++ (b155 ++ (b156 ++ (b157 ++ (b214 ++ (b215))))))))))))))
theorem u12_c22 : MO 12 t12_c22 := ap b145_ok (ap b146_ok (ap b147_ok (ap b148_ok (ap b149_ok (ap b150_ok (ap b151_ok (ap b152_ok (ap b153_ok (ap b154_ok (ap b155_ok (ap b156_ok (ap b157_ok (ap b214_ok (b215_ok))))))))))))))
def t8_c22 : LR := [r8 6 44 [h189, h190, h191, h192, h193, h194]]
theorem u8_c22 : MO 8 t8_c22 := gD u12_c22 u15_c22 u31_c22 (by kernel_rfl)
def t12_c23 : LR := b158 ++ (b159 ++ (b160 ++ (b161)))
theorem u12_c23 : MO 12 t12_c23 := ap b158_ok (ap b159_ok (ap b160_ok (b161_ok)))
def t8_c23 : LR := [r8 6 46 [h195, h196, h197, h198, h199]]
theorem u8_c23 : MO 8 t8_c23 := gD u12_c23 u15_c23 u31_c23 (by kernel_rfl)
def t12_c24 : LR := b162 ++ (b163 ++ (b164 ++ (b165 ++ (b166 ++ (b167 ++ (b168 ++ (b169 ++ (b170 ++ (b171 ++ (b172 ++ (b173 ++ (b174 ++ (b175 ++ (b176 ++ (b177 ++ (b178 ++ (b179 ++ (b180 ++ (b181 ++ (b182 ++ (b183 ++ (b184))))))))))))))))))))))
theorem u12_c24 : MO 12 t12_c24 := ap b162_ok (ap b163_ok (ap b164_ok (ap b165_ok (ap b166_ok (ap b167_ok (ap b168_ok (ap b169_ok (ap b170_ok (ap b171_ok (ap b172_ok (ap b173_ok (ap b174_ok (ap b175_ok (ap b176_ok (ap b177_ok (ap b178_ok (ap b179_ok (ap b180_ok (ap b181_ok (ap b182_ok (ap b183_ok (b184_ok))))))))))))))))))))))
def t8_c24 : LR := [r8 6 48 [h200, h201, h202, h203, h204, h205, h206, h207, h208, h209, h210, h211, h212, h213]]
theorem u8_c24 : MO 8 t8_c24 := gD u12_c24 u15_c24 u31_c24 (by kernel_rfl)
def t7 : LR := [([], .bool true)]
theorem u7 : MO 7 t7 := gD (ap u12_b1 u12_c1) (ap u15_b1 u15_c1) (ap u31_b1 u31_c1) (by kernel_rfl)
end Go.Proofs.YthkpeakeoepocaaGreatDoor.AD

/- The law ConstructAll at all arguments (genallaw.py). -/
namespace Go.Proofs.YthkpeakeoepocaaGreatDoor.LB
set_option linter.unusedSimpArgs false
set_option linter.unusedVariables false
open Go Go.AL Go.Proofs Go.Proofs.YthkpeakeoepocaaGreatDoor.AD
set_option maxRecDepth 1000000

noncomputable def E0 (n d : Nat) : E16 := ((junkE.setN 4 (.bool false)).setN 5 (.int .i64 (.ofNat n))).setN 6 (.int .i64 (.ofNat d))
theorem E0_env (n d t : Nat) : (E0 n d).env t = if t = 6 then .int .i64 (.ofNat d) else if t = 5 then .int .i64 (.ofNat n) else if t = 4 then .bool false else .junk := by
  unfold E0
  rw [E16.env_setN _ _ (by decide), E16.env_setN _ _ (by decide), E16.env_setN _ _ (by decide)]
  simp only [upd_app, junkE_env]
def isT (r : O) : Bool := match r with
  | some (.bool true, []) => true
  | _ => false
theorem isT_ok {r : O} (h : isT r = true) : r = some (.bool true, []) := by
  unfold isT at h
  split at h
  · rfl
  · simp at h
def Z (n d : Nat) : Prop := ∀ a b : Nat, a < 256 → b < 256 → 1 + a % 3 = n → 1 + b % 24 = d → Ret Tryz.prog G 4 [.int .u8 a, .int .u8 b] [] (.bool true) []
noncomputable def runL (t7 t8 t10 t11 t12 : LR) (n d : Nat) : O :=
  rest4 (exT (TM (.known (memoK t7)) (.known (memoK t8)) (.known (memoK t10)) (.known (memoK t11)) (.known (memoK t12))) 1000) 0 (finK 0 false rg4) (fun x E H => endX x (finK 0 false rg4 E H)) (E0 n d) []
theorem mkZ {t7 t8 t10 t11 t12 : LR} {n d : Nat} (h7 : MemoOK Tryz.prog G 7 t7) (h8 : MemoOK Tryz.prog G 8 t8) (h10 : MemoOK Tryz.prog G 10 t10) (h11 : MemoOK Tryz.prog G 11 t11) (h12 : MemoOK Tryz.prog G 12 t12) (h : isT (runL t7 t8 t10 t11 t12 n d) = true) : Z n d := by
  intro a b ha hb hn hd
  have w1 : IntKind.i64.wrap (a : Int) = (a : Nat) := by simp [IntKind.wrap, IntKind.bits, IntKind.signed]; omega
  have w2 : IntKind.i64.wrap (b : Int) = (b : Nat) := by simp [IntKind.wrap, IntKind.bits, IntKind.signed]; omega
  have w3 : IntKind.i64.wrap (1 + Int.tmod (a : Int) 3) = (n : Nat) := by
    have : Int.tmod (a : Int) 3 = ((a % 3 : Nat) : Int) := rfl
    rw [this]; simp [IntKind.wrap, IntKind.bits, IntKind.signed]; omega
  have w4 : IntKind.i64.wrap (1 + Int.tmod (b : Int) 24) = (d : Nat) := by
    have : Int.tmod (b : Int) 24 = ((b % 24 : Nat) : Int) := rfl
    rw [this]; simp [IntKind.wrap, IntKind.bits, IntKind.signed]; omega
  refine split_ret (fn := Tryz.f4) (nt := 99) (cl := exT (TM (.known (memoK t7)) (.known (memoK t8)) (.known (memoK t10)) (.known (memoK t11)) (.known (memoK t12))) 1000) mixed okB_ok (fun f args H v H' => runM (memo_ok h7) (memo_ok h8) (memo_ok h10) (memo_ok h11) (memo_ok h12)) (by decide) Tryz.func4 comp4 (by kernel_rfl) rv4 rg4_ok rest4_ok
    (args := [.int .u8 a, .int .u8 b]) (by simp) (E1 := upd (upd (upd (upd (upd (upd (upd (upd (upd (upd (upd (argsE [.int .u8 a, .int .u8 b]) 4 (.bool false)) 18 (.int .u8 a)) 19 (.int .i64 a)) 20 (.int .i64 (Int.tmod (a : Int) 3))) 21 (.int .i64 n)) 22 (.int .u8 b)) 23 (.int .i64 b)) 24 (.int .i64 (Int.tmod (b : Int) 24))) 25 (.int .i64 d)) 5 (.int .i64 n)) 6 (.int .i64 d)) (E0 := E0 n d) ?_ (fun t => ?_) (isT_ok h)
  · have k3 : (AV.int IntKind.i64 (Int.ofNat (nat_lit 3))) = .int .i64 3 := rfl
    have k1 : (AV.int IntKind.i64 (Int.ofNat (nat_lit 1))) = .int .i64 1 := rfl
    have k24 : (AV.int IntKind.i64 (Int.ofNat (nat_lit 24))) = .int .i64 24 := rfl
    simp only [os4_0, os4_1, wpC, andThen_normal, andThen_ret, andThen_exit, andThen_goto, inBlk_normal, inBlk_ret, inBlk_exit, rA_mov, rA_pick, rA_box, rA_build, rA_bsl, rA_load, rA_store, rA_nilck, rA_bin, rA_beq, rA_snil, rA_un, rA_conv, rA_mksl, rA_slice, rA_fld, rA_part, rA_idx, rA_idxa, rA_idxv, rA_idxs, rA_ext, rA_len, rA_lens, rA_lenk, rA_max, rA_mkfn, rA_append, rA_callf, rA_callc, rA_guardf, rA_nil, restA_pure, goon, boolA_bool, condA_bool, condA_any, both_some, both_none, pickA_bool, ldA_ptr, ldA_iptr, ldv_f, ldv_t, stA_ptr, nilA_ptr, nilA_iptr, binA_add, binA_sub, binA_mul, binA_quo, binA_rem, binA_shl, binA_shr, binA_and, binA_or, binA_andNot, binA_eql, binA_neq, binA_lss, binA_leq, binA_gtr, binA_geq, binA_seql, binA_sadd, beqA_bool, snilA_vec, snilA_sl, unA_neg, unA_not, convA_int, mkslA_int, natOf_int, optNat_none, optNat_some, sliceA_vec, sliceA_sl, sliceA_vec3, sliceA_sl3, subCap_none, subCap_zero, fldA_ptr, fldA_iptr, partA_agg, idxA_sl, idxA_vec, idxaA_ptr, idxaA_iptr, idxvA_agg, idxsA_str, extA_tup, lenSA_vec, lenSA_sl, lenStA_str, maxA_int, val_t, val_k, updO_some, updO_none, cells_agg, cells_int, cells_bool, cells_vec, cells_sl, firm_agg, firm_int, firm_bool, firm_vec, firm_sl, setL_nil, setL_cons, scalL_nil, scalL_cons, scal_int, scal_bool, scal_vec, scal_sl, fillA_nil, fillA_cons, zeros_one, bindP_some, bindP_need, bindP_none, bindP_bind, upd_app, argsE_app, getB_zero, getB_succ, List.getD_cons_zero, List.getD_cons_succ, List.getD_nil, List.map_cons, List.map_nil, List.length_cons, List.length_nil, List.nil_append, List.cons_append, true_and, and_true, forall_const, true_implies, Option.bind_some, Option.bind_none, reduceCtorEq, reduceIte, false_implies, implies_true, Bool.not_true, Bool.not_false, Bool.true_eq_false, Bool.false_eq_true, Nat.zero_add, Nat.reduceAdd, Nat.reduceEqDiff, Nat.succ_ne_zero, Nat.reduceLeDiff, decide_eq_true_eq, decide_eq_false_iff_not, Nat.mul_one, List.take_succ_cons, List.take_zero, List.drop_zero, List.drop_succ_cons, List.set_cons_zero, List.set_cons_succ, Bool.and_true, Bool.and_self, emptyS_sub, emptyS_succ, emptyS_zero, k3, k1, k24, w1, w2, w3, w4]
    exact ⟨by decide, by decide⟩
  · rw [E0_env]
    by_cases h6 : t = 6
    · left; subst h6; rfl
    · rw [if_neg h6]
      by_cases h5 : t = 5
      · left; subst h5; rfl
      · rw [if_neg h5]
        by_cases h4 : t = 4
        · left; subst h4; rfl
        · right; rw [if_neg h4]
theorem z1_1 : Z 1 1 := mkZ u7 u8_a u10_a u11_a u12_a (by kernel_rfl)
theorem z1_2 : Z 1 2 := mkZ u7 u8_a u10_a u11_a u12_a (by kernel_rfl)
theorem z1_3 : Z 1 3 := mkZ u7 u8_a u10_a u11_a u12_a (by kernel_rfl)
theorem z1_4 : Z 1 4 := mkZ u7 u8_a u10_a u11_a u12_a (by kernel_rfl)
theorem z1_5 : Z 1 5 := mkZ u7 u8_a u10_a u11_a u12_a (by kernel_rfl)
theorem z1_6 : Z 1 6 := mkZ u7 u8_a u10_a u11_a u12_a (by kernel_rfl)
theorem z1_7 : Z 1 7 := mkZ u7 u8_a u10_a u11_a u12_a (by kernel_rfl)
theorem z1_8 : Z 1 8 := mkZ u7 u8_a u10_a u11_a u12_a (by kernel_rfl)
theorem z1_9 : Z 1 9 := mkZ u7 u8_a u10_a u11_a u12_a (by kernel_rfl)
theorem z1_10 : Z 1 10 := mkZ u7 u8_a u10_a u11_a u12_a (by kernel_rfl)
theorem z1_11 : Z 1 11 := mkZ u7 u8_a u10_a u11_a u12_a (by kernel_rfl)
theorem z1_12 : Z 1 12 := mkZ u7 u8_a u10_a u11_a u12_a (by kernel_rfl)
theorem z1_13 : Z 1 13 := mkZ u7 u8_a u10_a u11_a u12_a (by kernel_rfl)
theorem z1_14 : Z 1 14 := mkZ u7 u8_a u10_a u11_a u12_a (by kernel_rfl)
theorem z1_15 : Z 1 15 := mkZ u7 u8_a u10_a u11_a u12_a (by kernel_rfl)
theorem z1_16 : Z 1 16 := mkZ u7 u8_a u10_a u11_a u12_a (by kernel_rfl)
theorem z1_17 : Z 1 17 := mkZ u7 u8_a u10_a u11_a u12_a (by kernel_rfl)
theorem z1_18 : Z 1 18 := mkZ u7 u8_a u10_a u11_a u12_a (by kernel_rfl)
theorem z1_19 : Z 1 19 := mkZ u7 u8_a u10_a u11_a u12_a (by kernel_rfl)
theorem z1_20 : Z 1 20 := mkZ u7 u8_a u10_a u11_a u12_a (by kernel_rfl)
theorem z1_21 : Z 1 21 := mkZ u7 u8_a u10_a u11_a u12_a (by kernel_rfl)
theorem z1_22 : Z 1 22 := mkZ u7 u8_a u10_a u11_a u12_a (by kernel_rfl)
theorem z1_23 : Z 1 23 := mkZ u7 u8_a u10_a u11_a u12_a (by kernel_rfl)
theorem z1_24 : Z 1 24 := mkZ u7 u8_a u10_a u11_a u12_a (by kernel_rfl)
theorem z2_1 : Z 2 1 := mkZ u7 u8_b0 u10_b0 u11_b0 u12_b0 (by kernel_rfl)
theorem z2_2 : Z 2 2 := mkZ u7 u8_b0 u10_b0 u11_b0 u12_b0 (by kernel_rfl)
theorem z2_3 : Z 2 3 := mkZ u7 u8_b0 u10_b0 u11_b0 u12_b0 (by kernel_rfl)
theorem z2_4 : Z 2 4 := mkZ u7 u8_b0 u10_b0 u11_b0 u12_b0 (by kernel_rfl)
theorem z2_5 : Z 2 5 := mkZ u7 u8_b1 u10_b1 u11_b1 u12_b1 (by kernel_rfl)
theorem z2_6 : Z 2 6 := mkZ u7 u8_b1 u10_b1 u11_b1 u12_b1 (by kernel_rfl)
theorem z2_7 : Z 2 7 := mkZ u7 u8_b1 u10_b1 u11_b1 u12_b1 (by kernel_rfl)
theorem z2_8 : Z 2 8 := mkZ u7 u8_b1 u10_b1 u11_b1 u12_b1 (by kernel_rfl)
theorem z2_9 : Z 2 9 := mkZ u7 u8_b2 u10_b2 u11_b2 u12_b2 (by kernel_rfl)
theorem z2_10 : Z 2 10 := mkZ u7 u8_b2 u10_b2 u11_b2 u12_b2 (by kernel_rfl)
theorem z2_11 : Z 2 11 := mkZ u7 u8_b2 u10_b2 u11_b2 u12_b2 (by kernel_rfl)
theorem z2_12 : Z 2 12 := mkZ u7 u8_b2 u10_b2 u11_b2 u12_b2 (by kernel_rfl)
theorem z2_13 : Z 2 13 := mkZ u7 u8_b3 u10_b3 u11_b3 u12_b3 (by kernel_rfl)
theorem z2_14 : Z 2 14 := mkZ u7 u8_b3 u10_b3 u11_b3 u12_b3 (by kernel_rfl)
theorem z2_15 : Z 2 15 := mkZ u7 u8_b3 u10_b3 u11_b3 u12_b3 (by kernel_rfl)
theorem z2_16 : Z 2 16 := mkZ u7 u8_b3 u10_b3 u11_b3 u12_b3 (by kernel_rfl)
theorem z2_17 : Z 2 17 := mkZ u7 u8_b4 u10_b4 u11_b4 u12_b4 (by kernel_rfl)
theorem z2_18 : Z 2 18 := mkZ u7 u8_b4 u10_b4 u11_b4 u12_b4 (by kernel_rfl)
theorem z2_19 : Z 2 19 := mkZ u7 u8_b4 u10_b4 u11_b4 u12_b4 (by kernel_rfl)
theorem z2_20 : Z 2 20 := mkZ u7 u8_b4 u10_b4 u11_b4 u12_b4 (by kernel_rfl)
theorem z2_21 : Z 2 21 := mkZ u7 u8_b5 u10_b5 u11_b5 u12_b5 (by kernel_rfl)
theorem z2_22 : Z 2 22 := mkZ u7 u8_b5 u10_b5 u11_b5 u12_b5 (by kernel_rfl)
theorem z2_23 : Z 2 23 := mkZ u7 u8_b5 u10_b5 u11_b5 u12_b5 (by kernel_rfl)
theorem z2_24 : Z 2 24 := mkZ u7 u8_b5 u10_b5 u11_b5 u12_b5 (by kernel_rfl)
theorem z3_1 : Z 3 1 := mkZ u7 u8_c1 u10_c1 u11_c1 u12_c1 (by kernel_rfl)
theorem z3_2 : Z 3 2 := mkZ u7 u8_c2 u10_c2 u11_c2 u12_c2 (by kernel_rfl)
theorem z3_3 : Z 3 3 := mkZ u7 u8_c3 u10_c3 u11_c3 u12_c3 (by kernel_rfl)
theorem z3_4 : Z 3 4 := mkZ u7 u8_c4 u10_c4 u11_c4 u12_c4 (by kernel_rfl)
theorem z3_5 : Z 3 5 := mkZ u7 u8_c5 u10_c5 u11_c5 u12_c5 (by kernel_rfl)
theorem z3_6 : Z 3 6 := mkZ u7 u8_c6 u10_c6 u11_c6 u12_c6 (by kernel_rfl)
theorem z3_7 : Z 3 7 := mkZ u7 u8_c7 u10_c7 u11_c7 u12_c7 (by kernel_rfl)
theorem z3_8 : Z 3 8 := mkZ u7 u8_c8 u10_c8 u11_c8 u12_c8 (by kernel_rfl)
theorem z3_9 : Z 3 9 := mkZ u7 u8_c9 u10_c9 u11_c9 u12_c9 (by kernel_rfl)
theorem z3_10 : Z 3 10 := mkZ u7 u8_c10 u10_c10 u11_c10 u12_c10 (by kernel_rfl)
theorem z3_11 : Z 3 11 := mkZ u7 u8_c11 u10_c11 u11_c11 u12_c11 (by kernel_rfl)
theorem z3_12 : Z 3 12 := mkZ u7 u8_c12 u10_c12 u11_c12 u12_c12 (by kernel_rfl)
theorem z3_13 : Z 3 13 := mkZ u7 u8_c13 u10_c13 u11_c13 u12_c13 (by kernel_rfl)
theorem z3_14 : Z 3 14 := mkZ u7 u8_c14 u10_c14 u11_c14 u12_c14 (by kernel_rfl)
theorem z3_15 : Z 3 15 := mkZ u7 u8_c15 u10_c15 u11_c15 u12_c15 (by kernel_rfl)
theorem z3_16 : Z 3 16 := mkZ u7 u8_c16 u10_c16 u11_c16 u12_c16 (by kernel_rfl)
theorem z3_17 : Z 3 17 := mkZ u7 u8_c17 u10_c17 u11_c17 u12_c17 (by kernel_rfl)
theorem z3_18 : Z 3 18 := mkZ u7 u8_c18 u10_c18 u11_c18 u12_c18 (by kernel_rfl)
theorem z3_19 : Z 3 19 := mkZ u7 u8_c19 u10_c19 u11_c19 u12_c19 (by kernel_rfl)
theorem z3_20 : Z 3 20 := mkZ u7 u8_c20 u10_c20 u11_c20 u12_c20 (by kernel_rfl)
theorem z3_21 : Z 3 21 := mkZ u7 u8_c21 u10_c21 u11_c21 u12_c21 (by kernel_rfl)
theorem z3_22 : Z 3 22 := mkZ u7 u8_c22 u10_c22 u11_c22 u12_c22 (by kernel_rfl)
theorem z3_23 : Z 3 23 := mkZ u7 u8_c23 u10_c23 u11_c23 u12_c23 (by kernel_rfl)
theorem z3_24 : Z 3 24 := mkZ u7 u8_c24 u10_c24 u11_c24 u12_c24 (by kernel_rfl)
end Go.Proofs.YthkpeakeoepocaaGreatDoor.LB
namespace Go.Proofs.YthkpeakeoepocaaGreatDoor
open Go Go.AL Go.Proofs
set_option maxRecDepth 100000
theorem all_1 : ∀ d, 1 ≤ d → d ≤ 24 → LB.Z 1 d
  | 1, _, _ => LB.z1_1
  | 2, _, _ => LB.z1_2
  | 3, _, _ => LB.z1_3
  | 4, _, _ => LB.z1_4
  | 5, _, _ => LB.z1_5
  | 6, _, _ => LB.z1_6
  | 7, _, _ => LB.z1_7
  | 8, _, _ => LB.z1_8
  | 9, _, _ => LB.z1_9
  | 10, _, _ => LB.z1_10
  | 11, _, _ => LB.z1_11
  | 12, _, _ => LB.z1_12
  | 13, _, _ => LB.z1_13
  | 14, _, _ => LB.z1_14
  | 15, _, _ => LB.z1_15
  | 16, _, _ => LB.z1_16
  | 17, _, _ => LB.z1_17
  | 18, _, _ => LB.z1_18
  | 19, _, _ => LB.z1_19
  | 20, _, _ => LB.z1_20
  | 21, _, _ => LB.z1_21
  | 22, _, _ => LB.z1_22
  | 23, _, _ => LB.z1_23
  | 24, _, _ => LB.z1_24
  | 0, h, _ => absurd h (by omega)
  | d + 25, _, h => absurd h (by omega)
theorem all_2 : ∀ d, 1 ≤ d → d ≤ 24 → LB.Z 2 d
  | 1, _, _ => LB.z2_1
  | 2, _, _ => LB.z2_2
  | 3, _, _ => LB.z2_3
  | 4, _, _ => LB.z2_4
  | 5, _, _ => LB.z2_5
  | 6, _, _ => LB.z2_6
  | 7, _, _ => LB.z2_7
  | 8, _, _ => LB.z2_8
  | 9, _, _ => LB.z2_9
  | 10, _, _ => LB.z2_10
  | 11, _, _ => LB.z2_11
  | 12, _, _ => LB.z2_12
  | 13, _, _ => LB.z2_13
  | 14, _, _ => LB.z2_14
  | 15, _, _ => LB.z2_15
  | 16, _, _ => LB.z2_16
  | 17, _, _ => LB.z2_17
  | 18, _, _ => LB.z2_18
  | 19, _, _ => LB.z2_19
  | 20, _, _ => LB.z2_20
  | 21, _, _ => LB.z2_21
  | 22, _, _ => LB.z2_22
  | 23, _, _ => LB.z2_23
  | 24, _, _ => LB.z2_24
  | 0, h, _ => absurd h (by omega)
  | d + 25, _, h => absurd h (by omega)
theorem all_3 : ∀ d, 1 ≤ d → d ≤ 24 → LB.Z 3 d
  | 1, _, _ => LB.z3_1
  | 2, _, _ => LB.z3_2
  | 3, _, _ => LB.z3_3
  | 4, _, _ => LB.z3_4
  | 5, _, _ => LB.z3_5
  | 6, _, _ => LB.z3_6
  | 7, _, _ => LB.z3_7
  | 8, _, _ => LB.z3_8
  | 9, _, _ => LB.z3_9
  | 10, _, _ => LB.z3_10
  | 11, _, _ => LB.z3_11
  | 12, _, _ => LB.z3_12
  | 13, _, _ => LB.z3_13
  | 14, _, _ => LB.z3_14
  | 15, _, _ => LB.z3_15
  | 16, _, _ => LB.z3_16
  | 17, _, _ => LB.z3_17
  | 18, _, _ => LB.z3_18
  | 19, _, _ => LB.z3_19
  | 20, _, _ => LB.z3_20
  | 21, _, _ => LB.z3_21
  | 22, _, _ => LB.z3_22
  | 23, _, _ => LB.z3_23
  | 24, _, _ => LB.z3_24
  | 0, h, _ => absurd h (by omega)
  | d + 25, _, h => absurd h (by omega)
theorem all_ret (a b : Int) (ha : (Lit.int .u8 a).wf = true) (hb : (Lit.int .u8 b).wf = true) : Ret Tryz.prog G 4 [.int .u8 a, .int .u8 b] [] (.bool true) [] := by
  have h1 : 0 ≤ a ∧ a < 256 := by
    simp [Lit.wf, show IntKind.min .u8 = 0 from rfl, show IntKind.max .u8 = 255 from rfl] at ha
    omega
  have h2 : 0 ≤ b ∧ b < 256 := by
    simp [Lit.wf, show IntKind.min .u8 = 0 from rfl, show IntKind.max .u8 = 255 from rfl] at hb
    omega
  obtain ⟨m, rfl⟩ : ∃ n : Nat, a = n := ⟨a.toNat, by omega⟩
  obtain ⟨k, rfl⟩ : ∃ n : Nat, b = n := ⟨b.toNat, by omega⟩
  rcases (by omega : 1 + m % 3 = 1 ∨ 1 + m % 3 = 2 ∨ 1 + m % 3 = 3) with h | h | h
  · exact all_1 (1 + k % 24) (by omega) (by omega) m k (by omega) (by omega) h rfl
  · exact all_2 (1 + k % 24) (by omega) (by omega) m k (by omega) (by omega) h rfl
  · exact all_3 (1 + k % 24) (by omega) (by omega) m k (by omega) (by omega) h rfl
end Go.Proofs.YthkpeakeoepocaaGreatDoor
