/- Threaded code of some functions, by program (gent.py). -/
import Derived.Test.YtmmfnpbjolpfmaaGreatDoorXB
import Derived.Test.YtmmfnpbjolpfmaaGreatDoorALZ
import Derived.Test.YtmmfnpbjolpfmaaGreatDoorKQ
import Derived.Test.YtmmfnpbjolpfmaaGreatDoorXA
namespace Go.Proofs.YtmmfnpbjolpfmaaGreatDoor
set_option linter.unusedSimpArgs false
set_option linter.unusedVariables false
open Go Go.AL Go.Proofs
set_option maxRecDepth 100000
noncomputable section
def q152_0 : RunT := (sR (lT D28 Y27 Y26 qE) (sQ (cD Y28 sK eX2) (sQ (bK3 (sR (mV D29 Y27 (mV D9 Y29 qE)) (tY (fO (fun next => o_mov D30 Y7 (next ([], []))) (fO (fun next => o_mov D31 Y8 (next ([], []))) (fO (fun next => o_idx (nat_lit 1) D32 Y30 Y31 (next ([], []))) (fO (fL D33 Y32) (fO (fun next => o_mov D34 Y9 (next ([], []))) (fO (fun next => o_mov D35 Y2 (next ([], []))) (fO (fun next => o_mov D36 Y8 (next ([], []))) (fO (fun next => o_mov D37 Y9 (next ([], []))) (fO (f_callc okB D38 Y35 [Y36, Y37]) (fO (fun next => o_idx (nat_lit 1) D39 Y33 Y34 (next ([], []))) (fO (fS Y39 Y38) (fE [(3, 8)]))))))))))))))) (rG (aD D40 Y27 K1 (mV D27 Y40 qE))))))
def q152_1 : RunT := (sR (lT D15 Y14 Y13 qE) (sQ (cD Y15 sK eX0) (sQ (bK1 (sR (mV D16 Y14 (mV D8 Y16 qE)) (sR (mV D17 Y7 (mV D18 Y8 (mV D19 Y1 (mS1_8 [(.int .i64 (.ofNat (nat_lit 0)))] D20 Y19 Y19 (iX1 D21 Y17 Y18 (sO Y21 Y20 qE)))))) (sR (mV D22 Y7 (mV D23 Y8 (iX1 D24 Y22 Y23 (lD D25 Y24 (lN D26 Y25 (mV D27 K0 qE)))))) (bK2 (lP q152_0)))))) (rG (aD D41 Y14 K1 (mV D14 Y41 qE))))))
def t152 : RunT := (sR (mV D6 KN qE) (sR (mV D10 Y0 (mS1_24 [(.vec [] 0 (some 0))] D11 Y10 Y10 (mV D7 Y11 qE))) (sQ (sR (mV D12 Y7 (lN D13 Y12 (mV D14 K0 qE))) (bK0 (lP q152_1))) (sR (mV D42 Y7 (mV D6 Y42 qE)) rT))))
def e152 : Ent := .code t152 43 [(.t Y6)] true
theorem k152 : EOT Tryz.prog G okB 152 e152 := eotA true Tryz.func152
def t153 : RunT := (sR (mV D6 K0 qE) (sR (lD D10 Y2 (mV D11 Y0 (iX1 D12 Y10 Y11 (lD D13 Y12 (mV D14 Y1 (iX2 D15 Y13 Y14 (lA2 D16 Y15 (cA .d0 .d1 .d9 D17 [Y16] (mV D9 Y17 (xT0 D18 Y9 (xT1 D19 Y9 (mV D7 Y18 (mV D8 Y19 qE))))))))))))) (sR (lD D20 Y3 (mV D21 Y20 (gA Y21 D22 (mV D22 Y8) (pK D23 Y21 Y22 KF (sO Y3 Y23 qE))))) (sR (mV D24 Y7 (mV D6 Y24 qE)) rT))))
def e153 : Ent := .code t153 25 [(.t Y6)] false
theorem k153 : EOT Tryz.prog G okB 153 e153 := eotA true Tryz.func153
def q154_0 : RunT := (sR (lT D51 Y50 Y49 qE) (sQ (cD Y51 sK eX0) (sQ (bK1 (sR (iX1 D52 Y48 Y50 (lD D53 Y52 (mV D14 Y53 qE))) (sR (mV D54 Y0 (mV D55 Y14 (cA .d0 .d13 .d4 D56 [Y54, Y55] (nT D57 Y56 qE)))) (cD Y57 (sR (mV D10 KN (mV D11 KF (mV D12 K3 qE))) rT) sK)))) (rG (aD D58 Y50 K1 (mV D50 Y58 qE))))))
def t154 : RunT := (sR (mV D10 KN (mV D11 KF (mV D12 K0 qE))) (sQ (sR (mV D18 Y0 (cA .d0 .d1 .d6 D19 [Y18] (nT D20 Y19 (mV D21 Y20 (gB Y21 D22 (mV D22 Y1) (gB Y21 D23 (cA .d0 .d1 .d6 D23 [Y22]) (gB Y21 D24 (nT D24 Y23) (pK D25 Y21 KT Y24 qE)))))))) (cD Y25 (sR (mV D10 KN (mV D11 KF (mV D12 K6 qE))) rT) sK)) (sQ (sR (mV D26 Y2 (lT D27 Y26 K0 (mV D28 Y27 (gB Y28 D29 (mV D29 Y2) (gB Y28 D30 (gT D30 Y29 K1000000) (pK D31 Y28 KT Y30 qE)))))) (cD Y31 (sR (mV D10 KN (mV D11 KF (mV D12 K1 qE))) rT) sK)) (sQ (sR (mV D32 Y0 (lN D33 Y32 (mV D34 Y1 (lN D35 Y34 (nE D36 Y33 Y35 (mV D37 Y36 (gB Y37 D38 (mV D38 Y0) (gB Y37 D39 (cA .d0 .d13 .d3 D39 [Y38]) (gB Y37 D40 (mV D40 Y1) (gB Y37 D41 (cA .d0 .d13 .d3 D41 [Y40]) (gB Y37 D42 (nE D42 Y39 Y41) (pK D43 Y37 KT Y42 qE)))))))))))) (cD Y43 (sR (mV D10 KN (mV D11 KF (mV D12 K0 qE))) rT) sK)) (sQ (sR (mV D44 Y3 (lN D45 Y44 (mV D46 Y4 (gT D47 Y45 Y46 qE)))) (cD Y47 (sR (mV D10 KN (mV D11 KF (mV D12 K3 qE))) rT) sK)) (sQ (sR (mV D48 Y3 (lN D49 Y48 (mV D50 K0 qE))) (bK0 (lP q154_0))) (sR (mV D60 Y0 (mV D61 Y1 (cA .d0 .d13 .d6 D62 [Y61] (mV D63 Y2 (cA .d0 .d13 .d5 D64 [Y60, Y62, Y63] (mV D59 Y64 (xT0 D65 Y59 (xT1 D66 Y59 (xT2 D67 Y59 (mV D15 Y65 (mV D16 Y66 (mV D17 Y67 qE)))))))))))) (sR (mV D68 Y15 (mV D69 Y17 (eQ D70 Y69 K0 (mV D71 Y17 (mV D10 Y68 (mV D11 Y70 (mV D12 Y71 qE))))))) rT))))))))
def e154 : Ent := .code t154 72 [(.t Y10), (.t Y11), (.t Y12)] false
theorem k154 : EOT Tryz.prog G okB 154 e154 := eotA true Tryz.func154
def q155_0 : RunT := (sR (lT D35 Y34 Y33 qE) (sQ (cD Y35 sK eX0) (sQ (bK1 (sR (mV D36 Y34 (mV D9 Y36 qE)) (tY (fO (fun next => o_mov D37 Y8 (next ([], []))) (fO (fun next => o_nilck D38 Y37 (next ([], []))) (fO (fun next => o_fld (nat_lit 6) D39 Y38 (next ([], []))) (fO (fL D40 Y39) (fO (fun next => o_mov D41 Y9 (next ([], []))) (fO (fun next => o_mov D42 Y8 (next ([], []))) (fO (fun next => o_nilck D43 Y42 (next ([], []))) (fO (fun next => o_fld (nat_lit 1) D44 Y43 (next ([], []))) (fO (fun next => o_fld (nat_lit 0) D45 Y44 (next ([], []))) (fO (fL D46 Y45) (fO (fun next => o_len D47 Y46 (next ([], []))) (fO (f_slow okB (fun E => (.mksl 1 8 [(.int .u64 (.ofNat (nat_lit 0)))] (.k (Y47 E)) (.k (Y47 E)))) D48) (fO (fun next => o_idx (nat_lit 1) D49 Y40 Y41 (next ([], []))) (fO (fS Y49 Y48) (fE [(3, 9), (3, 11)])))))))))))))))))) (rG (aD D50 Y34 K1 (mV D34 Y50 qE))))))
def q155_1 : RunT := (sR (lT D53 Y52 Y51 qE) (sQ (cD Y53 sK eX2) (sQ (bK3 (sR (mV D54 Y52 (mV D10 Y54 qE)) (tY (fO (fun next => o_mov D55 Y8 (next ([], []))) (fO (fun next => o_mov D56 Y8 (next ([], []))) (fO (fun next => o_nilck D57 Y56 (next ([], []))) (fO (fun next => o_fld (nat_lit 7) D58 Y57 (next ([], []))) (fO (fL D59 Y58) (fO (fun next => o_mov D60 Y1 (next ([], []))) (fO (fun next => o_mov D61 Y10 (next ([], []))) (fO (fun next => o_idx (nat_lit 1) D62 Y60 Y61 (next ([], []))) (fO (fL D63 Y62) (fO (fun next => o_mov D64 Y10 (next ([], []))) (fO (fun next => o_idx (nat_lit 1) D65 Y63 Y64 (next ([], []))) (fO (fL D66 Y65) (fO (fun next => o_sub okB (fun E => (.build [(.int .i64 (.ofNat (nat_lit 0))), (.int .u64 (.ofNat (nat_lit 0)))] [(0, (1, (.k (Y66 E))))])) D67 (next ([], []))) (fO (f_slow okB (fun E => (.bsl 1 2 [(.int .i64 (.ofNat (nat_lit 0))), (.int .u64 (.ofNat (nat_lit 0)))] [(0, (2, (.k (Y67 E))))])) D68) (fO (f_slow okB (fun E => (.append 2 16 (.k (Y59 E)) (.k (Y68 E)))) D69) (fO (fun next => o_nilck D70 Y55 (next ([], []))) (fO (fun next => o_fld (nat_lit 7) D71 Y70 (next ([], []))) (fO (fS Y71 Y69) (fE [(4, 8), (4, 11), (4, 13), (8, 14)])))))))))))))))))))))) (rG (aD D72 Y52 K1 (mV D52 Y72 qE))))))
def t155 : RunT := (sR (mV D6 KP qE) (sR (mV D15 Y1 (lN D16 Y15 (mV D7 Y16 qE))) (sQ (tY (fO (fun next => o_mov D17 Y1 (next ([], []))) (fO (fun next => o_mov D18 Y0 (next ([], []))) (fO (fun next => o_mov D19 Y2 (next ([], []))) (fO (fC (nat_lit 215) D20 [Y18, Y19]) (fO (fun next => o_mov D21 Y7 (next ([], []))) (fO (fun next => o_bin .add b_add D22 Y21 K1 (next ([], []))) (fO (f_slow okB (fun E => (.mksl 1 24 [(.vec [] 0 (some 0))] (.k (Y22 E)) (.k (Y22 E)))) D23) (fO (fun next => o_mov D24 Y7 (next ([], []))) (fO (fun next => o_bin .add b_add D25 Y24 K1 (next ([], []))) (fO (f_slow okB (fun E => (.mksl 1 8 [(.int .u64 (.ofNat (nat_lit 0)))] (.k (Y25 E)) (.k (Y25 E)))) D26) (fO (fun next => o_sub okB (fun E => (.build [(.vec [] 0 (some 0)), (.vec [] 0 (some 0)), (.vec [] 0 (some 0)), (.vec [] 0 (some 0)), (.vec [] 0 (some 0)), (.vec [] 0 (some 0)), (.vec [] 0 (some 0)), (.vec [] 0 (some 0)), (.vec [] 0 (some 0)), (.bool false)] [(0, (1, (.k (Y17 E)))), (1, (4, (.k (Y20 E)))), (6, (1, (.k (Y23 E)))), (8, (1, (.k (Y26 E))))])) D27 (next ([], []))) (fO (fB D28 Y27) (fO (fun next => o_mov D8 Y28 (next ([], []))) (fE [(3, 6), (3, 9), (6, 9)]))))))))))))))) (sQ (sR (mV D29 Y8 (nK D30 Y29 (fD6 D31 Y30 (lD D32 Y31 (lN D33 Y32 (mV D34 K0 qE)))))) (bK0 (lP q155_0))) (sQ (sR (mV D51 Y7 (mV D52 K0 qE)) (bK2 (lP q155_1))) (sR (mV D74 Y1 (mV D75 Y1 (cA .d0 .d13 .d6 D76 [Y75] (cA .d0 .d13 .d5 D77 [Y74, Y76, K1000000] (mV D73 Y77 (xT0 D78 Y73 (xT1 D79 Y73 (xT2 D80 Y73 (mV D11 Y78 (mV D12 Y79 (mV D13 Y80 qE))))))))))) (sQ (sR (mV D81 Y13 (eQ D82 Y81 K9 qE)) (cD Y82 (sR (mV D83 Y8 (mV D6 Y83 qE)) rT) sK)) (sQ (sR (mV D84 Y13 (nE D85 Y84 K0 (mV D86 Y85 (gB Y86 D87 (mV D87 Y11) (gB Y86 D88 (lN D88 Y87) (gB Y86 D89 (mV D89 Y2) (gB Y86 D90 (lN D90 Y89) (gB Y86 D91 (nE D91 Y88 Y90) (pK D92 Y86 KT Y91 qE))))))))) (cD Y92 (sR (mV D6 KP qE) rT) sK)) (sR (mV D93 Y8 (nK D94 Y93 (fD9 D95 Y94 (sO Y95 KT qE)))) (sR (mV D96 Y8 (nK D97 Y96 (fD1 D98 Y97 (cA .d0 .d13 .d8 D99 [Y98] qE)))) (sR (mV D100 Y8 (nK D101 Y100 (fD6 D102 Y101 (lD D103 Y102 (iX1 D104 Y103 K0 (lD D105 Y104 (mV D106 Y8 (nK D107 Y106 (fD1 D108 Y107 (fD3 D109 Y108 (lD D110 Y109 (o_sub okB (fun E => (.copy 1 (.k (Y105 E)) (.k (Y110 E)))) D111 qE)))))))))))) (sR (mV D112 Y1 (mV D113 Y11 (cA .d0 .d13 .d7 D114 [Y112, Y113] (bX D14 (gk (.agg [(.vec [] 0 (some 0)), (.vec [] 0 (some 0)), (.vec [] 0 (some 0)), (.vec [] 0 (some 0))])) (sA4 Y14 Y114 qE))))) (sR (cA .d0 .d13 .d8 D115 [Y14] qE) (sR (mV D116 Y8 (lA4 D117 Y14 (cA .d0 .d13 .d9 D118 [Y116, Y117] qE))) (sQ (sQ (tY (fO (fun next => o_mov D119 Y8 (next ([], []))) (fO (fun next => o_nilck D120 Y119 (next ([], []))) (fO (fun next => o_fld (nat_lit 6) D121 Y120 (next ([], []))) (fO (fL D122 Y121) (fO (fun next => o_idx (nat_lit 1) D123 Y122 K0 (next ([], []))) (fO (fL D124 Y123) (fO (fC (nat_lit 218) D125 [Y124]) (fO (fun next => o_mov D126 Y8 (next ([], []))) (fO (fun next => o_nilck D127 Y126 (next ([], []))) (fO (fun next => o_fld (nat_lit 8) D128 Y127 (next ([], []))) (fO (fL D129 Y128) (fO (fun next => o_idx (nat_lit 1) D130 Y129 K0 (next ([], []))) (fO (fL D131 Y130) (fO (fun next => o_bin .neq (b_cmp neI) D132 Y125 Y131 (next ([], []))) (fE [(3, 10), (5, 10), (6, 10), (3, 12), (5, 12), (6, 12)])))))))))))))))) (cD Y132 (sR (mV D6 KP qE) rT) sK)) (sR (mV D133 Y8 (mV D6 Y133 qE)) rT))))))))))))))))
def e155 : Ent := .code t155 134 [(.t Y6)] true
theorem k155 : EOT Tryz.prog G okB 155 e155 := eotA false Tryz.func155
def q156_0 : RunT := (sR (lT D20 Y19 Y18 qE) (sQ (cD Y20 sK eX0) (sQ (bK1 (sR (iX1 D21 Y17 Y19 (lD D22 Y21 (mV D6 Y22 qE))) (sR (mV D24 Y0 (nK D25 Y24 (fD1 D26 Y25 (fD0 D27 Y26 (lD D28 Y27 (mV D29 Y6 (cA .d0 .d13 .d11 D30 [Y28, Y29, (gk (.clo 220 []))] (mV D23 Y30 (xT0 D31 Y23 (xT1 D32 Y23 (mV D7 Y31 (mV D8 Y32 qE)))))))))))) (sR (mV D33 Y8 (nT D34 Y33 (mV D35 Y34 (gB Y35 D36 (mV D36 Y0) (gB Y35 D37 (mV D37 Y7) (gB Y35 D38 (cA .d0 .d13 .d13 D38 [Y36, Y37]) (gB Y35 D39 (nT D39 Y38) (pK D40 Y35 KT Y39 qE)))))))) (cD Y40 (sR (mV D4 KF qE) rT) sK))))) (rG (aD D41 Y19 K1 (mV D19 Y41 qE))))))
def t156 : RunT := (sR (mV D4 KF qE) (sR (mV D9 Y0 (mV D10 Y0 (nK D11 Y10 (fD5 D12 Y11 (lD D13 Y12 (o_sub okB (fun E => (.slice 1 (.k (Y13 E)) none (some (.k (.int .i64 (.ofNat (nat_lit 0))))) none)) D14 (nK D15 Y9 (fD5 D16 Y15 (sO Y16 Y14 qE))))))))) (sQ (sR (mV D17 Y1 (lN D18 Y17 (mV D19 K0 qE))) (bK0 (lP q156_0))) (sR (mV D4 KT qE) rT))))
def e156 : Ent := .code t156 42 [(.t Y4)] false
theorem k156 : EOT Tryz.prog G okB 156 e156 := eotA true Tryz.func156
def q157_0 : RunT := (sQ (sR (mV D30 Y4 (mV D31 Y5 (iX1 D32 Y30 Y31 (lD D33 Y32 (mV D34 Y0 (nK D35 Y34 (fD1 D36 Y35 (fD0 D37 Y36 (lD D38 Y37 (lN D39 Y38 (lT D40 Y33 Y39 qE))))))))))) (cD Y40 sK eX2)) (bK3 (sR (mV D41 Y4 (mV D42 Y5 (iX1 D43 Y41 Y42 (lD D44 Y43 (aD D45 Y44 K1 (iX1 D46 Y41 Y42 (sO Y46 Y45 qE))))))) (sR (mV D47 Y0 (mV D48 Y4 (mV D49 Y5 (iX1 D50 Y48 Y49 (lD D51 Y50 (sB D52 Y51 K1 (cA .d0 .d13 .d13 D53 [Y47, Y52] qE))))))) (cD Y53 (sR (mV D54 Y4 (mV D55 Y5 (aD D56 Y55 K1 (iX1 D57 Y54 Y56 (sO Y57 K0 qE))))) eX1) sK)))))
def q157_1 : RunT := (bK1 (sR (mV D18 Y0 (nK D19 Y18 (fD5 D20 Y19 (lD D21 Y20 (lN D22 Y21 (mV D5 Y22 qE)))))) (sQ (sR (mV D23 Y5 (mV D24 Y0 (nK D25 Y24 (fD0 D26 Y25 (lD D27 Y26 (lN D28 Y27 (eQ D29 Y23 Y28 qE))))))) (cD Y29 (sR (mV D2 KT qE) rT) sK)) (sQ (bK2 (lP q157_0)) (sQ (sR (mV D58 Y5 (mV D59 Y3 (eQ D60 Y58 Y59 qE))) (cD Y60 (sR (mV D2 KF qE) rT) sK)) (rG (mV D61 Y0 (mV D62 Y0 (nK D63 Y62 (fD5 D64 Y63 (lD D65 Y64 (mV D66 Y5 (sB D67 Y66 K1 (o_sub okB (fun E => (.slice 1 (.k (Y65 E)) none (some (.k (Y67 E))) none)) D68 (nK D69 Y61 (fD5 D70 Y69 (sO Y70 Y68 qE)))))))))))))))))
def t157 : RunT := (sR (mV D2 KF qE) (sC (sR (mV D6 Y0 (nK D7 Y6 (fD5 D8 Y7 (lD D9 Y8 (lN D10 Y9 (mV D3 Y10 qE)))))) (sR (mV D11 Y0 (nK D12 Y11 (fD0 D13 Y12 (lD D14 Y13 (lN D15 Y14 (aD D16 Y15 K1 (mS1_8 [(.int .i64 (.ofNat (nat_lit 0)))] D17 Y16 Y16 (mV D4 Y17 qE)))))))) (sQ sK (bK0 (lP q157_1)))))))
def e157 : Ent := .code t157 71 [(.t Y2)] true
theorem k157 : EOT Tryz.prog G okB 157 e157 := eotA true Tryz.func157
def q158_0 : RunT := (sR (lT D24 Y23 Y22 qE) (sQ (cD Y24 sK eX2) (sQ (bK3 (sR (iX1 D25 Y21 Y23 (lD D26 Y25 (mV D6 Y26 qE))) (tY (fO (fun next => o_mov D27 Y3 (next ([], []))) (fO (fun next => o_mov D28 Y4 (next ([], []))) (fO (fun next => o_mov D29 Y3 (next ([], []))) (fO (fun next => o_mov D30 Y4 (next ([], []))) (fO (fun next => o_idx (nat_lit 1) D31 Y29 Y30 (next ([], []))) (fO (fL D32 Y31) (fO (fun next => o_mov D33 Y0 (next ([], []))) (fO (fun next => o_nilck D34 Y33 (next ([], []))) (fO (fun next => o_fld (nat_lit 1) D35 Y34 (next ([], []))) (fO (fun next => o_fld (nat_lit 0) D36 Y35 (next ([], []))) (fO (fL D37 Y36) (fO (fun next => o_mov D38 Y6 (next ([], []))) (fO (fun next => o_idx (nat_lit 1) D39 Y37 Y38 (next ([], []))) (fO (fL D40 Y39) (fO (fun next => o_mov D41 Y4 (next ([], []))) (fO (fun next => o_idx (nat_lit 1) D42 Y40 Y41 (next ([], []))) (fO (fL D43 Y42) (fO (f_slow okB (fun E => (.bsl 1 1 [(.int .i64 (.ofNat (nat_lit 0)))] [(0, (1, (.k (Y43 E))))])) D44) (fO (f_slow okB (fun E => (.append 1 8 (.k (Y32 E)) (.k (Y44 E)))) D45) (fO (fun next => o_idx (nat_lit 1) D46 Y27 Y28 (next ([], []))) (fO (fS Y46 Y45) (fE [(5, 10), (5, 13), (5, 16), (5, 17), (10, 17), (10, 18)]))))))))))))))))))))))))) (rG (aD D47 Y23 K1 (mV D23 Y47 qE))))))
def q158_1 : RunT := (sR (lT D16 Y15 Y14 qE) (sQ (cD Y16 sK eX0) (sQ (bK1 (sR (mV D17 Y15 (mV D4 Y17 qE)) (sR (mV D18 Y0 (nK D19 Y18 (fD5 D20 Y19 (lD D21 Y20 (lN D22 Y21 (mV D23 K0 qE)))))) (bK2 (lP q158_0))))) (rG (aD D48 Y15 K1 (mV D15 Y48 qE))))))
def t158 : RunT := (sR (mV D2 KN qE) (sR (mV D7 Y0 (nK D8 Y7 (fD0 D9 Y8 (lD D10 Y9 (lN D11 Y10 (mS1_24 [(.vec [] 0 (some 0))] D12 Y11 Y11 (mV D3 Y12 qE))))))) (sQ (sR (mV D13 Y3 (lN D14 Y13 (mV D15 K0 qE))) (bK0 (lP q158_1))) (sR (mV D49 Y3 (mV D2 Y49 qE)) rT))))
def e158 : Ent := .code t158 50 [(.t Y2)] false
theorem k158 : EOT Tryz.prog G okB 158 e158 := eotA true Tryz.func158
def q159_0 : RunT := (sR (lT D20 Y19 Y18 qE) (sQ (cD Y20 sK eX0) (sQ (bK1 (sR (iX5 D21 Y17 Y19 (lA5 D22 Y21 (bX D6 (gk (.agg [(.int .i64 (.ofNat (nat_lit 0))), (.int .i64 (.ofNat (nat_lit 0))), (.int .i64 (.ofNat (nat_lit 0))), (.bool false), (.int .i64 (.ofNat (nat_lit 0)))])) (sA5 Y6 Y22 qE)))) (sQ (sR (fD0 D23 Y6 (lD D24 Y23 (mV D25 Y4 (lE D26 Y24 Y25 (mV D27 Y26 (gB Y27 D28 (fD0 D28 Y6) (gB Y27 D29 (lD D29 Y28) (gB Y27 D30 (gT D30 Y29 K60) (pK D31 Y27 KT Y30 (mV D32 Y31 (gB Y32 D33 (fD1 D33 Y6) (gB Y32 D34 (lD D34 Y33) (gB Y32 D35 (lT D35 Y34 K1) (pK D36 Y32 KT Y35 (mV D37 Y36 (gB Y37 D38 (fD1 D38 Y6) (gB Y37 D39 (lD D39 Y38) (gB Y37 D40 (mV D40 Y3) (gB Y37 D41 (sB D41 K8 Y40) (gB Y37 D42 (gT D42 Y39 Y41) (pK D43 Y37 KT Y42 qE))))))))))))))))))))) (cD Y43 (sR (mV D2 KF qE) rT) sK)) (sR (mV D44 Y3 (fD1 D45 Y6 (lD D46 Y45 (aD D47 Y44 Y46 (mV D3 Y47 qE))))) (rG (fD0 D48 Y6 (lD D49 Y48 (mV D4 Y49 qE)))))))) (rG (aD D50 Y19 K1 (mV D19 Y50 qE))))))
def t159 : RunT := (sR (bX D1 Y0 (mV D2 KF qE)) (sQ (sR (fD0 D7 Y1 (lD D8 Y7 (nE D9 Y8 K2 (mV D10 Y9 (gB Y10 D11 (fD1 D11 Y1) (gB Y10 D12 (lD D12 Y11) (gB Y10 D13 (lN D13 Y12) (gB Y10 D14 (eQ D14 Y13 K0) (pK D15 Y10 KT Y14 qE))))))))) (cD Y15 (sR (mV D2 KF qE) rT) sK)) (sR (mV D3 K0 (mV D4 Km0 qE)) (sQ (sR (fD1 D16 Y1 (lD D17 Y16 (lN D18 Y17 (mV D19 K0 qE)))) (bK0 (lP q159_0))) (sR (mV D2 KT qE) rT)))))
def e159 : Ent := .code t159 51 [(.t Y2)] false
theorem k159 : EOT Tryz.prog G okB 159 e159 := eotA true Tryz.func159
def t160 : RunT := (sR (bX D1 Y0 (mV D2 KF qE)) (sQ (sR (fD0 D3 Y1 (lD D4 Y3 (lT D5 Y4 K0 (mV D6 Y5 (gB Y6 D7 (fD0 D7 Y1) (gB Y6 D8 (lD D8 Y7) (gB Y6 D9 (gT D9 Y8 K60) (pK D10 Y6 KT Y9 (mV D11 Y10 (gB Y11 D12 (fD1 D12 Y1) (gB Y11 D13 (lD D13 Y12) (gB Y11 D14 (lT D14 Y13 K1) (pK D15 Y11 KT Y14 (mV D16 Y15 (gB Y16 D17 (fD1 D17 Y1) (gB Y16 D18 (lD D18 Y17) (gB Y16 D19 (gT D19 Y18 K8) (pK D20 Y16 KT Y19 qE)))))))))))))))))) (cD Y20 (sR (mV D2 KF qE) rT) sK)) (sQ (sR (fD2 D21 Y1 (lD D22 Y21 (nE D23 Y22 K1 (mV D24 Y23 (gA Y24 D25 (fD2 D25 Y1) (gA Y24 D26 (lD D26 Y25) (gA Y24 D27 (nE D27 Y26 Km0) (pK D28 Y24 Y27 KF (mV D29 Y28 (gB Y29 D30 (fD4 D30 Y1) (gB Y29 D31 (lD D31 Y30) (gB Y29 D32 (lT D32 Y31 K0) (pK D33 Y29 KT Y32 (mV D34 Y33 (gB Y34 D35 (fD4 D35 Y1) (gB Y34 D36 (lD D36 Y35) (gB Y34 D37 (gT D37 Y36 K7) (pK D38 Y34 KT Y37 qE)))))))))))))))))) (cD Y38 (sR (mV D2 KF qE) rT) sK)) (sQ (sR (fD3 D39 Y1 (lD D40 Y39 (nT D41 Y40 qE))) (cD Y41 (sR (fD1 D42 Y1 (lD D43 Y42 (rM D44 Y43 K2 (eQ D45 Y44 K0 (mV D46 Y45 (gA Y46 D47 (fD4 D47 Y1) (gA Y46 D48 (lD D48 Y47) (gA Y46 D49 (eQ D49 Y48 K0) (pK D50 Y46 Y49 KF (mV D2 Y50 qE)))))))))) rT) sK)) (sQ (sR (fD4 D51 Y1 (lD D52 Y51 (fD1 D53 Y1 (lD D54 Y53 (sB D55 Y52 Y54 (rM D56 Y55 K2 (nE D57 Y56 K0 qE))))))) (cD Y57 (sR (mV D2 KF qE) rT) sK)) (sQ (bK0 (sR (fD1 D59 Y1 (lD D60 Y59 (eQ D61 Y60 K1 (mV D62 Y61 (gA Y62 D63 (fD2 D63 Y1) (gA Y62 D64 (lD D64 Y63) (gA Y62 D65 (eQ D65 Y64 K1) (pK D66 Y62 Y65 KF (mV D58 Y66 qE))))))))) (cD Y58 (sR (fD4 D67 Y1 (lD D68 Y67 (eQ D69 Y68 K1 (mV D70 Y69 (gB Y70 D71 (fD4 D71 Y1) (gB Y70 D72 (lD D72 Y71) (gB Y70 D73 (eQ D73 Y72 K7) (pK D74 Y70 KT Y73 (mV D2 Y74 qE))))))))) rT) (sR (fD1 D76 Y1 (lD D77 Y76 (eQ D78 Y77 K1 (mV D75 Y78 qE)))) (cD Y75 (sR (fD4 D79 Y1 (lD D80 Y79 (eQ D81 Y80 K3 (mV D82 Y81 (gB Y82 D83 (fD4 D83 Y1) (gB Y82 D84 (lD D84 Y83) (gB Y82 D85 (eQ D85 Y84 K5) (pK D86 Y82 KT Y85 (mV D2 Y86 qE))))))))) rT) (sR (fD1 D88 Y1 (lD D89 Y88 (eQ D90 Y89 K2 (mV D91 Y90 (gA Y91 D92 (fD2 D92 Y1) (gA Y91 D93 (lD D93 Y92) (gA Y91 D94 (eQ D94 Y93 K1) (pK D95 Y91 Y94 KF (mV D87 Y95 qE))))))))) (cD Y87 (sR (fD4 D96 Y1 (lD D97 Y96 (nE D98 Y97 K4 (mV D2 Y98 qE)))) rT) (sR (fD1 D100 Y1 (lD D101 Y100 (eQ D102 Y101 K2 (mV D99 Y102 qE)))) (cD Y99 (sR (fD4 D103 Y1 (lD D104 Y103 (nE D105 Y104 K0 (mV D2 Y105 qE)))) rT) sK))))))))) (sR (mV D2 KT qE) rT)))))))
def e160 : Ent := .code t160 106 [(.t Y2)] false
theorem k160 : EOT Tryz.prog G okB 160 e160 := eotA true Tryz.func160
def q161_0 : RunT := (sR (lT D10 Y9 Y8 qE) (sQ (cD Y10 sK eX0) (sQ (bK1 (sR (mV D11 Y9 (mV D6 Y11 qE)) (sQ (sR (fD0 D12 Y3 (lD D13 Y12 (mV D14 Y6 (o_callc okB D15 Y13 [Y14] (nT D16 Y15 qE))))) (cD Y16 eX1 sK)) (sR (mV D17 Y6 (gT D18 Y17 K0 (mV D19 Y18 (gA Y19 D20 (fD0 D20 Y3) (gA Y19 D21 (lD D21 Y20) (gA Y19 D22 (mV D22 Y6) (gA Y19 D23 (sB D23 Y22 K1) (gA Y19 D24 (o_callc okB D24 Y21 [Y23]) (pK D25 Y19 Y24 KF (mV D26 Y25 (gA Y26 D27 (fD1 D27 Y3) (gA Y26 D28 (lD D28 Y27) (gA Y26 D29 (mV D29 Y6) (gA Y26 D30 (o_callc okB D30 Y28 [Y29]) (pK D31 Y26 Y30 KF qE))))))))))))))) (cD Y31 (sR (mV D32 Y5 (lN D33 Y32 (sB D34 Y33 K1 (mV D7 Y34 qE)))) (rG (mV D35 Y5 (mV D36 Y7 (mV D37 Y5 (mV D38 Y7 (iX1 D39 Y37 Y38 (lD D40 Y39 (mV D41 Y6 (bS okB (.int .i64 (.ofNat (nat_lit 0))) Y41 D42 (aP okB 1 8 Y40 Y42 D43 (iX1 D44 Y35 Y36 (sO Y44 Y43 qE))))))))))))) (rG (mV D45 Y5 (mV D46 Y6 (bS okB (.int .i64 (.ofNat (nat_lit 0))) Y46 D47 (bS okB (.vec [] 0 (some 0)) Y47 D48 (aP okB 1 24 Y45 Y48 D49 (mV D5 Y49 qE)))))))))))) (rG (aD D50 Y9 K1 (mV D9 Y50 qE))))))
def t161 : RunT := (sR (bX D3 Y1 (mV D4 KN qE)) (sR (mV D5 KN qE) (sQ (sR (mV D8 Y0 (mV D9 K0 qE)) (bK0 (lP q161_0))) (sR (mV D51 Y5 (mV D4 Y51 qE)) rT))))
def e161 : Ent := .code t161 52 [(.t Y4)] false
theorem k161 : EOT Tryz.prog G okB 161 e161 := eotA true Tryz.func161
def t162 : RunT := (sR (mV D2 KF qE) (sR (mV D2 KT qE) rT))
def e162 : Ent := .code t162 3 [(.t Y2)] false
theorem k162 : EOT Tryz.prog G okB 162 e162 := eotA true Tryz.func162
def t163 : RunT := (sR (mV D3 KF qE) (sR (lA2 D4 Y1 (mV D5 Y0 (cA .d0 .d8 .d4 D6 [Y4, Y5] (mV D3 Y6 qE)))) rT))
def e163 : Ent := .code t163 7 [(.t Y3)] false
theorem k163 : EOT Tryz.prog G okB 163 e163 := eotA true Tryz.func163
def t164 : RunT := (sR (mV D2 KF qE) (sR (mV D3 Y0 (gE D4 Y3 K2 (mV D5 Y4 (gA Y5 D6 (mV D6 Y0) (gA Y5 D7 (lE D7 Y6 K2147483647) (pK D8 Y5 Y7 KF (mV D9 Y8 (gA Y9 D10 (mV D10 Y0) (gA Y9 D11 (cA .d0 .d2 .d14 D11 [Y10]) (gA Y9 D12 (mV D12 Y0) (gA Y9 D13 (eQ D13 Y11 Y12) (pK D14 Y9 Y13 KF (mV D2 Y14 qE))))))))))))) rT))
def e164 : Ent := .code t164 15 [(.t Y2)] false
theorem k164 : EOT Tryz.prog G okB 164 e164 := eotA true Tryz.func164
def t165 : RunT := (sR (mV D4 K0 qE) (sR (mV D5 Y0 (mV D6 Y1 (rM D7 Y5 Y6 (mV D8 Y1 (aD D9 Y7 Y8 (mV D10 Y1 (rM D11 Y9 Y10 (mV D4 Y11 qE)))))))) rT))
def e165 : Ent := .code t165 12 [(.t Y4)] false
theorem k165 : EOT Tryz.prog G okB 165 e165 := eotA true Tryz.func165
def q166_0 : RunT := (sQ (sR (mV D8 Y0 (rM D9 Y8 K2 (eQ D10 Y9 K0 qE))) (cD Y10 sK eX2)) (bK3 (sR (mV D11 Y0 (qU D12 Y11 K2 (mV D0 Y12 qE))) (sR (mV D13 Y1 (rM D14 Y13 K8 (eQ D15 Y14 K3 (mV D16 Y15 (gB Y16 D17 (mV D17 Y1) (gB Y16 D18 (rM D18 Y17 K8) (gB Y16 D19 (eQ D19 Y18 K5) (pK D20 Y16 KT Y19 qE)))))))) (cD Y20 (rG (mV D21 Y5 (nG D22 Y21 (mV D5 Y22 qE)))) sK)))))
def q166_1 : RunT := (sQ (sR (mV D6 Y0 (nE D7 Y6 K0 qE)) (cD Y7 sK eX0)) (bK1 (sQ (bK2 (lP q166_0)) (sQ (sR (mV D23 Y0 (rM D24 Y23 K4 (eQ D25 Y24 K3 (mV D26 Y25 (gA Y26 D27 (mV D27 Y1) (gA Y26 D28 (rM D28 Y27 K4) (gA Y26 D29 (eQ D29 Y28 K3) (pK D30 Y26 Y29 KF qE)))))))) (cD Y30 (rG (mV D31 Y5 (nG D32 Y31 (mV D5 Y32 qE)))) sK)) (rG (mV D33 Y1 (mV D34 Y0 (rM D35 Y33 Y34 (mV D36 Y0 (mV D0 Y35 (mV D1 Y36 qE)))))))))))
def t166 : RunT := (sR (mV D4 K0 qE) (sR (mV D5 K1 qE) (sQ (bK0 (lP q166_1)) (sQ (sR (mV D37 Y1 (nE D38 Y37 K1 qE)) (cD Y38 (sR (mV D4 K0 qE) rT) sK)) (sR (mV D39 Y5 (mV D4 Y39 qE)) rT)))))
def e166 : Ent := .code t166 40 [(.t Y4)] false
theorem k166 : EOT Tryz.prog G okB 166 e166 := eotA true Tryz.func166
def t167 : RunT := (sR (mV D3 KF qE) (sR (fD1 D4 Y1 (lD D5 Y4 (mV D6 Y0 (iX5 D7 Y5 Y6 (fD3 D8 Y7 (lD D9 Y8 (mV D3 Y9 qE))))))) rT))
def e167 : Ent := .code t167 10 [(.t Y3)] false
theorem k167 : EOT Tryz.prog G okB 167 e167 := eotA true Tryz.func167
def t168 : RunT := (sR (mV D3 KF qE) (sR (fD1 D4 Y1 (lD D5 Y4 (mV D6 Y0 (iX5 D7 Y5 Y6 (fD0 D8 Y7 (lD D9 Y8 (fD1 D10 Y1 (lD D11 Y10 (mV D12 Y0 (sB D13 Y12 K1 (iX5 D14 Y11 Y13 (fD0 D15 Y14 (lD D16 Y15 (aD D17 Y16 K1 (eQ D18 Y9 Y17 (mV D3 Y18 qE)))))))))))))))) rT))
def e168 : Ent := .code t168 19 [(.t Y3)] false
theorem k168 : EOT Tryz.prog G okB 168 e168 := eotA true Tryz.func168
def t174 : RunT := (sR (bX D8 (gk (.agg [(.bool false), (.vec [] 0 (some 0))])) qE) (sQ (bK0 (sR (mV D10 Y0 (mV D11 Y2 (bE D12 Y10 Y11 (mV D9 Y12 qE)))) (cD Y9 (sR (mV D13 Y0 (mV D14 Y1 (mV D15 Y3 (cA .d0 .d11 .d1 D16 [Y14, Y15] (cA .d0 .d7 .d6 D17 [Y13, Y16] (sA2 Y8 Y17 qE)))))) rT) (sR (mV D19 Y1 (mV D20 Y3 (cA .d0 .d8 .d13 D21 [Y19, Y20] (gE D22 Y21 K0 (mV D18 Y22 qE))))) (cD Y18 (sR (mV D23 Y0 (mV D24 Y1 (mV D25 Y3 (cA .d0 .d11 .d2 D26 [Y24, Y25] (cA .d0 .d7 .d6 D27 [Y23, Y26] (sA2 Y8 Y27 qE)))))) rT) sK))))) (sR (mV D28 Y2 (mV D29 Y3 (mV D30 Y1 (cA .d0 .d11 .d2 D31 [Y29, Y30] (cA .d0 .d7 .d6 D32 [Y28, Y31] (sA2 Y8 Y32 qE)))))) rT)))
def e174 : Ent := .code t174 33 [(.c Y8 true (nat_lit 2))] false
theorem k174 : EOT Tryz.prog G okB 174 e174 := eotA true Tryz.func174
def q175_0 : RunT := (sR (lT D52 Y51 Y50 qE) (sQ (cD Y52 sK eX2) (sQ (bK3 (sR (mV D53 Y51 (iX1 D54 Y49 Y51 (lD D55 Y54 (mV D10 Y53 (mV D11 Y55 qE))))) (sR (mV D56 Y9 (mV D57 Y7 (cVu64 D58 Y57 (mV D59 Y11 (cVu64 D60 Y59 (mL D61 Y58 Y60 (mV D62 Y8 (mV D63 Y10 (iX1 D64 Y62 Y63 (lD D65 Y64 (cVu64 D66 Y65 (aD D67 Y61 Y66 (aD D68 Y56 Y67 (mV D9 Y68 qE)))))))))))))) (sR (mV D69 Y8 (mV D70 Y10 (mV D71 Y9 (cVu32 D72 Y71 (iX1 D73 Y69 Y70 (sO Y73 Y72 qE)))))) (rG (mV D74 Y9 (hR D75 Y74 Ku32 (mV D9 Y75 qE)))))))) (rG (aD D76 Y51 K1 (mV D51 Y76 qE))))))
def q175_1 : RunT := (sR (lT D35 Y34 Y33 qE) (sQ (cD Y35 sK eX0) (sQ (bK1 (sR (mV D36 Y34 (iX1 D37 Y32 Y34 (lD D38 Y37 (mV D6 Y36 (mV D7 Y38 qE))))) (sQ (sR (mV D39 Y7 (eQ D40 Y39 Kv0 qE)) (cD Y40 eX1 sK)) (sR (mV D41 Y5 (mV D42 Y6 (mV D43 Y6 (mV D44 Y1 (lN D45 Y44 (aD D46 Y43 Y45 (aD D47 Y46 K1 (o_sub okB (fun E => (.slice 1 (.k (Y41 E)) (some (.k (Y42 E))) (some (.k (Y47 E))) none)) D48 (mV D8 Y48 qE))))))))) (sR (mV D9 Ku0 qE) (sQ (sR (mV D49 Y1 (lN D50 Y49 (mV D51 K0 qE))) (bK2 (lP q175_0))) (rG (mV D77 Y8 (mV D78 Y1 (lN D79 Y78 (mV D80 Y9 (cVu32 D81 Y80 (iX1 D82 Y77 Y79 (sO Y82 Y81 qE)))))))))))))) (rG (aD D83 Y34 K1 (mV D34 Y83 qE))))))
def t175 : RunT := (sR (mV D4 KN qE) (sQ (sR (mV D12 Y0 (lN D13 Y12 (lE D14 Y13 K1 (mV D15 Y14 (gA Y15 D16 (mV D16 Y1) (gA Y15 D17 (lN D17 Y16) (gA Y15 D18 (lE D18 Y17 K1) (pK D19 Y15 Y18 KF qE)))))))) (cD Y19 (sR (mV D20 Y0 (cA .d0 .d4 .d9 D21 [Y20] (mV D22 Y1 (cA .d0 .d4 .d9 D23 [Y22] (mL D24 Y21 Y23 (cA .d0 .d7 .d7 D25 [Y24] (mV D4 Y25 qE))))))) rT) sK)) (sR (mV D26 Y0 (lN D27 Y26 (mV D28 Y1 (lN D29 Y28 (aD D30 Y27 Y29 (mS1_4 [(.int .u32 (.ofNat (nat_lit 0)))] D31 Y30 Y30 (mV D5 Y31 qE))))))) (sQ (sR (mV D32 Y0 (lN D33 Y32 (mV D34 K0 qE))) (bK0 (lP q175_1))) (sR (mV D84 Y5 (cA .d0 .d4 .d8 D85 [Y84] (mV D4 Y85 qE))) rT)))))
def e175 : Ent := .code t175 86 [(.t Y4)] false
theorem k175 : EOT Tryz.prog G okB 175 e175 := eotA true Tryz.func175
def q176_0 : RunT := (sQ (sR (mV D80 Y12 (gE D81 Y80 K0 qE)) (cD Y81 sK eX1)) (sQ (bK2 (rG (mV D84 Y4 (mV D85 Y12 (mV D86 Y11 (mV D87 Y12 (mV D88 Y12 (mV D89 Y1 (lN D90 Y89 (aD D91 Y88 Y90 (aD D92 Y91 K1 (o_sub okB (fun E => (.slice 1 (.k (Y86 E)) (some (.k (Y87 E))) (some (.k (Y92 E))) none)) D93 (mV D94 Y10 (cA .d0 .d14 .d2 D95 [Y93, Y94] (iX1 D96 Y84 Y85 (sO Y96 Y95 qE)))))))))))))))) (rG (mV D82 Y12 (sB D83 Y82 K1 (mV D12 Y83 qE))))))
def t176 : RunT := (sR (mV D4 KN (mV D5 KN qE)) (sQ (bK0 (sR (mV D14 Y0 (mV D15 Y1 (cA .d0 .d8 .d13 D16 [Y14, Y15] (lT D17 Y16 K0 (mV D13 Y17 qE))))) (cD Y13 (sR (mV D18 Y0 (cA .d0 .d11 .d3 D19 [Y18] (mV D4 KN (mV D5 Y19 qE)))) rT) (sR (mV D21 Y0 (lN D22 Y21 (lE D23 Y22 K2 (mV D20 Y23 qE)))) (cD Y20 (sR (mV D24 Y0 (cA .d0 .d4 .d9 D25 [Y24] (mV D26 Y1 (cA .d0 .d4 .d9 D27 [Y26] (mV D6 Y25 (mV D7 Y27 qE)))))) (sR (mV D28 Y6 (mV D29 Y7 (qU D30 Y28 Y29 (cA .d0 .d7 .d7 D31 [Y30] (mV D32 Y6 (mV D33 Y7 (rM D34 Y32 Y33 (cA .d0 .d7 .d7 D35 [Y34] (mV D4 Y31 (mV D5 Y35 qE)))))))))) rT)) (sR (mV D37 Y1 (lN D38 Y37 (eQ D39 Y38 K1 (mV D36 Y39 qE)))) (cD Y36 (sR (mV D40 Y0 (cA .d0 .d11 .d3 D41 [Y40] (mV D4 Y41 qE))) (sR (mV D42 Y4 (mV D43 Y1 (iX1 D44 Y43 K0 (lD D45 Y44 (cA .d0 .d13 .d15 D46 [Y42, Y45] (mV D8 Y46 qE)))))) (sR (mV D47 Y4 (cA .d0 .d4 .d8 D48 [Y47] (mV D49 Y8 (cVu64 D50 Y49 (cA .d0 .d7 .d7 D51 [Y50] (mV D4 Y48 (mV D5 Y51 qE))))))) rT))) sK))))))) (sR (mV D52 Y1 (mV D53 Y1 (lN D54 Y53 (sB D55 Y54 K1 (iX1 D56 Y52 Y55 (lD D57 Y56 (cA .d0 .d14 .d0 D58 [Y57] (mV D9 Y58 qE)))))))) (sR (mV D59 Y1 (mV D60 Y9 (cA .d0 .d14 .d1 D61 [Y59, Y60] (mV D62 Y1 (lN D63 Y62 (o_sub okB (fun E => (.slice 1 (.k (Y61 E)) none (some (.k (Y63 E))) none)) D64 (mV D10 Y64 qE))))))) (sR (mV D65 Y0 (mV D66 Y9 (cA .d0 .d14 .d1 D67 [Y65, Y66] (mV D11 Y67 qE)))) (sR (mV D68 Y0 (lN D69 Y68 (mV D70 Y1 (lN D71 Y70 (sB D72 Y69 Y71 (aD D73 Y72 K1 (mS1_4 [(.int .u32 (.ofNat (nat_lit 0)))] D74 Y73 Y73 (mV D4 Y74 qE)))))))) (sQ (sR (mV D75 Y0 (lN D76 Y75 (mV D77 Y1 (lN D78 Y77 (sB D79 Y76 Y78 (mV D12 Y79 qE)))))) (bK1 (lP q176_0))) (sR (mV D97 Y11 (mV D98 Y9 (cA .d0 .d14 .d3 D99 [Y97, Y98] qE))) (sR (mV D100 Y4 (cA .d0 .d4 .d8 D101 [Y100] (mV D102 Y11 (cA .d0 .d4 .d8 D103 [Y102] (mV D4 Y101 (mV D5 Y103 qE)))))) rT)))))))))
def e176 : Ent := .code t176 104 [(.t Y4), (.t Y5)] false
theorem k176 : EOT Tryz.prog G okB 176 e176 := eotA true Tryz.func176
def q177_0 : RunT := (sR (lT D23 Y22 Y21 qE) (sQ (cD Y23 sK eX0) (sQ (bK1 (sR (mV D24 Y22 (mV D7 Y24 qE)) (sR (mV D25 Y6 (mV D26 Y0 (mV D27 Y7 (iX1 D28 Y26 Y27 (lD D29 Y28 (cVu64 D30 Y29 (mV D31 Y1 (mV D32 Y7 (iX1 D33 Y31 Y32 (lD D34 Y33 (cVu64 D35 Y34 (aD D36 Y30 Y35 (aD D37 Y25 Y36 (mV D6 Y37 qE)))))))))))))) (sR (mV D38 Y5 (mV D39 Y7 (mV D40 Y6 (cVu32 D41 Y40 (iX1 D42 Y38 Y39 (sO Y42 Y41 qE)))))) (rG (mV D43 Y6 (hR D44 Y43 Ku32 (mV D6 Y44 qE)))))))) (rG (aD D45 Y22 K1 (mV D22 Y45 qE))))))
def q177_1 : RunT := (sR (lT D52 Y51 Y50 qE) (sQ (cD Y52 sK eX2) (sQ (bK3 (sR (mV D53 Y51 (mV D8 Y53 qE)) (sR (mV D54 Y6 (mV D55 Y0 (mV D56 Y1 (lN D57 Y56 (mV D58 Y8 (aD D59 Y57 Y58 (iX1 D60 Y55 Y59 (lD D61 Y60 (cVu64 D62 Y61 (aD D63 Y54 Y62 (mV D6 Y63 qE))))))))))) (sR (mV D64 Y5 (mV D65 Y1 (lN D66 Y65 (mV D67 Y8 (aD D68 Y66 Y67 (mV D69 Y6 (cVu32 D70 Y69 (iX1 D71 Y64 Y68 (sO Y71 Y70 qE))))))))) (rG (mV D72 Y6 (hR D73 Y72 Ku32 (mV D6 Y73 qE)))))))) (rG (aD D74 Y51 K1 (mV D51 Y74 qE))))))
def t177 : RunT := (sR (mV D4 KN qE) (sQ (sR (mV D9 Y0 (lN D10 Y9 (mV D11 Y1 (lN D12 Y11 (lT D13 Y10 Y12 qE))))) (cD Y13 (rG (mV D14 Y1 (mV D15 Y0 (mV D0 Y14 (mV D1 Y15 qE))))) sK)) (sR (mV D16 Y0 (lN D17 Y16 (aD D18 Y17 K1 (mS1_4 [(.int .u32 (.ofNat (nat_lit 0)))] D19 Y18 Y18 (mV D5 Y19 qE))))) (sR (mV D6 Ku0 qE) (sQ (sR (mV D20 Y1 (lN D21 Y20 (mV D22 K0 qE))) (bK0 (lP q177_0))) (sQ (sR (mV D46 Y0 (lN D47 Y46 (mV D48 Y1 (lN D49 Y48 (sB D50 Y47 Y49 (mV D51 K0 qE)))))) (bK2 (lP q177_1))) (sR (mV D75 Y5 (mV D76 Y0 (lN D77 Y76 (mV D78 Y6 (cVu32 D79 Y78 (iX1 D80 Y75 Y77 (sO Y80 Y79 qE))))))) (sR (mV D81 Y5 (cA .d0 .d4 .d8 D82 [Y81] (mV D4 Y82 qE))) rT))))))))
def e177 : Ent := .code t177 83 [(.t Y4)] true
theorem k177 : EOT Tryz.prog G okB 177 e177 := eotA true Tryz.func177
def q178_0 : RunT := (sR (lT D15 Y14 Y13 qE) (sQ (cD Y15 sK eX0) (sQ (bK1 (sR (mV D16 Y14 (mV D7 Y16 qE)) (sR (mV D17 Y0 (mV D18 Y7 (iX1 D19 Y17 Y18 (lD D20 Y19 (cVu64 D21 Y20 (mV D22 Y6 (sB D23 Y21 Y22 (mV D8 Y23 qE)))))))) (sQ (sR (mV D24 Y7 (mV D25 Y1 (lN D26 Y25 (lT D27 Y24 Y26 qE)))) (cD Y27 (rG (mV D28 Y8 (mV D29 Y1 (mV D30 Y7 (iX1 D31 Y29 Y30 (lD D32 Y31 (cVu64 D33 Y32 (sB D34 Y28 Y33 (mV D8 Y34 qE))))))))) sK)) (sR (mV D35 Y5 (mV D36 Y7 (mV D37 Y8 (cVu32 D38 Y37 (iX1 D39 Y35 Y36 (sO Y39 Y38 qE)))))) (rG (mV D40 Y8 (hR D41 Y40 Ku63 (mV D6 Y41 qE))))))))) (rG (aD D42 Y14 K1 (mV D14 Y42 qE))))))
def t178 : RunT := (sR (mV D4 KN qE) (sR (mV D9 Y0 (lN D10 Y9 (mS1_4 [(.int .u32 (.ofNat (nat_lit 0)))] D11 Y10 Y10 (mV D5 Y11 qE)))) (sR (mV D6 Ku0 qE) (sQ (sR (mV D12 Y0 (lN D13 Y12 (mV D14 K0 qE))) (bK0 (lP q178_0))) (sR (mV D43 Y5 (cA .d0 .d4 .d8 D44 [Y43] (mV D4 Y44 qE))) rT)))))
def e178 : Ent := .code t178 45 [(.t Y4)] false
theorem k178 : EOT Tryz.prog G okB 178 e178 := eotA true Tryz.func178
def q180_0 : RunT := (sR (lT D30 Y29 Y28 qE) (sQ (cD Y30 sK eX0) (sQ (bK1 (sR (iX1 D31 Y27 Y29 (lD D32 Y31 (mV D4 Y32 qE))) (sR (mV D33 Y4 (lN D34 Y33 (mV D35 Y0 (iX1 D36 Y35 K0 (lD D37 Y36 (lN D38 Y37 (nE D39 Y34 Y38 qE))))))) (cD Y39 (sR (mV D2 KF qE) rT) sK)))) (rG (aD D40 Y29 K1 (mV D29 Y40 qE))))))
def t180 : RunT := (sR (mV D2 KF qE) (sQ (sR (mV D5 Y0 (lN D6 Y5 (lT D7 Y6 K1 (mV D8 Y7 (gB Y8 D9 (mV D9 Y0) (gB Y8 D10 (lN D10 Y9) (gB Y8 D11 (gT D11 Y10 K16) (pK D12 Y8 KT Y11 (mV D13 Y12 (gB Y13 D14 (mV D14 Y0) (gB Y13 D15 (iX1 D15 Y14 K0) (gB Y13 D16 (lD D16 Y15) (gB Y13 D17 (lN D17 Y16) (gB Y13 D18 (lT D18 Y17 K1) (pK D19 Y13 KT Y18 (mV D20 Y19 (gB Y20 D21 (mV D21 Y0) (gB Y20 D22 (iX1 D22 Y21 K0) (gB Y20 D23 (lD D23 Y22) (gB Y20 D24 (lN D24 Y23) (gB Y20 D25 (gT D25 Y24 K16) (pK D26 Y20 KT Y25 qE)))))))))))))))))))))) (cD Y26 (sR (mV D2 KF qE) rT) sK)) (sQ (sR (mV D27 Y0 (lN D28 Y27 (mV D29 K0 qE))) (bK0 (lP q180_0))) (sR (mV D2 KT qE) rT))))
def e180 : Ent := .code t180 41 [(.t Y2)] false
theorem k180 : EOT Tryz.prog G okB 180 e180 := eotA true Tryz.func180
def t181 : RunT := (sR (mV D2 K0 qE) (sQ (sR (mV D3 Y0 (lT D4 Y3 K2 (mV D5 Y4 (gB Y5 D6 (mV D6 Y0) (gB Y5 D7 (gT D7 Y6 K2147483647) (pK D8 Y5 KT Y7 qE)))))) (cD Y8 (sR (mV D2 K1 qE) rT) sK)) (sR (mV D2 K0 qE) rT)))
def e181 : Ent := .code t181 9 [(.t Y2)] false
theorem k181 : EOT Tryz.prog G okB 181 e181 := eotA true Tryz.func181
def q182_0 : RunT := (sR (lT D29 Y28 Y27 qE) (sQ (cD Y29 sK eX2) (sQ (bK3 (sR (mV D30 Y28 (iX1 D31 Y26 Y28 (lD D32 Y31 (mV D8 Y30 (mV D9 Y32 qE))))) (rG (mV D33 Y5 (mV D34 Y6 (iX1 D35 Y33 Y34 (lD D36 Y35 (mV D37 Y8 (mV D38 Y9 (mV D39 Y1 (rM D40 Y38 Y39 (mV D41 Y1 (aD D42 Y40 Y41 (mV D43 Y1 (rM D44 Y42 Y43 (iX1 D45 Y36 Y37 (sO Y45 Y44 qE))))))))))))))))) (rG (aD D46 Y28 K1 (mV D28 Y46 qE))))))
def q182_1 : RunT := (sR (lT D16 Y15 Y14 qE) (sQ (cD Y16 sK eX0) (sQ (bK1 (sR (mV D17 Y15 (iX1 D18 Y13 Y15 (lD D19 Y18 (mV D6 Y17 (mV D7 Y19 qE))))) (sR (mV D20 Y5 (mV D21 Y6 (mV D22 Y7 (lN D23 Y22 (mS1_8 [(.int .i64 (.ofNat (nat_lit 0)))] D24 Y23 Y23 (iX1 D25 Y20 Y21 (sO Y25 Y24 qE))))))) (sR (mV D26 Y7 (lN D27 Y26 (mV D28 K0 qE))) (bK2 (lP q182_0)))))) (rG (aD D47 Y15 K1 (mV D15 Y47 qE))))))
def t182 : RunT := (sR (mV D4 KN qE) (sR (mV D10 Y0 (lN D11 Y10 (mS1_24 [(.vec [] 0 (some 0))] D12 Y11 Y11 (mV D5 Y12 qE)))) (sQ (sR (mV D13 Y0 (lN D14 Y13 (mV D15 K0 qE))) (bK0 (lP q182_1))) (sR (mV D48 Y5 (mV D4 Y48 qE)) rT))))
def e182 : Ent := .code t182 49 [(.t Y4)] true
theorem k182 : EOT Tryz.prog G okB 182 e182 := eotA true Tryz.func182
def q183_0 : RunT := (sQ (sR (mV D30 Y11 (mV D31 Y10 (aD D32 Y30 Y31 (mV D33 Y0 (nK D34 Y33 (fD1 D35 Y34 (lD D36 Y35 (lN D37 Y36 (lT D38 Y32 Y37 qE))))))))) (cD Y38 sK eX2)) (sQ (bK3 (sR (mV D41 Y0 (mV D42 Y0 (nK D43 Y42 (fD1 D44 Y43 (lD D45 Y44 (mV D46 Y11 (iX1 D47 Y45 Y46 (lD D48 Y47 (mV D49 Y11 (mV D50 Y10 (aD D51 Y49 Y50 (iX1 D52 Y48 Y51 (lD D53 Y52 (cA .d0 .d14 .d4 D54 [Y41, Y53] (mV D12 Y54 qE))))))))))))))) (sR (mV D55 Y12 (mV D56 Y9 (lT D57 Y55 Y56 qE))) (cD Y57 (rG (mV D58 Y11 (mV D59 Y11 (mV D60 Y10 (aD D61 Y59 Y60 (mV D62 Y12 (mV D7 Y58 (mV D8 Y61 (mV D9 Y62 qE))))))))) sK)))) (rG (mV D39 Y11 (aD D40 Y39 K1 (mV D11 Y40 qE))))))
def q183_1 : RunT := (sR (lT D27 Y26 Y25 qE) (sQ (cD Y27 sK eX0) (sQ (bK1 (sR (mV D28 Y26 (mV D10 Y28 qE)) (sR (mV D29 Y1 (mV D11 Y29 qE)) (bK2 (lP q183_0))))) (rG (aD D63 Y26 K1 (mV D26 Y63 qE))))))
def t183 : RunT := (sR (mV D4 K0 (mV D5 K0 (mV D6 K0 qE))) (sR (mV D13 Y1 (mV D14 Y1 (mV D15 Y0 (nK D16 Y15 (fD0 D17 Y16 (lD D18 Y17 (mV D7 Y13 (mV D8 Y14 (mV D9 Y18 qE))))))))) (sQ (sR (mV D19 Y0 (nK D20 Y19 (fD1 D21 Y20 (lD D22 Y21 (lN D23 Y22 (mV D24 Y1 (sB D25 Y23 Y24 (mV D26 K0 qE)))))))) (bK0 (lP q183_1))) (sR (mV D64 Y7 (mV D65 Y8 (mV D66 Y9 (mV D4 Y64 (mV D5 Y65 (mV D6 Y66 qE)))))) rT))))
def e183 : Ent := .code t183 67 [(.t Y4), (.t Y5), (.t Y6)] false
theorem k183 : EOT Tryz.prog G okB 183 e183 := eotA true Tryz.func183
def q184_0 : RunT := (sQ (sR (mV D6 Y1 (mV D7 Y2 (gT D8 Y6 Y7 qE))) (cD Y8 sK eX0)) (sQ (bK1 (rG (mV D11 Y0 (mV D12 Y1 (sB D13 Y12 K1 (mV D14 Y1 (cA .d0 .d14 .d5 D15 [Y11, Y13, Y14] qE))))))) (rG (mV D9 Y1 (sB D10 Y9 K1 (mV D1 Y10 qE))))))
def t184 : RunT := (bK0 (lP q184_0))
def e184 : Ent := .code t184 16 [] false
theorem k184 : EOT Tryz.prog G okB 184 e184 := eotA true Tryz.func184
def q185_0 : RunT := (sQ (sR (mV D12 Y8 (mV D13 Y0 (nK D14 Y13 (fD1 D15 Y14 (lD D16 Y15 (lN D17 Y16 (lT D18 Y12 Y17 qE))))))) (cD Y18 sK eX0)) (sQ (bK1 (sR (mV D21 Y0 (nK D22 Y21 (fD1 D23 Y22 (lD D24 Y23 (mV D25 Y1 (iX1 D26 Y24 Y25 (lD D27 Y26 (mV D28 Y8 (iX1 D29 Y27 Y28 (lD D30 Y29 (mV D31 Y2 (hR D32 Y30 Y31 (mV D9 Y32 qE))))))))))))) (rG (mV D33 Y0 (mV D34 Y8 (mV D35 Y1 (mV D36 Y0 (mV D37 Y9 (nG D38 Y37 (mV D39 Y3 (mL D40 Y38 Y39 (cA .d0 .d14 .d7 D41 [Y36, Y40] (cA .d0 .d14 .d6 D42 [Y33, Y34, Y35, Y41] qE))))))))))))) (rG (mV D19 Y8 (aD D20 Y19 K1 (mV D8 Y20 qE))))))
def t185 : RunT := (sR (mV D10 Y1 (aD D11 Y10 K1 (mV D8 Y11 qE))) (bK0 (lP q185_0)))
def e185 : Ent := .code t185 43 [] false
theorem k185 : EOT Tryz.prog G okB 185 e185 := eotA true Tryz.func185
def t186 : RunT := (sR (mV D4 K0 qE) (sR (mV D8 Y1 (bS okB (.int .i64 (.ofNat (nat_lit 0))) Y8 D9 (bS okB (.vec [] 0 (some 0)) Y9 D10 (mV D11 Y0 (nK D12 Y11 (fD0 D13 Y12 (lD D14 Y13 (hL D15 K1 Y14 (cA .d0 .d12 .d4 D16 [Y10, Y15] (mV D7 Y16 (xT0 D17 Y7 (xT1 D18 Y7 (mV D5 Y17 (mV D6 Y18 qE)))))))))))))) (sR (mV D19 Y5 (iX1 D20 Y19 K0 (lD D21 Y20 (iX1 D22 Y21 K0 (lD D23 Y22 (mV D4 Y23 qE)))))) rT)))
def e186 : Ent := .code t186 24 [(.t Y4)] false
theorem k186 : EOT Tryz.prog G okB 186 e186 := eotA true Tryz.func186
def q187_0 : RunT := (sQ (sR (mV D31 Y9 (mV D32 Y0 (nK D33 Y32 (fD1 D34 Y33 (lD D35 Y34 (lN D36 Y35 (lT D37 Y31 Y36 qE))))))) (cD Y37 sK eX0)) (sQ (bK1 (sR (mV D40 Y0 (nK D41 Y40 (fD1 D42 Y41 (lD D43 Y42 (mV D44 Y1 (iX1 D45 Y43 Y44 (lD D46 Y45 (mV D47 Y9 (iX1 D48 Y46 Y47 (lD D49 Y48 (mV D50 Y2 (hR D51 Y49 Y50 (mV D52 Y0 (nK D53 Y52 (fD1 D54 Y53 (lD D55 Y54 (mV D56 Y1 (aD D57 Y56 K1 (iX1 D58 Y55 Y57 (lD D59 Y58 (mV D60 Y9 (iX1 D61 Y59 Y60 (lD D62 Y61 (mV D63 Y2 (hR D64 Y62 Y63 (mV D10 Y51 (mV D11 Y64 qE))))))))))))))))))))))))))) (sR (mV D65 Y0 (fD3 D66 Y7 (lD D67 Y66 (mV D68 Y11 (mL D69 Y67 Y68 (fD4 D70 Y7 (lD D71 Y70 (mV D72 Y10 (mL D73 Y71 Y72 (sB D74 Y69 Y73 (cA .d0 .d14 .d7 D75 [Y65, Y74] (mV D76 Y8 (mL D77 Y75 Y76 (mV D12 Y77 qE)))))))))))))) (sR (mV D78 Y0 (fD3 D79 Y7 (lD D80 Y79 (mV D81 Y10 (mL D82 Y80 Y81 (fD2 D83 Y7 (lD D84 Y83 (mV D85 Y11 (mL D86 Y84 Y85 (sB D87 Y82 Y86 (cA .d0 .d14 .d7 D88 [Y78, Y87] (mV D89 Y8 (mL D90 Y88 Y89 (mV D13 Y90 qE)))))))))))))) (sR (mV D91 Y0 (mV D92 Y9 (mV D93 Y1 (mV D94 Y0 (mV D95 Y12 (cA .d0 .d14 .d7 D96 [Y94, Y95] (cA .d0 .d14 .d6 D97 [Y91, Y92, Y93, Y96] qE))))))) (rG (mV D98 Y0 (mV D99 Y9 (mV D100 Y1 (aD D101 Y100 K1 (mV D102 Y0 (mV D103 Y13 (cA .d0 .d14 .d7 D104 [Y102, Y103] (cA .d0 .d14 .d6 D105 [Y98, Y99, Y101, Y104] qE)))))))))))))) (rG (mV D38 Y9 (aD D39 Y38 K1 (mV D9 Y39 qE))))))
def t187 : RunT := (sR (bX D7 Y3 qE) (sR (mV D14 Y0 (mV D15 Y0 (fD2 D16 Y7 (lD D17 Y16 (fD4 D18 Y7 (lD D19 Y18 (mL D20 Y17 Y19 (fD3 D21 Y7 (lD D22 Y21 (fD3 D23 Y7 (lD D24 Y23 (mL D25 Y22 Y24 (sB D26 Y20 Y25 (cA .d0 .d14 .d7 D27 [Y15, Y26] (cA .d0 .d11 .d10 D28 [Y14, Y27] (mV D8 Y28 qE)))))))))))))))) (sR (mV D29 Y1 (aD D30 Y29 K2 (mV D9 Y30 qE))) (bK0 (lP q187_0)))))
def e187 : Ent := .code t187 106 [] false
theorem k187 : EOT Tryz.prog G okB 187 e187 := eotA true Tryz.func187
def t188 : RunT := (sR (bX D2 Y0 (mV D4 KF qE)) (sQ (sR (mV D7 Y1 (lN D8 Y7 (nE D9 Y8 K2 qE))) (cD Y9 (sR (mV D4 KT qE) rT) sK)) (sQ (tY (fO (fun next => o_fld (nat_lit 1) D10 Y2 (next ([], []))) (fO (fL D11 Y10) (fO (fun next => o_mov D12 Y1 (next ([], []))) (fO (fun next => o_idx (nat_lit 1) D13 Y12 K0 (next ([], []))) (fO (fL D14 Y13) (fO (fun next => o_idx (nat_lit 5) D15 Y11 Y14 (next ([], []))) (fO (fA5 D16 Y15) (fO (fun next => o_fld (nat_lit 1) D17 Y2 (next ([], []))) (fO (fL D18 Y17) (fO (fun next => o_mov D19 Y1 (next ([], []))) (fO (fun next => o_idx (nat_lit 1) D20 Y19 K1 (next ([], []))) (fO (fL D21 Y20) (fO (fun next => o_idx (nat_lit 5) D22 Y18 Y21 (next ([], []))) (fO (fA5 D23 Y22) (fO (fB D5 (gk (.agg [(.int .i64 (.ofNat (nat_lit 0))), (.int .i64 (.ofNat (nat_lit 0))), (.int .i64 (.ofNat (nat_lit 0))), (.bool false), (.int .i64 (.ofNat (nat_lit 0)))]))) (fO (fB D6 (gk (.agg [(.int .i64 (.ofNat (nat_lit 0))), (.int .i64 (.ofNat (nat_lit 0))), (.int .i64 (.ofNat (nat_lit 0))), (.bool false), (.int .i64 (.ofNat (nat_lit 0)))]))) (fO (fT5 Y5 Y16) (fO (fT5 Y6 Y23) (fE [(1, 4), (1, 8), (4, 8), (6, 8), (1, 11), (4, 11), (6, 11), (8, 11), (1, 13), (4, 13), (6, 13), (1, 14), (4, 14), (6, 14), (8, 14), (11, 14), (13, 14), (1, 15), (4, 15), (6, 15), (8, 15), (11, 15), (13, 15), (14, 15), (8, 16), (11, 16), (13, 16)])))))))))))))))))))) (sR (fD1 D24 Y5 (lD D25 Y24 (nE D26 Y25 K1 (mV D27 Y26 (gB Y27 D28 (fD1 D28 Y6) (gB Y27 D29 (lD D29 Y28) (gB Y27 D30 (nE D30 Y29 K1) (pK D31 Y27 KT Y30 (mV D32 Y31 (gB Y32 D33 (fD4 D33 Y5) (gB Y32 D34 (lD D34 Y33) (gB Y32 D35 (fD4 D35 Y6) (gB Y32 D36 (lD D36 Y35) (gB Y32 D37 (aD D37 Y34 Y36) (gB Y32 D38 (rM D38 Y37 K4) (gB Y32 D39 (nE D39 Y38 K0) (pK D40 Y32 KT Y39 (mV D4 Y40 qE)))))))))))))))))) rT))))
def e188 : Ent := .code t188 41 [(.t Y4)] false
theorem k188 : EOT Tryz.prog G okB 188 e188 := eotA true Tryz.func188
def q189_0 : RunT := (sR (lT D11 Y10 Y9 qE) (sQ (cD Y11 sK eX0) (sQ (bK1 (sR (iX1 D12 Y8 Y10 (lD D13 Y12 (mV D6 Y13 qE))) (sR (mV D14 Y6 (mV D15 Y1 (cA .d0 .d11 .d14 D16 [Y14, Y15] qE))) (cD Y16 (sR (mV D17 Y6 (mV D4 Y17 qE)) rT) sK)))) (rG (aD D18 Y10 K1 (mV D10 Y18 qE))))))
def t189 : RunT := (sR (bX D2 Y0 (mV D4 KN qE)) (sQ (sR (lA2 D7 Y2 (cA .d0 .d6 .d5 D8 [Y7] (lN D9 Y8 (mV D10 K0 qE)))) (bK0 (lP q189_0))) (sR (mV D4 KN qE) rT)))
def e189 : Ent := .code t189 19 [(.t Y4)] false
theorem k189 : EOT Tryz.prog G okB 189 e189 := eotA true Tryz.func189
def t190 : RunT := (sR (mV D4 KF qE) (sR (mV D5 Y0 (mV D6 Y1 (cA .d0 .d14 .d8 D7 [Y5, Y6] (gE D8 Y7 K0 (mV D4 Y8 qE))))) rT))
def e190 : Ent := .code t190 9 [(.t Y4)] false
theorem k190 : EOT Tryz.prog G okB 190 e190 := eotA true Tryz.func190
end
end Go.Proofs.YtmmfnpbjolpfmaaGreatDoor

/- Threaded code of some functions, by program (gent.py). -/
namespace Go.Proofs.YtmmfnpbjolpfmaaGreatDoor
set_option linter.unusedSimpArgs false
set_option linter.unusedVariables false
open Go Go.AL Go.Proofs
set_option maxRecDepth 100000
noncomputable section
def q191_0 : RunT := (sQ (sR (mV D27 Y9 (mV D28 Y10 (mV D29 Y10 (lN D30 Y29 (sB D31 Y30 K1 (iX2 D32 Y28 Y31 (lA2 D33 Y32 (mV D34 Y10 (lN D35 Y34 (sB D36 Y35 K1 (hL D37 K1 Y36 (o_callc okB D38 Y27 [Y33, Y37] qE)))))))))))) (cD Y38 sK eX0)) (bK1 (sR (mV D39 Y10 (mV D40 Y10 (lN D41 Y40 (sB D42 Y41 K1 (iX2 D43 Y39 Y42 (lA2 D44 Y43 (bX D11 (gk (.agg [(.bool false), (.vec [] 0 (some 0))])) (sA2 Y11 Y44 qE)))))))) (rG (mV D45 Y10 (lA2 D46 Y11 (lA2 D47 Y11 (cA .d0 .d7 .d10 D48 [Y46, Y47] (o_sub okB (fun E => (.bsl 1 2 [(.bool false), (.vec [] 0 (some 0))] [(0, (2, (.k (Y48 E))))])) D49 (aP okB 2 32 Y45 Y49 D50 (mV D10 Y50 qE)))))))))))
def q191_1 : RunT := (sQ (sR (mV D54 Y12 (gE D55 Y54 K0 qE)) (cD Y55 sK eX2)) (sQ (bK3 (rG (mV D58 Y9 (mV D59 Y10 (mV D60 Y12 (iX2 D61 Y59 Y60 (lA2 D62 Y61 (mV D63 Y12 (hL D64 K1 Y63 (o_callc okB D65 Y58 [Y62, Y64] qE)))))))))) (rG (mV D56 Y12 (sB D57 Y56 K1 (mV D12 Y57 qE))))))
def t191 : RunT := (sR (bX D2 Y0 (mV D4 K0 (bX D5 (gk (.agg [(.bool false), (.vec [] 0 (some 0))])) (mV D6 K0 qE)))) (sQ (sR (mV D13 Y1 (cA .d0 .d10 .d4 D14 [Y13] (nT D15 Y14 qE))) (cD Y15 (sR (o_sub okB (fun E => (.build [(.bool false), (.vec [] 0 (some 0))] [])) D16 (mV D4 K0 (sA2 Y5 Y16 (mV D6 K20 qE)))) rT) sK)) (sQ (sR (lA2 D17 Y2 (cA .d0 .d7 .d8 D18 [Y17] (eQ D19 Y18 K0 qE))) (cD Y19 (sR (o_sub okB (fun E => (.build [(.bool false), (.vec [] 0 (some 0))] [])) D20 (mV D4 K0 (sA2 Y5 Y20 (mV D6 K1 qE)))) rT) sK)) (sR (lA2 D21 Y2 (cA .d0 .d7 .d13 D22 [Y21] (bX D7 (gk (.agg [(.bool false), (.vec [] 0 (some 0))])) (sA2 Y7 Y22 qE)))) (sR (bX D8 K0 (sO Y8 K0 qE)) (sR (mF233 D23 [Y7, Y8] (mV D9 Y23 qE)) (sR (mV D24 Y1 (cA .d0 .d4 .d5 D25 [Y24] (o_sub okB (fun E => (.bsl 1 2 [(.bool false), (.vec [] 0 (some 0))] [(0, (2, (.k (Y25 E))))])) D26 (mV D10 Y26 qE)))) (sQ (bK0 (lP q191_0)) (sQ (sR (mV D51 Y10 (lN D52 Y51 (sB D53 Y52 K2 (mV D12 Y53 qE)))) (bK2 (lP q191_1))) (sR (lD D66 Y8 (lA2 D67 Y7 (mV D4 Y66 (sA2 Y5 Y67 (mV D6 K0 qE))))) rT))))))))))
def e191 : Ent := .code t191 68 [(.t Y4), (.c Y5 true (nat_lit 2)), (.t Y6)] false
theorem k191 : EOT Tryz.prog G okB 191 e191 := eotA true Tryz.func191
def q192_0 : RunT := (sQ (sR (mV D30 Y13 (mV D31 Y12 (aD D32 Y30 Y31 (mV D33 Y8 (lT D34 Y32 Y33 qE))))) (cD Y34 sK eX2)) (sQ (bK3 (sR (mV D37 Y0 (nK D38 Y37 (fD2 D39 Y38 (lD D40 Y39 (mV D41 Y13 (iX1 D42 Y40 Y41 (lD D43 Y42 (mV D44 Y13 (mV D45 Y12 (aD D46 Y44 Y45 (iX1 D47 Y43 Y46 (lD D48 Y47 (mV D14 Y48 qE))))))))))))) (sQ (sR (mV D49 Y14 (eQ D50 Y49 K0 qE)) (cD Y50 eX3 sK)) (sQ (sR (mV D51 Y14 (mV D52 Y0 (nK D53 Y52 (fD0 D54 Y53 (lD D55 Y54 (cA .d0 .d12 .d3 D56 [Y51, Y55] (pT0 D57 Y56 (mV D15 Y57 qE)))))))) (sR (mV D58 Y11 (lT D59 Y58 K0 (mV D60 Y59 (gB Y60 D61 (mV D61 Y15) (gB Y60 D62 (mV D62 Y11) (gB Y60 D63 (lT D63 Y61 Y62) (pK D64 Y60 KT Y63 qE))))))) (cD Y64 (rG (mV D65 Y13 (mV D66 Y13 (mV D67 Y12 (aD D68 Y66 Y67 (mV D69 Y15 (mV D9 Y65 (mV D10 Y68 (mV D11 Y69 qE))))))))) sK))) (sR (mV D70 Y11 (mV D71 Y2 (eQ D72 Y70 Y71 qE))) (cD Y72 eX0 sK)))))) (rG (mV D35 Y13 (aD D36 Y35 K1 (mV D13 Y36 qE))))))
def q192_1 : RunT := (sR (lT D27 Y26 Y25 qE) (sQ (cD Y27 sK eX0) (sQ (bK1 (sR (mV D28 Y26 (mV D12 Y28 qE)) (sR (mV D29 Y1 (mV D13 Y29 qE)) (bK2 (lP q192_0))))) (rG (aD D73 Y26 K1 (mV D26 Y73 qE))))))
def t192 : RunT := (sR (mV D6 K0 (mV D7 K0 qE)) (sC (sR (mV D16 Y0 (nK D17 Y16 (fD2 D18 Y17 (lD D19 Y18 (lN D20 Y19 (mV D8 Y20 qE)))))) (sR (mV D21 Y1 (mV D22 Y1 (mV D9 Y21 (mV D10 Y22 (mV D11 Km0 qE))))) (sQ sK (sQ (sR (mV D23 Y8 (mV D24 Y1 (sB D25 Y23 Y24 (mV D26 K0 qE)))) (bK0 (lP q192_1))) (sR (mV D74 Y9 (mV D75 Y10 (mV D6 Y74 (mV D7 Y75 qE)))) rT)))))))
def e192 : Ent := .code t192 76 [(.t Y6), (.t Y7)] false
theorem k192 : EOT Tryz.prog G okB 192 e192 := eotA true Tryz.func192
def q193_0 : RunT := (sR (lT D31 Y30 Y29 qE) (sQ (cD Y31 sK eX2) (sQ (bK3 (sR (iX1 D32 Y28 Y30 (lD D33 Y32 (mV D11 Y33 qE))) (rG (mV D34 Y11 (mV D35 Y1 (mV D36 Y11 (mV D37 Y1 (iX1 D38 Y36 Y37 (lD D39 Y38 (mV D40 Y3 (mV D41 Y11 (mV D42 Y2 (iX1 D43 Y41 Y42 (lD D44 Y43 (mL D45 Y40 Y44 (aD D46 Y39 Y45 (mV D47 Y0 (nK D48 Y47 (fD1 D49 Y48 (lD D50 Y49 (rM D51 Y46 Y50 (iX1 D52 Y34 Y35 (sO Y52 Y51 qE))))))))))))))))))))))) (rG (aD D53 Y30 K1 (mV D30 Y53 qE))))))
def q193_1 : RunT := (sR (lT D25 Y24 Y23 qE) (sQ (cD Y25 sK eX0) (sQ (bK1 (sR (iX1 D26 Y22 Y24 (lD D27 Y26 (mV D9 Y27 qE))) (sR (mV D28 Y9 (lN D29 Y28 (mV D30 K0 qE))) (bK2 (lP q193_0))))) (rG (aD D54 Y24 K1 (mV D24 Y54 qE))))))
def q193_2 : RunT := (sR (lT D64 Y63 Y62 qE) (sQ (cD Y64 sK eX4) (sQ (bK5 (sR (mV D65 Y63 (iX1 D66 Y61 Y63 (lD D67 Y66 (mV D12 Y65 (mV D13 Y67 qE))))) (rG (mV D68 Y0 (nK D69 Y68 (fD2 D70 Y69 (lD D71 Y70 (mV D72 Y1 (iX1 D73 Y71 Y72 (lD D74 Y73 (mV D75 Y12 (mV D76 Y0 (nK D77 Y76 (fD2 D78 Y77 (lD D79 Y78 (mV D80 Y1 (iX1 D81 Y79 Y80 (lD D82 Y81 (mV D83 Y12 (iX1 D84 Y82 Y83 (lD D85 Y84 (mV D86 Y3 (mV D87 Y13 (mL D88 Y86 Y87 (aD D89 Y85 Y88 (mV D90 Y0 (nK D91 Y90 (fD1 D92 Y91 (lD D93 Y92 (rM D94 Y89 Y93 (iX1 D95 Y74 Y75 (sO Y95 Y94 qE)))))))))))))))))))))))))))))))) (rG (aD D96 Y63 K1 (mV D63 Y96 qE))))))
def t193 : RunT := (sQ (sR (mV D14 Y0 (nK D15 Y14 (fD2 D16 Y15 (lD D17 Y16 (mV D18 Y0 (nK D19 Y18 (fD3 D20 Y19 (lD D21 Y20 (o_sub okB (fun E => (.bsl 2 1 [(.vec [] 0 (some 0)), (.vec [] 0 (some 0))] [(0, (1, (.k (Y17 E)))), (1, (1, (.k (Y21 E))))])) D22 (lN D23 Y22 (mV D24 K0 qE))))))))))) (bK0 (lP q193_1))) (sR (mV D55 Y0 (nK D56 Y55 (fD2 D57 Y56 (lD D58 Y57 (mV D59 Y2 (iX1 D60 Y58 Y59 (lD D61 Y60 (lN D62 Y61 (mV D63 K0 qE))))))))) (bK4 (lP q193_2))))
def e193 : Ent := .code t193 97 [] false
theorem k193 : EOT Tryz.prog G okB 193 e193 := eotA true Tryz.func193
def q194_0 : RunT := (sR (lT D53 Y52 Y51 qE) (sQ (cD Y53 sK eX2) (sQ (bK3 (sR (iX1 D54 Y50 Y52 (lD D55 Y54 (mV D9 Y55 qE))) (rG (mV D56 Y9 (mV D57 Y1 (mV D58 Y9 (mV D59 Y2 (mV D60 Y9 (mV D61 Y2 (iX1 D62 Y60 Y61 (lD D63 Y62 (mV D64 Y9 (mV D65 Y1 (iX1 D66 Y64 Y65 (lD D67 Y66 (iX1 D68 Y56 Y57 (sO Y68 Y63 (iX1 D69 Y58 Y59 (sO Y69 Y67 qE))))))))))))))))))) (rG (aD D70 Y52 K1 (mV D52 Y70 qE))))))
def q194_1 : RunT := (sR (lT D47 Y46 Y45 qE) (sQ (cD Y47 sK eX0) (sQ (bK1 (sR (iX1 D48 Y44 Y46 (lD D49 Y48 (mV D7 Y49 qE))) (sR (mV D50 Y7 (lN D51 Y50 (mV D52 K0 qE))) (bK2 (lP q194_0))))) (rG (aD D71 Y46 K1 (mV D46 Y71 qE))))))
def t194 : RunT := (sR (mV D10 Y0 (nK D11 Y10 (fD2 D12 Y11 (lD D13 Y12 (mV D14 Y1 (mV D15 Y0 (nK D16 Y15 (fD2 D17 Y16 (lD D18 Y17 (mV D19 Y2 (mV D20 Y0 (nK D21 Y20 (fD2 D22 Y21 (lD D23 Y22 (mV D24 Y2 (iX1 D25 Y23 Y24 (lD D26 Y25 (mV D27 Y0 (nK D28 Y27 (fD2 D29 Y28 (lD D30 Y29 (mV D31 Y1 (iX1 D32 Y30 Y31 (lD D33 Y32 (iX1 D34 Y13 Y14 (sO Y34 Y26 (iX1 D35 Y18 Y19 (sO Y35 Y33 qE)))))))))))))))))))))))))))) (sR (mV D36 Y0 (nK D37 Y36 (fD2 D38 Y37 (lD D39 Y38 (mV D40 Y0 (nK D41 Y40 (fD3 D42 Y41 (lD D43 Y42 (o_sub okB (fun E => (.bsl 2 1 [(.vec [] 0 (some 0)), (.vec [] 0 (some 0))] [(0, (1, (.k (Y39 E)))), (1, (1, (.k (Y43 E))))])) D44 (lN D45 Y44 (mV D46 K0 qE))))))))))) (bK0 (lP q194_1))))
def e194 : Ent := .code t194 72 [] false
theorem k194 : EOT Tryz.prog G okB 194 e194 := eotA true Tryz.func194
def q195_0 : RunT := (sQ (sR (fD2 D8 Y5 (lD D9 Y8 (mV D10 Y1 (rM D11 Y9 Y10 (eQ D12 Y11 K0 qE))))) (cD Y12 sK eX0)) (bK1 (sR (fD2 D13 Y5 (lD D14 Y13 (mV D15 Y1 (qU D16 Y14 Y15 (fD2 D17 Y5 (sO Y17 Y16 qE)))))) (rG (fD0 D18 Y5 (lD D19 Y18 (aD D20 Y19 K1 (fD0 D21 Y5 (sO Y21 Y20 qE)))))))))
def t195 : RunT := (sR (bX D4 (gk (.agg [(.int .i64 (.ofNat (nat_lit 0))), (.int .i64 (.ofNat (nat_lit 0))), (.int .i64 (.ofNat (nat_lit 0))), (.int .i64 (.ofNat (nat_lit 0))), (.int .i64 (.ofNat (nat_lit 0)))])) qE) (sR (mV D6 Y0 (o_sub okB (fun E => (.build [(.int .i64 (.ofNat (nat_lit 0))), (.int .i64 (.ofNat (nat_lit 0))), (.int .i64 (.ofNat (nat_lit 0))), (.int .i64 (.ofNat (nat_lit 0))), (.int .i64 (.ofNat (nat_lit 0)))] [(1, (1, (.k (.int .i64 (.ofNat (nat_lit 1)))))), (2, (1, (.k (Y6 E))))])) D7 (bX D5 (gk (.agg [(.int .i64 (.ofNat (nat_lit 0))), (.int .i64 (.ofNat (nat_lit 0))), (.int .i64 (.ofNat (nat_lit 0))), (.int .i64 (.ofNat (nat_lit 0))), (.int .i64 (.ofNat (nat_lit 0)))])) (sA5 Y5 Y7 qE)))) (sQ (bK0 (lP q195_0)) (sR (lA5 D22 Y5 (sA5 Y4 Y22 qE)) rT))))
def e195 : Ent := .code t195 23 [(.c Y4 true (nat_lit 5))] false
theorem k195 : EOT Tryz.prog G okB 195 e195 := eotA true Tryz.func195
def q196_0 : RunT := (sR (lT D32 Y31 Y30 qE) (sQ (cD Y32 sK eX0) (sQ (bK1 (sR (mV D33 Y31 (mV D9 Y33 qE)) (sR (mV D34 Y8 (mV D35 Y9 (mV D36 Y8 (mV D37 Y9 (iX1 D38 Y36 Y37 (lD D39 Y38 (mV D40 Y7 (o_sub okB (fun E => (.apz 1 8 [(.int .i64 (.ofNat (nat_lit 0)))] (.k (Y39 E)) (.k (Y40 E)))) D41 (iX1 D42 Y34 Y35 (sO Y42 Y41 qE)))))))))) (rG (mV D43 Y8 (mV D44 Y9 (iX1 D45 Y43 Y44 (lD D46 Y45 (mV D47 Y7 (mV D48 Y9 (aD D49 Y47 Y48 (iX1 D50 Y46 Y49 (sO Y50 K1 qE))))))))))))) (rG (aD D51 Y31 K1 (mV D31 Y51 qE))))))
def q196_1 : RunT := (sR (lT D86 Y85 Y84 qE) (sQ (cD Y86 sK eX4) (sQ (bK5 (sR (mV D87 Y85 (mV D14 Y87 qE)) (rG (mV D88 Y10 (mV D89 Y8 (mV D90 Y14 (iX1 D91 Y89 Y90 (lD D92 Y91 (mV D93 Y8 (mV D94 Y11 (iX1 D95 Y93 Y94 (lD D96 Y95 (mV D97 Y8 (mV D98 Y14 (iX1 D99 Y97 Y98 (lD D100 Y99 (mV D101 Y11 (iX1 D102 Y100 Y101 (lD D103 Y102 (o_callc okB D104 Y88 [Y92, Y96, Y103] qE)))))))))))))))))))) (rG (aD D105 Y85 K1 (mV D85 Y105 qE))))))
def q196_2 : RunT := (sQ (sR (mV D59 Y11 (gE D60 Y59 K0 qE)) (cD Y60 sK eX2)) (sQ (bK3 (sR (mV D64 Y8 (mV D65 Y11 (iX1 D66 Y64 Y65 (lD D67 Y66 (mV D68 Y11 (iX1 D69 Y67 Y68 (lD D70 Y69 (mV D71 Y1 (cA .d0 .d14 .d13 D72 [Y70, Y71] (mV D63 Y72 (xT0 D73 Y63 (xT1 D74 Y63 (mV D12 Y73 (mV D13 Y74 qE)))))))))))))) (sQ (sR (mV D75 Y13 (nT D76 Y75 qE)) (cD Y76 (sR (mV D4 KN (mV D5 K8 qE)) rT) sK)) (sR (mV D77 Y8 (mV D78 Y11 (iX1 D79 Y77 Y78 (lD D80 Y79 (mV D81 Y12 (mV D82 Y1 (cA .d0 .d14 .d14 D83 [Y80, Y81, Y82] qE))))))) (sR (mV D84 Y11 (mV D85 K0 qE)) (bK4 (lP q196_1))))))) (rG (mV D61 Y11 (sB D62 Y61 K1 (mV D11 Y62 qE))))))
def q196_3 : RunT := (sR (lT D109 Y108 Y107 qE) (sQ (cD Y109 sK eX6) (sQ (bK7 (sR (mV D110 Y108 (mV D15 Y110 qE)) (rG (mV D111 Y8 (mV D112 Y15 (mV D113 Y8 (mV D114 Y15 (iX1 D115 Y113 Y114 (lD D116 Y115 (mV D117 Y7 (o_sub okB (fun E => (.slice 1 (.k (Y116 E)) (some (.k (Y117 E))) none none)) D118 (o_sub okB (fun E => (.append 1 8 (.k (.vec [] 0 (some 0))) (.k (Y118 E)))) D119 (iX1 D120 Y111 Y112 (sO Y120 Y119 qE)))))))))))))) (rG (aD D121 Y108 K1 (mV D108 Y121 qE))))))
def t196 : RunT := (sR (mV D4 KN (mV D5 K0 qE)) (sQ (sR (mV D16 Y0 (cA .d0 .d14 .d10 D17 [Y16] (nT D18 Y17 qE))) (cD Y18 (sR (mV D4 KN (mV D5 K3 qE)) rT) sK)) (sQ (sR (mV D19 Y1 (cA .d0 .d11 .d5 D20 [Y19] (mV D6 Y20 qE))) (sR (mV D21 Y6 (nE D22 Y21 K0 qE)) (cD Y22 (sR (mV D23 Y6 (mV D4 KN (mV D5 Y23 qE))) rT) sK))) (sR (mV D24 Y0 (lN D25 Y24 (mV D7 Y25 qE))) (sR (mV D26 Y0 (mV D27 Y1 (cA .d0 .d11 .d6 D28 [Y26, Y27] (mV D8 Y28 qE)))) (sQ (sR (mV D29 Y8 (lN D30 Y29 (mV D31 K0 qE))) (bK0 (lP q196_0))) (sR (mV D52 Y8 (mV D53 Y1 (cA .d0 .d14 .d11 D54 [Y52, Y53] qE))) (sR (mV D55 Y1 (cA .d0 .d14 .d12 D56 [Y55] (mV D10 Y56 qE))) (sQ (sR (mV D57 Y7 (sB D58 Y57 K1 (mV D11 Y58 qE))) (bK2 (lP q196_2))) (sQ (sR (mV D106 Y8 (lN D107 Y106 (mV D108 K0 qE))) (bK6 (lP q196_3))) (sR (mV D122 Y8 (mV D4 Y122 (mV D5 K0 qE))) rT)))))))))))
def e196 : Ent := .code t196 123 [(.t Y4), (.t Y5)] true
theorem k196 : EOT Tryz.prog G okB 196 e196 := eotA true Tryz.func196
def t197 : RunT := (sR (mV D2 K0 (mV D3 KF qE)) (sR (mV D8 Y0 (cA .d0 .d9 .d5 D9 [Y8] (mV D7 Y9 (xT0 D10 Y7 (xT1 D11 Y7 (xT2 D12 Y7 (mV D4 Y10 (mV D5 Y11 (mV D6 Y12 qE))))))))) (sR (mV D13 Y4 (mV D14 Y6 (mV D15 Y14 (gA Y15 D16 (mV D16 Y4) (gA Y15 D17 (mV D17 Y5) (gA Y15 D18 (eQ D18 Y16 Y17) (pK D19 Y15 Y18 KF (mV D2 Y13 (mV D3 Y19 qE))))))))) rT)))
def e197 : Ent := .code t197 20 [(.t Y2), (.t Y3)] false
theorem k197 : EOT Tryz.prog G okB 197 e197 := eotA true Tryz.func197
def q198_0 : RunT := (sR (lT D9 Y8 Y7 qE) (sQ (cD Y9 sK eX0) (sQ (bK1 (sR (mV D10 Y8 (mV D6 Y10 qE)) (sR (mV D11 Y6 (mV D12 Y1 (rM D13 Y12 K3 (sB D14 Y13 K1 (iA4_1 D15 Y5 Y11 (sO Y15 Y14 qE)))))) (rG (mV D16 Y1 (qU D17 Y16 K3 (mV D1 Y17 qE))))))) (rG (aD D18 Y8 K1 (mV D8 Y18 qE))))))
def t198 : RunT := (sR (bX D4 (gk (.agg [(.int .i64 (.ofNat (nat_lit 0))), (.int .i64 (.ofNat (nat_lit 0))), (.int .i64 (.ofNat (nat_lit 0))), (.int .i64 (.ofNat (nat_lit 0)))])) qE) (sR (bX D5 (gk (.agg [(.int .i64 (.ofNat (nat_lit 0))), (.int .i64 (.ofNat (nat_lit 0))), (.int .i64 (.ofNat (nat_lit 0))), (.int .i64 (.ofNat (nat_lit 0)))])) qE) (sQ (sR (mV D7 Y0 (mV D8 K0 qE)) (bK0 (lP q198_0))) (sR (mV D19 Y0 (iA4_1 D20 Y5 Y19 (sO Y20 K1 qE))) (sR (lA4 D21 Y5 (sA4 Y4 Y21 qE)) rT)))))
def e198 : Ent := .code t198 22 [(.c Y4 true (nat_lit 4))] false
theorem k198 : EOT Tryz.prog G okB 198 e198 := eotA true Tryz.func198
def q199_0 : RunT := (sR (lT D20 Y19 Y18 qE) (sQ (cD Y20 sK eX2) (sQ (bK3 (sR (mV D21 Y19 (iX1 D22 Y17 Y19 (lD D23 Y22 (mV D8 Y21 (mV D9 Y23 qE))))) (rG (mV D24 Y5 (mV D25 Y9 (mV D26 Y6 (iA4_1 D27 Y3 Y26 (lD D28 Y27 (mL D29 Y25 Y28 (mV D30 Y8 (iA4_1 D31 Y3 Y30 (lD D32 Y31 (mL D33 Y29 Y32 (aD D34 Y24 Y33 (mV D5 Y34 qE))))))))))))))) (rG (aD D35 Y19 K1 (mV D19 Y35 qE))))))
def q199_1 : RunT := (sR (lT D13 Y12 Y11 qE) (sQ (cD Y13 sK eX0) (sQ (bK1 (sR (mV D14 Y12 (iX1 D15 Y10 Y12 (lD D16 Y15 (mV D6 Y14 (mV D7 Y16 qE))))) (sR (mV D17 Y7 (lN D18 Y17 (mV D19 K0 qE))) (bK2 (lP q199_0))))) (rG (aD D36 Y12 K1 (mV D12 Y36 qE))))))
def t199 : RunT := (sR (bX D3 Y1 (mV D4 K0 qE)) (sR (mV D5 K0 qE) (sQ (sR (mV D10 Y0 (lN D11 Y10 (mV D12 K0 qE))) (bK0 (lP q199_1))) (sR (mV D37 Y5 (mV D4 Y37 qE)) rT))))
def e199 : Ent := .code t199 38 [(.t Y4)] false
theorem k199 : EOT Tryz.prog G okB 199 e199 := eotA true Tryz.func199
def q200_0 : RunT := (sR (lT D44 Y43 Y42 qE) (sQ (cD Y44 sK eX2) (sQ (bK3 (sR (mV D45 Y43 (mV D10 Y45 qE)) (tY (fO (fun next => o_mov D46 Y8 (next ([], []))) (fO (fun next => o_mov D47 Y9 (next ([], []))) (fO (fun next => o_idx (nat_lit 1) D48 Y46 Y47 (next ([], []))) (fO (fL D49 Y48) (fO (fun next => o_mov D50 Y10 (next ([], []))) (fO (fun next => o_mov D51 Y2 (next ([], []))) (fO (fun next => o_mov D52 Y9 (next ([], []))) (fO (fun next => o_mov D53 Y10 (next ([], []))) (fO (f_callc okB D54 Y51 [Y52, Y53]) (fO (fun next => o_idx (nat_lit 2) D55 Y49 Y50 (next ([], []))) (fO (fT2 Y55 Y54) (fE [(3, 8)]))))))))))))))) (rG (aD D56 Y43 K1 (mV D43 Y56 qE))))))
def q200_1 : RunT := (sR (lT D20 Y19 Y18 qE) (sQ (cD Y20 sK eX0) (sQ (bK1 (sR (mV D21 Y19 (mV D9 Y21 qE)) (sR (mV D22 Y8 (mV D23 Y9 (mV D24 Y7 (mV D25 Y9 (mV D26 Y1 (mL D27 Y25 Y26 (mV D28 Y9 (aD D29 Y28 K1 (mV D30 Y1 (mL D31 Y29 Y30 (mV D32 Y9 (aD D33 Y32 K1 (mV D34 Y1 (mL D35 Y33 Y34 (o_sub okB (fun E => (.slice 2 (.k (Y24 E)) (some (.k (Y27 E))) (some (.k (Y31 E))) (some (.k (Y35 E))))) D36 (iX1 D37 Y22 Y23 (sO Y37 Y36 qE))))))))))))))))) (sR (mV D38 Y8 (mV D39 Y9 (iX1 D40 Y38 Y39 (lD D41 Y40 (lN D42 Y41 (mV D43 K0 qE)))))) (bK2 (lP q200_0)))))) (rG (aD D57 Y19 K1 (mV D19 Y57 qE))))))
def t200 : RunT := (sR (mV D6 KN qE) (sR (mV D11 Y0 (mV D12 Y1 (mL D13 Y11 Y12 (mS2_32 [(.bool false), (.vec [] 0 (some 0))] D14 Y13 Y13 (mV D7 Y14 qE))))) (sR (mV D15 Y0 (mS1_24 [(.vec [] 0 (some 0))] D16 Y15 Y15 (mV D8 Y16 qE))) (sQ (sR (mV D17 Y8 (lN D18 Y17 (mV D19 K0 qE))) (bK0 (lP q200_1))) (sR (mV D58 Y8 (mV D6 Y58 qE)) rT)))))
def e200 : Ent := .code t200 59 [(.t Y6)] true
theorem k200 : EOT Tryz.prog G okB 200 e200 := eotA true Tryz.func200
def t201 : RunT := (sR (bX D5 (gk (.agg [(.bool false), (.vec [] 0 (some 0))])) qE) (sR (lD D6 Y2 (mV D7 Y0 (iX1 D8 Y6 Y7 (lD D9 Y8 (mV D10 Y1 (iX2 D11 Y9 Y10 (lA2 D12 Y11 (cA .d0 .d7 .d13 D13 [Y12] (sA2 Y5 Y13 qE))))))))) rT))
def e201 : Ent := .code t201 14 [(.c Y5 true (nat_lit 2))] false
theorem k201 : EOT Tryz.prog G okB 201 e201 := eotA true Tryz.func201
def t202 : RunT := (sR (bX D6 (gk (.agg [(.bool false), (.vec [] 0 (some 0))])) qE) (sR (lD D7 Y2 (iX1 D8 Y7 K0 (lD D9 Y8 (iX2 D10 Y9 K0 (lA2 D11 Y10 (lD D12 Y2 (mV D13 Y0 (aD D14 Y13 K1 (iX1 D15 Y12 Y14 (lD D16 Y15 (iX2 D17 Y16 K0 (lA2 D18 Y17 (lD D19 Y2 (iX1 D20 Y19 K0 (lD D21 Y20 (mV D22 Y1 (aD D23 Y22 K1 (iX2 D24 Y21 Y23 (lA2 D25 Y24 (lD D26 Y2 (mV D27 Y0 (aD D28 Y27 K1 (iX1 D29 Y26 Y28 (lD D30 Y29 (mV D31 Y1 (aD D32 Y31 K1 (iX2 D33 Y30 Y32 (lA2 D34 Y33 (lA2 D35 Y3 (cP .d0 .d12 .d11 D36 [Y11, Y18, Y25, Y34, Y35] (sA2 Y6 Y36 qE))))))))))))))))))))))))))))))) rT))
def e202 : Ent := .code t202 37 [(.c Y6 true (nat_lit 2))] false
theorem k202 : EOT Tryz.prog G okB 202 e202 := eotA true Tryz.func202
def t203 : RunT := (sR (bX D5 Y0 (bX D6 Y1 (bX D7 Y2 (bX D8 Y3 (bX D9 Y4 (bX D10 (gk (.agg [(.bool false), (.vec [] 0 (some 0))])) qE)))))) (sQ (tY (fO (fA2 D15 Y5) (fO (fA2 D16 Y8) (fO (fC (nat_lit 122) D17 [Y15, Y16]) (fO (fA2 D18 Y6) (fO (fA2 D19 Y7) (fO (fC (nat_lit 122) D20 [Y18, Y19]) (fO (fC (nat_lit 121) D21 [Y17, Y20]) (fO (fA2 D22 Y9) (fO (fC (nat_lit 123) D23 [Y21, Y22]) (fO (fun next => o_mov D14 Y23 (next ([], []))) (fO (fun next => o_ext (nat_lit 0) D24 Y14 (next ([], []))) (fO (fun next => o_ext (nat_lit 1) D25 Y14 (next ([], []))) (fO (fun next => o_ext (nat_lit 2) D26 Y14 (next ([], []))) (fO (fB D11 (gk (.agg [(.bool false), (.vec [] 0 (some 0))]))) (fO (fB D12 (gk (.agg [(.bool false), (.vec [] 0 (some 0))]))) (fO (fT2 Y11 Y24) (fO (fT2 Y12 Y25) (fO (fun next => o_mov D13 Y26 (next ([], []))) (fE [(0, 1), (0, 3), (1, 3), (2, 3), (0, 4), (1, 4), (2, 4), (3, 4), (0, 7), (1, 7), (2, 7), (3, 7), (4, 7), (5, 7), (6, 7), (0, 13), (1, 13), (2, 13), (3, 13), (4, 13), (5, 13), (6, 13), (7, 13), (8, 13), (0, 14), (1, 14), (2, 14), (3, 14), (4, 14), (5, 14), (6, 14), (7, 14), (8, 14), (13, 14)])))))))))))))))))))) (sR (lA2 D27 Y11 (sA2 Y10 Y27 qE)) rT)))
def e203 : Ent := .code t203 28 [(.c Y10 true (nat_lit 2))] false
theorem k203 : EOT Tryz.prog G okB 203 e203 := eotA true Tryz.func203
def t204 : RunT := (sR (bX D3 Y1 (mV D4 KN qE)) (sR (mV D5 Y0 (mV D6 Y0 (mF239 D7 [Y3] (cA .d0 .d4 .d3 D8 [Y5, Y6, Y7] (mV D4 Y8 qE))))) rT))
def e204 : Ent := .code t204 9 [(.t Y4)] true
theorem k204 : EOT Tryz.prog G okB 204 e204 := eotA true Tryz.func204
def t205 : RunT := (sR (bX D2 Y0 (bX D3 Y1 (bX D4 (gk (.agg [(.bool false), (.vec [] 0 (some 0))])) qE))) (sR (fD0 D5 Y2 (lD D6 Y5 (fD1 D7 Y2 (lD D8 Y7 (cP .d0 .d4 .d8 D9 [Y8] (fD0 D10 Y3 (lD D11 Y10 (fD1 D12 Y3 (lD D13 Y12 (cP .d0 .d4 .d8 D14 [Y13] (cP .d0 .d10 .d14 D15 [Y6, Y9, Y11, Y14] (sA2 Y4 Y15 qE)))))))))))) rT))
def e205 : Ent := .code t205 16 [(.c Y4 true (nat_lit 2))] false
theorem k205 : EOT Tryz.prog G okB 205 e205 := eotA true Tryz.func205
def t206 : RunT := (sR (bX D2 Y0 (bX D3 Y1 (bX D4 (gk (.agg [(.bool false), (.vec [] 0 (some 0))])) qE))) (sQ (tY (fO (fA2 D9 Y2) (fO (fA2 D10 Y2) (fO (fC (nat_lit 205) D11 [Y9, Y10]) (fO (fA2 D12 Y3) (fO (fC (nat_lit 205) D13 [Y11, Y12]) (fO (fA2 D14 Y3) (fO (fA2 D15 Y3) (fO (fC (nat_lit 205) D16 [Y14, Y15]) (fO (fC (nat_lit 123) D17 [Y13, Y16]) (fO (fun next => o_mov D8 Y17 (next ([], []))) (fO (fun next => o_ext (nat_lit 0) D18 Y8 (next ([], []))) (fO (fun next => o_ext (nat_lit 1) D19 Y8 (next ([], []))) (fO (fun next => o_ext (nat_lit 2) D20 Y8 (next ([], []))) (fO (fB D5 (gk (.agg [(.bool false), (.vec [] 0 (some 0))]))) (fO (fB D6 (gk (.agg [(.bool false), (.vec [] 0 (some 0))]))) (fO (fT2 Y5 Y18) (fO (fT2 Y6 Y19) (fO (fun next => o_mov D7 Y20 (next ([], []))) (fE [(0, 1), (0, 3), (1, 3), (2, 3), (0, 5), (1, 5), (2, 5), (3, 5), (4, 5), (0, 6), (1, 6), (2, 6), (3, 6), (4, 6), (5, 6), (0, 13), (1, 13), (2, 13), (3, 13), (4, 13), (5, 13), (6, 13), (7, 13), (8, 13), (0, 14), (1, 14), (2, 14), (3, 14), (4, 14), (5, 14), (6, 14), (7, 14), (8, 14), (13, 14)])))))))))))))))))))) (sR (lA2 D21 Y5 (sA2 Y4 Y21 qE)) rT)))
def e206 : Ent := .code t206 22 [(.c Y4 true (nat_lit 2))] false
theorem k206 : EOT Tryz.prog G okB 206 e206 := eotA true Tryz.func206
def t209 : RunT := (sR (bX D5 (gk (.agg [(.bool false), (.vec [] 0 (some 0))])) qE) (sR (lD D6 Y2 (mV D7 Y0 (iX1 D8 Y6 Y7 (lD D9 Y8 (mV D10 Y1 (iX2 D11 Y9 Y10 (lA2 D12 Y11 (sA2 Y5 Y12 qE)))))))) rT))
def e209 : Ent := .code t209 13 [(.c Y5 true (nat_lit 2))] false
theorem k209 : EOT Tryz.prog G okB 209 e209 := eotA true Tryz.func209
def q210_0 : RunT := (sR (lT D13 Y12 Y11 qE) (sQ (cD Y13 sK eX0) (sQ (bK1 (sR (mV D14 Y12 (mV D9 Y14 qE)) (rG (lA2 D15 Y8 (lD D16 Y3 (mV D17 Y0 (iX1 D18 Y16 Y17 (lD D19 Y18 (mV D20 Y9 (iX2 D21 Y19 Y20 (lA2 D22 Y21 (lD D23 Y4 (mV D24 Y9 (iX1 D25 Y23 Y24 (lD D26 Y25 (mV D27 Y1 (iX2 D28 Y26 Y27 (lA2 D29 Y28 (cP .d0 .d7 .d10 D30 [Y22, Y29] (cP .d0 .d12 .d13 D31 [Y15, Y30] (sA2 Y8 Y31 qE))))))))))))))))))))) (rG (aD D32 Y12 K1 (mV D12 Y32 qE))))))
def t210 : RunT := (sR (bX D7 (gk (.agg [(.bool false), (.vec [] 0 (some 0))])) qE) (sR (o_sub okB (fun E => (.build [(.bool false), (.vec [] 0 (some 0))] [])) D10 (bX D8 (gk (.agg [(.bool false), (.vec [] 0 (some 0))])) (sA2 Y8 Y10 qE))) (sQ (sR (lD D11 Y2 (mV D12 K0 qE)) (bK0 (lP q210_0))) (sR (lA2 D33 Y8 (sA2 Y7 Y33 qE)) rT))))
def e210 : Ent := .code t210 34 [(.c Y7 true (nat_lit 2))] false
theorem k210 : EOT Tryz.prog G okB 210 e210 := eotA true Tryz.func210
def t211 : RunT := (sR (mV D2 K0 qE) (sR (mV D10 Y0 (cA .d0 .d1 .d7 D11 [Y10] (mV D9 Y11 (xT0 D12 Y9 (xT1 D13 Y9 (mV D3 Y12 (mV D4 Y13 qE))))))) (sR (mV D15 Y3 (cA .d0 .d1 .d8 D16 [Y15] (mV D14 Y16 (xT0 D17 Y14 (xT1 D18 Y14 (bX D5 (gk (.agg [(.bool false), (.vec [] 0 (some 0))])) (sA2 Y5 Y17 (mV D6 Y18 qE)))))))) (sR (lA2 D20 Y5 (cA .d0 .d1 .d9 D21 [Y20] (mV D19 Y21 (xT0 D22 Y19 (xT1 D23 Y19 (mV D7 Y22 (mV D8 Y23 qE))))))) (sR (mV D24 Y7 (mV D2 Y24 qE)) rT)))))
def e211 : Ent := .code t211 25 [(.t Y2)] false
theorem k211 : EOT Tryz.prog G okB 211 e211 := eotA true Tryz.func211
def q213_0 : RunT := (sR (lT D32 Y31 Y30 qE) (sQ (cD Y32 sK eX0) (sQ (bK1 (sR (iX1 D33 Y29 Y31 (lD D34 Y33 (mV D13 Y34 qE))) (rG (mV D35 Y11 (mV D36 Y13 (aD D37 Y35 Y36 (mV D11 Y37 qE))))))) (rG (aD D38 Y31 K1 (mV D31 Y38 qE))))))
def t213 : RunT := (sR (mV D6 KN (mV D7 K0 (mV D8 K0 qE))) (sR (mV D17 Y0 (mV D18 Y1 (mV D19 Y2 (cA .d0 .d15 .d1 D20 [Y17, Y18, Y19] (mV D16 Y20 (xT0 D21 Y16 (xT1 D22 Y16 (mV D9 Y21 (mV D10 Y22 qE))))))))) (sQ (sR (mV D23 Y10 (nE D24 Y23 K0 qE)) (cD Y24 (sR (mV D25 Y10 (mV D6 KN (mV D7 K0 (mV D8 Y25 qE)))) rT) sK)) (sQ (sR (mV D26 Y9 (cA .d0 .d15 .d2 D27 [Y26] (gT D28 Y27 K4096 qE))) (cD Y28 (sR (mV D6 KN (mV D7 K0 (mV D8 K7 qE))) rT) sK)) (sR (mV D11 K0 qE) (sQ (sR (mV D29 Y9 (lN D30 Y29 (mV D31 K0 qE))) (bK0 (lP q213_0))) (sR (mV D40 Y0 (mV D41 Y0 (mV D42 Y1 (cA .d0 .d15 .d4 D43 [Y41, Y42, KF] (cA .d0 .d15 .d3 D44 [Y40, Y43] (mV D39 Y44 (xT0 D45 Y39 (xT1 D46 Y39 (mV D14 Y45 (mV D15 Y46 qE)))))))))) (sR (mV D47 Y14 (mV D48 Y11 (mV D6 Y47 (mV D7 Y48 (mV D8 K0 qE))))) rT))))))))
def e213 : Ent := .code t213 49 [(.t Y6), (.t Y7), (.t Y8)] false
theorem k213 : EOT Tryz.prog G okB 213 e213 := eotA true Tryz.func213
def q214_0 : RunT := (sR (lT D9 Y8 Y7 qE) (sQ (cD Y9 sK eX0) (sQ (bK1 (sR (mV D10 Y8 (iX1 D11 Y6 Y8 (lD D12 Y11 (mV D4 Y10 (mV D5 Y12 qE))))) (rG (mV D13 Y3 (mV D14 Y5 (mV D15 Y4 (iX1 D16 Y14 Y15 (lD D17 Y16 (o_sub okB (fun E => (.max (.k (Y13 E)) (.k (Y17 E)))) D18 (mV D3 Y18 qE)))))))))) (rG (aD D19 Y8 K1 (mV D8 Y19 qE))))))
def t214 : RunT := (sR (mV D2 K0 qE) (sR (mV D3 K0 qE) (sQ (sR (mV D6 Y0 (lN D7 Y6 (mV D8 K0 qE))) (bK0 (lP q214_0))) (sR (mV D20 Y3 (mV D2 Y20 qE)) rT))))
def e214 : Ent := .code t214 21 [(.t Y2)] false
theorem k214 : EOT Tryz.prog G okB 214 e214 := eotA true Tryz.func214
def q215_0 : RunT := (sR (lT D28 Y27 Y26 qE) (sQ (cD Y28 sK eX2) (sQ (bK3 (sR (mV D29 Y27 (iX1 D30 Y25 Y27 (lD D31 Y30 (mV D9 Y29 (mV D10 Y31 qE))))) (rG (mV D32 Y8 (mV D33 Y9 (mV D34 Y10 (nG D35 Y34 (iX1 D36 Y32 Y33 (sO Y36 Y35 qE))))))))) (rG (aD D37 Y27 K1 (mV D27 Y37 qE))))))
def q215_1 : RunT := (sR (lT D19 Y18 Y17 qE) (sQ (cD Y19 sK eX0) (sQ (bK1 (sR (iX1 D20 Y16 Y18 (lD D21 Y20 (mV D7 Y21 qE))) (sR (mV D22 Y7 (lN D23 Y22 (mS1_8 [(.int .i64 (.ofNat (nat_lit 0)))] D24 Y23 Y23 (mV D8 Y24 qE)))) (sQ (sR (mV D25 Y7 (lN D26 Y25 (mV D27 K0 qE))) (bK2 (lP q215_0))) (rG (fD0 D38 Y5 (lD D39 Y38 (mV D40 Y7 (mV D41 Y8 (o_sub okB (fun E => (.bsl 2 1 [(.vec [] 0 (some 0)), (.vec [] 0 (some 0))] [(0, (1, (.k (Y40 E)))), (1, (1, (.k (Y41 E))))])) D42 (aP okB 1 24 Y39 Y42 D43 (fD0 D44 Y5 (sO Y44 Y43 qE))))))))))))) (rG (aD D45 Y18 K1 (mV D18 Y45 qE))))))
def q215_2 : RunT := (sR (lT D62 Y61 Y60 qE) (sQ (cD Y62 sK eX6) (sQ (bK7 (sR (mV D63 Y61 (iX1 D64 Y59 Y61 (lD D65 Y64 (mV D14 Y63 (mV D15 Y65 qE))))) (rG (mV D66 Y13 (mV D67 Y14 (mV D68 Y15 (mV D69 Y12 (cA .d0 .d15 .d6 D70 [Y68, Y69] (iX1 D71 Y66 Y67 (sO Y71 Y70 qE)))))))))) (rG (aD D72 Y61 K1 (mV D61 Y72 qE))))))
def q215_3 : RunT := (sR (lT D53 Y52 Y51 qE) (sQ (cD Y53 sK eX4) (sQ (bK5 (sR (iX1 D54 Y50 Y52 (lD D55 Y54 (mV D12 Y55 qE))) (sR (mV D56 Y0 (lN D57 Y56 (mS1_8 [(.int .i64 (.ofNat (nat_lit 0)))] D58 Y57 Y57 (mV D13 Y58 qE)))) (sQ (sR (mV D59 Y0 (lN D60 Y59 (mV D61 K0 qE))) (bK6 (lP q215_2))) (sR (fD1 D73 Y5 (lD D74 Y73 (mV D75 Y13 (bS okB (.vec [] 0 (some 0)) Y75 D76 (aP okB 1 24 Y74 Y76 D77 (fD1 D78 Y5 (sO Y78 Y77 qE))))))) (tY (fO (fun next => o_fld (nat_lit 2) D79 Y5 (next ([], []))) (fO (fL D80 Y79) (fO (fun next => o_mov D81 Y13 (next ([], []))) (fO (fun next => o_mov D82 Y12 (next ([], []))) (fO (fC (nat_lit 246) D83 [Y81, Y82]) (fO (f_slow okB (fun E => (.bsl 1 1 [(.int .i64 (.ofNat (nat_lit 0)))] [(0, (1, (.k (Y83 E))))])) D84) (fO (f_slow okB (fun E => (.append 1 8 (.k (Y80 E)) (.k (Y84 E)))) D85) (fO (fun next => o_fld (nat_lit 2) D86 Y5 (next ([], []))) (fO (fS Y86 Y85) (fE [(1, 4), (1, 5)])))))))))))))))) (rG (aD D87 Y52 K1 (mV D52 Y87 qE))))))
def t215 : RunT := (sR (bX D4 (gk (.agg [(.vec [] 0 (some 0)), (.vec [] 0 (some 0)), (.vec [] 0 (some 0)), (.vec [] 0 (some 0))])) qE) (sR (bX D5 (gk (.agg [(.vec [] 0 (some 0)), (.vec [] 0 (some 0)), (.vec [] 0 (some 0)), (.vec [] 0 (some 0))])) qE) (sQ (sR (mV D16 Y1 (lN D17 Y16 (mV D18 K0 qE))) (bK0 (lP q215_1))) (sR (fD0 D46 Y5 (lD D47 Y46 (cA .d0 .d15 .d5 D48 [Y47, (gk (.clo 220 []))] qE))) (sQ (sR (fD0 D49 Y5 (lD D50 Y49 (lN D51 Y50 (mV D52 K0 qE)))) (bK4 (lP q215_3))) (sR (lA4 D88 Y5 (sA4 Y4 Y88 qE)) rT))))))
def e215 : Ent := .code t215 89 [(.c Y4 true (nat_lit 4))] false
theorem k215 : EOT Tryz.prog G okB 215 e215 := eotA false Tryz.func215
def q216_0 : RunT := (sR (lT D24 Y23 Y22 qE) (sQ (cD Y24 sK eX0) (sQ (bK1 (sR (mV D25 Y23 (iX1 D26 Y21 Y23 (lD D27 Y26 (mV D2 Y25 (mV D3 Y27 qE))))) (rG (mV D28 Y0 (nK D29 Y28 (fD3 D30 Y29 (lD D31 Y30 (mV D32 Y2 (mV D33 Y3 (cVu64 D34 Y33 (cP .d0 .d15 .d7 D35 [Y34] (iX1 D36 Y31 Y32 (sO Y36 Y35 qE))))))))))))) (rG (aD D37 Y23 K1 (mV D23 Y37 qE))))))
def q216_1 : RunT := (sR (lT D69 Y68 Y67 qE) (sQ (cD Y69 sK eX6) (sQ (bK7 (sR (mV D70 Y68 (mV D7 Y70 qE)) (sR (mV D71 Y0 (nK D72 Y71 (fD1 D73 Y72 (lD D74 Y73 (mV D75 Y6 (iX1 D76 Y74 Y75 (lD D77 Y76 (mV D78 Y0 (nK D79 Y78 (fD0 D80 Y79 (lD D81 Y80 (mV D82 Y7 (iX1 D83 Y81 Y82 (lD D84 Y83 (cA .d0 .d15 .d6 D85 [Y77, Y84] (mV D8 Y85 qE)))))))))))))))) (rG (mV D86 Y5 (mV D87 Y6 (iX1 D88 Y86 Y87 (lD D89 Y88 (mV D90 Y0 (nK D91 Y90 (fD3 D92 Y91 (lD D93 Y92 (mV D94 Y7 (iX1 D95 Y93 Y94 (lD D96 Y95 (mV D97 Y8 (mV D98 Y8 (nG D99 Y98 (o_sub okB (fun E => (.max (.k (Y97 E)) (.k (Y99 E)))) D100 (cP .d0 .d15 .d8 D101 [Y96, Y100] (aD D102 Y89 Y101 (iX1 D103 Y86 Y87 (sO Y103 Y102 qE))))))))))))))))))))))) (rG (aD D104 Y68 K1 (mV D68 Y104 qE))))))
def q216_2 : RunT := (sR (lT D54 Y53 Y52 qE) (sQ (cD Y54 sK eX4) (sQ (bK5 (sR (mV D55 Y53 (mV D6 Y55 qE)) (sR (mV D56 Y5 (mV D57 Y6 (mV D58 Y0 (nK D59 Y58 (fD3 D60 Y59 (lD D61 Y60 (mV D62 Y6 (iX1 D63 Y61 Y62 (lD D64 Y63 (cA .d0 .d15 .d7 D65 [Y64] (iX1 D66 Y56 Y57 (sO Y66 Y65 qE)))))))))))) (sQ (sR (mV D67 Y4 (mV D68 K0 qE)) (bK6 (lP q216_1))) (rG (mV D105 Y5 (mV D106 Y5 (lN D107 Y106 (sB D108 Y107 K1 (mV D109 Y6 (sB D110 Y108 Y109 (mV D111 Y5 (mV D112 Y6 (iX1 D113 Y111 Y112 (lD D114 Y113 (iX1 D115 Y105 Y110 (sO Y115 Y114 qE))))))))))))))))) (rG (aD D116 Y53 K1 (mV D53 Y116 qE))))))
def q216_3 : RunT := (sR (lT D45 Y44 K2 qE) (sQ (cD Y45 sK eX2) (sQ (bK3 (sR (mV D46 Y0 (nK D47 Y46 (fD0 D48 Y47 (lD D49 Y48 (lN D50 Y49 (mS1_8 [(.int .u64 (.ofNat (nat_lit 0)))] D51 Y50 Y50 (mV D5 Y51 qE))))))) (sQ (sR (mV D52 Y4 (mV D53 K0 qE)) (bK4 (lP q216_2))) (rG (mV D117 Y0 (mV D118 Y5 (nK D119 Y117 (fD3 D120 Y119 (sO Y120 Y118 qE))))))))) (rG (aD D121 Y44 K1 (mV D44 Y121 qE))))))
def t216 : RunT := (sR (mV D9 Y0 (mV D10 Y0 (nK D11 Y10 (fD0 D12 Y11 (lD D13 Y12 (lN D14 Y13 (mS1_8 [(.int .u64 (.ofNat (nat_lit 0)))] D15 Y14 Y14 (nK D16 Y9 (fD3 D17 Y16 (sO Y17 Y15 qE)))))))))) (sQ (sR (mV D18 Y0 (nK D19 Y18 (fD2 D20 Y19 (lD D21 Y20 (lN D22 Y21 (mV D23 K0 qE)))))) (bK0 (lP q216_0))) (sR (mV D38 Y0 (nK D39 Y38 (fD0 D40 Y39 (lD D41 Y40 (lN D42 Y41 (qU D43 Y42 K2 (mV D4 Y43 qE))))))) (sR (mV D44 K0 qE) (bK2 (lP q216_3))))))
def e216 : Ent := .code t216 122 [] true
theorem k216 : EOT Tryz.prog G okB 216 e216 := eotA true Tryz.func216
def q217_0 : RunT := (sR (lT D24 Y23 Y22 qE) (sQ (cD Y24 sK eX0) (sQ (bK1 (sR (mV D25 Y23 (mV D5 Y25 qE)) (sQ (tY (fO (fun next => o_fld (nat_lit 0) D27 Y3 (next ([], []))) (fO (fL D28 Y27) (fO (fun next => o_mov D29 Y0 (next ([], []))) (fO (fun next => o_nilck D30 Y29 (next ([], []))) (fO (fun next => o_fld (nat_lit 7) D31 Y30 (next ([], []))) (fO (fL D32 Y31) (fO (fun next => o_len D33 Y32 (next ([], []))) (fO (fun next => o_mov D34 Y5 (next ([], []))) (fO (fC (nat_lit 249) D35 [Y33, Y34]) (fO (fC (nat_lit 219) D36 [Y28, Y35, (gk (.clo 220 []))]) (fO (fun next => o_mov D26 Y36 (next ([], []))) (fO (fun next => o_ext (nat_lit 0) D37 Y26 (next ([], []))) (fO (fun next => o_ext (nat_lit 1) D38 Y26 (next ([], []))) (fO (fun next => o_mov D6 Y37 (next ([], []))) (fO (fun next => o_mov D7 Y38 (next ([], []))) (fE [(1, 5), (1, 8)]))))))))))))))))) (sR (mV D39 Y0 (nK D40 Y39 (fD7 D41 Y40 (lD D42 Y41 (mV D43 Y5 (mV D44 Y4 (mV D45 Y6 (iX1 D46 Y44 Y45 (lD D47 Y46 (iX2 D48 Y42 Y43 (fD1 D49 Y48 (sO Y49 Y47 qE)))))))))))) (sR (mV D50 Y4 (lN D51 Y50 (mS1_8 [(.int .u64 (.ofNat (nat_lit 0)))] D52 Y51 Y51 (mV D8 Y52 qE)))) (sQ (tY (fO (fun next => o_mov D53 Y0 (next ([], []))) (fO (fun next => o_nilck D54 Y53 (next ([], []))) (fO (fun next => o_fld (nat_lit 8) D55 Y54 (next ([], []))) (fO (fL D56 Y55) (fO (fun next => o_mov D57 Y5 (next ([], []))) (fO (fun next => o_bin .add b_add D58 Y57 K1 (next ([], []))) (fO (fun next => o_mov D59 Y4 (next ([], []))) (fO (fun next => o_mov D60 Y6 (next ([], []))) (fO (fun next => o_mov D61 Y8 (next ([], []))) (fO (fC (nat_lit 250) D62 [Y3, Y59, Y60, Y61]) (fO (fun next => o_idx (nat_lit 1) D63 Y56 Y58 (next ([], []))) (fO (fS Y63 Y62) (fE [(3, 9)])))))))))))))) (rG (mV D64 Y8 (mV D4 Y64 qE))))))))) (rG (aD D65 Y23 K1 (mV D23 Y65 qE))))))
def t217 : RunT := (sR (bX D3 Y1 qE) (sR (fD3 D9 Y3 (lD D10 Y9 (mV D4 Y10 qE))) (sQ (tY (fO (fun next => o_mov D11 Y0 (next ([], []))) (fO (fun next => o_nilck D12 Y11 (next ([], []))) (fO (fun next => o_fld (nat_lit 8) D13 Y12 (next ([], []))) (fO (fL D14 Y13) (fO (fun next => o_mov D15 Y4 (next ([], []))) (fO (fC (nat_lit 218) D16 [Y15]) (fO (fun next => o_idx (nat_lit 1) D17 Y14 K0 (next ([], []))) (fO (fS Y17 Y16) (fE [(3, 5)])))))))))) (sR (mV D18 Y0 (nK D19 Y18 (fD7 D20 Y19 (lD D21 Y20 (lN D22 Y21 (mV D23 K0 qE)))))) (bK0 (lP q217_0))))))
def e217 : Ent := .code t217 66 [] false
theorem k217 : EOT Tryz.prog G okB 217 e217 := eotA false Tryz.func217
def q218_0 : RunT := (sR (lT D9 Y8 Y7 qE) (sQ (cD Y9 sK eX0) (sQ (bK1 (sR (iX1 D10 Y6 Y8 (lD D11 Y10 (mV D5 Y11 qE))) (rG (mV D12 Y3 (mV D13 Y5 (aD D14 Y12 Y13 (mV D3 Y14 qE))))))) (rG (aD D15 Y8 K1 (mV D8 Y15 qE))))))
def t218 : RunT := (sR (mV D2 Ku0 qE) (sR (mV D3 Ku0 qE) (sQ (sR (mV D6 Y0 (lN D7 Y6 (mV D8 K0 qE))) (bK0 (lP q218_0))) (sR (mV D16 Y3 (mV D2 Y16 qE)) rT))))
def e218 : Ent := .code t218 17 [(.t Y2)] false
theorem k218 : EOT Tryz.prog G okB 218 e218 := eotA true Tryz.func218
def q219_0 : RunT := (sQ (sR (mV D15 Y9 (mV D16 Y10 (lT D17 Y15 Y16 qE))) (cD Y17 sK eX0)) (bK1 (sR (mV D18 Y9 (mV D19 Y10 (aD D20 Y18 Y19 (cVu64 D21 Y20 (hR D22 Y21 Ku1 (cVi64 D23 Y22 (mV D11 Y23 qE))))))) (sR (mV D24 Y2 (mV D25 Y0 (mV D26 Y11 (iX1 D27 Y25 Y26 (lD D28 Y27 (mV D29 Y1 (o_callc okB D30 Y24 [Y28, Y29] (lT D31 Y30 K0 qE)))))))) (cD Y31 (rG (mV D32 Y11 (aD D33 Y32 K1 (mV D9 Y33 qE)))) (rG (mV D34 Y11 (mV D10 Y34 qE))))))))
def t219 : RunT := (sR (mV D6 K0 (mV D7 KF qE)) (sR (mV D12 Y0 (lN D13 Y12 (mV D8 Y13 qE))) (sR (mV D14 Y8 (mV D9 K0 (mV D10 Y14 qE))) (sQ (bK0 (lP q219_0)) (sR (mV D35 Y9 (mV D36 Y9 (mV D37 Y8 (lT D38 Y36 Y37 (mV D39 Y38 (gA Y39 D40 (mV D40 Y2) (gA Y39 D41 (mV D41 Y0) (gA Y39 D42 (mV D42 Y9) (gA Y39 D43 (iX1 D43 Y41 Y42) (gA Y39 D44 (lD D44 Y43) (gA Y39 D45 (mV D45 Y1) (gA Y39 D46 (o_callc okB D46 Y40 [Y44, Y45]) (gA Y39 D47 (eQ D47 Y46 K0) (pK D48 Y39 Y47 KF (mV D6 Y35 (mV D7 Y48 qE)))))))))))))))) rT)))))
def e219 : Ent := .code t219 49 [(.t Y6), (.t Y7)] false
theorem k219 : EOT Tryz.prog G okB 219 e219 := eotA true Tryz.func219
def t220 : RunT := (sR (mV D4 K0 qE) (sR (mV D5 Y0 (mV D6 Y1 (cA .d0 .d15 .d11 D7 [Y5, Y6] (mV D4 Y7 qE)))) rT))
def e220 : Ent := .code t220 8 [(.t Y4)] false
theorem k220 : EOT Tryz.prog G okB 220 e220 := eotA true Tryz.func220
def q221_0 : RunT := (sR (lT D46 Y45 Y44 qE) (sQ (cD Y46 sK eX0) (sQ (bK1 (sR (mV D47 Y45 (iX1 D48 Y43 Y45 (lD D49 Y48 (mV D6 Y47 (mV D7 Y49 qE))))) (sQ (tY (fO (fun next => o_mov D50 Y0 (next ([], []))) (fO (fun next => o_nilck D51 Y50 (next ([], []))) (fO (fun next => o_fld (nat_lit 1) D52 Y51 (next ([], []))) (fO (fun next => o_fld (nat_lit 1) D53 Y52 (next ([], []))) (fO (fL D54 Y53) (fO (fun next => o_mov D55 Y7 (next ([], []))) (fO (fun next => o_idx (nat_lit 1) D56 Y54 Y55 (next ([], []))) (fO (fL D57 Y56) (fO (fun next => o_mov D58 Y0 (next ([], []))) (fO (fun next => o_nilck D59 Y58 (next ([], []))) (fO (fun next => o_fld (nat_lit 1) D60 Y59 (next ([], []))) (fO (fun next => o_fld (nat_lit 0) D61 Y60 (next ([], []))) (fO (fL D62 Y61) (fO (fun next => o_mov D63 Y1 (next ([], []))) (fO (fun next => o_idx (nat_lit 1) D64 Y62 Y63 (next ([], []))) (fO (fL D65 Y64) (fO (fC (nat_lit 246) D66 [Y57, Y65]) (fO (fun next => o_mov D67 Y0 (next ([], []))) (fO (fun next => o_nilck D68 Y67 (next ([], []))) (fO (fun next => o_fld (nat_lit 0) D69 Y68 (next ([], []))) (fO (fL D70 Y69) (fO (fun next => o_mov D71 Y6 (next ([], []))) (fO (fun next => o_idx (nat_lit 1) D72 Y70 Y71 (next ([], []))) (fO (fL D73 Y72) (fO (fun next => o_mov D74 Y5 (next ([], []))) (fO (fun next => o_idx (nat_lit 1) D75 Y73 Y74 (next ([], []))) (fO (fL D76 Y75) (fO (fun next => o_bin .neq (b_cmp neI) D77 Y66 Y76 (next ([], []))) (fE [(4, 12), (7, 12), (4, 15), (7, 15), (4, 20), (7, 20), (12, 20), (15, 20), (16, 20), (4, 23), (7, 23), (12, 23), (15, 23), (16, 23), (4, 26), (7, 26), (12, 26), (15, 26), (16, 26)])))))))))))))))))))))))))))))) (cD Y77 (sR (mV D4 KF qE) rT) sK)))) (rG (aD D78 Y45 K1 (mV D45 Y78 qE))))))
def t221 : RunT := (sR (mV D4 KF qE) (sR (mV D8 Y0 (nK D9 Y8 (fD5 D10 Y9 (lD D11 Y10 (lN D12 Y11 (mV D5 Y12 qE)))))) (sQ (sR (mV D13 Y0 (nK D14 Y13 (fD1 D15 Y14 (fD2 D16 Y15 (lD D17 Y16 (mV D18 Y1 (iX1 D19 Y17 Y18 (lD D20 Y19 (mV D21 Y0 (nK D22 Y21 (fD6 D23 Y22 (lD D24 Y23 (mV D25 Y5 (iX1 D26 Y24 Y25 (lD D27 Y26 (mV D28 Y1 (iX1 D29 Y27 Y28 (lD D30 Y29 (o_sub okB (fun E => (.build [(.int .i64 (.ofNat (nat_lit 0))), (.int .u64 (.ofNat (nat_lit 0)))] [(0, (1, (.k (Y20 E)))), (1, (1, (.k (Y30 E))))])) D31 (mV D32 Y0 (nK D33 Y32 (fD7 D34 Y33 (lD D35 Y34 (mV D36 Y5 (iX2 D37 Y35 Y36 (lA2 D38 Y37 (o_sub okB (fun E => (.aeq true [.i64, .u64] (.k (Y31 E)) (.k (Y38 E)))) D39 qE))))))))))))))))))))))))))) (cD Y39 (sR (mV D4 KF qE) rT) sK)) (sQ (sR (mV D40 Y0 (nK D41 Y40 (fD5 D42 Y41 (lD D43 Y42 (lN D44 Y43 (mV D45 K0 qE)))))) (bK0 (lP q221_0))) (sQ (sQ (tY (fO (fun next => o_mov D79 Y0 (next ([], []))) (fO (fun next => o_nilck D80 Y79 (next ([], []))) (fO (fun next => o_fld (nat_lit 9) D81 Y80 (next ([], []))) (fO (fL D82 Y81) (fO (fun next => o_mov D83 Y82 (next ([], []))) (fO (fG Y83 D84 (fun next => o_mov D84 Y0 (next ([], [])))) (fO (fG Y83 D85 (fun next => o_nilck D85 Y84 (next ([], [])))) (fO (fG Y83 D86 (fun next => o_fld (nat_lit 1) D86 Y85 (next ([], [])))) (fO (fG Y83 D87 (fun next => o_mov D87 Y0 (next ([], [])))) (fO (fG Y83 D88 (fun next => o_nilck D88 Y87 (next ([], [])))) (fO (fG Y83 D89 (fun next => o_fld (nat_lit 6) D89 Y88 (next ([], [])))) (fO (fG Y83 D90 (fL D90 Y89)) (fO (fG Y83 D91 (fun next => o_mov D91 Y5 (next ([], [])))) (fO (fG Y83 D92 (fun next => o_idx (nat_lit 1) D92 Y90 Y91 (next ([], [])))) (fO (fG Y83 D93 (fL D93 Y92)) (fO (fG Y83 D94 (fun next => o_mov D94 Y1 (next ([], [])))) (fO (fG Y83 D95 (fun next => o_mov D95 Y0 (next ([], [])))) (fO (fG Y83 D96 (fun next => o_nilck D96 Y95 (next ([], [])))) (fO (fG Y83 D97 (fun next => o_fld (nat_lit 6) D97 Y96 (next ([], [])))) (fO (fG Y83 D98 (fL D98 Y97)) (fO (fG Y83 D99 (fun next => o_mov D99 Y5 (next ([], [])))) (fO (fG Y83 D100 (fun next => o_bin .add b_add D100 Y99 K1 (next ([], [])))) (fO (fG Y83 D101 (fun next => o_idx (nat_lit 1) D101 Y98 Y100 (next ([], [])))) (fO (fG Y83 D102 (fL D102 Y101)) (fO (fG Y83 D103 (fC (nat_lit 250) D103 [Y86, Y93, Y94, Y102])) (fO (fG Y83 D104 (fun next => o_mov D104 Y0 (next ([], [])))) (fO (fG Y83 D105 (fun next => o_nilck D105 Y104 (next ([], [])))) (fO (fG Y83 D106 (fun next => o_fld (nat_lit 8) D106 Y105 (next ([], [])))) (fO (fG Y83 D107 (fL D107 Y106)) (fO (fG Y83 D108 (fun next => o_mov D108 Y5 (next ([], [])))) (fO (fG Y83 D109 (fun next => o_bin .add b_add D109 Y108 K1 (next ([], [])))) (fO (fG Y83 D110 (fun next => o_idx (nat_lit 1) D110 Y107 Y109 (next ([], [])))) (fO (fG Y83 D111 (fL D111 Y110)) (fO (fG Y83 D112 (fun next => o_bin .neq (b_cmp neI) D112 Y103 Y111 (next ([], [])))) (fO (fun next => o_pick D113 Y83 Y112 KF (next ([], []))) (fE [(11, 19), (14, 19), (11, 23), (14, 23), (11, 28), (14, 28), (19, 28), (23, 28), (24, 28), (11, 32), (14, 32), (19, 32), (23, 32), (24, 32)]))))))))))))))))))))))))))))))))))))) (cD Y113 (sR (mV D4 KF qE) rT) sK)) (sR (mV D114 Y0 (mV D115 Y0 (nK D116 Y115 (fD5 D117 Y116 (lD D118 Y117 (mV D119 Y1 (bS okB (.int .i64 (.ofNat (nat_lit 0))) Y119 D120 (aP okB 1 8 Y118 Y120 D121 (nK D122 Y114 (fD5 D123 Y122 (sO Y123 Y121 qE))))))))))) (sR (mV D4 KT qE) rT)))))))
def e221 : Ent := .code t221 124 [(.t Y4)] true
theorem k221 : EOT Tryz.prog G okB 221 e221 := eotA false Tryz.func221
def q228_0 : RunT := (sQ (sR (mV D6 Y5 (mV D7 Y0 (nK D8 Y7 (fD0 D9 Y8 (lD D10 Y9 (lT D11 Y6 Y10 (mV D12 Y11 (gA Y12 D13 (mV D13 Y1) (gA Y12 D14 (mV D14 Y5) (gA Y12 D15 (hR D15 Y13 Y14) (gA Y12 D16 (o_bin .and (b_gen .and) D16 Y15 K1) (gA Y12 D17 (eQ D17 Y16 K0) (pK D18 Y12 Y17 KF qE))))))))))))) (cD Y18 sK eX0)) (bK1 (rG (mV D19 Y5 (aD D20 Y19 K1 (mV D5 Y20 qE))))))
def t228 : RunT := (sR (mV D4 K0 qE) (sR (mV D5 K0 qE) (sQ (bK0 (lP q228_0)) (sR (mV D21 Y5 (mV D4 Y21 qE)) rT))))
def e228 : Ent := .code t228 22 [(.t Y4)] false
theorem k228 : EOT Tryz.prog G okB 228 e228 := eotA true Tryz.func228
def q229_0 : RunT := (sR (lT D53 Y52 Y51 qE) (sQ (cD Y53 sK eX2) (sQ (bK3 (sR (iX1 D54 Y50 Y52 (lD D55 Y54 (mV D9 Y55 qE))) (rG (mV D56 Y9 (mV D57 Y1 (mV D58 Y9 (mV D59 Y2 (mV D60 Y9 (mV D61 Y2 (iX1 D62 Y60 Y61 (lD D63 Y62 (mV D64 Y9 (mV D65 Y1 (iX1 D66 Y64 Y65 (lD D67 Y66 (iX1 D68 Y56 Y57 (sO Y68 Y63 (iX1 D69 Y58 Y59 (sO Y69 Y67 qE))))))))))))))))))) (rG (aD D70 Y52 K1 (mV D52 Y70 qE))))))
def q229_1 : RunT := (sR (lT D47 Y46 Y45 qE) (sQ (cD Y47 sK eX0) (sQ (bK1 (sR (iX1 D48 Y44 Y46 (lD D49 Y48 (mV D7 Y49 qE))) (sR (mV D50 Y7 (lN D51 Y50 (mV D52 K0 qE))) (bK2 (lP q229_0))))) (rG (aD D71 Y46 K1 (mV D46 Y71 qE))))))
def t229 : RunT := (sR (mV D10 Y0 (nK D11 Y10 (fD1 D12 Y11 (lD D13 Y12 (mV D14 Y1 (mV D15 Y0 (nK D16 Y15 (fD1 D17 Y16 (lD D18 Y17 (mV D19 Y2 (mV D20 Y0 (nK D21 Y20 (fD1 D22 Y21 (lD D23 Y22 (mV D24 Y2 (iX1 D25 Y23 Y24 (lD D26 Y25 (mV D27 Y0 (nK D28 Y27 (fD1 D29 Y28 (lD D30 Y29 (mV D31 Y1 (iX1 D32 Y30 Y31 (lD D33 Y32 (iX1 D34 Y13 Y14 (sO Y34 Y26 (iX1 D35 Y18 Y19 (sO Y35 Y33 qE)))))))))))))))))))))))))))) (sR (mV D36 Y0 (nK D37 Y36 (fD1 D38 Y37 (lD D39 Y38 (mV D40 Y0 (nK D41 Y40 (fD2 D42 Y41 (lD D43 Y42 (o_sub okB (fun E => (.bsl 2 1 [(.vec [] 0 (some 0)), (.vec [] 0 (some 0))] [(0, (1, (.k (Y39 E)))), (1, (1, (.k (Y43 E))))])) D44 (lN D45 Y44 (mV D46 K0 qE))))))))))) (bK0 (lP q229_1))))
def e229 : Ent := .code t229 72 [] false
theorem k229 : EOT Tryz.prog G okB 229 e229 := eotA true Tryz.func229
def q230_0 : RunT := (sR (lT D31 Y30 Y29 qE) (sQ (cD Y31 sK eX2) (sQ (bK3 (sR (iX1 D32 Y28 Y30 (lD D33 Y32 (mV D11 Y33 qE))) (rG (mV D34 Y11 (mV D35 Y1 (mV D36 Y0 (mV D37 Y11 (mV D38 Y1 (iX1 D39 Y37 Y38 (lD D40 Y39 (mV D41 Y3 (mV D42 Y11 (mV D43 Y2 (iX1 D44 Y42 Y43 (lD D45 Y44 (mL D46 Y41 Y45 (aD D47 Y40 Y46 (cA .d0 .d14 .d7 D48 [Y36, Y47] (iX1 D49 Y34 Y35 (sO Y49 Y48 qE)))))))))))))))))))) (rG (aD D50 Y30 K1 (mV D30 Y50 qE))))))
def q230_1 : RunT := (sR (lT D25 Y24 Y23 qE) (sQ (cD Y25 sK eX0) (sQ (bK1 (sR (iX1 D26 Y22 Y24 (lD D27 Y26 (mV D9 Y27 qE))) (sR (mV D28 Y9 (lN D29 Y28 (mV D30 K0 qE))) (bK2 (lP q230_0))))) (rG (aD D51 Y24 K1 (mV D24 Y51 qE))))))
def q230_2 : RunT := (sR (lT D61 Y60 Y59 qE) (sQ (cD Y61 sK eX4) (sQ (bK5 (sR (mV D62 Y60 (iX1 D63 Y58 Y60 (lD D64 Y63 (mV D12 Y62 (mV D13 Y64 qE))))) (tY (fO (fun next => o_mov D65 Y0 (next ([], []))) (fO (fun next => o_nilck D66 Y65 (next ([], []))) (fO (fun next => o_fld (nat_lit 1) D67 Y66 (next ([], []))) (fO (fL D68 Y67) (fO (fun next => o_mov D69 Y1 (next ([], []))) (fO (fun next => o_idx (nat_lit 1) D70 Y68 Y69 (next ([], []))) (fO (fL D71 Y70) (fO (fun next => o_mov D72 Y12 (next ([], []))) (fO (fun next => o_mov D73 Y0 (next ([], []))) (fO (fun next => o_mov D74 Y0 (next ([], []))) (fO (fun next => o_nilck D75 Y74 (next ([], []))) (fO (fun next => o_fld (nat_lit 1) D76 Y75 (next ([], []))) (fO (fL D77 Y76) (fO (fun next => o_mov D78 Y1 (next ([], []))) (fO (fun next => o_idx (nat_lit 1) D79 Y77 Y78 (next ([], []))) (fO (fL D80 Y79) (fO (fun next => o_mov D81 Y12 (next ([], []))) (fO (fun next => o_idx (nat_lit 1) D82 Y80 Y81 (next ([], []))) (fO (fL D83 Y82) (fO (fun next => o_mov D84 Y3 (next ([], []))) (fO (fun next => o_mov D85 Y13 (next ([], []))) (fO (fun next => o_bin .mul b_mul D86 Y84 Y85 (next ([], []))) (fO (fun next => o_bin .add b_add D87 Y83 Y86 (next ([], []))) (fO (fC (nat_lit 231) D88 [Y73, Y87]) (fO (fun next => o_idx (nat_lit 1) D89 Y71 Y72 (next ([], []))) (fO (fS Y89 Y88) (fE [(3, 12), (6, 12), (3, 15), (6, 15), (3, 18), (6, 18), (3, 23), (6, 23), (12, 23)])))))))))))))))))))))))))))))) (rG (aD D90 Y60 K1 (mV D60 Y90 qE))))))
def t230 : RunT := (sQ (sR (mV D14 Y0 (nK D15 Y14 (fD1 D16 Y15 (lD D17 Y16 (mV D18 Y0 (nK D19 Y18 (fD2 D20 Y19 (lD D21 Y20 (o_sub okB (fun E => (.bsl 2 1 [(.vec [] 0 (some 0)), (.vec [] 0 (some 0))] [(0, (1, (.k (Y17 E)))), (1, (1, (.k (Y21 E))))])) D22 (lN D23 Y22 (mV D24 K0 qE))))))))))) (bK0 (lP q230_1))) (sR (mV D52 Y0 (nK D53 Y52 (fD1 D54 Y53 (lD D55 Y54 (mV D56 Y2 (iX1 D57 Y55 Y56 (lD D58 Y57 (lN D59 Y58 (mV D60 K0 qE))))))))) (bK4 (lP q230_2))))
def e230 : Ent := .code t230 91 [] false
theorem k230 : EOT Tryz.prog G okB 230 e230 := eotA false Tryz.func230
def t231 : RunT := (sR (mV D4 K0 qE) (sR (mV D5 Y1 (mV D6 Y0 (nK D7 Y6 (fD0 D8 Y7 (lD D9 Y8 (hL D10 K1 Y9 (sB D11 Y10 K1 (o_bin .and (b_gen .and) D12 Y5 Y11 (mV D4 Y12 qE))))))))) rT))
def e231 : Ent := .code t231 13 [(.t Y4)] false
theorem k231 : EOT Tryz.prog G okB 231 e231 := eotA true Tryz.func231
def q232_0 : RunT := (sR (lT D9 Y8 Y7 qE) (sQ (cD Y9 sK eX0) (sQ (bK1 (sR (mV D10 Y8 (mV D5 Y10 qE)) (sR (mV D11 Y1 (mV D12 Y0 (mV D13 Y5 (iX1 D14 Y12 Y13 (lD D15 Y14 (eQ D16 Y11 Y15 qE)))))) (cD Y16 (sR (mV D17 Y5 (mV D4 Y17 qE)) rT) sK)))) (rG (aD D18 Y8 K1 (mV D8 Y18 qE))))))
def t232 : RunT := (sR (mV D4 K0 qE) (sQ (sR (mV D6 Y0 (lN D7 Y6 (mV D8 K0 qE))) (bK0 (lP q232_0))) (sR (mV D4 Km0 qE) rT)))
def e232 : Ent := .code t232 19 [(.t Y4)] false
theorem k232 : EOT Tryz.prog G okB 232 e232 := eotA true Tryz.func232
def t233 : RunT := (sR (bX D4 Y0 (mV D6 KF qE)) (sR (lA2 D11 Y2 (lA2 D12 Y4 (cA .d0 .d7 .d11 D13 [Y11, Y12] (mV D10 Y13 (xT0 D14 Y10 (xT1 D15 Y10 (xT2 D16 Y10 (bX D7 (gk (.agg [(.bool false), (.vec [] 0 (some 0))])) (bX D8 (gk (.agg [(.bool false), (.vec [] 0 (some 0))])) (sA2 Y7 Y14 (sA2 Y8 Y15 (mV D9 Y16 qE)))))))))))) (sQ (sR (lA2 D17 Y8 (cA .d0 .d7 .d8 D18 [Y17] (nE D19 Y18 K0 qE))) (cD Y19 (sR (mV D6 KF qE) rT) sK)) (sR (lA2 D20 Y7 (sA2 Y2 Y20 qE)) (sR (lD D21 Y3 (mV D22 Y1 (aD D23 Y21 Y22 (sO Y3 Y23 qE)))) (sR (mV D6 KT qE) rT))))))
def e233 : Ent := .code t233 24 [(.t Y6)] false
theorem k233 : EOT Tryz.prog G okB 233 e233 := eotA true Tryz.func233
end
end Go.Proofs.YtmmfnpbjolpfmaaGreatDoor

/- Threaded code of some functions, by program (gent.py). -/
namespace Go.Proofs.YtmmfnpbjolpfmaaGreatDoor
set_option linter.unusedSimpArgs false
set_option linter.unusedVariables false
open Go Go.AL Go.Proofs
set_option maxRecDepth 100000
noncomputable section
def t234 : RunT := (sR (mV D2 KF qE) (sR (mV D3 Y0 (cA .d0 .d11 .d4 D4 [Y3] (mV D5 Y4 (gA Y5 D6 (mV D6 Y0) (gA Y5 D7 (lN D7 Y6) (gA Y5 D8 (mV D8 Y0) (gA Y5 D9 (iX1 D9 Y8 K0) (gA Y5 D10 (lD D10 Y9) (gA Y5 D11 (lN D11 Y10) (gA Y5 D12 (eQ D12 Y7 Y11) (pK D13 Y5 Y12 KF (mV D14 Y13 (gA Y14 D15 (mV D15 Y0) (gA Y14 D16 (lN D16 Y15) (gA Y14 D17 (lE D17 Y16 K8) (pK D18 Y14 Y17 KF (mV D2 Y18 qE))))))))))))))))) rT))
def e234 : Ent := .code t234 19 [(.t Y2)] false
theorem k234 : EOT Tryz.prog G okB 234 e234 := eotA true Tryz.func234
def q235_0 : RunT := (sQ (sR (mV D24 Y0 (mV D25 Y8 (iX1 D26 Y24 Y25 (lD D27 Y26 (mV D28 Y7 (iX1 D29 Y27 Y28 (lD D30 Y29 (nE D31 Y30 K0 qE)))))))) (cD Y31 sK eX4)) (bK5 (sR (mV D32 Y5 (mV D33 Y0 (mV D34 Y7 (iX1 D35 Y33 Y34 (lD D36 Y35 (mV D37 Y0 (mV D38 Y8 (iX1 D39 Y37 Y38 (lD D40 Y39 (mV D41 Y0 (mV D42 Y7 (iX1 D43 Y41 Y42 (lD D44 Y43 (mV D45 Y7 (iX1 D46 Y44 Y45 (lD D47 Y46 (mV D48 Y0 (mV D49 Y8 (iX1 D50 Y48 Y49 (lD D51 Y50 (mV D52 Y7 (iX1 D53 Y51 Y52 (lD D54 Y53 (qU D55 Y47 Y54 (o_callc okB D56 Y32 [Y36, Y40, Y55] qE))))))))))))))))))))))))) (sR (mV D57 Y0 (mV D58 Y7 (mV D59 Y0 (mV D60 Y8 (mV D61 Y0 (mV D62 Y8 (iX1 D63 Y61 Y62 (lD D64 Y63 (mV D65 Y0 (mV D66 Y7 (iX1 D67 Y65 Y66 (lD D68 Y67 (iX1 D69 Y57 Y58 (sO Y69 Y64 (iX1 D70 Y59 Y60 (sO Y70 Y68 qE)))))))))))))))) (rG (mV D71 Y6 (nG D72 Y71 (mV D6 Y72 qE))))))))
def q235_1 : RunT := (sQ (sR (mV D18 Y8 (mV D19 Y0 (lN D20 Y19 (lT D21 Y18 Y20 qE)))) (cD Y21 sK eX2)) (sQ (bK3 (bK4 (lP q235_0))) (rG (mV D22 Y8 (aD D23 Y22 K1 (mV D8 Y23 qE))))))
def q235_2 : RunT := (sR (lT D14 Y13 Y12 qE) (sQ (cD Y14 sK eX0) (sQ (bK1 (sR (mV D15 Y13 (mV D7 Y15 qE)) (sR (mV D16 Y7 (aD D17 Y16 K1 (mV D8 Y17 qE))) (bK2 (lP q235_1))))) (rG (aD D73 Y13 K1 (mV D13 Y73 qE))))))
def t235 : RunT := (sR (mV D4 K0 qE) (sR (mV D9 Y1 (cA .d0 .d14 .d12 D10 [Y9] (mV D5 Y10 qE))) (sR (mV D6 K1 qE) (sQ (sR (mV D11 Y0 (lN D12 Y11 (mV D13 K0 qE))) (bK0 (lP q235_2))) (sR (mV D74 Y6 (mV D4 Y74 qE)) rT)))))
def e235 : Ent := .code t235 75 [(.t Y4)] false
theorem k235 : EOT Tryz.prog G okB 235 e235 := eotA true Tryz.func235
def t236 : RunT := (sR (bX D1 Y0 (mV D2 (gk (.clo 131073 [])) qE)) (sR (mF252 D3 [Y1] (mV D2 Y3 qE)) rT))
def e236 : Ent := .code t236 4 [(.t Y2)] true
theorem k236 : EOT Tryz.prog G okB 236 e236 := eotA true Tryz.func236
def q237_0 : RunT := (sQ (sR (mV D13 Y7 (nE D14 Y13 K0 qE)) (cD Y14 sK eX0)) (bK1 (sR (mV D15 Y6 (mV D16 Y7 (qU D17 Y15 Y16 (mV D10 Y17 qE)))) (sR (mV D18 Y7 (mV D19 Y6 (mV D20 Y10 (mV D21 Y7 (mL D22 Y20 Y21 (sB D23 Y19 Y22 (mV D6 Y18 (mV D7 Y23 qE)))))))) (rG (mV D24 Y9 (mV D25 Y8 (mV D26 Y10 (mV D27 Y9 (mL D28 Y26 Y27 (sB D29 Y25 Y28 (mV D8 Y24 (mV D9 Y29 qE)))))))))))))
def t237 : RunT := (sR (mV D4 K0 (mV D5 KF qE)) (sR (mV D11 Y1 (mV D12 Y0 (mV D6 Y11 (mV D7 Y12 qE)))) (sR (mV D8 K0 (mV D9 K1 qE)) (sQ (bK0 (lP q237_0)) (sR (mV D30 Y8 (mV D31 Y1 (rM D32 Y30 Y31 (mV D33 Y1 (aD D34 Y32 Y33 (mV D35 Y1 (rM D36 Y34 Y35 (mV D37 Y6 (eQ D38 Y37 K1 (mV D4 Y36 (mV D5 Y38 qE))))))))))) rT)))))
def e237 : Ent := .code t237 39 [(.t Y4), (.t Y5)] false
theorem k237 : EOT Tryz.prog G okB 237 e237 := eotA true Tryz.func237
def q238_0 : RunT := (sR (lT D11 Y10 Y9 qE) (sQ (cD Y11 sK eX0) (sQ (bK1 (sR (mV D12 Y10 (iX1 D13 Y8 Y10 (lD D14 Y13 (mV D6 Y12 (mV D7 Y14 qE))))) (rG (mV D15 Y0 (mV D16 Y6 (mV D17 Y7 (mV D18 Y1 (mL D19 Y17 Y18 (mV D20 Y2 (rM D21 Y19 Y20 (iX1 D22 Y15 Y16 (sO Y22 Y21 qE)))))))))))) (rG (aD D23 Y10 K1 (mV D10 Y23 qE))))))
def t238 : RunT := (sR (mV D8 Y0 (lN D9 Y8 (mV D10 K0 qE))) (bK0 (lP q238_0)))
def e238 : Ent := .code t238 24 [] false
theorem k238 : EOT Tryz.prog G okB 238 e238 := eotA true Tryz.func238
def t239 : RunT := (sR (bX D5 (gk (.agg [(.bool false), (.vec [] 0 (some 0))])) qE) (sQ (sR (mV D6 Y0 (mV D7 Y1 (eQ D8 Y6 Y7 qE))) (cD Y8 (sR (lA2 D9 Y2 (cA .d0 .d7 .d13 D10 [Y9] (sA2 Y5 Y10 qE))) rT) sK)) (sR (o_sub okB (fun E => (.build [(.bool false), (.vec [] 0 (some 0))] [])) D11 (sA2 Y5 Y11 qE)) rT)))
def e239 : Ent := .code t239 12 [(.c Y5 true (nat_lit 2))] false
theorem k239 : EOT Tryz.prog G okB 239 e239 := eotA true Tryz.func239
def t240 : RunT := (sR (mV D4 KF qE) (sR (mV D5 Y1 (lN D6 Y5 (mV D7 Y0 (eQ D8 Y6 Y7 (mV D9 Y8 (gA Y9 D10 (mV D10 Y1) (gA Y9 D11 (cA .d0 .d15 .d13 D11 [Y10]) (pK D12 Y9 Y11 KF (mV D4 Y12 qE))))))))) rT))
def e240 : Ent := .code t240 13 [(.t Y4)] false
theorem k240 : EOT Tryz.prog G okB 240 e240 := eotA true Tryz.func240
def t241 : RunT := (sR (bX D6 KN (bX D7 K0 qE)) (sQ (bK0 (sR (mV D14 Y0 (cA .d0 .d1 .d6 D15 [Y14] (nT D16 Y15 (mV D13 Y16 qE)))) (cD Y13 (sR (sO Y6 KN (sO Y7 K6 qE)) rT) (sQ (sR (mV D18 Y1 (lT D19 Y18 K0 (mV D17 Y19 qE))) (cD Y17 sK (sR (mV D20 Y1 (gT D21 Y20 K4611686018427387904 (mV D17 Y21 qE))) (cD Y17 sK (sR (mV D22 Y2 (lT D23 Y22 K0 (mV D17 Y23 qE))) (cD Y17 sK (rG (mV D24 Y2 (gT D25 Y24 K1000000 (mV D17 Y25 qE)))))))))) (cD Y17 (sR (sO Y6 KN (sO Y7 K1 qE)) rT) (sR (mV D27 Y0 (lN D28 Y27 (gT D29 Y28 K1 (mV D30 Y29 (gA Y30 D31 (mV D31 Y1) (gA Y30 D32 (gE D32 Y31 K1073741824) (pK D33 Y30 Y32 KF (mV D26 Y33 qE)))))))) (cD Y26 (sR (sO Y6 KN (sO Y7 K9 qE)) rT) sK))))))) (sR (mV D34 Y0 (lN D35 Y34 (mS1_8 [(.int .i64 (.ofNat (nat_lit 0)))] D36 Y35 Y35 (bX D8 KN (sO Y8 Y36 qE))))) (sR (mV D37 Y2 (bX D9 K0 (sO Y9 Y37 qE))) (sR (mV D38 Y0 (mV D39 Y1 (cA .d0 .d15 .d14 D40 [Y38, Y39] (mV D10 Y40 qE)))) (sQ (sR (mV D41 Y10 (o_sub okB (fun E => (.mkbnd 255 [(.k (Y41 E))])) D42 qE)) (bK1 (t_range okB (nat_lit 61483) [Y6, Y7, Y8, Y9] Y42))) (sR (lD D59 Y8 (sO Y6 Y59 (sO Y7 K0 qE))) rT)))))))
def e241 : Ent := .own (entR t241 60 [(.c Y6 false (nat_lit 1)), (.c Y7 false (nat_lit 1))] false)
theorem k241 : EOT Tryz.prog G okB 241 e241 := eor G.lv okB_ok mixed (by decide) true Tryz.func241 (by kernel_rfl) (by kernel_rfl) (by kernel_rfl) (by kernel_rfl) (by kernel_rfl) (by kernel_rfl) la61483
def t242 : RunT := (sR (mV D2 K0 qE) (sR (mV D3 Y0 (mV D4 Y0 (lN D5 Y4 (sB D6 Y5 K1 (iX1 D7 Y3 Y6 (lD D8 Y7 (sB D9 Y8 K1 (qU D10 Y9 K2 (mV D2 Y10 qE))))))))) rT))
def e242 : Ent := .code t242 11 [(.t Y2)] false
theorem k242 : EOT Tryz.prog G okB 242 e242 := eotA true Tryz.func242
def q243_0 : RunT := (sR (lT D23 Y22 Y21 qE) (sQ (cD Y23 sK eX0) (sQ (bK1 (sR (iX1 D24 Y20 Y22 (lD D25 Y24 (mV D8 Y25 qE))) (sQ (sR (mV D26 Y0 (lN D27 Y26 (mV D28 Y8 (cA .d0 .d15 .d0 D29 [Y27, Y28] (nT D30 Y29 qE))))) (cD Y30 (sR (mV D4 KN (mV D5 KF qE)) rT) sK)) (sR (mV D32 Y8 (mV D33 Y0 (mV D34 Y8 (cA .d1 .d0 .d2 D35 [Y33, Y34] (cA .d1 .d0 .d1 D36 [Y32, Y35] (mV D31 Y36 (xT0 D37 Y31 (xT1 D38 Y31 (mV D9 Y37 (mV D10 Y38 qE)))))))))) (sR (mV D40 Y8 (cA .d1 .d0 .d3 D41 [Y40] (mV D39 Y41 (xT0 D42 Y39 (xT1 D43 Y39 (mV D11 Y42 (mV D12 Y43 qE))))))) (sQ (sR (mV D44 Y10 (nT D45 Y44 (mV D46 Y45 (gB Y46 D47 (mV D47 Y12) (gB Y46 D48 (nT D48 Y47) (pK D49 Y46 KT Y48 qE)))))) (cD Y49 (sR (mV D4 KN (mV D5 KF qE)) rT) sK)) (rG (fD0 D50 Y6 (lD D51 Y50 (mV D52 Y9 (mV D53 Y11 (o_sub okB (fun E => (.build [(.int .i64 (.ofNat (nat_lit 0))), (.vec [] 0 (some 0))] [(0, (1, (.k (Y52 E)))), (1, (1, (.k (Y53 E))))])) D54 (o_sub okB (fun E => (.bsl 1 2 [(.int .i64 (.ofNat (nat_lit 0))), (.vec [] 0 (some 0))] [(0, (2, (.k (Y54 E))))])) D55 (aP okB 2 32 Y51 Y55 D56 (fD0 D57 Y6 (sO Y57 Y56 qE)))))))))))))))) (rG (aD D58 Y22 K1 (mV D22 Y58 qE))))))
def q243_1 : RunT := (sR (lT D68 Y67 Y66 qE) (sQ (cD Y68 sK eX2) (sQ (bK3 (sR (mV D69 Y67 (iX2 D70 Y65 Y67 (lA2 D71 Y70 (bX D15 (gk (.agg [(.int .i64 (.ofNat (nat_lit 0))), (.vec [] 0 (some 0))])) (mV D14 Y69 (sA2 Y15 Y71 qE)))))) (rG (mV D72 Y13 (mV D73 Y14 (fD1 D74 Y15 (lD D75 Y74 (iX1 D76 Y72 Y73 (sO Y76 Y75 qE))))))))) (rG (aD D77 Y67 K1 (mV D67 Y77 qE))))))
def t243 : RunT := (sR (mV D4 KN (mV D5 KF qE)) (sQ (sR (mV D16 Y0 (cA .d0 .d1 .d6 D17 [Y16] (nT D18 Y17 qE))) (cD Y18 (sR (mV D4 KN (mV D5 KF qE)) rT) sK)) (sR (o_sub okB (fun E => (.build [(.vec [] 0 (some 0)), (.clo 131073 [])] [(1, (1, (.k (.clo 256 []))))])) D19 (bX D6 (gk (.agg [(.vec [] 0 (some 0)), (.clo 131073 [])])) (sA2 Y6 Y19 qE))) (sQ (sR (mV D20 Y1 (lN D21 Y20 (mV D22 K0 qE))) (bK0 (lP q243_0))) (sR (cA .d1 .d0 .d4 D59 [Y6] qE) (sR (fD0 D60 Y6 (lD D61 Y60 (lN D62 Y61 (mS1_24 [(.vec [] 0 (some 0))] D63 Y62 Y62 (mV D13 Y63 qE))))) (sQ (sR (fD0 D64 Y6 (lD D65 Y64 (lN D66 Y65 (mV D67 K0 qE)))) (bK2 (lP q243_1))) (sR (mV D78 Y13 (mV D4 Y78 (mV D5 KT qE))) rT))))))))
def e243 : Ent := .code t243 79 [(.t Y4), (.t Y5)] false
theorem k243 : EOT Tryz.prog G okB 243 e243 := eotA true Tryz.func243
def t244 : RunT := (sR (bX D5 Y2 (mV D6 KN qE)) (sQ (sR (mV D12 Y0 (lN D13 Y12 (eQ D14 Y13 K1 qE))) (cD Y14 (sR (mV D15 Y0 (iX1 D16 Y15 K0 (lD D17 Y16 (iX1 D18 Y17 K0 (lD D19 Y18 (mV D20 Y1 (lD D21 Y5 (cA .d1 .d0 .d5 D22 [Y19, Y20, Y21] (mV D6 Y22 qE))))))))) rT) sK)) (sR (mV D23 Y0 (lN D24 Y23 (mV D7 Y24 qE))) (sR (mV D25 Y0 (cA .d1 .d0 .d6 D26 [Y25] (bX D8 (gk (.agg [(.vec [] 0 (some 0)), (.vec [] 0 (some 0))])) (sA2 Y8 Y26 qE)))) (sR (mV D27 Y7 (mS1_8 [(.int .i64 (.ofNat (nat_lit 0)))] D28 Y27 Y27 (bX D9 KN (sO Y9 Y28 qE)))) (sR (bX D10 KN qE) (sR (bX D11 (gk (.clo 131073 [])) qE) (sR (mF263 D29 [Y8, Y9, Y11, Y5, Y10] (sO Y11 Y29 qE)) (sR (lD D30 Y11 (mV D31 Y7 (sB D32 Y31 K1 (fD0 D33 Y8 (lD D34 Y33 (mV D35 Y7 (iX1 D36 Y34 Y35 (lD D37 Y36 (mV D38 Y1 (mL D39 Y37 Y38 (o_callc okB D40 Y30 [Y32, Y39, KT] qE))))))))))) (sR (lD D41 Y10 (mV D6 Y41 qE)) rT))))))))))
def e244 : Ent := .code t244 42 [(.t Y6)] false
theorem k244 : EOT Tryz.prog G okB 244 e244 := eotA true Tryz.func244
def t245 : RunT := (sR (mV D5 Y0 (lN D6 Y5 (mV D4 Y6 qE))) (rG (mV D7 Y0 (mV D8 Y4 (mV D9 Y4 (cVu64 D10 Y9 (cA .d0 .d3 .d10 D11 [Y10] (mV D12 Y1 (cA .d1 .d0 .d11 D13 [Y7, K0, Y8, Y11, Y12] qE)))))))))
def e245 : Ent := .code t245 14 [] false
theorem k245 : EOT Tryz.prog G okB 245 e245 := eotA true Tryz.func245
def q246_0 : RunT := (sR (lT D11 Y10 Y9 qE) (sQ (cD Y11 sK eX0) (sQ (bK1 (sR (mV D12 Y10 (iX1 D13 Y8 Y10 (lD D14 Y13 (mV D6 Y12 (mV D7 Y14 qE))))) (rG (mV D15 Y5 (mV D16 Y7 (mV D17 Y1 (mV D18 Y6 (iX1 D19 Y17 Y18 (lD D20 Y19 (mL D21 Y16 Y20 (aD D22 Y15 Y21 (mV D5 Y22 qE)))))))))))) (rG (aD D23 Y10 K1 (mV D10 Y23 qE))))))
def t246 : RunT := (sR (mV D4 K0 qE) (sR (mV D5 K0 qE) (sQ (sR (mV D8 Y0 (lN D9 Y8 (mV D10 K0 qE))) (bK0 (lP q246_0))) (sR (mV D24 Y5 (mV D4 Y24 qE)) rT))))
def e246 : Ent := .code t246 25 [(.t Y4)] false
theorem k246 : EOT Tryz.prog G okB 246 e246 := eotA true Tryz.func246
def t247 : RunT := (sR (mV D2 Ku0 qE) (sR (mV D3 Y0 (mV D4 Y0 (hR D5 Y4 Ku30 (o_bin .xor (b_gen .xor) D6 Y3 Y5 (mL D7 Y6 Ku13787848793156543929 (mV D0 Y7 qE)))))) (sR (mV D8 Y0 (mV D9 Y0 (hR D10 Y9 Ku27 (o_bin .xor (b_gen .xor) D11 Y8 Y10 (mL D12 Y11 Ku10723151780598845931 (mV D0 Y12 qE)))))) (sR (mV D13 Y0 (mV D14 Y0 (hR D15 Y14 Ku31 (o_bin .xor (b_gen .xor) D16 Y13 Y15 (mV D2 Y16 qE))))) rT))))
def e247 : Ent := .code t247 17 [(.t Y2)] false
theorem k247 : EOT Tryz.prog G okB 247 e247 := eotA true Tryz.func247
def t248 : RunT := (sR (mV D4 Ku0 qE) (sR (mV D5 Y0 (mV D6 Y1 (cVu64 D7 Y6 (mL D8 Y7 Ku11400714819323198485 (aD D9 Y5 Y8 (aD D10 Y9 Ku1 (cA .d0 .d15 .d7 D11 [Y10] (mV D4 Y11 qE)))))))) rT))
def e248 : Ent := .code t248 12 [(.t Y4)] false
theorem k248 : EOT Tryz.prog G okB 248 e248 := eotA true Tryz.func248
def t249 : RunT := (sR (mV D4 KN qE) (sR (mV D6 Y0 (mS1_8 [(.int .i64 (.ofNat (nat_lit 0)))] D7 Y6 Y6 (mV D5 Y7 qE))) (sR (mV D8 Y5 (mV D9 Y1 (iX1 D10 Y8 Y9 (sO Y10 K1 qE)))) (sR (mV D11 Y5 (mV D4 Y11 qE)) rT))))
def e249 : Ent := .code t249 12 [(.t Y4)] false
theorem k249 : EOT Tryz.prog G okB 249 e249 := eotA true Tryz.func249
def q250_0 : RunT := (sR (lT D34 Y33 Y32 qE) (sQ (cD Y34 sK eX0) (sQ (bK1 (sR (mV D35 Y33 (mV D12 Y35 qE)) (sR (mV D36 Y9 (mV D37 Y0 (nK D38 Y37 (fD0 D39 Y38 (lD D40 Y39 (mV D41 Y12 (iX1 D42 Y40 Y41 (lD D43 Y42 (cA .d0 .d15 .d6 D44 [Y36, Y43] (mV D13 Y44 qE)))))))))) (sR (mV D45 Y3 (mV D46 Y12 (mV D47 Y1 (mV D48 Y12 (iX1 D49 Y47 Y48 (lD D50 Y49 (mV D51 Y13 (cA .d0 .d15 .d8 D52 [Y50, Y51] (iX1 D53 Y45 Y46 (sO Y53 Y52 qE)))))))))) (sR (mV D54 Y3 (mV D55 Y10 (mV D56 Y12 (sB D57 Y55 Y56 (mV D58 Y1 (mV D59 Y10 (mV D60 Y12 (sB D61 Y59 Y60 (iX1 D62 Y58 Y61 (lD D63 Y62 (mV D64 Y13 (nG D65 Y64 (cA .d0 .d15 .d8 D66 [Y63, Y65] (iX1 D67 Y54 Y57 (sO Y67 Y66 qE))))))))))))))) (rG (mV D68 Y11 (mV D69 Y3 (mV D70 Y12 (iX1 D71 Y69 Y70 (lD D72 Y71 (mV D73 Y3 (mV D74 Y10 (mV D75 Y12 (sB D76 Y74 Y75 (iX1 D77 Y73 Y76 (lD D78 Y77 (aD D79 Y72 Y78 (aD D80 Y68 Y79 (mV D11 Y80 qE)))))))))))))))))))) (rG (aD D81 Y33 K1 (mV D33 Y81 qE))))))
def t250 : RunT := (sR (mV D8 Ku0 qE) (sR (mV D14 Y0 (nK D15 Y14 (fD1 D16 Y15 (lD D17 Y16 (mV D18 Y2 (iX1 D19 Y17 Y18 (lD D20 Y19 (mV D9 Y20 qE)))))))) (sR (mV D21 Y0 (nK D22 Y21 (fD0 D23 Y22 (lD D24 Y23 (lN D25 Y24 (sB D26 Y25 K1 (mV D10 Y26 qE))))))) (sR (mV D11 Ku0 qE) (sQ (sR (mV D27 Y0 (nK D28 Y27 (fD0 D29 Y28 (lD D30 Y29 (lN D31 Y30 (qU D32 Y31 K2 (mV D33 K0 qE))))))) (bK0 (lP q250_0))) (sR (mV D82 Y11 (mV D8 Y82 qE)) rT))))))
def e250 : Ent := .code t250 83 [(.t Y8)] false
theorem k250 : EOT Tryz.prog G okB 250 e250 := eotA true Tryz.func250
def q251_0 : RunT := (sR (lT D12 Y11 Y10 qE) (sQ (cD Y12 sK eX0) (sQ (bK1 (sR (mV D13 Y11 (iX1 D14 Y9 Y11 (lD D15 Y14 (mV D5 Y13 (mV D6 Y15 qE))))) (sQ (sR (mV D16 Y5 (mV D17 Y1 (lN D18 Y17 (gE D19 Y16 Y18 qE)))) (cD Y19 (sR (mV D4 K1 qE) rT) sK)) (sR (mV D20 Y1 (mV D21 Y5 (iX1 D22 Y20 Y21 (lD D23 Y22 (mV D7 Y23 qE))))) (sR (mV D24 Y6 (mV D25 Y7 (cA .d0 .d3 .d13 D26 [Y24, Y25] (mV D8 Y26 qE)))) (sR (mV D27 Y8 (nE D28 Y27 K0 qE)) (cD Y28 (sR (mV D29 Y8 (mV D4 Y29 qE)) rT) sK))))))) (rG (aD D30 Y11 K1 (mV D11 Y30 qE))))))
def t251 : RunT := (sR (mV D4 K0 qE) (sQ (sR (mV D9 Y0 (lN D10 Y9 (mV D11 K0 qE))) (bK0 (lP q251_0))) (sQ (sR (mV D31 Y0 (lN D32 Y31 (mV D33 Y1 (lN D34 Y33 (lT D35 Y32 Y34 qE))))) (cD Y35 (sR (mV D4 Km0 qE) rT) sK)) (sR (mV D4 K0 qE) rT))))
def e251 : Ent := .code t251 36 [(.t Y4)] false
theorem k251 : EOT Tryz.prog G okB 251 e251 := eotA true Tryz.func251
def q253_0 : RunT := (sR (lT D8 Y7 Y6 qE) (sQ (cD Y8 sK eX0) (sQ (bK1 (sR (iX1 D9 Y5 Y7 (lD D10 Y9 (mV D4 Y10 qE))) (sR (mV D11 Y4 (lT D12 Y11 Km1099511627775 (mV D13 Y12 (gB Y13 D14 (mV D14 Y4) (gB Y13 D15 (gT D15 Y14 K1099511627776) (pK D16 Y13 KT Y15 qE)))))) (cD Y16 (sR (mV D2 KF qE) rT) sK)))) (rG (aD D17 Y7 K1 (mV D7 Y17 qE))))))
def t253 : RunT := (sR (mV D2 KF qE) (sQ (sR (mV D5 Y0 (lN D6 Y5 (mV D7 K0 qE))) (bK0 (lP q253_0))) (sR (mV D2 KT qE) rT)))
def e253 : Ent := .code t253 18 [(.t Y2)] false
theorem k253 : EOT Tryz.prog G okB 253 e253 := eotA true Tryz.func253
def q254_0 : RunT := (sR (lT D26 Y25 Y24 qE) (sQ (cD Y26 sK eX0) (sQ (bK1 (sR (iX2 D27 Y23 Y25 (lA2 D28 Y27 (bX D8 (gk (.agg [(.bool false), (.vec [] 0 (some 0))])) (sA2 Y8 Y28 qE)))) (tY (fO (fun next => o_mov D29 Y5 (next ([], []))) (fO (fun next => o_mov D30 Y5 (next ([], []))) (fO (fun next => o_nilck D31 Y30 (next ([], []))) (fO (fun next => o_fld (nat_lit 1) D32 Y31 (next ([], []))) (fO (fL D33 Y32) (fO (fA2 D34 Y8) (fO (fC (nat_lit 269) D35 [Y34]) (fO (f_slow okB (fun E => (.bsl 1 1 [(.int .i64 (.ofNat (nat_lit 0)))] [(0, (1, (.k (Y35 E))))])) D36) (fO (f_slow okB (fun E => (.append 1 8 (.k (Y33 E)) (.k (Y36 E)))) D37) (fO (fun next => o_nilck D38 Y29 (next ([], []))) (fO (fun next => o_fld (nat_lit 1) D39 Y38 (next ([], []))) (fO (fS Y39 Y37) (fE [(4, 5), (4, 6), (4, 7)])))))))))))))))) (rG (aD D40 Y25 K1 (mV D25 Y40 qE))))))
def q254_1 : RunT := (sR (lT D54 Y53 Y52 qE) (sQ (cD Y54 sK eX4) (sQ (bK5 (sR (iX2 D55 Y51 Y53 (lA2 D56 Y55 (bX D13 (gk (.agg [(.bool false), (.vec [] 0 (some 0))])) (sA2 Y13 Y56 qE)))) (rG (mV D57 Y11 (lA2 D58 Y13 (cA .d1 .d0 .d13 D59 [Y58] (bS okB (.int .i64 (.ofNat (nat_lit 0))) Y59 D60 (aP okB 1 8 Y57 Y60 D61 (mV D11 Y61 qE))))))))) (rG (aD D62 Y53 K1 (mV D53 Y62 qE))))))
def q254_2 : RunT := (sR (lT D45 Y44 Y43 qE) (sQ (cD Y45 sK eX2) (sQ (bK3 (sR (iX1 D46 Y42 Y44 (lD D47 Y46 (mV D10 Y47 qE))) (sR (mV D11 KN qE) (sQ (sR (mV D48 Y10 (iX1 D49 Y48 K0 (lD D50 Y49 (o_sub okB (fun E => (.slice 2 (.k (Y50 E)) (some (.k (.int .i64 (.ofNat (nat_lit 1))))) none none)) D51 (lN D52 Y51 (mV D53 K0 qE)))))) (bK4 (lP q254_1))) (rG (mV D63 Y5 (mV D64 Y5 (nK D65 Y64 (fD2 D66 Y65 (lD D67 Y66 (mV D68 Y11 (bS okB (.vec [] 0 (some 0)) Y68 D69 (aP okB 1 24 Y67 Y69 D70 (nK D71 Y63 (fD2 D72 Y71 (sO Y72 Y70 qE)))))))))))))))) (rG (aD D73 Y44 K1 (mV D44 Y73 qE))))))
def t254 : RunT := (sR (mV D4 KP qE) (sR (mV D14 Y1 (mV D15 Y0 (lN D16 Y15 (mS1_8 [(.int .i64 (.ofNat (nat_lit 0)))] D17 Y16 Y16 (o_sub okB (fun E => (.build [(.int .i64 (.ofNat (nat_lit 0))), (.vec [] 0 (some 0)), (.vec [] 0 (some 0)), (.vec [] 0 (some 0))] [(0, (1, (.k (Y14 E)))), (3, (1, (.k (Y17 E))))])) D18 (bX D19 Y18 (mV D5 Y19 qE))))))) (sR (mV D20 Y0 (cA .d1 .d0 .d12 D21 [Y20] (bX D6 (gk (.agg [(.vec [] 0 (some 0)), (.vec [] 0 (some 0))])) (sA2 Y6 Y21 qE)))) (sQ (sR (fD1 D22 Y6 (lD D23 Y22 (lN D24 Y23 (mV D25 K0 qE)))) (bK0 (lP q254_0))) (sQ (sR (fD0 D41 Y6 (lD D42 Y41 (lN D43 Y42 (mV D44 K0 qE)))) (bK2 (lP q254_2))) (sR (mV D74 Y5 (mV D4 Y74 qE)) rT))))))
def e254 : Ent := .code t254 75 [(.t Y4)] true
theorem k254 : EOT Tryz.prog G okB 254 e254 := eotA true Tryz.func254
def t255 : RunT := (sR (mV D5 Y0 (nK D6 Y5 (fD3 D7 Y6 (lD D8 Y7 (lN D9 Y8 (mV D4 Y9 qE)))))) (sQ (sR (mV D10 Y4 (eQ D11 Y10 K1 qE)) (cD Y11 (sQ (tY (fO (fun next => o_mov D12 Y1 (next ([], []))) (fO (fun next => o_mov D13 Y0 (next ([], []))) (fO (fun next => o_nilck D14 Y13 (next ([], []))) (fO (fun next => o_fld (nat_lit 0) D15 Y14 (next ([], []))) (fO (fL D16 Y15) (fO (fun next => o_mov D17 Y0 (next ([], []))) (fO (fun next => o_nilck D18 Y17 (next ([], []))) (fO (fun next => o_fld (nat_lit 1) D19 Y18 (next ([], []))) (fO (fL D20 Y19) (fO (fun next => o_idx (nat_lit 1) D21 Y20 K1 (next ([], []))) (fO (fL D22 Y21) (fO (fun next => o_bin .quo b_quo D23 Y16 Y22 (next ([], []))) (fO (fC (nat_lit 270) D24 [Y23]) (fO (fun next => o_bin .mul b_mul D25 K2 Y24 (next ([], []))) (fO (fun next => o_bin .add b_add D26 Y25 K1 (next ([], []))) (fO (f_callc okB D27 Y12 [K1, Y26]) (fE [(4, 8), (4, 10), (8, 15)])))))))))))))))))) rT) sK)) (rG (mV D28 Y0 (mV D29 Y4 (sB D30 Y29 K1 (mV D31 Y0 (nK D32 Y31 (fD1 D33 Y32 (lD D34 Y33 (mV D35 Y4 (iX1 D36 Y34 Y35 (lD D37 Y36 (mV D38 Y0 (nK D39 Y38 (fD0 D40 Y39 (lD D41 Y40 (mL D42 Y37 Y41 (mV D43 Y1 (cA .d1 .d0 .d15 D44 [Y28, Y30, Y42, Y43] qE))))))))))))))))))))
def e255 : Ent := .code t255 45 [] false
theorem k255 : EOT Tryz.prog G okB 255 e255 := eotA false Tryz.func255
def t256 : RunT := (sR (bX D2 Y0 (bX D3 Y1 (mV D4 K0 qE))) (sQ (tY (fO (fun next => o_fld (nat_lit 0) D5 Y2 (next ([], []))) (fO (fL D6 Y5) (fO (fun next => o_fld (nat_lit 0) D7 Y3 (next ([], []))) (fO (fL D8 Y7) (fO (fC (nat_lit 61) D9 [Y6, Y8]) (fO (fun next => o_fld (nat_lit 1) D10 Y2 (next ([], []))) (fO (fL D11 Y10) (fO (fun next => o_fld (nat_lit 1) D12 Y3 (next ([], []))) (fO (fL D13 Y12) (fO (fC (nat_lit 220) D14 [Y11, Y13]) (fO (f_slow okB (fun E => (.bsl 2 1 [(.int .i64 (.ofNat (nat_lit 0))), (.int .i64 (.ofNat (nat_lit 0)))] [(0, (1, (.k (Y9 E)))), (1, (1, (.k (Y14 E))))])) D15) (fO (fC (nat_lit 59) D16 [Y15]) (fO (fun next => o_mov D4 Y16 (next ([], []))) (fE [(1, 3), (1, 6), (3, 6), (4, 6), (1, 8), (3, 8), (4, 8), (6, 8)]))))))))))))))) rT))
def e256 : Ent := .code t256 17 [(.t Y4)] false
theorem k256 : EOT Tryz.prog G okB 256 e256 := eotA false Tryz.func256
def q257_0 : RunT := (sR (lT D18 Y17 Y16 qE) (sQ (cD Y18 sK eX0) (sQ (bK1 (sR (mV D19 Y17 (iX1 D20 Y15 Y17 (lD D21 Y20 (mV D8 Y19 (mV D9 Y21 qE))))) (sR (mV D22 Y1 (mV D23 Y8 (iX1 D24 Y22 Y23 (lD D25 Y24 (mV D10 Y25 qE))))) (bK2 (sR (mV D34 Y9 (gE D35 Y34 K0 (mV D36 Y35 (gA Y36 D37 (mV D37 Y10) (gA Y36 D38 (gE D38 Y37 K0) (pK D39 Y36 Y38 KF (mV D33 Y39 qE))))))) (cD Y33 (rG (lA2 D40 Y6 (mV D41 Y9 (cVu64 D42 Y41 (mV D43 Y10 (cVu64 D44 Y43 (cA .d1 .d1 .d0 D45 [Y40, Y42, Y44] (sA2 Y6 Y45 qE)))))))) (sR (mV D47 Y9 (lT D48 Y47 K0 (mV D49 Y48 (gA Y49 D50 (mV D50 Y10) (gA Y49 D51 (lT D51 Y50 K0) (pK D52 Y49 Y51 KF (mV D46 Y52 qE))))))) (cD Y46 (rG (lA2 D53 Y6 (mV D54 Y9 (nG D55 Y54 (cVu64 D56 Y55 (mV D57 Y10 (nG D58 Y57 (cVu64 D59 Y58 (cA .d1 .d1 .d0 D60 [Y53, Y56, Y59] (sA2 Y6 Y60 qE)))))))))) (sR (mV D62 Y9 (lT D63 Y62 K0 (mV D61 Y63 qE))) (cD Y61 (rG (lA2 D64 Y7 (mV D65 Y9 (nG D66 Y65 (cVu64 D67 Y66 (mV D68 Y10 (cVu64 D69 Y68 (cA .d1 .d1 .d0 D70 [Y64, Y67, Y69] (sA2 Y7 Y70 qE))))))))) (rG (lA2 D26 Y7 (mV D27 Y9 (cVu64 D28 Y27 (mV D29 Y10 (nG D30 Y29 (cVu64 D31 Y30 (cA .d1 .d1 .d0 D32 [Y26, Y28, Y31] (sA2 Y7 Y32 qE))))))))))))))))))) (rG (aD D71 Y17 K1 (mV D17 Y71 qE))))))
def t257 : RunT := (sR (mV D4 K0 (mV D5 KF qE)) (sR (bX D6 (gk (.agg [(.int .u64 (.ofNat (nat_lit 0))), (.int .u64 (.ofNat (nat_lit 0)))])) (bX D7 (gk (.agg [(.int .u64 (.ofNat (nat_lit 0))), (.int .u64 (.ofNat (nat_lit 0)))])) qE)) (sQ (sR (mV D15 Y0 (lN D16 Y15 (mV D17 K0 qE))) (bK0 (lP q257_0))) (sQ (sR (lA2 D73 Y6 (lA2 D74 Y7 (cA .d1 .d1 .d1 D75 [Y73, Y74] (mV D72 Y75 (xT0 D76 Y72 (xT1 D77 Y72 (mV D11 Y76 (mV D12 Y77 qE)))))))) (sR (mV D78 Y12 qE) (cD Y78 (sR (mV D79 Y11 (mV D4 Y79 (mV D5 KT qE))) rT) sK))) (sR (lA2 D81 Y7 (lA2 D82 Y6 (cA .d1 .d1 .d1 D83 [Y81, Y82] (mV D80 Y83 (xT0 D84 Y80 (xT1 D85 Y80 (mV D13 Y84 (mV D14 Y85 qE)))))))) (sR (mV D86 Y13 (nG D87 Y86 (mV D88 Y14 (mV D4 Y87 (mV D5 Y88 qE))))) rT))))))
def e257 : Ent := .code t257 89 [(.t Y4), (.t Y5)] false
theorem k257 : EOT Tryz.prog G okB 257 e257 := eotA true Tryz.func257
def q258_0 : RunT := (sR (lT D23 Y22 Y21 qE) (sQ (cD Y23 sK eX2) (sQ (bK3 (sR (mV D24 Y22 (iX1 D25 Y20 Y22 (lD D26 Y25 (mV D8 Y24 (mV D9 Y26 qE))))) (rG (mV D27 Y5 (mV D28 Y6 (iX1 D29 Y27 Y28 (lD D30 Y29 (mV D31 Y9 (mV D32 Y1 (mV D33 Y8 (iX1 D34 Y32 Y33 (lD D35 Y34 (mL D36 Y31 Y35 (aD D37 Y30 Y36 (iX1 D38 Y27 Y28 (sO Y38 Y37 qE)))))))))))))))) (rG (aD D39 Y22 K1 (mV D22 Y39 qE))))))
def q258_1 : RunT := (sR (lT D16 Y15 Y14 qE) (sQ (cD Y16 sK eX0) (sQ (bK1 (sR (mV D17 Y15 (iX1 D18 Y13 Y15 (lD D19 Y18 (mV D6 Y17 (mV D7 Y19 qE))))) (sR (mV D20 Y7 (lN D21 Y20 (mV D22 K0 qE))) (bK2 (lP q258_0))))) (rG (aD D40 Y15 K1 (mV D15 Y40 qE))))))
def t258 : RunT := (sR (mV D4 KN qE) (sR (mV D10 Y0 (lN D11 Y10 (mS1_8 [(.int .i64 (.ofNat (nat_lit 0)))] D12 Y11 Y11 (mV D5 Y12 qE)))) (sQ (sR (mV D13 Y0 (lN D14 Y13 (mV D15 K0 qE))) (bK0 (lP q258_1))) (sR (mV D41 Y5 (mV D4 Y41 qE)) rT))))
def e258 : Ent := .code t258 42 [(.t Y4)] false
theorem k258 : EOT Tryz.prog G okB 258 e258 := eotA true Tryz.func258
def q259_0 : RunT := (sR (lT D25 Y24 Y23 qE) (sQ (cD Y25 sK eX0) (sQ (bK1 (sR (mV D26 Y24 (iX1 D27 Y22 Y24 (lD D28 Y27 (mV D6 Y26 (mV D7 Y28 qE))))) (rG (mV D29 Y5 (mV D30 Y6 (mV D31 Y7 (nG D32 Y31 (iX1 D33 Y29 Y30 (sO Y33 Y32 qE))))))))) (rG (aD D34 Y24 K1 (mV D24 Y34 qE))))))
def t259 : RunT := (sR (mV D2 KN (mV D3 KF qE)) (sQ (sR (mV D8 Y0 (cA .d0 .d15 .d13 D9 [Y8] (nT D10 Y9 qE))) (cD Y10 (sR (mV D2 KN (mV D3 KF qE)) rT) sK)) (sR (mV D11 Y0 (cA .d1 .d1 .d2 D12 [Y11, (gk (.clo 275 []))] (mV D4 Y12 qE))) (sQ (sR (mV D13 Y4 (lT D14 Y13 K0 qE)) (cD Y14 (sR (mV D2 KN (mV D3 KF qE)) rT) sK)) (sR (mV D15 Y0 (cA .d1 .d0 .d10 D16 [Y15] (mV D5 Y16 qE))) (sQ (sR (mV D17 Y0 (mV D18 Y4 (iX1 D19 Y17 Y18 (lD D20 Y19 (lT D21 Y20 K0 qE))))) (cD Y21 (sR (mV D22 Y0 (lN D23 Y22 (mV D24 K0 qE))) (bK0 (lP q259_0))) sK)) (sR (mV D35 Y5 (mV D2 Y35 (mV D3 KT qE))) rT)))))))
def e259 : Ent := .code t259 36 [(.t Y2), (.t Y3)] false
theorem k259 : EOT Tryz.prog G okB 259 e259 := eotA true Tryz.func259
def t260 : RunT := (sR (bX D1 Y0 qE) (sR (lD D2 Y1 (nK D3 Y2 (fD0 D4 Y3 (lD D5 Y4 (lD D6 Y1 (nK D7 Y6 (fD1 D8 Y7 (lD D9 Y8 (cA .d1 .d1 .d4 D10 [Y5, Y9] qE))))))))) (tY (fO (fL D11 Y1) (fO (fL D12 Y1) (fO (fun next => o_nilck D13 Y12 (next ([], []))) (fO (fun next => o_fld (nat_lit 0) D14 Y13 (next ([], []))) (fO (fL D15 Y14) (fO (fun next => o_mkfn (nat_lit 278) D16 [Y1] (next ([], []))) (fO (fC (nat_lit 277) D17 [Y15, Y16]) (fO (fun next => o_nilck D18 Y11 (next ([], []))) (fO (fun next => o_fld (nat_lit 0) D19 Y18 (next ([], []))) (fO (fS Y19 Y17) (fE [(0, 1), (0, 4), (0, 6)]))))))))))))))
def e260 : Ent := .code t260 20 [] false
theorem k260 : EOT Tryz.prog G okB 260 e260 := eotA false Tryz.func260
def q262_0 : RunT := (sR (lT D27 Y26 Y25 qE) (sQ (cD Y27 sK eX0) (sQ (bK1 (sR (iX1 D28 Y24 Y26 (lD D29 Y28 (mV D9 Y29 qE))) (sR (mV D31 Y9 (cA .d0 .d5 .d9 D32 [Y31] (mV D30 Y32 (xT0 D33 Y30 (xT1 D34 Y30 (mV D10 Y33 (mV D11 Y34 qE))))))) (sQ (tY (fO (fun next => o_fld (nat_lit 0) D35 Y7 (next ([], []))) (fO (fL D36 Y35) (fO (fun next => o_mov D37 Y10 (next ([], []))) (fO (fun next => o_idx (nat_lit 1) D38 Y37 K0 (next ([], []))) (fO (fL D39 Y38) (fO (fun next => o_idx (nat_lit 1) D40 Y39 K0 (next ([], []))) (fO (fL D41 Y40) (fO (f_slow okB (fun E => (.bsl 1 1 [(.int .i64 (.ofNat (nat_lit 0)))] [(0, (1, (.k (Y41 E))))])) D42) (fO (f_slow okB (fun E => (.append 1 8 (.k (Y36 E)) (.k (Y42 E)))) D43) (fO (fun next => o_fld (nat_lit 0) D44 Y7 (next ([], []))) (fO (fS Y44 Y43) (fE [(1, 4), (1, 6), (1, 7)]))))))))))))) (tY (fO (fun next => o_fld (nat_lit 1) D45 Y7 (next ([], []))) (fO (fL D46 Y45) (fO (fun next => o_mov D47 Y10 (next ([], []))) (fO (fun next => o_idx (nat_lit 1) D48 Y47 K0 (next ([], []))) (fO (fL D49 Y48) (fO (fun next => o_sub okB (fun E => (.slice 1 (.k (Y49 E)) (some (.k (.int .i64 (.ofNat (nat_lit 1))))) none none)) D50 (next ([], []))) (fO (f_slow okB (fun E => (.bsl 1 1 [(.vec [] 0 (some 0))] [(0, (1, (.k (Y50 E))))])) D51) (fO (f_slow okB (fun E => (.append 1 24 (.k (Y46 E)) (.k (Y51 E)))) D52) (fO (fun next => o_fld (nat_lit 1) D53 Y7 (next ([], []))) (fO (fS Y53 Y52) (fE [(1, 4), (1, 6)])))))))))))))))) (rG (aD D54 Y26 K1 (mV D26 Y54 qE))))))
def t262 : RunT := (sR (bX D2 (gk (.agg [(.vec [] 0 (some 0)), (.vec [] 0 (some 0))])) qE) (sR (mV D13 Y0 (cA .d0 .d1 .d7 D14 [Y13] (mV D12 Y14 (xT0 D15 Y12 (xT1 D16 Y12 (mV D3 Y15 (mV D4 Y16 qE))))))) (sR (mV D18 Y3 (cA .d0 .d8 .d14 D19 [Y18] (mV D17 Y19 (xT0 D20 Y17 (xT1 D21 Y17 (mV D5 Y20 (mV D6 Y21 qE))))))) (sR (o_sub okB (fun E => (.bsl 1 1 [(.int .i64 (.ofNat (nat_lit 0)))] [(0, (1, (.k (.int .i64 (.ofNat (nat_lit 1))))))])) D22 (o_sub okB (fun E => (.build [(.vec [] 0 (some 0)), (.vec [] 0 (some 0))] [(0, (1, (.k (Y22 E))))])) D23 (bX D7 (gk (.agg [(.vec [] 0 (some 0)), (.vec [] 0 (some 0))])) (sA2 Y7 Y23 qE)))) (sQ (sR (mV D24 Y5 (lN D25 Y24 (mV D26 K0 qE))) (bK0 (lP q262_0))) (sR (lA2 D55 Y7 (sA2 Y2 Y55 qE)) rT))))))
def e262 : Ent := .code t262 56 [(.c Y2 true (nat_lit 2))] false
theorem k262 : EOT Tryz.prog G okB 262 e262 := eotA true Tryz.func262
def q263_0 : RunT := (sR (lT D35 Y34 Y33 qE) (sQ (cD Y35 sK eX0) (sQ (bK1 (sR (mV D36 Y34 (iX1 D37 Y32 Y34 (lD D38 Y37 (mV D13 Y36 (mV D14 Y38 qE))))) (rG (mV D39 Y12 (mV D40 Y14 (lD D41 Y4 (mV D42 Y0 (aD D43 Y42 K1 (mV D44 Y13 (aD D45 Y43 Y44 (iX1 D46 Y41 Y45 (lD D47 Y46 (mL D48 Y40 Y47 (aD D49 Y39 Y48 (mV D12 Y49 qE))))))))))))))) (rG (aD D50 Y34 K1 (mV D34 Y50 qE))))))
def q263_1 : RunT := (sQ (sR (mV D73 Y19 (mV D74 Y18 (lE D75 Y73 Y74 qE))) (cD Y75 sK eX2)) (sQ (bK3 (sR (lD D78 Y4 (mV D79 Y0 (mV D80 Y19 (iX1 D81 Y78 Y79 (sO Y81 Y80 qE))))) (sR (mV D82 Y11 (mV D83 Y19 (mL D84 Y82 Y83 (mV D85 Y12 (aD D86 Y84 Y85 (mV D20 Y86 qE)))))) (sR (mV D87 Y15 (mV D88 Y20 (mV D89 Y20 (mL D90 Y88 Y89 (sB D91 Y87 Y90 (mV D92 Y11 (qU D93 Y91 Y92 (mV D21 Y93 qE)))))))) (bK4 (sR (mV D100 Y0 (gT D101 Y100 K0 (mV D99 Y101 qE))) (cD Y99 (rG (lD D102 Y5 (mV D103 Y0 (sB D104 Y103 K1 (mV D105 Y21 (mV D106 Y2 (mV D107 Y106 (gA Y107 D108 (mV D108 Y19) (gA Y107 D109 (eQ D109 Y108 K0) (pK D110 Y107 Y109 KF (o_callc okB D111 Y102 [Y104, Y105, Y110] qE))))))))))) (sQ (sR (mV D113 Y2 (mV D114 Y113 (gA Y114 D115 (mV D115 Y19) (gA Y114 D116 (eQ D116 Y115 K0) (pK D117 Y114 Y116 KF (mV D112 Y117 qE)))))) (cD Y112 sK (rG (lD D118 Y6 (mV D119 Y118 (gA Y119 D120 (mV D120 Y21) (gA Y119 D121 (nE D121 Y120 K0) (pK D122 Y119 Y121 KF (mV D112 Y122 qE))))))))) (cD Y112 sK (tY (fO (fL D94 Y7) (fO (fL D95 Y4) (fO (fC (nat_lit 266) D96 [Y95]) (fO (f_slow okB (fun E => (.bsl 1 1 [(.vec [] 0 (some 0))] [(0, (1, (.k (Y96 E))))])) D97) (fO (f_slow okB (fun E => (.append 1 24 (.k (Y94 E)) (.k (Y97 E)))) D98) (fO (fS Y7 Y98) (fE [(0, 1), (0, 2), (0, 3)]))))))))))))))))) (rG (mV D76 Y19 (aD D77 Y76 K1 (mV D19 Y77 qE))))))
def t263 : RunT := (sR (fD0 D22 Y3 (lD D23 Y22 (mV D24 Y0 (aD D25 Y24 K1 (iX1 D26 Y23 Y25 (lD D27 Y26 (mV D11 Y27 (mV D12 K0 qE)))))))) (sQ (sR (fD1 D28 Y3 (lD D29 Y28 (mV D30 Y0 (iX1 D31 Y29 Y30 (lD D32 Y31 (lN D33 Y32 (mV D34 K0 qE))))))) (bK0 (lP q263_0))) (sR (fD0 D51 Y3 (lD D52 Y51 (mV D53 Y0 (iX1 D54 Y52 Y53 (lD D55 Y54 (mV D56 Y1 (mL D57 Y55 Y56 (mV D15 Y57 qE)))))))) (sR (mV D58 Y15 (cA .d1 .d0 .d8 D59 [Y58] (mV D16 Y59 qE))) (sR (mV D60 Y16 (mV D61 Y12 (aD D62 Y60 Y61 (mV D63 Y11 (cA .d1 .d0 .d9 D64 [Y62, Y63] (nG D65 Y64 (mV D66 Y16 (mV D67 Y12 (sB D68 Y66 Y67 (mV D69 Y11 (cA .d1 .d0 .d9 D70 [Y68, Y69] (mV D17 Y65 (mV D18 Y70 qE))))))))))))) (sQ (sR (mV D71 Y2 qE) (cD Y71 (rG (mV D17 K0 qE)) sK)) (sR (mV D72 Y17 (mV D19 Y72 qE)) (bK2 (lP q263_1)))))))))
def e263 : Ent := .code t263 123 [] true
theorem k263 : EOT Tryz.prog G okB 263 e263 := eotA false Tryz.func263
def q264_0 : RunT := (bK1 (sR (mV D13 Y3 (mV D14 Y0 (mV D15 Y3 (qU D16 Y14 Y15 (aD D17 Y13 Y16 (qU D18 Y17 K2 (mV D4 Y18 qE))))))) (sQ (sR (mV D19 Y4 (mV D20 Y3 (gE D21 Y19 Y20 qE))) (cD Y21 (sR (mV D22 Y3 (mV D2 Y22 qE)) rT) sK)) (rG (mV D23 Y4 (mV D3 Y23 qE))))))
def t264 : RunT := (sR (mV D2 K0 qE) (sQ (sR (mV D5 Y0 (eQ D6 Y5 K0 qE)) (cD Y6 (sR (mV D2 K0 qE) rT) sK)) (sR (mV D7 Y0 (cVu64 D8 Y7 (cA .d0 .d7 .d0 D9 [Y8] (aD D10 Y9 K1 (qU D11 Y10 K2 (hL D12 K1 Y11 (mV D3 Y12 qE))))))) (bK0 (lP q264_0)))))
def e264 : Ent := .code t264 24 [(.t Y2)] false
theorem k264 : EOT Tryz.prog G okB 264 e264 := eotA true Tryz.func264
def t265 : RunT := (sR (mV D4 K0 qE) (sR (mV D6 Y0 (mV D7 Y1 (qU D8 Y6 Y7 (mV D5 Y8 qE)))) (sQ (sR (mV D9 Y0 (mV D10 Y1 (rM D11 Y9 Y10 (lT D12 Y11 K0 qE)))) (cD Y12 (rG (mV D13 Y5 (sB D14 Y13 K1 (mV D5 Y14 qE)))) sK)) (sR (mV D15 Y5 (mV D4 Y15 qE)) rT))))
def e265 : Ent := .code t265 16 [(.t Y4)] false
theorem k265 : EOT Tryz.prog G okB 265 e265 := eotA true Tryz.func265
def t266 : RunT := (sR (mV D2 KN qE) (sQ (sR (mV D3 Y0 (o_sub okB (fun E => (.snil false (.k (Y3 E)))) D4 qE)) (cD Y4 (sR (mV D2 KN qE) rT) sK)) (sR (o_sub okB (fun E => (.bsl 0 1 [] [])) D5 (mV D6 Y0 (aP okB 1 8 Y5 Y6 D7 (mV D2 Y7 qE)))) rT)))
def e266 : Ent := .code t266 8 [(.t Y2)] true
theorem k266 : EOT Tryz.prog G okB 266 e266 := eotA true Tryz.func266
def q267_0 : RunT := (bK1 (sR (mV D21 Y2 (mV D22 Y1 (sB D23 Y21 Y22 (mV D12 Y23 qE)))) (sQ (sR (mV D24 Y12 (lE D25 Y24 K12 qE)) (cD Y25 (sR (mV D26 Y0 (mV D27 Y1 (mV D28 Y2 (mV D29 Y4 (cA .d1 .d1 .d7 D30 [Y26, Y27, Y28, Y29] qE))))) rT) sK)) (sQ (sR (mV D31 Y3 (eQ D32 Y31 K0 qE)) (cD Y32 (sR (mV D33 Y0 (mV D34 Y1 (mV D35 Y2 (mV D36 Y4 (cA .d1 .d1 .d8 D37 [Y33, Y34, Y35, Y36] qE))))) rT) sK)) (sQ (sR (mV D38 Y10 (nT D39 Y38 qE)) (cD Y39 (sR (mV D40 Y0 (mV D41 Y1 (mV D42 Y2 (mV D43 Y4 (cA .d1 .d1 .d9 D44 [Y40, Y41, Y42, Y43] qE))))) (rG (mV D45 Y3 (sB D46 Y45 K1 (mV D3 Y46 qE))))) sK)) (sR (mV D48 Y0 (mV D49 Y1 (mV D50 Y2 (mV D51 Y4 (cA .d1 .d1 .d10 D52 [Y48, Y49, Y50, Y51] (mV D47 Y52 (xT0 D53 Y47 (xT1 D54 Y47 (mV D13 Y53 (mV D14 Y54 qE)))))))))) (sQ (sR (mV D55 Y14 (eQ D56 Y55 K2 qE)) (cD Y56 (sR (mV D57 Y0 (mV D58 Y1 (mV D59 Y2 (mV D60 Y4 (cA .d1 .d1 .d11 D61 [Y57, Y58, Y59, Y60] qE))))) (sR (mV D62 Y2 (sB D63 Y62 K1 (mV D64 Y13 (mV D65 Y1 (sB D66 Y64 Y65 (sB D67 Y63 Y66 (mV D13 Y67 qE))))))) (rG (mV D14 K1 qE)))) sK)) (sQ (sR (mV D68 Y10 (mV D69 Y68 (gA Y69 D70 (mV D70 Y11) (pK D71 Y69 Y70 KF (mV D72 Y71 (gA Y72 D73 (mV D73 Y14) (gA Y72 D74 (eQ D74 Y73 K1) (pK D75 Y72 Y74 KF qE)))))))) (cD Y75 (sR (mV D76 Y0 (mV D77 Y1 (mV D78 Y2 (mV D79 Y4 (cA .d1 .d1 .d12 D80 [Y76, Y77, Y78, Y79] qE))))) (cD Y80 rT sK)) sK)) (sQ (sR (mV D81 Y1 (gT D82 Y81 K0 (mV D83 Y82 (gA Y83 D84 (mV D84 Y4) (gA Y83 D85 (mV D85 Y0) (gA Y83 D86 (mV D86 Y1) (gA Y83 D87 (sB D87 Y86 K1) (gA Y83 D88 (iX1 D88 Y85 Y87) (gA Y83 D89 (lD D89 Y88) (gA Y83 D90 (mV D90 Y0) (gA Y83 D91 (mV D91 Y13) (gA Y83 D92 (iX1 D92 Y90 Y91) (gA Y83 D93 (lD D93 Y92) (gA Y83 D94 (o_callc okB D94 Y84 [Y89, Y93]) (gA Y83 D95 (lT D95 Y94 K0) (gA Y83 D96 (nT D96 Y95) (pK D97 Y83 Y96 KF qE))))))))))))))))) (cD Y97 (sR (mV D98 Y0 (mV D99 Y1 (mV D100 Y2 (mV D101 Y13 (mV D102 Y4 (cA .d1 .d1 .d13 D103 [Y98, Y99, Y100, Y101, Y102] (mV D15 Y103 qE))))))) (sR (mV D104 Y15 (mV D1 Y104 qE)) eX1)) sK)) (sR (mV D106 Y0 (mV D107 Y1 (mV D108 Y2 (mV D109 Y13 (mV D110 Y4 (cA .d1 .d1 .d14 D111 [Y106, Y107, Y108, Y109, Y110] (mV D105 Y111 (xT0 D112 Y105 (xT1 D113 Y105 (mV D16 Y112 (mV D17 Y113 qE))))))))))) (sR (mV D114 Y17 (mV D11 Y114 qE)) (sR (mV D115 Y16 (mV D116 Y1 (sB D117 Y115 Y116 (mV D118 Y2 (mV D119 Y16 (sB D120 Y118 Y119 (mV D18 Y117 (mV D19 Y120 qE)))))))) (sR (mV D121 Y12 (qU D122 Y121 K8 (mV D20 Y122 qE))) (sR (mV D123 Y18 (mV D124 Y19 (lT D125 Y123 Y124 qE))) (cD Y125 (sR (mV D126 Y18 (mV D127 Y20 (gE D128 Y126 Y127 (mV D10 Y128 qE)))) (sR (mV D129 Y0 (mV D130 Y1 (mV D131 Y16 (mV D132 Y3 (mV D133 Y4 (cA .d1 .d0 .d11 D134 [Y129, Y130, Y131, Y132, Y133] qE)))))) (rG (mV D135 Y16 (aD D136 Y135 K1 (mV D1 Y136 qE)))))) (sR (mV D137 Y19 (mV D138 Y20 (gE D139 Y137 Y138 (mV D10 Y139 qE)))) (sR (mV D140 Y0 (mV D141 Y16 (aD D142 Y141 K1 (mV D143 Y2 (mV D144 Y3 (mV D145 Y4 (cA .d1 .d0 .d11 D146 [Y140, Y142, Y143, Y144, Y145] qE))))))) (rG (mV D147 Y16 (mV D2 Y147 qE))))))))))))))))))))
def t267 : RunT := (sR (mV D10 KT qE) (sR (mV D11 KT qE) (bK0 (lP q267_0))))
def e267 : Ent := .code t267 148 [] false
theorem k267 : EOT Tryz.prog G okB 267 e267 := eotA true Tryz.func267
def q268_0 : RunT := (sR (lT D27 Y26 Y25 qE) (sQ (cD Y27 sK eX0) (sQ (bK1 (sR (iX1 D28 Y24 Y26 (lD D29 Y28 (mV D9 Y29 qE))) (tY (fO (fun next => o_fld (nat_lit 1) D30 Y7 (next ([], []))) (fO (fL D31 Y30) (fO (fun next => o_mov D32 Y9 (next ([], []))) (fO (fun next => o_idx (nat_lit 1) D33 Y32 K0 (next ([], []))) (fO (fL D34 Y33) (fO (fun next => o_idx (nat_lit 2) D35 Y34 K0 (next ([], []))) (fO (fA2 D36 Y35) (fO (f_slow okB (fun E => (.bsl 1 2 [(.bool false), (.vec [] 0 (some 0))] [(0, (2, (.k (Y36 E))))])) D37) (fO (f_slow okB (fun E => (.append 2 32 (.k (Y31 E)) (.k (Y37 E)))) D38) (fO (fun next => o_fld (nat_lit 1) D39 Y7 (next ([], []))) (fO (fS Y39 Y38) (fE [(1, 4), (1, 6), (1, 7)]))))))))))))))) (rG (aD D40 Y26 K1 (mV D26 Y40 qE))))))
def t268 : RunT := (sR (bX D2 (gk (.agg [(.vec [] 0 (some 0)), (.vec [] 0 (some 0))])) qE) (sR (mV D11 Y0 (cA .d0 .d1 .d7 D12 [Y11] (mV D10 Y12 (xT0 D13 Y10 (xT1 D14 Y10 (mV D3 Y13 (mV D4 Y14 qE))))))) (sR (mV D16 Y3 (cA .d0 .d8 .d14 D17 [Y16] (mV D15 Y17 (xT0 D18 Y15 (xT1 D19 Y15 (mV D5 Y18 (mV D6 Y19 qE))))))) (sR (mV D20 Y5 (cA .d0 .d4 .d5 D21 [K1] (o_sub okB (fun E => (.bsl 1 2 [(.bool false), (.vec [] 0 (some 0))] [(0, (2, (.k (Y21 E))))])) D22 (o_sub okB (fun E => (.build [(.vec [] 0 (some 0)), (.vec [] 0 (some 0))] [(0, (1, (.k (Y20 E)))), (1, (1, (.k (Y22 E))))])) D23 (bX D7 (gk (.agg [(.vec [] 0 (some 0)), (.vec [] 0 (some 0))])) (sA2 Y7 Y23 qE)))))) (sQ (sR (mV D24 Y5 (lN D25 Y24 (mV D26 K0 qE))) (bK0 (lP q268_0))) (sR (lA2 D41 Y7 (sA2 Y2 Y41 qE)) rT))))))
def e268 : Ent := .code t268 42 [(.c Y2 true (nat_lit 2))] false
theorem k268 : EOT Tryz.prog G okB 268 e268 := eotA true Tryz.func268
def t269 : RunT := (sR (bX D1 Y0 (mV D2 K0 qE)) (sR (lA2 D6 Y1 (cA .d0 .d1 .d9 D7 [Y6] (mV D5 Y7 (xT0 D8 Y5 (xT1 D9 Y5 (mV D3 Y8 (mV D4 Y9 qE))))))) (sR (mV D10 Y3 (mV D2 Y10 qE)) rT)))
def e269 : Ent := .code t269 11 [(.t Y2)] false
theorem k269 : EOT Tryz.prog G okB 269 e269 := eotA true Tryz.func269
def q270_0 : RunT := (bK1 (sR (mV D13 Y3 (mV D14 Y0 (mV D15 Y3 (qU D16 Y14 Y15 (aD D17 Y13 Y16 (qU D18 Y17 K2 (mV D4 Y18 qE))))))) (sQ (sR (mV D19 Y4 (mV D20 Y3 (gE D21 Y19 Y20 qE))) (cD Y21 (sR (mV D22 Y3 (mV D2 Y22 qE)) rT) sK)) (rG (mV D23 Y4 (mV D3 Y23 qE))))))
def t270 : RunT := (sR (mV D2 K0 qE) (sQ (sR (mV D5 Y0 (eQ D6 Y5 K0 qE)) (cD Y6 (sR (mV D2 K0 qE) rT) sK)) (sR (mV D7 Y0 (cVu64 D8 Y7 (cA .d0 .d7 .d0 D9 [Y8] (aD D10 Y9 K1 (qU D11 Y10 K2 (hL D12 K1 Y11 (mV D3 Y12 qE))))))) (bK0 (lP q270_0)))))
def e270 : Ent := .code t270 24 [(.t Y2)] false
theorem k270 : EOT Tryz.prog G okB 270 e270 := eotA true Tryz.func270
def q271_0 : RunT := (sR (lT D36 Y35 Y34 qE) (sQ (cD Y36 sK eX0) (sQ (bK1 (sR (mV D37 Y35 (iX1 D38 Y33 Y35 (lD D39 Y38 (mV D11 Y37 (mV D12 Y39 qE))))) (rG (mV D40 Y10 (mV D41 Y12 (mV D42 Y0 (nK D43 Y42 (fD3 D44 Y43 (lD D45 Y44 (mV D46 Y1 (aD D47 Y46 K1 (mV D48 Y11 (aD D49 Y47 Y48 (iX1 D50 Y45 Y49 (lD D51 Y50 (mL D52 Y41 Y51 (aD D53 Y40 Y52 (mV D10 Y53 qE)))))))))))))))))) (rG (aD D54 Y35 K1 (mV D35 Y54 qE))))))
def q271_1 : RunT := (sQ (sR (mV D94 Y17 (mV D95 Y16 (lE D96 Y94 Y95 qE))) (cD Y96 sK eX2)) (sQ (bK3 (sR (mV D99 Y0 (nK D100 Y99 (fD3 D101 Y100 (lD D102 Y101 (mV D103 Y1 (mV D104 Y17 (iX1 D105 Y102 Y103 (sO Y105 Y104 qE)))))))) (sR (mV D106 Y9 (mV D107 Y17 (mL D108 Y106 Y107 (mV D109 Y10 (aD D110 Y108 Y109 (mV D18 Y110 qE)))))) (sR (mV D111 Y0 (mV D112 Y1 (sB D113 Y112 K1 (mV D114 Y13 (mV D115 Y18 (mV D116 Y18 (mL D117 Y115 Y116 (sB D118 Y114 Y117 (mV D119 Y9 (qU D120 Y118 Y119 (mV D121 Y3 (cA .d1 .d0 .d15 D122 [Y111, Y113, Y120, Y121] (nT D123 Y122 qE))))))))))))) (cD Y123 (sR (mV D8 KF qE) rT) sK))))) (rG (mV D97 Y17 (aD D98 Y97 K1 (mV D17 Y98 qE))))))
def t271 : RunT := (sR (mV D8 KF qE) (sR (mV D19 Y0 (nK D20 Y19 (fD1 D21 Y20 (lD D22 Y21 (mV D23 Y1 (aD D24 Y23 K1 (iX1 D25 Y22 Y24 (lD D26 Y25 (mV D9 Y26 (mV D10 K0 qE)))))))))) (sQ (sR (mV D27 Y0 (nK D28 Y27 (fD2 D29 Y28 (lD D30 Y29 (mV D31 Y1 (iX1 D32 Y30 Y31 (lD D33 Y32 (lN D34 Y33 (mV D35 K0 qE))))))))) (bK0 (lP q271_0))) (sR (mV D55 Y0 (nK D56 Y55 (fD1 D57 Y56 (lD D58 Y57 (mV D59 Y1 (iX1 D60 Y58 Y59 (lD D61 Y60 (mV D62 Y2 (mL D63 Y61 Y62 (mV D13 Y63 qE)))))))))) (sR (mV D64 Y13 (cA .d1 .d0 .d14 D65 [Y64] (mV D14 Y65 qE))) (sR (mV D66 Y14 (mV D67 Y10 (aD D68 Y66 Y67 (mV D69 Y9 (cA .d1 .d1 .d15 D70 [Y68, Y69] (nG D71 Y70 (mV D72 Y14 (mV D73 Y10 (sB D74 Y72 Y73 (mV D75 Y9 (cA .d1 .d1 .d15 D76 [Y74, Y75] (mV D15 Y71 (mV D16 Y76 qE))))))))))))) (sQ (sR (mV D77 Y3 (mV D78 Y0 (nK D79 Y78 (fD3 D80 Y79 (lD D81 Y80 (lN D82 Y81 (mV D83 Y1 (sB D84 Y82 Y83 (mV D85 Y16 (mV D86 Y15 (sB D87 Y85 Y86 (aD D88 Y87 K1 (o_callc okB D89 Y77 [Y84, Y88] (nT D90 Y89 qE)))))))))))))) (cD Y90 (sR (mV D8 KF qE) rT) sK)) (sQ (sR (mV D91 Y1 (eQ D92 Y91 K0 qE)) (cD Y92 (sR (mV D8 KT qE) rT) sK)) (sQ (sR (mV D93 Y15 (mV D17 Y93 qE)) (bK2 (lP q271_1))) (sR (mV D8 KT qE) rT))))))))))
def e271 : Ent := .code t271 124 [(.t Y8)] false
theorem k271 : EOT Tryz.prog G okB 271 e271 := eotA true Tryz.func271
def t272 : RunT := (sR (bX D3 Y0 (bX D6 (gk (.agg [(.int .u64 (.ofNat (nat_lit 0))), (.int .u64 (.ofNat (nat_lit 0)))])) qE)) (sR (mV D11 Y1 (mV D12 Y2 (cA .d1 .d2 .d0 D13 [Y11, Y12] (mV D10 Y13 (xT0 D14 Y10 (xT1 D15 Y10 (mV D7 Y14 (mV D8 Y15 qE)))))))) (sR (fD1 D17 Y3 (lD D18 Y17 (mV D19 Y8 (o_sub okB (fun E => (.bits64 false (.k (Y18 E)) (.k (Y19 E)) (.k (.int .u64 (.ofNat (nat_lit 0)))))) D20 (mV D16 Y20 (xT0 D21 Y16 (xT1 D22 Y16 (mV D8 Y21 (mV D9 Y22 qE))))))))) (sR (fD0 D24 Y3 (lD D25 Y24 (mV D26 Y7 (mV D27 Y9 (o_sub okB (fun E => (.bits64 false (.k (Y25 E)) (.k (Y26 E)) (.k (Y27 E)))) D28 (mV D23 Y28 (xT0 D29 Y23 (xT1 D30 Y23 (mV D7 Y29 qE))))))))) (sR (mV D31 Y7 (mV D32 Y8 (o_sub okB (fun E => (.build [(.int .u64 (.ofNat (nat_lit 0))), (.int .u64 (.ofNat (nat_lit 0)))] [(0, (1, (.k (Y31 E)))), (1, (1, (.k (Y32 E))))])) D33 (sA2 Y6 Y33 qE)))) rT)))))
def e272 : Ent := .code t272 34 [(.c Y6 true (nat_lit 2))] false
theorem k272 : EOT Tryz.prog G okB 272 e272 := eotA true Tryz.func272
def t273 : RunT := (sR (bX D2 Y0 (bX D3 Y1 (mV D4 K0 (mV D5 KF qE)))) (sR (fD1 D10 Y2 (lD D11 Y10 (fD1 D12 Y3 (lD D13 Y12 (o_sub okB (fun E => (.bits64 true (.k (Y11 E)) (.k (Y13 E)) (.k (.int .u64 (.ofNat (nat_lit 0)))))) D14 (mV D9 Y14 (xT0 D15 Y9 (xT1 D16 Y9 (mV D6 Y15 (mV D7 Y16 qE)))))))))) (sR (fD0 D18 Y2 (lD D19 Y18 (fD0 D20 Y3 (lD D21 Y20 (mV D22 Y7 (o_sub okB (fun E => (.bits64 true (.k (Y19 E)) (.k (Y21 E)) (.k (Y22 E)))) D23 (mV D17 Y23 (xT0 D24 Y17 (xT1 D25 Y17 (mV D8 Y24 (mV D7 Y25 qE))))))))))) (sQ (sR (mV D26 Y7 (nE D27 Y26 Ku0 (mV D28 Y27 (gB Y28 D29 (mV D29 Y8) (gB Y28 D30 (nE D30 Y29 Ku0) (pK D31 Y28 KT Y30 (mV D32 Y31 (gB Y32 D33 (mV D33 Y6) (gB Y32 D34 (gT D34 Y33 Ku4611686018427387904) (pK D35 Y32 KT Y34 qE)))))))))) (cD Y35 (sR (mV D4 K0 (mV D5 KF qE)) rT) sK)) (sR (mV D36 Y6 (cVi64 D37 Y36 (mV D4 Y37 (mV D5 KT qE)))) rT)))))
def e273 : Ent := .code t273 38 [(.t Y4), (.t Y5)] false
theorem k273 : EOT Tryz.prog G okB 273 e273 := eotA true Tryz.func273
def q274_0 : RunT := (sR (lT D9 Y8 Y7 qE) (sQ (cD Y9 sK eX0) (sQ (bK1 (sR (mV D10 Y8 (mV D5 Y10 qE)) (sR (mV D11 Y1 (mV D12 Y0 (mV D13 Y5 (iX1 D14 Y12 Y13 (lD D15 Y14 (o_callc okB D16 Y11 [Y15] qE)))))) (cD Y16 (sR (mV D17 Y5 (mV D4 Y17 qE)) rT) sK)))) (rG (aD D18 Y8 K1 (mV D8 Y18 qE))))))
def t274 : RunT := (sR (mV D4 K0 qE) (sQ (sR (mV D6 Y0 (lN D7 Y6 (mV D8 K0 qE))) (bK0 (lP q274_0))) (sR (mV D4 Km0 qE) rT)))
def e274 : Ent := .code t274 19 [(.t Y4)] false
theorem k274 : EOT Tryz.prog G okB 274 e274 := eotA true Tryz.func274
def t275 : RunT := (sR (mV D2 KF qE) (sR (mV D3 Y0 (nE D4 Y3 K0 (mV D2 Y4 qE))) rT))
def e275 : Ent := .code t275 5 [(.t Y2)] false
theorem k275 : EOT Tryz.prog G okB 275 e275 := eotA true Tryz.func275
def t276 : RunT := (sR (mV D5 Y0 (lN D6 Y5 (mV D4 Y6 qE))) (rG (mV D7 Y0 (mV D8 Y4 (mV D9 Y4 (cVu64 D10 Y9 (cA .d0 .d3 .d10 D11 [Y10] (mV D12 Y1 (cA .d1 .d2 .d3 D13 [Y7, K0, Y8, Y11, Y12] qE)))))))))
def e276 : Ent := .code t276 14 [] false
theorem k276 : EOT Tryz.prog G okB 276 e276 := eotA true Tryz.func276
end
end Go.Proofs.YtmmfnpbjolpfmaaGreatDoor

/- Threaded code of some functions, by program (gent.py). -/
namespace Go.Proofs.YtmmfnpbjolpfmaaGreatDoor
set_option linter.unusedSimpArgs false
set_option linter.unusedVariables false
open Go Go.AL Go.Proofs
set_option maxRecDepth 100000
noncomputable section
def q277_0 : RunT := (sQ (sR (mV D32 Y7 (mV D33 Y6 (lN D34 Y33 (lT D35 Y32 Y34 qE)))) (cD Y35 sK eX2)) (sQ (bK3 (sR (mV D38 Y1 (mV D39 Y6 (mV D40 Y7 (iX2 D41 Y39 Y40 (lA2 D42 Y41 (mV D43 Y6 (mV D44 Y7 (sB D45 Y44 K1 (iX2 D46 Y43 Y45 (lA2 D47 Y46 (o_callc okB D48 Y38 [Y42, Y47] (nT D49 Y48 qE)))))))))))) (cD Y49 (sR (mV D50 Y0 (mV D51 Y5 (mV D52 Y6 (mV D53 Y7 (iX2 D54 Y52 Y53 (lA2 D55 Y54 (iX2 D56 Y50 Y51 (sA2 Y56 Y55 qE)))))))) (rG (mV D57 Y5 (aD D58 Y57 K1 (mV D5 Y58 qE))))) sK))) (rG (mV D36 Y7 (aD D37 Y36 K1 (mV D7 Y37 qE))))))
def q277_1 : RunT := (sQ (sR (mV D12 Y5 (mV D13 Y0 (lN D14 Y13 (lT D15 Y12 Y14 qE)))) (cD Y15 sK eX0)) (sQ (bK1 (sR (mV D18 Y1 (mV D19 Y0 (mV D20 Y5 (iX2 D21 Y19 Y20 (lA2 D22 Y21 (mV D23 Y0 (mV D24 Y5 (sB D25 Y24 K1 (iX2 D26 Y23 Y25 (lA2 D27 Y26 (o_callc okB D28 Y18 [Y22, Y27] qE))))))))))) (cD Y28 (sR (mV D29 Y0 (mV D30 Y5 (o_sub okB (fun E => (.slice 2 (.k (Y29 E)) (some (.k (Y30 E))) none none)) D31 (mV D6 Y31 qE)))) (sQ (sR (mV D7 K1 qE) (bK2 (lP q277_0))) (sR (mV D59 Y0 (mV D60 Y5 (o_sub okB (fun E => (.slice 2 (.k (Y59 E)) (some (.k (Y60 E))) none none)) D61 (o_sub okB (fun E => (.clr 2 [(.int .i64 (.ofNat (nat_lit 0))), (.vec [] 0 (some 0))] (.k (Y61 E)))) sx qE)))) (sR (mV D62 Y0 (mV D63 Y5 (o_sub okB (fun E => (.slice 2 (.k (Y62 E)) none (some (.k (Y63 E))) none)) D64 (mV D4 Y64 qE)))) rT)))) sK))) (rG (mV D16 Y5 (aD D17 Y16 K1 (mV D5 Y17 qE))))))
def t277 : RunT := (sR (mV D4 KN qE) (sQ (sR (mV D8 Y0 (lN D9 Y8 (lT D10 Y9 K2 qE))) (cD Y10 (sR (mV D11 Y0 (mV D4 Y11 qE)) rT) sK)) (sQ (sR (mV D5 K1 qE) (bK0 (lP q277_1))) (sR (mV D65 Y0 (mV D4 Y65 qE)) rT))))
def e277 : Ent := .code t277 66 [(.t Y4)] false
theorem k277 : EOT Tryz.prog G okB 277 e277 := eotA true Tryz.func277
def t278 : RunT := (sR (bX D3 Y0 (bX D4 Y1 (mV D5 KF qE))) (sR (lD D6 Y2 (nK D7 Y6 (fD1 D8 Y7 (lD D9 Y8 (lA2 D10 Y3 (lA2 D11 Y4 (o_callc okB D12 Y9 [Y10, Y11] (eQ D13 Y12 K0 (mV D5 Y13 qE))))))))) rT))
def e278 : Ent := .code t278 14 [(.t Y5)] false
theorem k278 : EOT Tryz.prog G okB 278 e278 := eotA true Tryz.func278
def q279_0 : RunT := (sQ (sR (mV D18 Y9 (mV D19 Y1 (gT D20 Y18 Y19 (mV D21 Y20 (gA Y21 D22 (mV D22 Y3) (gA Y21 D23 (mV D23 Y0) (gA Y21 D24 (mV D24 Y9) (gA Y21 D25 (iX1 D25 Y23 Y24) (gA Y21 D26 (lD D26 Y25) (gA Y21 D27 (mV D27 Y0) (gA Y21 D28 (mV D28 Y9) (gA Y21 D29 (sB D29 Y28 K1) (gA Y21 D30 (iX1 D30 Y27 Y29) (gA Y21 D31 (lD D31 Y30) (gA Y21 D32 (o_callc okB D32 Y22 [Y26, Y31]) (gA Y21 D33 (lT D33 Y32 K0) (pK D34 Y21 Y33 KF qE))))))))))))))))) (cD Y34 sK eX2)) (sQ (bK3 (rG (mV D37 Y0 (mV D38 Y9 (mV D39 Y0 (mV D40 Y9 (sB D41 Y40 K1 (mV D42 Y0 (mV D43 Y9 (sB D44 Y43 K1 (iX1 D45 Y42 Y44 (lD D46 Y45 (mV D47 Y0 (mV D48 Y9 (iX1 D49 Y47 Y48 (lD D50 Y49 (iX1 D51 Y37 Y38 (sO Y51 Y46 (iX1 D52 Y39 Y41 (sO Y52 Y50 qE)))))))))))))))))))) (rG (mV D35 Y9 (sB D36 Y35 K1 (mV D9 Y36 qE))))))
def q279_1 : RunT := (sQ (sR (mV D12 Y8 (mV D13 Y2 (lT D14 Y12 Y13 qE))) (cD Y14 sK eX0)) (sQ (bK1 (sR (mV D17 Y8 (mV D9 Y17 qE)) (bK2 (lP q279_0)))) (rG (mV D15 Y8 (aD D16 Y15 K1 (mV D8 Y16 qE))))))
def t279 : RunT := (sR (mV D10 Y1 (aD D11 Y10 K1 (mV D8 Y11 qE))) (bK0 (lP q279_1)))
def e279 : Ent := .code t279 53 [] false
theorem k279 : EOT Tryz.prog G okB 279 e279 := eotA true Tryz.func279
def t282 : RunT := (sR (mV D8 K0 (mV D9 K0 qE)) (sR (mV D15 Y2 (mV D16 Y1 (sB D17 Y15 Y16 (mV D10 Y17 qE)))) (sR (bX D11 K0 qE) (sR (mV D18 Y1 (mV D19 Y10 (qU D20 Y19 K4 (mL D21 Y20 K1 (aD D22 Y18 Y21 (mV D12 Y22 qE)))))) (sR (mV D23 Y1 (mV D24 Y10 (qU D25 Y24 K4 (mL D26 Y25 K2 (aD D27 Y23 Y26 (mV D13 Y27 qE)))))) (sR (mV D28 Y1 (mV D29 Y10 (qU D30 Y29 K4 (mL D31 Y30 K3 (aD D32 Y28 Y31 (mV D14 Y32 qE)))))) (sQ (sR (mV D33 Y10 (gE D34 Y33 K8 qE)) (cD Y34 (sQ (sR (mV D35 Y10 (gE D36 Y35 K50 qE)) (cD Y36 (sR (mV D37 Y0 (mV D38 Y12 (mV D39 Y3 (cA .d1 .d2 .d5 D40 [Y37, Y38, Y11, Y39] (mV D12 Y40 qE))))) (sR (mV D41 Y0 (mV D42 Y13 (mV D43 Y3 (cA .d1 .d2 .d5 D44 [Y41, Y42, Y11, Y43] (mV D13 Y44 qE))))) (rG (mV D45 Y0 (mV D46 Y14 (mV D47 Y3 (cA .d1 .d2 .d5 D48 [Y45, Y46, Y11, Y47] (mV D14 Y48 qE)))))))) sK)) (rG (mV D49 Y0 (mV D50 Y12 (mV D51 Y13 (mV D52 Y14 (mV D53 Y3 (cA .d1 .d2 .d6 D54 [Y49, Y50, Y51, Y52, Y11, Y53] (mV D13 Y54 qE))))))))) sK)) (sR (lD D55 Y11 qE) (bK0 (sR (eQ D58 Y55 K0 (mV D57 Y58 qE)) (cD Y57 (sR (mV D59 Y13 (mV D8 Y59 (mV D9 K1 qE))) rT) (sR (eQ D61 Y55 K12 (mV D60 Y61 qE)) (cD Y60 (sR (mV D62 Y13 (mV D8 Y62 (mV D9 K2 qE))) rT) (sR (mV D56 Y13 (mV D8 Y56 (mV D9 K0 qE))) rT))))))))))))))
def e282 : Ent := .code t282 63 [(.t Y8), (.t Y9)] false
theorem k282 : EOT Tryz.prog G okB 282 e282 := eotA true Tryz.func282
def q284_0 : RunT := (sQ (sR (mV D19 Y9 (mV D20 Y2 (lT D21 Y19 Y20 (mV D22 Y21 (gA Y22 D23 (mV D23 Y3) (gA Y22 D24 (mV D24 Y0) (gA Y22 D25 (mV D25 Y9) (gA Y22 D26 (iX1 D26 Y24 Y25) (gA Y22 D27 (lD D27 Y26) (gA Y22 D28 (mV D28 Y0) (gA Y22 D29 (mV D29 Y9) (gA Y22 D30 (sB D30 Y29 K1) (gA Y22 D31 (iX1 D31 Y28 Y30) (gA Y22 D32 (lD D32 Y31) (gA Y22 D33 (o_callc okB D33 Y23 [Y27, Y32]) (gA Y22 D34 (lT D34 Y33 K0) (gA Y22 D35 (nT D35 Y34) (pK D36 Y22 Y35 KF qE)))))))))))))))))) (cD Y36 sK eX2)) (bK3 (rG (mV D37 Y9 (aD D38 Y37 K1 (mV D9 Y38 qE))))))
def q284_1 : RunT := (sQ (sR (mV D68 Y11 (gE D69 Y68 K1 qE)) (cD Y69 sK eX4)) (sQ (bK5 (sQ (sR (mV D72 Y3 (mV D73 Y0 (mV D74 Y11 (iX1 D75 Y73 Y74 (lD D76 Y75 (mV D77 Y0 (mV D78 Y11 (sB D79 Y78 K1 (iX1 D80 Y77 Y79 (lD D81 Y80 (o_callc okB D82 Y72 [Y76, Y81] (lT D83 Y82 K0 (nT D84 Y83 qE))))))))))))) (cD Y84 eX4 sK)) (rG (mV D85 Y0 (mV D86 Y11 (mV D87 Y0 (mV D88 Y11 (sB D89 Y88 K1 (mV D90 Y0 (mV D91 Y11 (sB D92 Y91 K1 (iX1 D93 Y90 Y92 (lD D94 Y93 (mV D95 Y0 (mV D96 Y11 (iX1 D97 Y95 Y96 (lD D98 Y97 (iX1 D99 Y85 Y86 (sO Y99 Y94 (iX1 D100 Y87 Y89 (sO Y100 Y98 qE))))))))))))))))))))) (rG (mV D70 Y11 (sB D71 Y70 K1 (mV D11 Y71 qE))))))
def q284_2 : RunT := (sQ (sR (mV D107 Y12 (mV D108 Y2 (lT D109 Y107 Y108 qE))) (cD Y109 sK eX6)) (sQ (bK7 (sQ (sR (mV D112 Y3 (mV D113 Y0 (mV D114 Y12 (iX1 D115 Y113 Y114 (lD D116 Y115 (mV D117 Y0 (mV D118 Y12 (sB D119 Y118 K1 (iX1 D120 Y117 Y119 (lD D121 Y120 (o_callc okB D122 Y112 [Y116, Y121] (lT D123 Y122 K0 (nT D124 Y123 qE))))))))))))) (cD Y124 eX6 sK)) (rG (mV D125 Y0 (mV D126 Y12 (mV D127 Y0 (mV D128 Y12 (sB D129 Y128 K1 (mV D130 Y0 (mV D131 Y12 (sB D132 Y131 K1 (iX1 D133 Y130 Y132 (lD D134 Y133 (mV D135 Y0 (mV D136 Y12 (iX1 D137 Y135 Y136 (lD D138 Y137 (iX1 D139 Y125 Y126 (sO Y139 Y134 (iX1 D140 Y127 Y129 (sO Y140 Y138 qE))))))))))))))))))))) (rG (mV D110 Y12 (aD D111 Y110 K1 (mV D12 Y111 qE))))))
def q284_3 : RunT := (sQ (sR (mV D15 Y10 (lT D16 Y15 K5 qE)) (cD Y16 sK eX0)) (sQ (bK1 (sQ (bK2 (lP q284_0)) (sQ (sR (mV D39 Y9 (mV D40 Y2 (eQ D41 Y39 Y40 qE))) (cD Y41 (sR (mV D8 KT qE) rT) sK)) (sQ (sR (mV D42 Y2 (mV D43 Y1 (sB D44 Y42 Y43 (lT D45 Y44 K50 qE)))) (cD Y45 (sR (mV D8 KF qE) rT) sK)) (sR (mV D46 Y0 (mV D47 Y9 (mV D48 Y0 (mV D49 Y9 (sB D50 Y49 K1 (mV D51 Y0 (mV D52 Y9 (sB D53 Y52 K1 (iX1 D54 Y51 Y53 (lD D55 Y54 (mV D56 Y0 (mV D57 Y9 (iX1 D58 Y56 Y57 (lD D59 Y58 (iX1 D60 Y46 Y47 (sO Y60 Y55 (iX1 D61 Y48 Y50 (sO Y61 Y59 qE)))))))))))))))))) (sQ (sR (mV D62 Y9 (mV D63 Y1 (sB D64 Y62 Y63 (gE D65 Y64 K2 qE)))) (cD Y65 (sR (mV D66 Y9 (sB D67 Y66 K1 (mV D11 Y67 qE))) (bK4 (lP q284_1))) sK)) (sR (mV D101 Y2 (mV D102 Y9 (sB D103 Y101 Y102 (gE D104 Y103 K2 qE)))) (cD Y104 (sR (mV D105 Y9 (aD D106 Y105 K1 (mV D12 Y106 qE))) (bK6 (lP q284_2))) sK)))))))) (rG (mV D17 Y10 (aD D18 Y17 K1 (mV D10 Y18 qE))))))
def t284 : RunT := (sR (mV D8 KF qE) (sR (mV D13 Y1 (aD D14 Y13 K1 (mV D9 Y14 qE))) (sQ (sR (mV D10 K0 qE) (bK0 (lP q284_3))) (sR (mV D8 KF qE) rT))))
def e284 : Ent := .code t284 141 [(.t Y8)] false
theorem k284 : EOT Tryz.prog G okB 284 e284 := eotA true Tryz.func284
def q286_0 : RunT := (sQ (sR (mV D32 Y12 (mV D33 Y13 (lE D34 Y32 Y33 (mV D35 Y34 (gA Y35 D36 (mV D36 Y4) (gA Y35 D37 (mV D37 Y0) (gA Y35 D38 (mV D38 Y12) (gA Y35 D39 (iX1 D39 Y37 Y38) (gA Y35 D40 (lD D40 Y39) (gA Y35 D41 (mV D41 Y0) (gA Y35 D42 (mV D42 Y1) (gA Y35 D43 (iX1 D43 Y41 Y42) (gA Y35 D44 (lD D44 Y43) (gA Y35 D45 (o_callc okB D45 Y36 [Y40, Y44]) (gA Y35 D46 (lT D46 Y45 K0) (pK D47 Y35 Y46 KF qE)))))))))))))))) (cD Y47 sK eX0)) (bK1 (rG (mV D48 Y12 (aD D49 Y48 K1 (mV D12 Y49 qE))))))
def q286_1 : RunT := (sQ (sR (mV D50 Y12 (mV D51 Y13 (lE D52 Y50 Y51 (mV D53 Y52 (gA Y53 D54 (mV D54 Y4) (gA Y53 D55 (mV D55 Y0) (gA Y53 D56 (mV D56 Y13) (gA Y53 D57 (iX1 D57 Y55 Y56) (gA Y53 D58 (lD D58 Y57) (gA Y53 D59 (mV D59 Y0) (gA Y53 D60 (mV D60 Y1) (gA Y53 D61 (iX1 D61 Y59 Y60) (gA Y53 D62 (lD D62 Y61) (gA Y53 D63 (o_callc okB D63 Y54 [Y58, Y62]) (gA Y53 D64 (lT D64 Y63 K0) (gA Y53 D65 (nT D65 Y64) (pK D66 Y53 Y65 KF qE))))))))))))))))) (cD Y66 sK eX2)) (bK3 (rG (mV D67 Y13 (sB D68 Y67 K1 (mV D13 Y68 qE))))))
def q286_2 : RunT := (sQ (sR (mV D105 Y12 (mV D106 Y13 (lE D107 Y105 Y106 (mV D108 Y107 (gA Y108 D109 (mV D109 Y4) (gA Y108 D110 (mV D110 Y0) (gA Y108 D111 (mV D111 Y12) (gA Y108 D112 (iX1 D112 Y110 Y111) (gA Y108 D113 (lD D113 Y112) (gA Y108 D114 (mV D114 Y0) (gA Y108 D115 (mV D115 Y1) (gA Y108 D116 (iX1 D116 Y114 Y115) (gA Y108 D117 (lD D117 Y116) (gA Y108 D118 (o_callc okB D118 Y109 [Y113, Y117]) (gA Y108 D119 (lT D119 Y118 K0) (pK D120 Y108 Y119 KF qE)))))))))))))))) (cD Y120 sK eX6)) (bK7 (rG (mV D121 Y12 (aD D122 Y121 K1 (mV D12 Y122 qE))))))
def q286_3 : RunT := (sQ (sR (mV D123 Y12 (mV D124 Y13 (lE D125 Y123 Y124 (mV D126 Y125 (gA Y126 D127 (mV D127 Y4) (gA Y126 D128 (mV D128 Y0) (gA Y126 D129 (mV D129 Y13) (gA Y126 D130 (iX1 D130 Y128 Y129) (gA Y126 D131 (lD D131 Y130) (gA Y126 D132 (mV D132 Y0) (gA Y126 D133 (mV D133 Y1) (gA Y126 D134 (iX1 D134 Y132 Y133) (gA Y126 D135 (lD D135 Y134) (gA Y126 D136 (o_callc okB D136 Y127 [Y131, Y135]) (gA Y126 D137 (lT D137 Y136 K0) (gA Y126 D138 (nT D138 Y137) (pK D139 Y126 Y138 KF qE))))))))))))))))) (cD Y139 sK eX8)) (bK9 (rG (mV D140 Y13 (sB D141 Y140 K1 (mV D13 Y141 qE))))))
def q286_4 : RunT := (bK5 (sQ (bK6 (lP q286_2)) (sQ (bK8 (lP q286_3)) (sQ (sR (mV D142 Y12 (mV D143 Y13 (gT D144 Y142 Y143 qE))) (cD Y144 eX4 sK)) (sR (mV D145 Y0 (mV D146 Y12 (mV D147 Y0 (mV D148 Y13 (mV D149 Y0 (mV D150 Y13 (iX1 D151 Y149 Y150 (lD D152 Y151 (mV D153 Y0 (mV D154 Y12 (iX1 D155 Y153 Y154 (lD D156 Y155 (iX1 D157 Y145 Y146 (sO Y157 Y152 (iX1 D158 Y147 Y148 (sO Y158 Y156 qE)))))))))))))))) (sR (mV D159 Y12 (aD D160 Y159 K1 (mV D12 Y160 qE))) (rG (mV D161 Y13 (sB D162 Y161 K1 (mV D13 Y162 qE))))))))))
def t286 : RunT := (sR (mV D10 K0 (mV D11 KF qE)) (sR (mV D14 Y0 (mV D15 Y1 (mV D16 Y0 (mV D17 Y3 (mV D18 Y0 (mV D19 Y3 (iX1 D20 Y18 Y19 (lD D21 Y20 (mV D22 Y0 (mV D23 Y1 (iX1 D24 Y22 Y23 (lD D25 Y24 (iX1 D26 Y14 Y15 (sO Y26 Y21 (iX1 D27 Y16 Y17 (sO Y27 Y25 qE)))))))))))))))) (sR (mV D28 Y1 (aD D29 Y28 K1 (mV D30 Y2 (sB D31 Y30 K1 (mV D12 Y29 (mV D13 Y31 qE)))))) (sQ (bK0 (lP q286_0)) (sQ (bK2 (lP q286_1)) (sQ (sR (mV D69 Y12 (mV D70 Y13 (gT D71 Y69 Y70 qE))) (cD Y71 (sR (mV D72 Y0 (mV D73 Y13 (mV D74 Y0 (mV D75 Y1 (mV D76 Y0 (mV D77 Y1 (iX1 D78 Y76 Y77 (lD D79 Y78 (mV D80 Y0 (mV D81 Y13 (iX1 D82 Y80 Y81 (lD D83 Y82 (iX1 D84 Y72 Y73 (sO Y84 Y79 (iX1 D85 Y74 Y75 (sO Y85 Y83 qE)))))))))))))))) (sR (mV D86 Y13 (mV D10 Y86 (mV D11 KT qE))) rT)) sK)) (sR (mV D87 Y0 (mV D88 Y12 (mV D89 Y0 (mV D90 Y13 (mV D91 Y0 (mV D92 Y13 (iX1 D93 Y91 Y92 (lD D94 Y93 (mV D95 Y0 (mV D96 Y12 (iX1 D97 Y95 Y96 (lD D98 Y97 (iX1 D99 Y87 Y88 (sO Y99 Y94 (iX1 D100 Y89 Y90 (sO Y100 Y98 qE)))))))))))))))) (sR (mV D101 Y12 (aD D102 Y101 K1 (mV D12 Y102 qE))) (sR (mV D103 Y13 (sB D104 Y103 K1 (mV D13 Y104 qE))) (sQ (bK4 (lP q286_4)) (sR (mV D163 Y0 (mV D164 Y13 (mV D165 Y0 (mV D166 Y1 (mV D167 Y0 (mV D168 Y1 (iX1 D169 Y167 Y168 (lD D170 Y169 (mV D171 Y0 (mV D172 Y13 (iX1 D173 Y171 Y172 (lD D174 Y173 (iX1 D175 Y163 Y164 (sO Y175 Y170 (iX1 D176 Y165 Y166 (sO Y176 Y174 qE)))))))))))))))) (sR (mV D177 Y13 (mV D10 Y177 (mV D11 KF qE))) rT))))))))))))
def e286 : Ent := .code t286 178 [(.t Y10), (.t Y11)] false
theorem k286 : EOT Tryz.prog G okB 286 e286 := eotA true Tryz.func286
def t287 : RunT := (sR (mV D4 K0 qE) (sR (mV D6 Y0 (mV D7 Y1 (qU D8 Y6 Y7 (mV D5 Y8 qE)))) (sQ (sR (mV D9 Y0 (mV D10 Y1 (rM D11 Y9 Y10 (lT D12 Y11 K0 qE)))) (cD Y12 (rG (mV D13 Y5 (sB D14 Y13 K1 (mV D5 Y14 qE)))) sK)) (sR (mV D15 Y5 (mV D4 Y15 qE)) rT))))
def e287 : Ent := .code t287 16 [(.t Y4)] false
theorem k287 : EOT Tryz.prog G okB 287 e287 := eotA true Tryz.func287
def t288 : RunT := (sR (mV D4 Ku0 (mV D5 Ku0 qE)) (sR (mV D14 Y0 (o_bin .and (b_gen .and) D15 Y14 Ku4294967295 (mV D6 Y15 qE))) (sR (mV D16 Y0 (hR D17 Y16 Ku32 (mV D7 Y17 qE))) (sR (mV D18 Y1 (o_bin .and (b_gen .and) D19 Y18 Ku4294967295 (mV D8 Y19 qE))) (sR (mV D20 Y1 (hR D21 Y20 Ku32 (mV D9 Y21 qE))) (sR (mV D22 Y6 (mV D23 Y8 (mL D24 Y22 Y23 (mV D10 Y24 qE)))) (sR (mV D25 Y7 (mV D26 Y8 (mL D27 Y25 Y26 (mV D28 Y10 (hR D29 Y28 Ku32 (aD D30 Y27 Y29 (mV D11 Y30 qE))))))) (sR (mV D31 Y11 (o_bin .and (b_gen .and) D32 Y31 Ku4294967295 (mV D12 Y32 qE))) (sR (mV D33 Y11 (hR D34 Y33 Ku32 (mV D13 Y34 qE))) (sR (mV D35 Y12 (mV D36 Y6 (mV D37 Y9 (mL D38 Y36 Y37 (aD D39 Y35 Y38 (mV D12 Y39 qE)))))) (sR (mV D40 Y7 (mV D41 Y9 (mL D42 Y40 Y41 (mV D43 Y13 (aD D44 Y42 Y43 (mV D45 Y12 (hR D46 Y45 Ku32 (aD D47 Y44 Y46 (mV D4 Y47 qE))))))))) (sR (mV D48 Y0 (mV D49 Y1 (mL D50 Y48 Y49 (mV D5 Y50 qE)))) rT))))))))))))
def e288 : Ent := .code t288 51 [(.t Y4), (.t Y5)] false
theorem k288 : EOT Tryz.prog G okB 288 e288 := eotA true Tryz.func288
def q291_0 : RunT := (bK1 (sR (mV D21 Y2 (mV D22 Y1 (sB D23 Y21 Y22 (mV D12 Y23 qE)))) (sQ (sR (mV D24 Y12 (lE D25 Y24 K12 qE)) (cD Y25 (sR (mV D26 Y0 (mV D27 Y1 (mV D28 Y2 (mV D29 Y4 (cA .d1 .d2 .d7 D30 [Y26, Y27, Y28, Y29] qE))))) rT) sK)) (sQ (sR (mV D31 Y3 (eQ D32 Y31 K0 qE)) (cD Y32 (sR (mV D33 Y0 (mV D34 Y1 (mV D35 Y2 (mV D36 Y4 (cA .d1 .d2 .d8 D37 [Y33, Y34, Y35, Y36] qE))))) rT) sK)) (sQ (sR (mV D38 Y10 (nT D39 Y38 qE)) (cD Y39 (sR (mV D40 Y0 (mV D41 Y1 (mV D42 Y2 (mV D43 Y4 (cA .d1 .d2 .d9 D44 [Y40, Y41, Y42, Y43] qE))))) (rG (mV D45 Y3 (sB D46 Y45 K1 (mV D3 Y46 qE))))) sK)) (sR (mV D48 Y0 (mV D49 Y1 (mV D50 Y2 (mV D51 Y4 (cA .d1 .d2 .d10 D52 [Y48, Y49, Y50, Y51] (mV D47 Y52 (xT0 D53 Y47 (xT1 D54 Y47 (mV D13 Y53 (mV D14 Y54 qE)))))))))) (sQ (sR (mV D55 Y14 (eQ D56 Y55 K2 qE)) (cD Y56 (sR (mV D57 Y0 (mV D58 Y1 (mV D59 Y2 (mV D60 Y4 (cA .d1 .d2 .d11 D61 [Y57, Y58, Y59, Y60] qE))))) (sR (mV D62 Y2 (sB D63 Y62 K1 (mV D64 Y13 (mV D65 Y1 (sB D66 Y64 Y65 (sB D67 Y63 Y66 (mV D13 Y67 qE))))))) (rG (mV D14 K1 qE)))) sK)) (sQ (sR (mV D68 Y10 (mV D69 Y68 (gA Y69 D70 (mV D70 Y11) (pK D71 Y69 Y70 KF (mV D72 Y71 (gA Y72 D73 (mV D73 Y14) (gA Y72 D74 (eQ D74 Y73 K1) (pK D75 Y72 Y74 KF qE)))))))) (cD Y75 (sR (mV D76 Y0 (mV D77 Y1 (mV D78 Y2 (mV D79 Y4 (cA .d1 .d2 .d12 D80 [Y76, Y77, Y78, Y79] qE))))) (cD Y80 rT sK)) sK)) (sQ (sR (mV D81 Y1 (gT D82 Y81 K0 (mV D83 Y82 (gA Y83 D84 (mV D84 Y4) (gA Y83 D85 (mV D85 Y0) (gA Y83 D86 (mV D86 Y1) (gA Y83 D87 (sB D87 Y86 K1) (gA Y83 D88 (iX2 D88 Y85 Y87) (gA Y83 D89 (lA2 D89 Y88) (gA Y83 D90 (mV D90 Y0) (gA Y83 D91 (mV D91 Y13) (gA Y83 D92 (iX2 D92 Y90 Y91) (gA Y83 D93 (lA2 D93 Y92) (gA Y83 D94 (o_callc okB D94 Y84 [Y89, Y93]) (gA Y83 D95 (lT D95 Y94 K0) (gA Y83 D96 (nT D96 Y95) (pK D97 Y83 Y96 KF qE))))))))))))))))) (cD Y97 (sR (mV D98 Y0 (mV D99 Y1 (mV D100 Y2 (mV D101 Y13 (mV D102 Y4 (cA .d1 .d2 .d13 D103 [Y98, Y99, Y100, Y101, Y102] (mV D15 Y103 qE))))))) (sR (mV D104 Y15 (mV D1 Y104 qE)) eX1)) sK)) (sR (mV D106 Y0 (mV D107 Y1 (mV D108 Y2 (mV D109 Y13 (mV D110 Y4 (cA .d1 .d2 .d14 D111 [Y106, Y107, Y108, Y109, Y110] (mV D105 Y111 (xT0 D112 Y105 (xT1 D113 Y105 (mV D16 Y112 (mV D17 Y113 qE))))))))))) (sR (mV D114 Y17 (mV D11 Y114 qE)) (sR (mV D115 Y16 (mV D116 Y1 (sB D117 Y115 Y116 (mV D118 Y2 (mV D119 Y16 (sB D120 Y118 Y119 (mV D18 Y117 (mV D19 Y120 qE)))))))) (sR (mV D121 Y12 (qU D122 Y121 K8 (mV D20 Y122 qE))) (sR (mV D123 Y18 (mV D124 Y19 (lT D125 Y123 Y124 qE))) (cD Y125 (sR (mV D126 Y18 (mV D127 Y20 (gE D128 Y126 Y127 (mV D10 Y128 qE)))) (sR (mV D129 Y0 (mV D130 Y1 (mV D131 Y16 (mV D132 Y3 (mV D133 Y4 (cA .d1 .d2 .d3 D134 [Y129, Y130, Y131, Y132, Y133] qE)))))) (rG (mV D135 Y16 (aD D136 Y135 K1 (mV D1 Y136 qE)))))) (sR (mV D137 Y19 (mV D138 Y20 (gE D139 Y137 Y138 (mV D10 Y139 qE)))) (sR (mV D140 Y0 (mV D141 Y16 (aD D142 Y141 K1 (mV D143 Y2 (mV D144 Y3 (mV D145 Y4 (cA .d1 .d2 .d3 D146 [Y140, Y142, Y143, Y144, Y145] qE))))))) (rG (mV D147 Y16 (mV D2 Y147 qE))))))))))))))))))))
def t291 : RunT := (sR (mV D10 KT qE) (sR (mV D11 KT qE) (bK0 (lP q291_0))))
def e291 : Ent := .code t291 148 [] false
theorem k291 : EOT Tryz.prog G okB 291 e291 := eotA true Tryz.func291
def t294 : RunT := (sR (mV D12 K0 qE) (sR (mV D14 Y0 (mV D15 Y1 (mV D16 Y2 (mV D17 Y4 (mV D18 Y5 (cA .d1 .d2 .d15 D19 [Y14, Y15, Y16, Y17, Y18] (mV D13 Y19 (xT0 D20 Y13 (xT1 D21 Y13 (mV D1 Y20 (mV D2 Y21 qE))))))))))) (sR (mV D23 Y0 (mV D24 Y2 (mV D25 Y3 (mV D26 Y4 (mV D27 Y5 (cA .d1 .d2 .d15 D28 [Y23, Y24, Y25, Y26, Y27] (mV D22 Y28 (xT0 D29 Y22 (xT1 D30 Y22 (mV D2 Y29 (mV D3 Y30 qE))))))))))) (sR (mV D32 Y0 (mV D33 Y1 (mV D34 Y2 (mV D35 Y4 (mV D36 Y5 (cA .d1 .d2 .d15 D37 [Y32, Y33, Y34, Y35, Y36] (mV D31 Y37 (xT0 D38 Y31 (xT1 D39 Y31 (mV D1 Y38 (mV D2 Y39 qE))))))))))) (sR (mV D40 Y2 (mV D12 Y40 qE)) rT)))))
def e294 : Ent := .code t294 41 [(.t Y12)] false
theorem k294 : EOT Tryz.prog G okB 294 e294 := eotA true Tryz.func294
def q295_0 : RunT := (sQ (sR (mV D18 Y9 (mV D19 Y1 (gT D20 Y18 Y19 (mV D21 Y20 (gA Y21 D22 (mV D22 Y3) (gA Y21 D23 (mV D23 Y0) (gA Y21 D24 (mV D24 Y9) (gA Y21 D25 (iX2 D25 Y23 Y24) (gA Y21 D26 (lA2 D26 Y25) (gA Y21 D27 (mV D27 Y0) (gA Y21 D28 (mV D28 Y9) (gA Y21 D29 (sB D29 Y28 K1) (gA Y21 D30 (iX2 D30 Y27 Y29) (gA Y21 D31 (lA2 D31 Y30) (gA Y21 D32 (o_callc okB D32 Y22 [Y26, Y31]) (gA Y21 D33 (lT D33 Y32 K0) (pK D34 Y21 Y33 KF qE))))))))))))))))) (cD Y34 sK eX2)) (sQ (bK3 (rG (mV D37 Y0 (mV D38 Y9 (mV D39 Y0 (mV D40 Y9 (sB D41 Y40 K1 (mV D42 Y0 (mV D43 Y9 (sB D44 Y43 K1 (iX2 D45 Y42 Y44 (lA2 D46 Y45 (mV D47 Y0 (mV D48 Y9 (iX2 D49 Y47 Y48 (lA2 D50 Y49 (iX2 D51 Y37 Y38 (sA2 Y51 Y46 (iX2 D52 Y39 Y41 (sA2 Y52 Y50 qE)))))))))))))))))))) (rG (mV D35 Y9 (sB D36 Y35 K1 (mV D9 Y36 qE))))))
def q295_1 : RunT := (sQ (sR (mV D12 Y8 (mV D13 Y2 (lT D14 Y12 Y13 qE))) (cD Y14 sK eX0)) (sQ (bK1 (sR (mV D17 Y8 (mV D9 Y17 qE)) (bK2 (lP q295_0)))) (rG (mV D15 Y8 (aD D16 Y15 K1 (mV D8 Y16 qE))))))
def t295 : RunT := (sR (mV D10 Y1 (aD D11 Y10 K1 (mV D8 Y11 qE))) (bK0 (lP q295_1)))
def e295 : Ent := .code t295 53 [] false
theorem k295 : EOT Tryz.prog G okB 295 e295 := eotA true Tryz.func295
def t303 : RunT := (sR (mV D10 K0 (mV D11 K0 qE)) (sQ (sR (mV D12 Y4 (mV D13 Y0 (mV D14 Y2 (iX1 D15 Y13 Y14 (lD D16 Y15 (mV D17 Y0 (mV D18 Y1 (iX1 D19 Y17 Y18 (lD D20 Y19 (o_callc okB D21 Y12 [Y16, Y20] (lT D22 Y21 K0 qE))))))))))) (cD Y22 (sR (mV D23 Y3 (nK D24 Y23 (lD D25 Y24 (aD D26 Y25 K1 (nK D27 Y23 (sO Y27 Y26 qE)))))) (sR (mV D28 Y2 (mV D29 Y1 (mV D10 Y28 (mV D11 Y29 qE)))) rT)) sK)) (sR (mV D30 Y1 (mV D31 Y2 (mV D10 Y30 (mV D11 Y31 qE)))) rT)))
def e303 : Ent := .code t303 32 [(.t Y10), (.t Y11)] false
theorem k303 : EOT Tryz.prog G okB 303 e303 := eotA true Tryz.func303
def ra61478 : RunT := (rG (mV D11 Y38 qE))
theorem ra61478_ok : ra61478 = tr okB true ca61478 := by kernel_rfl
def rb61478 : RunT := (bK1 (sR (bX D12 (gk (.agg [(.int .i64 (.ofNat (nat_lit 0))), (.vec [] 0 (some 0))])) qE) (sQ (sR (mV D40 Y11 (eQ D41 Y40 K2 qE)) (cD Y41 (rG (lD D43 Y1 (cA .d0 .d1 .d11 D44 [Y43] (mV D42 Y44 (xT0 D45 Y42 (xT1 D46 Y42 (sA2 Y12 Y45 qE))))))) (rG (lD D48 Y1 (mV D49 Y11 (cA .d0 .d1 .d12 D50 [Y48, Y49] (mV D47 Y50 (xT0 D51 Y47 (xT1 D52 Y47 (sA2 Y12 Y51 qE)))))))))) (rG (fD2 D53 Y10 (lD D54 Y53 (lA2 D55 Y12 (o_sub okB (fun E => (.bsl 1 2 [(.int .i64 (.ofNat (nat_lit 0))), (.vec [] 0 (some 0))] [(0, (2, (.k (Y55 E))))])) D56 (aP okB 2 32 Y54 Y56 D57 (fD2 D58 Y10 (sO Y58 Y57 qE)))))))))))
theorem rb61478_ok : rb61478 = tr okB true cb61478 := by kernel_rfl
def rd61478 : Nat → List AV → List AV → FR → Heap → O := rndK (nat_lit 61478) [D1, D10] [D38, D39] ra61478 rb61478
def ra61483 : RunT := (sR (mV D11 Y43 qE) (rG (mV D12 Y44 qE)))
theorem ra61483_ok : ra61483 = tr okB true ca61483 := by kernel_rfl
def rb61483 : RunT := (bK2 (sQ (sR (mV D45 Y12 (lD D46 Y9 (gT D47 Y45 Y46 qE))) (cD Y47 (sR (sO Y6 KN (sO Y7 K9 qE)) rT) sK)) (sR (lD D48 Y9 (mV D49 Y12 (sB D50 Y48 Y49 (sO Y9 Y50 qE)))) (rG (lD D51 Y8 (mV D52 Y11 (sB D53 Y52 K1 (iX1 D54 Y51 Y53 (lD D55 Y54 (mV D56 Y12 (aD D57 Y55 Y56 (iX1 D58 Y51 Y53 (sO Y58 Y57 qE)))))))))))))
theorem rb61483_ok : rb61483 = tr okB true cb61483 := by kernel_rfl
def rd61483 : Nat → List AV → List AV → FR → Heap → O := rndK (nat_lit 61483) [D6, D7, D8, D9] [D43, D44] ra61483 rb61483
def rndT (k L : Nat) (sn us : List AV) (c : FR) (H : Heap) : O := (bsel (Nat.beq k (nat_lit 61478)) (rd61478 L sn us c H) (bsel (Nat.beq k (nat_lit 61483)) (rd61483 L sn us c H) none))
theorem yd_ok : EOT Tryz.prog G okB 4095 (.own (yldK rndT)) := by
  refine yld_sound (fun k L p sn us c H v H1 hc hL h => ?_)
  unfold rndT at h
  rcases bsel_inv h with ⟨e, h⟩ | h
  · have e := Nat.eq_of_beq_eq_true e
    subst e
    exact rnd_sound okB_ok mixed la61478 rfl rfl ra61478_ok rb61478_ok hc hL h
  rcases bsel_inv h with ⟨e, h⟩ | h
  · have e := Nat.eq_of_beq_eq_true e
    subst e
    exact rnd_sound okB_ok mixed la61483 rfl rfl ra61483_ok rb61483_ok hc hL h
  simp at h
end
end Go.Proofs.YtmmfnpbjolpfmaaGreatDoor

/- The table of the fast evaluator, by program (gent.py). -/
namespace Go.Proofs.YtmmfnpbjolpfmaaGreatDoor
set_option linter.unusedSimpArgs false
set_option linter.unusedVariables false
open Go Go.AL Go.Proofs
set_option maxRecDepth 100000
def nR : N16 Ent := ⟨.no, .no, .no, .no, .no, .no, .no, .no, .no, .no, .no, .no, .no, .no, .no, .no⟩
theorem nR_ok (g : Nat → Nat) : nR.All fun k e => EOT Tryz.prog G okB (g k) e := ⟨trivial, trivial, trivial, trivial, trivial, trivial, trivial, trivial, trivial, trivial, trivial, trivial, trivial, trivial, trivial, trivial⟩
def nRR : N16 (N16 Ent) := ⟨nR, nR, nR, nR, nR, nR, nR, nR, nR, nR, nR, nR, nR, nR, nR, nR⟩
theorem nRR_ok (g : Nat → Nat → Nat) : nRR.All fun j r => r.All fun k e => EOT Tryz.prog G okB (g j k) e := ⟨nR_ok _, nR_ok _, nR_ok _, nR_ok _, nR_ok _, nR_ok _, nR_ok _, nR_ok _, nR_ok _, nR_ok _, nR_ok _, nR_ok _, nR_ok _, nR_ok _, nR_ok _, nR_ok _⟩
noncomputable def w0 (x10 x13 x22 x31 x33 x36 x39 x44 x92 x93 x211 x213 : Ent) : N16 Ent := ⟨.no, .no, .no, .no, e4, e5, e6, e7, .no, e9, x10, e11, e12, x13, e14, e15⟩
theorem w0_ok {x10 x13 x22 x31 x33 x36 x39 x44 x92 x93 x211 x213 : Ent} (h10 : EOT Tryz.prog G okB 10 x10) (h13 : EOT Tryz.prog G okB 13 x13) (h22 : EOT Tryz.prog G okB 22 x22) (h31 : EOT Tryz.prog G okB 31 x31) (h33 : EOT Tryz.prog G okB 33 x33) (h36 : EOT Tryz.prog G okB 36 x36) (h39 : EOT Tryz.prog G okB 39 x39) (h44 : EOT Tryz.prog G okB 44 x44) (h92 : EOT Tryz.prog G okB 92 x92) (h93 : EOT Tryz.prog G okB 93 x93) (h211 : EOT Tryz.prog G okB 211 x211) (h213 : EOT Tryz.prog G okB 213 x213) : (w0 x10 x13 x22 x31 x33 x36 x39 x44 x92 x93 x211 x213).All fun k e => EOT Tryz.prog G okB (256 * 0 + 16 * 0 + k) e := ⟨trivial, trivial, trivial, trivial, k4, k5, k6, k7, trivial, k9, h10, k11, k12, h13, k14, k15⟩
noncomputable def w16 (x10 x13 x22 x31 x33 x36 x39 x44 x92 x93 x211 x213 : Ent) : N16 Ent := ⟨e16, e17, e18, e19, e20, e21, x22, e23, e24, e25, e26, e27, e28, e29, e30, x31⟩
theorem w16_ok {x10 x13 x22 x31 x33 x36 x39 x44 x92 x93 x211 x213 : Ent} (h10 : EOT Tryz.prog G okB 10 x10) (h13 : EOT Tryz.prog G okB 13 x13) (h22 : EOT Tryz.prog G okB 22 x22) (h31 : EOT Tryz.prog G okB 31 x31) (h33 : EOT Tryz.prog G okB 33 x33) (h36 : EOT Tryz.prog G okB 36 x36) (h39 : EOT Tryz.prog G okB 39 x39) (h44 : EOT Tryz.prog G okB 44 x44) (h92 : EOT Tryz.prog G okB 92 x92) (h93 : EOT Tryz.prog G okB 93 x93) (h211 : EOT Tryz.prog G okB 211 x211) (h213 : EOT Tryz.prog G okB 213 x213) : (w16 x10 x13 x22 x31 x33 x36 x39 x44 x92 x93 x211 x213).All fun k e => EOT Tryz.prog G okB (256 * 0 + 16 * 1 + k) e := ⟨k16, k17, k18, k19, k20, k21, h22, k23, k24, k25, k26, k27, k28, k29, k30, h31⟩
noncomputable def w32 (x10 x13 x22 x31 x33 x36 x39 x44 x92 x93 x211 x213 : Ent) : N16 Ent := ⟨e32, x33, e34, e35, x36, e37, e38, x39, e40, e41, e42, e43, x44, e45, e46, e47⟩
theorem w32_ok {x10 x13 x22 x31 x33 x36 x39 x44 x92 x93 x211 x213 : Ent} (h10 : EOT Tryz.prog G okB 10 x10) (h13 : EOT Tryz.prog G okB 13 x13) (h22 : EOT Tryz.prog G okB 22 x22) (h31 : EOT Tryz.prog G okB 31 x31) (h33 : EOT Tryz.prog G okB 33 x33) (h36 : EOT Tryz.prog G okB 36 x36) (h39 : EOT Tryz.prog G okB 39 x39) (h44 : EOT Tryz.prog G okB 44 x44) (h92 : EOT Tryz.prog G okB 92 x92) (h93 : EOT Tryz.prog G okB 93 x93) (h211 : EOT Tryz.prog G okB 211 x211) (h213 : EOT Tryz.prog G okB 213 x213) : (w32 x10 x13 x22 x31 x33 x36 x39 x44 x92 x93 x211 x213).All fun k e => EOT Tryz.prog G okB (256 * 0 + 16 * 2 + k) e := ⟨k32, h33, k34, k35, h36, k37, k38, h39, k40, k41, k42, k43, h44, k45, k46, k47⟩
noncomputable def w48 : N16 Ent := ⟨e48, e49, e50, e51, e52, e53, e54, e55, e56, e57, e58, e59, e60, e61, e62, e63⟩
theorem w48_ok : w48.All fun k e => EOT Tryz.prog G okB (256 * 0 + 16 * 3 + k) e := ⟨k48, k49, k50, k51, k52, k53, k54, k55, k56, k57, k58, k59, k60, k61, k62, k63⟩
noncomputable def w64 : N16 Ent := ⟨e64, e65, e66, e67, e68, e69, e70, e71, (orE gTrim e72), (orE gWord e73), e74, e75, e76, e77, e78, e79⟩
theorem w64_ok : w64.All fun k e => EOT Tryz.prog G okB (256 * 0 + 16 * 4 + k) e := ⟨k64, k65, k66, k67, k68, k69, k70, k71, (orE_ok (by kernel_rfl) okB_ok mixed gTrim_ok k72), (orE_ok (by kernel_rfl) okB_ok mixed gWord_ok k73), k74, k75, k76, k77, k78, k79⟩
noncomputable def w80 (x10 x13 x22 x31 x33 x36 x39 x44 x92 x93 x211 x213 : Ent) : N16 Ent := ⟨e80, e81, e82, e83, e84, e85, e86, e87, e88, e89, e90, e91, x92, x93, e94, e95⟩
theorem w80_ok {x10 x13 x22 x31 x33 x36 x39 x44 x92 x93 x211 x213 : Ent} (h10 : EOT Tryz.prog G okB 10 x10) (h13 : EOT Tryz.prog G okB 13 x13) (h22 : EOT Tryz.prog G okB 22 x22) (h31 : EOT Tryz.prog G okB 31 x31) (h33 : EOT Tryz.prog G okB 33 x33) (h36 : EOT Tryz.prog G okB 36 x36) (h39 : EOT Tryz.prog G okB 39 x39) (h44 : EOT Tryz.prog G okB 44 x44) (h92 : EOT Tryz.prog G okB 92 x92) (h93 : EOT Tryz.prog G okB 93 x93) (h211 : EOT Tryz.prog G okB 211 x211) (h213 : EOT Tryz.prog G okB 213 x213) : (w80 x10 x13 x22 x31 x33 x36 x39 x44 x92 x93 x211 x213).All fun k e => EOT Tryz.prog G okB (256 * 0 + 16 * 5 + k) e := ⟨k80, k81, k82, k83, k84, k85, k86, k87, k88, k89, k90, k91, h92, h93, k94, k95⟩
noncomputable def w96 : N16 Ent := ⟨e96, e97, e98, e99, e100, e101, e102, e103, .no, .no, .no, .no, .no, .no, .no, .no⟩
theorem w96_ok : w96.All fun k e => EOT Tryz.prog G okB (256 * 0 + 16 * 6 + k) e := ⟨k96, k97, k98, k99, k100, k101, k102, k103, trivial, trivial, trivial, trivial, trivial, trivial, trivial, trivial⟩
noncomputable def w112 : N16 Ent := ⟨e112, e113, e114, e115, e116, e117, (orE gBuild e118), (orE gFromWord e119), e120, e121, e122, e123, e124, e125, e126, e127⟩
theorem w112_ok : w112.All fun k e => EOT Tryz.prog G okB (256 * 0 + 16 * 7 + k) e := ⟨k112, k113, k114, k115, k116, k117, (orE_ok (by kernel_rfl) okB_ok mixed gBuild_ok k118), (orE_ok (by kernel_rfl) okB_ok mixed gFromWord_ok k119), k120, k121, k122, k123, k124, k125, k126, k127⟩
noncomputable def w128 : N16 Ent := ⟨e128, e129, e130, e131, e132, e133, e134, e135, e136, e137, e138, e139, e140, e141, e142, e143⟩
theorem w128_ok : w128.All fun k e => EOT Tryz.prog G okB (256 * 0 + 16 * 8 + k) e := ⟨k128, k129, k130, k131, k132, k133, k134, k135, k136, k137, k138, k139, k140, k141, k142, k143⟩
noncomputable def w144 : N16 Ent := ⟨e144, e145, e146, .no, e148, e149, e150, e151, e152, e153, e154, e155, e156, e157, e158, e159⟩
theorem w144_ok : w144.All fun k e => EOT Tryz.prog G okB (256 * 0 + 16 * 9 + k) e := ⟨k144, k145, k146, trivial, k148, k149, k150, k151, k152, k153, k154, k155, k156, k157, k158, k159⟩
noncomputable def w160 : N16 Ent := ⟨e160, e161, e162, e163, e164, e165, e166, e167, e168, .no, .no, .no, .no, .no, e174, e175⟩
theorem w160_ok : w160.All fun k e => EOT Tryz.prog G okB (256 * 0 + 16 * 10 + k) e := ⟨k160, k161, k162, k163, k164, k165, k166, k167, k168, trivial, trivial, trivial, trivial, trivial, k174, k175⟩
noncomputable def w176 : N16 Ent := ⟨e176, e177, e178, (.known g179), e180, e181, e182, e183, e184, e185, e186, e187, e188, e189, e190, e191⟩
theorem w176_ok : w176.All fun k e => EOT Tryz.prog G okB (256 * 0 + 16 * 11 + k) e := ⟨k176, k177, k178, g179_ok, k180, k181, k182, k183, k184, k185, k186, k187, k188, k189, k190, k191⟩
noncomputable def w192 : N16 Ent := ⟨e192, e193, e194, e195, e196, e197, e198, e199, e200, e201, e202, e203, e204, e205, e206, .no⟩
theorem w192_ok : w192.All fun k e => EOT Tryz.prog G okB (256 * 0 + 16 * 12 + k) e := ⟨k192, k193, k194, k195, k196, k197, k198, k199, k200, k201, k202, k203, k204, k205, k206, trivial⟩
noncomputable def w208 (x10 x13 x22 x31 x33 x36 x39 x44 x92 x93 x211 x213 : Ent) : N16 Ent := ⟨.no, e209, e210, x211, .no, x213, e214, e215, e216, e217, e218, e219, e220, e221, .no, .no⟩
theorem w208_ok {x10 x13 x22 x31 x33 x36 x39 x44 x92 x93 x211 x213 : Ent} (h10 : EOT Tryz.prog G okB 10 x10) (h13 : EOT Tryz.prog G okB 13 x13) (h22 : EOT Tryz.prog G okB 22 x22) (h31 : EOT Tryz.prog G okB 31 x31) (h33 : EOT Tryz.prog G okB 33 x33) (h36 : EOT Tryz.prog G okB 36 x36) (h39 : EOT Tryz.prog G okB 39 x39) (h44 : EOT Tryz.prog G okB 44 x44) (h92 : EOT Tryz.prog G okB 92 x92) (h93 : EOT Tryz.prog G okB 93 x93) (h211 : EOT Tryz.prog G okB 211 x211) (h213 : EOT Tryz.prog G okB 213 x213) : (w208 x10 x13 x22 x31 x33 x36 x39 x44 x92 x93 x211 x213).All fun k e => EOT Tryz.prog G okB (256 * 0 + 16 * 13 + k) e := ⟨trivial, k209, k210, h211, trivial, h213, k214, k215, k216, k217, k218, k219, k220, k221, trivial, trivial⟩
noncomputable def w224 : N16 Ent := ⟨.no, .no, .no, .no, e228, e229, e230, e231, e232, e233, e234, e235, e236, e237, e238, e239⟩
theorem w224_ok : w224.All fun k e => EOT Tryz.prog G okB (256 * 0 + 16 * 14 + k) e := ⟨trivial, trivial, trivial, trivial, k228, k229, k230, k231, k232, k233, k234, k235, k236, k237, k238, k239⟩
noncomputable def w240 : N16 Ent := ⟨e240, e241, e242, e243, e244, e245, e246, e247, e248, e249, e250, e251, .no, e253, e254, e255⟩
theorem w240_ok : w240.All fun k e => EOT Tryz.prog G okB (256 * 0 + 16 * 15 + k) e := ⟨k240, k241, k242, k243, k244, k245, k246, k247, k248, k249, k250, k251, trivial, k253, k254, k255⟩
noncomputable def v0 (x10 x13 x22 x31 x33 x36 x39 x44 x92 x93 x211 x213 : Ent) : N16 (N16 Ent) := ⟨w0 x10 x13 x22 x31 x33 x36 x39 x44 x92 x93 x211 x213, w16 x10 x13 x22 x31 x33 x36 x39 x44 x92 x93 x211 x213, w32 x10 x13 x22 x31 x33 x36 x39 x44 x92 x93 x211 x213, w48, w64, w80 x10 x13 x22 x31 x33 x36 x39 x44 x92 x93 x211 x213, w96, w112, w128, w144, w160, w176, w192, w208 x10 x13 x22 x31 x33 x36 x39 x44 x92 x93 x211 x213, w224, w240⟩
theorem v0_ok {x10 x13 x22 x31 x33 x36 x39 x44 x92 x93 x211 x213 : Ent} (h10 : EOT Tryz.prog G okB 10 x10) (h13 : EOT Tryz.prog G okB 13 x13) (h22 : EOT Tryz.prog G okB 22 x22) (h31 : EOT Tryz.prog G okB 31 x31) (h33 : EOT Tryz.prog G okB 33 x33) (h36 : EOT Tryz.prog G okB 36 x36) (h39 : EOT Tryz.prog G okB 39 x39) (h44 : EOT Tryz.prog G okB 44 x44) (h92 : EOT Tryz.prog G okB 92 x92) (h93 : EOT Tryz.prog G okB 93 x93) (h211 : EOT Tryz.prog G okB 211 x211) (h213 : EOT Tryz.prog G okB 213 x213) : (v0 x10 x13 x22 x31 x33 x36 x39 x44 x92 x93 x211 x213).All fun j r => r.All fun k e => EOT Tryz.prog G okB (256 * 0 + 16 * j + k) e := ⟨w0_ok h10 h13 h22 h31 h33 h36 h39 h44 h92 h93 h211 h213, w16_ok h10 h13 h22 h31 h33 h36 h39 h44 h92 h93 h211 h213, w32_ok h10 h13 h22 h31 h33 h36 h39 h44 h92 h93 h211 h213, w48_ok, w64_ok, w80_ok h10 h13 h22 h31 h33 h36 h39 h44 h92 h93 h211 h213, w96_ok, w112_ok, w128_ok, w144_ok, w160_ok, w176_ok, w192_ok, w208_ok h10 h13 h22 h31 h33 h36 h39 h44 h92 h93 h211 h213, w224_ok, w240_ok⟩
noncomputable def w256 : N16 Ent := ⟨e256, e257, e258, e259, e260, .no, e262, e263, e264, e265, e266, e267, e268, e269, e270, e271⟩
theorem w256_ok : w256.All fun k e => EOT Tryz.prog G okB (256 * 1 + 16 * 0 + k) e := ⟨k256, k257, k258, k259, k260, trivial, k262, k263, k264, k265, k266, k267, k268, k269, k270, k271⟩
noncomputable def w272 : N16 Ent := ⟨e272, e273, e274, e275, e276, e277, e278, e279, .no, .no, e282, .no, e284, .no, e286, e287⟩
theorem w272_ok : w272.All fun k e => EOT Tryz.prog G okB (256 * 1 + 16 * 1 + k) e := ⟨k272, k273, k274, k275, k276, k277, k278, k279, trivial, trivial, k282, trivial, k284, trivial, k286, k287⟩
noncomputable def w288 : N16 Ent := ⟨e288, .no, .no, e291, .no, .no, e294, e295, .no, .no, .no, .no, .no, .no, .no, e303⟩
theorem w288_ok : w288.All fun k e => EOT Tryz.prog G okB (256 * 1 + 16 * 2 + k) e := ⟨k288, trivial, trivial, k291, trivial, trivial, k294, k295, trivial, trivial, trivial, trivial, trivial, trivial, trivial, k303⟩
noncomputable def v1 : N16 (N16 Ent) := ⟨w256, w272, w288, nR, nR, nR, nR, nR, nR, nR, nR, nR, nR, nR, nR, nR⟩
theorem v1_ok : v1.All fun j r => r.All fun k e => EOT Tryz.prog G okB (256 * 1 + 16 * j + k) e := ⟨w256_ok, w272_ok, w288_ok, nR_ok _, nR_ok _, nR_ok _, nR_ok _, nR_ok _, nR_ok _, nR_ok _, nR_ok _, nR_ok _, nR_ok _, nR_ok _, nR_ok _, nR_ok _⟩
noncomputable def w4080 : N16 Ent := ⟨.no, .no, .no, .no, .no, .no, .no, .no, .no, .no, .no, .no, .no, .no, .no, (.own (yldK rndT))⟩
theorem w4080_ok : w4080.All fun k e => EOT Tryz.prog G okB (256 * 15 + 16 * 15 + k) e := ⟨trivial, trivial, trivial, trivial, trivial, trivial, trivial, trivial, trivial, trivial, trivial, trivial, trivial, trivial, trivial, yd_ok⟩
noncomputable def v15 : N16 (N16 Ent) := ⟨nR, nR, nR, nR, nR, nR, nR, nR, nR, nR, nR, nR, nR, nR, nR, w4080⟩
theorem v15_ok : v15.All fun j r => r.All fun k e => EOT Tryz.prog G okB (256 * 15 + 16 * j + k) e := ⟨nR_ok _, nR_ok _, nR_ok _, nR_ok _, nR_ok _, nR_ok _, nR_ok _, nR_ok _, nR_ok _, nR_ok _, nR_ok _, nR_ok _, nR_ok _, nR_ok _, nR_ok _, w4080_ok⟩
noncomputable def TM (x10 x13 x22 x31 x33 x36 x39 x44 x92 x93 x211 x213 : Ent) : Tab := ⟨v0 x10 x13 x22 x31 x33 x36 x39 x44 x92 x93 x211 x213, v1, nRR, nRR, nRR, nRR, nRR, nRR, nRR, nRR, nRR, nRR, nRR, nRR, nRR, v15⟩
theorem TM_ok {x10 x13 x22 x31 x33 x36 x39 x44 x92 x93 x211 x213 : Ent} (h10 : EOT Tryz.prog G okB 10 x10) (h13 : EOT Tryz.prog G okB 13 x13) (h22 : EOT Tryz.prog G okB 22 x22) (h31 : EOT Tryz.prog G okB 31 x31) (h33 : EOT Tryz.prog G okB 33 x33) (h36 : EOT Tryz.prog G okB 36 x36) (h39 : EOT Tryz.prog G okB 39 x39) (h44 : EOT Tryz.prog G okB 44 x44) (h92 : EOT Tryz.prog G okB 92 x92) (h93 : EOT Tryz.prog G okB 93 x93) (h211 : EOT Tryz.prog G okB 211 x211) (h213 : EOT Tryz.prog G okB 213 x213) : TOK Tryz.prog G okB (TM x10 x13 x22 x31 x33 x36 x39 x44 x92 x93 x211 x213) := ⟨v0_ok h10 h13 h22 h31 h33 h36 h39 h44 h92 h93 h211 h213, v1_ok, nRR_ok _, nRR_ok _, nRR_ok _, nRR_ok _, nRR_ok _, nRR_ok _, nRR_ok _, nRR_ok _, nRR_ok _, nRR_ok _, nRR_ok _, nRR_ok _, nRR_ok _, v15_ok⟩
theorem runM {x10 x13 x22 x31 x33 x36 x39 x44 x92 x93 x211 x213 : Ent} (h10 : EOT Tryz.prog G okB 10 x10) (h13 : EOT Tryz.prog G okB 13 x13) (h22 : EOT Tryz.prog G okB 22 x22) (h31 : EOT Tryz.prog G okB 31 x31) (h33 : EOT Tryz.prog G okB 33 x33) (h36 : EOT Tryz.prog G okB 36 x36) (h39 : EOT Tryz.prog G okB 39 x39) (h44 : EOT Tryz.prog G okB 44 x44) (h92 : EOT Tryz.prog G okB 92 x92) (h93 : EOT Tryz.prog G okB 93 x93) (h211 : EOT Tryz.prog G okB 211 x211) (h213 : EOT Tryz.prog G okB 213 x213) {n f : Nat} {args : List AV} {H : Heap} {v : AV} {H' : Heap} (h : frun (exT (TM x10 x13 x22 x31 x33 x36 x39 x44 x92 x93 x211 x213) n) f args H = some (v, H')) : Ret Tryz.prog G f args H v H' := exT_sound (by kernel_rfl) okB_ok mixed (TM_ok h10 h13 h22 h31 h33 h36 h39 h44 h92 h93 h211 h213) n f args H v H' h
theorem qM {x10 x13 x22 x31 x33 x36 x39 x44 x92 x93 x211 x213 : Ent} (h10 : EOT Tryz.prog G okB 10 x10) (h13 : EOT Tryz.prog G okB 13 x13) (h22 : EOT Tryz.prog G okB 22 x22) (h31 : EOT Tryz.prog G okB 31 x31) (h33 : EOT Tryz.prog G okB 33 x33) (h36 : EOT Tryz.prog G okB 36 x36) (h39 : EOT Tryz.prog G okB 39 x39) (h44 : EOT Tryz.prog G okB 44 x44) (h92 : EOT Tryz.prog G okB 92 x92) (h93 : EOT Tryz.prog G okB 93 x93) (h211 : EOT Tryz.prog G okB 211 x211) (h213 : EOT Tryz.prog G okB 213 x213) {f : Nat} {l : List (List AV × AV)} (h : chk (TM x10 x13 x22 x31 x33 x36 x39 x44 x92 x93 x211 x213) f l = true) : MemoOK Tryz.prog G f l := chk_ok (fun _ _ => runM h10 h13 h22 h31 h33 h36 h39 h44 h92 h93 h211 h213) l h
theorem q1 {f : Nat} {l : List (List AV × AV)} (h : chk (TM e10 e13 e22 e31 e33 e36 e39 e44 e92 e93 e211 e213) f l = true) : MemoOK Tryz.prog G f l := qM k10 k13 k22 k31 k33 k36 k39 k44 k92 k93 k211 k213 h
end Go.Proofs.YtmmfnpbjolpfmaaGreatDoor

/- Data of ConstructGenera: how matrices, genera and results are written (gengen.py) -/
namespace Go.Proofs.YtmmfnpbjolpfmaaGreatDoor.AD
set_option linter.unusedSimpArgs false
set_option linter.unusedVariables false
open Go Go.AL Go.Proofs
set_option maxRecDepth 1000000
def zz (n : Nat) : Int := match Nat.beq (n % 2) 0 with
  | true => .ofNat (n / 2)
  | false => .negSucc (n / 2)
def I (n : Nat) : AV := .int .i64 (zz n)
def J (n : Nat) : AV := .int .i64 (.ofNat n)
def V (c : Option Nat) (l : List Nat) : AV := .vec (l.map I) l.length c
def W2 (c d : Option Nat) (l : List (List Nat)) : AV := .vec (l.map (V c)) l.length d
def M1 (a : Nat) : AV := W2 (some 1) (some 1) [[a]]
def M2 (a t b : Nat) : AV := W2 (some 2) (some 2) [[a, t], [t, b]]
def M3 (a t s b r c : Nat) : AV := W2 (some 3) (some 3) [[a, t, s], [t, b, r], [s, r, c]]
abbrev LR := List (List AV × AV)
abbrev LG := List (Nat × List Nat)
def C (n : Nat) : List AV := [J (n / 10000), J (n / 1000 % 10), .int .i64 (match Nat.beq (n / 100 % 10) 1 with | true => .ofNat 1 | false => .negSucc 0), .bool (Nat.beq (n / 10 % 10) 1), J (n % 10)]
def cc (l : List Nat) : List AV := l.flatMap C
def lo (l : LG) : AV := .vec (l.flatMap fun x => [J x.1, .vec (cc x.2) x.2.length none]) l.length none
def rT (h : AV) : List AV × AV := ([h], .bool true)
def rF (h : AV) : List AV × AV := ([h], .bool false)
def rI (h : AV) (n : Nat) : List AV × AV := ([h], I n)
def rR (h k : AV) : List AV × AV := ([h], .tup [k, .bool true])
def r9 (h : AV) (b u : Nat) (l : List (List Nat)) (s : Nat) : List AV × AV := ([h, I b, I u], .tup [W2 none (some l.length) l, I s, I 0])
def r9z (h : AV) (b u s : Nat) : List AV × AV := ([h, I b, I u], .tup [.vec [] 0 (some 0), I s, I 0])
def rN (h k : AV) (u : Nat) : List AV × AV := ([h, k, I u], .tup [.vec [] 0 (some 0), .bool false, I 0])
def rY (h k : AV) (u : Nat) (l : List (List Nat)) : List AV × AV := ([h, k, I u], .tup [W2 none (some l.length) l, .bool true, I 0])
def r4 (n d : Nat) (l : List AV) : List AV × AV := ([J n, J d], .tup [.vec l l.length none, J 0])
def r5 (n d : Nat) (l : List LG) : List AV × AV := ([J n, J d], .tup [.vec (l.flatMap fun g => [J n, J d, lo g]) l.length none, J 0])
def r7 (h : AV) (n d : Nat) (g : LG) : List AV × AV := ([h], .tup [.agg [J n, J d, lo g], J 0])
def ar (l : List Nat) : List AV := [.agg [J 2, .sl 0 0 l.length 5 none]]
def ky (l : List Nat) : Nat := l.foldl (fun n x => n * 100000 + x) 0
def rc (l : List (List Nat × Nat)) : LR1 := l.map fun x => (ky x.1, ar x.1, cc x.1, .bool (Nat.beq x.2 1))
def rt1 (l : List Nat) : AV := .vec (l.map J) l.length (match Nat.beq l.length 1 with | true => some 1 | false => none)
def rt (l : List (List Nat × List (List Nat))) : LR1 := l.map fun x => (ky x.1, ar x.1, cc x.1, .tup [.vec (x.2.map rt1) x.2.length none, .bool true])
def bk (l : List Nat) : Option (List AV) := some (cc l)
def bl (l : List (Nat × Nat)) : Option (List AV) := some (l.flatMap fun x => [J 2, .sl x.1 0 x.2 5 none])
abbrev MO (f : Nat) (l : LR) : Prop := MemoOK Tryz.prog G f l
abbrev M1O (f : Nat) (l : LR1) : Prop := Memo1 Tryz.prog G f l
theorem ap {f : Nat} {l r : LR} (h : MO f l) (k : MO f r) : MO f (l ++ r) := .append _ _ h k
theorem ap1 {f : Nat} {l r : LR1} (h : M1O f l) (k : M1O f r) : M1O f (l ++ r) := .append _ _ h k
noncomputable def T0 : Tab := TM e10 e13 e22 e31 e33 e36 e39 e44 e92 e93 e211 e213
theorem qh {f : Nat} {l : LR1} (h : chk1 T0 f l = true) : M1O f l := chk1_ok (fun _ _ _ => runM k10 k13 k22 k31 k33 k36 k39 k44 k92 k93 k211 k213) l h
theorem fD {a b c l : LR} (h1 : MO 22 a) (h2 : MO 211 b) (h3 : MO 213 c) (h : chk (TM e10 e13 (.known (memoK a)) e31 e33 e36 e39 e44 e92 e93 (.known (memoK b)) (.known (memoK c))) 33 l = true) : MO 33 l := qM k10 k13 (memo_ok h1) k31 k33 k36 k39 k44 k92 k93 (memo_ok h2) (memo_ok h3) h
theorem aD {f : Nat} {a b c l : LR} (h1 : MO 10 a) (h2 : MO 31 b) (h3 : MO 33 c) (h : chk (TM (.known (memoK a)) e13 e22 (.known (memoK b)) (.known (memoK c)) e36 e39 e44 e92 e93 e211 e213) f l = true) : MO f l := qM (memo_ok h1) k13 k22 (memo_ok h2) (memo_ok h3) k36 k39 k44 k92 k93 k211 k213 h
theorem oo {f : Nat} {a : LR1} {e : Ent} (h : M1O f a) (k : EOT Tryz.prog G okB f e) : EOT Tryz.prog G okB f (orE (memoK1 a) e) := orE_ok (by kernel_rfl) okB_ok mixed (memo1_ok h) k
theorem gD {a b c : LR1} {l : LR} (h1 : M1O 39 a) (h2 : M1O 44 b) (h3 : M1O 93 c) (h : chk (TM e10 e13 e22 e31 e33 e36 (orE (memoK1 a) e39) (orE (memoK1 b) e44) e92 (orE (memoK1 c) e93) e211 e213) 5 l = true) : MO 5 l := qM k10 k13 k22 k31 k33 k36 (oo h1 k39) (oo h2 k44) k92 (oo h3 k93) k211 k213 h
theorem hD {a b c : LR1} {l : LR2} (h1 : M1O 39 a) (h2 : M1O 44 b) (h3 : M1O 93 c) (h : chk2 (TM e10 e13 e22 e31 e33 e36 (orE (memoK1 a) e39) (orE (memoK1 b) e44) e92 (orE (memoK1 c) e93) e211 e213) 36 l = true) : Memo2 Tryz.prog G 36 l := chk2_ok (fun _ _ _ _ => runM k10 k13 k22 k31 k33 k36 (oo h1 k39) (oo h2 k44) k92 (oo h3 k93) k211 k213) l h
theorem nD {a b c : LR1} {l : LR2} (h1 : M1O 39 a) (h2 : M1O 44 b) (h3 : M1O 93 c) (h : chk2 (TM e10 e13 e22 e31 e33 e36 (orE (memoK1 a) e39) (orE (memoK1 b) e44) e92 (orE (memoK1 c) e93) e211 e213) 92 l = true) : Memo2 Tryz.prog G 92 l := chk2_ok (fun _ _ _ _ => runM k10 k13 k22 k31 k33 k36 (oo h1 k39) (oo h2 k44) k92 (oo h3 k93) k211 k213) l h
theorem o2 {f : Nat} {a : LR2} {e : Ent} (h : Memo2 Tryz.prog G f a) (k : EOT Tryz.prog G okB f e) : EOT Tryz.prog G okB f (orE (memoK2 a) e) := orE_ok (by kernel_rfl) okB_ok mixed (memo2_ok h) k
theorem hN {a b c : LR1} {m l : LR2} (h1 : M1O 39 a) (h2 : M1O 44 b) (h3 : M1O 93 c) (h4 : Memo2 Tryz.prog G 92 m) (h : chk2 (TM e10 e13 e22 e31 e33 e36 (orE (memoK1 a) e39) (orE (memoK1 b) e44) (orE (memoK2 m) e92) (orE (memoK1 c) e93) e211 e213) 36 l = true) : Memo2 Tryz.prog G 36 l := chk2_ok (fun _ _ _ _ => runM k10 k13 k22 k31 k33 k36 (oo h1 k39) (oo h2 k44) (o2 h4 k92) (oo h3 k93) k211 k213) l h
theorem iD {a : LR2} {l : LR} (h1 : Memo2 Tryz.prog G 36 a) (h : chk (TM e10 e13 e22 e31 e33 (.known (memoK2 a)) e39 e44 e92 e93 e211 e213) 13 l = true) : MO 13 l := qM k10 k13 k22 k31 k33 (memo2_ok h1) k39 k44 k92 k93 k211 k213 h
theorem jD {a l : LR} (h1 : MO 13 a) (h : chk (TM e10 (.known (memoK a)) e22 e31 e33 e36 e39 e44 e92 e93 e211 e213) 5 l = true) : MO 5 l := qM k10 (memo_ok h1) k22 k31 k33 k36 k39 k44 k92 k93 k211 k213 h
def h0 := M1 2
def h1 := M1 4
def h2 := M1 6
def h3 := M1 8
def h4 := M1 10
def h5 := M1 12
def h6 := M1 14
def h7 := M1 16
def h8 := M1 18
def h9 := M1 20
def h10 := M1 22
def h11 := M1 24
def h12 := M1 26
def h13 := M1 28
def h14 := M1 30
def h15 := M1 32
def h16 := M1 34
def h17 := M1 36
def h18 := M1 38
def h19 := M1 40
def h20 := M1 42
def h21 := M1 44
def h22 := M1 46
def h23 := M1 48
def h24 := M2 2 0 2
def h25 := M2 2 0 4
def h26 := M2 2 0 6
def h27 := M2 4 2 4
def h28 := M2 2 0 8
def h29 := M2 4 0 4
def h30 := M2 2 0 10
def h31 := M2 4 2 6
def h32 := M2 2 0 12
def h33 := M2 4 0 6
def h34 := M2 2 0 14
def h35 := M2 4 2 8
def h36 := M2 2 0 16
def h37 := M2 4 0 8
def h38 := M2 6 2 6
def h39 := M2 2 0 18
def h40 := M2 4 2 10
def h41 := M2 6 0 6
def h42 := M2 2 0 20
def h43 := M2 4 0 10
def h44 := M2 2 0 22
def h45 := M2 4 2 12
def h46 := M2 6 2 8
def h47 := M2 2 0 24
def h48 := M2 4 0 12
def h49 := M2 6 0 8
def h50 := M2 8 4 8
def h51 := M2 2 0 26
def h52 := M2 4 2 14
def h53 := M2 2 0 28
def h54 := M2 4 0 14
def h55 := M2 6 2 10
def h56 := M2 2 0 30
def h57 := M2 4 2 16
def h58 := M2 6 0 10
def h59 := M2 8 2 8
def h60 := M2 2 0 32
def h61 := M2 4 0 16
def h62 := M2 8 0 8
def h63 := M2 8 4 10
def h64 := M2 2 0 34
def h65 := M2 4 2 18
def h66 := M2 6 2 12
def h67 := M2 2 0 36
def h68 := M2 4 0 18
def h69 := M2 6 0 12
def h70 := M2 2 0 38
def h71 := M2 4 2 20
def h72 := M2 8 2 10
def h73 := M2 2 0 40
def h74 := M2 4 0 20
def h75 := M2 6 2 14
def h76 := M2 8 0 10
def h77 := M2 8 4 12
def h78 := M2 2 0 42
def h79 := M2 4 2 22
def h80 := M2 6 0 14
def h81 := M2 10 4 10
def h82 := M2 2 0 44
def h83 := M2 4 0 22
def h84 := M2 2 0 46
def h85 := M2 4 2 24
def h86 := M2 6 2 16
def h87 := M2 8 2 12
def h88 := M2 2 0 48
def h89 := M2 4 0 24
def h90 := M2 6 0 16
def h91 := M2 8 0 12
def h92 := M2 8 4 14
def h93 := M2 10 2 10
def h94 := M3 2 0 0 2 0 2
def h95 := M3 2 0 0 2 0 4
def h96 := M3 2 0 0 2 0 6
def h97 := M3 2 0 0 4 2 4
def h98 := M3 2 0 0 2 0 8
def h99 := M3 2 0 0 4 0 4
def h100 := M3 4 0 1 4 2 4
def h101 := M3 2 0 0 2 0 10
def h102 := M3 2 0 0 4 2 6
def h103 := M3 2 0 0 2 0 12
def h104 := M3 2 0 0 4 0 6
def h105 := M3 4 0 1 4 0 4
def h106 := M3 2 0 0 2 0 14
def h107 := M3 2 0 0 4 2 8
def h108 := M3 4 2 1 4 0 6
def h109 := M3 2 0 0 2 0 16
def h110 := M3 2 0 0 4 0 8
def h111 := M3 2 0 0 6 2 6
def h112 := M3 4 0 1 4 2 6
def h113 := M3 4 0 0 4 0 4
def h114 := M3 2 0 0 2 0 18
def h115 := M3 2 0 0 4 2 10
def h116 := M3 2 0 0 6 0 6
def h117 := M3 4 2 0 4 0 6
def h118 := M3 2 0 0 2 0 20
def h119 := M3 2 0 0 4 0 10
def h120 := M3 4 0 1 4 0 6
def h121 := M3 4 2 1 4 0 8
def h122 := M3 2 0 0 2 0 22
def h123 := M3 2 0 0 4 2 12
def h124 := M3 2 0 0 6 2 8
def h125 := M3 2 0 0 2 0 24
def h126 := M3 2 0 0 4 0 12
def h127 := M3 2 0 0 6 0 8
def h128 := M3 2 0 0 8 4 8
def h129 := M3 4 0 1 4 2 8
def h130 := M3 4 0 0 4 0 6
def h131 := M3 4 2 0 4 0 8
def h132 := M3 4 2 1 6 0 6
def h133 := M3 2 0 0 2 0 26
def h134 := M3 2 0 0 4 2 14
def h135 := M3 4 2 1 4 0 10
def h136 := M3 4 0 1 6 2 6
def h137 := M3 2 0 0 2 0 28
def h138 := M3 2 0 0 4 0 14
def h139 := M3 2 0 0 6 2 10
def h140 := M3 4 0 1 4 0 8
def h141 := M3 2 0 0 2 0 30
def h142 := M3 2 0 0 4 2 16
def h143 := M3 2 0 0 6 0 10
def h144 := M3 2 0 0 8 2 8
def h145 := M3 4 2 0 4 0 10
def h146 := M3 4 0 1 6 0 6
def h147 := M3 2 0 0 2 0 32
def h148 := M3 2 0 0 4 0 16
def h149 := M3 2 0 0 8 0 8
def h150 := M3 2 0 0 8 4 10
def h151 := M3 4 0 1 4 2 10
def h152 := M3 4 0 0 4 0 8
def h153 := M3 4 2 1 4 0 12
def h154 := M3 4 0 0 6 2 6
def h155 := M3 6 2 1 6 2 6
def h156 := M3 2 0 0 2 0 34
def h157 := M3 2 0 0 4 2 18
def h158 := M3 2 0 0 6 2 12
def h159 := M3 4 2 1 6 0 8
def h160 := M3 2 0 0 2 0 36
def h161 := M3 2 0 0 4 0 18
def h162 := M3 2 0 0 6 0 12
def h163 := M3 4 0 1 4 0 10
def h164 := M3 4 2 0 4 0 12
def h165 := M3 4 0 0 6 0 6
def h166 := M3 4 2 0 6 2 8
def h167 := M3 2 0 0 2 0 38
def h168 := M3 2 0 0 4 2 20
def h169 := M3 2 0 0 8 2 10
def h170 := M3 4 2 1 4 0 14
def h171 := M3 4 0 1 6 2 8
def h172 := M3 2 0 0 2 0 40
def h173 := M3 2 0 0 4 0 20
def h174 := M3 2 0 0 6 2 14
def h175 := M3 2 0 0 8 0 10
def h176 := M3 2 0 0 8 4 12
def h177 := M3 4 0 1 4 2 12
def h178 := M3 4 0 0 4 0 10
def h179 := M3 4 2 0 6 0 8
def h180 := M3 4 0 1 8 4 8
def h181 := M3 6 2 2 6 2 6
def h182 := M3 2 0 0 2 0 42
def h183 := M3 2 0 0 4 2 22
def h184 := M3 2 0 0 6 0 14
def h185 := M3 2 0 0 10 4 10
def h186 := M3 4 2 0 4 0 14
def h187 := M3 4 0 1 6 0 8
def h188 := M3 6 0 1 6 2 6
def h189 := M3 2 0 0 2 0 44
def h190 := M3 2 0 0 4 0 22
def h191 := M3 4 0 1 4 0 12
def h192 := M3 4 2 1 4 0 16
def h193 := M3 4 0 0 6 2 8
def h194 := M3 4 2 1 6 0 10
def h195 := M3 2 0 0 2 0 46
def h196 := M3 2 0 0 4 2 24
def h197 := M3 2 0 0 6 2 16
def h198 := M3 2 0 0 8 2 12
def h199 := M3 4 2 0 6 2 10
def h200 := M3 2 0 0 2 0 48
def h201 := M3 2 0 0 4 0 24
def h202 := M3 2 0 0 6 0 16
def h203 := M3 2 0 0 8 0 12
def h204 := M3 2 0 0 8 4 14
def h205 := M3 2 0 0 10 2 10
def h206 := M3 4 0 1 4 2 14
def h207 := M3 4 0 0 4 0 12
def h208 := M3 4 2 0 4 0 16
def h209 := M3 4 0 0 6 0 8
def h210 := M3 4 0 0 8 4 8
def h211 := M3 4 2 1 8 0 8
def h212 := M3 6 0 1 6 0 6
def h213 := M3 6 2 1 6 2 8
def h214 := M2 8 0 6
def h215 := M2 10 2 8
def h216 := M2 10 0 8
def h217 := M3 2 0 0 4 0 2
def h218 := M3 4 0 0 4 0 2
def h219 := M3 4 0 2 4 2 4
def h220 := M3 4 2 1 4 0 4
def h221 := M3 4 2 0 4 2 4
def h222 := M3 4 2 2 4 0 4
def h223 := M3 4 2 2 4 2 4
def h224 := M3 4 2 1 4 1 4
def h225 := M3 2 0 0 6 2 4
def h226 := M3 2 0 0 6 0 4
def h227 := M3 4 0 0 4 2 4
def h228 := M3 4 0 2 4 0 4
def h229 := M3 4 2 1 4 2 8
def h230 := M3 4 2 0 4 0 4
def h231 := M3 4 2 0 4 2 6
def h232 := M3 4 2 2 4 0 6
def h233 := M3 4 2 2 4 2 6
def h234 := M3 4 2 1 4 1 6
def h235 := M3 2 0 0 8 0 4
def h236 := M3 2 0 0 8 4 6
def h237 := M3 4 0 2 4 2 6
def h238 := M3 4 2 1 4 2 10
def h239 := M3 4 0 1 6 0 4
def h240 := M3 4 0 2 6 0 4
def h241 := M3 4 0 0 4 2 6
def h242 := M3 4 0 2 4 0 6
def h243 := M3 4 2 0 4 2 8
def h244 := M3 4 2 2 4 0 8
def h245 := M3 4 2 2 4 2 8
def h246 := M3 4 0 0 6 2 4
def h247 := M3 4 2 0 6 0 4
def h248 := M3 4 2 1 4 1 8
def h249 := M3 2 0 0 8 2 6
def h250 := M3 2 0 0 8 0 6
def h251 := M3 4 0 2 4 2 8
def h252 := M3 4 2 1 4 2 12
def h253 := M3 4 0 0 6 0 4
def h254 := M3 4 2 2 6 0 6
def h255 := M3 4 2 2 6 2 6
def h256 := M3 4 2 0 4 2 10
def h257 := M3 4 2 2 4 0 10
def h258 := M3 4 2 2 4 2 10
def h259 := M3 4 0 2 6 2 6
def h260 := M3 4 2 1 6 2 8
def h261 := M3 4 2 0 6 2 6
def h262 := M3 4 2 1 4 1 10
def h263 := M3 2 0 0 10 2 6
def h264 := M3 4 0 0 4 2 8
def h265 := M3 4 0 2 4 0 8
def h266 := M3 2 0 0 10 0 6
def h267 := M3 4 2 1 4 2 14
def h268 := M3 4 0 2 6 0 6
def h269 := M3 4 2 0 6 0 6
def h270 := M3 6 0 1 6 0 4
def h271 := M3 6 0 0 6 2 4
def h272 := M3 6 0 2 6 0 4
def h273 := M3 2 0 0 10 4 8
def h274 := M3 4 0 2 4 2 10
def h275 := M3 4 2 0 4 2 12
def h276 := M3 4 2 2 4 0 12
def h277 := M3 4 2 2 4 2 12
def h278 := M3 4 0 0 8 0 4
def h279 := M3 4 0 0 8 4 6
def h280 := M3 6 2 0 6 0 4
def h281 := M3 4 2 1 4 1 12
def h282 := M3 4 2 2 6 0 8
def h283 := M3 4 2 2 6 2 8
def h284 := M3 4 2 1 8 0 6
def h285 := M3 4 2 2 8 0 6
def h286 := M3 4 2 2 8 2 6
def h287 := M3 2 0 0 12 0 6
def h288 := M3 4 0 0 4 2 10
def h289 := M3 4 0 2 4 0 10
def h290 := M3 4 2 1 4 2 16
def h291 := M3 4 2 1 6 2 10
def h292 := M3 4 0 1 8 2 6
def h293 := M3 4 0 2 8 2 6
def h294 := M3 6 0 0 6 0 4
def h295 := M3 2 0 0 10 2 8
def h296 := M3 4 2 0 4 2 14
def h297 := M3 4 2 2 4 0 14
def h298 := M3 4 2 2 4 2 14
def h299 := M3 4 0 2 6 2 8
def h300 := M3 4 2 1 8 4 10
def h301 := M3 4 2 0 8 2 6
def h302 := M3 4 2 1 4 1 14
def h303 := M3 2 0 0 10 0 8
def h304 := M3 2 0 0 12 4 8
def h305 := M3 4 0 2 4 2 12
def h306 := M3 4 0 1 8 0 6
def h307 := M3 4 0 2 8 0 6
def h308 := M3 4 0 2 8 4 8
def h309 := M3 4 2 1 8 2 8
def h310 := M3 4 2 0 8 4 8
def h311 := M3 4 2 2 8 4 8
def h312 := M3 4 2 1 8 3 8
def h313 := M3 2 0 0 12 6 10
def h314 := M3 4 2 1 4 2 18
def h315 := M3 4 0 2 6 0 8
def h316 := M3 4 2 0 8 0 6
def h317 := M3 6 0 2 6 2 6
def h318 := M3 6 2 1 6 0 6
def h319 := M3 6 2 0 6 2 6
def h320 := M3 6 2 2 6 0 6
def h321 := M3 4 0 0 4 2 12
def h322 := M3 4 0 2 4 0 12
def h323 := M3 4 2 0 4 2 16
def h324 := M3 4 2 2 4 0 16
def h325 := M3 4 2 2 4 2 16
def h326 := M3 4 2 2 6 0 10
def h327 := M3 4 2 2 6 2 10
def h328 := M3 4 0 0 8 2 6
def h329 := M3 4 2 1 4 1 16
def h330 := M3 2 0 0 12 2 8
def h331 := M3 4 2 1 6 2 12
def h332 := M3 2 0 0 12 0 8
def h333 := M3 4 0 2 4 2 14
def h334 := M3 4 2 1 4 2 20
def h335 := M3 4 0 0 8 0 6
def h336 := M3 4 2 2 8 0 8
def h337 := M3 4 2 2 8 2 8
def h338 := M3 6 0 0 6 2 6
def h339 := M3 6 0 2 6 0 6
def h340 := M3 6 2 0 6 0 6
def h341 := M3 6 0 0 8 0 4
def h342 := M3 6 0 0 8 4 6
def h343 := M3 6 2 1 8 2 6
def h344 := M3 6 2 1 8 4 8
def g0 : LG := [(2, [1111])]
def g1 : LG := [(2, [11111])]
def g2 : LG := [(2, [1013]), (3, [11100])]
def g3 : LG := [(2, [21111])]
def g4 : LG := [(2, [1015]), (5, [11100])]
def g5 : LG := [(2, [11013]), (3, [11000])]
def g6 : LG := [(2, [1117]), (7, [11100])]
def g7 : LG := [(2, [31111])]
def g8 : LG := [(2, [1111]), (3, [21100])]
def g9 : LG := [(2, [11015]), (5, [11000])]
def g10 : LG := [(2, [1013]), (11, [11100])]
def g11 : LG := [(2, [21013]), (3, [11100])]
def g12 : LG := [(2, [1015]), (13, [11100])]
def g13 : LG := [(2, [11117]), (7, [11100])]
def g14 : LG := [(2, [1117]), (3, [11000]), (5, [11000])]
def g15 : LG := [(2, [41111])]
def g16 : LG := [(2, [1111]), (17, [11100])]
def g17 : LG := [(2, [11111]), (3, [21000])]
def g18 : LG := [(2, [1013]), (19, [11100])]
def g19 : LG := [(2, [21015]), (5, [11100])]
def g20 : LG := [(2, [1015]), (3, [11100]), (7, [11000])]
def g21 : LG := [(2, [11013]), (11, [11000])]
def g22 : LG := [(2, [1117]), (23, [11100])]
def g23 : LG := [(2, [31013]), (3, [11000])]
def g24 : LG := [(2, [2112])]
def g25 : LG := [(2, [1112, 11110])]
def g26 : LG := [(2, [2000]), (3, [1000, 11000])]
def g27 : LG := [(2, [2014]), (3, [1100, 11100])]
def g28 : LG := [(2, [1111, 21111])]
def g29 : LG := [(2, [12112])]
def g30 : LG := [(2, [2012]), (5, [1000, 11000])]
def g31 : LG := [(2, [2016]), (5, [1100, 11100])]
def g32 : LG := [(2, [1014, 11110]), (3, [1000, 11100])]
def g33 : LG := [(2, [1114, 11010]), (3, [1100, 11000])]
def g34 : LG := [(2, [2100]), (7, [1100, 11100])]
def g35 : LG := [(2, [2110]), (7, [1100, 11100])]
def g36 : LG := [(2, [1013, 31013])]
def g37 : LG := [(2, [1111, 31111])]
def g38 : LG := [(2, [11112, 21110])]
def g39 : LG := [(2, [2112]), (3, [1000, 21000])]
def g40 : LG := [(2, [2112]), (3, [1100, 21100])]
def g41 : LG := [(2, [2116]), (3, [12100])]
def g42 : LG := [(2, [1012, 11110]), (5, [1100, 11000])]
def g43 : LG := [(2, [1016, 11110]), (5, [1000, 11100])]
def g44 : LG := [(2, [2000]), (11, [1000, 11000])]
def g45 : LG := [(2, [2014]), (11, [1100, 11100])]
def g46 : LG := [(2, [1013, 21111]), (3, [1100, 11100])]
def g47 : LG := [(2, [1015, 21117]), (3, [1100, 11100])]
def g48 : LG := [(2, [12000]), (3, [1100, 11100])]
def g49 : LG := [(2, [12014]), (3, [1000, 11000])]
def g50 : LG := [(2, [2012]), (13, [1000, 11000])]
def g51 : LG := [(2, [2016]), (13, [1100, 11100])]
def g52 : LG := [(2, [1010, 11010]), (7, [1000, 11000])]
def g53 : LG := [(2, [1110, 11110]), (7, [1100, 11100])]
def g54 : LG := [(2, [2100]), (3, [1000, 11100]), (5, [1000, 11100])]
def g55 : LG := [(2, [2100]), (3, [1100, 11000]), (5, [1100, 11000])]
def g56 : LG := [(2, [2110]), (3, [1000, 11100]), (5, [1000, 11100])]
def g57 : LG := [(2, [2110]), (3, [1100, 11000]), (5, [1100, 11000])]
def g58 : LG := [(2, [1015, 41015])]
def g59 : LG := [(2, [1111, 41111])]
def g60 : LG := [(2, [11111, 31111])]
def g61 : LG := [(2, [22112])]
def g62 : LG := [(2, [2112]), (17, [1100, 11100])]
def g63 : LG := [(2, [2116]), (17, [1000, 11000])]
def g64 : LG := [(2, [1112, 11110]), (3, [1000, 21100])]
def g65 : LG := [(2, [1112, 11110]), (3, [1100, 21000])]
def g66 : LG := [(2, [1112, 11110]), (3, [12000])]
def g67 : LG := [(2, [2000]), (19, [1000, 11000])]
def g68 : LG := [(2, [2014]), (19, [1100, 11100])]
def g69 : LG := [(2, [1013, 21117]), (5, [1000, 11000])]
def g70 : LG := [(2, [1015, 21111]), (5, [1100, 11100])]
def g71 : LG := [(2, [12012]), (5, [1100, 11100])]
def g72 : LG := [(2, [12016]), (5, [1000, 11000])]
def g73 : LG := [(2, [2012]), (3, [1000, 11000]), (7, [1100, 11000])]
def g74 : LG := [(2, [2012]), (3, [1100, 11100]), (7, [1000, 11100])]
def g75 : LG := [(2, [2016]), (3, [1000, 11000]), (7, [1000, 11100])]
def g76 : LG := [(2, [2016]), (3, [1100, 11100]), (7, [1100, 11000])]
def g77 : LG := [(2, [1014, 11110]), (11, [1000, 11100])]
def g78 : LG := [(2, [1114, 11010]), (11, [1100, 11000])]
def g79 : LG := [(2, [2100]), (23, [1100, 11100])]
def g80 : LG := [(2, [2110]), (23, [1100, 11100])]
def g81 : LG := [(2, [1013, 31111]), (3, [1000, 11100])]
def g82 : LG := [(2, [1015, 31117]), (3, [1000, 11100])]
def g83 : LG := [(2, [1111, 31013]), (3, [1100, 11000])]
def g84 : LG := [(2, [1117, 31015]), (3, [1100, 11000])]
def g85 : LG := [(2, [11014, 21110]), (3, [1100, 11000])]
def g86 : LG := [(2, [11114, 21010]), (3, [1000, 11100])]
def g87 : LG := [(2, [3113])]
def g88 : LG := [(2, [2113, 11110])]
def g89 : LG := [(2, [3011]), (3, [2000, 11000])]
def g90 : LG := [(2, [3015]), (3, [2100, 11100])]
def g91 : LG := [(2, [1113, 12110])]
def g92 : LG := [(2, [2000, 21013])]
def g93 : LG := [(2, [2112, 21111])]
def g94 : LG := [(2, [3013]), (5, [2000, 11000])]
def g95 : LG := [(2, [3017]), (5, [2100, 11100])]
def g96 : LG := [(2, [2000, 11111]), (3, [2100, 11000])]
def g97 : LG := [(2, [2011, 11110]), (3, [2100, 11000])]
def g98 : LG := [(2, [2015, 11110]), (3, [2000, 11100])]
def g99 : LG := [(2, [3111]), (7, [2100, 11100])]
def g100 : LG := [(2, [3115]), (7, [2000, 11000])]
def g101 : LG := [(2, [1113, 11110, 21110])]
def g102 : LG := [(2, [2012, 31015])]
def g103 : LG := [(2, [2014, 31013])]
def g104 : LG := [(2, [2112, 31111])]
def g105 : LG := [(2, [13113])]
def g106 : LG := [(2, [3113]), (3, [1000, 12000])]
def g107 : LG := [(2, [3113]), (3, [2000, 21000])]
def g108 : LG := [(2, [3113]), (3, [2100, 21100])]
def g109 : LG := [(2, [3117]), (3, [1100, 12100])]
def g110 : LG := [(2, [2000, 11117]), (5, [2000, 11100])]
def g111 : LG := [(2, [2013, 11110]), (5, [2100, 11000])]
def g112 : LG := [(2, [2017, 11110]), (5, [2000, 11100])]
def g113 : LG := [(2, [3011]), (11, [2000, 11000])]
def g114 : LG := [(2, [3015]), (11, [2100, 11100])]
def g115 : LG := [(2, [1011, 12110]), (3, [2000, 11000])]
def g116 : LG := [(2, [1015, 12100]), (3, [2100, 11100])]
def g117 : LG := [(2, [1015, 12110]), (3, [2100, 11100])]
def g118 : LG := [(2, [2000, 21111]), (3, [2000, 11000])]
def g119 : LG := [(2, [2012, 21117]), (3, [2000, 11000])]
def g120 : LG := [(2, [2014, 21111]), (3, [2100, 11100])]
def g121 : LG := [(2, [2016, 21117]), (3, [2100, 11100])]
def g122 : LG := [(2, [2100, 21015]), (3, [2100, 11100])]
def g123 : LG := [(2, [3013]), (13, [2000, 11000])]
def g124 : LG := [(2, [3017]), (13, [2100, 11100])]
def g125 : LG := [(2, [2100, 11111]), (7, [2100, 11100])]
def g126 : LG := [(2, [2111, 11110]), (7, [2100, 11100])]
def g127 : LG := [(2, [2115, 11110]), (7, [2000, 11000])]
def g128 : LG := [(2, [3111]), (3, [2000, 11100]), (5, [2000, 11100])]
def g129 : LG := [(2, [3111]), (3, [2100, 11000]), (5, [2100, 11000])]
def g130 : LG := [(2, [3115]), (3, [2000, 11100]), (5, [2100, 11000])]
def g131 : LG := [(2, [3115]), (3, [2100, 11000]), (5, [2000, 11100])]
def g132 : LG := [(2, [1010, 11010, 31117])]
def g133 : LG := [(2, [1013, 22000])]
def g134 : LG := [(2, [1111, 22112])]
def g135 : LG := [(2, [1112, 11110, 31111])]
def g136 : LG := [(2, [2000, 41013])]
def g137 : LG := [(2, [2016, 41015])]
def g138 : LG := [(2, [2112, 41111])]
def g139 : LG := [(2, [12113, 21110])]
def g140 : LG := [(2, [3113]), (17, [2100, 11100])]
def g141 : LG := [(2, [3117]), (17, [2000, 11000])]
def g142 : LG := [(2, [2100, 11117]), (3, [1000, 12100])]
def g143 : LG := [(2, [2113, 11110]), (3, [1100, 12000])]
def g144 : LG := [(2, [2113, 11110]), (3, [2000, 21100])]
def g145 : LG := [(2, [2113, 11110]), (3, [2100, 21000])]
def g146 : LG := [(2, [2117, 11110]), (3, [1000, 12100])]
def g147 : LG := [(2, [3011]), (19, [2000, 11000])]
def g148 : LG := [(2, [3015]), (19, [2100, 11100])]
def g149 : LG := [(2, [1013, 12100]), (5, [2000, 11000])]
def g150 : LG := [(2, [1013, 12110]), (5, [2000, 11000])]
def g151 : LG := [(2, [1017, 12110]), (5, [2100, 11100])]
def g152 : LG := [(2, [2000, 21117]), (5, [2100, 11100])]
def g153 : LG := [(2, [2012, 21111]), (5, [2000, 11000])]
def g154 : LG := [(2, [2014, 21117]), (5, [2000, 11000])]
def g155 : LG := [(2, [2016, 21111]), (5, [2100, 11100])]
def g156 : LG := [(2, [2100, 21013]), (5, [2000, 11000])]
def g157 : LG := [(2, [3013]), (3, [2000, 11000]), (7, [2100, 11000])]
def g158 : LG := [(2, [3013]), (3, [2100, 11100]), (7, [2000, 11100])]
def g159 : LG := [(2, [3017]), (3, [2000, 11000]), (7, [2000, 11100])]
def g160 : LG := [(2, [3017]), (3, [2100, 11100]), (7, [2100, 11000])]
def g161 : LG := [(2, [2000, 11111]), (11, [2100, 11000])]
def g162 : LG := [(2, [2011, 11110]), (11, [2100, 11000])]
def g163 : LG := [(2, [2015, 11110]), (11, [2000, 11100])]
def g164 : LG := [(2, [3111]), (23, [2100, 11100])]
def g165 : LG := [(2, [3115]), (23, [2000, 11000])]
def g166 : LG := [(2, [1011, 11110, 21110]), (3, [2100, 11000])]
def g167 : LG := [(2, [1015, 11110, 21110]), (3, [2000, 11100])]
def g168 : LG := [(2, [2000, 31111]), (3, [2100, 11000])]
def g169 : LG := [(2, [2012, 31117]), (3, [2100, 11000])]
def g170 : LG := [(2, [2014, 31111]), (3, [2000, 11100])]
def g171 : LG := [(2, [2016, 31117]), (3, [2000, 11100])]
def g172 : LG := [(2, [2100, 31015]), (3, [2100, 11000])]
def g173 : LG := [(2, [2110, 31015]), (3, [2100, 11000])]
def g174 : LG := [(2, [2112, 31013]), (3, [2100, 11000])]
def g175 : LG := [(2, [2116, 31013]), (3, [2000, 11100])]
def g176 : LG := [(2, [13011]), (3, [2000, 11100])]
def g177 : LG := [(2, [13015]), (3, [2100, 11000])]
def g178 : LG := [(2, [13111]), (2, [13113]), (2, [13115]), (2, [13117]), (2, [1111, 11110, 21110]), (2, [1113, 11110, 21110]), (2, [1115, 11110, 21110]), (2, [1117, 11110, 21110]), (2, [2100, 31111]), (2, [2000, 31013]), (2, [2000, 31015]), (2, [2100, 31117]), (2, [2110, 31111]), (2, [2110, 31117]), (2, [2112, 31111]), (2, [2012, 31013]), (2, [2012, 31015]), (2, [2112, 31117]), (2, [2014, 31013]), (2, [2014, 31015]), (2, [2116, 31111]), (2, [2016, 31013]), (2, [2016, 31015]), (2, [2116, 31117])]
def g179 : LG := [(2, [12100, 21111]), (2, [12100, 21117]), (2, [12111, 21110]), (2, [12113, 21110]), (2, [12115, 21110]), (2, [12117, 21110]), (2, [1111, 22100]), (2, [1111, 22110]), (2, [1111, 22112]), (2, [1111, 22116]), (2, [1013, 22000]), (2, [1015, 22000]), (2, [1117, 22100]), (2, [1117, 22110]), (2, [1117, 22112]), (2, [1117, 22116]), (2, [1110, 11110, 31111]), (2, [1010, 11010, 31111]), (2, [1110, 11110, 31117]), (2, [1010, 11010, 31117]), (2, [1112, 11110, 31111]), (2, [1112, 11110, 31117]), (2, [1116, 11110, 31111]), (2, [1116, 11110, 31117]), (2, [2100, 41111]), (2, [2000, 41013]), (2, [2000, 41015]), (2, [2100, 41117]), (2, [2110, 41111]), (2, [2110, 41117]), (2, [2112, 41111]), (2, [2012, 41013]), (2, [2012, 41015]), (2, [2112, 41117]), (2, [2014, 41013]), (2, [2014, 41015]), (2, [2116, 41111]), (2, [2016, 41013]), (2, [2016, 41015]), (2, [2116, 41117])]
def g180 : LG := [(2, [13011]), (2, [13013]), (2, [13015]), (2, [13017]), (2, [1011, 11110, 21110]), (2, [1013, 11110, 21110]), (2, [1015, 11110, 21110]), (2, [1017, 11110, 21110]), (2, [2000, 31111]), (2, [2100, 31013]), (2, [2100, 31015]), (2, [2000, 31117]), (2, [2110, 31013]), (2, [2110, 31015]), (2, [2012, 31111]), (2, [2112, 31013]), (2, [2112, 31015]), (2, [2012, 31117]), (2, [2014, 31111]), (2, [2014, 31117]), (2, [2016, 31111]), (2, [2116, 31013]), (2, [2116, 31015]), (2, [2016, 31117])]
end Go.Proofs.YtmmfnpbjolpfmaaGreatDoor.AD
