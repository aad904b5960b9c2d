/- Results of isometry.Find, by the kernel (genall.py) -/
import Derived.Test.YthkpeakeoepocaaGreatDoorQMX
namespace Go.Proofs.YthkpeakeoepocaaGreatDoor.AD
set_option linter.unusedSimpArgs false
set_option linter.unusedVariables false
open Go Go.AL Go.Proofs U
set_option maxRecDepth 1000000
def b3 : LR := [rN h32 h33 400000]
theorem b3_ok : MO 12 b3 := fb1 _ (by kernel_rfl)
def b14 : LR := [rN h49 h50 400000]
theorem b14_ok : MO 12 b14 := fb2 _ (by kernel_rfl)
def b16 : LR := [rN h53 h54 400000, rN h53 h55 400000]
theorem b16_ok : MO 12 b16 := fb3 _ (by kernel_rfl)
def b27 : LR := [rN h68 h69 400000]
theorem b27_ok : MO 12 b27 := fb4 _ (by kernel_rfl)
def b30 : LR := [rN h73 h74 400000, rN h73 h75 400000, rN h73 h76 400000, rN h73 h77 400000]
theorem b30_ok : MO 12 b30 := fb4 _ (by kernel_rfl)
def b32 : LR := [rN h75 h76 400000, rN h75 h77 400000]
theorem b32_ok : MO 12 b32 := fb4 _ (by kernel_rfl)
def b41 : LR := [rN h88 h89 400000, rN h88 h90 400000, rN h88 h91 400000, rN h88 h92 400000, rN h88 h93 400000]
theorem b41_ok : MO 12 b41 := fb5 _ (by kernel_rfl)
def b43 : LR := [rN h90 h91 400000, rN h90 h92 400000, rN h90 h93 400000]
theorem b43_ok : MO 12 b43 := fb5 _ (by kernel_rfl)
def b45 : LR := [rN h92 h93 400000]
theorem b45_ok : MO 12 b45 := fb5 _ (by kernel_rfl)
def b52 : LR := [rN h106 h107 400000, rN h106 h108 400000]
theorem b52_ok : MO 12 b52 := fc7 _ (by kernel_rfl)
def b57 : LR := [rN h112 h113 400000]
theorem b57_ok : MO 12 b57 := fc8 _ (by kernel_rfl)
def b58 : LR := [rY h112 h225 2000000 [[1, 0, 1], [0, 1, 0], [0, 0, 1]]]
theorem b58_ok : MO 12 b58 := fc8 _ (by kernel_rfl)
def b79 : LR := [rN h134 h135 400000, rN h134 h136 400000]
theorem b79_ok : MO 12 b79 := fc13 _ (by kernel_rfl)
def b80 : LR := [rN h135 h136 400000]
theorem b80_ok : MO 12 b80 := fc13 _ (by kernel_rfl)
def b83 : LR := [rY h135 h236 2000000 [[1, 1, 0], [0, 2, 0], [0, 0, 2]]]
theorem b83_ok : MO 12 b83 := fc13 _ (by kernel_rfl)
def b84 : LR := [rN h137 h138 400000, rN h137 h139 400000, rN h137 h140 400000]
theorem b84_ok : MO 12 b84 := fc14 _ (by kernel_rfl)
def b108 : LR := [rN h160 h161 400000, rN h160 h162 400000, rN h160 h163 400000, rN h160 h164 400000, rN h160 h165 400000, rN h160 h166 400000]
theorem b108_ok : MO 12 b108 := fc18 _ (by kernel_rfl)
def b109 : LR := [rN h161 h162 400000, rN h161 h163 400000, rN h161 h164 400000, rN h161 h165 400000, rN h161 h166 400000]
theorem b109_ok : MO 12 b109 := fc18 _ (by kernel_rfl)
def b110 : LR := [rN h162 h163 400000, rN h162 h164 400000, rN h162 h165 400000, rN h162 h166 400000]
theorem b110_ok : MO 12 b110 := fc18 _ (by kernel_rfl)
def b112 : LR := [rY h163 h249 2000000 [[0, 1, 1], [1, 0, 0], [0, 0, 1]]]
theorem b112_ok : MO 12 b112 := fc18 _ (by kernel_rfl)
def b114 : LR := [rN h164 h165 400000, rN h164 h166 400000]
theorem b114_ok : MO 12 b114 := fc18 _ (by kernel_rfl)
def b119 : LR := [rN h169 h171 400000]
theorem b119_ok : MO 12 b119 := fc19 _ (by kernel_rfl)
def b130 : LR := [rY h177 h255 2000000 [[1, 0, 1], [0, 1, 0], [0, 0, 1]]]
theorem b130_ok : MO 12 b130 := fc20 _ (by kernel_rfl)
def b141 : LR := [rN h185 h186 400000, rN h185 h187 400000, rN h185 h188 400000]
theorem b141_ok : MO 12 b141 := fc21 _ (by kernel_rfl)
def b146 : LR := [rN h189 h192 400000]
theorem b146_ok : MO 12 b146 := fc22 _ (by kernel_rfl)
def b153 : LR := [rN h192 h193 400000, rN h192 h194 400000]
theorem b153_ok : MO 12 b153 := fc22 _ (by kernel_rfl)
def b156 : LR := [rY h192 h269 2000000 [[1, 1, 0], [0, 2, 0], [0, 0, 2]]]
theorem b156_ok : MO 12 b156 := fc22 _ (by kernel_rfl)
def b165 : LR := [rN h203 h204 400000, rN h203 h205 400000, rN h203 h206 400000, rN h203 h207 400000]
theorem b165_ok : MO 12 b165 := fc24 _ (by kernel_rfl)
def b168 : LR := [rN h204 h205 400000, rN h204 h206 400000, rN h204 h207 400000, rN h204 h208 400000, rN h204 h209 400000, rN h204 h210 400000, rN h204 h211 400000, rN h204 h212 400000, rN h204 h213 400000]
theorem b168_ok : MO 12 b168 := fc24 _ (by kernel_rfl)
def b170 : LR := [rN h206 h207 400000]
theorem b170_ok : MO 12 b170 := fc24 _ (by kernel_rfl)
def b182 : LR := [rY h212 h275 2000000 [[0, 1, 0], [1, 0, 0], [0, 0, 2]]]
theorem b182_ok : MO 12 b182 := fc24 _ (by kernel_rfl)
def b188 : LR := [rY h100 h217 2000000 [[1, 1, 0], [0, 0, 1], [1, 0, 0]]]
theorem b188_ok : MO 12 b188 := fc4 _ (by kernel_rfl)
def b194 : LR := [rY h108 h223 2000000 [[1, 1, 1], [0, 2, 0], [0, 0, 1]]]
theorem b194_ok : MO 12 b194 := fc7 _ (by kernel_rfl)
def b200 : LR := [rY h132 h233 2000000 [[1, 1, 0], [0, 0, 1], [0, 1, 0]]]
theorem b200_ok : MO 12 b200 := fc12 _ (by kernel_rfl)
def b206 : LR := [rY h146 h242 2000000 [[1, 1, 0], [0, 0, 1], [0, 1, 0]]]
theorem b206_ok : MO 12 b206 := fc15 _ (by kernel_rfl)
def b212 : LR := [rY h188 h263 2000000 [[1, 0, 0], [0, 0, 2], [0, 2, 0]]]
theorem b212_ok : MO 12 b212 := fc21 _ (by kernel_rfl)
end Go.Proofs.YthkpeakeoepocaaGreatDoor.AD

/- Results of isometry.Find, by the kernel (genall.py) -/
namespace Go.Proofs.YthkpeakeoepocaaGreatDoor.AD
set_option linter.unusedSimpArgs false
set_option linter.unusedVariables false
open Go Go.AL Go.Proofs U
set_option maxRecDepth 1000000
def b2 : LR := [rN h30 h31 400000]
theorem b2_ok : MO 12 b2 := fb1 _ (by kernel_rfl)
def b11 : LR := [rN h45 h46 400000]
theorem b11_ok : MO 12 b11 := fb2 _ (by kernel_rfl)
def b13 : LR := [rN h48 h49 400000, rN h48 h50 400000]
theorem b13_ok : MO 12 b13 := fb2 _ (by kernel_rfl)
def b18 : LR := [rN h56 h57 400000, rN h56 h58 400000, rN h56 h59 400000]
theorem b18_ok : MO 12 b18 := fb3 _ (by kernel_rfl)
def b25 : LR := [rN h65 h66 400000]
theorem b25_ok : MO 12 b25 := fb4 _ (by kernel_rfl)
def b28 : LR := [rN h70 h71 400000, rN h70 h72 400000]
theorem b28_ok : MO 12 b28 := fb4 _ (by kernel_rfl)
def b38 : LR := [rN h84 h85 400000, rN h84 h86 400000, rN h84 h87 400000]
theorem b38_ok : MO 12 b38 := fb5 _ (by kernel_rfl)
def b40 : LR := [rN h86 h87 400000]
theorem b40_ok : MO 12 b40 := fb5 _ (by kernel_rfl)
def b50 : LR := [rN h103 h104 400000, rN h103 h105 400000]
theorem b50_ok : MO 12 b50 := fc6 _ (by kernel_rfl)
def b53 : LR := [rN h107 h108 400000]
theorem b53_ok : MO 12 b53 := fc7 _ (by kernel_rfl)
def b72 : LR := [rN h128 h129 400000, rN h128 h130 400000, rN h128 h131 400000, rN h128 h132 400000]
theorem b72_ok : MO 12 b72 := fc12 _ (by kernel_rfl)
def b74 : LR := [rY h129 h231 2000000 [[1, 0, 1], [0, 1, 0], [0, 0, 1]]]
theorem b74_ok : MO 12 b74 := fc12 _ (by kernel_rfl)
def b76 : LR := [rN h130 h131 400000, rN h130 h132 400000]
theorem b76_ok : MO 12 b76 := fc12 _ (by kernel_rfl)
def b77 : LR := [rN h131 h132 400000]
theorem b77_ok : MO 12 b77 := fc12 _ (by kernel_rfl)
def b78 : LR := [rN h133 h134 400000, rN h133 h135 400000, rN h133 h136 400000]
theorem b78_ok : MO 12 b78 := fc13 _ (by kernel_rfl)
def b94 : LR := [rN h149 h150 400000, rN h149 h151 400000, rN h149 h152 400000, rN h149 h153 400000, rN h149 h154 400000, rN h149 h155 400000]
theorem b94_ok : MO 12 b94 := fc16 _ (by kernel_rfl)
def b101 : LR := [rY h153 h244 2000000 [[1, 1, 0], [0, 2, 0], [0, 0, 1]]]
theorem b101_ok : MO 12 b101 := fc16 _ (by kernel_rfl)
def b106 : LR := [rN h157 h158 400000, rN h157 h159 400000]
theorem b106_ok : MO 12 b106 := fc17 _ (by kernel_rfl)
def b115 : LR := [rN h165 h166 400000]
theorem b115_ok : MO 12 b115 := fc18 _ (by kernel_rfl)
def b121 : LR := [rY h170 h251 2000000 [[1, 1, 0], [0, 2, 0], [0, 0, 1]]]
theorem b121_ok : MO 12 b121 := fc19 _ (by kernel_rfl)
def b131 : LR := [rN h178 h179 400000, rN h178 h180 400000, rN h178 h181 400000]
theorem b131_ok : MO 12 b131 := fc20 _ (by kernel_rfl)
def b136 : LR := [rY h180 h258 2000000 [[1, 1, 2], [0, 0, 1], [0, 1, 2]]]
theorem b136_ok : MO 12 b136 := fc20 _ (by kernel_rfl)
def b140 : LR := [rN h184 h185 400000, rN h184 h186 400000, rN h184 h187 400000, rN h184 h188 400000]
theorem b140_ok : MO 12 b140 := fc21 _ (by kernel_rfl)
def b150 : LR := [rN h191 h193 400000, rN h191 h194 400000]
theorem b150_ok : MO 12 b150 := fc22 _ (by kernel_rfl)
def b152 : LR := [rY h191 h266 2000000 [[1, 0, 1], [0, 1, 0], [0, 0, 1]]]
theorem b152_ok : MO 12 b152 := fc22 _ (by kernel_rfl)
def b161 : LR := [rN h198 h199 400000]
theorem b161_ok : MO 12 b161 := fc23 _ (by kernel_rfl)
def b167 : LR := [rN h203 h209 400000, rN h203 h210 400000, rN h203 h211 400000, rN h203 h212 400000, rN h203 h213 400000]
theorem b167_ok : MO 12 b167 := fc24 _ (by kernel_rfl)
def b169 : LR := [rN h205 h206 400000, rN h205 h207 400000, rN h205 h208 400000, rN h205 h209 400000, rN h205 h210 400000, rN h205 h211 400000, rN h205 h212 400000, rN h205 h213 400000]
theorem b169_ok : MO 12 b169 := fc24 _ (by kernel_rfl)
def b173 : LR := [rY h206 h272 2000000 [[1, 0, 1], [0, 1, 0], [0, 0, 1]]]
theorem b173_ok : MO 12 b173 := fc24 _ (by kernel_rfl)
def b177 : LR := [rN h210 h211 400000, rN h210 h212 400000, rN h210 h213 400000, rN h210 h211 2000000, rN h210 h273 2000000, rN h210 h274 2000000]
theorem b177_ok : MO 12 b177 := fc24 _ (by kernel_rfl)
def b185 : LR := [rY h100 h214 2000000 [[1, 0, 1], [0, 1, 0], [1, 2, 0]]]
theorem b185_ok : MO 12 b185 := fc4 _ (by kernel_rfl)
def b191 : LR := [rY h105 h220 2000000 [[1, 0, 1], [0, 1, 0], [1, 0, 0]]]
theorem b191_ok : MO 12 b191 := fc6 _ (by kernel_rfl)
def b197 : LR := [rY h121 h229 2000000 [[1, 1, 1], [0, 2, 0], [0, 0, 1]]]
theorem b197_ok : MO 12 b197 := fc10 _ (by kernel_rfl)
def b203 : LR := [rY h140 h239 2000000 [[0, 1, 1], [1, 0, 0], [0, 0, 1]]]
theorem b203_ok : MO 12 b203 := fc14 _ (by kernel_rfl)
def b209 : LR := [rY h171 h254 2000000 [[1, 0, 1], [0, 1, 0], [0, 0, 1]]]
theorem b209_ok : MO 12 b209 := fc19 _ (by kernel_rfl)
def b215 : LR := [rY h194 h271 2000000 [[1, 1, 0], [0, 2, 0], [0, 0, 2]]]
theorem b215_ok : MO 12 b215 := fc22 _ (by kernel_rfl)
end Go.Proofs.YthkpeakeoepocaaGreatDoor.AD
