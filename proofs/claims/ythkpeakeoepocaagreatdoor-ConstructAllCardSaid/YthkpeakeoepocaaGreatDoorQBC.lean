/- Results of isometry.Find, by the kernel (genall.py) -/
import Derived.Test.YthkpeakeoepocaaGreatDoorQMX
namespace Go.Proofs.YthkpeakeoepocaaGreatDoor.AD
set_option linter.unusedSimpArgs false
set_option linter.unusedVariables false
open Go Go.AL Go.Proofs U
set_option maxRecDepth 1000000
def b1 : LR := [rN h28 h29 400000]
theorem b1_ok : MO 12 b1 := fb0 _ (by kernel_rfl)
def b9 : LR := [rN h42 h43 400000]
theorem b9_ok : MO 12 b9 := fb2 _ (by kernel_rfl)
def b10 : LR := [rN h44 h45 400000, rN h44 h46 400000]
theorem b10_ok : MO 12 b10 := fb2 _ (by kernel_rfl)
def b12 : LR := [rN h47 h48 400000, rN h47 h49 400000, rN h47 h50 400000]
theorem b12_ok : MO 12 b12 := fb2 _ (by kernel_rfl)
def b23 : LR := [rN h62 h63 400000]
theorem b23_ok : MO 12 b23 := fb3 _ (by kernel_rfl)
def b26 : LR := [rN h67 h68 400000, rN h67 h69 400000]
theorem b26_ok : MO 12 b26 := fb4 _ (by kernel_rfl)
def b34 : LR := [rN h78 h79 400000, rN h78 h80 400000, rN h78 h81 400000]
theorem b34_ok : MO 12 b34 := fb5 _ (by kernel_rfl)
def b37 : LR := [rN h82 h83 400000]
theorem b37_ok : MO 12 b37 := fb5 _ (by kernel_rfl)
def b47 : LR := [rN h98 h99 400000, rN h98 h100 400000]
theorem b47_ok : MO 12 b47 := fc4 _ (by kernel_rfl)
def b51 : LR := [rN h104 h105 400000]
theorem b51_ok : MO 12 b51 := fc6 _ (by kernel_rfl)
def b54 : LR := [rN h109 h110 400000, rN h109 h111 400000, rN h109 h112 400000, rN h109 h113 400000]
theorem b54_ok : MO 12 b54 := fc8 _ (by kernel_rfl)
def b66 : LR := [rY h120 h227 2000000 [[1, 0, 1], [0, 1, 0], [0, 0, 1]]]
theorem b66_ok : MO 12 b66 := fc10 _ (by kernel_rfl)
def b67 : LR := [rN h122 h123 400000, rN h122 h124 400000]
theorem b67_ok : MO 12 b67 := fc11 _ (by kernel_rfl)
def b70 : LR := [rN h126 h127 400000, rN h126 h128 400000, rN h126 h129 400000, rN h126 h130 400000, rN h126 h131 400000, rN h126 h132 400000]
theorem b70_ok : MO 12 b70 := fc12 _ (by kernel_rfl)
def b73 : LR := [rN h129 h130 400000, rN h129 h131 400000, rN h129 h132 400000]
theorem b73_ok : MO 12 b73 := fc12 _ (by kernel_rfl)
def b75 : LR := [rN h129 h131 2000000]
theorem b75_ok : MO 12 b75 := fc12 _ (by kernel_rfl)
def b98 : LR := [rN h152 h153 400000]
theorem b98_ok : MO 12 b98 := fc16 _ (by kernel_rfl)
def b100 : LR := [rN h153 h154 400000, rN h153 h155 400000]
theorem b100_ok : MO 12 b100 := fc16 _ (by kernel_rfl)
def b107 : LR := [rN h158 h159 400000]
theorem b107_ok : MO 12 b107 := fc17 _ (by kernel_rfl)
def b117 : LR := [rN h168 h169 400000, rN h168 h170 400000, rN h168 h171 400000]
theorem b117_ok : MO 12 b117 := fc19 _ (by kernel_rfl)
def b118 : LR := [rN h169 h170 400000]
theorem b118_ok : MO 12 b118 := fc19 _ (by kernel_rfl)
def b125 : LR := [rN h173 h174 400000, rN h173 h175 400000, rN h173 h176 400000, rN h173 h177 400000, rN h173 h178 400000, rN h173 h179 400000, rN h173 h180 400000, rN h173 h181 400000]
theorem b125_ok : MO 12 b125 := fc20 _ (by kernel_rfl)
def b129 : LR := [rN h177 h178 400000, rN h177 h179 400000, rN h177 h180 400000, rN h177 h181 400000]
theorem b129_ok : MO 12 b129 := fc20 _ (by kernel_rfl)
def b135 : LR := [rY h180 h257 2000000 [[1, 1, 0], [0, 0, 2], [0, 1, 1]]]
theorem b135_ok : MO 12 b135 := fc20 _ (by kernel_rfl)
def b139 : LR := [rN h183 h184 400000, rN h183 h185 400000, rN h183 h186 400000, rN h183 h187 400000, rN h183 h188 400000]
theorem b139_ok : MO 12 b139 := fc21 _ (by kernel_rfl)
def b147 : LR := [rN h189 h193 400000, rN h189 h194 400000]
theorem b147_ok : MO 12 b147 := fc22 _ (by kernel_rfl)
def b151 : LR := [rY h191 h265 2000000 [[0, 1, 1], [1, 0, 0], [0, 0, 1]]]
theorem b151_ok : MO 12 b151 := fc22 _ (by kernel_rfl)
def b157 : LR := [rN h193 h194 400000]
theorem b157_ok : MO 12 b157 := fc22 _ (by kernel_rfl)
def b171 : LR := [rN h206 h208 400000]
theorem b171_ok : MO 12 b171 := fc24 _ (by kernel_rfl)
def b174 : LR := [rN h207 h208 400000, rN h207 h209 400000, rN h207 h210 400000, rN h207 h211 400000, rN h207 h212 400000, rN h207 h213 400000]
theorem b174_ok : MO 12 b174 := fc24 _ (by kernel_rfl)
def b184 : LR := [rY h212 h277 2000000 [[1, 0, 0], [0, 0, 1], [0, 2, 0]]]
theorem b184_ok : MO 12 b184 := fc24 _ (by kernel_rfl)
def b190 : LR := [rY h105 h219 2000000 [[0, 1, 1], [1, 0, 0], [0, 1, 0]]]
theorem b190_ok : MO 12 b190 := fc6 _ (by kernel_rfl)
def b196 : LR := [rY h121 h228 2000000 [[1, 1, 0], [0, 2, 0], [0, 0, 1]]]
theorem b196_ok : MO 12 b196 := fc10 _ (by kernel_rfl)
def b202 : LR := [rY h136 h238 2000000 [[1, 1, 0], [0, 0, 1], [0, 1, 0]]]
theorem b202_ok : MO 12 b202 := fc13 _ (by kernel_rfl)
def b208 : LR := [rY h159 h248 2000000 [[1, 1, 0], [0, 2, 0], [0, 0, 2]]]
theorem b208_ok : MO 12 b208 := fc17 _ (by kernel_rfl)
def b214 : LR := [rY h194 h270 2000000 [[1, 1, 1], [0, 2, 0], [0, 0, 1]]]
theorem b214_ok : MO 12 b214 := fc22 _ (by kernel_rfl)
end Go.Proofs.YthkpeakeoepocaaGreatDoor.AD

/- Results of isometry.Find, by the kernel (genall.py) -/
namespace Go.Proofs.YthkpeakeoepocaaGreatDoor.AD
set_option linter.unusedSimpArgs false
set_option linter.unusedVariables false
open Go Go.AL Go.Proofs U
set_option maxRecDepth 1000000
def b0 : LR := [rN h26 h27 400000]
theorem b0_ok : MO 12 b0 := fb0 _ (by kernel_rfl)
def b7 : LR := [rN h39 h40 400000, rN h39 h41 400000]
theorem b7_ok : MO 12 b7 := fb2 _ (by kernel_rfl)
def b8 : LR := [rN h40 h41 400000]
theorem b8_ok : MO 12 b8 := fb2 _ (by kernel_rfl)
def b20 : LR := [rN h58 h59 400000]
theorem b20_ok : MO 12 b20 := fb3 _ (by kernel_rfl)
def b24 : LR := [rN h64 h65 400000, rN h64 h66 400000]
theorem b24_ok : MO 12 b24 := fb4 _ (by kernel_rfl)
def b31 : LR := [rN h74 h75 400000, rN h74 h76 400000, rN h74 h77 400000]
theorem b31_ok : MO 12 b31 := fb4 _ (by kernel_rfl)
def b36 : LR := [rN h80 h81 400000]
theorem b36_ok : MO 12 b36 := fb5 _ (by kernel_rfl)
def b44 : LR := [rN h91 h92 400000, rN h91 h93 400000]
theorem b44_ok : MO 12 b44 := fb5 _ (by kernel_rfl)
def b49 : LR := [rN h101 h102 400000]
theorem b49_ok : MO 12 b49 := fc5 _ (by kernel_rfl)
def b62 : LR := [rN h118 h119 400000, rN h118 h120 400000, rN h118 h121 400000]
theorem b62_ok : MO 12 b62 := fc10 _ (by kernel_rfl)
def b63 : LR := [rN h119 h120 400000, rN h119 h121 400000]
theorem b63_ok : MO 12 b63 := fc10 _ (by kernel_rfl)
def b68 : LR := [rN h123 h124 400000]
theorem b68_ok : MO 12 b68 := fc11 _ (by kernel_rfl)
def b82 : LR := [rY h135 h235 2000000 [[1, 1, 1], [0, 2, 0], [0, 0, 1]]]
theorem b82_ok : MO 12 b82 := fc13 _ (by kernel_rfl)
def b93 : LR := [rN h148 h149 400000, rN h148 h150 400000, rN h148 h151 400000, rN h148 h152 400000, rN h148 h153 400000, rN h148 h154 400000, rN h148 h155 400000]
theorem b93_ok : MO 12 b93 := fc16 _ (by kernel_rfl)
def b95 : LR := [rN h150 h151 400000, rN h150 h152 400000, rN h150 h153 400000, rN h150 h154 400000, rN h150 h155 400000]
theorem b95_ok : MO 12 b95 := fc16 _ (by kernel_rfl)
def b96 : LR := [rN h151 h152 400000, rN h151 h153 400000, rN h151 h154 400000, rN h151 h155 400000]
theorem b96_ok : MO 12 b96 := fc16 _ (by kernel_rfl)
def b99 : LR := [rN h152 h154 400000, rN h152 h155 400000]
theorem b99_ok : MO 12 b99 := fc16 _ (by kernel_rfl)
def b103 : LR := [rY h153 h246 2000000 [[1, 1, 0], [0, 2, 0], [0, 0, 2]]]
theorem b103_ok : MO 12 b103 := fc16 _ (by kernel_rfl)
def b104 : LR := [rN h154 h155 400000]
theorem b104_ok : MO 12 b104 := fc16 _ (by kernel_rfl)
def b111 : LR := [rN h163 h164 400000, rN h163 h165 400000, rN h163 h166 400000]
theorem b111_ok : MO 12 b111 := fc18 _ (by kernel_rfl)
def b123 : LR := [rY h170 h253 2000000 [[1, 1, 0], [0, 2, 0], [0, 0, 2]]]
theorem b123_ok : MO 12 b123 := fc19 _ (by kernel_rfl)
def b138 : LR := [rN h182 h183 400000, rN h182 h184 400000, rN h182 h185 400000, rN h182 h186 400000, rN h182 h187 400000, rN h182 h188 400000]
theorem b138_ok : MO 12 b138 := fc21 _ (by kernel_rfl)
def b143 : LR := [rN h187 h188 400000]
theorem b143_ok : MO 12 b143 := fc21 _ (by kernel_rfl)
def b144 : LR := [rY h187 h260 2000000 [[1, 0, 1], [0, 1, 0], [0, 0, 1]]]
theorem b144_ok : MO 12 b144 := fc21 _ (by kernel_rfl)
def b145 : LR := [rN h189 h190 400000, rN h189 h191 400000]
theorem b145_ok : MO 12 b145 := fc22 _ (by kernel_rfl)
def b155 : LR := [rY h192 h268 2000000 [[1, 1, 1], [0, 2, 0], [0, 0, 1]]]
theorem b155_ok : MO 12 b155 := fc22 _ (by kernel_rfl)
def b158 : LR := [rN h195 h196 400000, rN h195 h197 400000, rN h195 h198 400000, rN h195 h199 400000]
theorem b158_ok : MO 12 b158 := fc23 _ (by kernel_rfl)
def b163 : LR := [rN h201 h202 400000, rN h201 h203 400000, rN h201 h204 400000, rN h201 h205 400000, rN h201 h206 400000, rN h201 h207 400000, rN h201 h208 400000, rN h201 h209 400000, rN h201 h210 400000, rN h201 h211 400000, rN h201 h212 400000, rN h201 h213 400000]
theorem b163_ok : MO 12 b163 := fc24 _ (by kernel_rfl)
def b164 : LR := [rN h202 h203 400000, rN h202 h204 400000, rN h202 h205 400000, rN h202 h206 400000, rN h202 h207 400000, rN h202 h208 400000, rN h202 h209 400000, rN h202 h210 400000, rN h202 h211 400000, rN h202 h212 400000, rN h202 h213 400000]
theorem b164_ok : MO 12 b164 := fc24 _ (by kernel_rfl)
def b175 : LR := [rN h208 h209 400000, rN h208 h210 400000, rN h208 h211 400000, rN h208 h212 400000, rN h208 h213 400000]
theorem b175_ok : MO 12 b175 := fc24 _ (by kernel_rfl)
def b180 : LR := [rY h211 h274 2000000 [[1, 1, 0], [0, 0, 1], [0, 1, 0]]]
theorem b180_ok : MO 12 b180 := fc24 _ (by kernel_rfl)
def b187 : LR := [rY h100 h216 2000000 [[1, 1, 2], [0, 0, 1], [1, 0, 2]]]
theorem b187_ok : MO 12 b187 := fc4 _ (by kernel_rfl)
def b193 : LR := [rY h108 h222 2000000 [[1, 1, 0], [0, 2, 0], [0, 0, 1]]]
theorem b193_ok : MO 12 b193 := fc7 _ (by kernel_rfl)
def b199 : LR := [rY h132 h232 2000000 [[1, 1, 1], [0, 0, 2], [0, 1, 0]]]
theorem b199_ok : MO 12 b199 := fc12 _ (by kernel_rfl)
def b205 : LR := [rY h146 h241 2000000 [[1, 0, 1], [0, 1, 0], [0, 0, 1]]]
theorem b205_ok : MO 12 b205 := fc15 _ (by kernel_rfl)
def b211 : LR := [rY h188 h262 2000000 [[0, 0, 1], [0, 1, 0], [1, 0, 0]]]
theorem b211_ok : MO 12 b211 := fc21 _ (by kernel_rfl)
end Go.Proofs.YthkpeakeoepocaaGreatDoor.AD
