/- Results of isometry.Find, by the kernel (genall.py) -/
import Derived.Test.YthkpeakeoepocaaGreatDoorQMX
namespace Go.Proofs.YthkpeakeoepocaaGreatDoor.AD
set_option linter.unusedSimpArgs false
set_option linter.unusedVariables false
open Go Go.AL Go.Proofs U
set_option maxRecDepth 1000000
def b4 : LR := [rN h34 h35 400000]
theorem b4_ok : MO 12 b4 := fb1 _ (by kernel_rfl)
def b15 : LR := [rN h51 h52 400000]
theorem b15_ok : MO 12 b15 := fb3 _ (by kernel_rfl)
def b19 : LR := [rN h57 h58 400000, rN h57 h59 400000]
theorem b19_ok : MO 12 b19 := fb3 _ (by kernel_rfl)
def b29 : LR := [rN h71 h72 400000]
theorem b29_ok : MO 12 b29 := fb4 _ (by kernel_rfl)
def b35 : LR := [rN h79 h80 400000, rN h79 h81 400000]
theorem b35_ok : MO 12 b35 := fb5 _ (by kernel_rfl)
def b42 : LR := [rN h89 h90 400000, rN h89 h91 400000, rN h89 h92 400000, rN h89 h93 400000]
theorem b42_ok : MO 12 b42 := fb5 _ (by kernel_rfl)
def b46 : LR := [rN h96 h97 400000]
theorem b46_ok : MO 12 b46 := fc3 _ (by kernel_rfl)
def b55 : LR := [rN h110 h111 400000, rN h110 h112 400000, rN h110 h113 400000]
theorem b55_ok : MO 12 b55 := fc8 _ (by kernel_rfl)
def b56 : LR := [rN h111 h112 400000, rN h111 h113 400000]
theorem b56_ok : MO 12 b56 := fc8 _ (by kernel_rfl)
def b61 : LR := [rN h116 h117 400000]
theorem b61_ok : MO 12 b61 := fc9 _ (by kernel_rfl)
def b65 : LR := [rY h120 h226 2000000 [[0, 1, 1], [1, 0, 0], [0, 0, 1]]]
theorem b65_ok : MO 12 b65 := fc10 _ (by kernel_rfl)
def b71 : LR := [rN h127 h128 400000, rN h127 h129 400000, rN h127 h130 400000, rN h127 h131 400000, rN h127 h132 400000]
theorem b71_ok : MO 12 b71 := fc12 _ (by kernel_rfl)
def b85 : LR := [rN h138 h139 400000, rN h138 h140 400000]
theorem b85_ok : MO 12 b85 := fc14 _ (by kernel_rfl)
def b86 : LR := [rN h139 h140 400000]
theorem b86_ok : MO 12 b86 := fc14 _ (by kernel_rfl)
def b89 : LR := [rN h143 h144 400000, rN h143 h145 400000, rN h143 h146 400000]
theorem b89_ok : MO 12 b89 := fc15 _ (by kernel_rfl)
def b92 : LR := [rN h147 h148 400000, rN h147 h149 400000, rN h147 h150 400000, rN h147 h151 400000, rN h147 h152 400000, rN h147 h153 400000, rN h147 h154 400000, rN h147 h155 400000]
theorem b92_ok : MO 12 b92 := fc16 _ (by kernel_rfl)
def b97 : LR := [rY h151 h243 2000000 [[1, 0, 1], [0, 1, 0], [0, 0, 1]]]
theorem b97_ok : MO 12 b97 := fc16 _ (by kernel_rfl)
def b113 : LR := [rY h163 h250 2000000 [[1, 0, 1], [0, 1, 0], [0, 0, 1]]]
theorem b113_ok : MO 12 b113 := fc18 _ (by kernel_rfl)
def b116 : LR := [rN h167 h168 400000, rN h167 h169 400000, rN h167 h170 400000, rN h167 h171 400000]
theorem b116_ok : MO 12 b116 := fc19 _ (by kernel_rfl)
def b120 : LR := [rN h170 h171 400000]
theorem b120_ok : MO 12 b120 := fc19 _ (by kernel_rfl)
def b126 : LR := [rN h174 h175 400000, rN h174 h176 400000, rN h174 h177 400000, rN h174 h178 400000, rN h174 h179 400000, rN h174 h180 400000, rN h174 h181 400000]
theorem b126_ok : MO 12 b126 := fc20 _ (by kernel_rfl)
def b128 : LR := [rN h176 h177 400000, rN h176 h178 400000, rN h176 h179 400000, rN h176 h180 400000, rN h176 h181 400000]
theorem b128_ok : MO 12 b128 := fc20 _ (by kernel_rfl)
def b132 : LR := [rN h179 h180 400000, rN h179 h181 400000]
theorem b132_ok : MO 12 b132 := fc20 _ (by kernel_rfl)
def b134 : LR := [rY h180 h256 2000000 [[1, 0, 1], [0, 1, 0], [0, 0, 1]]]
theorem b134_ok : MO 12 b134 := fc20 _ (by kernel_rfl)
def b149 : LR := [rN h191 h192 400000]
theorem b149_ok : MO 12 b149 := fc22 _ (by kernel_rfl)
def b159 : LR := [rN h196 h197 400000, rN h196 h198 400000, rN h196 h199 400000]
theorem b159_ok : MO 12 b159 := fc23 _ (by kernel_rfl)
def b160 : LR := [rN h197 h198 400000, rN h197 h199 400000]
theorem b160_ok : MO 12 b160 := fc23 _ (by kernel_rfl)
def b166 : LR := [rN h203 h208 400000]
theorem b166_ok : MO 12 b166 := fc24 _ (by kernel_rfl)
def b176 : LR := [rN h209 h210 400000, rN h209 h211 400000, rN h209 h212 400000, rN h209 h213 400000]
theorem b176_ok : MO 12 b176 := fc24 _ (by kernel_rfl)
def b181 : LR := [rN h212 h213 400000]
theorem b181_ok : MO 12 b181 := fc24 _ (by kernel_rfl)
def b183 : LR := [rY h212 h276 2000000 [[1, 0, 0], [0, 1, 0], [0, 0, 2]]]
theorem b183_ok : MO 12 b183 := fc24 _ (by kernel_rfl)
def b189 : LR := [rY h100 h218 2000000 [[1, 1, 1], [0, 0, 2], [1, 0, 1]]]
theorem b189_ok : MO 12 b189 := fc4 _ (by kernel_rfl)
def b195 : LR := [rY h108 h224 2000000 [[1, 1, 0], [0, 2, 0], [0, 0, 2]]]
theorem b195_ok : MO 12 b195 := fc7 _ (by kernel_rfl)
def b201 : LR := [rY h136 h237 2000000 [[1, 0, 1], [0, 1, 0], [0, 0, 1]]]
theorem b201_ok : MO 12 b201 := fc13 _ (by kernel_rfl)
def b207 : LR := [rY h159 h247 2000000 [[1, 1, 1], [0, 2, 0], [0, 0, 1]]]
theorem b207_ok : MO 12 b207 := fc17 _ (by kernel_rfl)
def b213 : LR := [rY h188 h264 2000000 [[0, 0, 2], [0, 1, 0], [1, 0, 0]]]
theorem b213_ok : MO 12 b213 := fc21 _ (by kernel_rfl)
end Go.Proofs.YthkpeakeoepocaaGreatDoor.AD

/- Results of isometry.Find, by the kernel (genall.py) -/
namespace Go.Proofs.YthkpeakeoepocaaGreatDoor.AD
set_option linter.unusedSimpArgs false
set_option linter.unusedVariables false
open Go Go.AL Go.Proofs U
set_option maxRecDepth 1000000
def b5 : LR := [rN h36 h37 400000, rN h36 h38 400000]
theorem b5_ok : MO 12 b5 := fb1 _ (by kernel_rfl)
def b6 : LR := [rN h37 h38 400000]
theorem b6_ok : MO 12 b6 := fb1 _ (by kernel_rfl)
def b17 : LR := [rN h54 h55 400000]
theorem b17_ok : MO 12 b17 := fb3 _ (by kernel_rfl)
def b21 : LR := [rN h60 h61 400000, rN h60 h62 400000, rN h60 h63 400000]
theorem b21_ok : MO 12 b21 := fb3 _ (by kernel_rfl)
def b22 : LR := [rN h61 h62 400000, rN h61 h63 400000]
theorem b22_ok : MO 12 b22 := fb3 _ (by kernel_rfl)
def b33 : LR := [rN h76 h77 400000]
theorem b33_ok : MO 12 b33 := fb4 _ (by kernel_rfl)
def b39 : LR := [rN h85 h86 400000, rN h85 h87 400000]
theorem b39_ok : MO 12 b39 := fb5 _ (by kernel_rfl)
def b48 : LR := [rN h99 h100 400000]
theorem b48_ok : MO 12 b48 := fc4 _ (by kernel_rfl)
def b59 : LR := [rN h114 h115 400000, rN h114 h116 400000, rN h114 h117 400000]
theorem b59_ok : MO 12 b59 := fc9 _ (by kernel_rfl)
def b60 : LR := [rN h115 h116 400000, rN h115 h117 400000]
theorem b60_ok : MO 12 b60 := fc9 _ (by kernel_rfl)
def b64 : LR := [rN h120 h121 400000]
theorem b64_ok : MO 12 b64 := fc10 _ (by kernel_rfl)
def b69 : LR := [rN h125 h126 400000, rN h125 h127 400000, rN h125 h128 400000, rN h125 h129 400000, rN h125 h130 400000, rN h125 h131 400000, rN h125 h132 400000]
theorem b69_ok : MO 12 b69 := fc12 _ (by kernel_rfl)
def b81 : LR := [rY h135 h234 2000000 [[1, 1, 0], [0, 2, 0], [0, 0, 1]]]
theorem b81_ok : MO 12 b81 := fc13 _ (by kernel_rfl)
def b87 : LR := [rN h141 h142 400000, rN h141 h143 400000, rN h141 h144 400000, rN h141 h145 400000, rN h141 h146 400000]
theorem b87_ok : MO 12 b87 := fc15 _ (by kernel_rfl)
def b88 : LR := [rN h142 h143 400000, rN h142 h144 400000, rN h142 h145 400000, rN h142 h146 400000]
theorem b88_ok : MO 12 b88 := fc15 _ (by kernel_rfl)
def b90 : LR := [rN h144 h145 400000, rN h144 h146 400000]
theorem b90_ok : MO 12 b90 := fc15 _ (by kernel_rfl)
def b91 : LR := [rN h145 h146 400000]
theorem b91_ok : MO 12 b91 := fc15 _ (by kernel_rfl)
def b102 : LR := [rY h153 h245 2000000 [[1, 1, 1], [0, 2, 0], [0, 0, 1]]]
theorem b102_ok : MO 12 b102 := fc16 _ (by kernel_rfl)
def b105 : LR := [rN h156 h157 400000, rN h156 h158 400000, rN h156 h159 400000]
theorem b105_ok : MO 12 b105 := fc17 _ (by kernel_rfl)
def b122 : LR := [rY h170 h252 2000000 [[1, 1, 1], [0, 2, 0], [0, 0, 1]]]
theorem b122_ok : MO 12 b122 := fc19 _ (by kernel_rfl)
def b124 : LR := [rN h172 h173 400000, rN h172 h174 400000, rN h172 h175 400000, rN h172 h176 400000, rN h172 h177 400000, rN h172 h178 400000, rN h172 h179 400000, rN h172 h180 400000, rN h172 h181 400000]
theorem b124_ok : MO 12 b124 := fc20 _ (by kernel_rfl)
def b127 : LR := [rN h175 h176 400000, rN h175 h177 400000, rN h175 h178 400000, rN h175 h179 400000, rN h175 h180 400000, rN h175 h181 400000]
theorem b127_ok : MO 12 b127 := fc20 _ (by kernel_rfl)
def b133 : LR := [rN h180 h181 400000]
theorem b133_ok : MO 12 b133 := fc20 _ (by kernel_rfl)
def b137 : LR := [rY h180 h259 2000000 [[1, 1, 1], [0, 0, 2], [0, 1, 1]]]
theorem b137_ok : MO 12 b137 := fc20 _ (by kernel_rfl)
def b142 : LR := [rN h186 h187 400000, rN h186 h188 400000]
theorem b142_ok : MO 12 b142 := fc21 _ (by kernel_rfl)
def b148 : LR := [rN h190 h191 400000, rN h190 h192 400000, rN h190 h193 400000, rN h190 h194 400000]
theorem b148_ok : MO 12 b148 := fc22 _ (by kernel_rfl)
def b154 : LR := [rY h192 h267 2000000 [[1, 1, 0], [0, 2, 0], [0, 0, 1]]]
theorem b154_ok : MO 12 b154 := fc22 _ (by kernel_rfl)
def b162 : LR := [rN h200 h201 400000, rN h200 h202 400000, rN h200 h203 400000, rN h200 h204 400000, rN h200 h205 400000, rN h200 h206 400000, rN h200 h207 400000, rN h200 h208 400000, rN h200 h209 400000, rN h200 h210 400000, rN h200 h211 400000, rN h200 h212 400000, rN h200 h213 400000]
theorem b162_ok : MO 12 b162 := fc24 _ (by kernel_rfl)
def b172 : LR := [rN h206 h209 400000, rN h206 h210 400000, rN h206 h211 400000, rN h206 h212 400000, rN h206 h213 400000]
theorem b172_ok : MO 12 b172 := fc24 _ (by kernel_rfl)
def b178 : LR := [rN h211 h212 400000, rN h211 h213 400000]
theorem b178_ok : MO 12 b178 := fc24 _ (by kernel_rfl)
def b179 : LR := [rY h211 h273 2000000 [[1, 1, 1], [0, 0, 2], [0, 1, 0]]]
theorem b179_ok : MO 12 b179 := fc24 _ (by kernel_rfl)
def b186 : LR := [rY h100 h215 2000000 [[1, 1, 0], [0, 0, 2], [1, 0, 0]]]
theorem b186_ok : MO 12 b186 := fc4 _ (by kernel_rfl)
def b192 : LR := [rY h105 h221 2000000 [[1, 1, 0], [0, 0, 1], [1, 0, 0]]]
theorem b192_ok : MO 12 b192 := fc6 _ (by kernel_rfl)
def b198 : LR := [rY h121 h230 2000000 [[1, 1, 0], [0, 2, 0], [0, 0, 2]]]
theorem b198_ok : MO 12 b198 := fc10 _ (by kernel_rfl)
def b204 : LR := [rY h140 h240 2000000 [[1, 0, 1], [0, 1, 0], [0, 0, 1]]]
theorem b204_ok : MO 12 b204 := fc14 _ (by kernel_rfl)
def b210 : LR := [rY h188 h261 2000000 [[1, 0, 0], [0, 2, 0], [0, 0, 2]]]
theorem b210_ok : MO 12 b210 := fc21 _ (by kernel_rfl)
end Go.Proofs.YthkpeakeoepocaaGreatDoor.AD
