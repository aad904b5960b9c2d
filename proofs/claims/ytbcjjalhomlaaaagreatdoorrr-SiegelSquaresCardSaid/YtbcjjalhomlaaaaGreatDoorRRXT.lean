/- The table of the fast evaluator, by program (gent.py). -/
import Derived.Test.YtbcjjalhomlaaaaGreatDoorRRX0
import Derived.Test.YtbcjjalhomlaaaaGreatDoorRRX1
import Derived.Test.YtbcjjalhomlaaaaGreatDoorRRX2
import Derived.Test.YtbcjjalhomlaaaaGreatDoorRRKCF
import Derived.Test.YtbcjjalhomlaaaaGreatDoorRRKCL
namespace Go.Proofs.YtbcjjalhomlaaaaGreatDoorRR
set_option linter.unusedSimpArgs false
set_option linter.unusedVariables false
open Go Go.AL Go.Proofs
set_option maxRecDepth 100000
def nR : N16 Ent := ⟨.no, .no, .no, .no, .no, .no, .no, .no, .no, .no, .no, .no, .no, .no, .no, .no⟩
theorem nR_ok (g : Nat → Nat) : nR.All fun k e => EOT Tryz.prog G okB (g k) e := ⟨trivial, trivial, trivial, trivial, trivial, trivial, trivial, trivial, trivial, trivial, trivial, trivial, trivial, trivial, trivial, trivial⟩
def nRR : N16 (N16 Ent) := ⟨nR, nR, nR, nR, nR, nR, nR, nR, nR, nR, nR, nR, nR, nR, nR, nR⟩
theorem nRR_ok (g : Nat → Nat → Nat) : nRR.All fun j r => r.All fun k e => EOT Tryz.prog G okB (g j k) e := ⟨nR_ok _, nR_ok _, nR_ok _, nR_ok _, nR_ok _, nR_ok _, nR_ok _, nR_ok _, nR_ok _, nR_ok _, nR_ok _, nR_ok _, nR_ok _, nR_ok _, nR_ok _, nR_ok _⟩
noncomputable def w0 : N16 Ent := ⟨.no, .no, .no, e3, e4, e5, e6, e7, e8, e9, e10, e11, e12, e13, e14, e15⟩
theorem w0_ok : w0.All fun k e => EOT Tryz.prog G okB (256 * 0 + 16 * 0 + k) e := ⟨trivial, trivial, trivial, k3, k4, k5, k6, k7, k8, k9, k10, k11, k12, k13, k14, k15⟩
noncomputable def w16 : N16 Ent := ⟨e16, e17, e18, e19, e20, e21, e22, e23, e24, e25, e26, e27, e28, e29, e30, e31⟩
theorem w16_ok : w16.All fun k e => EOT Tryz.prog G okB (256 * 0 + 16 * 1 + k) e := ⟨k16, k17, k18, k19, k20, k21, k22, k23, k24, k25, k26, k27, k28, k29, k30, k31⟩
noncomputable def w32 : N16 Ent := ⟨e32, e33, e34, e35, e36, e37, e38, e39, e40, e41, e42, e43, e44, e45, e46, e47⟩
theorem w32_ok : w32.All fun k e => EOT Tryz.prog G okB (256 * 0 + 16 * 2 + k) e := ⟨k32, k33, k34, k35, k36, k37, k38, k39, k40, k41, k42, k43, k44, k45, k46, k47⟩
noncomputable def w48 : N16 Ent := ⟨e48, e49, e50, e51, e52, e53, e54, e55, e56, e57, e58, (.known g59), e60, e61, e62, e63⟩
theorem w48_ok : w48.All fun k e => EOT Tryz.prog G okB (256 * 0 + 16 * 3 + k) e := ⟨k48, k49, k50, k51, k52, k53, k54, k55, k56, k57, k58, g59_ok, k60, k61, k62, k63⟩
noncomputable def w64 : N16 Ent := ⟨e64, e65, e66, e67, e68, e69, e70, e71, e72, e73, e74, e75, e76, e77, e78, (.own g79b)⟩
theorem w64_ok : w64.All fun k e => EOT Tryz.prog G okB (256 * 0 + 16 * 4 + k) e := ⟨k64, k65, k66, k67, k68, k69, k70, k71, k72, k73, k74, k75, k76, k77, k78, g79b_ok⟩
noncomputable def w80 : N16 Ent := ⟨e80, e81, e82, e83, e84, e85, e86, e87, e88, e89, e90, e91, e92, e93, e94, e95⟩
theorem w80_ok : w80.All fun k e => EOT Tryz.prog G okB (256 * 0 + 16 * 5 + k) e := ⟨k80, k81, k82, k83, k84, k85, k86, k87, k88, k89, k90, k91, k92, k93, k94, k95⟩
noncomputable def w96 : N16 Ent := ⟨e96, e97, e98, e99, e100, e101, e102, e103, e104, e105, e106, e107, e108, .no, .no, .no⟩
theorem w96_ok : w96.All fun k e => EOT Tryz.prog G okB (256 * 0 + 16 * 6 + k) e := ⟨k96, k97, k98, k99, k100, k101, k102, k103, k104, k105, k106, k107, k108, trivial, trivial, trivial⟩
noncomputable def v0 : N16 (N16 Ent) := ⟨w0, w16, w32, w48, w64, w80, w96, nR, nR, nR, nR, nR, nR, nR, nR, nR⟩
theorem v0_ok : v0.All fun j r => r.All fun k e => EOT Tryz.prog G okB (256 * 0 + 16 * j + k) e := ⟨w0_ok, w16_ok, w32_ok, w48_ok, w64_ok, w80_ok, w96_ok, nR_ok _, nR_ok _, nR_ok _, nR_ok _, nR_ok _, nR_ok _, nR_ok _, nR_ok _, nR_ok _⟩
noncomputable def T : Tab := ⟨v0, nRR, nRR, nRR, nRR, nRR, nRR, nRR, nRR, nRR, nRR, nRR, nRR, nRR, nRR, nRR⟩
theorem T_ok : TOK Tryz.prog G okB T := ⟨v0_ok, nRR_ok _, nRR_ok _, nRR_ok _, nRR_ok _, nRR_ok _, nRR_ok _, nRR_ok _, nRR_ok _, nRR_ok _, nRR_ok _, nRR_ok _, nRR_ok _, nRR_ok _, nRR_ok _, nRR_ok _⟩
theorem run_ok {n f : Nat} {args : List AV} {H : Heap} {v : AV} {H' : Heap} (h : frun (exT T n) f args H = some (v, H')) : Ret Tryz.prog G f args H v H' := exT_sound okB_ok mixed T_ok n f args H v H' h
end Go.Proofs.YtbcjjalhomlaaaaGreatDoorRR
