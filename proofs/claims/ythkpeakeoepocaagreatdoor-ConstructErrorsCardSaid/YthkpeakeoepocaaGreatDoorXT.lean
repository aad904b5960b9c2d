/- The table of the fast evaluator, by program (gent.py). -/
import Derived.Test.YthkpeakeoepocaaGreatDoorX0
import Derived.Test.YthkpeakeoepocaaGreatDoorX1
import Derived.Test.YthkpeakeoepocaaGreatDoorX2
import Derived.Test.YthkpeakeoepocaaGreatDoorX3
import Derived.Test.YthkpeakeoepocaaGreatDoorKCLc
namespace Go.Proofs.YthkpeakeoepocaaGreatDoor
set_option linter.unusedSimpArgs false
set_option linter.unusedVariables false
open Go Go.AL Go.Proofs
set_option maxRecDepth 100000
def nR : N16 Ent := ⟨.no, .no, .no, .no, .no, .no, .no, .no, .no, .no, .no, .no, .no, .no, .no, .no⟩
theorem nR_ok (g : Nat → Nat) : nR.All fun k e => EOT Tryz.prog G okB (g k) e := ⟨trivial, trivial, trivial, trivial, trivial, trivial, trivial, trivial, trivial, trivial, trivial, trivial, trivial, trivial, trivial, trivial⟩
def nRR : N16 (N16 Ent) := ⟨nR, nR, nR, nR, nR, nR, nR, nR, nR, nR, nR, nR, nR, nR, nR, nR⟩
theorem nRR_ok (g : Nat → Nat → Nat) : nRR.All fun j r => r.All fun k e => EOT Tryz.prog G okB (g j k) e := ⟨nR_ok _, nR_ok _, nR_ok _, nR_ok _, nR_ok _, nR_ok _, nR_ok _, nR_ok _, nR_ok _, nR_ok _, nR_ok _, nR_ok _, nR_ok _, nR_ok _, nR_ok _, nR_ok _⟩
noncomputable def w0 : N16 Ent := ⟨.no, .no, .no, .no, .no, .no, .no, e7, e8, e9, .no, .no, .no, .no, e14, e15⟩
theorem w0_ok : w0.All fun k e => EOT Tryz.prog G okB (256 * 0 + 16 * 0 + k) e := ⟨trivial, trivial, trivial, trivial, trivial, trivial, trivial, k7, k8, k9, trivial, trivial, trivial, trivial, k14, k15⟩
noncomputable def w16 : N16 Ent := ⟨e16, e17, .no, .no, .no, .no, .no, .no, .no, .no, .no, e27, e28, e29, e30, e31⟩
theorem w16_ok : w16.All fun k e => EOT Tryz.prog G okB (256 * 0 + 16 * 1 + k) e := ⟨k16, k17, trivial, trivial, trivial, trivial, trivial, trivial, trivial, trivial, trivial, k27, k28, k29, k30, k31⟩
noncomputable def w32 : N16 Ent := ⟨e32, e33, .no, .no, .no, .no, .no, .no, .no, .no, .no, .no, .no, .no, .no, .no⟩
theorem w32_ok : w32.All fun k e => EOT Tryz.prog G okB (256 * 0 + 16 * 2 + k) e := ⟨k32, k33, trivial, trivial, trivial, trivial, trivial, trivial, trivial, trivial, trivial, trivial, trivial, trivial, trivial, trivial⟩
noncomputable def w48 : N16 Ent := ⟨.no, .no, .no, .no, .no, .no, .no, .no, .no, .no, e58, e59, e60, e61, e62, e63⟩
theorem w48_ok : w48.All fun k e => EOT Tryz.prog G okB (256 * 0 + 16 * 3 + k) e := ⟨trivial, trivial, trivial, trivial, trivial, trivial, trivial, trivial, trivial, trivial, k58, k59, k60, k61, k62, k63⟩
noncomputable def w64 : N16 Ent := ⟨e64, e65, e66, e67, e68, e69, e70, e71, e72, e73, e74, .no, .no, .no, .no, .no⟩
theorem w64_ok : w64.All fun k e => EOT Tryz.prog G okB (256 * 0 + 16 * 4 + k) e := ⟨k64, k65, k66, k67, k68, k69, k70, k71, k72, k73, k74, trivial, trivial, trivial, trivial, trivial⟩
noncomputable def w96 : N16 Ent := ⟨.no, .no, .no, .no, .no, .no, e102, e103, e104, e105, e106, e107, e108, e109, e110, e111⟩
theorem w96_ok : w96.All fun k e => EOT Tryz.prog G okB (256 * 0 + 16 * 6 + k) e := ⟨trivial, trivial, trivial, trivial, trivial, trivial, k102, k103, k104, k105, k106, k107, k108, k109, k110, k111⟩
noncomputable def w112 : N16 Ent := ⟨e112, e113, .no, e115, e116, e117, e118, e119, e120, e121, e122, e123, .no, .no, .no, .no⟩
theorem w112_ok : w112.All fun k e => EOT Tryz.prog G okB (256 * 0 + 16 * 7 + k) e := ⟨k112, k113, trivial, k115, k116, k117, k118, k119, k120, k121, k122, k123, trivial, trivial, trivial, trivial⟩
noncomputable def w144 : N16 Ent := ⟨.no, .no, .no, .no, .no, .no, .no, .no, .no, .no, .no, e155, e156, e157, e158, e159⟩
theorem w144_ok : w144.All fun k e => EOT Tryz.prog G okB (256 * 0 + 16 * 9 + k) e := ⟨trivial, trivial, trivial, trivial, trivial, trivial, trivial, trivial, trivial, trivial, trivial, k155, k156, k157, k158, k159⟩
noncomputable def w160 : N16 Ent := ⟨e160, e161, e162, e163, e164, e165, e166, e167, e168, .no, .no, (.known g171), e172, e173, .no, .no⟩
theorem w160_ok : w160.All fun k e => EOT Tryz.prog G okB (256 * 0 + 16 * 10 + k) e := ⟨k160, k161, k162, k163, k164, k165, k166, k167, k168, trivial, trivial, g171_ok, k172, k173, trivial, trivial⟩
noncomputable def w192 : N16 Ent := ⟨.no, .no, .no, .no, .no, e197, e198, e199, e200, e201, .no, .no, .no, .no, .no, .no⟩
theorem w192_ok : w192.All fun k e => EOT Tryz.prog G okB (256 * 0 + 16 * 12 + k) e := ⟨trivial, trivial, trivial, trivial, trivial, k197, k198, k199, k200, k201, trivial, trivial, trivial, trivial, trivial, trivial⟩
noncomputable def w208 : N16 Ent := ⟨.no, .no, .no, .no, .no, .no, .no, .no, .no, .no, .no, .no, .no, .no, .no, e223⟩
theorem w208_ok : w208.All fun k e => EOT Tryz.prog G okB (256 * 0 + 16 * 13 + k) e := ⟨trivial, trivial, trivial, trivial, trivial, trivial, trivial, trivial, trivial, trivial, trivial, trivial, trivial, trivial, trivial, k223⟩
noncomputable def w224 : N16 Ent := ⟨.no, e225, e226, e227, e228, e229, .no, .no, .no, .no, .no, .no, .no, .no, .no, .no⟩
theorem w224_ok : w224.All fun k e => EOT Tryz.prog G okB (256 * 0 + 16 * 14 + k) e := ⟨trivial, k225, k226, k227, k228, k229, trivial, trivial, trivial, trivial, trivial, trivial, trivial, trivial, trivial, trivial⟩
noncomputable def v0 : N16 (N16 Ent) := ⟨w0, w16, w32, w48, w64, nR, w96, w112, nR, w144, w160, nR, w192, w208, w224, nR⟩
theorem v0_ok : v0.All fun j r => r.All fun k e => EOT Tryz.prog G okB (256 * 0 + 16 * j + k) e := ⟨w0_ok, w16_ok, w32_ok, w48_ok, w64_ok, nR_ok _, w96_ok, w112_ok, nR_ok _, w144_ok, w160_ok, nR_ok _, w192_ok, w208_ok, w224_ok, nR_ok _⟩
noncomputable def T : Tab := ⟨v0, nRR, nRR, nRR, nRR, nRR, nRR, nRR, nRR, nRR, nRR, nRR, nRR, nRR, nRR, nRR⟩
theorem T_ok : TOK Tryz.prog G okB T := ⟨v0_ok, nRR_ok _, nRR_ok _, nRR_ok _, nRR_ok _, nRR_ok _, nRR_ok _, nRR_ok _, nRR_ok _, nRR_ok _, nRR_ok _, nRR_ok _, nRR_ok _, nRR_ok _, nRR_ok _, nRR_ok _⟩
theorem run_ok {n f : Nat} {args : List AV} {H : Heap} {v : AV} {H' : Heap} (h : frun (exT T n) f args H = some (v, H')) : Ret Tryz.prog G f args H v H' := exT_sound okB_ok mixed T_ok n f args H v H' h
end Go.Proofs.YthkpeakeoepocaaGreatDoor
