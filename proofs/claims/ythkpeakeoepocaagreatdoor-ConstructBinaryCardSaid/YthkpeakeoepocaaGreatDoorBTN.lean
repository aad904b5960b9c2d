/- The table of the fast evaluator, by program (gent.py). -/
import Derived.Test.YthkpeakeoepocaaGreatDoorBX
import Derived.Test.YthkpeakeoepocaaGreatDoorKI
namespace Go.Proofs.YthkpeakeoepocaaGreatDoor
set_option linter.unusedSimpArgs false
set_option linter.unusedVariables false
open Go Go.AL Go.Proofs
set_option maxRecDepth 100000
def nR : N16 Ent := ⟨.no, .no, .no, .no, .no, .no, .no, .no, .no, .no, .no, .no, .no, .no, .no, .no⟩
theorem nR_ok (g : Nat → Nat) : nR.All fun k e => EOT Tryz.prog G okB (g k) e := ⟨trivial, trivial, trivial, trivial, trivial, trivial, trivial, trivial, trivial, trivial, trivial, trivial, trivial, trivial, trivial, trivial⟩
def nRR : N16 (N16 Ent) := ⟨nR, nR, nR, nR, nR, nR, nR, nR, nR, nR, nR, nR, nR, nR, nR, nR⟩
theorem nRR_ok (g : Nat → Nat → Nat) : nRR.All fun j r => r.All fun k e => EOT Tryz.prog G okB (g j k) e := ⟨nR_ok _, nR_ok _, nR_ok _, nR_ok _, nR_ok _, nR_ok _, nR_ok _, nR_ok _, nR_ok _, nR_ok _, nR_ok _, nR_ok _, nR_ok _, nR_ok _, nR_ok _, nR_ok _⟩
noncomputable def w0 : N16 Ent := ⟨.no, .no, .no, .no, .no, .no, .no, .no, e8, e9, .no, .no, .no, .no, e14, e15⟩
theorem w0_ok : w0.All fun k e => EOT Tryz.prog G okB (256 * 0 + 16 * 0 + k) e := ⟨trivial, trivial, trivial, trivial, trivial, trivial, trivial, trivial, k8, k9, trivial, trivial, trivial, trivial, k14, k15⟩
noncomputable def w16 : N16 Ent := ⟨e16, e17, .no, .no, .no, .no, .no, .no, .no, .no, .no, (.known gSmall), (.known gMul), e29, e30, e31⟩
theorem w16_ok : w16.All fun k e => EOT Tryz.prog G okB (256 * 0 + 16 * 1 + k) e := ⟨k16, k17, trivial, trivial, trivial, trivial, trivial, trivial, trivial, trivial, trivial, gSmall_ok, gMul_ok, k29, k30, k31⟩
noncomputable def w32 : N16 Ent := ⟨e32, e33, .no, .no, .no, .no, .no, .no, .no, .no, .no, .no, .no, .no, .no, .no⟩
theorem w32_ok : w32.All fun k e => EOT Tryz.prog G okB (256 * 0 + 16 * 2 + k) e := ⟨k32, k33, trivial, trivial, trivial, trivial, trivial, trivial, trivial, trivial, trivial, trivial, trivial, trivial, trivial, trivial⟩
noncomputable def w48 : N16 Ent := ⟨.no, .no, .no, .no, .no, .no, .no, .no, .no, .no, .no, .no, .no, .no, e62, e63⟩
theorem w48_ok : w48.All fun k e => EOT Tryz.prog G okB (256 * 0 + 16 * 3 + k) e := ⟨trivial, trivial, trivial, trivial, trivial, trivial, trivial, trivial, trivial, trivial, trivial, trivial, trivial, trivial, k62, k63⟩
noncomputable def w64 : N16 Ent := ⟨e64, e65, e66, e67, e68, (.known gCmp), e70, e71, e72, e73, e74, .no, .no, .no, .no, .no⟩
theorem w64_ok : w64.All fun k e => EOT Tryz.prog G okB (256 * 0 + 16 * 4 + k) e := ⟨k64, k65, k66, k67, k68, gCmp_ok, k70, k71, k72, k73, k74, trivial, trivial, trivial, trivial, trivial⟩
noncomputable def w96 : N16 Ent := ⟨.no, .no, .no, .no, .no, .no, .no, e103, e104, e105, e106, (.known gSign), .no, e109, e110, e111⟩
theorem w96_ok : w96.All fun k e => EOT Tryz.prog G okB (256 * 0 + 16 * 6 + k) e := ⟨trivial, trivial, trivial, trivial, trivial, trivial, trivial, k103, k104, k105, k106, gSign_ok, trivial, k109, k110, k111⟩
noncomputable def w112 : N16 Ent := ⟨e112, e113, .no, e115, e116, (.known gNormalize), e118, e119, e120, e121, e122, (.known gInt64), .no, .no, .no, .no⟩
theorem w112_ok : w112.All fun k e => EOT Tryz.prog G okB (256 * 0 + 16 * 7 + k) e := ⟨k112, k113, trivial, k115, k116, gNormalize_ok, k118, k119, k120, k121, k122, gInt64_ok, trivial, trivial, trivial, trivial⟩
noncomputable def w144 : N16 Ent := ⟨.no, .no, .no, .no, .no, .no, .no, .no, .no, .no, .no, e155, e156, e157, e158, e159⟩
theorem w144_ok : w144.All fun k e => EOT Tryz.prog G okB (256 * 0 + 16 * 9 + k) e := ⟨trivial, trivial, trivial, trivial, trivial, trivial, trivial, trivial, trivial, trivial, trivial, k155, k156, k157, k158, k159⟩
noncomputable def w160 : N16 Ent := ⟨e160, e161, e162, e163, (.known gAdd), (.known gNeg), e166, (.known gSub), (.known gDivMod), .no, .no, .no, e172, e173, .no, .no⟩
theorem w160_ok : w160.All fun k e => EOT Tryz.prog G okB (256 * 0 + 16 * 10 + k) e := ⟨k160, k161, k162, k163, gAdd_ok, gNeg_ok, k166, gSub_ok, gDivMod_ok, trivial, trivial, trivial, k172, k173, trivial, trivial⟩
noncomputable def w192 : N16 Ent := ⟨.no, .no, .no, .no, .no, e197, .no, .no, .no, .no, .no, .no, .no, .no, .no, .no⟩
theorem w192_ok : w192.All fun k e => EOT Tryz.prog G okB (256 * 0 + 16 * 12 + k) e := ⟨trivial, trivial, trivial, trivial, trivial, k197, trivial, trivial, trivial, trivial, trivial, trivial, trivial, trivial, trivial, trivial⟩
noncomputable def v0 : N16 (N16 Ent) := ⟨w0, w16, w32, w48, w64, nR, w96, w112, nR, w144, w160, nR, w192, nR, nR, nR⟩
theorem v0_ok : v0.All fun j r => r.All fun k e => EOT Tryz.prog G okB (256 * 0 + 16 * j + k) e := ⟨w0_ok, w16_ok, w32_ok, w48_ok, w64_ok, nR_ok _, w96_ok, w112_ok, nR_ok _, w144_ok, w160_ok, nR_ok _, w192_ok, nR_ok _, nR_ok _, nR_ok _⟩
noncomputable def T : Tab := ⟨v0, nRR, nRR, nRR, nRR, nRR, nRR, nRR, nRR, nRR, nRR, nRR, nRR, nRR, nRR, nRR⟩
theorem T_ok : TOK Tryz.prog G okB T := ⟨v0_ok, nRR_ok _, nRR_ok _, nRR_ok _, nRR_ok _, nRR_ok _, nRR_ok _, nRR_ok _, nRR_ok _, nRR_ok _, nRR_ok _, nRR_ok _, nRR_ok _, nRR_ok _, nRR_ok _, nRR_ok _⟩
theorem run_ok {n f : Nat} {args : List AV} {H : Heap} {v : AV} {H' : Heap} (h : frun (exT T n) f args H = some (v, H')) : Ret Tryz.prog G f args H v H' := exT_sound okB_ok mixed T_ok n f args H v H' h
end Go.Proofs.YthkpeakeoepocaaGreatDoor

/- construct.Number by the evaluator: the form of a result. -/
namespace Go.Proofs.YthkpeakeoepocaaGreatDoor
set_option linter.unusedSimpArgs false
set_option linter.unusedVariables false
open Go Go.AL Go.Proofs
def i64 (n : Nat) : AV := .int .i64 (.ofNat n)
def chkN (r : O) (m : Nat) : Bool := match r with
  | some (.tup [.int .i64 (.ofNat k), .int .i64 (.ofNat 0)], []) => Nat.beq k m
  | _ => false
theorem chkN_ok {r : O} {m : Nat} (h : chkN r m = true) : r = some (.tup [i64 m, i64 0], []) := by
  unfold chkN at h
  split at h
  · rw [Nat.beq_eq] at h
    subst h
    rfl
  · simp at h
def Num (n d m : Nat) : Prop := Ret Tryz.prog G 9 [i64 n, i64 d] [] (.tup [i64 m, i64 0]) []
theorem n_run {n d m : Nat} (h : chkN (frun (exT T 1000) 9 [i64 n, i64 d] []) m = true) : Num n d m := run_ok (chkN_ok h)
end Go.Proofs.YthkpeakeoepocaaGreatDoor
