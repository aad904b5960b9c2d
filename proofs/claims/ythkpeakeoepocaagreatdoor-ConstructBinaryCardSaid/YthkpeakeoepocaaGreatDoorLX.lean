/- The numbers of classes of dimension 2 and determinants 1 to 200, as an entry of the evaluator (gennb.py). -/
import Derived.Test.YthkpeakeoepocaaGreatDoorNA
import Derived.Test.YthkpeakeoepocaaGreatDoorNB
import Derived.Test.YthkpeakeoepocaaGreatDoorNC
import Derived.Test.YthkpeakeoepocaaGreatDoorND
import Derived.Test.YthkpeakeoepocaaGreatDoorL0
namespace Go.Proofs.YthkpeakeoepocaaGreatDoor
set_option linter.unusedSimpArgs false
set_option linter.unusedVariables false
open Go Go.AL Go.Proofs
set_option maxRecDepth 100000
def numL : List Nat := [1, 1, 2, 2, 2, 2, 2, 3, 3, 2, 3, 4, 2, 3, 4, 4, 3, 3, 3, 5, 4, 2, 4, 6, 3, 4, 5, 4, 4, 4, 4, 6, 4, 3, 6, 7, 2, 4, 6, 6, 5, 4, 3, 7, 6, 3, 6, 8, 4, 5, 6, 5, 4, 6, 6, 9, 4, 2, 7, 8, 4, 5, 8, 7, 6, 6, 3, 8, 6, 4, 8, 9, 3, 6, 8, 7, 6, 4, 6, 11, 7, 3, 7, 10, 4, 6, 8, 6, 7, 8, 6, 8, 4, 5, 10, 12, 3, 6, 9, 7, 8, 4, 6, 12, 8, 4, 7, 11, 4, 8, 10, 8, 5, 6, 6, 11, 8, 4, 12, 12, 5, 6, 6, 8, 8, 9, 6, 11, 8, 4, 11, 10, 4, 8, 12, 9, 5, 6, 7, 14, 6, 3, 12, 15, 6, 9, 8, 5, 8, 8, 8, 12, 9, 6, 10, 12, 4, 5, 12, 12, 10, 7, 3, 14, 8, 6, 12, 12, 5, 8, 13, 7, 8, 8, 10, 15, 4, 5, 11, 15, 6, 8, 10, 9, 10, 8, 6, 12, 12, 4, 14, 14, 3, 11, 12, 10, 6, 8, 10, 15]
def NumsFrom (s : Nat) : List Nat → Prop
  | [] => True
  | m :: l => Num 2 s m ∧ NumsFrom (s + 1) l
theorem nums : NumsFrom 1 numL := ⟨n2_1, n2_2, n2_3, n2_4, n2_5, n2_6, n2_7, n2_8, n2_9, n2_10, n2_11, n2_12, n2_13, n2_14, n2_15, n2_16, n2_17, n2_18, n2_19, n2_20, n2_21, n2_22, n2_23, n2_24, n2_25, n2_26, n2_27, n2_28, n2_29, n2_30, n2_31, n2_32, n2_33, n2_34, n2_35, n2_36, n2_37, n2_38, n2_39, n2_40, n2_41, n2_42, n2_43, n2_44, n2_45, n2_46, n2_47, n2_48, n2_49, n2_50, n2_51, n2_52, n2_53, n2_54, n2_55, n2_56, n2_57, n2_58, n2_59, n2_60, n2_61, n2_62, n2_63, n2_64, n2_65, n2_66, n2_67, n2_68, n2_69, n2_70, n2_71, n2_72, n2_73, n2_74, n2_75, n2_76, n2_77, n2_78, n2_79, n2_80, n2_81, n2_82, n2_83, n2_84, n2_85, n2_86, n2_87, n2_88, n2_89, n2_90, n2_91, n2_92, n2_93, n2_94, n2_95, n2_96, n2_97, n2_98, n2_99, n2_100, n2_101, n2_102, n2_103, n2_104, n2_105, n2_106, n2_107, n2_108, n2_109, n2_110, n2_111, n2_112, n2_113, n2_114, n2_115, n2_116, n2_117, n2_118, n2_119, n2_120, n2_121, n2_122, n2_123, n2_124, n2_125, n2_126, n2_127, n2_128, n2_129, n2_130, n2_131, n2_132, n2_133, n2_134, n2_135, n2_136, n2_137, n2_138, n2_139, n2_140, n2_141, n2_142, n2_143, n2_144, n2_145, n2_146, n2_147, n2_148, n2_149, n2_150, n2_151, n2_152, n2_153, n2_154, n2_155, n2_156, n2_157, n2_158, n2_159, n2_160, n2_161, n2_162, n2_163, n2_164, n2_165, n2_166, n2_167, n2_168, n2_169, n2_170, n2_171, n2_172, n2_173, n2_174, n2_175, n2_176, n2_177, n2_178, n2_179, n2_180, n2_181, n2_182, n2_183, n2_184, n2_185, n2_186, n2_187, n2_188, n2_189, n2_190, n2_191, n2_192, n2_193, n2_194, n2_195, n2_196, n2_197, n2_198, n2_199, n2_200, trivial⟩
theorem nums_get : ∀ (l : List Nat) (s i m : Nat), NumsFrom s l → l[i]? = some m → Num 2 (s + i) m
  | [], _, _, _, _, h => by simp at h
  | a :: l, s, 0, m, hn, h => by
    simp only [List.getElem?_cons_zero, Option.some.injEq] at h
    subst h
    exact hn.1
  | a :: l, s, i + 1, m, hn, h => by
    simp only [List.getElem?_cons_succ] at h
    have := nums_get l (s + 1) i m hn.2 h
    rwa [show s + 1 + i = s + (i + 1) by omega] at this
def lookN : List Nat → Nat → Option Nat
  | [], _ => none
  | a :: l, i => match i with
    | 0 => some a
    | i + 1 => lookN l i
theorem lookN_eq : ∀ (l : List Nat) (i : Nat), lookN l i = l[i]?
  | [], _ => by simp [lookN]
  | a :: l, 0 => by simp [lookN]
  | a :: l, i + 1 => by simp [lookN, lookN_eq l i]
def outN (m : Option Nat) : O := match m with
  | some m => some (.tup [i64 m, i64 0], [])
  | none => none
def g9b (n d : Nat) : O := match n, d with
  | 2, d + 1 => outN (lookN numL d)
  | 3, 1 => outN (some 1)
  | _, _ => none
def g9 (args : List AV) (H : Heap) : O := match args, H with
  | [.int .i64 (.ofNat n), .int .i64 (.ofNat d)], [] => g9b n d
  | _, _ => none
theorem outN_inv {m : Option Nat} {v : AV} {H : Heap} (h : outN m = some (v, H)) : ∃ k, m = some k ∧ v = .tup [i64 k, i64 0] ∧ H = [] := by
  unfold outN at h
  split at h
  · rename_i k
    simp only [Option.some.injEq, Prod.mk.injEq] at h
    exact ⟨k, rfl, h.1.symm, h.2.symm⟩
  · simp at h
theorem g9_ok : EOT Tryz.prog G okB 9 (.known g9) := by
  intro args H v H' h
  unfold g9 at h
  split at h
  · unfold g9b at h
    split at h
    · rename_i d
      obtain ⟨k, hk, rfl, rfl⟩ := outN_inv h
      rw [lookN_eq] at hk
      have := nums_get numL 1 d k nums hk
      rw [Nat.add_comm] at this
      exact this
    · obtain ⟨k, hk, rfl, rfl⟩ := outN_inv h
      simp only [Option.some.injEq] at hk
      subst hk
      exact n3_1
    · simp at h
  · simp at h
end Go.Proofs.YthkpeakeoepocaaGreatDoor

/- The table of the fast evaluator, by program (gent.py). -/
namespace Go.Proofs.YthkpeakeoepocaaGreatDoor.LB
set_option linter.unusedSimpArgs false
set_option linter.unusedVariables false
open Go Go.AL Go.Proofs
set_option maxRecDepth 100000
def nR : N16 Ent := ⟨.no, .no, .no, .no, .no, .no, .no, .no, .no, .no, .no, .no, .no, .no, .no, .no⟩
theorem nR_ok (g : Nat → Nat) : nR.All fun k e => EOT Tryz.prog G okB (g k) e := ⟨trivial, trivial, trivial, trivial, trivial, trivial, trivial, trivial, trivial, trivial, trivial, trivial, trivial, trivial, trivial, trivial⟩
def nRR : N16 (N16 Ent) := ⟨nR, nR, nR, nR, nR, nR, nR, nR, nR, nR, nR, nR, nR, nR, nR, nR⟩
theorem nRR_ok (g : Nat → Nat → Nat) : nRR.All fun j r => r.All fun k e => EOT Tryz.prog G okB (g j k) e := ⟨nR_ok _, nR_ok _, nR_ok _, nR_ok _, nR_ok _, nR_ok _, nR_ok _, nR_ok _, nR_ok _, nR_ok _, nR_ok _, nR_ok _, nR_ok _, nR_ok _, nR_ok _, nR_ok _⟩
noncomputable def w0 : N16 Ent := ⟨.no, .no, .no, .no, .no, e5, .no, e7, .no, (.known g9), .no, .no, .no, .no, .no, .no⟩
theorem w0_ok : w0.All fun k e => EOT Tryz.prog G okB (256 * 0 + 16 * 0 + k) e := ⟨trivial, trivial, trivial, trivial, trivial, k5, trivial, k7, trivial, g9_ok, trivial, trivial, trivial, trivial, trivial, trivial⟩
noncomputable def v0 : N16 (N16 Ent) := ⟨w0, nR, nR, nR, nR, nR, nR, nR, nR, nR, nR, nR, nR, nR, nR, nR⟩
theorem v0_ok : v0.All fun j r => r.All fun k e => EOT Tryz.prog G okB (256 * 0 + 16 * j + k) e := ⟨w0_ok, nR_ok _, nR_ok _, nR_ok _, nR_ok _, nR_ok _, nR_ok _, nR_ok _, nR_ok _, nR_ok _, nR_ok _, nR_ok _, nR_ok _, nR_ok _, nR_ok _, nR_ok _⟩
noncomputable def T : Tab := ⟨v0, nRR, nRR, nRR, nRR, nRR, nRR, nRR, nRR, nRR, nRR, nRR, nRR, nRR, nRR, nRR⟩
theorem T_ok : TOK Tryz.prog G okB T := ⟨v0_ok, nRR_ok _, nRR_ok _, nRR_ok _, nRR_ok _, nRR_ok _, nRR_ok _, nRR_ok _, nRR_ok _, nRR_ok _, nRR_ok _, nRR_ok _, nRR_ok _, nRR_ok _, nRR_ok _, nRR_ok _⟩
theorem run_ok {n f : Nat} {args : List AV} {H : Heap} {v : AV} {H' : Heap} (h : frun (exT T n) f args H = some (v, H')) : Ret Tryz.prog G f args H v H' := exT_sound okB_ok mixed T_ok n f args H v H' h
end Go.Proofs.YthkpeakeoepocaaGreatDoor.LB

/- The law ConstructBinary at one argument: the form of its answer. -/
namespace Go.Proofs.YthkpeakeoepocaaGreatDoor.LB
set_option linter.unusedSimpArgs false
set_option linter.unusedVariables false
open Go Go.AL Go.Proofs
set_option maxRecDepth 1000000
def chkB (r : O) : Bool := match r with
  | some (.bool true, []) => true
  | _ => false
theorem chkB_ok {r : O} (h : chkB r = true) : r = some (.bool true, []) := by
  unfold chkB at h
  split at h
  · rfl
  · simp at h
def B (n : Nat) : Prop := Ret Tryz.prog G 5 [.int .u8 (.ofNat n)] [] (.bool true) []
theorem b_run {n : Nat} (h : chkB (frun (exT T 1000) 5 [.int .u8 (.ofNat n)] []) = true) : B n := run_ok (chkB_ok h)
def AllB (s : Nat) : Nat → Prop
  | 0 => True
  | k + 1 => B s ∧ AllB (s + 1) k
theorem allB_get : ∀ (k s i : Nat), AllB s k → i < k → B (s + i)
  | 0, _, _, _, h => absurd h (by omega)
  | k + 1, s, 0, hb, _ => hb.1
  | k + 1, s, i + 1, hb, h => by
    have := allB_get k (s + 1) i hb.2 (by omega)
    rwa [show s + 1 + i = s + (i + 1) by omega] at this
end Go.Proofs.YthkpeakeoepocaaGreatDoor.LB
