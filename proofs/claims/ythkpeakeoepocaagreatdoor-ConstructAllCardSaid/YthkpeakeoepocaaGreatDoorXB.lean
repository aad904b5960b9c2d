/- The base of the threaded code: the globals, the functions that stand behind function values. -/
import Derived.Test.YthkpeakeoepocaaGreatDoorAL55
import Derived.Test.YthkpeakeoepocaaGreatDoorProg
import Derived.KernelRfl
namespace Go.Proofs.YthkpeakeoepocaaGreatDoor
set_option linter.unusedSimpArgs false
set_option linter.unusedVariables false
open Go Go.AL Go.Proofs
set_option maxRecDepth 100000
def ca61483 : CC := (.seq (.reg [⟨(some 11), none, (.mov (.t 43))⟩] none) (.reg [⟨(some 12), none, (.mov (.t 44))⟩] none))
def cb61483 : CC := (.block 2 (.seq (.seq (.reg [⟨(some 45), none, (.mov (.t 12))⟩, ⟨(some 46), none, (.load false 1 (.t 9))⟩, ⟨(some 47), none, (.bin .gtr (.t 45) (.t 46))⟩] none) (.cond (.t 47) (.seq (.reg [⟨none, none, (.store 1 (.t 6) (.k (.vec [] 0 (some 0))))⟩, ⟨none, none, (.store 1 (.t 7) (.k (.int .i64 (.ofNat (nat_lit 9)))))⟩] none) .ret) .skip)) (.seq (.reg [⟨(some 48), none, (.load false 1 (.t 9))⟩, ⟨(some 49), none, (.mov (.t 12))⟩, ⟨(some 50), none, (.bin .sub (.t 48) (.t 49))⟩, ⟨none, none, (.store 1 (.t 9) (.t 50))⟩] none) (.reg [⟨(some 51), none, (.load false 1 (.t 8))⟩, ⟨(some 52), none, (.mov (.t 11))⟩, ⟨(some 53), none, (.bin .sub (.t 52) (.k (.int .i64 (.ofNat (nat_lit 1)))))⟩, ⟨(some 54), none, (.idx 1 (.t 51) (.t 53))⟩, ⟨(some 55), none, (.load false 1 (.t 54))⟩, ⟨(some 56), none, (.mov (.t 12))⟩, ⟨(some 57), none, (.bin .add (.t 55) (.t 56))⟩, ⟨(some 58), none, (.idx 1 (.t 51) (.t 53))⟩, ⟨none, none, (.store 1 (.t 58) (.t 57))⟩] none))))
def ld61483 : LD := ⟨61483, 60, [43, 44], [6, 7, 8, 9], ca61483, cb61483⟩
def G : Glob := mkG Tryz.prog [(0, [.int .i64 1, .int .i64 3, .int .i64 9, .int .i64 27])] [ld61483]
theorem la61483 : LoopAt Tryz.prog G 61483 60 [43, 44] (G.lv 61483) ca61483 cb61483 := loopAt_mk (d := ld61483) (by rfl) (by rfl) (by rfl) (by rfl)
theorem mixed : Tryz.prog.follows .mixedOrders = true := by kernel_rfl
def okS : List Nat := [67, 97, 111, 116, 122, 160, 161, 172, 173, 177, 178, 185, 197, 210, 213, 4095]
def okB (f : Nat) : Bool := hasN okS f
theorem okB_all : (okS.all fun f => okFn Tryz.prog f) = true := by kernel_rfl
theorem okB_ok : ∀ f, okB f = true → okFn Tryz.prog f = true := fun f h => List.all_eq_true.1 okB_all f (hasN_mem _ _ h)
end Go.Proofs.YthkpeakeoepocaaGreatDoor
