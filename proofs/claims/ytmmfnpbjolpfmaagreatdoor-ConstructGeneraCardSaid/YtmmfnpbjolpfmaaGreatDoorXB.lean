/- The base of the threaded code: the globals, the functions that stand behind function values. -/
import Derived.Test.YtmmfnpbjolpfmaaGreatDoorALY
import Derived.Test.YtmmfnpbjolpfmaaGreatDoorProg
import Derived.KernelRfl
namespace Go.Proofs.YtmmfnpbjolpfmaaGreatDoor
set_option linter.unusedSimpArgs false
set_option linter.unusedVariables false
open Go Go.AL Go.Proofs
set_option maxRecDepth 100000
def ca61478 : CC := (.reg [⟨(some 11), none, (.mov (.t 38))⟩] none)
def cb61478 : CC := (.block 1 (.seq (.reg [⟨(some 12), none, (.box (.k (.agg [(.int .i64 (.ofNat (nat_lit 0))), (.vec [] 0 (some 0))])))⟩] none) (.seq (.seq (.reg [⟨(some 40), none, (.mov (.t 11))⟩, ⟨(some 41), none, (.bin .eql (.t 40) (.k (.int .i64 (.ofNat (nat_lit 2)))))⟩] none) (.cond (.t 41) (.reg [⟨(some 43), none, (.load false 1 (.t 1))⟩, ⟨(some 44), none, (.call 27 [(.t 43)])⟩, ⟨(some 42), none, (.mov (.t 44))⟩, ⟨(some 45), none, (.ext (.t 42) 0)⟩, ⟨(some 46), none, (.ext (.t 42) 1)⟩, ⟨none, none, (.store 2 (.t 12) (.t 45))⟩] none) (.reg [⟨(some 48), none, (.load false 1 (.t 1))⟩, ⟨(some 49), none, (.mov (.t 11))⟩, ⟨(some 50), none, (.call 28 [(.t 48), (.t 49)])⟩, ⟨(some 47), none, (.mov (.t 50))⟩, ⟨(some 51), none, (.ext (.t 47) 0)⟩, ⟨(some 52), none, (.ext (.t 47) 1)⟩, ⟨none, none, (.store 2 (.t 12) (.t 51))⟩] none))) (.reg [⟨(some 53), none, (.fld 2 (.t 10))⟩, ⟨(some 54), none, (.load false 1 (.t 53))⟩, ⟨(some 55), none, (.load true 2 (.t 12))⟩, ⟨(some 56), none, (.bsl 1 2 [(.int .i64 (.ofNat (nat_lit 0))), (.vec [] 0 (some 0))] [(0, (2, (.t 55)))])⟩, ⟨(some 57), none, (.append 2 32 (.t 54) (.t 56))⟩, ⟨(some 58), none, (.fld 2 (.t 10))⟩, ⟨none, none, (.store 1 (.t 58) (.t 57))⟩] none))))
def ld61478 : LD := ⟨61478, 60, [38, 39], [1, 10], ca61478, cb61478⟩
def ca61483 : CC := (.seq (.reg [⟨(some 11), none, (.mov (.t 43))⟩] none) (.reg [⟨(some 12), none, (.mov (.t 44))⟩] none))
def cb61483 : CC := (.block 2 (.seq (.seq (.reg [⟨(some 45), none, (.mov (.t 12))⟩, ⟨(some 46), none, (.load false 1 (.t 9))⟩, ⟨(some 47), none, (.bin .gtr (.t 45) (.t 46))⟩] none) (.cond (.t 47) (.seq (.reg [⟨none, none, (.store 1 (.t 6) (.k (.vec [] 0 (some 0))))⟩, ⟨none, none, (.store 1 (.t 7) (.k (.int .i64 (.ofNat (nat_lit 9)))))⟩] none) .ret) .skip)) (.seq (.reg [⟨(some 48), none, (.load false 1 (.t 9))⟩, ⟨(some 49), none, (.mov (.t 12))⟩, ⟨(some 50), none, (.bin .sub (.t 48) (.t 49))⟩, ⟨none, none, (.store 1 (.t 9) (.t 50))⟩] none) (.reg [⟨(some 51), none, (.load false 1 (.t 8))⟩, ⟨(some 52), none, (.mov (.t 11))⟩, ⟨(some 53), none, (.bin .sub (.t 52) (.k (.int .i64 (.ofNat (nat_lit 1)))))⟩, ⟨(some 54), none, (.idx 1 (.t 51) (.t 53))⟩, ⟨(some 55), none, (.load false 1 (.t 54))⟩, ⟨(some 56), none, (.mov (.t 12))⟩, ⟨(some 57), none, (.bin .add (.t 55) (.t 56))⟩, ⟨(some 58), none, (.idx 1 (.t 51) (.t 53))⟩, ⟨none, none, (.store 1 (.t 58) (.t 57))⟩] none))))
def ld61483 : LD := ⟨61483, 60, [43, 44], [6, 7, 8, 9], ca61483, cb61483⟩
def G : Glob := mkG Tryz.prog [(0, [.int .i64 7, .int .i64 11, .int .i64 13, .int .i64 17, .int .i64 19, .int .i64 23, .int .i64 29, .int .i64 31]), (1, [.int .i64 1, .int .i64 3, .int .i64 9, .int .i64 27])] [ld61478, ld61483]
theorem la61478 : LoopAt Tryz.prog G 61478 60 [38, 39] (G.lv 61478) ca61478 cb61478 := loopAt_mk (d := ld61478) (by rfl) (by rfl) (by rfl) (by rfl)
theorem la61483 : LoopAt Tryz.prog G 61483 60 [43, 44] (G.lv 61483) ca61483 cb61483 := loopAt_mk (d := ld61483) (by rfl) (by rfl) (by rfl) (by rfl)
theorem mixed : Tryz.prog.follows .mixedOrders = true := by kernel_rfl
def okS : List Nat := [16, 20, 36, 38, 40, 43, 47, 48, 49, 63, 68, 74, 91, 92, 97, 116, 144, 148, 153, 162, 163, 167, 168, 201, 202, 209, 210, 220, 233, 239, 252, 255, 256, 263, 275, 278, 4095]
def okB (f : Nat) : Bool := hasN okS f
theorem okB_all : (okS.all fun f => okFn Tryz.prog f) = true := by kernel_rfl
theorem okB_ok : ∀ f, okB f = true → okFn Tryz.prog f = true := fun f h => List.all_eq_true.1 okB_all f (hasN_mem _ _ h)
end Go.Proofs.YtmmfnpbjolpfmaaGreatDoor
