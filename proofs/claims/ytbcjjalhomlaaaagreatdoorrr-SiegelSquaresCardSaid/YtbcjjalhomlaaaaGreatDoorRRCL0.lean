/- The compiled code of some functions, by program (gencode.py). -/
import Derived.Test.YtbcjjalhomlaaaaGreatDoorRRAL24
import Derived.Test.YtbcjjalhomlaaaaGreatDoorRRXB
import Derived.KernelRfl

namespace Go.Proofs.YtbcjjalhomlaaaaGreatDoorRR
set_option linter.unusedSimpArgs false
set_option linter.unusedVariables false
open Go Go.AL Go.Proofs
set_option maxRecDepth 100000
-- quadformlaw40.SiegelSquares (function 3)
def r3_0 : List COp := [⟨(some 0), none, (.mov (.k (.bool false)))⟩]
def r3_1 : List COp := [⟨(some 1), none, (.call 5 [(.k (.int .i64 3))])⟩, ⟨(some 2), none, (.call 4 [(.t 1), (.k (.int .i64 1))])⟩, ⟨(some 3), none, (.bin .eql (.t 2) (.k (.str (ByteArray.mk ([54] : List UInt8).toArray))))⟩, ⟨(some 4), none, (.mov (.t 3))⟩, ⟨(some 5), (some (4, true)), (.call 5 [(.k (.int .i64 3))])⟩, ⟨(some 6), (some (4, true)), (.call 4 [(.t 5), (.k (.int .i64 2))])⟩, ⟨(some 7), (some (4, true)), (.bin .eql (.t 6) (.k (.str (ByteArray.mk ([49, 50] : List UInt8).toArray))))⟩, ⟨(some 8), none, (.pick (.t 4) (.t 7) (.k (.bool false)))⟩, ⟨(some 9), none, (.mov (.t 8))⟩, ⟨(some 10), (some (9, true)), (.call 5 [(.k (.int .i64 3))])⟩, ⟨(some 11), (some (9, true)), (.call 4 [(.t 10), (.k (.int .i64 3))])⟩, ⟨(some 12), (some (9, true)), (.bin .eql (.t 11) (.k (.str (ByteArray.mk ([56] : List UInt8).toArray))))⟩, ⟨(some 13), none, (.pick (.t 9) (.t 12) (.k (.bool false)))⟩, ⟨(some 14), none, (.mov (.t 13))⟩, ⟨(some 15), (some (14, true)), (.call 5 [(.k (.int .i64 3))])⟩, ⟨(some 16), (some (14, true)), (.call 4 [(.t 15), (.k (.int .i64 6))])⟩, ⟨(some 17), (some (14, true)), (.bin .eql (.t 16) (.k (.str (ByteArray.mk ([50, 52] : List UInt8).toArray))))⟩, ⟨(some 18), none, (.pick (.t 14) (.t 17) (.k (.bool false)))⟩, ⟨(some 19), none, (.mov (.t 18))⟩, ⟨(some 20), (some (19, true)), (.call 5 [(.k (.int .i64 4))])⟩, ⟨(some 21), (some (19, true)), (.call 4 [(.t 20), (.k (.int .i64 1))])⟩, ⟨(some 22), (some (19, true)), (.bin .eql (.t 21) (.k (.str (ByteArray.mk ([56] : List UInt8).toArray))))⟩, ⟨(some 23), none, (.pick (.t 19) (.t 22) (.k (.bool false)))⟩, ⟨(some 24), none, (.mov (.t 23))⟩, ⟨(some 25), (some (24, true)), (.call 5 [(.k (.int .i64 5))])⟩, ⟨(some 26), (some (24, true)), (.call 4 [(.t 25), (.k (.int .i64 1))])⟩, ⟨(some 27), (some (24, true)), (.bin .eql (.t 26) (.k (.str (ByteArray.mk ([49, 48] : List UInt8).toArray))))⟩, ⟨(some 28), none, (.pick (.t 24) (.t 27) (.k (.bool false)))⟩, ⟨(some 29), none, (.mov (.t 28))⟩, ⟨(some 30), (some (29, true)), (.call 6 [])⟩, ⟨(some 31), none, (.pick (.t 29) (.t 30) (.k (.bool false)))⟩, ⟨(some 0), none, (.mov (.t 31))⟩]
def c3 : CC := (.seq (.reg r3_0 none) (.seq (.reg r3_1 none) .ret))
theorem comp3 : Tryz.f3.body.bind (compC Tryz.prog G Tryz.f3.ntmps) = some c3 := by kernel_rfl
theorem res3 : Tryz.f3.results.toList = [(.tmp 0)] := by kernel_rfl
-- quadformlaw40.awake (function 6)
def r6_0 : List COp := [⟨(some 0), none, (.mov (.k (.bool false)))⟩]
def r6_1 : List COp := [⟨(some 1), none, (.call 5 [(.k (.int .i64 3))])⟩, ⟨(some 2), none, (.call 4 [(.t 1), (.k (.int .i64 1))])⟩, ⟨(some 3), none, (.bin .eql (.t 2) (.k (.str (ByteArray.mk ([54] : List UInt8).toArray))))⟩, ⟨(some 4), none, (.mov (.t 3))⟩, ⟨(some 5), (some (4, true)), (.call 5 [(.k (.int .i64 4))])⟩, ⟨(some 6), (some (4, true)), (.call 4 [(.t 5), (.k (.int .i64 1))])⟩, ⟨(some 7), (some (4, true)), (.bin .eql (.t 6) (.k (.str (ByteArray.mk ([56] : List UInt8).toArray))))⟩, ⟨(some 8), none, (.pick (.t 4) (.t 7) (.k (.bool false)))⟩, ⟨(some 0), none, (.mov (.t 8))⟩]
def c6 : CC := (.seq (.reg r6_0 none) (.seq (.reg r6_1 none) .ret))
theorem comp6 : Tryz.f6.body.bind (compC Tryz.prog G Tryz.f6.ntmps) = some c6 := by kernel_rfl
theorem res6 : Tryz.f6.results.toList = [(.tmp 0)] := by kernel_rfl
end Go.Proofs.YtbcjjalhomlaaaaGreatDoorRR
