/- A mean of the law, by the evaluator. -/
import Derived.Test.YtbcjjalhomlaaaaGreatDoorRRSVB
namespace Go.Proofs.YtbcjjalhomlaaaaGreatDoorRR
set_option linter.unusedSimpArgs false
set_option linter.unusedVariables false
open Go Go.AL Go.Proofs
set_option maxRecDepth 1000000
theorem c31 : chkStr (frun (exT T 1000) 4 [I3, i64 1] []) [54] = true := by kernel_rfl
theorem s31 : Ret Tryz.prog G 4 [I3, i64 1] [] (str [54]) [] := str_run c31
end Go.Proofs.YtbcjjalhomlaaaaGreatDoorRR

/- A mean of the law, by the evaluator. -/
namespace Go.Proofs.YtbcjjalhomlaaaaGreatDoorRR
set_option linter.unusedSimpArgs false
set_option linter.unusedVariables false
open Go Go.AL Go.Proofs
set_option maxRecDepth 1000000
theorem c32 : chkStr (frun (exT T 1000) 4 [I3, i64 2] []) [49,50] = true := by kernel_rfl
theorem s32 : Ret Tryz.prog G 4 [I3, i64 2] [] (str [49,50]) [] := str_run c32
end Go.Proofs.YtbcjjalhomlaaaaGreatDoorRR

/- A mean of the law, by the evaluator. -/
namespace Go.Proofs.YtbcjjalhomlaaaaGreatDoorRR
set_option linter.unusedSimpArgs false
set_option linter.unusedVariables false
open Go Go.AL Go.Proofs
set_option maxRecDepth 1000000
theorem c33 : chkStr (frun (exT T 1000) 4 [I3, i64 3] []) [56] = true := by kernel_rfl
theorem s33 : Ret Tryz.prog G 4 [I3, i64 3] [] (str [56]) [] := str_run c33
end Go.Proofs.YtbcjjalhomlaaaaGreatDoorRR
