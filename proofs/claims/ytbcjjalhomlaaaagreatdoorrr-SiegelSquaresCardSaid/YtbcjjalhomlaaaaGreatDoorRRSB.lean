/- A mean of the law, by the evaluator. -/
import Derived.Test.YtbcjjalhomlaaaaGreatDoorRRSVB
namespace Go.Proofs.YtbcjjalhomlaaaaGreatDoorRR
set_option linter.unusedSimpArgs false
set_option linter.unusedVariables false
open Go Go.AL Go.Proofs
set_option maxRecDepth 1000000
theorem c36 : chkStr (frun (exT T 1000) 4 [I3, i64 6] []) [50,52] = true := by kernel_rfl
theorem s36 : Ret Tryz.prog G 4 [I3, i64 6] [] (str [50,52]) [] := str_run c36
end Go.Proofs.YtbcjjalhomlaaaaGreatDoorRR

/- A mean of the law, by the evaluator. -/
namespace Go.Proofs.YtbcjjalhomlaaaaGreatDoorRR
set_option linter.unusedSimpArgs false
set_option linter.unusedVariables false
open Go Go.AL Go.Proofs
set_option maxRecDepth 1000000
theorem c41 : chkStr (frun (exT T 1000) 4 [I4, i64 1] []) [56] = true := by kernel_rfl
theorem s41 : Ret Tryz.prog G 4 [I4, i64 1] [] (str [56]) [] := str_run c41
end Go.Proofs.YtbcjjalhomlaaaaGreatDoorRR

/- A mean of the law, by the evaluator. -/
namespace Go.Proofs.YtbcjjalhomlaaaaGreatDoorRR
set_option linter.unusedSimpArgs false
set_option linter.unusedVariables false
open Go Go.AL Go.Proofs
set_option maxRecDepth 1000000
theorem c51 : chkStr (frun (exT T 1000) 4 [I5, i64 1] []) [49,48] = true := by kernel_rfl
theorem s51 : Ret Tryz.prog G 4 [I5, i64 1] [] (str [49,48]) [] := str_run c51
end Go.Proofs.YtbcjjalhomlaaaaGreatDoorRR
