/- Closed facts of the statement ConstructExists, first part. -/
import Derived.Test.YtgkpcjahopacjaaGreatDoorCards
import Derived.Test.YtgkpcjahopacjaaGreatDoorTie
import Derived.WalkKit
import Derived.ProofKit
import Derived.OpenShut
import Derived.JoinedOf
import Derived.Deep.DeepHandedRow
import Derived.Lib.LaidTab
namespace Go.Proofs.YtgkpcjahopacjaaGreatDoor.constructExists
set_option linter.unusedSimpArgs false
set_option linter.unusedVariables false
open Go Go.Proofs Go.ChangeShapes Go.WideShapes Go.ChangeAt Go.RowKit

set_option maxRecDepth 100000
set_option linter.unusedVariables false

theorem fa : Tryz.pinned.checked.prog.funcNamed Rows.constructExistsRow.func = some 3 := by kernel_rfl
theorem fc : Func.isInstance Tryz.pinned.checked.prog Tryz.f3 Rows.constructExistsRow.origin Rows.constructExistsRow.targs := of_decide_eq_true (by kernel_rfl)
theorem jl0 : (Rows.constructExistsRow.wf (OpenSpec.ofChange (OpenSpec.ofChange Rows.constructExistsSpec).bare)) = true := by kernel_rfl
theorem jl2 : (mapsRowed Tryz.pinned.checked.prog) = true := by kernel_rfl
theorem jl4 : (namedTie Tryz.pinned.checked.prog Rows.constructExistsRow.named (OpenSpec.ofChange Rows.constructExistsSpec).bare.vars) = true := by kernel_rfl
theorem jl6 : ((Tryz.pinned.checked.prog.stops == [])) = true := by kernel_rfl
theorem jl8 : ((Tryz.pinned.checked.prog.stopKnobs == [])) = true := by kernel_rfl
theorem jl10 : ((Rows.constructExistsRow.unfollowed == Tryz.pinned.checked.prog.unfollowed 3)) = true := by kernel_rfl
theorem jl12 : ((Rows.constructExistsRow.named == Tryz.pinned.checked.prog.varsNamed 3)) = true := by kernel_rfl
theorem jl14 : ((Rows.constructExistsRow.ifaces == (Tryz.f3.params.toList ++ (OpenSpec.ofChange Rows.constructExistsSpec).bare.plain.varTypes Tryz.pinned.checked.prog).any (Tryz.pinned.checked.prog.ifacesRec ·))) = true := by kernel_rfl
theorem jl16 : ((Rows.constructExistsRow.loops == (Tryz.f3.params.toList ++ (OpenSpec.ofChange Rows.constructExistsSpec).bare.plain.varTypes Tryz.pinned.checked.prog).any (Tryz.pinned.checked.prog.loopsFrom ·))) = true := by kernel_rfl
theorem jl18 : ((OpenSpec.ofChange Rows.constructExistsSpec).bare.vars.all (Tryz.pinned.checked.prog.varReadable ·)) = true := by kernel_rfl
theorem jl20 : ((Rows.constructExistsRow.ifacesOut == Tryz.f3.resultTypes.toList.any (Tryz.pinned.checked.prog.ifacesRec ·))) = true := by kernel_rfl
theorem jl22 : ((Rows.constructExistsRow.plainKeys == Tryz.pinned.checked.prog.plainKeys)) = true := by kernel_rfl
theorem jl24 : (Tryz.pinned.checked.prog.stopsHeard) = true := by kernel_rfl
theorem jl26 : ((Rows.constructExistsRow.lifted == Tryz.pinned.checked.prog.liftsFinal)) = true := by kernel_rfl
theorem jl28 : ((Rows.constructExistsRow.kinds == (if Rows.constructExistsRow.domain.isEmpty then [] else Tryz.f3.params.toList.map fun t => match Tryz.pinned.checked.prog.underlying t with | some (.int k) => some k | _ => none))) = true := by kernel_rfl
theorem jl30 : ((Rows.constructExistsRow.veiled == (Tryz.f3.params.toList ++ (OpenSpec.ofChange Rows.constructExistsSpec).bare.plain.varTypes Tryz.pinned.checked.prog ++ Tryz.f3.resultTypes.toList).any (Tryz.pinned.checked.prog.veiledRec ·))) = true := by kernel_rfl
end Go.Proofs.YtgkpcjahopacjaaGreatDoor.constructExists
