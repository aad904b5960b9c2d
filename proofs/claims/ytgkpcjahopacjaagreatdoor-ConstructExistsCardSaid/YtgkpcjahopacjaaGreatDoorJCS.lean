/- Closed facts of the statement ConstructExists, second part. -/
import Derived.Test.YtgkpcjahopacjaaGreatDoorCards
import Derived.Test.YtgkpcjahopacjaaGreatDoorTie
import Derived.WalkKit
import Derived.ProofKit
import Derived.OpenShut
import Derived.JoinedOf
import Derived.Deep.DeepHandedRow
import Derived.Lib.LaidTab
namespace Go.Proofs.YtgkpcjahopacjaaGreatDoor.constructExists
set_option linter.unusedSimpArgs false
set_option linter.unusedVariables false
open Go Go.Proofs Go.ChangeShapes Go.WideShapes Go.ChangeAt Go.RowKit

set_option maxRecDepth 100000
set_option linter.unusedVariables false

theorem cw : Rows.constructExistsRow.wfByText (OpenSpec.ofChange Rows.constructExistsSpec) = true := by kernel_rfl
theorem cg : false = Rows.constructExistsRow.goesBy Tryz.pinned.checked.prog := by kernel_rfl
theorem jl1 : (laidOutB Tryz.pinned.checked.prog) = true := by kernel_rfl
theorem jl3 : (Tryz.f3.params.all (Tryz.pinned.checked.prog.readableRec ·)) = true := by kernel_rfl
theorem jl5 : ((Rows.constructExistsRow.stops == [])) = true := by kernel_rfl
theorem jl7 : ((Rows.constructExistsRow.knobs == [])) = true := by kernel_rfl
theorem jl9 : ((Rows.constructExistsRow.inPlace == Tryz.pinned.checked.prog.inPlace 3)) = true := by kernel_rfl
theorem jl11 : ((Rows.constructExistsRow.recurses == Tryz.pinned.checked.prog.recurses 3)) = true := by kernel_rfl
theorem jl13 : ((Rows.constructExistsRow.maps == (Tryz.f3.params.toList ++ (OpenSpec.ofChange Rows.constructExistsSpec).bare.plain.varTypes Tryz.pinned.checked.prog).any (Tryz.pinned.checked.prog.mapsRec ·))) = true := by kernel_rfl
theorem jl15 : ((Rows.constructExistsRow.mapsOut == Tryz.pinned.checked.prog.mapsAmong Tryz.f3.resultTypes.toList)) = true := by kernel_rfl
theorem jl17 : ((Rows.constructExistsRow.wideKeys == (Tryz.f3.params.toList ++ (OpenSpec.ofChange Rows.constructExistsSpec).bare.plain.varTypes Tryz.pinned.checked.prog ++ Tryz.f3.resultTypes.toList).any (Tryz.pinned.checked.prog.wideKeysFrom ·))) = true := by kernel_rfl
theorem jl19 : (Tryz.f3.resultTypes.all (fun t => Tryz.pinned.checked.prog.readableRec t && decide (t < Tryz.pinned.checked.prog.types.size))) = true := by kernel_rfl
theorem jl21 : ((Rows.constructExistsRow.loopsOut == Tryz.f3.resultTypes.toList.any (Tryz.pinned.checked.prog.loopsFrom ·))) = true := by kernel_rfl
theorem jl23 : (Rows.constructExistsRow.shortTexts.isNone) = true := by kernel_rfl
theorem jl25 : (Tryz.pinned.checked.prog.mayEnter) = true := by kernel_rfl
theorem jl27 : ((Tryz.pinned.checked.prog.make == some Rows.constructExistsRow.make)) = true := by kernel_rfl
theorem jl29 : ((Rows.constructExistsRow.pinned == Rows.constructExistsRow.pinnedBy)) = true := by kernel_rfl
theorem jl31 : (Rows.constructExistsRow.veiledFits Tryz.pinned.checked.prog Tryz.f3.params.toList (Tryz.f3.params.toList ++ (OpenSpec.ofChange Rows.constructExistsSpec).bare.plain.varTypes Tryz.pinned.checked.prog ++ Tryz.f3.resultTypes.toList)) = true := by kernel_rfl
end Go.Proofs.YtgkpcjahopacjaaGreatDoor.constructExists
