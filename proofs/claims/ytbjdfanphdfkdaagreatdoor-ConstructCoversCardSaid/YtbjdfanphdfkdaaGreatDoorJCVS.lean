/- A part of the proof. -/
import Derived.Test.YtbjdfanphdfkdaaGreatDoorCards
import Derived.Test.YtbjdfanphdfkdaaGreatDoorTie
import Derived.WalkKit
import Derived.ProofKit
import Derived.OpenShut
import Derived.JoinedOf
import Derived.Deep.DeepHandedRow
import Derived.Lib.LaidTab
set_option linter.all false
set_option maxRecDepth 100000
namespace Go.Proofs.YtbjdfanphdfkdaaGreatDoor.constructCovers
open Go Go.Proofs Go.ChangeShapes Go.WideShapes Go.ChangeAt Go.RowKit
theorem cw:Rows.constructCoversRow.wfByText (OpenSpec.ofChange Rows.constructCoversSpec)=true:=by kernel_rfl
theorem cg:false=Rows.constructCoversRow.goesBy Tryz.pinned.checked.prog:=by kernel_rfl
theorem jl1:(laidOutB Tryz.pinned.checked.prog)=true:=by kernel_rfl
theorem jl3:(Tryz.f3.params.all (Tryz.pinned.checked.prog.readableRec ·))=true:=by kernel_rfl
theorem jl5:((Rows.constructCoversRow.stops == []))=true:=by kernel_rfl
theorem jl7:((Rows.constructCoversRow.knobs == []))=true:=by kernel_rfl
theorem jl9:((Rows.constructCoversRow.inPlace == Tryz.pinned.checked.prog.inPlace 3))=true:=by kernel_rfl
theorem jl11:((Rows.constructCoversRow.recurses == Tryz.pinned.checked.prog.recurses 3))=true:=by kernel_rfl
theorem jl13:((Rows.constructCoversRow.maps == (Tryz.f3.params.toList++(OpenSpec.ofChange Rows.constructCoversSpec).bare.plain.varTypes Tryz.pinned.checked.prog).any (Tryz.pinned.checked.prog.mapsRec ·)))=true:=by kernel_rfl
theorem jl15:((Rows.constructCoversRow.mapsOut == Tryz.pinned.checked.prog.mapsAmong Tryz.f3.resultTypes.toList))=true:=by kernel_rfl
theorem jl17:((Rows.constructCoversRow.wideKeys == (Tryz.f3.params.toList++(OpenSpec.ofChange Rows.constructCoversSpec).bare.plain.varTypes Tryz.pinned.checked.prog++ Tryz.f3.resultTypes.toList).any (Tryz.pinned.checked.prog.wideKeysFrom ·)))=true:=by kernel_rfl
theorem jl19:(Tryz.f3.resultTypes.all (λt=>Tryz.pinned.checked.prog.readableRec t && decide (t< Tryz.pinned.checked.prog.types.size)))=true:=by kernel_rfl
theorem jl21:((Rows.constructCoversRow.loopsOut == Tryz.f3.resultTypes.toList.any (Tryz.pinned.checked.prog.loopsFrom ·)))=true:=by kernel_rfl
theorem jl23:(Rows.constructCoversRow.shortTexts.isNone)=true:=by kernel_rfl
theorem jl25:(Tryz.pinned.checked.prog.mayEnter)=true:=by kernel_rfl
theorem jl27:((Tryz.pinned.checked.prog.make == some Rows.constructCoversRow.make))=true:=by kernel_rfl
theorem jl29:((Rows.constructCoversRow.pinned == Rows.constructCoversRow.pinnedBy))=true:=by kernel_rfl
theorem jl31:(Rows.constructCoversRow.veiledFits Tryz.pinned.checked.prog Tryz.f3.params.toList (Tryz.f3.params.toList++(OpenSpec.ofChange Rows.constructCoversSpec).bare.plain.varTypes Tryz.pinned.checked.prog++ Tryz.f3.resultTypes.toList))=true:=by kernel_rfl
