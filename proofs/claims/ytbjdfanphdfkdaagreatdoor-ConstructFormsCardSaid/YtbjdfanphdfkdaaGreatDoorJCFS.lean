/- A part of the proof. -/
import Derived.Test.YtbjdfanphdfkdaaGreatDoorCards
import Derived.Test.YtbjdfanphdfkdaaGreatDoorTie
import Derived.WalkKit
import Derived.ProofKit
import Derived.OpenShut
import Derived.JoinedOf
import Derived.Deep.DeepHandedRow
import Derived.Lib.LaidTab
set_option linter.all false
set_option maxRecDepth 100000
namespace Go.Proofs.YtbjdfanphdfkdaaGreatDoor.constructForms
open Go Go.Proofs Go.ChangeShapes Go.WideShapes Go.ChangeAt Go.RowKit
theorem cw:Rows.constructFormsRow.wfByText (OpenSpec.ofChange Rows.constructFormsSpec)=true:=by kernel_rfl
theorem cg:false=Rows.constructFormsRow.goesBy Tryz.pinned.checked.prog:=by kernel_rfl
theorem jl1:(laidOutB Tryz.pinned.checked.prog)=true:=by kernel_rfl
theorem jl3:(Tryz.f4.params.all (Tryz.pinned.checked.prog.readableRec ·))=true:=by kernel_rfl
theorem jl5:((Rows.constructFormsRow.stops == []))=true:=by kernel_rfl
theorem jl7:((Rows.constructFormsRow.knobs == []))=true:=by kernel_rfl
theorem jl9:((Rows.constructFormsRow.inPlace == Tryz.pinned.checked.prog.inPlace 4))=true:=by kernel_rfl
theorem jl11:((Rows.constructFormsRow.recurses == Tryz.pinned.checked.prog.recurses 4))=true:=by kernel_rfl
theorem jl13:((Rows.constructFormsRow.maps == (Tryz.f4.params.toList++(OpenSpec.ofChange Rows.constructFormsSpec).bare.plain.varTypes Tryz.pinned.checked.prog).any (Tryz.pinned.checked.prog.mapsRec ·)))=true:=by kernel_rfl
theorem jl15:((Rows.constructFormsRow.mapsOut == Tryz.pinned.checked.prog.mapsAmong Tryz.f4.resultTypes.toList))=true:=by kernel_rfl
theorem jl17:((Rows.constructFormsRow.wideKeys == (Tryz.f4.params.toList++(OpenSpec.ofChange Rows.constructFormsSpec).bare.plain.varTypes Tryz.pinned.checked.prog++ Tryz.f4.resultTypes.toList).any (Tryz.pinned.checked.prog.wideKeysFrom ·)))=true:=by kernel_rfl
theorem jl19:(Tryz.f4.resultTypes.all (λt=>Tryz.pinned.checked.prog.readableRec t && decide (t< Tryz.pinned.checked.prog.types.size)))=true:=by kernel_rfl
theorem jl21:((Rows.constructFormsRow.loopsOut == Tryz.f4.resultTypes.toList.any (Tryz.pinned.checked.prog.loopsFrom ·)))=true:=by kernel_rfl
theorem jl23:(Rows.constructFormsRow.shortTexts.isNone)=true:=by kernel_rfl
theorem jl25:(Tryz.pinned.checked.prog.mayEnter)=true:=by kernel_rfl
theorem jl27:((Tryz.pinned.checked.prog.make == some Rows.constructFormsRow.make))=true:=by kernel_rfl
theorem jl29:((Rows.constructFormsRow.pinned == Rows.constructFormsRow.pinnedBy))=true:=by kernel_rfl
theorem jl31:(Rows.constructFormsRow.veiledFits Tryz.pinned.checked.prog Tryz.f4.params.toList (Tryz.f4.params.toList++(OpenSpec.ofChange Rows.constructFormsSpec).bare.plain.varTypes Tryz.pinned.checked.prog++ Tryz.f4.resultTypes.toList))=true:=by kernel_rfl
