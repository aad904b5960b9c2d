/- A part of the proof. -/
import Derived.Test.YtbjdfanphdfkdaaGreatDoorCards
import Derived.Test.YtbjdfanphdfkdaaGreatDoorTie
import Derived.WalkKit
import Derived.ProofKit
import Derived.OpenShut
import Derived.JoinedOf
import Derived.Deep.DeepHandedRow
import Derived.Lib.LaidTab
set_option linter.all false
set_option maxRecDepth 100000
namespace Go.Proofs.YtbjdfanphdfkdaaGreatDoor.constructCovers
open Go Go.Proofs Go.ChangeShapes Go.WideShapes Go.ChangeAt Go.RowKit
theorem fa:Tryz.pinned.checked.prog.funcNamed Rows.constructCoversRow.func=some 3:=by kernel_rfl
theorem fc:Func.isInstance Tryz.pinned.checked.prog Tryz.f3 Rows.constructCoversRow.origin Rows.constructCoversRow.targs:=of_decide_eq_true (by kernel_rfl)
theorem jl0:(Rows.constructCoversRow.wf (OpenSpec.ofChange (OpenSpec.ofChange Rows.constructCoversSpec).bare))=true:=by kernel_rfl
theorem jl2:(mapsRowed Tryz.pinned.checked.prog)=true:=by kernel_rfl
theorem jl4:(namedTie Tryz.pinned.checked.prog Rows.constructCoversRow.named (OpenSpec.ofChange Rows.constructCoversSpec).bare.vars)=true:=by kernel_rfl
theorem jl6:((Tryz.pinned.checked.prog.stops == []))=true:=by kernel_rfl
theorem jl8:((Tryz.pinned.checked.prog.stopKnobs == []))=true:=by kernel_rfl
theorem jl10:((Rows.constructCoversRow.unfollowed == Tryz.pinned.checked.prog.unfollowed 3))=true:=by kernel_rfl
theorem jl12:((Rows.constructCoversRow.named == Tryz.pinned.checked.prog.varsNamed 3))=true:=by kernel_rfl
theorem jl14:((Rows.constructCoversRow.ifaces == (Tryz.f3.params.toList++(OpenSpec.ofChange Rows.constructCoversSpec).bare.plain.varTypes Tryz.pinned.checked.prog).any (Tryz.pinned.checked.prog.ifacesRec ·)))=true:=by kernel_rfl
theorem jl16:((Rows.constructCoversRow.loops == (Tryz.f3.params.toList++(OpenSpec.ofChange Rows.constructCoversSpec).bare.plain.varTypes Tryz.pinned.checked.prog).any (Tryz.pinned.checked.prog.loopsFrom ·)))=true:=by kernel_rfl
theorem jl18:((OpenSpec.ofChange Rows.constructCoversSpec).bare.vars.all (Tryz.pinned.checked.prog.varReadable ·))=true:=by kernel_rfl
theorem jl20:((Rows.constructCoversRow.ifacesOut == Tryz.f3.resultTypes.toList.any (Tryz.pinned.checked.prog.ifacesRec ·)))=true:=by kernel_rfl
theorem jl22:((Rows.constructCoversRow.plainKeys == Tryz.pinned.checked.prog.plainKeys))=true:=by kernel_rfl
theorem jl24:(Tryz.pinned.checked.prog.stopsHeard)=true:=by kernel_rfl
theorem jl26:((Rows.constructCoversRow.lifted == Tryz.pinned.checked.prog.liftsFinal))=true:=by kernel_rfl
theorem jl28:((Rows.constructCoversRow.kinds == (if Rows.constructCoversRow.domain.isEmpty then[]else Tryz.f3.params.toList.map λt=>match Tryz.pinned.checked.prog.underlying t with | some (.int k)=>some k | _=>none)))=true:=by kernel_rfl
theorem jl30:((Rows.constructCoversRow.veiled == (Tryz.f3.params.toList++(OpenSpec.ofChange Rows.constructCoversSpec).bare.plain.varTypes Tryz.pinned.checked.prog++ Tryz.f3.resultTypes.toList).any (Tryz.pinned.checked.prog.veiledRec ·)))=true:=by kernel_rfl
