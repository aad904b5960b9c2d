/- A part of the proof. -/
import Derived.Test.YtbjdfanphdfkdaaGreatDoorCards
import Derived.Test.YtbjdfanphdfkdaaGreatDoorTie
import Derived.WalkKit
import Derived.ProofKit
import Derived.OpenShut
import Derived.JoinedOf
import Derived.Deep.DeepHandedRow
import Derived.Lib.LaidTab
set_option linter.all false
set_option maxRecDepth 100000
namespace Go.Proofs.YtbjdfanphdfkdaaGreatDoor.constructForms
open Go Go.Proofs Go.ChangeShapes Go.WideShapes Go.ChangeAt Go.RowKit
theorem fa:Tryz.pinned.checked.prog.funcNamed Rows.constructFormsRow.func=some 4:=by kernel_rfl
theorem fc:Func.isInstance Tryz.pinned.checked.prog Tryz.f4 Rows.constructFormsRow.origin Rows.constructFormsRow.targs:=of_decide_eq_true (by kernel_rfl)
theorem jl0:(Rows.constructFormsRow.wf (OpenSpec.ofChange (OpenSpec.ofChange Rows.constructFormsSpec).bare))=true:=by kernel_rfl
theorem jl2:(mapsRowed Tryz.pinned.checked.prog)=true:=by kernel_rfl
theorem jl4:(namedTie Tryz.pinned.checked.prog Rows.constructFormsRow.named (OpenSpec.ofChange Rows.constructFormsSpec).bare.vars)=true:=by kernel_rfl
theorem jl6:((Tryz.pinned.checked.prog.stops == []))=true:=by kernel_rfl
theorem jl8:((Tryz.pinned.checked.prog.stopKnobs == []))=true:=by kernel_rfl
theorem jl10:((Rows.constructFormsRow.unfollowed == Tryz.pinned.checked.prog.unfollowed 4))=true:=by kernel_rfl
theorem jl12:((Rows.constructFormsRow.named == Tryz.pinned.checked.prog.varsNamed 4))=true:=by kernel_rfl
theorem jl14:((Rows.constructFormsRow.ifaces == (Tryz.f4.params.toList++(OpenSpec.ofChange Rows.constructFormsSpec).bare.plain.varTypes Tryz.pinned.checked.prog).any (Tryz.pinned.checked.prog.ifacesRec ·)))=true:=by kernel_rfl
theorem jl16:((Rows.constructFormsRow.loops == (Tryz.f4.params.toList++(OpenSpec.ofChange Rows.constructFormsSpec).bare.plain.varTypes Tryz.pinned.checked.prog).any (Tryz.pinned.checked.prog.loopsFrom ·)))=true:=by kernel_rfl
theorem jl18:((OpenSpec.ofChange Rows.constructFormsSpec).bare.vars.all (Tryz.pinned.checked.prog.varReadable ·))=true:=by kernel_rfl
theorem jl20:((Rows.constructFormsRow.ifacesOut == Tryz.f4.resultTypes.toList.any (Tryz.pinned.checked.prog.ifacesRec ·)))=true:=by kernel_rfl
theorem jl22:((Rows.constructFormsRow.plainKeys == Tryz.pinned.checked.prog.plainKeys))=true:=by kernel_rfl
theorem jl24:(Tryz.pinned.checked.prog.stopsHeard)=true:=by kernel_rfl
theorem jl26:((Rows.constructFormsRow.lifted == Tryz.pinned.checked.prog.liftsFinal))=true:=by kernel_rfl
theorem jl28:((Rows.constructFormsRow.kinds == (if Rows.constructFormsRow.domain.isEmpty then[]else Tryz.f4.params.toList.map λt=>match Tryz.pinned.checked.prog.underlying t with | some (.int k)=>some k | _=>none)))=true:=by kernel_rfl
theorem jl30:((Rows.constructFormsRow.veiled == (Tryz.f4.params.toList++(OpenSpec.ofChange Rows.constructFormsSpec).bare.plain.varTypes Tryz.pinned.checked.prog++ Tryz.f4.resultTypes.toList).any (Tryz.pinned.checked.prog.veiledRec ·)))=true:=by kernel_rfl
