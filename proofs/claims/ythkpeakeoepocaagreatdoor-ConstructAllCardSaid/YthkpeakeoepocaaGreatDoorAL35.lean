/- The fast evaluator: an entry of the table from the model's function. -/
import Derived.Test.YthkpeakeoepocaaGreatDoorAL34
namespace Go.AL
set_option linter.unusedSimpArgs false
set_option linter.unusedVariables false
open Go

theorem some_getD {α : Type} {x : Option α} {d : α} (h : x.isSome = true) : x = some (x.getD d) := by
  cases x with
  | none => simp at h
  | some a => rfl

theorem eot {P : Program} {Γ : Glob} {ok : FuncId → Bool} {f : FuncId} {fn : Func} {t : RunT} {nt : Nat} {rs : List RG} {keep : Bool} (m : Bool) (hf : P.funcs[f]? = some fn) (h1 : (fn.body.bind (compC P Γ fn.ntmps)).isSome = true) (h2 : fn.ntmps = nt)
    (h3 : t = tr ok m ((fn.body.bind (compC P Γ fn.ntmps)).getD .skip)) (h4 : (fn.results.toList.mapM (cRes P)).isSome = true) (h5 : rs = ((fn.results.toList.mapM (cRes P)).getD []).map trR) : EOT P Γ ok f (.code t nt rs keep) :=
  ⟨fn, _, _, m, hf, some_getD h1, h2, some_getD h4, h3, h5⟩

end Go.AL
