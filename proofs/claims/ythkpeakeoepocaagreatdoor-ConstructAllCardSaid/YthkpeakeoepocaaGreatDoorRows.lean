/-
  NARROWER THAN 'FOR EVERY INPUT', by the rows' own cells (each row's printed sentence says how): ConstructErrors: laid · ConstructAll: laid · ConstructBinary: laid · ConstructOrders: laid.
  DERIVED. THE GIVEN ROWS OF THIS SEAT. 4 by the template 'for every input the law returns true; each argument reads behind the call as it read before'; 0 by the template 'total and deterministic' (their statements: YthkpeakeoepocaaGreatDoorTotals.lean).
  GIVEN WITH THE SEED: the statements are not yours to turn. If you find one false, say at which input.
  Laid BY PROGRAM, IN A SANDBOX (cutbox-rows.mjs): the forced cells as the released guide's own fill.sh prints them over the translation 1b6bda5d81ec3ea9… (all of the seat's roots in one cut). By AI agents, Wed Nov 11 2026. No macro, syntax, notation, axiom, sorry.
-/
import Derived.Test.YthkpeakeoepocaaGreatDoorChecked
import GoSem.Claim
import GoSem.ClaimJoined
import GoSem.ClaimMapViews
import Derived.JoinedTies
import Derived.KernelRfl
namespace Go.Proofs.YthkpeakeoepocaaGreatDoor
/- THE CELL 'sum', in the pinned program and in every row, IS THE sha256 OF THE DUMP (.gsa) THAT YthkpeakeoepocaaGreatDoorProg.lean LOADS. Nothing in Lean hashes anything: it is a label: what it is worth is what the hold of that sum in a sandbox is worth. -/
noncomputable def Tryz.pinned : Pinned := { name := "ythkpeakeoepocaagreatdoor", sum := "1b6bda5d81ec3ea9543812bad293aeced3a269c37118a7a6fece7debe5799fc6", checked := Tryz.checked }
namespace Rows
def none {H : Type} : Left H := { results := [], args := [] }

/- WHAT THE LISTED PACKAGE-LEVEL VARIABLES READ AS WHEN THE CALL BEGINS. Each datum BY PROGRAM (the guide's laid-datum.mjs) off the statement by which the dump's own 'gosem.cut.vars' lays the variable. In a bare row this is a premise. The card (YthkpeakeoepocaaGreatDoorCards.lean) ties it to the program's text. -/
def laid_quadform_minkowski_conditions {H : Type} : DataW H := .agg [.lit (.int .i64 1), .lit (.int .i64 3), .lit (.int .i64 9), .lit (.int .i64 27)]

/-- 'quadformlaw30.ConstructErrors': WHATEVER THE INPUT: true; the input reads as it did. -/
def constructErrorsSpec : ChangeSpec := { name := "constructErrors", fn := fun _ => fun
  | [d1, d2, d3] => { results := [.lit (.bool true)], args := [d1, d2, d3] }
  | _ => none }
def constructErrorsRow : OpenClaim := { program := "ythkpeakeoepocaagreatdoor", sum := "1b6bda5d81ec3ea9543812bad293aeced3a269c37118a7a6fece7debe5799fc6", func := "quadform/quadformlaw30.ConstructErrors", spec := "constructErrors", inPlace := ["math/bits.Add64", "math/bits.Sub64"], unfollowed := true, recurses := true, named := ["quadform/minkowski.conditions"], plainKeys := false, apart := false, laid := [("quadform/minkowski.conditions", laid_quadform_minkowski_conditions)] }
def ConstructErrorsSaid : Prop := constructErrorsRow.holds Tryz.pinned (OpenSpec.ofChange constructErrorsSpec)

/-- ITS FALSE NEIGHBOUR: 'it returns false'. Refute it at one input. -/
def constructErrorsWrong : ChangeSpec := { name := "constructErrors", fn := fun _ => fun
  | [d1, d2, d3] => { results := [.lit (.bool false)], args := [d1, d2, d3] }
  | _ => none }
def ConstructErrorsWrongFalsely : Prop := constructErrorsRow.holds Tryz.pinned (OpenSpec.ofChange constructErrorsWrong)

/-- 'quadformlaw30.ConstructAll': WHATEVER THE INPUT: true; the input reads as it did. -/
def constructAllSpec : ChangeSpec := { name := "constructAll", fn := fun _ => fun
  | [d1, d2] => { results := [.lit (.bool true)], args := [d1, d2] }
  | _ => none }
def constructAllRow : OpenClaim := { program := "ythkpeakeoepocaagreatdoor", sum := "1b6bda5d81ec3ea9543812bad293aeced3a269c37118a7a6fece7debe5799fc6", func := "quadform/quadformlaw30.ConstructAll", spec := "constructAll", inPlace := ["math/bits.Add64", "math/bits.Sub64"], unfollowed := true, recurses := true, named := ["quadform/minkowski.conditions"], plainKeys := false, apart := false, laid := [("quadform/minkowski.conditions", laid_quadform_minkowski_conditions)] }
def ConstructAllSaid : Prop := constructAllRow.holds Tryz.pinned (OpenSpec.ofChange constructAllSpec)

/-- ITS FALSE NEIGHBOUR: 'it returns false'. Refute it at one input. -/
def constructAllWrong : ChangeSpec := { name := "constructAll", fn := fun _ => fun
  | [d1, d2] => { results := [.lit (.bool false)], args := [d1, d2] }
  | _ => none }
def ConstructAllWrongFalsely : Prop := constructAllRow.holds Tryz.pinned (OpenSpec.ofChange constructAllWrong)

/-- 'quadformlaw30.ConstructBinary': WHATEVER THE INPUT: true; the input reads as it did. -/
def constructBinarySpec : ChangeSpec := { name := "constructBinary", fn := fun _ => fun
  | [d] => { results := [.lit (.bool true)], args := [d] }
  | _ => none }
def constructBinaryRow : OpenClaim := { program := "ythkpeakeoepocaagreatdoor", sum := "1b6bda5d81ec3ea9543812bad293aeced3a269c37118a7a6fece7debe5799fc6", func := "quadform/quadformlaw30.ConstructBinary", spec := "constructBinary", inPlace := ["math/bits.Add64", "math/bits.Sub64"], unfollowed := true, recurses := true, named := ["quadform/minkowski.conditions"], plainKeys := false, apart := false, laid := [("quadform/minkowski.conditions", laid_quadform_minkowski_conditions)] }
def ConstructBinarySaid : Prop := constructBinaryRow.holds Tryz.pinned (OpenSpec.ofChange constructBinarySpec)

/-- ITS FALSE NEIGHBOUR: 'it returns false'. Refute it at one input. -/
def constructBinaryWrong : ChangeSpec := { name := "constructBinary", fn := fun _ => fun
  | [d] => { results := [.lit (.bool false)], args := [d] }
  | _ => none }
def ConstructBinaryWrongFalsely : Prop := constructBinaryRow.holds Tryz.pinned (OpenSpec.ofChange constructBinaryWrong)

/-- 'quadformlaw30.ConstructOrders': WHATEVER THE INPUT: true; the input reads as it did. -/
def constructOrdersSpec : ChangeSpec := { name := "constructOrders", fn := fun _ => fun
  | [d] => { results := [.lit (.bool true)], args := [d] }
  | _ => none }
def constructOrdersRow : OpenClaim := { program := "ythkpeakeoepocaagreatdoor", sum := "1b6bda5d81ec3ea9543812bad293aeced3a269c37118a7a6fece7debe5799fc6", func := "quadform/quadformlaw30.ConstructOrders", spec := "constructOrders", inPlace := ["math/bits.Add64", "math/bits.Sub64"], unfollowed := true, recurses := true, named := ["quadform/minkowski.conditions"], plainKeys := false, apart := false, laid := [("quadform/minkowski.conditions", laid_quadform_minkowski_conditions)] }
def ConstructOrdersSaid : Prop := constructOrdersRow.holds Tryz.pinned (OpenSpec.ofChange constructOrdersSpec)

/-- ITS FALSE NEIGHBOUR: 'it returns false'. Refute it at one input. -/
def constructOrdersWrong : ChangeSpec := { name := "constructOrders", fn := fun _ => fun
  | [d] => { results := [.lit (.bool false)], args := [d] }
  | _ => none }
def ConstructOrdersWrongFalsely : Prop := constructOrdersRow.holds Tryz.pinned (OpenSpec.ofChange constructOrdersWrong)

/- THE SECOND FORM. 'bulk': how many values and letters a reading holds, each counted each time it is reached (what is shared counts as often as it is met; a slice's spare places count too). A statement '..UptoSaid' is the law's where the arguments, and the package variables that the reading takes, are together of bulk at most 1048576: NARROWER than '..Said'. Prove '..Said' where nothing that the law and all that it calls make is longer than what came in: it says more and counts as full. Else prove '..UptoSaid'. A law counts once. -/
mutual
def uptoBulk {H : Type} : DataW H → Nat
  | .lit (.string bytes) => bytes.length + 1
  | .lit _ => 1
  | .nil => 1
  | .ptr d => uptoBulk d + 1
  | .slice elems spare => uptoBulkAll elems + uptoBulkAll spare + 1
  | .agg parts => uptoBulkAll parts + 1
  | .iface _ d => uptoBulk d + 1
  | .map entries => uptoBulkEntries entries + 1
  | .held _ => 1
def uptoBulkAll {H : Type} : List (DataW H) → Nat
  | [] => 0
  | d :: r => uptoBulk d + uptoBulkAll r
def uptoBulkEntries {H : Type} : List (Lit × DataW H) → Nat
  | [] => 0
  | x :: r => uptoBulkEntry x + uptoBulkEntries r
def uptoBulkEntry {H : Type} : Lit × DataW H → Nat
  | (.string bytes, d) => bytes.length + uptoBulk d + 1
  | (_, d) => uptoBulk d + 1
 end
def uptoSmall : (H : Type) → List (DataW H) → Bool := fun _ ds => decide (uptoBulkAll ds ≤ 1048576)
def OpenSpec.upto (s : _root_.Go.ChangeSpec) : _root_.Go.OpenSpec := { _root_.Go.OpenSpec.ofChange s with cond := some uptoSmall }

/-- 'quadformlaw30.ConstructErrors', WHERE WHAT IT READS IS OF BULK AT MOST 1048576: true; the input reads as it did. -/
def constructErrorsUptoRow : OpenClaim := { program := "ythkpeakeoepocaagreatdoor", sum := "1b6bda5d81ec3ea9543812bad293aeced3a269c37118a7a6fece7debe5799fc6", func := "quadform/quadformlaw30.ConstructErrors", spec := "constructErrors", inPlace := ["math/bits.Add64", "math/bits.Sub64"], unfollowed := true, recurses := true, named := ["quadform/minkowski.conditions"], plainKeys := false, apart := false, laid := [("quadform/minkowski.conditions", laid_quadform_minkowski_conditions)], narrowed := true }
def ConstructErrorsUptoSaid : Prop := constructErrorsUptoRow.holds Tryz.pinned (OpenSpec.upto constructErrorsSpec)

/-- 'quadformlaw30.ConstructAll', WHERE WHAT IT READS IS OF BULK AT MOST 1048576: true; the input reads as it did. -/
def constructAllUptoRow : OpenClaim := { program := "ythkpeakeoepocaagreatdoor", sum := "1b6bda5d81ec3ea9543812bad293aeced3a269c37118a7a6fece7debe5799fc6", func := "quadform/quadformlaw30.ConstructAll", spec := "constructAll", inPlace := ["math/bits.Add64", "math/bits.Sub64"], unfollowed := true, recurses := true, named := ["quadform/minkowski.conditions"], plainKeys := false, apart := false, laid := [("quadform/minkowski.conditions", laid_quadform_minkowski_conditions)], narrowed := true }
def ConstructAllUptoSaid : Prop := constructAllUptoRow.holds Tryz.pinned (OpenSpec.upto constructAllSpec)

/-- 'quadformlaw30.ConstructBinary', WHERE WHAT IT READS IS OF BULK AT MOST 1048576: true; the input reads as it did. -/
def constructBinaryUptoRow : OpenClaim := { program := "ythkpeakeoepocaagreatdoor", sum := "1b6bda5d81ec3ea9543812bad293aeced3a269c37118a7a6fece7debe5799fc6", func := "quadform/quadformlaw30.ConstructBinary", spec := "constructBinary", inPlace := ["math/bits.Add64", "math/bits.Sub64"], unfollowed := true, recurses := true, named := ["quadform/minkowski.conditions"], plainKeys := false, apart := false, laid := [("quadform/minkowski.conditions", laid_quadform_minkowski_conditions)], narrowed := true }
def ConstructBinaryUptoSaid : Prop := constructBinaryUptoRow.holds Tryz.pinned (OpenSpec.upto constructBinarySpec)

/-- 'quadformlaw30.ConstructOrders', WHERE WHAT IT READS IS OF BULK AT MOST 1048576: true; the input reads as it did. -/
def constructOrdersUptoRow : OpenClaim := { program := "ythkpeakeoepocaagreatdoor", sum := "1b6bda5d81ec3ea9543812bad293aeced3a269c37118a7a6fece7debe5799fc6", func := "quadform/quadformlaw30.ConstructOrders", spec := "constructOrders", inPlace := ["math/bits.Add64", "math/bits.Sub64"], unfollowed := true, recurses := true, named := ["quadform/minkowski.conditions"], plainKeys := false, apart := false, laid := [("quadform/minkowski.conditions", laid_quadform_minkowski_conditions)], narrowed := true }
def ConstructOrdersUptoSaid : Prop := constructOrdersUptoRow.holds Tryz.pinned (OpenSpec.upto constructOrdersSpec)

end Rows
end Go.Proofs.YthkpeakeoepocaaGreatDoor
