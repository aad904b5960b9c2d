/-
  NARROWER THAN 'FOR EVERY INPUT', by the rows' own cells (each row's printed sentence says how): ConstructCovers: laid · ConstructForms: laid.
  DERIVED. THE GIVEN ROWS OF THIS SEAT. 2 by the template 'for every input the law returns true; each argument reads behind the call as it read before'; 0 by the template 'total and deterministic' (their statements: YtbjdfanphdfkdaaGreatDoorTotals.lean).
  GIVEN WITH THE SEED: the statements are not yours to turn. If you find one false, say at which input.
  Laid BY PROGRAM, IN A SANDBOX (cutbox-rows.mjs): the forced cells as the released guide's own fill.sh prints them over the translation ec5333ea2ff7849e… (all of the seat's roots in one cut). By AI agents, Wed Nov 11 2026. No macro, syntax, notation, axiom, sorry.
-/
import Derived.Test.YtbjdfanphdfkdaaGreatDoorChecked
import GoSem.Claim
import GoSem.ClaimJoined
import GoSem.ClaimMapViews
import Derived.JoinedTies
import Derived.KernelRfl
namespace Go.Proofs.YtbjdfanphdfkdaaGreatDoor
/- THE CELL 'sum', in the pinned program and in every row, IS THE sha256 OF THE DUMP (.gsa) THAT YtbjdfanphdfkdaaGreatDoorProg.lean LOADS. Nothing in Lean hashes anything: it is a label: what it is worth is what the hold of that sum in a sandbox is worth. -/
noncomputable def Tryz.pinned : Pinned := { name := "ytbjdfanphdfkdaagreatdoor", sum := "ec5333ea2ff7849e70fd6c6c3d315a8654ec92bae48a684fc343890be4b7ba66", checked := Tryz.checked }
namespace Rows
def none {H : Type} : Left H := { results := [], args := [] }

/- WHAT THE LISTED PACKAGE-LEVEL VARIABLES READ AS WHEN THE CALL BEGINS. Each datum BY PROGRAM (the guide's laid-datum.mjs) off the statement by which the dump's own 'gosem.cut.vars' lays the variable. In a bare row this is a premise. The card (YtbjdfanphdfkdaaGreatDoorCards.lean) ties it to the program's text. -/
def laid_quadform_minkowski_conditions {H : Type} : DataW H := .agg [.lit (.int .i64 1), .lit (.int .i64 3), .lit (.int .i64 9), .lit (.int .i64 27)]
def laid_quadform_prime_offsets {H : Type} : DataW H := .agg [.lit (.int .i64 7), .lit (.int .i64 11), .lit (.int .i64 13), .lit (.int .i64 17), .lit (.int .i64 19), .lit (.int .i64 23), .lit (.int .i64 29), .lit (.int .i64 31)]

/-- 'quadformlaw30.ConstructCovers': WHATEVER THE INPUT: true; the input reads as it did. -/
def constructCoversSpec : ChangeSpec := { name := "constructCovers", fn := fun _ => fun
  | [d] => { results := [.lit (.bool true)], args := [d] }
  | _ => none }
def constructCoversRow : OpenClaim := { program := "ytbjdfanphdfkdaagreatdoor", sum := "ec5333ea2ff7849e70fd6c6c3d315a8654ec92bae48a684fc343890be4b7ba66", func := "quadform/quadformlaw30.ConstructCovers", spec := "constructCovers", inPlace := ["math/bits.Add64", "math/bits.Sub64"], unfollowed := true, recurses := true, named := ["quadform/minkowski.conditions"], plainKeys := false, apart := false, laid := [("quadform/minkowski.conditions", laid_quadform_minkowski_conditions)] }
def ConstructCoversSaid : Prop := constructCoversRow.holds Tryz.pinned (OpenSpec.ofChange constructCoversSpec)

/-- ITS FALSE NEIGHBOUR: 'it returns false'. Refute it at one input. -/
def constructCoversWrong : ChangeSpec := { name := "constructCovers", fn := fun _ => fun
  | [d] => { results := [.lit (.bool false)], args := [d] }
  | _ => none }
def ConstructCoversWrongFalsely : Prop := constructCoversRow.holds Tryz.pinned (OpenSpec.ofChange constructCoversWrong)

/-- 'quadformlaw30.ConstructForms': WHATEVER THE INPUT: true; the input reads as it did. -/
def constructFormsSpec : ChangeSpec := { name := "constructForms", fn := fun _ => fun
  | [d] => { results := [.lit (.bool true)], args := [d] }
  | _ => none }
def constructFormsRow : OpenClaim := { program := "ytbjdfanphdfkdaagreatdoor", sum := "ec5333ea2ff7849e70fd6c6c3d315a8654ec92bae48a684fc343890be4b7ba66", func := "quadform/quadformlaw30.ConstructForms", spec := "constructForms", inPlace := ["math/bits.Add64", "math/bits.Sub64"], unfollowed := true, recurses := true, named := ["quadform/minkowski.conditions", "quadform/prime.offsets"], plainKeys := false, apart := false, laid := [("quadform/prime.offsets", laid_quadform_prime_offsets), ("quadform/minkowski.conditions", laid_quadform_minkowski_conditions)] }
def ConstructFormsSaid : Prop := constructFormsRow.holds Tryz.pinned (OpenSpec.ofChange constructFormsSpec)

/-- ITS FALSE NEIGHBOUR: 'it returns false'. Refute it at one input. -/
def constructFormsWrong : ChangeSpec := { name := "constructForms", fn := fun _ => fun
  | [d] => { results := [.lit (.bool false)], args := [d] }
  | _ => none }
def ConstructFormsWrongFalsely : Prop := constructFormsRow.holds Tryz.pinned (OpenSpec.ofChange constructFormsWrong)

/- THE SECOND FORM. 'bulk': how many values and letters a reading holds, each counted each time it is reached (what is shared counts as often as it is met; a slice's spare places count too). A statement '..UptoSaid' is the law's where the arguments, and the package variables that the reading takes, are together of bulk at most 1048576: NARROWER than '..Said'. Prove '..Said' where nothing that the law and all that it calls make is longer than what came in: it says more and counts as full. Else prove '..UptoSaid'. A law counts once. -/
mutual
def uptoBulk {H : Type} : DataW H → Nat
  | .lit (.string bytes) => bytes.length + 1
  | .lit _ => 1
  | .nil => 1
  | .ptr d => uptoBulk d + 1
  | .slice elems spare => uptoBulkAll elems + uptoBulkAll spare + 1
  | .agg parts => uptoBulkAll parts + 1
  | .iface _ d => uptoBulk d + 1
  | .map entries => uptoBulkEntries entries + 1
  | .held _ => 1
def uptoBulkAll {H : Type} : List (DataW H) → Nat
  | [] => 0
  | d :: r => uptoBulk d + uptoBulkAll r
def uptoBulkEntries {H : Type} : List (Lit × DataW H) → Nat
  | [] => 0
  | x :: r => uptoBulkEntry x + uptoBulkEntries r
def uptoBulkEntry {H : Type} : Lit × DataW H → Nat
  | (.string bytes, d) => bytes.length + uptoBulk d + 1
  | (_, d) => uptoBulk d + 1
 end
def uptoSmall : (H : Type) → List (DataW H) → Bool := fun _ ds => decide (uptoBulkAll ds ≤ 1048576)
def OpenSpec.upto (s : _root_.Go.ChangeSpec) : _root_.Go.OpenSpec := { _root_.Go.OpenSpec.ofChange s with cond := some uptoSmall }

/-- 'quadformlaw30.ConstructCovers', WHERE WHAT IT READS IS OF BULK AT MOST 1048576: true; the input reads as it did. -/
def constructCoversUptoRow : OpenClaim := { program := "ytbjdfanphdfkdaagreatdoor", sum := "ec5333ea2ff7849e70fd6c6c3d315a8654ec92bae48a684fc343890be4b7ba66", func := "quadform/quadformlaw30.ConstructCovers", spec := "constructCovers", inPlace := ["math/bits.Add64", "math/bits.Sub64"], unfollowed := true, recurses := true, named := ["quadform/minkowski.conditions"], plainKeys := false, apart := false, laid := [("quadform/minkowski.conditions", laid_quadform_minkowski_conditions)], narrowed := true }
def ConstructCoversUptoSaid : Prop := constructCoversUptoRow.holds Tryz.pinned (OpenSpec.upto constructCoversSpec)

/-- 'quadformlaw30.ConstructForms', WHERE WHAT IT READS IS OF BULK AT MOST 1048576: true; the input reads as it did. -/
def constructFormsUptoRow : OpenClaim := { program := "ytbjdfanphdfkdaagreatdoor", sum := "ec5333ea2ff7849e70fd6c6c3d315a8654ec92bae48a684fc343890be4b7ba66", func := "quadform/quadformlaw30.ConstructForms", spec := "constructForms", inPlace := ["math/bits.Add64", "math/bits.Sub64"], unfollowed := true, recurses := true, named := ["quadform/minkowski.conditions", "quadform/prime.offsets"], plainKeys := false, apart := false, laid := [("quadform/prime.offsets", laid_quadform_prime_offsets), ("quadform/minkowski.conditions", laid_quadform_minkowski_conditions)], narrowed := true }
def ConstructFormsUptoSaid : Prop := constructFormsUptoRow.holds Tryz.pinned (OpenSpec.upto constructFormsSpec)

end Rows
end Go.Proofs.YtbjdfanphdfkdaaGreatDoor
