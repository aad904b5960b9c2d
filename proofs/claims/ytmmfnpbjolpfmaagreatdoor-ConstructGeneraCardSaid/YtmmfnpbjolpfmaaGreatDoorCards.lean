/-
  DERIVED. GIVEN WITH THE SEED: THE CARDS: each row of YtmmfnpbjolpfmaaGreatDoorRows.lean that lists a variable, with what it lists TIED to the program's text (the seventh form; the later family's looks); each row that meets fmt, with fmt's text TOLD by the authors' own Lean function (tested against real Go, not proved from fmt's source: count such statements apart). THE CARD IS WHAT COUNTS. Prove the row's statement (the work); the ties are given (YtmmfnpbjolpfmaaGreatDoorTie.lean); close each card by the builder's one call (the guide's Derived/Test/ToyasCard.lean, 'card_holds'). Laid BY PROGRAM, IN A SANDBOX (cutbox-door.mjs). By AI agents, Wed Nov 11 2026. No macro, syntax, notation, axiom, sorry.
-/
import Derived.Test.YtmmfnpbjolpfmaaGreatDoorRows
import GoSem.ClaimSeven
namespace Go.Proofs.YtmmfnpbjolpfmaaGreatDoor
namespace Rows

/-- THE TIED CARD OF 'quadformlaw30.ConstructGenera'. -/
def constructGeneraCard : Claim7 := { stood := { row := constructGeneraRow, standIns := [], harness := (true, "172fa041b705e0ae84af38d8bf132fa592dfadf3d10fe740b9192119506eb5bd"), looks := false }, kinds := [], alts := [], laidByText := true, laidKinds := [.data, .data], laidTests := true, laidLooks := .later }
def ConstructGeneraCardSaid : Prop := Claim7.holds Tryz.pinned (.plain (OpenSpec.ofChange constructGeneraSpec)) constructGeneraCard

/-- THE SECOND FORM's CARD OF 'quadformlaw30.ConstructGenera'. -/
def constructGeneraUptoCard : Claim7 := { stood := { row := constructGeneraUptoRow, standIns := [], harness := (true, "172fa041b705e0ae84af38d8bf132fa592dfadf3d10fe740b9192119506eb5bd"), looks := false }, kinds := [], alts := [], laidByText := true, laidKinds := [.data, .data], laidTests := true, laidLooks := .later }
def ConstructGeneraUptoCardSaid : Prop := Claim7.holds Tryz.pinned (.plain (OpenSpec.upto constructGeneraSpec)) constructGeneraUptoCard
end Rows
end Go.Proofs.YtmmfnpbjolpfmaaGreatDoor
