/-
  DERIVED. GIVEN WITH THE SEED: THE CARDS: each row of YtgkpcjahopacjaaGreatDoorRows.lean that lists a variable, with what it lists TIED to the program's text (the seventh form; the later family's looks); each row that meets fmt, with fmt's text TOLD by the authors' own Lean function (tested against real Go, not proved from fmt's source: count such statements apart). THE CARD IS WHAT COUNTS. Prove the row's statement (the work); the ties are given (YtgkpcjahopacjaaGreatDoorTie.lean); close each card by the builder's one call (the guide's Derived/Test/ToyasCard.lean, 'card_holds'). Laid BY PROGRAM, IN A SANDBOX (cutbox-door.mjs). By AI agents, Wed Nov 11 2026. No macro, syntax, notation, axiom, sorry.
-/
import Derived.Test.YtgkpcjahopacjaaGreatDoorRows
import GoSem.ClaimSeven
namespace Go.Proofs.YtgkpcjahopacjaaGreatDoor
namespace Rows

/-- THE TIED CARD OF 'quadformlaw30.ConstructExists'. -/
def constructExistsCard : Claim7 := { stood := { row := constructExistsRow, standIns := [], harness := (true, "583191fabe7dba619ff086a8e5dbbd8778b826a4eca4e7750fc6cc719d7f8ce0"), looks := false }, kinds := [], alts := [], laidByText := true, laidKinds := [.data, .data], laidTests := true, laidLooks := .later }
def ConstructExistsCardSaid : Prop := Claim7.holds Tryz.pinned (.plain (OpenSpec.ofChange constructExistsSpec)) constructExistsCard

/-- THE SECOND FORM's CARD OF 'quadformlaw30.ConstructExists'. -/
def constructExistsUptoCard : Claim7 := { stood := { row := constructExistsUptoRow, standIns := [], harness := (true, "583191fabe7dba619ff086a8e5dbbd8778b826a4eca4e7750fc6cc719d7f8ce0"), looks := false }, kinds := [], alts := [], laidByText := true, laidKinds := [.data, .data], laidTests := true, laidLooks := .later }
def ConstructExistsUptoCardSaid : Prop := Claim7.holds Tryz.pinned (.plain (OpenSpec.upto constructExistsSpec)) constructExistsUptoCard
end Rows
end Go.Proofs.YtgkpcjahopacjaaGreatDoor
