/-
  DERIVED. GIVEN WITH THE SEED: THE CARDS: each row of YtbcjjalhomlaaaaGreatDoorRRRows.lean that lists a variable, with what it lists TIED to the program's text (the seventh form; the later family's looks); each row that meets fmt, with fmt's text TOLD by the authors' own Lean function (tested against real Go, not proved from fmt's source: count such statements apart). THE CARD IS WHAT COUNTS. Prove the row's statement (the work); the ties are given (YtbcjjalhomlaaaaGreatDoorRRTie.lean); close each card by the builder's one call (the guide's Derived/Test/ToyasCard.lean, 'card_holds'). Laid BY PROGRAM, IN A SANDBOX (cutbox-door.mjs). By AI agents, Wed Nov 11 2026. No macro, syntax, notation, axiom, sorry.
-/
import Derived.Test.YtbcjjalhomlaaaaGreatDoorRRRows
import GoSem.ClaimSeven
namespace Go.Proofs.YtbcjjalhomlaaaaGreatDoorRR
namespace Rows

/-- THE TIED CARD OF 'quadformlaw40.SiegelSquares'. -/
def siegelSquaresCard : Claim7 := { stood := { row := siegelSquaresRow, standIns := [], harness := (true, "ca135e7b05c7bcc9ac4522f97004780a88e2d3e22b963ee4f2d6b62ce8bc7ec2"), looks := false }, kinds := [], alts := [], laidByText := true, laidKinds := [.data], laidTests := true, laidLooks := .later }
def SiegelSquaresCardSaid : Prop := Claim7.holds Tryz.pinned (.plain (OpenSpec.ofChange siegelSquaresSpec)) siegelSquaresCard

/-- THE SECOND FORM's CARD OF 'quadformlaw40.SiegelSquares'. -/
def siegelSquaresUptoCard : Claim7 := { stood := { row := siegelSquaresUptoRow, standIns := [], harness := (true, "ca135e7b05c7bcc9ac4522f97004780a88e2d3e22b963ee4f2d6b62ce8bc7ec2"), looks := false }, kinds := [], alts := [], laidByText := true, laidKinds := [.data], laidTests := true, laidLooks := .later }
def SiegelSquaresUptoCardSaid : Prop := Claim7.holds Tryz.pinned (.plain (OpenSpec.upto siegelSquaresSpec)) siegelSquaresUptoCard
end Rows
end Go.Proofs.YtbcjjalhomlaaaaGreatDoorRR
