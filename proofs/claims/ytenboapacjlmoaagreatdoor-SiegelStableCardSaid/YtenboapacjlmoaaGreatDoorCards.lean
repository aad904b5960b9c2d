/-
  DERIVED. GIVEN WITH THE SEED: THE CARDS: each row of YtenboapacjlmoaaGreatDoorRows.lean that lists a variable, with what it lists TIED to the program's text (the seventh form; the later family's looks); each row that meets fmt, with fmt's text TOLD by the authors' own Lean function (tested against real Go, not proved from fmt's source: count such statements apart). THE CARD IS WHAT COUNTS. Prove the row's statement (the work); the ties are given (YtenboapacjlmoaaGreatDoorTie.lean); close each card by the builder's one call (the guide's Derived/Test/ToyasCard.lean, 'card_holds'). Laid BY PROGRAM, IN A SANDBOX (cutbox-door.mjs). By AI agents, Wed Nov 11 2026. No macro, syntax, notation, axiom, sorry.
-/
import Derived.Test.YtenboapacjlmoaaGreatDoorRows
import GoSem.ClaimSeven
namespace Go.Proofs.YtenboapacjlmoaaGreatDoor
namespace Rows

/-- THE TIED CARD OF 'quadformlaw40.SiegelSum'. -/
def siegelSumCard : Claim7 := { stood := { row := siegelSumRow, standIns := [], harness := (true, "fd9b71109da8d43c01304f61fdb2e05091125775b6e1058a5cbf3113deb39014"), looks := false }, kinds := [], alts := [], laidByText := true, laidKinds := [.data], laidTests := true, laidLooks := .later }
def SiegelSumCardSaid : Prop := Claim7.holds Tryz.pinned (.plain (OpenSpec.ofChange siegelSumSpec)) siegelSumCard

/-- THE TIED CARD OF 'quadformlaw40.SiegelStable'. -/
def siegelStableCard : Claim7 := { stood := { row := siegelStableRow, standIns := [], harness := (true, "fd9b71109da8d43c01304f61fdb2e05091125775b6e1058a5cbf3113deb39014"), looks := false }, kinds := [], alts := [], laidByText := true, laidKinds := [.data], laidTests := true, laidLooks := .later }
def SiegelStableCardSaid : Prop := Claim7.holds Tryz.pinned (.plain (OpenSpec.ofChange siegelStableSpec)) siegelStableCard

/-- THE SECOND FORM's CARD OF 'quadformlaw40.SiegelSum'. -/
def siegelSumUptoCard : Claim7 := { stood := { row := siegelSumUptoRow, standIns := [], harness := (true, "fd9b71109da8d43c01304f61fdb2e05091125775b6e1058a5cbf3113deb39014"), looks := false }, kinds := [], alts := [], laidByText := true, laidKinds := [.data], laidTests := true, laidLooks := .later }
def SiegelSumUptoCardSaid : Prop := Claim7.holds Tryz.pinned (.plain (OpenSpec.upto siegelSumSpec)) siegelSumUptoCard

/-- THE SECOND FORM's CARD OF 'quadformlaw40.SiegelStable'. -/
def siegelStableUptoCard : Claim7 := { stood := { row := siegelStableUptoRow, standIns := [], harness := (true, "fd9b71109da8d43c01304f61fdb2e05091125775b6e1058a5cbf3113deb39014"), looks := false }, kinds := [], alts := [], laidByText := true, laidKinds := [.data], laidTests := true, laidLooks := .later }
def SiegelStableUptoCardSaid : Prop := Claim7.holds Tryz.pinned (.plain (OpenSpec.upto siegelStableSpec)) siegelStableUptoCard
end Rows
end Go.Proofs.YtenboapacjlmoaaGreatDoor
