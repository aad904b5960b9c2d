/-
  DERIVED. GIVEN WITH THE SEED: THE CARDS: each row of YtgfbaioffpcelaaGreatDoorRows.lean that lists a variable, with what it lists TIED to the program's text (the seventh form; the later family's looks); each row that meets fmt, with fmt's text TOLD by the authors' own Lean function (tested against real Go, not proved from fmt's source: count such statements apart). THE CARD IS WHAT COUNTS. Prove the row's statement (the work); the ties are given (YtgfbaioffpcelaaGreatDoorTie.lean); close each card by the builder's one call (the guide's Derived/Test/ToyasCard.lean, 'card_holds'). Laid BY PROGRAM, IN A SANDBOX (cutbox-door.mjs). By AI agents, Wed Nov 11 2026. No macro, syntax, notation, axiom, sorry.
-/
import Derived.Test.YtgfbaioffpcelaaGreatDoorRows
import GoSem.ClaimSeven
namespace Go.Proofs.YtgfbaioffpcelaaGreatDoor
namespace Rows

/-- THE TIED CARD OF 'quadformlaw40.SiegelExpected'. -/
def siegelExpectedCard : Claim7 := { stood := { row := siegelExpectedRow, standIns := [], harness := (true, "f571009a09c49876c24ad9b46c52192c791efcf4f277181af17af3ab2fb8bb9e"), looks := false }, kinds := [], alts := [], laidByText := true, laidKinds := [.data], laidTests := true, laidLooks := .later }
def SiegelExpectedCardSaid : Prop := Claim7.holds Tryz.pinned (.plain (OpenSpec.ofChange siegelExpectedSpec)) siegelExpectedCard

/-- THE TIED CARD OF 'quadformlaw40.SiegelGenus'. -/
def siegelGenusCard : Claim7 := { stood := { row := siegelGenusRow, standIns := [], harness := (true, "f571009a09c49876c24ad9b46c52192c791efcf4f277181af17af3ab2fb8bb9e"), looks := false }, kinds := [], alts := [], laidByText := true, laidKinds := [.data], laidTests := true, laidLooks := .later }
def SiegelGenusCardSaid : Prop := Claim7.holds Tryz.pinned (.plain (OpenSpec.ofChange siegelGenusSpec)) siegelGenusCard

/-- THE SECOND FORM's CARD OF 'quadformlaw40.SiegelExpected'. -/
def siegelExpectedUptoCard : Claim7 := { stood := { row := siegelExpectedUptoRow, standIns := [], harness := (true, "f571009a09c49876c24ad9b46c52192c791efcf4f277181af17af3ab2fb8bb9e"), looks := false }, kinds := [], alts := [], laidByText := true, laidKinds := [.data], laidTests := true, laidLooks := .later }
def SiegelExpectedUptoCardSaid : Prop := Claim7.holds Tryz.pinned (.plain (OpenSpec.upto siegelExpectedSpec)) siegelExpectedUptoCard

/-- THE SECOND FORM's CARD OF 'quadformlaw40.SiegelGenus'. -/
def siegelGenusUptoCard : Claim7 := { stood := { row := siegelGenusUptoRow, standIns := [], harness := (true, "f571009a09c49876c24ad9b46c52192c791efcf4f277181af17af3ab2fb8bb9e"), looks := false }, kinds := [], alts := [], laidByText := true, laidKinds := [.data], laidTests := true, laidLooks := .later }
def SiegelGenusUptoCardSaid : Prop := Claim7.holds Tryz.pinned (.plain (OpenSpec.upto siegelGenusSpec)) siegelGenusUptoCard
end Rows
end Go.Proofs.YtgfbaioffpcelaaGreatDoor
