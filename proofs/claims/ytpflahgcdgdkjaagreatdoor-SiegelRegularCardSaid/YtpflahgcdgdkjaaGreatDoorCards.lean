/-
  DERIVED. GIVEN WITH THE SEED: THE CARDS: each row of YtpflahgcdgdkjaaGreatDoorRows.lean that lists a variable, with what it lists TIED to the program's text (the seventh form; the later family's looks); each row that meets fmt, with fmt's text TOLD by the authors' own Lean function (tested against real Go, not proved from fmt's source: count such statements apart). THE CARD IS WHAT COUNTS. Prove the row's statement (the work); the ties are given (YtpflahgcdgdkjaaGreatDoorTie.lean); close each card by the builder's one call (the guide's Derived/Test/ToyasCard.lean, 'card_holds'). Laid BY PROGRAM, IN A SANDBOX (cutbox-door.mjs). By AI agents, Wed Nov 11 2026. No macro, syntax, notation, axiom, sorry.
-/
import Derived.Test.YtpflahgcdgdkjaaGreatDoorRows
import GoSem.ClaimSeven
namespace Go.Proofs.YtpflahgcdgdkjaaGreatDoor
namespace Rows

/-- THE TIED CARD OF 'quadformlaw40.SiegelCounts'. -/
def siegelCountsCard : Claim7 := { stood := { row := siegelCountsRow, standIns := [], harness := (true, "1322115c661a27cecd23f7b9507741844b9b846bc0fdae664ecc2776313a21b2"), looks := false }, kinds := [], alts := [], laidByText := true, laidKinds := [.data], laidTests := true, laidLooks := .later }
def SiegelCountsCardSaid : Prop := Claim7.holds Tryz.pinned (.plain (OpenSpec.ofChange siegelCountsSpec)) siegelCountsCard

/-- THE TIED CARD OF 'quadformlaw40.SiegelDensity'. -/
def siegelDensityCard : Claim7 := { stood := { row := siegelDensityRow, standIns := [], harness := (true, "1322115c661a27cecd23f7b9507741844b9b846bc0fdae664ecc2776313a21b2"), looks := false }, kinds := [], alts := [], laidByText := true, laidKinds := [.data], laidTests := true, laidLooks := .later }
def SiegelDensityCardSaid : Prop := Claim7.holds Tryz.pinned (.plain (OpenSpec.ofChange siegelDensitySpec)) siegelDensityCard

/-- THE TIED CARD OF 'quadformlaw40.SiegelRegular'. -/
def siegelRegularCard : Claim7 := { stood := { row := siegelRegularRow, standIns := [], harness := (true, "1322115c661a27cecd23f7b9507741844b9b846bc0fdae664ecc2776313a21b2"), looks := false }, kinds := [], alts := [], laidByText := true, laidKinds := [.data], laidTests := true, laidLooks := .later }
def SiegelRegularCardSaid : Prop := Claim7.holds Tryz.pinned (.plain (OpenSpec.ofChange siegelRegularSpec)) siegelRegularCard

/-- THE SECOND FORM's CARD OF 'quadformlaw40.SiegelCounts'. -/
def siegelCountsUptoCard : Claim7 := { stood := { row := siegelCountsUptoRow, standIns := [], harness := (true, "1322115c661a27cecd23f7b9507741844b9b846bc0fdae664ecc2776313a21b2"), looks := false }, kinds := [], alts := [], laidByText := true, laidKinds := [.data], laidTests := true, laidLooks := .later }
def SiegelCountsUptoCardSaid : Prop := Claim7.holds Tryz.pinned (.plain (OpenSpec.upto siegelCountsSpec)) siegelCountsUptoCard

/-- THE SECOND FORM's CARD OF 'quadformlaw40.SiegelDensity'. -/
def siegelDensityUptoCard : Claim7 := { stood := { row := siegelDensityUptoRow, standIns := [], harness := (true, "1322115c661a27cecd23f7b9507741844b9b846bc0fdae664ecc2776313a21b2"), looks := false }, kinds := [], alts := [], laidByText := true, laidKinds := [.data], laidTests := true, laidLooks := .later }
def SiegelDensityUptoCardSaid : Prop := Claim7.holds Tryz.pinned (.plain (OpenSpec.upto siegelDensitySpec)) siegelDensityUptoCard

/-- THE SECOND FORM's CARD OF 'quadformlaw40.SiegelRegular'. -/
def siegelRegularUptoCard : Claim7 := { stood := { row := siegelRegularUptoRow, standIns := [], harness := (true, "1322115c661a27cecd23f7b9507741844b9b846bc0fdae664ecc2776313a21b2"), looks := false }, kinds := [], alts := [], laidByText := true, laidKinds := [.data], laidTests := true, laidLooks := .later }
def SiegelRegularUptoCardSaid : Prop := Claim7.holds Tryz.pinned (.plain (OpenSpec.upto siegelRegularSpec)) siegelRegularUptoCard
end Rows
end Go.Proofs.YtpflahgcdgdkjaaGreatDoor
