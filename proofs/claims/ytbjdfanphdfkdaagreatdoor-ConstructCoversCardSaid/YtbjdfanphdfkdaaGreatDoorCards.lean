/-
  DERIVED. GIVEN WITH THE SEED: THE CARDS: each row of YtbjdfanphdfkdaaGreatDoorRows.lean that lists a variable, with what it lists TIED to the program's text (the seventh form; the later family's looks); each row that meets fmt, with fmt's text TOLD by the authors' own Lean function (tested against real Go, not proved from fmt's source: count such statements apart). THE CARD IS WHAT COUNTS. Prove the row's statement (the work); the ties are given (YtbjdfanphdfkdaaGreatDoorTie.lean); close each card by the builder's one call (the guide's Derived/Test/ToyasCard.lean, 'card_holds'). Laid BY PROGRAM, IN A SANDBOX (cutbox-door.mjs). By AI agents, Wed Nov 11 2026. No macro, syntax, notation, axiom, sorry.
-/
import Derived.Test.YtbjdfanphdfkdaaGreatDoorRows
import GoSem.ClaimSeven
namespace Go.Proofs.YtbjdfanphdfkdaaGreatDoor
namespace Rows

/-- THE TIED CARD OF 'quadformlaw30.ConstructCovers'. -/
def constructCoversCard : Claim7 := { stood := { row := constructCoversRow, standIns := [], harness := (true, "5fe00e74017d33c0f815b92a3d6f0b3da411d2c2b79cf0391a8b7baec21fc9e7"), looks := false }, kinds := [], alts := [], laidByText := true, laidKinds := [.data], laidTests := true, laidLooks := .later }
def ConstructCoversCardSaid : Prop := Claim7.holds Tryz.pinned (.plain (OpenSpec.ofChange constructCoversSpec)) constructCoversCard

/-- THE TIED CARD OF 'quadformlaw30.ConstructForms'. -/
def constructFormsCard : Claim7 := { stood := { row := constructFormsRow, standIns := [], harness := (true, "5fe00e74017d33c0f815b92a3d6f0b3da411d2c2b79cf0391a8b7baec21fc9e7"), looks := false }, kinds := [], alts := [], laidByText := true, laidKinds := [.data, .data], laidTests := true, laidLooks := .later }
def ConstructFormsCardSaid : Prop := Claim7.holds Tryz.pinned (.plain (OpenSpec.ofChange constructFormsSpec)) constructFormsCard

/-- THE SECOND FORM's CARD OF 'quadformlaw30.ConstructCovers'. -/
def constructCoversUptoCard : Claim7 := { stood := { row := constructCoversUptoRow, standIns := [], harness := (true, "5fe00e74017d33c0f815b92a3d6f0b3da411d2c2b79cf0391a8b7baec21fc9e7"), looks := false }, kinds := [], alts := [], laidByText := true, laidKinds := [.data], laidTests := true, laidLooks := .later }
def ConstructCoversUptoCardSaid : Prop := Claim7.holds Tryz.pinned (.plain (OpenSpec.upto constructCoversSpec)) constructCoversUptoCard

/-- THE SECOND FORM's CARD OF 'quadformlaw30.ConstructForms'. -/
def constructFormsUptoCard : Claim7 := { stood := { row := constructFormsUptoRow, standIns := [], harness := (true, "5fe00e74017d33c0f815b92a3d6f0b3da411d2c2b79cf0391a8b7baec21fc9e7"), looks := false }, kinds := [], alts := [], laidByText := true, laidKinds := [.data, .data], laidTests := true, laidLooks := .later }
def ConstructFormsUptoCardSaid : Prop := Claim7.holds Tryz.pinned (.plain (OpenSpec.upto constructFormsSpec)) constructFormsUptoCard
end Rows
end Go.Proofs.YtbjdfanphdfkdaaGreatDoor
