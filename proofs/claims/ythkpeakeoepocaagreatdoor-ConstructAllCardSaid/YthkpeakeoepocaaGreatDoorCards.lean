/-
  DERIVED. GIVEN WITH THE SEED: THE CARDS: each row of YthkpeakeoepocaaGreatDoorRows.lean that lists a variable, with what it lists TIED to the program's text (the seventh form; the later family's looks); each row that meets fmt, with fmt's text TOLD by the authors' own Lean function (tested against real Go, not proved from fmt's source: count such statements apart). THE CARD IS WHAT COUNTS. Prove the row's statement (the work); the ties are given (YthkpeakeoepocaaGreatDoorTie.lean); close each card by the builder's one call (the guide's Derived/Test/ToyasCard.lean, 'card_holds'). Laid BY PROGRAM, IN A SANDBOX (cutbox-door.mjs). By AI agents, Wed Nov 11 2026. No macro, syntax, notation, axiom, sorry.
-/
import Derived.Test.YthkpeakeoepocaaGreatDoorRows
import GoSem.ClaimSeven
namespace Go.Proofs.YthkpeakeoepocaaGreatDoor
namespace Rows

/-- THE TIED CARD OF 'quadformlaw30.ConstructErrors'. -/
def constructErrorsCard : Claim7 := { stood := { row := constructErrorsRow, standIns := [], harness := (true, "d6d571edaf3ea9818e2e4203925ad91fa291eb561ec2b799bcac7ae6d6fe6313"), looks := false }, kinds := [], alts := [], laidByText := true, laidKinds := [.data], laidTests := true, laidLooks := .later }
def ConstructErrorsCardSaid : Prop := Claim7.holds Tryz.pinned (.plain (OpenSpec.ofChange constructErrorsSpec)) constructErrorsCard

/-- THE TIED CARD OF 'quadformlaw30.ConstructAll'. -/
def constructAllCard : Claim7 := { stood := { row := constructAllRow, standIns := [], harness := (true, "d6d571edaf3ea9818e2e4203925ad91fa291eb561ec2b799bcac7ae6d6fe6313"), looks := false }, kinds := [], alts := [], laidByText := true, laidKinds := [.data], laidTests := true, laidLooks := .later }
def ConstructAllCardSaid : Prop := Claim7.holds Tryz.pinned (.plain (OpenSpec.ofChange constructAllSpec)) constructAllCard

/-- THE TIED CARD OF 'quadformlaw30.ConstructBinary'. -/
def constructBinaryCard : Claim7 := { stood := { row := constructBinaryRow, standIns := [], harness := (true, "d6d571edaf3ea9818e2e4203925ad91fa291eb561ec2b799bcac7ae6d6fe6313"), looks := false }, kinds := [], alts := [], laidByText := true, laidKinds := [.data], laidTests := true, laidLooks := .later }
def ConstructBinaryCardSaid : Prop := Claim7.holds Tryz.pinned (.plain (OpenSpec.ofChange constructBinarySpec)) constructBinaryCard

/-- THE TIED CARD OF 'quadformlaw30.ConstructOrders'. -/
def constructOrdersCard : Claim7 := { stood := { row := constructOrdersRow, standIns := [], harness := (true, "d6d571edaf3ea9818e2e4203925ad91fa291eb561ec2b799bcac7ae6d6fe6313"), looks := false }, kinds := [], alts := [], laidByText := true, laidKinds := [.data], laidTests := true, laidLooks := .later }
def ConstructOrdersCardSaid : Prop := Claim7.holds Tryz.pinned (.plain (OpenSpec.ofChange constructOrdersSpec)) constructOrdersCard

/-- THE SECOND FORM's CARD OF 'quadformlaw30.ConstructErrors'. -/
def constructErrorsUptoCard : Claim7 := { stood := { row := constructErrorsUptoRow, standIns := [], harness := (true, "d6d571edaf3ea9818e2e4203925ad91fa291eb561ec2b799bcac7ae6d6fe6313"), looks := false }, kinds := [], alts := [], laidByText := true, laidKinds := [.data], laidTests := true, laidLooks := .later }
def ConstructErrorsUptoCardSaid : Prop := Claim7.holds Tryz.pinned (.plain (OpenSpec.upto constructErrorsSpec)) constructErrorsUptoCard

/-- THE SECOND FORM's CARD OF 'quadformlaw30.ConstructAll'. -/
def constructAllUptoCard : Claim7 := { stood := { row := constructAllUptoRow, standIns := [], harness := (true, "d6d571edaf3ea9818e2e4203925ad91fa291eb561ec2b799bcac7ae6d6fe6313"), looks := false }, kinds := [], alts := [], laidByText := true, laidKinds := [.data], laidTests := true, laidLooks := .later }
def ConstructAllUptoCardSaid : Prop := Claim7.holds Tryz.pinned (.plain (OpenSpec.upto constructAllSpec)) constructAllUptoCard

/-- THE SECOND FORM's CARD OF 'quadformlaw30.ConstructBinary'. -/
def constructBinaryUptoCard : Claim7 := { stood := { row := constructBinaryUptoRow, standIns := [], harness := (true, "d6d571edaf3ea9818e2e4203925ad91fa291eb561ec2b799bcac7ae6d6fe6313"), looks := false }, kinds := [], alts := [], laidByText := true, laidKinds := [.data], laidTests := true, laidLooks := .later }
def ConstructBinaryUptoCardSaid : Prop := Claim7.holds Tryz.pinned (.plain (OpenSpec.upto constructBinarySpec)) constructBinaryUptoCard

/-- THE SECOND FORM's CARD OF 'quadformlaw30.ConstructOrders'. -/
def constructOrdersUptoCard : Claim7 := { stood := { row := constructOrdersUptoRow, standIns := [], harness := (true, "d6d571edaf3ea9818e2e4203925ad91fa291eb561ec2b799bcac7ae6d6fe6313"), looks := false }, kinds := [], alts := [], laidByText := true, laidKinds := [.data], laidTests := true, laidLooks := .later }
def ConstructOrdersUptoCardSaid : Prop := Claim7.holds Tryz.pinned (.plain (OpenSpec.upto constructOrdersSpec)) constructOrdersUptoCard
end Rows
end Go.Proofs.YthkpeakeoepocaaGreatDoor
