/-
  DERIVED. GIVEN WITH THE SEED: THE PROGRAM's TIES (one call each: nine closed facts by the kernel) AND EACH ROW's TIE, after the 31st guide's Derived/Test/Toyas{Tie, Card}.lean. No idea stands in it: it is a product of the set-up. Laid BY PROGRAM, IN A SANDBOX (cutbox-door.mjs). By AI agents, Wed Nov 11 2026. No macro, syntax, notation, axiom, sorry.
-/
import Derived.Test.YtbjdfanphdfkdaaGreatDoorRows
import Derived.LaidByTextLater
import Derived.SevenTiedAt
import Derived.LaidSub
import Derived.LaidOnce
namespace Go.Proofs.YtbjdfanphdfkdaaGreatDoor
open Go
set_option maxRecDepth 100000
theorem seatTie1 : Tryz.prog.laidByTextLater [("quadform/prime.offsets", Rows.laid_quadform_prime_offsets), ("quadform/minkowski.conditions", Rows.laid_quadform_minkowski_conditions)] [.data, .data] true :=
  Program.laidByTextLater_by_one 19 8 9 (by kernel_rfl) (by kernel_rfl) (by kernel_rfl) (by kernel_rfl) (by kernel_rfl) (by kernel_rfl) (fun _ _ => by kernel_rfl)
theorem noOwnUnsafe : Tryz.pinned.checked.prog.headLifts.contains "ownunsafe" = false := by kernel_rfl
theorem tie : Tryz.prog.laidByTextLater [("quadform/minkowski.conditions", Rows.laid_quadform_minkowski_conditions)] [.data] true :=
  Program.laidByTextLater.sub seatTie1 ["quadform/minkowski.conditions"] (by kernel_rfl) (by kernel_rfl)
theorem constructCovers_row_tie : Rows.constructCoversRow.laidByTextAt .later Tryz.pinned [.data] true :=
  OpenClaim.laidByTextAt_later rfl rfl tie noOwnUnsafe
theorem tie2 : Tryz.prog.laidByTextLater [("quadform/prime.offsets", Rows.laid_quadform_prime_offsets), ("quadform/minkowski.conditions", Rows.laid_quadform_minkowski_conditions)] [.data, .data] true :=
  Program.laidByTextLater.sub seatTie1 ["quadform/prime.offsets", "quadform/minkowski.conditions"] (by kernel_rfl) (by kernel_rfl)
theorem constructForms_row_tie : Rows.constructFormsRow.laidByTextAt .later Tryz.pinned [.data, .data] true :=
  OpenClaim.laidByTextAt_later rfl rfl tie2 noOwnUnsafe
theorem constructCoversUpto_row_tie : Rows.constructCoversUptoRow.laidByTextAt .later Tryz.pinned [.data] true :=
  OpenClaim.laidByTextAt_later rfl rfl tie noOwnUnsafe
theorem constructFormsUpto_row_tie : Rows.constructFormsUptoRow.laidByTextAt .later Tryz.pinned [.data, .data] true :=
  OpenClaim.laidByTextAt_later rfl rfl tie2 noOwnUnsafe
end Go.Proofs.YtbjdfanphdfkdaaGreatDoor
