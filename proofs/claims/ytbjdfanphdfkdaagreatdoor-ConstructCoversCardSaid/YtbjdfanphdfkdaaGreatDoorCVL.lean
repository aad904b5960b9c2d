/- A part of the proof. -/
import Derived.Test.YtbjdfanphdfkdaaGreatDoorCVL0
import Derived.Test.YtbjdfanphdfkdaaGreatDoorCVL1
import Derived.Test.YtbjdfanphdfkdaaGreatDoorCVL2
import Derived.Test.YtbjdfanphdfkdaaGreatDoorCVL3
set_option linter.all false
set_option maxRecDepth 1000000
namespace Go.Proofs.YtbjdfanphdfkdaaGreatDoor
open Go Go.AL Go.Proofs
set_option maxHeartbeats 4000000
theorem awk:Rt 7 [] [] (.bool true) []:=jyb (by kernel_rfl)
