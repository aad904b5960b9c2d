/- A part of the proof. -/
import Derived.Test.YtpflahgcdgdkjaaGreatDoorPH
import Derived.Test.YtpflahgcdgdkjaaGreatDoorPA
namespace Go.Proofs.YtpflahgcdgdkjaaGreatDoor
set_option linter.unusedSimpArgs false
set_option linter.unusedVariables false
open Go Go.AL Go.Proofs
set_option maxRecDepth 1000000
def qxz (f:FuncId):Bool:=Nat.beq f 144
def kn (f:FuncId) (args:List AV) (H:Heap):Option (AV×Heap):=match Nat.beq f 142 with
 | true=>g142 args H
 | false=>none
theorem qya:∀f args H v H',kn f args H=some (v,H')→Ret Tryz.prog G f args H v H':=by
 intro f args H v H' h
 unfold kn at h
 split at h
 ·rename_i e
  rw [Nat.eq_of_beq_eq_true e]
  exact qud h
 ·simp at h
theorem qyb:Tryz.prog.funcs[4095]?=none:=by kernel_rfl
noncomputable abbrev run (m:MemZ) (f:FuncId) (args:List AV):Option (AV×Heap):=exG Tryz.prog G okB qxz kn m 5000 60 f args []
theorem zaj {m:MemZ} (hm:zor Tryz.prog G m) {f:FuncId} {args:List AV} {v:AV} (h:run m f args=some (v,[])):Ret Tryz.prog G f args [] v []:=qex zah qve qyb qya hm _ _ _ _ _ _ h
theorem mem0:zor Tryz.prog G []:=by intro x hx;cases hx
end Go.Proofs.YtpflahgcdgdkjaaGreatDoor
