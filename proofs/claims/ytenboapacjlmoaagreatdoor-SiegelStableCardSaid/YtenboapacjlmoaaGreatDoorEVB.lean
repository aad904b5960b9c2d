/- A part of the proof. -/
import Derived.Test.YtenboapacjlmoaaGreatDoorPE
import Derived.Test.YtenboapacjlmoaaGreatDoorPA
namespace Go.Proofs.YtenboapacjlmoaaGreatDoor
set_option linter.unusedSimpArgs false
set_option linter.unusedVariables false
open Go Go.AL Go.Proofs
set_option maxRecDepth 1000000
def keepF (f:FuncId):Bool:=Nat.beq f 110
def kn (f:FuncId) (args:List AV) (H:Heap):Option (AV×Heap):=match Nat.beq f 108 with
 | true=>g108 args H
 | false=>none
theorem kn_ok:∀f args H v H',kn f args H=some (v,H')→Ret Tryz.prog G f args H v H':=by
 intro f args H v H' h
 unfold kn at h
 split at h
 ·rename_i e
  rw [Nat.eq_of_beq_eq_true e]
  exact g108_ok h
 ·simp at h
theorem p4095:Tryz.prog.funcs[4095]?=none:=by kernel_rfl
noncomputable abbrev run (m:MemZ) (f:FuncId) (args:List AV):Option (AV×Heap):=exG Tryz.prog G okB keepF kn m 5000 60 f args []
theorem run_ret {m:MemZ} (hm:MemOKZ Tryz.prog G m) {f:FuncId} {args:List AV} {v:AV} (h:run m f args=some (v,[])):Ret Tryz.prog G f args [] v []:=exG_sound mixed okB_ok p4095 kn_ok hm _ _ _ _ _ _ h
theorem mem0:MemOKZ Tryz.prog G []:=by intro x hx;cases hx
end Go.Proofs.YtenboapacjlmoaaGreatDoor
