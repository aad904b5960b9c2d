/- A part of the proof. -/
import Derived.Test.YtgfbaioffpcelaaGreatDoorPD
set_option linter.all false
set_option maxRecDepth 1000000
namespace Go.Proofs.YtgfbaioffpcelaaGreatDoor
open Go Go.AL Go.Proofs
def jjf(f:FuncId):Bool:=Nat.beq f 205
def kn(f:FuncId)(args:List AV)(H:Heap):Option (AV×Heap):=match Nat.beq f 203 with
 |true=>g203 args H
 |false=>none
theorem jjg:∀f args H v H',kn f args H=some (v,H')->Rt f args H v H':=by
 intro f args H v H' h;unfold kn at h;split at h
 ·rename_i e;rw[Nat.eq_of_beq_eq_true e];exact jah h
 ·simp at h
theorem jjh:Tryz.prog.funcs[4095]?=none:=by kernel_rfl
noncomputable abbrev run(m:MemZ)(f:FuncId)(args:List AV):Option (AV×Heap):=exG Tryz.prog G okB jjf kn m 5000 60 f args []
theorem zag{m:MemZ}(hm:zpp Tryz.prog G m){f:FuncId}{args:List AV}{v:AV}(h:run m f args=some (v,[])):Rt f args [] v []:=qky zuo qkz jjh jjg hm _ _ _ _ _ _ h
theorem mem0:zpp Tryz.prog G []:=by intro x hx;cases hx
