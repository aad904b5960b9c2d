/- A part of the proof. -/
import Derived.Test.YtpflahgcdgdkjaaGreatDoorPA
set_option linter.all false
set_option maxRecDepth 1000000
namespace Go.Proofs.YtpflahgcdgdkjaaGreatDoor
open Go Go.AL Go.Proofs
def jgo(f:FuncId):Bool:=Nat.beq f 144
def kn(f:FuncId)(args:List AV)(H:Heap):Option (AV×Heap):=match Nat.beq f 142 with
 |true=>g142 args H
 |false=>none
theorem jgp:∀f args H v H',kn f args H=some (v,H')->Rt f args H v H':=by
 intro f args H v H' h;unfold kn at h;split at h
 ·rename_i e;rw[Nat.eq_of_beq_eq_true e];exact qxy h
 ·simp at h
theorem jgq:Tryz.prog.funcs[4095]?=none:=by kernel_rfl
noncomputable abbrev run(m:MemZ)(f:FuncId)(args:List AV):Option (AV×Heap):=exG Tryz.prog G okB jgo kn m 5000 60 f args []
theorem zai{m:MemZ}(hm:zrc Tryz.prog G m){f:FuncId}{args:List AV}{v:AV}(h:run m f args=some (v,[])):Rt f args [] v []:=qjt zoq qjv jgq jgp hm _ _ _ _ _ _ h
theorem mem0:zrc Tryz.prog G []:=by intro x hx;cases hx
