/- A part of the proof. -/
import Derived.Test.YtbjdfanphdfkdaaGreatDoorPG
import Derived.Test.YtbjdfanphdfkdaaGreatDoorPF
set_option linter.all false
set_option maxRecDepth 1000000
namespace Go.Proofs.YtbjdfanphdfkdaaGreatDoor
open Go Go.AL Go.Proofs
theorem c2_ok:chk2 (P2 tr2)=true:=by kernel_rfl
theorem kth:dia2 (P2 tr2)=true:=by kernel_rfl
theorem kti:dia3 (P3 tr3)=true:=by kernel_rfl
theorem c3_1:chk3 (P3 tr3) 1=true:=by kernel_rfl
theorem c3_2:chk3 (P3 tr3) 2=true:=by kernel_rfl
theorem c3_3:chk3 (P3 tr3) 3=true:=by kernel_rfl
theorem c3_4:chk3 (P3 tr3) 4=true:=by kernel_rfl
theorem c3_5:chk3 (P3 tr3) 5=true:=by kernel_rfl
theorem c3_6:chk3 (P3 tr3) 6=true:=by kernel_rfl
theorem c3_ok:allI 1 6 (chk3 (P3 tr3))=true:=by
 have key:∀{n:Nat} {f:Int->Bool},(∀x,(1:Int)<=x->x<1+n->f x=true)->allI 1 n f=true:=by
  intro n f
  induction n with
  |zero=>intro _;rfl
  |succ n ih=>
   intro h
   show bI (1+ .ofNat n) (λx=>ifB (f x) (allI 1 n f) false)=true
   rw[ziw,zem (h _ (by simp;omega) (by simp;omega))];exact ih λx h1 h2=>h x h1 (by omega)
 refine key λx h1 h2=>?_
 rcases(by omega:x=1\/x=2\/x=3\/x=4\/x=5\/x=6)with rfl | rfl | rfl | rfl | rfl | rfl
 ·exact c3_1
 ·exact c3_2
 ·exact c3_3
 ·exact c3_4
 ·exact c3_5
 ·exact c3_6
