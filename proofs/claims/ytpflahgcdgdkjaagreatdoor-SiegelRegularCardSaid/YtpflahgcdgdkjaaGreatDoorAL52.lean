/- A part of the proof. -/
import Derived.Test.YtpflahgcdgdkjaaGreatDoorAL24
set_option linter.all false
namespace Go.AL
open Go
section
variable{P:Program}{Γ:Glob}{n0 nt:Nat}{E:Env}{H:Heap}{c:CC}{Q:Post}
def Un(P:Program)(Γ:Glob)(n0 nt:Nat)(c:CC)(Q:Post):Nat->Env->Heap->Prop
 |0,_,_=>False
 |n+1,E,H=>wpC P Γ n0 nt c E H (zed (λE' H'=>Un P Γ n0 nt c Q n E' H') Q)
theorem W_un(hm:P.follows .mixedOrders=true)(n:Nat)(h:Un P Γ n0 nt c Q n E H):W P Γ n0 nt (.loop c) E H Q:=by
 refine zaf (λn E H=>Un P Γ n0 nt c Q n E H) h ?_;intro n E H hI;cases n with
 |zero=>exact hI.elim
 |succ n=>
  refine qbm c E H _ _ hm hI ?_;intro x E' H' hx;cases x with
  |normal=>exact⟨n,E',H',Nat.lt_succ_self n,hx,Weak.refl⟩
  |_=>exact hx
theorem zlu{n:Nat}(h:wpC P Γ n0 nt c E H (zed (λE' H'=>Un P Γ n0 nt c Q n E' H') Q)):Un P Γ n0 nt c Q (n+1) E H:=h
