/- A part of the proof. -/
import Derived.Test.YtpflahgcdgdkjaaGreatDoorAL24
set_option linter.all false
namespace Go.AL
open Go
section
variable {P:Program} {Γ:Glob} {n0 nt:Nat} {E:Env} {H:Heap} {c:CC} {Q:Post}
def Un (P:Program) (Γ:Glob) (n0 nt:Nat) (c:CC) (Q:Post):Nat->Env->Heap->Prop
 | 0,_,_=>False
 | n+1,E,H=>wpC P Γ n0 nt c E H (zdt (fun E' H'=>Un P Γ n0 nt c Q n E' H') Q)
theorem W_un (hm:P.follows .mixedOrders=true) (n:Nat) (h:Un P Γ n0 nt c Q n E H):W P Γ n0 nt (.loop c) E H Q:=by
 refine zai (fun n E H=>Un P Γ n0 nt c Q n E H) h ?_
 intro n E H hI
 cases n with
 | zero=>exact hI.elim
 | succ n=>
  refine zyp c E H _ _ hm hI ?_
  intro x E' H' hx
  cases x with
  | normal=>exact ⟨n,E',H',Nat.lt_succ_self n,hx,Weak.refl⟩
  | _=>exact hx
theorem zfc {n:Nat} (h:wpC P Γ n0 nt c E H (zdt (fun E' H'=>Un P Γ n0 nt c Q n E' H') Q)):Un P Γ n0 nt c Q (n+1) E H:=h
theorem callA_one {f:FuncId} {off n sz id:Nat} {k:Option Nat} {cs:List AV} {v0 v:AV} {K:AV->Eff->List Nat->Nat->Prop} (h:Ret P Γ f [.sl 0 off n sz k] [some cs] v0 [some cs]) (hid:H[id]?=some (some cs)) (hv:v0.ren (zak [id] H.length)=v)
  (hk:K v [(id,some cs)] [id] 0) (hcs:AV.closed.closedL cs=true:=by rfl):zlt P Γ f [.sl id off n sz k] H K:=by
 have hlt:id<H.length:=by
  rcases Nat.lt_or_ge id H.length with h' | h'
  ·exact h'
  ·rw [List.getElem?_eq_none h'] at hid;simp at hid
 have hn:zak [id] H.length 0=id:=by simp [zak]
 have hm:renB (zak [id] H.length) (some cs)=some cs:=by
  simp only [renB]
  rw [zar _ _ hcs]
 have:=CallR0.mk (P:=P) (Γ:=Γ) (f:=f) (args:=[.sl id off n sz k]) (k:=H.length) (H:=H++List.replicate 0 none) [id] [.sl 0 off n sz k] [some cs] v0 [some cs] h rfl (by simp) (by simpa using hlt)
  (by simp [AV.ren,hn]) (by simp [AV.under,AV.under.underL]) (by
   intro i c hi
   cases i with
   | zero=>
    simp at hi
    subst hi
    refine ⟨cs,rfl,zbd _ _ hcs,?_⟩
    rw [hn,hm]
    simpa using hid
   | succ i=>simp at hi)
 refine ⟨v,[(id,some cs)],[id],0,?_,hk⟩
 rw [hv] at this
 refine .base ?_
 simpa [effs,hn,hm] using this
end
theorem zhy {x:Nat} (h:x<18446744073709551616):IntKind.u64.wrap (x:Int)=x:=by
 simp [IntKind.wrap,IntKind.bits,IntKind.signed];omega
theorem qmy {x:Nat} (h:x<4294967296):IntKind.u32.wrap (x:Int)=x:=by
 simp [IntKind.wrap,IntKind.bits,IntKind.signed];omega
theorem qgh {x:Nat} (h:x<18446744073709551616):IntKind.u64.wrap ((BitVec.ofInt 64 0 ||| BitVec.ofInt 64 (x:Int)).toNat:Int)=x:=by
 have:(BitVec.ofInt 64 0 ||| BitVec.ofInt 64 (x:Int)).toNat=x:=by
  have e0:BitVec.ofInt 64 0=0#64:=rfl
  rw [e0,BitVec.zero_or]
  simp [BitVec.toNat_ofInt]
  omega
 rw [this]
 exact zhy h
end Go.AL
