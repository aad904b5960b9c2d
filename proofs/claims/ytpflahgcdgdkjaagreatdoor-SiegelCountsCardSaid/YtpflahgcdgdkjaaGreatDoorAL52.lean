/- A part of the proof. -/
import Derived.Test.YtpflahgcdgdkjaaGreatDoorAL24
namespace Go.AL
set_option linter.unusedSimpArgs false
set_option linter.unusedVariables false
open Go
section
variable {P:Program} {Γ:Glob} {n0 nt:Nat} {E:Env} {H:Heap} {c:CC} {Q:Post}
theorem callA_one {f:FuncId} {off n sz id:Nat} {k:Option Nat} {cs:List AV} {v0 v:AV} {K:AV→Eff→List Nat→Nat→Prop} (h:Ret P Γ f [.sl 0 off n sz k] [some cs] v0 [some cs]) (hid:H[id]?=some (some cs)) (hv:v0.ren (zan [id] H.length)=v)
  (hk:K v [(id,some cs)] [id] 0) (hcs:AV.closed.closedL cs=true:=by rfl):zmr P Γ f [.sl id off n sz k] H K:=by
 have hlt:id<H.length:=by
  rcases Nat.lt_or_ge id H.length with h' | h'
  ·exact h'
  ·rw [List.getElem?_eq_none h'] at hid;simp at hid
 have hn:zan [id] H.length 0=id:=by simp [zan]
 have hm:renB (zan [id] H.length) (some cs)=some cs:=by
  simp only [renB]
  rw [zbb _ _ hcs]
 have:=CallR0.mk (P:=P) (Γ:=Γ) (f:=f) (args:=[.sl id off n sz k]) (k:=H.length) (H:=H++List.replicate 0 none) [id] [.sl 0 off n sz k] [some cs] v0 [some cs] h rfl (by simp) (by simpa using hlt)
  (by simp [AV.ren,hn]) (by simp [AV.under,AV.under.underL]) (by
   intro i c hi
   cases i with
   | zero=>
    simp at hi
    subst hi
    refine ⟨cs,rfl,zbt _ _ hcs,?_⟩
    rw [hn,hm]
    simpa using hid
   | succ i=>simp at hi)
 refine ⟨v,[(id,some cs)],[id],0,?_,hk⟩
 rw [hv] at this
 refine .base ?_
 simpa [effs,hn,hm] using this
end
end Go.AL
