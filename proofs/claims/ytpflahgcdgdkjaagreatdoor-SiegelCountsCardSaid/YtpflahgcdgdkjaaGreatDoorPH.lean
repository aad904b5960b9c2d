/- A part of the proof. -/
import Derived.Test.YtpflahgcdgdkjaaGreatDoorSS
import Derived.Test.YtpflahgcdgdkjaaGreatDoorPA
import Derived.KernelRfl
import Derived.Test.YtpflahgcdgdkjaaGreatDoorAL70
namespace Go.Proofs.YtpflahgcdgdkjaaGreatDoor
open Option.some renaming injEq → qQ
open Nat renaming reduceEqDiff → qX
open Option renaming bind_some → qZ
set_option linter.unusedSimpArgs false
set_option linter.unusedVariables false
open Go Go.AL Go.Proofs
set_option maxRecDepth 100000
def r142_0:List COp:=[oP 2 (.mov (.k (.vec [] 0 (some 0))))]
def r142_1:List COp:=[mV 3 0,oP 4 (.snil false (.t 3))]
def r142_2:List COp:=[oP 2 (.mov (.k (.vec [] 0 (some 0))))]
def r142_3:List COp:=[oP 5 (.bsl 0 1 [] []),mV 6 0,oP 7 (.append 1 4 (.t 5) (.t 6)),mV 2 7]
def c142:CC:=(.seq (.reg r142_0 none) (.seq (.seq (.reg r142_1 none) (.cond (.t 4) (.seq (.reg r142_2 none) .ret) .skip)) (.seq (.reg r142_3 none) .ret)))
theorem comp142:CmpC Tryz.prog G Tryz.f142=some c142:=by kernel_rfl
theorem res142:Tryz.f142.results.toList=[(.tmp 2)]:=by kernel_rfl
theorem nt142:Tryz.f142.ntmps=8:=by kernel_rfl
theorem qwx (cs:List AV) (c:Option Nat):Ret Tryz.prog G 142 [.vec cs 0 c] [] (.vec [] 0 (some 0)) []:=by
 refine zai zah Tryz.func142 comp142 _ 8 res142 nt142 (by simp) (by simp) ?_
 simp only [c142,r142_0,r142_1,r142_2,r142_3,SS,reduceCtorEq,reduceIte,qX]
 refine ⟨⟨.inl trivial,_,rfl,.keep _ _⟩,?_⟩
 simp only [zbu,lenA,zds,need,qZ,Nat.zero_mul,Nat.le_refl,Nat.zero_le,and_self,if_true,zaq,zag,List.take_zero]
 exact ⟨.inl trivial,_,rfl,.freeze 1 _ _ _ rfl (by intro i cs h;omega)⟩
theorem qwy (cs:List AV) (n:Nat) (c:Option Nat) (h0:0<n) (hn:n≤cs.length) (hb:16*n≤2^48):Ret Tryz.prog G 142 [.vec cs n c] [] (.sl 1 0 n 1 none) [some [],some (cs.take n)]:=by
 refine zai zah Tryz.func142 comp142 _ 8 res142 nt142 (by simp) (by simp) ?_
 simp only [c142,r142_0,r142_1,r142_2,r142_3,SS,forall_const,reduceCtorEq,reduceIte,qX,show n≠0 by omega,if_false]
 have e1:n*1≤cs.length:=by omega
 simp only [zbu,lenA,zds,need,qZ,hn,Nat.le_refl,and_self,if_true,show n≠0 by omega,if_false,getB,List.getElem?_cons_zero,Nat.zero_le,Nat.zero_add,true_and,show 4*n*4≤2^48 by omega,show n<2^62 by omega,zaq,zag,Nat.mul_one,List.set_cons_succ,List.set_cons_zero,List.take_zero,List.nil_append]
 exact ⟨.inl trivial,_,rfl,.keep _ _⟩
def g142:List AV→Heap→Option (AV×Heap)
 | [.vec cs n _],[]=>match n with
  | 0=>some (.vec [] 0 (some 0),[])
  | n+1=>if n+1≤cs.length∧16*(n+1)≤281474976710656 then some (.sl 1 0 (n+1) 1 none,[some [],some (cs.take (n+1))]) else none
 | _,_=>none
theorem qud {args:List AV} {H:Heap} {v:AV} {H':Heap} (h:g142 args H=some (v,H')):Ret Tryz.prog G 142 args H v H':=by
 unfold g142 at h
 split at h
 ·split at h
  ·simp only [qQ,Prod.mk.injEq] at h
   obtain ⟨rfl,rfl⟩:=h
   exact qwx _ _
  ·split at h
   ·rename_i hh
    simp only [qQ,Prod.mk.injEq] at h
    obtain ⟨rfl,rfl⟩:=h
    exact qwy _ _ _ (by omega) hh.1 hh.2
   ·simp at h
 ·simp at h
end Go.Proofs.YtpflahgcdgdkjaaGreatDoor
