/- A part of the proof. -/
import Derived.Test.YtenboapacjlmoaaGreatDoorSS
import Derived.Test.YtenboapacjlmoaaGreatDoorPA
import Derived.KernelRfl
import Derived.Test.YtenboapacjlmoaaGreatDoorAL70
namespace Go.Proofs.YtenboapacjlmoaaGreatDoor
set_option linter.unusedSimpArgs false
set_option linter.unusedVariables false
open Go Go.AL Go.Proofs
set_option maxRecDepth 100000
def r108_0:List COp:=[oP 2 (.mov (.k (.vec [] 0 (some 0))))]
def r108_1:List COp:=[mV 3 0,oP 4 (.snil false (.t 3))]
def r108_2:List COp:=[oP 2 (.mov (.k (.vec [] 0 (some 0))))]
def r108_3:List COp:=[oP 5 (.bsl 0 1 [] []),mV 6 0,oP 7 (.append 1 4 (.t 5) (.t 6)),mV 2 7]
def c108:CC:=(.seq (.reg r108_0 none) (.seq (.seq (.reg r108_1 none) (.cond (.t 4) (.seq (.reg r108_2 none) .ret) .skip)) (.seq (.reg r108_3 none) .ret)))
theorem comp108:CmpC Tryz.prog G Tryz.f108=some c108:=by kernel_rfl
theorem res108:Tryz.f108.results.toList=[(.tmp 2)]:=by kernel_rfl
end Go.Proofs.YtenboapacjlmoaaGreatDoor
namespace Go.Proofs.YtenboapacjlmoaaGreatDoor
set_option linter.unusedSimpArgs false
set_option linter.unusedVariables false
open Go Go.AL Go.Proofs
set_option maxRecDepth 100000
theorem nt108:Tryz.f108.ntmps=8:=by kernel_rfl
theorem clone0 (cs:List AV) (c:Option Nat):Ret Tryz.prog G 108 [.vec cs 0 c] [] (.vec [] 0 (some 0)) []:=by
 refine Ret_of mixed Tryz.func108 comp108 _ 8 res108 nt108 (by simp) (by simp) ?_
 simp only [c108,r108_0,r108_1,r108_2,r108_3,SS,forall_const,reduceCtorEq,reduceIte,implies_true,Nat.reduceAdd,Nat.reduceEqDiff,Nat.reduceLeDiff]
 refine ⟨⟨.inl trivial,_,rfl,.keep _ _⟩,?_⟩
 simp only [appendA,lenA,elems,need,Option.bind_some,Nat.zero_mul,Nat.le_refl,Nat.zero_le,and_self,if_true,bindP_some,applyE,List.take_zero]
 exact ⟨.inl trivial,_,rfl,.freeze 1 _ _ _ rfl (by intro i cs h;omega)⟩
theorem clone1 (cs:List AV) (n:Nat) (c:Option Nat) (h0:0<n) (hn:n≤cs.length) (hb:16*n≤2^48):Ret Tryz.prog G 108 [.vec cs n c] [] (.sl 1 0 n 1 none) [some [],some (cs.take n)]:=by
 refine Ret_of mixed Tryz.func108 comp108 _ 8 res108 nt108 (by simp) (by simp) ?_
 simp only [c108,r108_0,r108_1,r108_2,r108_3,SS,forall_const,reduceCtorEq,reduceIte,implies_true,Nat.reduceAdd,Nat.reduceEqDiff,Nat.reduceLeDiff,show n≠0 by omega,if_false]
 have e1:n*1≤cs.length:=by omega
 simp only [appendA,lenA,elems,need,Option.bind_some,hn,e1,Nat.le_refl,and_self,if_true,show n≠0 by omega,if_false,getB,List.getElem?_cons_zero,Nat.zero_mul,Nat.zero_le,Nat.zero_add,true_and,show 4*n*4≤2^48 by omega,show n<2^62 by omega,bindP_some,applyE,Nat.mul_one,List.set_cons_succ,List.set_cons_zero,List.take_zero,List.nil_append]
 exact ⟨.inl trivial,_,rfl,.keep _ _⟩
def g108:List AV→Heap→Option (AV×Heap)
 | [.vec cs n _],[]=>match n with
  | 0=>some (.vec [] 0 (some 0),[])
  | n+1=>if n+1≤cs.length∧16*(n+1)≤281474976710656 then some (.sl 1 0 (n+1) 1 none,[some [],some (cs.take (n+1))]) else none
 | _,_=>none
theorem g108_ok {args:List AV} {H:Heap} {v:AV} {H':Heap} (h:g108 args H=some (v,H')):Ret Tryz.prog G 108 args H v H':=by
 unfold g108 at h
 split at h
 ·split at h
  ·simp only [Option.some.injEq,Prod.mk.injEq] at h
   obtain ⟨rfl,rfl⟩:=h
   exact clone0 _ _
  ·split at h
   ·rename_i hh
    simp only [Option.some.injEq,Prod.mk.injEq] at h
    obtain ⟨rfl,rfl⟩:=h
    exact clone1 _ _ _ (by omega) hh.1 hh.2
   ·simp at h
 ·simp at h
end Go.Proofs.YtenboapacjlmoaaGreatDoor
