/- A part of the proof. -/
import Derived.Test.YtpflahgcdgdkjaaGreatDoorAL14
import Derived.OrdersIn
import Derived.RangeFuncLeaves
import Derived.RangeFuncRecord
set_option linter.all false
namespace Go.AL
open Option renaming bind_eq_some_iff -> qQ
open List renaming getElem?_append_left -> qX
open Nat renaming lt_or_ge -> qZ
open Go
structure Ctx where
 F:Nat->Prop
 w0:World
 ρ0:Nat->RS
 n0:Nat
 nt:Nat
 ro:Option Nat:=none
def zek(ro:Option Nat):Fence:={ Fence.wide with round:=ro }
def zmj(r:Nat):Deferred:={ target:= .collected r,args:= #[] }
def qpc(w0:World)(ρ:Nat->RS)(a:Act)(w:World):Prop:=
 ∃ms:List Nat,a.defers=ms.map zmj/\ms.Nodup/\∀D∈ms,w0.heap.size<=D/\w.heap[D]?=some (.deferred (some []))/\∀i,ρ i≠ .here D
structure Sim(Γ:Glob)(C:Ctx)(ρ:Nat->RS)(E:Env)(H:Heap)(a:Act)(w:World):Prop where
 hok:HOK Γ w C.F ρ H
 env:∀t,Rep w (Mu C.F ρ) ρ (E t) (a.tmps.getD t undef)
 defers:qpc C.w0 ρ a w
 size:a.tmps.size=C.nt
 kept:Kept (λb=>∃i,C.ρ0 i= .here b) C.w0 w
 ext:∀i,i<C.n0->ρ i=C.ρ0 i\/(C.ρ0 i≠ .unborn/\ρ i= .dead)
 old:∀i b,ρ i= .here b->(∃j,C.ρ0 j= .here b)\/C.w0.heap.size<=b
 len:C.n0<=H.length
theorem zfs{w:World}{b:Nat}{o:Obj}(h:w.heap[b]?=some o):b<w.heap.size:=by
 rcases qZ b w.heap.size with h' | h'
 ·exact h'
 ·rw[Array.getElem?_eq_none h']at h;simp at h
theorem qpc.after{Γ:Glob}{F:Nat->Prop}{n0:Nat}{ρ ρ':Nat->RS}{w0 w w':World}{H':Heap}{new:List Nat}{a a':Act}(h:qpc w0 ρ a w)(hA:After Γ F n0 ρ w ρ' w' H' new)(ha:a'.defers=a.defers):qpc w0 ρ' a' w':=by
 obtain⟨ms,h1,h2,h3⟩:=h;refine⟨ms,ha.trans h1,h2,λD hD=>?_⟩;obtain⟨g1,g2,g3⟩:=h3 D hD;have hlt:=zfs g2;refine⟨g1,?_,λi hi=>?_⟩
 ·rw[hA.kept.same D hlt (λ⟨i,hi⟩=>g3 i hi)];exact g2
 ·rcases hA.old i D hi with⟨j,hj⟩ | hle
  ·exact g3 j hj
  ·omega
theorem zyj(a:Act)(d:Option Nat)(v:Value):(a.put d v).defers=a.defers:=by cases d<;>rfl
theorem qwn{a:Act}{d:Nat}{v:Value}(hd:d<a.tmps.size)(t:Nat):(a.put (some d) v).tmps.getD t undef=if t=d then v else a.tmps.getD t undef:=by
 simp only[Act.put,Array.getD_eq_getD_getElem?];by_cases e:t=d
 ·subst e;simp[hd]
 ·rw[if_neg e,Array.getElem?_setIfInBounds_ne (λx=>e x.symm)]
theorem Sim.step{Γ:Glob}{C:Ctx}{ρ ρ':Nat->RS}{E:Env}{H H':Heap}{a:Act}{w w':World}{new:List Nat}{d:Option Nat}{v:AV}{v':Value}(hs:Sim Γ C ρ E H a w)
  (hA:After Γ C.F C.n0 ρ w ρ' w' H' new) (hnew:∀i∈new,C.n0<=i) (hlen:C.n0<=H'.length) (hr:Rep w' (Mu C.F ρ') ρ' v v') (hd:qoj C.nt d=true):
  Sim Γ C ρ' (updO E d v) H' (a.put d v') w':=by
 refine⟨hA.hok,λt=>?_,?_,?_,?_,?_,?_,hlen⟩
 ·cases d with
  |none=>exact(hs.env t).after hs.hok hA
  |some d=>
   have hd':d<a.tmps.size:=by rw[hs.size];simpa[qoj]using hd
   rw[qwn hd'];simp only[updO,upd];split
   ·exact hr
   ·exact(hs.env t).after hs.hok hA
 ·exact hs.defers.after hA (zyj a d v')
 ·cases d with
  |none=>exact hs.size
  |some d=>simpa[Act.put]using hs.size
 ·exact hs.kept.trans hA.kept (by
   rintro b hb ⟨i,hi⟩;rcases hs.old i b hi with h | h
   ·exact h
   ·omega)
 ·intro i hi;by_cases hu:ρ i= .unborn
  ·have h1:=hA.still i hu (λhn=>by have:=hnew i hn;omega);rcases hs.ext i hi with h2 | ⟨_,h2⟩
   ·exact .inl (by rw[h1,<-h2,hu])
   ·rw[hu]at h2;simp at h2
  ·rcases hA.ext i hu with h | ⟨_,h⟩
   ·rw[h];exact hs.ext i hi
   ·refine .inr ⟨?_,h⟩;rcases hs.ext i hi with h2 | ⟨h2,_⟩
    ·rw[<-h2];exact hu
    ·exact h2
 ·intro i b hi;rcases hA.old i b hi with⟨j,hj⟩ | h
  ·exact hs.old j b hj
  ·exact .inr (Nat.le_trans hs.kept.size h)
theorem Sim.drew{Γ:Glob}{C:Ctx}{ρ:Nat->RS}{E:Env}{H:Heap}{a:Act}{w:World}(hs:Sim Γ C ρ E H a w)(w':World)(hw:w'.heap=w.heap)(hr:w'.os=w.os/\w'.output=w.output):Sim Γ C ρ E H a w':=by
 have hA:=zin C.n0 hs.hok hw hr;refine⟨hA.hok,λt=>(hs.env t).after hs.hok hA,hs.defers.after hA rfl,hs.size,?_,hs.ext,hs.old,hs.len⟩
 exact hs.kept.trans hA.kept (by
  rintro b hb ⟨i,hi⟩;rcases hs.old i b hi with h | h
  ·exact h
  ·omega)
theorem HOK.pad{Γ:Glob}{w:World}{F:Nat->Prop}{ρ:Nat->RS}{H:Heap}(h:HOK Γ w F ρ H)(m:Nat):HOK Γ w F ρ (H++List.replicate m none):=by
 refine⟨h.inj,h.notF,h.fLt,λi hi=>h.unborn i (by simp at hi;omega),λi cs hi=>?_,λi b hi=>?_,h.glob⟩
 ·rcases qZ i H.length with hl | hl
  ·rw[qX hl]at hi;exact h.alive i cs hi
  ·rw[List.getElem?_append_right hl,List.getElem?_replicate]at hi;split at hi<;>simp at hi
 ·obtain⟨cs,h1,h2⟩:=h.blk i b hi
  have hl:i<H.length:=by
   rcases qZ i H.length with h' | h'
   ·exact h'
   ·rw[List.getElem?_eq_none h']at h1;simp at h1
  exact⟨cs,by rw[qX hl];exact h1,h2⟩
theorem Sim.pad{Γ:Glob}{C:Ctx}{ρ:Nat->RS}{E:Env}{H:Heap}{a:Act}{w:World}(hs:Sim Γ C ρ E H a w)(m:Nat):Sim Γ C ρ E (H++List.replicate m none) a w:=
 ⟨hs.hok.pad m,hs.env,hs.defers,hs.size,hs.kept,hs.ext,hs.old,by have:=hs.len;simp;omega⟩
theorem zyk{P:Program}{Γ:Glob}{op:Op}{f:FuncId}{l:List Opd}(h:zeo P Γ op=some (.call f l)):
  ∃cl,op= .call cl/\cl.callee= .value (.func f)/\(zxy P f=true/\f≠4095)/\cl.args.toList.mapM (cOpd Γ)=some l:=by
 cases op<;>simp only[zeo]at h<;>try (simp[qQ]at h;done)
 case buildSlice t n ps=>
  obtain⟨d,hd,h⟩:=zab h;cases d<;>simp only at h<;>try (simp at h;done)
  obtain⟨s,hs,h⟩:=zab h;obtain⟨z,hz,h⟩:=zab h;obtain⟨ps',hps,h⟩:=zab h;split at h<;>simp at h
 case binOp op t x y t'=>
  split at h<;>try (simp[qQ]at h;done)
  all_goals (split at h<;>simp at h)
 case convert src dst x=>
  split at h<;>try (simp at h;done)
  split at h<;>simp at h
 case makeFunc fn first caps=>
  cases fn<;>simp only[zeo]at h<;>try (simp at h;done)
  split at h<;>try (simp at h;done)
  split at h
  ·simp[qQ]at h
  ·split at h<;>simp[qQ]at h
 case makeMap t r=>
  cases r<;>simp only[zeo]at h<;>try (simp at h;done)
  split at h<;>simp at h
 case lookup t x y ok=>
  cases ok<;>simp only[zeo]at h<;>try (simp at h;done)
  split at h<;>try (simp at h;done)
  split at h<;>simp[qQ]at h
 case mapEntry t x y=>
  split at h<;>try (simp at h;done)
  split at h<;>simp[qQ]at h
 case makeSlice t x y=>
  obtain⟨d,hd,h⟩:=zab h;cases d<;>simp only at h<;>simp[qQ]at h
 case slice t x lo hi mx=>
  obtain⟨x',hx,h⟩:=zab h;obtain⟨lo',hlo,h⟩:=zab h;obtain⟨hi',hhi,h⟩:=zab h;obtain⟨mx',hmx,h⟩:=zab h;split at h<;>simp[qQ]at h
 case fieldAddr s x f=>
  split at h<;>try (simp at h;done)
  split at h<;>try (simp at h;done)
  obtain⟨z,hz,h⟩:=zab h;split at h<;>simp[qQ]at h
 case field s x f=>
  split at h<;>try (simp at h;done)
  split at h<;>simp[qQ]at h
 case indexAddr t x i=>split at h<;>simp[qQ]at h
 case index t x i=>
  split at h<;>try (simp[qQ]at h;done)
 case call cl=>
  cases hcl:cl.callee with
  |invoke r m=>rw[hcl]at h;simp at h
  |value g=>
   rw[hcl]at h;cases g<;>simp only at h<;>try (simp at h;done)
   ·simp[qQ]at h
   ·split at h
    ·rename_i hok;obtain⟨l',hl,h⟩:=zab h;simp at h;obtain⟨rfl,rfl⟩:=h
     exact⟨cl,rfl,hcl,by
      simp only[Bool.and_eq_true,Bool.not_eq_true']at hok;exact⟨hok.1,λe=>by rw[e]at hok;exact absurd hok.2 (by decide)⟩,hl⟩
    ·split at h<;>simp[qQ]at h
  |builtin b=>
   rw[hcl]at h;cases b<;>simp only at h<;>try (simp at h;done)
   case append=>
    split at h<;>try (simp at h;done)
    ·obtain⟨i,hi,h⟩:=zab h;obtain⟨z,hz,h⟩:=zab h;split at h<;>simp[qQ]at h
    ·obtain⟨i,hi,h⟩:=zab h;obtain⟨z,hz,h⟩:=zab h;split at h<;>simp[qQ]at h
   case copy=>split at h<;>simp[qQ]at h
   case clear=>split at h<;>simp[qQ]at h
   case len=>
    split at h<;>try (simp at h;done)
    split at h<;>simp at h
   case max=>split at h<;>simp[qQ]at h
theorem zvl{P:Program}{Γ:Glob}{op:Op}{x:Opd}{l:List Opd}(h:zeo P Γ op=some (.callc x l)):
  ∃cl t,op= .call cl/\cl.callee= .value (.tmp t)/\x= .t t/\cl.args.toList.mapM (cOpd Γ)=some l:=by
 cases op<;>simp only[zeo]at h<;>try (simp[qQ]at h;done)
 case buildSlice t n ps=>
  obtain⟨d,hd,h⟩:=zab h;cases d<;>simp only at h<;>try (simp at h;done)
  obtain⟨s,hs,h⟩:=zab h;obtain⟨z,hz,h⟩:=zab h;obtain⟨ps',hps,h⟩:=zab h;split at h<;>simp at h
 case binOp op t x y t'=>
  split at h<;>try (simp[qQ]at h;done)
  all_goals (split at h<;>simp at h)
 case convert src dst x=>
  split at h<;>try (simp at h;done)
  split at h<;>simp at h
 case makeFunc fn first caps=>
  cases fn<;>simp only[zeo]at h<;>try (simp at h;done)
  split at h<;>try (simp at h;done)
  split at h
  ·simp[qQ]at h
  ·split at h<;>simp[qQ]at h
 case makeMap t r=>
  cases r<;>simp only[zeo]at h<;>try (simp at h;done)
  split at h<;>simp at h
 case lookup t x y ok=>
  cases ok<;>simp only[zeo]at h<;>try (simp at h;done)
  split at h<;>try (simp at h;done)
  split at h<;>simp[qQ]at h
 case mapEntry t x y=>
  split at h<;>try (simp at h;done)
  split at h<;>simp[qQ]at h
 case makeSlice t x y=>
  obtain⟨d,hd,h⟩:=zab h;cases d<;>simp only at h<;>simp[qQ]at h
 case slice t x lo hi mx=>
  obtain⟨x',hx,h⟩:=zab h;obtain⟨lo',hlo,h⟩:=zab h;obtain⟨hi',hhi,h⟩:=zab h;obtain⟨mx',hmx,h⟩:=zab h;split at h<;>simp[qQ]at h
 case fieldAddr s x f=>
  split at h<;>try (simp at h;done)
  split at h<;>try (simp at h;done)
  obtain⟨z,hz,h⟩:=zab h;split at h<;>simp[qQ]at h
 case field s x f=>
  split at h<;>try (simp at h;done)
  split at h<;>simp[qQ]at h
 case indexAddr t x i=>split at h<;>simp[qQ]at h
 case index t x i=>
  split at h<;>try (simp[qQ]at h;done)
 case call cl=>
  cases hcl:cl.callee with
  |invoke r m=>rw[hcl]at h;simp at h
  |value g=>
   rw[hcl]at h;cases g<;>simp only at h<;>try (simp at h;done)
   ·rename_i t;obtain⟨l',hl,h⟩:=zab h;simp at h;obtain⟨rfl,rfl⟩:=h;exact⟨cl,t,rfl,hcl,rfl,hl⟩
   ·split at h
    ·simp[qQ]at h
    ·split at h<;>simp[qQ]at h
  |builtin b=>
   rw[hcl]at h;cases b<;>simp only at h<;>try (simp at h;done)
   case append=>
    split at h<;>try (simp at h;done)
    ·obtain⟨i,hi,h⟩:=zab h;obtain⟨z,hz,h⟩:=zab h;split at h<;>simp[qQ]at h
    ·obtain⟨i,hi,h⟩:=zab h;obtain⟨z,hz,h⟩:=zab h;split at h<;>simp[qQ]at h
   case copy=>split at h<;>simp[qQ]at h
   case clear=>split at h<;>simp[qQ]at h
   case len=>
    split at h<;>try (simp at h;done)
    split at h<;>simp at h
   case max=>split at h<;>simp[qQ]at h
theorem qht{P:Program}{f:FuncId}(h:zxy P f=true):∃fn,P.funcs[f]?=some fn/\fn.body.isNone=false/\(fn.name == "runtime.NumGoroutine")=false:=by
 unfold zxy at h;split at h
 ·rename_i fn hf;simp at h;refine⟨fn,hf,?_,by simpa using h.2⟩;cases hb:fn.body<;>simp[hb]at h ⊢
 ·simp at h
theorem zsx{P:Program}{w:World}{f:FuncId}{args:Array Value}(h:zxy P f=true):(callFunc f args).run P w= .ok (.enter f args) w:=by
 obtain⟨fn,h1,h2,h3⟩:=qht h;have h4:fn.name≠ "runtime.NumGoroutine" := by simpa using h3
 have h5:fn.body≠none:=by intro e;rw[e]at h2;simp at h2
 simp only[callFunc,Sem.run_bind,program,Sem.run];simp[h1,h4,h5]
