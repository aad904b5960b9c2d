/- A part of the proof. -/
import Derived.Test.YtpflahgcdgdkjaaGreatDoorAL21
set_option linter.all false
namespace Go.AL
open Go
def zau {α:Type} (x:Option α) (F:α->Prop):Prop:=match x with
 | some a=>F a
 | none=>False
theorem zao {α:Type} (a:α) (F:α->Prop):zau (some a) F=F a:=rfl
theorem zbk {α:Type} (F:α->Prop):zau none F=False:=rfl
theorem zbe {α:Type} (c:Prop) [Decidable c] (x:Option α) (F:α->Prop):zau (need c x) F=(c/\zau x F):=by
 unfold need
 split
 ·rename_i h;simp [h]
 ·rename_i h;simp [h,zau]
theorem zbt {α β:Type} (x:Option α) (f:α->Option β) (F:β->Prop):zau (x.bind f) F=zau x fun a=>zau (f a) F:=by cases x<;>rfl
def ztg:AV->Option Bool
 | .bool b=>some b
 | _=>none
def zth:AV->Option (Option Bool)
 | .bool t=>some (some t)
 | .anyb=>some none
 | _=>none
def both (t:Option Bool) (a b:Prop):Prop:=match t with
 | some t=>(t=true->a)/\(t=false->b)
 | none=>a/\b
def CK.isCall:CK->Bool
 | .call .. => true
 | .callc .. => true
 | _=>false
def zlt (P:Program) (Γ:Glob) (f:FuncId) (args:List AV) (H:Heap) (K:AV->Eff->List Nat->Nat->Prop):Prop:=
 ∃v e rd c,CallR P Γ f args H.length (H++List.replicate c none) v e rd c/\K v e rd c
def zaj (P:Program) (Γ:Glob) (n0:Nat) (d:Option Nat) (os:List COp) (E:Env) (H:Heap) (Q:List FP->Env->Heap->Prop) (v:AV) (e:Eff) (rd:List Nat) (c:Nat):Prop:=
 regA P Γ n0 os (updO E d v) (zad e (H++List.replicate c none)) fun l=>Q ((rd,keys e)::l)
section
variable {P:Program} {Γ:Glob} {n0 nt:Nat} {E:Env} {H:Heap}
theorem zbl {d:Option Nat} {k:CK} {os:List COp} {Q:List FP->Env->Heap->Prop} (hk:k.isCall=false):
  regA P Γ n0 (⟨d,none,k⟩::os) E H Q=zau (evK n0 H.length k (val E) H) fun r=>regA P Γ n0 os (updO E d r.1) (zad r.2.1 (H++List.replicate (cntK k) none)) fun l=>Q ((r.2.2,keys r.2.1)::l):=by
 apply propext
 simp only [regA,zrb]
 have hb:∀K,qbh P Γ n0 k E H K= ∃v e rd,evK n0 H.length k (val E) H=some (v,e,rd)/\K ⟨v,e,rd,H.length,cntK k⟩:=by
  intro K
  cases k<;>first | rfl | (simp [CK.isCall] at hk;done)
 rw [hb]
 cases hev:evK n0 H.length k (val E) H with
 | none=>simp [zau]
 | some r=>
  obtain ⟨v,e,rd⟩:=r
  simp only [zao,Option.some.injEq,Prod.mk.injEq]
  constructor
  ·rintro ⟨v',e',rd',⟨rfl,rfl,rfl⟩,h⟩;exact h
  ·intro h;exact ⟨v,e,rd,⟨rfl,rfl,rfl⟩,h⟩
theorem qlp {d:Option Nat} {f:FuncId} {args:List Opd} {os:List COp} {Q:List FP->Env->Heap->Prop}:
  regA P Γ n0 (⟨d,none,.call f args⟩::os) E H Q=zlt P Γ f (args.map (val E)) H (zaj P Γ n0 d os E H Q):=rfl
theorem qlq {d:Option Nat} {x:Opd} {args:List Opd} {os:List COp} {Q:List FP->Env->Heap->Prop}:
  regA P Γ n0 (⟨d,none,.callc x args⟩::os) E H Q= ∃f caps,val E x= .clo f caps/\okC (okFn P) f=true/\zlt P Γ (cloF f) (cloA f (args.map (val E)) caps) H (zaj P Γ n0 d os E H Q):=rfl
theorem zhx {g:Nat} {v:AV} (h:E g=v):upd E g v=E:=by
 funext t
 unfold upd
 split
 ·rename_i e;subst e;exact h.symm
 ·rfl
theorem znd {d:Option Nat} {g:Nat} {want:Bool} {k:CK} {os:List COp} {Q:List FP->Env->Heap->Prop}:
  regA P Γ n0 (⟨d,some (g,want),k⟩::os) E H Q=zau (ztg (E g)) fun b=>
   (b=want->regA P Γ n0 (⟨d,none,k⟩::os) (upd E g (.bool want)) H Q)/\(b=!want->regA P Γ n0 os (updO (upd E g (.bool !want)) d .junk) H (fun l=>Q (([],[])::l))):=by
 apply propext
 cases hg:E g with
 | bool b=>
  simp only [ztg,zao]
  constructor
  ·intro h
   simp only [regA,zrb] at h
   obtain ⟨b',hb',h1,h2⟩:=h
   rw [hg] at hb'
   simp at hb'
   subst hb'
   refine ⟨fun e=>?_,fun e=>?_⟩
   ·rw [zhx (by rw [hg,e])]
    simp only [regA,zrb]
    exact h1 e
   ·rw [zhx (by rw [hg,e])]
    have:=h2 (by intro e2;rw [e2] at e;cases want<;>simp at e)
    simpa [zad,keys] using this
  ·rintro ⟨h1,h2⟩
   refine qlo hg (fun e=>?_) (fun e=>?_)
   ·have:=h1 e;rwa [zhx (by rw [hg,e])] at this
   ·have e2:b=!want:=by cases b<;>cases want<;>simp_all
    have:=h2 e2;rwa [zhx (by rw [hg,e2])] at this
 | _=>
  simp only [ztg,zau]
  constructor
  ·intro h
   simp only [regA,zrb] at h
   obtain ⟨b',hb',_⟩:=h
   rw [hg] at hb'
   simp at hb'
  ·intro h;exact h.elim
theorem zaa {f:FuncId} {args:List AV} {v:AV} {K:AV->Eff->List Nat->Nat->Prop} (h:Ret P Γ f args [] v []) (hk:K v [] [] 0) (ha:AV.closed.closedL args=true:=by rfl) (hv:v.closed=true:=by rfl):
  zlt P Γ f args H K:=⟨v,[],[],0,CallR.pure h ha hv,hk⟩
theorem qbi {d:Option Nat} {os:List COp} {Q:List FP->Env->Heap->Prop} {v:AV}:
  zaj P Γ n0 d os E H Q v [] [] 0=regA P Γ n0 os (updO E d v) H (fun l=>Q (([],[])::l)):=by
 simp [zaj,zad,keys]
def wpC (P:Program) (Γ:Glob) (n0 nt:Nat):CC->Env->Heap->Post->Prop
 | .skip,E,H,Q=>Q .normal E H
 | .ret,E,H,Q=>Q .ret E H
 | .exit id,E,H,Q=>Q (.exit id) E H
 | .label _,E,H,Q=>Q .normal E H
 | .goto l,E,H,Q=>Q (.goto l) E H
 | .seq a b,E,H,Q=>wpC P Γ n0 nt a E H (zdt (fun E' H'=>wpC P Γ n0 nt b E' H' Q) Q)
 | .cond x a b,E,H,Q=>zau (zth (val E x)) fun t=>both t (wpC P Γ n0 nt a E H Q) (wpC P Γ n0 nt b E H Q)
 | .block id c,E,H,Q=>wpC P Γ n0 nt c E H (zls id Q)
 | .reg cs none,E,H,Q=>regA P Γ n0 cs E H (fun _ E' H'=>Q .normal E' H')
 | .reg cs (some l),E,H,Q=>regA P Γ n0 cs E H (fun fps E' H'=>dynB l fps=true/\Q .normal E' H')
 | .loop c,E,H,Q=>W P Γ n0 nt (.loop c) E H Q
 | .scope c,E,H,Q=>W P Γ n0 nt (.scope c) E H Q
 | .range x k ps a b,E,H,Q=>W P Γ n0 nt (.range x k ps a b) E H Q
theorem zyp:∀(c:CC) (E:Env) (H:Heap) (Q R:Post),P.follows .mixedOrders=true->wpC P Γ n0 nt c E H Q->(∀x E' H',Q x E' H'->R x E' H')->W P Γ n0 nt c E H R:=by
 intro c
 induction c with
 | skip=>intro E H Q R _ h hq;exact qer (hq _ _ _ h)
 | ret=>intro E H Q R _ h hq;exact qxv (hq _ _ _ h)
 | exit id=>intro E H Q R _ h hq;exact qqz (hq _ _ _ h)
 | label l=>intro E H Q R _ h hq;exact qes (hq _ _ _ h)
 | goto l=>intro E H Q R _ h hq;exact qra (hq _ _ _ h)
 | seq a b iha ihb=>
  intro E H Q R hm h hq
  refine zlr (iha E H _ _ hm h ?_)
  intro x E' H' hx
  cases x with
  | normal=>exact ihb E' H' Q R hm hx hq
  | _=>exact hq _ _ _ hx
 | cond x a b iha ihb=>
  intro E H Q R hm h hq
  simp only [wpC] at h
  cases hv:val E x with
  | bool t=>
   rw [hv] at h
   simp only [zth,zao,both] at h
   exact qet hv (fun e=>iha E H Q R hm (h.1 e) hq) (fun e=>ihb E H Q R hm (h.2 e) hq)
  | anyb=>
   rw [hv] at h
   simp only [zth,zao,both] at h
   exact qbg hv (iha E H Q R hm h.1 hq) (ihb E H Q R hm h.2 hq)
  | _=>rw [hv] at h;exact h.elim
 | block id c ih=>
  intro E H Q R hm h hq
  refine zna (ih E H _ _ hm h ?_)
  intro x E' H' hx
  cases x with
  | exit i=>
   simp only [zls] at hx ⊢
   split at hx
   ·rename_i e;rw [if_pos e];exact hq _ _ _ hx
   ·rename_i e;rw [if_neg e];exact hq _ _ _ hx
  | _=>exact hq _ _ _ hx
 | reg cs l=>
  intro E H Q R hm h hq
  cases l with
  | none=>
   have h':W P Γ n0 nt (.reg cs none) E H Q:=qrc hm h
   exact h'.mono hq
  | some l=>
   have h':W P Γ n0 nt (.reg cs (some l)) E H Q:=qrb hm h
   exact h'.mono hq
 | loop c ih=>intro E H Q R _ h hq;exact W.mono h hq
 | scope c ih=>intro E H Q R _ h hq;exact W.mono h hq
 | range x k ps a b=>intro E H Q R _ h hq;exact W.mono h hq
theorem zne {c:CC} {Q:Post} (hm:P.follows .mixedOrders=true) (h:wpC P Γ n0 nt c E H Q):W P Γ n0 nt c E H Q:=zyp c E H Q Q hm h (fun _ _ _ h=>h)
theorem zos {k:Env->Heap->Prop} {Q:Post}:zdt k Q .normal E H=k E H:=rfl
theorem zvx {k:Env->Heap->Prop} {Q:Post}:zdt k Q .ret E H=Q .ret E H:=rfl
theorem zti {k:Env->Heap->Prop} {Q:Post} {i:Nat}:zdt k Q (.exit i) E H=Q (.exit i) E H:=rfl
theorem ztj {k:Env->Heap->Prop} {Q:Post} {i:Nat}:zdt k Q (.goto i) E H=Q (.goto i) E H:=rfl
theorem ztk {id:Nat} {Q:Post}:zls id Q .normal E H=Q .normal E H:=rfl
theorem qev {id:Nat} {Q:Post}:zls id Q .ret E H=Q .ret E H:=rfl
theorem qbj {id i:Nat} {Q:Post}:zls id Q (.exit i) E H=if i=id then Q .normal E H else Q (.exit i) E H:=rfl
theorem znf {d:Nat} {v:AV} {t:Nat}:upd E d v t=if t=d then v else E t:=rfl
theorem qxy {f:FuncId} {fn:Func} {c:CC} {args:List AV} {H:Heap} {v:AV} {Hout:Heap} (hm:P.follows .mixedOrders=true) (hf:P.funcs[f]?=some fn) (hc:fn.body.bind (zcz P Γ fn.ntmps)=some c) (rs:List ResultVar) (nt:Nat)
  (hrs:fn.results.toList=rs) (hnt:fn.ntmps=nt) (hn:args.length<=nt) (hlen:H.length<=Hout.length)
  (h:wpC P Γ H.length nt c (zik args) H (fun x E' H'=>(x= .ret\/x= .normal)/\∃v',resA P rs E' H'=some v'/\Fin H.length v' H' v Hout)) (hne:f≠4095:=by decide):Ret P Γ f args H v Hout:=by
 subst hrs hnt
 cases hb:fn.body with
 | none=>rw [hb] at hc;simp at hc
 | some code=>
  rw [hb] at hc
  exact znc hf hb hc hn hlen hne (zne hm h)
end
end Go.AL
