/- A part of the proof. -/
import Derived.Test.YtpflahgcdgdkjaaGreatDoorAL21
set_option linter.all false
namespace Go.AL
open Go
def zax{α:Type}(x:Option α)(F:α->Prop):Prop:=match x with
 |some a=>F a
 |none=>False
theorem zaq{α:Type}(a:α)(F:α->Prop):zax (some a) F=F a:=rfl
theorem zbx{α:Type}(F:α->Prop):zax none F=False:=rfl
theorem zbo{α:Type}(c:Prop)[Decidable c](x:Option α)(F:α->Prop):zax (need c x) F=(c/\zax x F):=by
 unfold need;split
 ·rename_i h;simp[h]
 ·rename_i h;simp[h,zax]
theorem zci{α β:Type}(x:Option α)(f:α->Option β)(F:β->Prop):zax (x.bind f) F=zax x λa=>zax (f a) F:=by cases x<;>rfl
def zvo:AV->Option Bool
 |.bool b=>some b
 |_=>none
def zvp:AV->Option (Option Bool)
 |.bool t=>some (some t)
 |.anyb=>some none
 |_=>none
def both(t:Option Bool)(a b:Prop):Prop:=match t with
 |some t=>(t=true->a)/\(t=false->b)
 |none=>a/\b
def CK.isCall:CK->Bool
 |.call .. => true
 |.callc .. => true
 |_=>false
def zls(P:Program)(Γ:Glob)(f:FuncId)(args:List AV)(H:Heap)(K:AV->Eff->List Nat->Nat->Prop):Prop:=
 ∃v e rd c,CallR P Γ f args H.length (H++List.replicate c none) v e rd c/\K v e rd c
def zay(P:Program)(Γ:Glob)(n0:Nat)(d:Option Nat)(os:List COp)(E:Env)(H:Heap)(Q:List FP->Env->Heap->Prop)(v:AV)(e:Eff)(rd:List Nat)(c:Nat):Prop:=
 regA P Γ n0 os (updO E d v) (zad e (H++List.replicate c none)) λl=>Q ((rd,keys e)::l)
section
variable{P:Program}{Γ:Glob}{n0 nt:Nat}{E:Env}{H:Heap}
theorem zbu{d:Option Nat}{k:CK}{os:List COp}{Q:List FP->Env->Heap->Prop}(hk:k.isCall=false):
  regA P Γ n0 (⟨d,none,k⟩::os) E H Q=zax (evK n0 H.length k (val E) H) λr=>regA P Γ n0 os (updO E d r.1) (zad r.2.1 (H++List.replicate (cntK k) none)) λl=>Q ((r.2.2,keys r.2.1)::l):=by
 apply propext;simp only[regA,ztb]
 have hb:∀K,qeq P Γ n0 k E H K= ∃v e rd,evK n0 H.length k (val E) H=some (v,e,rd)/\K ⟨v,e,rd,H.length,cntK k⟩:=by
  intro K;cases k<;>first | rfl | (simp[CK.isCall]at hk;done)
 rw[hb];cases hev:evK n0 H.length k (val E) H with
 |none=>simp[zax]
 |some r=>
  obtain⟨v,e,rd⟩:=r;simp only[zaq,Option.some.injEq,Prod.mk.injEq];constructor
  ·rintro⟨v',e',rd',⟨rfl,rfl,rfl⟩,h⟩;exact h
  ·intro h;exact⟨v,e,rd,⟨rfl,rfl,rfl⟩,h⟩
theorem qpj{d:Option Nat}{f:FuncId}{args:List Opd}{os:List COp}{Q:List FP->Env->Heap->Prop}:
  regA P Γ n0 (⟨d,none,.call f args⟩::os) E H Q=zls P Γ f (args.map (val E)) H (zay P Γ n0 d os E H Q):=rfl
theorem qpk{d:Option Nat}{x:Opd}{args:List Opd}{os:List COp}{Q:List FP->Env->Heap->Prop}:
  regA P Γ n0 (⟨d,none,.callc x args⟩::os) E H Q= ∃f caps,val E x= .clo f caps/\okC (okFn P) f=true/\zls P Γ (cloF f) (cloA f (args.map (val E)) caps) H (zay P Γ n0 d os E H Q):=rfl
theorem ziv{g:Nat}{v:AV}(h:E g=v):upd E g v=E:=by
 funext t;unfold upd;split
 ·rename_i e;subst e;exact h.symm
 ·rfl
theorem zol{d:Option Nat}{g:Nat}{want:Bool}{k:CK}{os:List COp}{Q:List FP->Env->Heap->Prop}:
  regA P Γ n0 (⟨d,some (g,want),k⟩::os) E H Q=zax (zvo (E g)) λb=>
   (b=want->regA P Γ n0 (⟨d,none,k⟩::os) (upd E g (.bool want)) H Q)/\(b=!want->regA P Γ n0 os (updO (upd E g (.bool !want)) d .junk) H (λl=>Q (([],[])::l))):=by
 apply propext;cases hg:E g with
 |bool b=>
  simp only[zvo,zaq];constructor
  ·intro h;simp only[regA,ztb]at h;obtain⟨b',hb',h1,h2⟩:=h;rw[hg]at hb';simp at hb';subst hb';refine⟨λe=>?_,λe=>?_⟩
   ·rw[ziv (by rw[hg,e])];simp only[regA,ztb];exact h1 e
   ·rw[ziv (by rw[hg,e])];have:=h2 (by intro e2;rw[e2]at e;cases want<;>simp at e);simpa[zad,keys]using this
  ·rintro⟨h1,h2⟩;refine qpi hg (λe=>?_) (λe=>?_)
   ·have:=h1 e;rwa[ziv (by rw[hg,e])]at this
   ·have e2:b=!want:=by cases b<;>cases want<;>simp_all
    have:=h2 e2;rwa[ziv (by rw[hg,e2])]at this
 |_=>
  simp only[zvo,zax];constructor
  ·intro h;simp only[regA,ztb]at h;obtain⟨b',hb',_⟩:=h;rw[hg]at hb';simp at hb'
  ·intro h;exact h.elim
theorem zaa{f:FuncId}{args:List AV}{v:AV}{K:AV->Eff->List Nat->Nat->Prop}(h:Ret P Γ f args [] v [])(hk:K v [] [] 0)(ha:AV.closed.closedL args=true:=by rfl)(hv:v.closed=true:=by rfl):
  zls P Γ f args H K:=⟨v,[],[],0,CallR.pure h ha hv,hk⟩
theorem qer{d:Option Nat}{os:List COp}{Q:List FP->Env->Heap->Prop}{v:AV}:
  zay P Γ n0 d os E H Q v [] [] 0=regA P Γ n0 os (updO E d v) H (λl=>Q (([],[])::l)):=by
 simp[zay,zad,keys]
def wpC(P:Program)(Γ:Glob)(n0 nt:Nat):CC->Env->Heap->Post->Prop
 |.skip,E,H,Q=>Q .normal E H
 |.ret,E,H,Q=>Q .ret E H
 |.exit id,E,H,Q=>Q (.exit id) E H
 |.label _,E,H,Q=>Q .normal E H
 |.goto l,E,H,Q=>Q (.goto l) E H
 |.seq a b,E,H,Q=>wpC P Γ n0 nt a E H (zed (λE' H'=>wpC P Γ n0 nt b E' H' Q) Q)
 |.cond x a b,E,H,Q=>zax (zvp (val E x)) λt=>both t (wpC P Γ n0 nt a E H Q) (wpC P Γ n0 nt b E H Q)
 |.block id c,E,H,Q=>wpC P Γ n0 nt c E H (zmw id Q)
 |.reg cs none,E,H,Q=>regA P Γ n0 cs E H (λ_ E' H'=>Q .normal E' H')
 |.reg cs (some l),E,H,Q=>regA P Γ n0 cs E H (λfps E' H'=>dynB l fps=true/\Q .normal E' H')
 |.loop c,E,H,Q=>W P Γ n0 nt (.loop c) E H Q
 |.scope c,E,H,Q=>W P Γ n0 nt (.scope c) E H Q
 |.range x k ps a b,E,H,Q=>W P Γ n0 nt (.range x k ps a b) E H Q
theorem qbm:∀(c:CC) (E:Env) (H:Heap) (Q R:Post),P.follows .mixedOrders=true->wpC P Γ n0 nt c E H Q->(∀x E' H',Q x E' H'->R x E' H')->W P Γ n0 nt c E H R:=by
 intro c
 induction c with
 |skip=>intro E H Q R _ h hq;exact qhx (hq _ _ _ h)
 |ret=>intro E H Q R _ h hq;exact jbx (hq _ _ _ h)
 |exit id=>intro E H Q R _ h hq;exact qun (hq _ _ _ h)
 |label l=>intro E H Q R _ h hq;exact qhy (hq _ _ _ h)
 |goto l=>intro E H Q R _ h hq;exact qup (hq _ _ _ h)
 |seq a b iha ihb=>
  intro E H Q R hm h hq;refine zkf (iha E H _ _ hm h ?_);intro x E' H' hx;cases x with
  |normal=>exact ihb E' H' Q R hm hx hq
  |_=>exact hq _ _ _ hx
 |cond x a b iha ihb=>
  intro E H Q R hm h hq;simp only[wpC]at h;cases hv:val E x with
  |bool t=>
   rw[hv]at h;simp only[zvp,zaq,both]at h;exact qhz hv (λe=>iha E H Q R hm (h.1 e) hq) (λe=>ihb E H Q R hm (h.2 e) hq)
  |anyb=>
   rw[hv]at h;simp only[zvp,zaq,both]at h;exact qep hv (iha E H Q R hm h.1 hq) (ihb E H Q R hm h.2 hq)
  |_=>rw[hv]at h;exact h.elim
 |block id c ih=>
  intro E H Q R hm h hq;refine zoi (ih E H _ _ hm h ?_);intro x E' H' hx;cases x with
  |exit i=>
   simp only[zmw]at hx ⊢;split at hx
   ·rename_i e;rw[if_pos e];exact hq _ _ _ hx
   ·rename_i e;rw[if_neg e];exact hq _ _ _ hx
  |_=>exact hq _ _ _ hx
 |reg cs l=>
  intro E H Q R hm h hq;cases l with
  |none=>
   have h':W P Γ n0 nt (.reg cs none) E H Q:=qur hm h;exact h'.mono hq
  |some l=>
   have h':W P Γ n0 nt (.reg cs (some l)) E H Q:=quq hm h;exact h'.mono hq
 |loop c ih=>intro E H Q R _ h hq;exact W.mono h hq
 |scope c ih=>intro E H Q R _ h hq;exact W.mono h hq
 |range x k ps a b=>intro E H Q R _ h hq;exact W.mono h hq
theorem zom{c:CC}{Q:Post}(hm:P.follows .mixedOrders=true)(h:wpC P Γ n0 nt c E H Q):W P Γ n0 nt c E H Q:=qbm c E H Q Q hm h (λ_ _ _ h=>h)
theorem zqo{k:Env->Heap->Prop}{Q:Post}:zed k Q .normal E H=k E H:=rfl
theorem zys{k:Env->Heap->Prop}{Q:Post}:zed k Q .ret E H=Q .ret E H:=rfl
theorem zvq{k:Env->Heap->Prop}{Q:Post}{i:Nat}:zed k Q (.exit i) E H=Q (.exit i) E H:=rfl
theorem zvr{k:Env->Heap->Prop}{Q:Post}{i:Nat}:zed k Q (.goto i) E H=Q (.goto i) E H:=rfl
theorem zvs{id:Nat}{Q:Post}:zmw id Q .normal E H=Q .normal E H:=rfl
theorem qib{id:Nat}{Q:Post}:zmw id Q .ret E H=Q .ret E H:=rfl
theorem qes{id i:Nat}{Q:Post}:zmw id Q (.exit i) E H=if i=id then Q .normal E H else Q (.exit i) E H:=rfl
theorem zon{d:Nat}{v:AV}{t:Nat}:upd E d v t=if t=d then v else E t:=rfl
theorem jca{f:FuncId}{fn:Func}{c:CC}{args:List AV}{H:Heap}{v:AV}{Hout:Heap}(hm:P.follows .mixedOrders=true)(hf:P.funcs[f]?=some fn)(hc:fn.body.bind (zdb P Γ fn.ntmps)=some c)(rs:List ResultVar)(nt:Nat)
  (hrs:fn.results.toList=rs) (hnt:fn.ntmps=nt) (hn:args.length<=nt) (hlen:H.length<=Hout.length)
  (h:wpC P Γ H.length nt c (zjc args) H (λx E' H'=>(x= .ret\/x= .normal)/\∃v',resA P rs E' H'=some v'/\Fin H.length v' H' v Hout)) (hne:f≠4095:=by decide):Ret P Γ f args H v Hout:=by
 subst hrs hnt;cases hb:fn.body with
 |none=>rw[hb]at hc;simp at hc
 |some code=>
  rw[hb]at hc;exact zok hf hb hc hn hlen hne (zom hm h)
