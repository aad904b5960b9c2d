/- A part of the proof. -/
import Derived.Test.YtbjdfanphdfkdaaGreatDoorPB
import Derived.ScopeJumps
set_option linter.all false
open List renaming all_eq_true -> qX, getElem?_map -> qZ
open Bool renaming and_eq_true -> qJ
open Option renaming map_some -> qK
namespace Go.AL
open Go
abbrev FP:=List Nat×List Nat
def zvz(P:Program)(Γ:Glob)(n0:Nat)(ck:CK)(E:Env)(H:Heap)(K:It->Prop):Prop:=
 match ck with
 |.call f args=>∃v e rd c,CallR P Γ f (args.map (val E)) H.length (H++List.replicate c none) v e rd c/\K ⟨v,e,rd,H.length,c⟩
 |.callc x args=>∃f caps,val E x= .clo f caps/\okC (okFn P) f=true/\∃v e rd c,CallR P Γ (cloF f) (cloA f (args.map (val E)) caps) H.length (H++List.replicate c none) v e rd c/\K ⟨v,e,rd,H.length,c⟩
 |ck=>∃v e rd,evK n0 H.length ck (val E) H=some (v,e,rd)/\K ⟨v,e,rd,H.length,cntK ck⟩
def zwa(P:Program)(Γ:Glob)(n0:Nat)(o:COp)(E:Env)(H:Heap)(K:It->Prop):Prop:=
 match o.g with
 |none=>zvz P Γ n0 o.k E H K
 |some (d,want)=>∃b,E d= .bool b/\(b=want->zvz P Γ n0 o.k E H K)/\(b≠want->K ⟨.junk,[],[],H.length,0⟩)
def regA(P:Program)(Γ:Glob)(n0:Nat):List COp->Env->Heap->(List FP->Env->Heap->Prop)->Prop
 | [],E,H,Q=>Q [] E H
 |o::os,E,H,Q=>zwa P Γ n0 o E H λit=>regA P Γ n0 os (updO E o.dst it.v) (zaf it.e (H++List.replicate it.c none)) λl=>Q ((it.rd,keys it.e)::l)
def zhg(x y:List Nat):Bool:=x.all λi=>!y.contains i
def dynB(l:List (Nat×Nat))(fps:List FP):Bool:=
 l.all λp=>match fps[p.1]?,fps[p.2]? with
  |some x,some y=>zhg x.2 y.1 && zhg x.2 y.2 && zhg y.2 x.1
  |_,_=>true
section
variable{P:Program}{Γ:Glob}{n0 nt:Nat}{E:Env}{H:Heap}
theorem jyt{fresh:Nat}{k:CK}{V:Opd->AV}{m:Nat}{r:Res}(h:evK n0 fresh k V H=some r):evK n0 fresh k V (H++List.replicate m none)=some r:=
 zvv h (λ_ _=>rfl) (λj _=>zlc H m j)
theorem zpc{o:COp}{K:It->Prop}(h:zwa P Γ n0 o E H K):∃it,it.k=H.length/\Stp P Γ n0 o E (H++List.replicate it.c none) it/\K it:=by
 have body:zvz P Γ n0 o.k E H K->∃it,it.k=H.length/\Body P Γ n0 o.k E (H++List.replicate it.c none) it/\K it:=by
  intro hb;cases hck:o.k<;>rw[hck]at hb<;>simp only[zvz]at hb
  case call f args=>
   obtain⟨v,e,rd,c,h1,h2⟩:=hb;exact⟨_,rfl,by simp only[Body];exact h1,h2⟩
  case callc x args=>
   obtain⟨f,caps,h1,h2,v,e,rd,c,h3,h4⟩:=hb;exact⟨_,rfl,by simp only[Body];exact⟨f,caps,h1,h2,h3⟩,h4⟩
  all_goals
   obtain⟨v,e,rd,h1,h2⟩:=hb;exact⟨_,rfl,⟨jyt h1,rfl⟩,h2⟩
 unfold zwa at h;unfold Stp;split at h
 ·rename_i hg;obtain⟨it,h1,h2,h3⟩:=body h;exact⟨it,h1,by rw[hg];exact h2,h3⟩
 ·rename_i d want hg;obtain⟨b,hb,h1,h2⟩:=h;by_cases e:b=want
  ·obtain⟨it,g1,g2,g3⟩:=body (h1 e);exact⟨it,g1,by rw[hg];exact⟨true,by rw[hb,e];simp[gdB],by rw[if_pos rfl];exact g2⟩,g3⟩
  ·exact⟨_,rfl,by rw[hg];exact⟨false,by rw[hb];simp[gdB,e],by rw[if_neg (by simp)];exact⟨.inl rfl,rfl,rfl,rfl⟩⟩,h2 e⟩
def jyu(P:Program)(Γ:Glob)(n0:Nat)(o:COp)(E:Env)(H:Heap)(K:It->Prop):Prop:=
 match o.g with
 |none=>zvz P Γ n0 o.k E H K
 |some (d,want)=>∃b,gdB (E d) want=some b/\(b=true->zvz P Γ n0 o.k E H K)/\(b=false->K ⟨.tup [],[],[],H.length,0⟩)
def regB(P:Program)(Γ:Glob)(n0:Nat):List COp->Env->Heap->(List FP->Env->Heap->Prop)->Prop
 | [],E,H,Q=>Q [] E H
 |o::os,E,H,Q=>jyu P Γ n0 o E H λit=>regB P Γ n0 os (updO E o.dst it.v) (zaf it.e (H++List.replicate it.c none)) λl=>Q ((it.rd,keys it.e)::l)
theorem qjs{o:COp}{K:It->Prop}(h:jyu P Γ n0 o E H K):∃it,it.k=H.length/\Stp P Γ n0 o E (H++List.replicate it.c none) it/\K it:=by
 obtain⟨d0,g,k⟩:=o;cases g with
 |none=>exact zpc (o:=⟨d0,none,k⟩) h
 |some p=>
  obtain⟨d,want⟩:=p;obtain⟨b,hb,h1,h2⟩:=h;cases b with
  |true=>
   obtain⟨it,g1,g2,g3⟩:=zpc (o:=⟨d0,none,k⟩) (h1 rfl);exact⟨it,g1,⟨true,hb,by rw[if_pos rfl];exact g2⟩,g3⟩
  |false=>exact⟨_,rfl,⟨false,hb,by rw[if_neg (by simp)];exact⟨.inr rfl,rfl,rfl,rfl⟩⟩,h2 rfl⟩
theorem qch:∀(os:List COp) (E:Env) (H:Heap) (Q:List FP->Env->Heap->Prop),regB P Γ n0 os E H Q->∃its E' H',RunS P Γ n0 os its E H E' H'/\Q (its.map λit=>(it.rd,keys it.e)) E' H':=by
 intro os
 induction os with
 |nil=>intro E H Q h;exact⟨[],E,H,⟨rfl,rfl⟩,h⟩
 |cons o os ih=>
  intro E H Q h;obtain⟨it,h1,h2,h3⟩:=qjs h;obtain⟨its,E',H',g1,g2⟩:=ih _ _ _ h3;exact⟨it::its,E',H',⟨h1,h2,g1⟩,g2⟩
theorem qci:∀(os:List COp) (E:Env) (H:Heap) (Q:List FP->Env->Heap->Prop),regA P Γ n0 os E H Q->∃its E' H',RunS P Γ n0 os its E H E' H'/\Q (its.map λit=>(it.rd,keys it.e)) E' H':=by
 intro os
 induction os with
 |nil=>intro E H Q h;exact⟨[],E,H,⟨rfl,rfl⟩,h⟩
 |cons o os ih=>
  intro E H Q h;obtain⟨it,h1,h2,h3⟩:=zpc h;obtain⟨its,E',H',g1,g2⟩:=ih _ _ _ h3;exact⟨it::its,E',H',⟨h1,h2,g1⟩,g2⟩
theorem zfr{x y:List Nat}(h:zhg x y=true):∀i∈x,i∉y:=by
 intro i hi;simp only[zhg,qX]at h;have:=h i hi;simpa using this
theorem xww{cs:List COp}{l:List (Nat×Nat)}{Q:Post}(hm:P.follows .mixedOrders=true)(h:regA P Γ n0 cs E H (λfps E' H'=>dynB l fps=true/\Q .normal E' H')):W P Γ n0 nt (.reg cs (some l)) E H Q:=by
 obtain⟨its,E',H',hr,hd,hQ⟩:=qci _ _ _ _ h;refine qtn hm hr ?_ hQ;intro l' e p hp x y hx hy;simp at e;subst e;simp only[dynB,qX]at hd;have:=hd p hp;simp only[qZ,hx,hy,qK,qJ]at this;exact⟨λi hi=>⟨zfr this.1.1 i hi,zfr this.1.2 i hi⟩,λi hi=>zfr this.2 i hi⟩
theorem xwx{cs:List COp}{Q:Post}(hm:P.follows .mixedOrders=true)(h:regA P Γ n0 cs E H (λ_ E' H'=>Q .normal E' H')):W P Γ n0 nt (.reg cs none) E H Q:=by
 obtain⟨its,E',H',hr,hQ⟩:=qci _ _ _ _ h;exact qtn hm hr (by intro l e;simp at e) hQ
theorem zzb{cs:List COp}{l:List (Nat×Nat)}{Q:Post}(hm:P.follows .mixedOrders=true)(h:regB P Γ n0 cs E H (λfps E' H'=>dynB l fps=true/\Q .normal E' H')):W P Γ n0 nt (.reg cs (some l)) E H Q:=by
 obtain⟨its,E',H',hr,hd,hQ⟩:=qch _ _ _ _ h;refine qtn hm hr ?_ hQ;intro l' e p hp x y hx hy;simp at e;subst e;simp only[dynB,qX]at hd;have:=hd p hp;simp only[qZ,hx,hy,qK,qJ]at this;exact⟨λi hi=>⟨zfr this.1.1 i hi,zfr this.1.2 i hi⟩,λi hi=>zfr this.2 i hi⟩
theorem jyv{cs:List COp}{Q:Post}(hm:P.follows .mixedOrders=true)(h:regB P Γ n0 cs E H (λ_ E' H'=>Q .normal E' H')):W P Γ n0 nt (.reg cs none) E H Q:=by
 obtain⟨its,E',H',hr,hQ⟩:=qch _ _ _ _ h;exact qtn hm hr (by intro l e;simp at e) hQ
theorem qto{d:Option Nat}{g:Nat}{want:Bool}{k:CK}{os:List COp}{Q:List FP->Env->Heap->Prop}{b:Bool}(hb:E g= .bool b)
  (h1:b=want->regA P Γ n0 (⟨d,none,k⟩::os) E H Q) (h2:b≠want->regA P Γ n0 os (updO E d .junk) H (λl=>Q (([],[])::l))):
  regA P Γ n0 (⟨d,some (g,want),k⟩::os) E H Q:=by
 simp only[regA,zwa]at h1 ⊢;refine⟨b,hb,h1,λh=>?_⟩;have:=h2 h;simpa[zaf,keys]using this
theorem xwy{Q:List FP->Env->Heap->Prop}:regA P Γ n0 [] E H Q=Q [] E H:=rfl
end
def zbu{α:Type}(x:Option α)(F:α->Prop):Prop:=match x with
 |some a=>F a
 |none=>False
theorem zao{α:Type}(a:α)(F:α->Prop):zbu (some a) F=F a:=rfl
theorem zbm{α:Type}(F:α->Prop):zbu none F=False:=rfl
theorem zbg{α:Type}(c:Prop)[Decidable c](x:Option α)(F:α->Prop):zbu (need c x) F=(c/\zbu x F):=by
 unfold need;split
 ·rename_i h;simp[h]
 ·rename_i h;simp[h,zbu]
theorem zbz{α β:Type}(x:Option α)(f:α->Option β)(F:β->Prop):zbu (x.bind f) F=zbu x λa=>zbu (f a) F:=by cases x<;>rfl
def qfo:AV->Option Bool
 |.bool b=>some b
 |_=>none
def qfp:AV->Option (Option Bool)
 |.bool t=>some (some t)
 |.anyb=>some none
 |_=>none
def both(t:Option Bool)(a b:Prop):Prop:=match t with
 |some t=>(t=true->a)/\(t=false->b)
 |none=>a/\b
def CK.isCall:CK->Bool
 |.call .. => true
 |.callc .. => true
 |_=>false
def ztp(P:Program)(Γ:Glob)(f:FuncId)(args:List AV)(H:Heap)(K:AV->Eff->List Nat->Nat->Prop):Prop:=
 ∃v e rd c,CallR P Γ f args H.length (H++List.replicate c none) v e rd c/\K v e rd c
def zcy(P:Program)(Γ:Glob)(n0:Nat)(d:Option Nat)(os:List COp)(E:Env)(H:Heap)(Q:List FP->Env->Heap->Prop)(v:AV)(e:Eff)(rd:List Nat)(c:Nat):Prop:=
 regA P Γ n0 os (updO E d v) (zaf e (H++List.replicate c none)) λl=>Q ((rd,keys e)::l)
section
variable{P:Program}{Γ:Glob}{n0 nt:Nat}{E:Env}{H:Heap}
theorem zbo{d:Option Nat}{k:CK}{os:List COp}{Q:List FP->Env->Heap->Prop}(hk:k.isCall=false):
  regA P Γ n0 (⟨d,none,k⟩::os) E H Q=zbu (evK n0 H.length k (val E) H) λr=>regA P Γ n0 os (updO E d r.1) (zaf r.2.1 (H++List.replicate (cntK k) none)) λl=>Q ((r.2.2,keys r.2.1)::l):=by
 apply propext;simp only[regA,zwa]
 have hb:∀K,zvz P Γ n0 k E H K= ∃v e rd,evK n0 H.length k (val E) H=some (v,e,rd)/\K ⟨v,e,rd,H.length,cntK k⟩:=by
  intro K;cases k<;>first | rfl | (simp[CK.isCall]at hk;done)
 rw[hb];cases hev:evK n0 H.length k (val E) H with
 |none=>simp[zbu]
 |some r=>
  obtain⟨v,e,rd⟩:=r;simp only[zao,Option.some.injEq,Prod.mk.injEq];constructor
  ·rintro⟨v',e',rd',⟨rfl,rfl,rfl⟩,h⟩;exact h
  ·intro h;exact⟨v,e,rd,⟨rfl,rfl,rfl⟩,h⟩
theorem qtp{d:Option Nat}{f:FuncId}{args:List Opd}{os:List COp}{Q:List FP->Env->Heap->Prop}:
  regA P Γ n0 (⟨d,none,.call f args⟩::os) E H Q=ztp P Γ f (args.map (val E)) H (zcy P Γ n0 d os E H Q):=rfl
theorem qtq{d:Option Nat}{x:Opd}{args:List Opd}{os:List COp}{Q:List FP->Env->Heap->Prop}:
  regA P Γ n0 (⟨d,none,.callc x args⟩::os) E H Q= ∃f caps,val E x= .clo f caps/\okC (okFn P) f=true/\ztp P Γ (cloF f) (cloA f (args.map (val E)) caps) H (zcy P Γ n0 d os E H Q):=rfl
theorem zjf{g:Nat}{v:AV}(h:E g=v):upd E g v=E:=by
 funext t;unfold upd;split
 ·rename_i e;subst e;exact h.symm
 ·rfl
theorem zpd{d:Option Nat}{g:Nat}{want:Bool}{k:CK}{os:List COp}{Q:List FP->Env->Heap->Prop}:
  regA P Γ n0 (⟨d,some (g,want),k⟩::os) E H Q=zbu (qfo (E g)) λb=>
   (b=want->regA P Γ n0 (⟨d,none,k⟩::os) (upd E g (.bool want)) H Q)/\(b=!want->regA P Γ n0 os (updO (upd E g (.bool !want)) d .junk) H (λl=>Q (([],[])::l))):=by
 apply propext;cases hg:E g with
 |bool b=>
  simp only[qfo,zao];constructor
  ·intro h;simp only[regA,zwa]at h;obtain⟨b',hb',h1,h2⟩:=h;rw[hg]at hb';simp at hb';subst hb';refine⟨λe=>?_,λe=>?_⟩
   ·rw[zjf (by rw[hg,e])];simp only[regA,zwa];exact h1 e
   ·rw[zjf (by rw[hg,e])];have:=h2 (by intro e2;rw[e2]at e;cases want<;>simp at e);simpa[zaf,keys]using this
  ·rintro⟨h1,h2⟩;refine qto hg (λe=>?_) (λe=>?_)
   ·have:=h1 e;rwa[zjf (by rw[hg,e])]at this
   ·have e2:b=!want:=by cases b<;>cases want<;>simp_all
    have:=h2 e2;rwa[zjf (by rw[hg,e2])]at this
 |_=>
  simp only[qfo,zbu];constructor
  ·intro h;simp only[regA,zwa]at h;obtain⟨b',hb',_⟩:=h;rw[hg]at hb';simp at hb'
  ·intro h;exact h.elim
theorem zaa{f:FuncId}{args:List AV}{v:AV}{K:AV->Eff->List Nat->Nat->Prop}(h:Ret P Γ f args [] v [])(hk:K v [] [] 0)(ha:AV.closed.closedL args=true:=by rfl)(hv:v.closed=true:=by rfl):
  ztp P Γ f args H K:=⟨v,[],[],0,CallR.pure h ha hv,hk⟩
theorem qfq{d:Option Nat}{os:List COp}{Q:List FP->Env->Heap->Prop}{v:AV}:
  zcy P Γ n0 d os E H Q v [] [] 0=regA P Γ n0 os (updO E d v) H (λl=>Q (([],[])::l)):=by
 simp[zcy,zaf,keys]
def wpC(P:Program)(Γ:Glob)(n0 nt:Nat):CC->Env->Heap->Post->Prop
 |.skip,E,H,Q=>Q .normal E H
 |.ret,E,H,Q=>Q .ret E H
 |.exit id,E,H,Q=>Q (.exit id) E H
 |.label _,E,H,Q=>Q .normal E H
 |.goto l,E,H,Q=>Q (.goto l) E H
 |.seq a b,E,H,Q=>wpC P Γ n0 nt a E H (zhf (λE' H'=>wpC P Γ n0 nt b E' H' Q) Q)
 |.cond x a b,E,H,Q=>zbu (qfp (val E x)) λt=>both t (wpC P Γ n0 nt a E H Q) (wpC P Γ n0 nt b E H Q)
 |.block id c,E,H,Q=>wpC P Γ n0 nt c E H (zmo id Q)
 |.reg cs none,E,H,Q=>regA P Γ n0 cs E H (λ_ E' H'=>Q .normal E' H')
 |.reg cs (some l),E,H,Q=>regA P Γ n0 cs E H (λfps E' H'=>dynB l fps=true/\Q .normal E' H')
 |.loop c,E,H,Q=>W P Γ n0 nt (.loop c) E H Q
 |.scope c,E,H,Q=>W P Γ n0 nt (.scope c) E H Q
 |.range x k ps a b,E,H,Q=>W P Γ n0 nt (.range x k ps a b) E H Q
theorem qtr:∀(c:CC) (E:Env) (H:Heap) (Q R:Post),P.follows .mixedOrders=true->wpC P Γ n0 nt c E H Q->(∀x E' H',Q x E' H'->R x E' H')->W P Γ n0 nt c E H R:=by
 intro c
 induction c with
 |skip=>intro E H Q R _ h hq;exact jva (hq _ _ _ h)
 |ret=>intro E H Q R _ h hq;exact xwv (hq _ _ _ h)
 |exit id=>intro E H Q R _ h hq;exact jvb (hq _ _ _ h)
 |label l=>intro E H Q R _ h hq;exact qjr (hq _ _ _ h)
 |goto l=>intro E H Q R _ h hq;exact jvc (hq _ _ _ h)
 |seq a b iha ihb=>
  intro E H Q R hm h hq;refine zgr (iha E H _ _ hm h ?_);intro x E' H' hx;cases x with
  |normal=>exact ihb E' H' Q R hm hx hq
  |_=>exact hq _ _ _ hx
 |cond x a b iha ihb=>
  intro E H Q R hm h hq;simp only[wpC]at h;cases hv:val E x with
  |bool t=>
   rw[hv]at h;simp only[qfp,zao,both]at h;exact zvy hv (λe=>iha E H Q R hm (h.1 e) hq) (λe=>ihb E H Q R hm (h.2 e) hq)
  |anyb=>
   rw[hv]at h;simp only[qfp,zao,both]at h;exact qfn hv (iha E H Q R hm h.1 hq) (ihb E H Q R hm h.2 hq)
  |_=>rw[hv]at h;exact h.elim
 |block id c ih=>
  intro E H Q R hm h hq;refine zdk (ih E H _ _ hm h ?_);intro x E' H' hx;cases x with
  |exit i=>
   simp only[zmo]at hx ⊢;split at hx
   ·rename_i e;rw[if_pos e];exact hq _ _ _ hx
   ·rename_i e;rw[if_neg e];exact hq _ _ _ hx
  |_=>exact hq _ _ _ hx
 |reg cs l=>
  intro E H Q R hm h hq;cases l with
  |none=>
   have h':W P Γ n0 nt (.reg cs none) E H Q:=xwx hm h;exact h'.mono hq
  |some l=>
   have h':W P Γ n0 nt (.reg cs (some l)) E H Q:=xww hm h;exact h'.mono hq
 |loop c ih=>intro E H Q R _ h hq;exact W.mono h hq
 |scope c ih=>intro E H Q R _ h hq;exact W.mono h hq
 |range x k ps a b=>intro E H Q R _ h hq;exact W.mono h hq
theorem zpe{c:CC}{Q:Post}(hm:P.follows .mixedOrders=true)(h:wpC P Γ n0 nt c E H Q):W P Γ n0 nt c E H Q:=qtr c E H Q Q hm h (λ_ _ _ h=>h)
theorem zrf{k:Env->Heap->Prop}{Q:Post}:zhf k Q .normal E H=k E H:=rfl
theorem zzc{k:Env->Heap->Prop}{Q:Post}:zhf k Q .ret E H=Q .ret E H:=rfl
theorem zwb{k:Env->Heap->Prop}{Q:Post}{i:Nat}:zhf k Q (.exit i) E H=Q (.exit i) E H:=rfl
theorem zwc{k:Env->Heap->Prop}{Q:Post}{i:Nat}:zhf k Q (.goto i) E H=Q (.goto i) E H:=rfl
theorem zwd{id:Nat}{Q:Post}:zmo id Q .normal E H=Q .normal E H:=rfl
theorem qjt{id:Nat}{Q:Post}:zmo id Q .ret E H=Q .ret E H:=rfl
theorem qfr{id i:Nat}{Q:Post}:zmo id Q (.exit i) E H=if i=id then Q .normal E H else Q (.exit i) E H:=rfl
theorem qju{d:Nat}{v:AV}{t:Nat}:upd E d v t=if t=d then v else E t:=rfl
theorem xwz{f:FuncId}{fn:Func}{c:CC}{args:List AV}{H:Heap}{v:AV}{Hout:Heap}(hm:P.follows .mixedOrders=true)(hf:P.funcs[f]?=some fn)(hc:fn.body.bind (zbt P Γ fn.ntmps)=some c)(rs:List ResultVar)(nt:Nat)
  (hrs:fn.results.toList=rs) (hnt:fn.ntmps=nt) (hn:args.length<=nt) (hlen:H.length<=Hout.length)
  (h:wpC P Γ H.length nt c (zig args) H (λx E' H'=>(x= .ret\/x= .normal)/\∃v',resA P rs E' H'=some v'/\Fin H.length v' H' v Hout)) (hne:f≠4095:=by decide):Ret P Γ f args H v Hout:=by
 subst hrs hnt;cases hb:fn.body with
 |none=>rw[hb]at hc;simp at hc
 |some code=>
  rw[hb]at hc;exact zld hf hb hc hn hlen hne (zpe hm h)
end
section
variable{P:Program}{Γ:Glob}{n0 nt:Nat}{E:Env}{H:Heap}{d:Option Nat}{os:List COp}{Q:List FP->Env->Heap->Prop}
abbrev goon(P:Program)(Γ:Glob)(n0:Nat)(d:Option Nat)(os:List COp)(E:Env)(H:Heap)(Q:List FP->Env->Heap->Prop)(v:AV):Prop:=
 regA P Γ n0 os (updO E d v) H λl=>Q (([],[])::l)
theorem xxa{x:Opd}:regA P Γ n0 (⟨d,none,.mov x⟩::os) E H Q=goon P Γ n0 d os E H Q (val E x):=by
 rw[zbo rfl];simp[evK,zao,zaf,keys,cntK]
def jyw(c a b:AV):Option AV:=match c with
 |.bool t=>some (if t then a else b)
 |_=>none
theorem jyx{c a b:Opd}:regA P Γ n0 (⟨d,none,.pick c a b⟩::os) E H Q=zbu (jyw (val E c) (val E a) (val E b)) (goon P Γ n0 d os E H Q):=by
 rw[zbo rfl];simp only[evK,jyw];cases val E c<;>simp[zbu,zaf,keys,cntK]
theorem xxb{x:Opd}:regA P Γ n0 (⟨d,none,.box x⟩::os) E H Q=
  ((val E x).firm=true/\regA P Γ n0 os (updO E d (.ptr H.length 0)) (H++[some (val E x).cells]) λl=>Q (([],[H.length])::l)):=by
 rw[zbo rfl];simp[evK,zbg,zao,zaf,keys,cntK]
theorem qts{z:List AV}{ps:List (Nat×Nat×Opd)}:regA P Γ n0 (⟨d,none,.build z ps⟩::os) E H Q=zbu (zfm (val E) z ps) λcs=>goon P Γ n0 d os E H Q (.agg cs):=by
 rw[zbo rfl];simp only[evK];cases zfm (val E) z ps<;>simp[zbu,zaf,keys,cntK]
theorem xxc{n sz:Nat}{z:List AV}{ps:List (Nat×Nat×Opd)}:regA P Γ n0 (⟨d,none,.bsl n sz z ps⟩::os) E H Q=
  zbu (zfm (val E) z ps) λcs=>n*sz=z.length/\regA P Γ n0 os (updO E d (.sl H.length 0 n sz (some n))) (H++[some cs]) λl=>Q (([],[H.length])::l):=by
 rw[zbo rfl];simp only[evK];cases zfm (val E) z ps<;>simp[zbg,zbz,zao,zbm,zaf,keys,cntK,goon]
def ldA(ag:Bool)(sz:Nat)(x:AV)(H:Heap):Option (AV×List Nat):=match x with
 |.ptr id off=>(getB H id).bind λcs=>need (off+sz<=cs.length) (some (ldv ag sz off cs,[id]))
 |.iptr cs p=>need (p+sz<=cs.length) (some (ldv ag sz p cs,[]))
 |_=>none
theorem jyy{ag:Bool}{sz:Nat}{x:Opd}:regA P Γ n0 (⟨d,none,.load ag sz x⟩::os) E H Q=
  ((ag=false->sz=1)/\zbu (ldA ag sz (val E x) H) λr=>regA P Γ n0 os (updO E d r.1) H λl=>Q ((r.2,[])::l)):=by
 rw[zbo rfl];simp only[evK,ldA];cases val E x<;>try (simp[zbg,zbz,zao,zbm,zaf,keys,cntK,goon];done)
 case ptr id off=>
  cases hg:getB H id with
  |none=>simp[hg,zbm]
  |some cs=>
   simp[hg,zbg,zao,zaf,keys,cntK];exact⟨λh=>⟨h.1.2,h.1.1,h.2⟩,λh=>⟨⟨h.2.1,h.1⟩,h.2.2⟩⟩
 case iptr cs p=>
  simp[zbg,zbz,zao,zbm,zaf,keys,cntK,goon];exact⟨λh=>⟨h.1.2,h.1.1,h.2⟩,λh=>⟨⟨h.2.1,h.1⟩,h.2.2⟩⟩
def stA(sz:Nat)(x v:AV)(H:Heap):Option (Nat×List AV):=match x with
 |.ptr id off=>(getB H id).bind λcs=>need (v.firm=true/\v.cells.length=sz/\AV.scalL v.cells=true/\off+sz<=cs.length) (some (id,setL cs off v.cells))
 |_=>none
theorem qtt{sz:Nat}{x v:Opd}:regA P Γ n0 (⟨none,none,.store sz x v⟩::os) E H Q=
  zbu (stA sz (val E x) (val E v) H) λr=>regA P Γ n0 os E (H.set r.1 (some r.2)) λl=>Q (([r.1],[r.1])::l):=by
 rw[zbo rfl];simp only[evK,stA];cases val E x<;>try (simp[zbg,zbz,zao,zbm,zaf,keys,cntK,goon];done)
 case ptr id off=>
  cases hg:getB H id with
  |none=>simp[hg,zbm]
  |some cs=>simp[hg,zbg,zao,zaf,keys,cntK,updO]
def nilA:AV->Option AV
 |.ptr id off=>some (.ptr id off)
 |.iptr cs p=>some (.iptr cs p)
 |_=>none
theorem qtu{x:Opd}:regA P Γ n0 (⟨d,none,.nilck x⟩::os) E H Q=zbu (nilA (val E x)) (goon P Γ n0 d os E H Q):=by
 rw[zbo rfl];simp only[evK,nilA];cases val E x<;>simp[zbu,zaf,keys,cntK]
theorem xxd{op:BinOp}{x y:Opd}:regA P Γ n0 (⟨d,none,.bin op x y⟩::os) E H Q=zbu (binA op (val E x) (val E y)) (goon P Γ n0 d os E H Q):=by
 rw[zbo rfl];simp only[evK];cases binA op (val E x) (val E y)<;>simp[zbu,zaf,keys,cntK]
def beqA(neg:Bool):AV->AV->Option AV
 |.bool a,.bool b=>some (.bool (if neg then !(a == b)else(a == b)))
 |_,_=>none
theorem xxe{neg:Bool}{x y:Opd}:regA P Γ n0 (⟨d,none,.beq neg x y⟩::os) E H Q=zbu (beqA neg (val E x) (val E y)) (goon P Γ n0 d os E H Q):=by
 rw[zbo rfl];simp only[evK,beqA];cases val E x<;>cases val E y<;>simp[zbu,zaf,keys,cntK]
def qtv(neg:Bool):AV->Option AV
 |.vec _ n _=>if n=0 then some .anyb else some (.bool neg)
 |.sl .. => some (.bool neg)
 |_=>none
theorem jyz{neg:Bool}{x:Opd}:regA P Γ n0 (⟨d,none,.snil neg x⟩::os) E H Q=zbu (qtv neg (val E x)) (goon P Γ n0 d os E H Q):=by
 rw[zbo rfl];simp only[evK,qtv];cases val E x<;>try (simp[zbg,zbz,zao,zbm,zaf,keys,cntK,goon];done)
 rename_i cs n c;by_cases h:n=0<;>simp[h,zao,zaf,keys,cntK,goon]
theorem kqb{op:UnOp}{x:Opd}:regA P Γ n0 (⟨d,none,.un op x⟩::os) E H Q=zbu (unA op (val E x)) (goon P Γ n0 d os E H Q):=by
 rw[zbo rfl];simp only[evK];cases unA op (val E x)<;>simp[zbu,zaf,keys,cntK]
def jza(k:IntKind):AV->Option AV
 |.int _ n=>some (.int k (k.wrap n))
 |_=>none
theorem jzb{k:IntKind}{x:Opd}:regA P Γ n0 (⟨d,none,.conv k x⟩::os) E H Q=zbu (jza k (val E x)) (goon P Γ n0 d os E H Q):=by
 rw[zbo rfl];simp only[evK,jza];cases val E x<;>simp[zbu,zaf,keys,cntK]
def jzc(bytes:Nat):AV->AV->Option (Int×Int)
 |.int _ n,.int _ c=>need (0<=n/\n<=c/\c*bytes<=2^48/\c<2^63) (some (n,c))
 |_,_=>none
theorem jzd{sz bytes:Nat}{z:List AV}{x y:Opd}:regA P Γ n0 (⟨d,none,.mksl sz bytes z x y⟩::os) E H Q=
  ((z.length=sz/\0<sz)/\zbu (jzc bytes (val E x) (val E y)) λr=>regA P Γ n0 os (updO E d (.sl H.length 0 r.1.toNat sz (some r.2.toNat))) (H++[some (zgn r.2.toNat z)]) λl=>Q (([],[H.length])::l)):=by
 rw[zbo rfl];simp only[evK,jzc];cases val E x<;>try (simp[zbg,zbz,zao,zbm,zaf,keys,cntK,goon];done)
 case int k n=>
  cases val E y<;>try (simp[zbg,zbz,zao,zbm,zaf,keys,cntK,goon];done)
  case int k' c=>
   simp[zbg,zbz,zao,zbm,zaf,keys,cntK,goon];constructor
   ·rintro⟨⟨h1,h2,h3,h4,h5,h6⟩,h7⟩;exact⟨⟨h5,h6⟩,⟨h1,h2,h3,h4⟩,h7⟩
   ·rintro⟨⟨h5,h6⟩,⟨h1,h2,h3,h4⟩,h7⟩;exact⟨⟨h1,h2,h3,h4,h5,h6⟩,h7⟩
theorem qtw{sz:Nat}{x:Opd}{lo hi mx:Option Opd}:regA P Γ n0 (⟨d,none,.slice sz x lo hi mx⟩::os) E H Q=zbu (zeh (val E) sz (val E x) lo hi mx) (goon P Γ n0 d os E H Q):=by
 rw[zbo rfl];simp only[evK];cases zeh (val E) sz (val E x) lo hi mx<;>simp[zbu,zaf,keys,cntK]
def fldA(off:Nat):AV->Option AV
 |.ptr id o=>some (.ptr id (o+off))
 |.iptr cs p=>some (.iptr cs (p+off))
 |_=>none
theorem xxf{off:Nat}{x:Opd}:regA P Γ n0 (⟨d,none,.fld off x⟩::os) E H Q=zbu (fldA off (val E x)) (goon P Γ n0 d os E H Q):=by
 rw[zbo rfl];simp only[evK,fldA];cases val E x<;>simp[zbu,zaf,keys,cntK]
def jze(ag:Bool)(sz off:Nat):AV->Option AV
 |.agg cs=>need (off+sz<=cs.length/\(ag=false->sz=1)) (some (ldv ag sz off cs))
 |_=>none
theorem jzf{ag:Bool}{sz off:Nat}{x:Opd}:regA P Γ n0 (⟨d,none,.part ag sz off x⟩::os) E H Q=zbu (jze ag sz off (val E x)) (goon P Γ n0 d os E H Q):=by
 rw[zbo rfl];simp only[evK,jze];cases val E x<;>simp[zbg,zbz,zao,zbm,zaf,keys,cntK,goon]
def idxA(sz:Nat):AV->AV->Option AV
 |.sl id off n s _,.int _ j=>need (s=sz/\0<=j/\j<n) (some (.ptr id (off+j.toNat*sz)))
 |.vec cs n _,.int _ j=>need (0<=j/\j<n) (some (.iptr cs (j.toNat*sz)))
 |_,_=>none
theorem xxg{sz:Nat}{x i:Opd}:regA P Γ n0 (⟨d,none,.idx sz x i⟩::os) E H Q=zbu (idxA sz (val E x) (val E i)) (goon P Γ n0 d os E H Q):=by
 rw[zbo rfl];simp only[evK,idxA];cases val E x<;>cases val E i<;>simp[zbg,zbz,zao,zbm,zaf,keys,cntK,goon]
def qtx(n sz:Nat):AV->AV->Option AV
 |.ptr id off,.int _ j=>need (0<=j/\j<n) (some (.ptr id (off+j.toNat*sz)))
 |.iptr cs p,.int _ j=>need (0<=j/\j<n) (some (.iptr cs (p+j.toNat*sz)))
 |_,_=>none
theorem jzg{n sz:Nat}{x i:Opd}:regA P Γ n0 (⟨d,none,.idxa n sz x i⟩::os) E H Q=zbu (qtx n sz (val E x) (val E i)) (goon P Γ n0 d os E H Q):=by
 rw[zbo rfl];simp only[evK,qtx];cases val E x<;>cases val E i<;>simp[zbg,zbz,zao,zbm,zaf,keys,cntK,goon]
def jzh(n:Nat)(ag:Bool)(sz:Nat):AV->AV->Option AV
 |.agg cs,.int _ j=>need (0<=j/\j<n/\j.toNat*sz+sz<=cs.length/\(ag=false->sz=1)) (some (ldv ag sz (j.toNat*sz) cs))
 |_,_=>none
theorem jzi{n sz:Nat}{ag:Bool}{x i:Opd}:regA P Γ n0 (⟨d,none,.idxv n ag sz x i⟩::os) E H Q=zbu (jzh n ag sz (val E x) (val E i)) (goon P Γ n0 d os E H Q):=by
 rw[zbo rfl];simp only[evK,jzh];cases val E x<;>cases val E i<;>simp[zbg,zbz,zao,zbm,zaf,keys,cntK,goon]
def jzj:AV->AV->Option AV
 |.str s,.int _ j=>need (0<=j/\j<s.size) (some (.int .u8 (s.data.getD j.toNat 0).toNat))
 |_,_=>none
theorem jzk{x i:Opd}:regA P Γ n0 (⟨d,none,.idxs x i⟩::os) E H Q=zbu (jzj (val E x) (val E i)) (goon P Γ n0 d os E H Q):=by
 rw[zbo rfl];simp only[evK,jzj];cases val E x<;>cases val E i<;>simp[zbg,zbz,zao,zbm,zaf,keys,cntK,goon]
def extA(i:Nat):AV->Option AV
 |.tup vs=>vs[i]?
 |_=>none
theorem xxh{x:Opd}{i:Nat}:regA P Γ n0 (⟨d,none,.ext x i⟩::os) E H Q=zbu (extA i (val E x)) (goon P Γ n0 d os E H Q):=by
 rw[zbo rfl];simp only[evK,extA];cases val E x<;>simp[zbu];rename_i vs;cases vs[i]?<;>simp[zaf,keys,cntK]
def qty:AV->Option AV
 |.vec _ n _=>some (.int .i64 n)
 |.sl _ _ n _ _=>some (.int .i64 n)
 |_=>none
theorem xxi{x:Opd}:regA P Γ n0 (⟨d,none,.len false x⟩::os) E H Q=zbu (qty (val E x)) (goon P Γ n0 d os E H Q):=by
 rw[zbo rfl];simp only[evK,qty];cases val E x<;>simp[zbu,zaf,keys,cntK]
def qjv:AV->Option AV
 |.str s=>some (.int .i64 s.size)
 |_=>none
theorem jzl{x:Opd}:regA P Γ n0 (⟨d,none,.len true x⟩::os) E H Q=zbu (qjv (val E x)) (goon P Γ n0 d os E H Q):=by
 rw[zbo rfl];simp only[evK,qjv];cases val E x<;>simp[zbu,zaf,keys,cntK]
def maxA:AV->AV->Option AV
 |.int k a,.int _ b=>some (.int k (if b>a then b else a))
 |_,_=>none
theorem xxj{x y:Opd}:regA P Γ n0 (⟨d,none,.max x y⟩::os) E H Q=zbu (maxA (val E x) (val E y)) (goon P Γ n0 d os E H Q):=by
 rw[zbo rfl];simp only[evK,maxA];cases val E x<;>cases val E y<;>simp[zbu,zaf,keys,cntK]
theorem jzm{f:FuncId}{caps:List Opd}:regA P Γ n0 (⟨d,none,.mkfn f caps⟩::os) E H Q=goon P Γ n0 d os E H Q (.clo f (caps.map (val E))):=by
 rw[zbo rfl];simp[evK,zao,zaf,keys,cntK]
theorem qjw{sz bytes:Nat}{s x:Opd}:regA P Γ n0 (⟨d,none,.append sz bytes s x⟩::os) E H Q=
  zbu (zcd n0 H.length H sz bytes (val E s) (val E x)) λr=>regA P Γ n0 os (updO E d r.1) (zaf r.2.1 (H++[none])) λl=>Q ((r.2.2,keys r.2.1)::l):=by
 rw[zbo rfl];simp[evK,cntK]
theorem zpf{cs:List AV}:getB (some cs::H) 0=some cs:=rfl
theorem qjx{c:Option (List AV)}{n:Nat}:getB (c::H) (n+1)=getB H n:=rfl
theorem zwe{args:List AV}{t:Nat}:zig args t=args.getD t .junk:=rfl
end
section
variable{H:Heap}{id off n sz p:Nat}{c:Option Nat}{cs:List AV}{k k':IntKind}{a b:Int}{x y:AV}
theorem qfs{b:Bool}:qfo (.bool b)=some b:=rfl
theorem qft{b:Bool}:qfp (.bool b)=some (some b):=rfl
theorem qjy:qfp .anyb=some none:=rfl
theorem qjz{t:Bool}{A B:Prop}:both (some t) A B=((t=true->A)/\(t=false->B)):=rfl
theorem qka{A B:Prop}:both none A B=(A/\B):=rfl
theorem qfu{t:Bool}:jyw (.bool t) x y=some (if t=true then x else y):=rfl
theorem jzn{ag:Bool}:ldA ag sz (.ptr id off) H=(getB H id).bind λcs=>need (off+sz<=cs.length) (some (ldv ag sz off cs,[id])):=rfl
theorem qtz{ag:Bool}:ldA ag sz (.iptr cs p) H=need (p+sz<=cs.length) (some (ldv ag sz p cs,[])):=rfl
theorem kqc:ldv false sz off cs=cs.getD off .junk:=rfl
theorem kqd:ldv true sz off cs= .agg ((cs.drop off).take sz):=rfl
theorem jzo{v:AV}:stA sz (.ptr id off) v H=(getB H id).bind λcs=>need (v.firm=true/\v.cells.length=sz/\AV.scalL v.cells=true/\off+sz<=cs.length) (some (id,setL cs off v.cells)):=rfl
theorem qua:nilA (.ptr id off)=some (.ptr id off):=rfl
theorem qkb:nilA (.iptr cs p)=some (.iptr cs p):=rfl
theorem qub:binA .add (.int k a) (.int k b)=some (.int k (k.wrap (a+b))):=by simp[binA,need]
theorem quc:binA .sub (.int k a) (.int k b)=some (.int k (k.wrap (a-b))):=by simp[binA,need]
theorem qud:binA .mul (.int k a) (.int k b)=some (.int k (k.wrap (a*b))):=by simp[binA,need]
theorem que:binA .quo (.int k a) (.int k b)=need (b≠0) (some (.int k (k.wrap (a.tdiv b)))):=by simp[binA,need]
theorem quf:binA .rem (.int k a) (.int k b)=need (b≠0) (some (.int k (a.tmod b))):=by simp[binA,need]
theorem qug:binA .shl (.int k a) (.int k' b)=need (0<=b) (some (.int k (k.wrap (a*2^(min b.toNat k.bits))))):=rfl
theorem quh:binA .shr (.int k a) (.int k' b)=need (0<=b) (some (.int k (a.fdiv (2^(min b.toNat k.bits))))):=rfl
theorem qui:binA .and (.int k a) (.int k b)=some (.int k (k.wrap (BitVec.ofInt k.bits a &&& BitVec.ofInt k.bits b).toNat)):=by simp[binA,need]
theorem jzp:binA .or (.int k a) (.int k b)=some (.int k (k.wrap (BitVec.ofInt k.bits a ||| BitVec.ofInt k.bits b).toNat)):=by simp[binA,need]
theorem zzd:binA .andNot (.int k a) (.int k b)=some (.int k (k.wrap (BitVec.ofInt k.bits a &&& ~~~ BitVec.ofInt k.bits b).toNat)):=by simp[binA,need]
theorem quj:binA .eql (.int k a) (.int k b)=some (.bool (decide (a=b))):=by
 simp only[binA,need,if_true];congr 2
theorem quk:binA .neq (.int k a) (.int k b)=some (.bool (decide (a≠b))):=by
 simp only[binA,need,if_true];congr 2;by_cases h:a=b<;>simp[h]
theorem qul:binA .lss (.int k a) (.int k b)=some (.bool (decide (a<b))):=by simp[binA,need]
theorem qum:binA .leq (.int k a) (.int k b)=some (.bool (decide (a<=b))):=by simp[binA,need]
theorem qun:binA .gtr (.int k a) (.int k b)=some (.bool (decide (b<a))):=by simp[binA,need]
theorem qup:binA .geq (.int k a) (.int k b)=some (.bool (decide (b<=a))):=by simp[binA,need]
theorem qkc{s t:ByteArray}:binA .eql (.str s) (.str t)=some (.bool (s.toList == t.toList)):=rfl
theorem qkd{s t:ByteArray}:binA .add (.str s) (.str t)=need ((s.size+t.size:Nat)<=IntKind.i64.max) (some (.str (s++t))):=rfl
theorem qke{neg s t:Bool}:beqA neg (.bool s) (.bool t)=some (.bool (if neg=true then !(s == t)else(s == t))):=rfl
theorem qkf{neg:Bool}:qtv neg (.vec cs n c)=if n=0 then some .anyb else some (.bool neg):=rfl
theorem quq{neg:Bool}:qtv neg (.sl id off n sz c)=some (.bool neg):=rfl
theorem jzq:unA .neg (.int k a)=some (.int k (k.wrap (0-a))):=rfl
theorem jzr{t:Bool}:unA .not (.bool t)=some (.bool !t):=rfl
theorem qkg:jza k (.int k' a)=some (.int k (k.wrap a)):=rfl
theorem qkh{bytes:Nat}:jzc bytes (.int k a) (.int k' b)=need (0<=a/\a<=b/\b*bytes<=2^48/\b<2^63) (some (a,b)):=rfl
theorem qki:zjq (.int k a)=need (0<=a) (some a.toNat):=rfl
theorem zze{V:Opd->AV}{d:Nat}:zbq V d none=some d:=rfl
theorem zzf{V:Opd->AV}{d:Nat}{z:Opd}:zbq V d (some z)=zjq (V z):=rfl
theorem qfv{V:Opd->AV}{lo hi:Option Opd}:zeh V sz (.vec cs n c) lo hi none=
  (zbq V n hi).bind λh=>(zbq V 0 lo).bind λl=>need (l<=h/\h<=n/\n*sz<=cs.length) (some (.vec ((cs.drop (l*sz)).take ((h-l)*sz)) (h-l) (zgo l c))):=rfl
theorem qkj{V:Opd->AV}{lo hi:Option Opd}{s:Nat}:zeh V sz (.sl id off n s c) lo hi none=
  (zbq V n hi).bind λh=>(zbq V 0 lo).bind λl=>need (s=sz/\l<=h/\h<=n) (some (if l=h then zrl id off sz l c else .sl id (off+l*sz) (h-l) sz (zgo l c))):=rfl
theorem zzg{V:Opd->AV}{lo hi:Option Opd}{m:Opd}:zeh V sz (.vec cs n c) lo hi (some m)=
  (zbq V n hi).bind λh=>(zbq V 0 lo).bind λl=>(zjq (V m)).bind λm=>need (hi.isSome=true/\l<=h/\h<=m/\m<=n/\n*sz<=cs.length) (some (.vec ((cs.drop (l*sz)).take ((h-l)*sz)) (h-l) (some (m-l)))):=rfl
theorem qfw{V:Opd->AV}{lo hi:Option Opd}{m:Opd}{s:Nat}:zeh V sz (.sl id off n s c) lo hi (some m)=
  (zbq V n hi).bind λh=>(zbq V 0 lo).bind λl=>(zjq (V m)).bind λm=>need (hi.isSome=true/\s=sz/\l<=h/\h<=m/\m<=n) (some (if l=h then .vec [] 0 (some (m-l))else .sl id (off+l*sz) (h-l) sz (some (m-l)))):=rfl
theorem qfx{id off sz l q:Nat}:zrl id off sz l (some q)= .vec [] 0 (zgo l (some q)):=by cases l<;>rfl
theorem zzh{id off sz l:Nat}{c:Option Nat}:zrl id off sz (l+1) c= .vec [] 0 (zgo (l+1) c):=by cases c<;>rfl
theorem zzi{id off sz:Nat}:zrl id off sz 0 none= .sl id off 0 sz none:=rfl
theorem zzj{l:Nat}:zgo l none=none:=rfl
theorem zzk:zgo 0 c=c:=by cases c<;>rfl
theorem qur{o:Nat}:fldA off (.ptr id o)=some (.ptr id (o+off)):=rfl
theorem qkk:fldA off (.iptr cs p)=some (.iptr cs (p+off)):=rfl
theorem qkl{ag:Bool}:jze ag sz off (.agg cs)=need (off+sz<=cs.length/\(ag=false->sz=1)) (some (ldv ag sz off cs)):=rfl
theorem jzs{s:Nat}:idxA sz (.sl id off n s c) (.int k a)=need (s=sz/\0<=a/\a<n) (some (.ptr id (off+a.toNat*sz))):=rfl
theorem qus:idxA sz (.vec cs n c) (.int k a)=need (0<=a/\a<n) (some (.iptr cs (a.toNat*sz))):=rfl
theorem qkm:qtx n sz (.ptr id off) (.int k a)=need (0<=a/\a<n) (some (.ptr id (off+a.toNat*sz))):=rfl
theorem qfy:qtx n sz (.iptr cs p) (.int k a)=need (0<=a/\a<n) (some (.iptr cs (p+a.toNat*sz))):=rfl
theorem qkn{ag:Bool}:jzh n ag sz (.agg cs) (.int k a)=need (0<=a/\a<n/\a.toNat*sz+sz<=cs.length/\(ag=false->sz=1)) (some (ldv ag sz (a.toNat*sz) cs)):=rfl
theorem qko{s:ByteArray}:jzj (.str s) (.int k a)=need (0<=a/\a<s.size) (some (.int .u8 (s.data.getD a.toNat 0).toNat)):=rfl
theorem qut{i:Nat}:extA i (.tup cs)=cs[i]?:=rfl
theorem qkp:qty (.vec cs n c)=some (.int .i64 n):=rfl
theorem quu:qty (.sl id off n sz c)=some (.int .i64 n):=rfl
theorem qfz{s:ByteArray}:qjv (.str s)=some (.int .i64 s.size):=rfl
theorem quv:maxA (.int k a) (.int k' b)=some (.int k (if b>a then b else a)):=rfl
theorem kqe{E:Env}{t:Nat}:val E (.t t)=E t:=rfl
theorem kqf{E:Env}:val E (.k x)=x:=rfl
theorem qkq{E:Env}{d:Nat}:updO E (some d) x=upd E d x:=rfl
theorem qkr{E:Env}:updO E none x=E:=rfl
theorem qks:(AV.agg cs).cells=cs:=rfl
theorem qkt:(AV.int k a).cells=[.int k a]:=rfl
theorem qga{t:Bool}:(AV.bool t).cells=[.bool t]:=rfl
theorem qku:(AV.vec cs n c).cells=[.vec cs n c]:=rfl
theorem quw:(AV.sl id off n sz c).cells=[.sl id off n sz c]:=rfl
theorem qux:(AV.agg cs).firm=true:=rfl
theorem quy:(AV.int k a).firm=true:=rfl
theorem qkv{t:Bool}:(AV.bool t).firm=true:=rfl
theorem quz:(AV.vec cs n c).firm=true:=rfl
theorem jzt:(AV.sl id off n sz c).firm=true:=rfl
theorem qva{i:Nat}:setL cs i []=cs:=rfl
theorem qkw{i:Nat}{v:AV}{vs:List AV}:setL cs i (v::vs)=setL (cs.set i v) (i+1) vs:=rfl
theorem qkx:AV.scalL []=true:=rfl
theorem qgb{r:List AV}:AV.scalL (x::r)=(x.scal && AV.scalL r):=rfl
theorem qvb:(AV.int k a).scal=true:=rfl
theorem qky{t:Bool}:(AV.bool t).scal=true:=rfl
theorem qvc:(AV.vec cs n c).scal=true:=rfl
theorem jzu:(AV.sl id off n sz c).scal=true:=rfl
theorem qkz{V:Opd->AV}:zfm V cs []=some cs:=rfl
theorem qgc{V:Opd->AV}{s:Nat}{z:Opd}{r:List (Nat×Nat×Opd)}:zfm V cs ((off,s,z)::r)=
  need ((V z).firm=true/\(V z).cells.length=s/\off+s<=cs.length) (zfm V (setL cs off (V z).cells) r):=rfl
theorem qla{m:Nat}{z:AV}:zgn m [z]=List.replicate m z:=rfl
end
theorem zer{P:Program}{b:Frame}{a:Act}{k:List Item}{cs:List Frame}{w:World}{c:Code}:step P (lone (b.atR a (.code (.scope c)::k)) cs w)= .next (lone (b.atR a (.code c:: .inScope c::k)) cs w):=
 step_lone_go (by simp[stepG,stepG.exec,Frame.atR])
theorem ztq{P:Program}{b:Frame}{a:Act}{k:List Item}{cs:List Frame}{w:World}{c:Code}:step P (lone (b.atR a (.inScope c::k)) cs w)= .next (lone (b.atR a k) cs w):=
 step_lone_go (by simp[stepG,stepG.exec,Frame.atR])
theorem zle{P:Program}{Γ:Glob}{n0 nt:Nat}{c:CC}{E:Env}{H:Heap}{Q:Post}(h:W P Γ n0 nt c E H (λx E' H'=>(∀l,x≠ .goto l)/\Q x E' H')):W P Γ n0 nt (.scope c) E H Q:=by
 intro code hc C ρ a w h1 h2 hfl hs;cases code<;>simp only[zbt]at hc<;>try (simp at hc;done)
 case scope x=>
  split at hc
  ·rename_i cx hx;simp at hc;subst hc;intro b k cs hro hb hr;obtain⟨e,a₁,w₁,⟨E1,H1,ρ1,⟨hg,hq⟩,hs1⟩,harr⟩:=h x hx C ρ a w h1 h2 hfl hs b (.inScope x::k) cs hro hb hr;have h0:(lone (b.atR a (.code (.scope x)::k)) cs w).fenced P (zdj C.ro):=fenced_calm hb hr rfl;cases e with
   |normal=>exact⟨.normal,a₁,w₁,⟨E1,H1,ρ1,hq,hs1⟩,.head h0 zer (StepsIn.trans harr (.one (fenced_calm hb hr rfl) ztq))⟩
   |exit id=>exact⟨.exit id,a₁,w₁,⟨E1,H1,ρ1,hq,hs1⟩,λk' hk=> .head h0 zer (harr.1 k' (by simp[exitTo,hk])),λhr' hk=>let ⟨k₁,h1,h2⟩:=harr.2 hr' (by simp[exitTo,hk]);⟨k₁,h1,.head h0 zer h2⟩⟩
   |goto l=>exact absurd rfl (hg l)
   |ret=>exact⟨_,a₁,w₁,⟨E1,H1,ρ1,hq,hs1⟩,.of_steps (.one h0 zer) harr⟩
   |panic ch=>exact⟨_,a₁,w₁,⟨E1,H1,ρ1,hq,hs1⟩,.of_steps (.one h0 zer) harr⟩
   |outgrown=>exact⟨_,a₁,w₁,⟨E1,H1,ρ1,hq,hs1⟩,.of_steps (.one h0 zer) harr⟩
  ·simp at hc
 all_goals (split at hc<;>try (simp at hc;done))
 all_goals (split at hc<;>try (simp at hc;done))
 all_goals (split at hc<;>simp at hc)
