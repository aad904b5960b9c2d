/- A part of the proof. -/
import Derived.Test.YtpflahgcdgdkjaaGreatDoorAL20
set_option linter.all false
namespace Go.AL
open List renaming all_eq_true -> qQ
open Go
abbrev FP:=List Nat×List Nat
def qeq(P:Program)(Γ:Glob)(n0:Nat)(ck:CK)(E:Env)(H:Heap)(K:It->Prop):Prop:=
 match ck with
 |.call f args=>∃v e rd c,CallR P Γ f (args.map (val E)) H.length (H++List.replicate c none) v e rd c/\K ⟨v,e,rd,H.length,c⟩
 |.callc x args=>∃f caps,val E x= .clo f caps/\okC (okFn P) f=true/\∃v e rd c,CallR P Γ (cloF f) (cloA f (args.map (val E)) caps) H.length (H++List.replicate c none) v e rd c/\K ⟨v,e,rd,H.length,c⟩
 |ck=>∃v e rd,evK n0 H.length ck (val E) H=some (v,e,rd)/\K ⟨v,e,rd,H.length,cntK ck⟩
def ztb(P:Program)(Γ:Glob)(n0:Nat)(o:COp)(E:Env)(H:Heap)(K:It->Prop):Prop:=
 match o.g with
 |none=>qeq P Γ n0 o.k E H K
 |some (d,want)=>∃b,E d= .bool b/\(b=want->qeq P Γ n0 o.k E H K)/\(b≠want->K ⟨.junk,[],[],H.length,0⟩)
def regA(P:Program)(Γ:Glob)(n0:Nat):List COp->Env->Heap->(List FP->Env->Heap->Prop)->Prop
 | [],E,H,Q=>Q [] E H
 |o::os,E,H,Q=>ztb P Γ n0 o E H λit=>regA P Γ n0 os (updO E o.dst it.v) (zad it.e (H++List.replicate it.c none)) λl=>Q ((it.rd,keys it.e)::l)
def zvn(x y:List Nat):Bool:=x.all λi=>!y.contains i
def dynB(l:List (Nat×Nat))(fps:List FP):Bool:=
 l.all λp=>match fps[p.1]?,fps[p.2]? with
  |some x,some y=>zvn x.2 y.1 && zvn x.2 y.2 && zvn y.2 x.1
  |_,_=>true
section
variable{P:Program}{Γ:Glob}{n0 nt:Nat}{E:Env}{H:Heap}
theorem qwr{fresh:Nat}{k:CK}{V:Opd->AV}{m:Nat}{r:Res}(h:evK n0 fresh k V H=some r):evK n0 fresh k V (H++List.replicate m none)=some r:=
 zvk h (λ_ _=>rfl) (λj _=>zsz H m j)
theorem qia{o:COp}{K:It->Prop}(h:ztb P Γ n0 o E H K):∃it,it.k=H.length/\Stp P Γ n0 o E (H++List.replicate it.c none) it/\K it:=by
 have body:qeq P Γ n0 o.k E H K->∃it,it.k=H.length/\Body P Γ n0 o.k E (H++List.replicate it.c none) it/\K it:=by
  intro hb;cases hck:o.k<;>rw[hck]at hb<;>simp only[qeq]at hb
  case call f args=>
   obtain⟨v,e,rd,c,h1,h2⟩:=hb;exact⟨_,rfl,by simp only[Body];exact h1,h2⟩
  case callc x args=>
   obtain⟨f,caps,h1,h2,v,e,rd,c,h3,h4⟩:=hb;exact⟨_,rfl,by simp only[Body];exact⟨f,caps,h1,h2,h3⟩,h4⟩
  all_goals
   obtain⟨v,e,rd,h1,h2⟩:=hb;exact⟨_,rfl,⟨qwr h1,rfl⟩,h2⟩
 unfold ztb at h;unfold Stp;split at h
 ·rename_i hg;obtain⟨it,h1,h2,h3⟩:=body h;exact⟨it,h1,by rw[hg];exact h2,h3⟩
 ·rename_i d want hg;obtain⟨b,hb,h1,h2⟩:=h;by_cases e:b=want
  ·obtain⟨it,g1,g2,g3⟩:=body (h1 e);exact⟨it,g1,by rw[hg];exact⟨true,by rw[hb,e];simp[gdB],by rw[if_pos rfl];exact g2⟩,g3⟩
  ·exact⟨_,rfl,by rw[hg];exact⟨false,by rw[hb];simp[gdB,e],by rw[if_neg (by simp)];exact⟨.inl rfl,rfl,rfl,rfl⟩⟩,h2 e⟩
theorem qbl:∀(os:List COp) (E:Env) (H:Heap) (Q:List FP->Env->Heap->Prop),regA P Γ n0 os E H Q->∃its E' H',RunS P Γ n0 os its E H E' H'/\Q (its.map λit=>(it.rd,keys it.e)) E' H':=by
 intro os
 induction os with
 |nil=>intro E H Q h;exact⟨[],E,H,⟨rfl,rfl⟩,h⟩
 |cons o os ih=>
  intro E H Q h;obtain⟨it,h1,h2,h3⟩:=qia h;obtain⟨its,E',H',g1,g2⟩:=ih _ _ _ h3;exact⟨it::its,E',H',⟨h1,h2,g1⟩,g2⟩
theorem zlr{x y:List Nat}(h:zvn x y=true):∀i∈x,i∉y:=by
 intro i hi;simp only[zvn,qQ]at h;have:=h i hi;simpa using this
theorem quq{cs:List COp}{l:List (Nat×Nat)}{Q:Post}(hm:P.follows .mixedOrders=true)(h:regA P Γ n0 cs E H (λfps E' H'=>dynB l fps=true/\Q .normal E' H')):W P Γ n0 nt (.reg cs (some l)) E H Q:=by
 obtain⟨its,E',H',hr,hd,hQ⟩:=qbl _ _ _ _ h;refine jby hm hr ?_ hQ;intro l' e p hp x y hx hy;simp at e;subst e;simp only[dynB,qQ]at hd;have:=hd p hp;simp only[List.getElem?_map,hx,hy,Option.map_some,Bool.and_eq_true]at this;exact⟨λi hi=>⟨zlr this.1.1 i hi,zlr this.1.2 i hi⟩,λi hi=>zlr this.2 i hi⟩
theorem qur{cs:List COp}{Q:Post}(hm:P.follows .mixedOrders=true)(h:regA P Γ n0 cs E H (λ_ E' H'=>Q .normal E' H')):W P Γ n0 nt (.reg cs none) E H Q:=by
 obtain⟨its,E',H',hr,hQ⟩:=qbl _ _ _ _ h;exact jby hm hr (by intro l e;simp at e) hQ
theorem qpi{d:Option Nat}{g:Nat}{want:Bool}{k:CK}{os:List COp}{Q:List FP->Env->Heap->Prop}{b:Bool}(hb:E g= .bool b)
  (h1:b=want->regA P Γ n0 (⟨d,none,k⟩::os) E H Q) (h2:b≠want->regA P Γ n0 os (updO E d .junk) H (λl=>Q (([],[])::l))):
  regA P Γ n0 (⟨d,some (g,want),k⟩::os) E H Q:=by
 simp only[regA,ztb]at h1 ⊢;refine⟨b,hb,h1,λh=>?_⟩;have:=h2 h;simpa[zad,keys]using this
theorem jbz{Q:List FP->Env->Heap->Prop}:regA P Γ n0 [] E H Q=Q [] E H:=rfl
