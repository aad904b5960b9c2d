/- A part of the proof. -/
import Derived.Test.YtgfbaioffpcelaaGreatDoorPB
import Derived.ChangeSame
set_option linter.all false
open Option.some renaming injEq -> qQ
open Option renaming map_eq_some_iff -> qX, getD_none -> qD
open Nat renaming eq_of_beq_eq_true -> qZ, le_of_ble_eq_true -> qU, lt_or_ge -> qC
open Bool renaming and_eq_true -> qJ, false_eq_true -> qK
open List renaming getElem?_map -> qW, getElem?_eq_none -> qV, getD_eq_getElem?_getD -> qY, mem_cons_of_mem -> qA, mem_of_getElem? -> qB, all_eq_true -> qE
namespace Go.AL
open Go
inductive BT(α:Type) where
 |lf
 |nd (v:α) (l r:BT α)
section
variable{α:Type}
def BT.get(d:α):BT α->Nat->α
 |.lf,_=>d
 |.nd v l r,n=>match n with
  |0=>v
  |n+1=>match n%2 with
   |0=>l.get d (n/2)
   |_+1=>r.get d (n/2)
def BT.one(d:α)(x:α):Nat->Nat->BT α
 |0,_=> .lf
 |f+1,n=>match n with
  |0=> .nd x .lf .lf
  |n+1=>match n%2 with
   |0=> .nd d (one d x f (n/2)) .lf
   |_+1=> .nd d .lf (one d x f (n/2))
def BT.set(d:α)(x:α):BT α->Nat->BT α
 |.lf,n=>BT.one d x (n+1) n
 |.nd v l r,n=>match n with
  |0=> .nd x l r
  |n+1=>match n%2 with
   |0=> .nd v (l.set d x (n/2)) r
   |_+1=> .nd v l (r.set d x (n/2))
theorem BT.get_one(d x:α):∀(f n m:Nat),n<f->(BT.one d x f n).get d m=if m=n then x else d:=by
 intro f
 induction f with
 |zero=>intro n m h;omega
 |succ f ih=>
  intro n m h;cases n with
  |zero=>cases m with
   |zero=>simp[BT.one,BT.get]
   |succ m=>simp only[BT.one,BT.get];split<;>simp[BT.get]
  |succ n=>
   cases m with
   |zero=>simp only[BT.one];split<;>simp[BT.get]
   |succ m=>
    simp only[BT.one];split
    ·rename_i h1;simp only[BT.get];split
     ·rename_i h2;rw[ih _ _ (by omega)];congr 1;apply propext;omega
     ·rename_i h2;rw[if_neg (by omega)]
    ·rename_i k h1;simp only[BT.get];split
     ·rename_i h2;rw[if_neg (by omega)]
     ·rename_i h2;rw[ih _ _ (by omega)];congr 1;apply propext;omega
theorem BT.get_set(d x:α):∀(t:BT α) (n m:Nat),(t.set d x n).get d m=if m=n then x else t.get d m:=by
 intro t
 induction t with
 |lf=>intro n m;simp only[BT.set];rw[BT.get_one _ _ _ _ _ (by omega)];simp[BT.get]
 |nd v l r ihl ihr=>
  intro n m;cases n with
  |zero=>cases m with
   |zero=>simp[BT.set,BT.get]
   |succ m=>simp[BT.set,BT.get]
  |succ n=>
   cases m with
   |zero=>simp only[BT.set];split<;>simp[BT.get]
   |succ m=>
    simp only[BT.set];split
    ·rename_i h1;simp only[BT.get];split
     ·rename_i h2;rw[ihl];congr 1;apply propext;omega
     ·rename_i h2;rw[if_neg (by omega)]
    ·rename_i k h1;simp only[BT.get];split
     ·rename_i h2;rw[if_neg (by omega)]
     ·rename_i h2;rw[ihr];congr 1;apply propext;omega
end
abbrev ET:=BT AV
def BT.env(E:ET):Env:=λn=>E.get .junk n
def ET.setO(E:ET):Option Nat->AV->ET
 |none,_=>E
 |some d,v=>E.set .junk v d
theorem qsm(E:ET)(d:Option Nat)(v:AV):(ET.setO E d v).env=updO E.env d v:=by
 cases d with
 |none=>rfl
 |some d=>funext t;simp only[ET.setO,BT.env,BT.get_set,updO,upd]
def ET.ofL:List AV->Nat->ET->ET
 | [],_,E=>E
 |a::r,i,E=>ofL r (i+1) (E.set .junk a i)
theorem qzx:∀(l:List AV) (i:Nat) (E:ET) (t:Nat),(ET.ofL l i E).env t=if i<=t/\t<i+l.length then l.getD (t-i) .junk else E.env t:=by
 intro l
 induction l with
 |nil=>intro i E t;simp only[ET.ofL,List.length_nil,Nat.add_zero];rw[if_neg (by omega)]
 |cons a r ih=>
  intro i E t;simp only[ET.ofL,ih,List.length_cons];by_cases h:t=i
  ·subst h;rw[if_neg (by omega),if_pos (by omega)];simp[BT.env,BT.get_set]
  ·by_cases h2:i+1<=t/\t<i+1+r.length
   ·rw[if_pos h2,if_pos (by omega)];obtain⟨k,hk⟩:∃k,t-i=k+1:=⟨t-i-1,by omega⟩
    rw[hk,List.getD_cons_succ];congr 1;omega
   ·rw[if_neg h2,if_neg (by omega)];simp[BT.env,BT.get_set,h]
theorem qsn(l:List AV):(ET.ofL l 0 .lf).env=zkj l:=by
 funext t;rw[qzx];simp only[zkj,Nat.zero_add,Nat.zero_le,true_and,Nat.sub_zero];split
 ·rfl
 ·rename_i h;simp only[qY,qV (Nat.le_of_not_lt h),qD];rfl
abbrev CRes:=AV×Eff×List Nat×Nat
abbrev ziw:=FuncId->List AV->Heap->Option CRes
abbrev Out:=Option (Exit×ET×Heap)
def padH(H:Heap):Nat->Heap
 |0=>H
 |c+1=>H++List.replicate (c+1) none
theorem qzy(H:Heap)(c:Nat):padH H c=H++List.replicate c none:=by cases c<;>simp[padH]
def qda(P:FuncId->Bool)(call:ziw)(n0:Nat)(k:CK)(E:ET)(H:Heap):Option CRes:=
 match k with
 |.call f args=>call f (args.map (val E.env)) H
 |.callc x args=>match val E.env x with
  |.clo f caps=>if okC P f=true then call (cloF f) (cloA f (args.map (val E.env)) caps) H else none
  |_=>none
 |k=>match evK n0 H.length k (val E.env) H with
  |some (v,e,rd)=>some (v,e,rd,cntK k)
  |none=>none
def qzz{β:Type}(v:AV)(x:β):β:=match v with
 |.int _ n=>match n with
  |.ofNat m=>match m with
   |0=>x
   |_+1=>x
  |.negSucc m=>match m with
   |0=>x
   |_+1=>x
 |_=>x
theorem qso{β:Type}(v:AV)(x:β):qzz v x=x:=by
 unfold qzz;split
 ·split
  ·split<;>rfl
  ·split<;>rfl
 ·rfl
def qwv(P:FuncId->Bool)(call:ziw)(n0:Nat)(o:COp)(E:ET)(H:Heap):Option CRes:=
 match o.g with
 |none=>qda P call n0 o.k E H
 |some (d,want)=>match E.get .junk d with
  |.bool b=>if b=want then qda P call n0 o.k E H else some (.junk,[],[],0)
  |_=>none
def runR(P:FuncId->Bool)(call:ziw)(n0:Nat):List COp->ET->Heap->Option (ET×Heap×List FP)
 | [],E,H=>some (E,H,[])
 |o::os,E,H=>match qwv P call n0 o E H with
  |some (v,e,rd,c)=>qzz v (match runR P call n0 os (ET.setO E o.dst v) (zac e (padH H c))with
   |some (E',H',l)=>some (E',H',(rd,keys e)::l)
   |none=>none)
  |none=>none
def iter(f:ET->Heap->Out):Nat->ET->Heap->Out
 |0,_,_=>none
 |n+1,E,H=>match f E H with
  |some (.normal,E',H')=>iter f n E' H'
  |r=>r
def qks(f:ET->Heap->Out)(l:Nat):Nat->ET->Heap->Out
 |0,_,_=>none
 |n+1,E,H=>match f E H with
  |some (.goto l',E',H')=>if l'=l then qks f l n E' H' else none
  |r=>r
def hasL:CC->Nat->Bool
 |.seq a b,l=>hasL a l || hasL b l
 |.label l',l=>l' == l
 |_,_=>false
theorem zpo:∀(c:CC) (l:Nat),hasL c l=(zeq c l).isSome:=by
 intro c l
 induction c with
 |seq a b iha ihb=>
  simp only[hasL,zeq,iha,ihb];cases zeq a l<;>simp
 |label l'=>simp only[hasL,zeq];split<;>simp_all
 |_=>rfl
def exC(P:FuncId->Bool)(call:ziw)(lf n0:Nat):CC->Option Nat->ET->Heap->Out
 |.skip,none,E,H=>some (.normal,E,H)
 |.ret,none,E,H=>some (.ret,E,H)
 |.exit i,none,E,H=>some (.exit i,E,H)
 |.goto l,none,E,H=>some (.goto l,E,H)
 |.label _,_,E,H=>some (.normal,E,H)
 |.seq a b,none,E,H=>match exC P call lf n0 a none E H with
  |some (.normal,E',H')=>exC P call lf n0 b none E' H'
  |r=>r
 |.seq a b,some l,E,H=>match hasL a l with
  |true=>match exC P call lf n0 a (some l) E H with
   |some (.normal,E',H')=>exC P call lf n0 b none E' H'
   |r=>r
  |false=>exC P call lf n0 b (some l) E H
 |.cond x a b,none,E,H=>match val E.env x with
  |.bool true=>exC P call lf n0 a none E H
  |.bool false=>exC P call lf n0 b none E H
  |_=>none
 |.block id c,none,E,H=>match exC P call lf n0 c none E H with
  |some (.exit i,E',H')=>if i=id then some (.normal,E',H')else some (.exit i,E',H')
  |r=>r
 |.reg cs d,none,E,H=>match runR P call n0 cs E H with
  |some (E',H',fps)=>match d with
   |none=>some (.normal,E',H')
   |some l=>if dynB l fps=true then some (.normal,E',H')else none
  |none=>none
 |.loop c,none,E,H=>iter (exC P call lf n0 c none) lf E H
 |.scope c,none,E,H=>match exC P call lf n0 c none E H with
  |some (.goto l,E',H')=>if hasL c l=true then qks (exC P call lf n0 c (some l)) l lf E' H' else none
  |r=>r
 |_,_,_,_=>none
section
variable{P:Program}{ok:FuncId->Bool}{Γ:Glob}{n0 nt:Nat}
def zxn(P:Program)(Γ:Glob)(call:ziw):Prop:=
 ∀f args H v e rd c,call f args H=some (v,e,rd,c)->CallR P Γ f args H.length (H++List.replicate c none) v e rd c
theorem zno{call:ziw}(hok:∀f,ok f=true->okFn P f=true)(hc:zxn P Γ call){k:CK}{E:ET}{H:Heap}{v:AV}{e:Eff}{rd:List Nat}{c:Nat}(h:qda ok call n0 k E H=some (v,e,rd,c)){K:It->Prop}(hK:K ⟨v,e,rd,H.length,c⟩):
  qfx P Γ n0 k E.env H K:=by
 cases k<;>simp only[qda]at h
 case call f args=>exact⟨v,e,rd,c,hc _ _ _ _ _ _ _ h,hK⟩
 case callc x args=>
  split at h
  ·rename_i f caps hx;split at h
   ·rename_i ho;exact⟨f,caps,hx,ztr hok ho,v,e,rd,c,hc _ _ _ _ _ _ _ h,hK⟩
   ·simp at h
  ·simp at h
 all_goals
  split at h
  ·rename_i v' e' rd' hev;simp only[qQ,Prod.mk.injEq]at h;obtain⟨rfl,rfl,rfl,rfl⟩:=h;exact⟨_,_,_,hev,hK⟩
  ·simp at h
theorem zsj{call:ziw}(hok:∀f,ok f=true->okFn P f=true)(hc:zxn P Γ call):∀(os:List COp) (E:ET) (H:Heap) (E':ET) (H':Heap) (l:List FP),runR ok call n0 os E H=some (E',H',l)->∀Q:List FP->Env->Heap->Prop,Q l E'.env H'->
  regA P Γ n0 os E.env H Q:=by
 intro os
 induction os with
 |nil=>
  intro E H E' H' l h Q hQ;simp only[runR,qQ,Prod.mk.injEq]at h;obtain⟨rfl,rfl,rfl⟩:=h;exact hQ
 |cons o os ih=>
  intro E H E' H' l h Q hQ;simp only[runR]at h;split at h
  ·rename_i v e rd c hst;rw[qso]at h;split at h
   ·rename_i E1 H1 l1 hr;simp only[qQ,Prod.mk.injEq]at h;obtain⟨rfl,rfl,rfl⟩:=h;have hrest:=ih _ _ _ _ _ hr (λl=>Q ((rd,keys e)::l)) hQ;rw[qsm,qzy]at hrest;simp only[regA,zuj];unfold qwv at hst;split at hst
    ·rename_i hg;rw[hg];exact zno hok hc hst hrest
    ·rename_i d want hg;rw[hg];split at hst
     ·rename_i b hb;refine⟨b,hb,λe1=>?_,λe1=>?_⟩
      ·rw[if_pos e1]at hst;exact zno hok hc hst hrest
      ·rw[if_neg e1]at hst;simp only[qQ,Prod.mk.injEq]at hst;obtain⟨rfl,rfl,rfl,rfl⟩:=hst;exact hrest
     ·simp at hst
   ·simp at h
  ·simp at h
theorem qkt{call:ziw}{lf:Nat}(hok:∀f,ok f=true->okFn P f=true)(hc:zxn P Γ call)(hm:P.follows .mixedOrders=true):∀(c:CC),
  (∀E H x E' H',exC ok call lf n0 c none E H=some (x,E',H')->∀Q:Post,Q x E'.env H'->W P Γ n0 nt c E.env H Q)/\
  (∀l rest E H x E' H',zeq c l=some rest->exC ok call lf n0 c (some l) E H=some (x,E',H')->∀Q:Post,Q x E'.env H'->W P Γ n0 nt rest E.env H Q):=by
 intro c
 induction c with
 |skip=>
  refine⟨λE H x E' H' h Q hQ=>?_,λl rest E H x E' H' hf=>by simp[zeq]at hf⟩;simp only[exC,qQ,Prod.mk.injEq]at h;obtain⟨rfl,rfl,rfl⟩:=h;exact qiw hQ
 |ret=>
  refine⟨λE H x E' H' h Q hQ=>?_,λl rest E H x E' H' hf=>by simp[zeq]at hf⟩;simp only[exC,qQ,Prod.mk.injEq]at h;obtain⟨rfl,rfl,rfl⟩:=h;exact jei hQ
 |exit i=>
  refine⟨λE H x E' H' h Q hQ=>?_,λl rest E H x E' H' hf=>by simp[zeq]at hf⟩;simp only[exC,qQ,Prod.mk.injEq]at h;obtain⟨rfl,rfl,rfl⟩:=h;exact qwr hQ
 |goto i=>
  refine⟨λE H x E' H' h Q hQ=>?_,λl rest E H x E' H' hf=>by simp[zeq]at hf⟩;simp only[exC,qQ,Prod.mk.injEq]at h;obtain⟨rfl,rfl,rfl⟩:=h;exact qws hQ
 |label i=>
  refine⟨λE H x E' H' h Q hQ=>?_,λl rest E H x E' H' hf h Q hQ=>?_⟩
  ·simp only[exC,qQ,Prod.mk.injEq]at h;obtain⟨rfl,rfl,rfl⟩:=h;exact qix hQ
  ·simp only[exC,qQ,Prod.mk.injEq]at h;obtain⟨rfl,rfl,rfl⟩:=h;simp only[zeq]at hf;split at hf
   ·simp at hf;subst hf;exact qiw hQ
   ·simp at hf
 |seq a b iha ihb=>
  refine⟨λE H x E' H' h Q hQ=>?_,λl rest E H x E' H' hf h Q hQ=>?_⟩
  ·simp only[exC]at h;split at h
   ·rename_i E1 H1 h1;exact zki (iha.1 _ _ _ _ _ h1 _ (ihb.1 _ _ _ _ _ h Q hQ))
   ·rename_i h1;refine zki (iha.1 _ _ _ _ _ h _ ?_);cases x with
    |normal=>exact absurd h (h1 _ _)
    |_=>exact hQ
  ·simp only[exC]at h;simp only[zeq]at hf;split at h
   ·rename_i hl;rw[zpo]at hl;obtain⟨r,hr⟩:=Option.isSome_iff_exists.1 hl;rw[hr]at hf;simp at hf;subst hf;split at h
    ·rename_i E1 H1 h1;exact zki (iha.2 _ _ _ _ _ _ _ hr h1 _ (ihb.1 _ _ _ _ _ h Q hQ))
    ·rename_i h1;refine zki (iha.2 _ _ _ _ _ _ _ hr h _ ?_);cases x with
     |normal=>exact absurd h (h1 _ _)
     |_=>exact hQ
   ·rename_i hl;rw[zpo]at hl;have hn:zeq a l=none:=by simpa using hl
    rw[hn]at hf;exact ihb.2 _ _ _ _ _ _ _ hf h Q hQ
 |cond x a b iha ihb=>
  refine⟨λE H x' E' H' h Q hQ=>?_,λl rest E H x E' H' hf=>by simp[zeq]at hf⟩;simp only[exC]at h;split at h
  ·rename_i hv;exact qiy hv (λ_=>iha.1 _ _ _ _ _ h Q hQ) (λe=>by simp at e)
  ·rename_i hv;exact qiy hv (λe=>by simp at e) (λ_=>ihb.1 _ _ _ _ _ h Q hQ)
  ·simp at h
 |block id c ih=>
  refine⟨λE H x' E' H' h Q hQ=>?_,λl rest E H x E' H' hf=>by simp[zeq]at hf⟩;simp only[exC]at h;split at h
  ·rename_i i E1 H1 h1;refine zmu (ih.1 _ _ _ _ _ h1 _ ?_);simp only[znv];split at h
   ·rename_i e;simp only[qQ,Prod.mk.injEq]at h;obtain⟨rfl,rfl,rfl⟩:=h;rw[if_pos e];exact hQ
   ·rename_i e;simp only[qQ,Prod.mk.injEq]at h;obtain⟨rfl,rfl,rfl⟩:=h;rw[if_neg e];exact hQ
  ·rename_i h1;refine zmu (ih.1 _ _ _ _ _ h _ ?_);cases x' with
   |exit i=>exact absurd h (h1 _ _ _)
   |_=>exact hQ
 |reg cs d=>
  refine⟨λE H x' E' H' h Q hQ=>?_,λl rest E H x E' H' hf=>by simp[zeq]at hf⟩;simp only[exC]at h;split at h
  ·rename_i E1 H1 fps hr;split at h
   ·simp only[qQ,Prod.mk.injEq]at h;obtain⟨rfl,rfl,rfl⟩:=h;exact qwu hm (zsj hok hc _ _ _ _ _ _ hr _ hQ)
   ·rename_i l;split at h
    ·rename_i hd;simp only[qQ,Prod.mk.injEq]at h;obtain⟨rfl,rfl,rfl⟩:=h;exact qwt hm (zsj hok hc _ _ _ _ _ _ hr _ ⟨hd,hQ⟩)
    ·simp at h
  ·simp at h
 |loop c ih=>
  refine⟨λE H x' E' H' h Q hQ=>?_,λl rest E H x E' H' hf=>by simp[zeq]at hf⟩;simp only[exC]at h;refine zaj (λn E2 H2=>∃T:ET,E2=T.env/\iter (exC ok call lf n0 c none) n T H2=some (x',E',H')) ⟨E,rfl,h⟩ ?_;rintro n E2 H2 ⟨T,rfl,ht⟩;cases n with
  |zero=>simp[iter]at ht
  |succ n=>
   simp only[iter]at ht;split at ht
   ·rename_i T1 H1 h1;exact ih.1 _ _ _ _ _ h1 _ ⟨n,T1.env,H1,by omega,⟨T1,rfl,ht⟩,.refl⟩
   ·rename_i h1;refine ih.1 _ _ _ _ _ ht _ ?_;cases x' with
    |normal=>exact absurd ht (h1 _ _)
    |_=>exact hQ
 |scope c ih=>
  refine⟨λE H x' E' H' h Q hQ=>?_,λl rest E H x E' H' hf=>by simp[zeq]at hf⟩;simp only[exC]at h;split at h
  ·rename_i l E1 H1 h1;split at h
   ·rename_i hl;rw[zpo]at hl;obtain⟨r,hr⟩:=Option.isSome_iff_exists.1 hl;refine qkl l (λn E2 H2=>∃T:ET,E2=T.env/\qks (exC ok call lf n0 c (some l)) l n T H2=some (x',E',H')) hr ?_ ?_
    ·exact ih.1 _ _ _ _ _ h1 _ ⟨rfl,lf,E1.env,H1,⟨E1,rfl,h⟩,.refl⟩
    ·rintro n E2 H2 ⟨T,rfl,ht⟩;cases n with
     |zero=>simp[qks]at ht
     |succ n=>
      simp only[qks]at ht;split at ht
      ·rename_i l' T1 H2' h2;split at ht
       ·rename_i e;subst e;exact ih.2 _ _ _ _ _ _ _ hr h2 _ ⟨rfl,n,T1.env,H2',by omega,⟨T1,rfl,ht⟩,.refl⟩
       ·simp at ht
      ·rename_i h2;refine ih.2 _ _ _ _ _ _ _ hr ht _ ?_;cases x' with
       |goto l'=>exact absurd ht (h2 _ _ _)
       |_=>exact hQ
   ·simp at h
  ·rename_i h1;refine qcx (ih.1 _ _ _ _ _ h _ ⟨λl e=>?_,hQ⟩);subst e;exact h1 _ _ _ h
 |range x k ps a b=>exact⟨λE H x' E' H' h=>by simp[exC]at h,λl rest E H x E' H' hf=>by simp[zeq]at hf⟩
end
def AV.ids:AV->List Nat
 |.sl id _ _ _ _=>[id]
 |.ptr id _=>[id]
 |.agg cs=>idsL cs
 |.tup cs=>idsL cs
 |.clo _ cs=>idsL cs
 |_=>[]
 where idsL:List AV->List Nat
 | []=>[]
 |a::r=>a.ids++idsL r
def hasN:List Nat->Nat->Bool
 | [],_=>false
 |x::r,i=>match Nat.beq x i with
  |true=>true
  |false=>hasN r i
theorem zul:∀(l:List Nat) (i:Nat),hasN l i=true->i∈l:=by
 intro l i
 induction l with
 |nil=>intro h;simp[hasN]at h
 |cons x r ih=>
  intro h;simp only[hasN]at h;split at h
  ·rename_i e;have:=qZ e;subst this;simp
  ·exact qA _ (ih h)
def AV.inn(l:List Nat):AV->Bool
 |.sl id _ _ _ _=>hasN l id
 |.ptr id _=>hasN l id
 |.agg cs=>innL l cs
 |.tup cs=>innL l cs
 |.clo _ cs=>innL l cs
 |_=>true
 where innL (l:List Nat):List AV->Bool
 | []=>true
 |a::r=>a.inn l && innL l r
def pos:List Nat->Nat->Nat
 | [],_=>0
 |x::r,i=>if x=i then 0 else pos r i+1
theorem zum:∀(l:List Nat) (i:Nat),i∈l->∃h:pos l i<l.length,l[pos l i]=i:=by
 intro l i
 induction l with
 |nil=>intro h;simp at h
 |cons x r ih=>
  intro h;by_cases e:x=i
  ·refine⟨by simp[pos,e],?_⟩;simp[pos,e]
  ·have hr:i∈r:=by
    rcases List.mem_cons.1 h with h | h
    ·exact absurd h.symm e
    ·exact h
   obtain⟨h1,h2⟩:=ih hr;refine⟨by simp[pos,e];omega,?_⟩;simp[pos,e,h2]
theorem zxo{l:List Nat}{k i:Nat}(h:i∈l):zan l k (pos l i)=i:=by
 obtain⟨h1,h2⟩:=zum l i h;simp[zan,h1,h2]
theorem qsp(l:List Nat)(k:Nat)(a:AV):a.inn l=true->(a.ren (pos l)).ren (zan l k)=a/\(a.ren (pos l)).under l.length=true:=by
 induction a using AV.rec (motive_2:=λcs=>AV.inn.innL l cs=true->AV.ren.renL (zan l k) (AV.ren.renL (pos l) cs)=cs/\AV.under.underL l.length (AV.ren.renL (pos l) cs)=true)with
 |sl id off n sz c=>
  intro h;simp only[AV.inn]at h;have hm:=zul _ _ h;obtain⟨h1,h2⟩:=zum l id hm;simp[AV.ren,AV.under,zxo hm,h1]
 |ptr id off=>
  intro h;simp only[AV.inn]at h;have hm:=zul _ _ h;obtain⟨h1,h2⟩:=zum l id hm;simp[AV.ren,AV.under,zxo hm,h1]
 |agg cs ih=>intro h;simp only[AV.inn]at h;obtain⟨h1,h2⟩:=ih h;simp[AV.ren,AV.under,h1,h2]
 |tup cs ih=>intro h;simp only[AV.inn]at h;obtain⟨h1,h2⟩:=ih h;simp[AV.ren,AV.under,h1,h2]
 |clo f cs ih=>intro h;simp only[AV.inn]at h;obtain⟨h1,h2⟩:=ih h;simp[AV.ren,AV.under,h1,h2]
 |nil=>exact⟨rfl,rfl⟩
 |cons x r hx hr=>
  rename_i h;simp only[AV.inn.innL,qJ]at h;obtain⟨h1,h2⟩:=hx h.1;obtain⟨h3,h4⟩:=hr h.2;simp[AV.ren.renL,AV.under.underL,h1,h2,h3,h4]
 |_=>intro _;exact⟨rfl,rfl⟩
theorem zxp(l:List Nat)(k:Nat):∀(cs:List AV),AV.inn.innL l cs=true->(cs.map (AV.ren (pos l))).map (AV.ren (zan l k))=cs/\AV.under.underL l.length (cs.map (AV.ren (pos l)))=true:=by
 intro cs
 induction cs with
 |nil=>intro _;exact⟨rfl,rfl⟩
 |cons x r ih=>
  intro h;simp only[AV.inn.innL,qJ]at h;obtain⟨h1,h2⟩:=qsp l k x h.1;obtain⟨h3,h4⟩:=ih h.2;simp only[List.map_cons,AV.under.underL,h1,h2,h3,h4];simp
def qku:Nat->Heap->List Nat->List Nat->List Nat
 |0,_,done,_=>done
 |_+1,_,done,[]=>done
 |n+1,H,done,i::todo=>match hasN done i with
  |true=>qku n H done todo
  |false=>match getB H i with
   |some cs=>qku n H (done++[i]) (AV.ids.idsL cs++todo)
   |none=>qku n H done todo
def qdb:List Nat->Bool
 | []=>true
 |x::r=>!hasN r x && qdb r
theorem qai:∀(l:List Nat) (i:Nat),i∈l->hasN l i=true:=by
 intro l i
 induction l with
 |nil=>intro h;simp at h
 |cons x r ih=>
  intro h;simp only[hasN];split
  ·rfl
  ·rename_i e;rcases List.mem_cons.1 h with h | h
   ·subst h;simp at e
   ·exact ih h
theorem qaj:∀l:List Nat,qdb l=true->l.Nodup:=by
 intro l
 induction l with
 |nil=>intro _;exact .nil
 |cons x r ih=>
  intro h;simp only[qdb,qJ,Bool.not_eq_true']at h;refine List.nodup_cons.2 ⟨λhm=>?_,ih h.2⟩;rw[qai _ _ hm]at h;simp at h
abbrev FRun:=FuncId->List AV->Heap->Option (AV×Heap)
def subH(ids:List Nat)(H:Heap):Heap:=ids.map λi=>renB (pos ids) (getB H i)
def jew(ids:List Nat)(H:Heap):Bool:=
 qdb ids && ids.all λi=>match getB H i with
  |some cs=>AV.inn.innL ids cs
  |none=>false
def jaa(f0:FRun):ziw:=λf args H=>
 match AV.closed.closedL args with
 |true=>match f0 f args []with
  |some (v,[])=>if v.closed=true then some (v,[],[],0)else none
  |some (v,c::r)=>some (v.ren (zan [] H.length),effs (zan [] H.length) 0 (c::r),[],r.length+1)
  |none=>none
 |false=>
  let ids:=qku 200 H [] (AV.ids.idsL args)
  if AV.inn.innL ids args=true/\jew ids H=true then
   match f0 f (args.map (AV.ren (pos ids))) (subH ids H)with
   |some (v,H')=>some (v.ren (zan ids H.length),effs (zan ids H.length) 0 H',ids,H'.length-ids.length)
   |none=>none
  else none
theorem zun{H:Heap}{i:Nat}{cs:List AV}(h:getB H i=some cs):i<H.length/\H[i]?=some (some cs):=by
 unfold getB at h;split at h
 ·rename_i c e;simp at h;subst h;refine⟨?_,e⟩;rcases qC i H.length with h' | h'
  ·exact h'
  ·rw[qV h']at e;simp at e
 ·simp at h
theorem qak{P:Program}{Γ:Glob}{f0:FRun}(h0:∀f args H v H',f0 f args H=some (v,H')->Ret P Γ f args H v H'):zxn P Γ (jaa f0):=by
 intro f args H v e rd c h;unfold jaa at h;split at h
 ·rename_i ha;split at h
  ·rename_i v' hr;split at h
   ·rename_i hcl;simp only[qQ,Prod.mk.injEq]at h;obtain⟨rfl,rfl,rfl,rfl⟩:=h;exact CallR.pure (h0 _ _ _ _ _ hr) ha hcl
   ·simp at h
  ·rename_i v' b r hr;simp only[qQ,Prod.mk.injEq]at h;obtain⟨rfl,rfl,rfl,rfl⟩:=h;refine .base ?_;exact CallR0.mk (P:=P) (Γ:=Γ) (f:=f) (args:=args) (k:=H.length) [] args [] v' (b::r) (h0 _ _ _ _ _ hr) rfl .nil (by simp) (zay _ _ ha).symm (zbd _ _ ha) (by intro i c h;simp at h)
  ·simp at h
 ·rename_i ha;simp only at h;generalize hids:qku 200 H [] (AV.ids.idsL args)=ids at h;split at h
  ·rename_i hok;obtain⟨h1,h2⟩:=hok;simp only[jew,qJ,qE]at h2;obtain⟨h2,h3⟩:=h2;split at h
   ·rename_i v' H' hr;simp only[qQ,Prod.mk.injEq]at h;obtain⟨rfl,rfl,rfl,rfl⟩:=h
    have hblk:∀i∈ids,∃cs,getB H i=some cs/\AV.inn.innL ids cs=true:=by
     intro i hi;have:=h3 i hi;split at this
     ·rename_i cs e;exact⟨cs,e,this⟩
     ·simp at this
    obtain⟨g1,g2⟩:=zxp ids H.length args h1;have hl:(subH ids H).length=ids.length:=by simp[subH]
    have:=CallR0.mk (P:=P) (Γ:=Γ) (f:=f) (args:=args) (k:=H.length) (H:=H++List.replicate (H'.length-ids.length) none) ids (args.map (AV.ren (pos ids))) (subH ids H) v' H' (h0 _ _ _ _ _ hr) hl.symm (qaj _ h2)
     (λi hi=>by obtain⟨cs,e,_⟩:=hblk i hi;exact(zun e).1) g1.symm g2 (by
      intro i c hi;simp only[subH,qW,qX]at hi;obtain⟨j,hj,rfl⟩:=hi
      have hil:i<ids.length:=by
       rcases qC i ids.length with h' | h'
       ·exact h'
       ·rw[qV h']at hj;simp at hj
      have hjm:j∈ids:=qB hj;obtain⟨cs,e,hin⟩:=hblk j hjm;obtain⟨b1,b2⟩:=zxp ids H.length cs hin;refine⟨cs.map (AV.ren (pos ids)),by rw[e];rfl,b2,?_⟩
      have hn:zan ids H.length i=j:=by
       rw[List.getElem?_eq_getElem hil]at hj;simp at hj;simp[zan,hil,hj]
      rw[hn,List.getElem?_append_left (zun e).1,(zun e).2,e];simp only[renB,b1])
    rw[hl]at this;exact .base this
   ·simp at h
  ·simp at h
inductive RV where
 |t (n:Nat)
 |c (a:Nat) (ag:Bool) (sz:Nat)
def jex:Exit->Bool
 |.ret=>true
 |.normal=>true
 |_=>false
def jab(n0:Nat)(H:Heap):Bool:=match n0 with
 |0=>true
 |n+1=>Nat.ble (n+1) H.length && (H.take (n+1)).all λc=>match c with
  |some cs=>AV.under.underL (n+1) cs
  |none=>true
theorem qgp{n0:Nat}{H:Heap}(h:jab n0 H=true):n0<=H.length/\∀(i:Nat) (cs:List AV),i<n0->H[i]?=some (some cs)->AV.under.underL n0 cs=true:=by
 cases n0 with
 |zero=>exact⟨by omega,λi cs hi=>by omega⟩
 |succ n=>
  simp only[jab,qJ,qE]at h;refine⟨qU h.1,λi cs hi e=>?_⟩
  have hm:some cs∈H.take (n+1):=by
   apply qB (i:=i);rw[List.getElem?_take,if_pos hi];exact e
  exact h.2 _ hm
def finX(n0:Nat)(keep:Bool)(v:Option AV)(H:Heap):Option (AV×Heap):=
 match v with
 |none=>none
 |some v=>match keep with
  |true=>if n0<=H.length then some (v,H)else none
  |false=>match jab n0 H with
   |true=>match frzI n0 H 8 v with
    |some v'=>some (v',H.take n0)
    |none=>if v.under n0=true then some (v,H.take n0)else none
   |false=>none
theorem qgq{n0:Nat}{keep:Bool}{v:AV}{H:Heap}{v':AV}{H':Heap}(h:finX n0 keep (some v) H=some (v',H')):Fin n0 v H v' H'/\n0<=H'.length:=by
 simp only[finX]at h;split at h
 ·split at h
  ·rename_i hl;simp only[qQ,Prod.mk.injEq]at h;obtain⟨rfl,rfl⟩:=h;exact⟨.keep _ _,hl⟩
  ·simp at h
 ·split at h
  ·rename_i ho;obtain⟨hl,hH⟩:=qgp ho;split at h
   ·rename_i x hx;simp only[qQ,Prod.mk.injEq]at h;obtain⟨rfl,rfl⟩:=h;exact⟨.freeze 8 _ _ _ hx hH,by simp;omega⟩
   ·split at h
    ·rename_i hu;simp only[qQ,Prod.mk.injEq]at h;obtain⟨rfl,rfl⟩:=h;exact⟨.drop _ _ hu hH,by simp;omega⟩
    ·simp at h
  ·simp at h
def eqBZ:Bool->Bool->Bool
 |true,true=>true
 |false,false=>true
 |_,_=>false
theorem jac:∀{a b:Bool},eqBZ a b=true->a=b:=by intro a b;cases a<;>cases b<;>simp[eqBZ]
def eqIZ:Int->Int->Bool
 |.ofNat a,.ofNat b=>Nat.beq a b
 |.negSucc a,.negSucc b=>Nat.beq a b
 |_,_=>false
theorem jad{a b:Int}(h:eqIZ a b=true):a=b:=by
 cases a<;>cases b<;>simp only[eqIZ]at h
 ·rw[qZ h]
 ·exact absurd h (by simp)
 ·exact absurd h (by simp)
 ·rw[qZ h]
def eqOZ:Option Nat->Option Nat->Bool
 |none,none=>true
 |some a,some b=>Nat.beq a b
 |_,_=>false
theorem jae{a b:Option Nat}(h:eqOZ a b=true):a=b:=by
 cases a<;>cases b<;>simp only[eqOZ]at h
 ·rfl
 ·exact absurd h (by simp)
 ·exact absurd h (by simp)
 ·rw[qZ h]
def qkv:IntKind->Nat
 |.i8=>0 | .i16=>1 | .i32=>2 | .i64=>3 | .u8=>4 | .u16=>5 | .u32=>6 | .u64=>7
theorem qkw:∀{a b:IntKind},Nat.beq (qkv a) (qkv b)=true->a=b:=by intro a b;cases a<;>cases b<;>simp[qkv]
def eqVZ:AV->AV->Bool
 |.bool a,.bool b=>eqBZ a b
 |.int k a,.int k' b=>Nat.beq (qkv k) (qkv k') && eqIZ a b
 |.vec cs n c,.vec ds m d=>Nat.beq n m && (eqOZ c d && eqVLZ cs ds)
 |.agg cs,.agg ds=>eqVLZ cs ds
 |_,_=>false
 where eqVLZ:List AV->List AV->Bool
 | [],[]=>true
 |a::r,b::s=>eqVZ a b && eqVLZ r s
 |_,_=>false
theorem qkx(a:AV):∀b,eqVZ a b=true->a=b:=by
 induction a using AV.rec (motive_2:=λcs=>∀ds,eqVZ.eqVLZ cs ds=true->cs=ds)with
 |bool a=>intro b h;cases b<;>simp only[eqVZ,qK]at h;rw[jac h]
 |int k a=>
  intro b h;cases b<;>simp only[eqVZ,qJ,qK]at h;rw[qkw h.1,jad h.2]
 |vec cs n c ih=>
  intro b h;cases b<;>simp only[eqVZ,qJ,qK]at h;rw[qZ h.1,jae h.2.1,ih _ h.2.2]
 |agg cs ih=>
  intro b h;cases b<;>simp only[eqVZ,qK]at h;rw[ih _ h]
 |nil=>rename_i ds h;cases ds<;>simp only[eqVZ.eqVLZ,qK]at h;rfl
 |cons x r hx hr=>
  rename_i ds h;cases ds<;>simp only[eqVZ.eqVLZ,qJ,qK]at h;rw[hx _ h.1,hr _ h.2]
 |_=>intro b h;cases b<;>simp only[eqVZ,qK]at h
abbrev MemZ:=List (FuncId×List AV×AV)
def qgr(f:FuncId)(args:List AV):MemZ->Option AV
 | []=>none
 |(g,a,v)::r=>match Nat.beq g f with
  |true=>match eqVZ.eqVLZ a args with
   |true=>some v
   |false=>qgr f args r
  |false=>qgr f args r
def zpp(P:Program)(Γ:Glob)(m:MemZ):Prop:= ∀x∈m,Ret P Γ x.1 x.2.1 [] x.2.2 []
theorem qsq:∀cs ds,eqVZ.eqVLZ cs ds=true->cs=ds:=by
 intro cs ds h;have:=qkx (.agg cs) (.agg ds) h;injection this
theorem qsr{P:Program}{Γ:Glob}{f:FuncId}{args:List AV}{v:AV}:∀{m:MemZ},zpp P Γ m->qgr f args m=some v->Ret P Γ f args [] v []:=by
 intro m
 induction m with
 |nil=>intro _ h;simp[qgr]at h
 |cons x r ih=>
  obtain⟨g,a,w⟩:=x;intro hm h;simp only[qgr]at h;have hr:=ih (λx hx=>hm x (qA _ hx));split at h
  ·rename_i e1;split at h
   ·rename_i e2;have:=hm (g,a,w) (by simp);rw[<-qZ e1,<-qsq _ _ e2,<-Option.some.inj h];exact this
   ·exact hr h
  ·exact hr h
section
variable(P:Program)(Γ:Glob)(ok keep:FuncId->Bool)(kn:FuncId->List AV->Heap->Option (AV×Heap))(m:MemZ)(lf:Nat)
noncomputable def runP(call:ziw)(f:FuncId)(args:List AV)(H:Heap):Option (AV×Heap):=
 match P.funcs[f]? with
 |none=>none
 |some fn=>match fn.body.bind (zdo P Γ fn.ntmps)with
  |none=>none
  |some c=>match Nat.ble args.length fn.ntmps with
   |false=>none
   |true=>match exC ok call lf H.length c none (ET.ofL args 0 .lf) H with
    |none=>none
    |some (x,E',H')=>match jex x with
     |false=>none
     |true=>finX H.length (keep f) (resA P fn.results.toList E'.env H') H'
noncomputable def jey(f:FuncId)(args:List AV)(H:Heap):Option AV:=match H with
 | []=>qgr f args m
 |_::_=>none
noncomputable def exG:Nat->FRun
 |0=>λ_ _ _=>none
 |n+1=>λf args H=>match jey m f args H with
  |some v=>some (v,[])
  |none=>match kn f args H with
   |some r=>some r
   |none=>runP P Γ ok keep lf (jaa (exG n)) f args H
end
variable{P:Program}{Γ:Glob}{ok keep:FuncId->Bool}{kn:FuncId->List AV->Heap->Option (AV×Heap)}{m:MemZ}{lf:Nat}
theorem qgs(hm:P.follows .mixedOrders=true)(hok:∀f,ok f=true->okFn P f=true)(h4:P.funcs[4095]?=none){call:ziw}(hc:zxn P Γ call){f:FuncId}{args:List AV}{H:Heap}{v:AV}{H':Heap}
  (h:runP P Γ ok keep lf call f args H=some (v,H')):Ret P Γ f args H v H':=by
 unfold runP at h;cases hf:P.funcs[f]? with
 |none=>rw[hf]at h;simp at h
 |some fn=>
  rw[hf]at h;simp only at h;cases hb:fn.body with
  |none=>rw[hb]at h;simp at h
  |some code=>
   rw[hb]at h;simp only[Option.bind_some]at h;cases hcc:zdo P Γ fn.ntmps code with
   |none=>rw[hcc]at h;simp at h
   |some c=>
    rw[hcc]at h;simp only at h;split at h
    ·simp at h
    ·rename_i hl;split at h
     ·simp at h
     ·rename_i x E1 H1 hx;split at h
      ·simp at h
      ·rename_i he;cases hr:resA P fn.results.toList E1.env H1 with
       |none=>rw[hr]at h;simp[finX]at h
       |some w=>
        rw[hr]at h;obtain⟨hF,hlen⟩:=qgq h;refine zph hf hb hcc (qU hl) hlen (λe=>by rw[e,h4]at hf;simp at hf) ?_;rw[<-qsn];refine(qkt hok hc hm c).1 _ _ _ _ _ hx _ ⟨?_,w,hr,hF⟩;cases x<;>simp[jex]at he<;>simp
theorem qky(hm:P.follows .mixedOrders=true)(hok:∀f,ok f=true->okFn P f=true)(h4:P.funcs[4095]?=none)(hk:∀f args H v H',kn f args H=some (v,H')->Ret P Γ f args H v H')(hM:zpp P Γ m):
  ∀n f args H v H',exG P Γ ok keep kn m lf n f args H=some (v,H')->Ret P Γ f args H v H':=by
 intro n
 induction n with
 |zero=>intro f args H v H' h;simp[exG]at h
 |succ n ih=>
  intro f args H v H' h;simp only[exG]at h;split at h
  ·rename_i w hw;simp only[qQ,Prod.mk.injEq]at h;obtain⟨rfl,rfl⟩:=h;unfold jey at hw;split at hw
   ·exact qsr hM hw
   ·simp at hw
  ·split at h
   ·rename_i r hr;rw[h]at hr;exact hk _ _ _ _ _ hr
   ·exact qgs hm hok h4 (qak ih) h
def AV.wk:AV->AV
 |.vec cs n _=> .vec (wkL cs) n none
 |.agg cs=> .agg (wkL cs)
 |.tup cs=> .tup (wkL cs)
 |a=>a
 where wkL:List AV->List AV
 | []=>[]
 |a::r=>a.wk::wkL r
theorem zmx(l:List AV):AV.wk.wkL l=l.map AV.wk:=by
 induction l with
 |nil=>rfl
 |cons a r ih=>rw[AV.wk.wkL,ih,List.map_cons]
theorem IRep.wk{w:World}{M:Nat->Prop}{a:AV}{v:Value}(h:IRep w M a v):IRep w M a.wk v:=by
 induction h with
 |bool b=>exact .bool b
 |int k n=>exact .int k n
 |str s=>exact .str s
 |anyb b=>exact .anyb b
 |junk v=>exact .junk v
 |nil p c hc=>exact .nil p none (by intro k h;simp at h)
 |vec cs n c b off cap vs hM hcell hrep hn hc ih=>
  rw[AV.wk,zmx];refine .vec _ n none b off cap vs (λhne=>hM (λe=>hne (by rw[e];rfl))) (λj hj=>hcell j (by simpa using hj)) (λj a ha=>?_) hn (by intro k h;simp at h);rw[qW,qX]at ha;obtain⟨a0,h1,rfl⟩:=ha;exact ih j a0 h1
 |iptr cs p b off vs hM hcell hrep ih=>exact .iptr cs p b off vs hM hcell hrep
 |agg cs vs hl hrep ih=>
  rw[AV.wk,zmx];refine .agg _ vs (by simpa using hl) (λj a v ha hv=>?_);rw[qW,qX]at ha;obtain⟨a0,h1,rfl⟩:=ha;exact ih j a0 v h1 hv
 |tup cs vs hl hrep ih=>
  rw[AV.wk,zmx];refine .tup _ vs (by simpa using hl) (λj a v ha hv=>?_);rw[qW,qX]at ha;obtain⟨a0,h1,rfl⟩:=ha;exact ih j a0 v h1 hv
 |clo f cs vs hf hl hrep ih=>exact .clo f cs vs hf hl hrep
theorem Rep.wk{w:World}{M:Nat->Prop}{ρ:Nat->RS}{a:AV}{v:Value}(h:Rep w M ρ a v):Rep w M ρ a.wk v:=by
 induction h with
 |imm a v h=>exact .imm _ _ h.wk
 |agg cs vs hl hrep ih=>
  rw[AV.wk,zmx];refine .agg _ vs (by simpa using hl) (λj a v ha hv=>?_);rw[qW,qX]at ha;obtain⟨a0,h1,rfl⟩:=ha;exact ih j a0 v h1 hv
 |tup cs vs hl hrep ih=>
  rw[AV.wk,zmx];refine .tup _ vs (by simpa using hl) (λj a v ha hv=>?_);rw[qW,qX]at ha;obtain⟨a0,h1,rfl⟩:=ha;exact ih j a0 v h1 hv
 |slDead id off n sz c b cap h hn hc=>exact .slDead id off n sz c b cap h hn hc
 |slAt id off n sz c b cap el m h hs hn hc hm=>exact .slAt id off n sz c b cap el m h hs hn hc hm
 |ptrDead id off b h=>exact .ptrDead id off b h
 |ptrAt id off b h hs=>exact .ptrAt id off b h hs
 |clo f cs vs hf hl hrep ih=>exact .clo f cs vs hf hl hrep
section
variable{P:Program}{Γ:Glob}
theorem jez{f:FuncId}{args:List AV}{H:Heap}{v:AV}{H':Heap}(h:Ret P Γ f args H v H'):Ret P Γ f args H v.wk H':=by
 obtain⟨h1,h2⟩:=h;refine⟨h1,λw F ρ vs ho hs hr=>(h2 w F ρ vs ho hs hr).mono (λe w' ⟨u,ρ',he,ha,hrep⟩=>⟨u,ρ',he,ha,hrep.wk⟩)⟩
theorem zxq{f:FuncId}{fn:Func}{code:Code}{c:CC}{args:List AV}{H:Heap}{v:AV}{Hout:Heap}(hf:P.funcs[f]?=some fn)(hb:fn.body=some code)
  (hc:zdo P Γ fn.ntmps code=some c) (hn:args.length<=fn.ntmps) (hlen:H.length<=Hout.length) (hne:f≠4095)
  (h:W P Γ H.length fn.ntmps c (zkj args) H (λx E' H'=>(x= .ret\/x= .normal)/\∃v' v'',resA P fn.results.toList E' H'=some v'/\Fin H.length v' H' v'' Hout/\v''.wk=v)):Ret P Γ f args H v Hout:=by
 refine⟨hlen,?_⟩;intro w F ρ vs ho hsz hrep;refine⟨hne,(callsIn_wide (n:=0)).1 (callsIn_of_wp_marks hf hb trivial ?_)⟩;let C:Ctx:={ F:=F,w0:=w,ρ0:=ρ,n0:=H.length,nt:=fn.ntmps }
 have hs:Sim Γ C ρ (zkj args) H { tmps:=vs++Array.replicate (fn.ntmps-vs.size) undef,defers:=[] } w:=by
  refine⟨ho,λt=>?_,⟨[],rfl,List.nodup_nil,by simp⟩,by show(vs++Array.replicate (fn.ntmps-vs.size) undef).size=fn.ntmps;simp;omega,Kept.refl _ w,λ_ _=> .inl rfl,λi b hi=> .inl ⟨i,hi⟩,Nat.le_refl _⟩;simp only[zkj];rcases qC t args.length with hl | hl
  ·have h1:args[t]?=some args[t]:=by simp[hl]
   have h2:t<vs.size:=by omega
   have:=hrep t args[t] vs[t] h1 (by simp[h2]);simp only[qY,h1,Option.getD_some];rw[Array.getD_eq_getD_getElem?,Array.getElem?_append_left h2];simpa[h2]using this
  ·simp only[qY,qV hl,qD];exact .imm _ _ (.junk _)
 refine wpIn_mono (h code hc C ρ _ w rfl rfl (.inl rfl) hs) ?_;rintro x a' w' ⟨E',H',ρ1,⟨hx,v',v'',hres,hfin,hwk⟩,hs'⟩
 have key:∀(ms:List Nat) (a':Act) (w':World),Sim Γ C ρ1 E' H' a' w'->a'.defers=ms.map znl->
   LeavesInM Fence.wide 0 P fn a'.tmps (λe w'=>∃u ρ',e= .returned u/\After Γ F H.length ρ w ρ' w' Hout (zgz H.length (Hout.length-H.length))/\Rep w' (Mu F ρ') ρ' v u) a'.defers .returning w':=by
  intro ms
  induction ms with
  |cons D ms ih=>
   intro a' w' hs' hd;obtain⟨h1,h2⟩:=hs'.take hd;have:=ih _ _ h2 rfl;rw[hd];exact⟨by simp,.inl ⟨D,_,rfl,run_takeDeferred h1,this⟩⟩
  |nil=>
   intro a' w' hs' hd;rw[hd]
   show LeavesIn _ _ _ _ _ _ [] _ _
   have post:∃u,(results fn a'.tmps).run P w'= .ok u w'/\Rep w' (Mu F ρ1) ρ1 v' u:=by
    unfold resA at hres;cases hm:fn.results.toList.mapM (zeh P E' H')with
    |none=>simp[hm]at hres
    |some l=>
     obtain⟨us,h1,h2⟩:=zpg (P:=P) hs' _ l hm
     have h1':(fn.results.mapM (resF a'.tmps)).run P w'= .ok us.toArray w':=by
      rw[Array.mapM_eq_mapM_toList,Sem.run_map,h1];rfl
     rw[hm]at hres;simp only[zsg,Sem.run_bind,h1',Result.andThen_ok,Sem.run_pure];by_cases h1l:us.length=1
     ·obtain⟨u,rfl⟩:=List.length_eq_one_iff.1 h1l;obtain⟨y,rfl⟩:=List.length_eq_one_iff.1 (by rw[<-h2.1];rfl:l.length=1);simp at hres;subst hres;exact⟨u,by simp,h2.2 0 y u rfl rfl⟩
     ·refine⟨.tuple us.toArray,by simp[h1l],?_⟩
      have:v'= .tup l:=by
       match l,hres,h2.1 with
       | [],hres,_=>simpa using hres.symm
       | [y],_,hh=>simp at hh;exact absurd hh h1l
       |y::z::r,hres,_=>simpa using hres.symm
      subst this;exact .tup l us.toArray (by simpa using h2.1) (λj a v ha hv=>h2.2 j a v ha (by simpa using hv))
   obtain⟨u,hu1,hu2⟩:=post;obtain⟨ρ',g1,g2⟩:=hs'.fin (H:=H) ho rfl hu2 hfin;exact⟨u,hu1,u,ρ',rfl,g1,hwk ▸ g2.wk⟩
 obtain⟨ms,hms,_⟩:=hs'.defers;rcases hx with rfl | rfl
 ·exact key ms a' w' hs' hms
 ·exact key ms a' w' hs' hms
theorem jaf{f:FuncId}{fn:Func}{c:CC}{args:List AV}{H:Heap}{v:AV}{Hout:Heap}(hm:P.follows .mixedOrders=true)(hf:P.funcs[f]?=some fn)(hc:fn.body.bind (zdo P Γ fn.ntmps)=some c)(rs:List ResultVar)(nt:Nat)
  (hrs:fn.results.toList=rs) (hnt:fn.ntmps=nt) (hn:args.length<=nt) (hlen:H.length<=Hout.length)
  (h:wpC P Γ H.length nt c (zkj args) H (λx E' H'=>(x= .ret\/x= .normal)/\∃v' v'',resA P rs E' H'=some v'/\Fin H.length v' H' v'' Hout/\v''.wk=v)) (hne:f≠4095:=by decide):Ret P Γ f args H v Hout:=by
 subst hrs hnt;cases hb:fn.body with
 |none=>rw[hb]at hc;simp at hc
 |some code=>
  rw[hb]at hc;exact zxq hf hb hc hn hlen hne (zpj hm h)
end
open Go.ChangeShapes Go.WideShapes
theorem zyz{P:Program}{Γ:Glob}{f:FuncId}{args:List AV}{v:AV}{vs:Array Value}{w:World}(h:Ret P Γ f args [] v [])(hne:f≠4095)(hg:∀g cs,(g,cs)∈Γ.globs->IRep w (λ_=>False) (.iptr cs 0) (.pointer (some ⟨g,0,none⟩)))
  (hs:vs.size=args.length) (ha:∀(j:Nat) (a:AV) (u:Value),args[j]?=some a->vs[j]?=some u->IRep w (λ_=>False) a u):
  Calls P f vs w λe w'=>∃u,e= .returned u/\Kept (λ_=>False) w w'/\IRep w' (λ_=>False) v u:=by
 have hmu:∀b,¬Mu (λ_=>False) (λ_=>RS.unborn) b:=by
  rintro b (h | ⟨i,h⟩)
  ·exact h
  ·cases h
 have hMu:Mu (λ_=>False) (λ_=>RS.unborn)=λ_=>False:=funext λb=>propext ⟨λh=>hmu b h,False.elim⟩
 have ho:HOK Γ w (λ_=>False) (λ_=>RS.unborn) []:=by
  constructor
  ·intro i j b h;cases h
  ·intro i b h;cases h
  ·intro b h;exact False.elim h
  ·intro _ _;rfl
  ·intro i cs h;simp at h
  ·intro i b h;cases h
  ·intro g cs hgc;rw[hMu];exact hg g cs hgc
 have hX:=h.2 w (λ_=>False) (λ_=> .unborn) vs ho hs (λj a u h1 h2=> .imm _ _ (by rw[hMu];exact ha j a u h1 h2));refine hX.2.mono ?_;rintro e w' ⟨u,ρ',rfl,hA,hr⟩;have hu:∀i,ρ' i= .unborn:=λi=>hA.hok.unborn i (Nat.zero_le _)
 refine⟨u,rfl,hA.kept.mono (λb _ ⟨i,hi⟩=>by cases hi),?_⟩;exact(hr.unbornI hu).weaken (λb _ h=>False.elim h)
theorem Kept.keptBut{w w':World}(h:Kept (λ_=>False) w w')(may:MemPlace->Prop):w.keptBut w' may:=by
 refine⟨h.rest.1,h.rest.2,λi hi=>?_⟩;have e:=h.same i hi (λx=>x);rw[e];cases w.heap[i]? with
 |none=>rfl
 |some o=>cases o<;>first | exact⟨rfl,rfl,rfl,λ_ _=>rfl⟩ | exact .inr ⟨rfl,rfl⟩ | rfl
theorem qwj{H:Type}{enc:TypeId×Value->H}{P:Program}{f:Func}{s:ChangeSpec}{apart fresh handsOn again:Bool}{W W':World}{args:Array Value}{v:Value}{ds gs:List (DataW H)}{before pa pv:List MemPlace}
  (hW:DataW.Whole enc P f.params.toList s.vars apart W args.toList ds gs before)
  (hres:∀(b:Nat) (sp:Nat->Bool) (hd:Bool),DataW.TrodAll enc P W' b sp hd f.resultTypes.toList (v.resultList f.resultTypes.size) (s.fn H (ds++gs)).results [])
  (hargs:∀sp:Nat->Bool,(∀p∈before,sp p.block=true)->DataW.TrodAll enc P W' 0 sp true f.params.toList args.toList (s.fn H (ds++gs)).args pa)
  (hvars:∀sp:Nat->Bool,(∀p∈before,sp p.block=true)->DataW.TrodVars enc P W' sp s.vars (s.fn H (ds++gs)).vars pv)
  (hps:before=pa++pv) (hk:Kept (λ_=>False) W W')
  (hok:∀(j:Nat) (t:TypeId) (r:Value),f.resultTypes[j]?=some t->(v.resultList f.resultTypes.size)[j]?=some r->Value.okWide P W' .any 0 t r):
  s.post enc P f apart fresh handsOn again W args v W':=by
 have hlt:=hW.lt;have hold:∀p∈before,(λb=>decide (b<W.heap.size)) p.block=true:=λp hp=>by simpa using hlt p hp
 refine⟨ds,gs,before,[],pa,pv,hW,hres _ _ _,hargs _ hold,hvars _ hold,World.keptBut_mono (λp hp=>⟨hp,?_⟩) (hk.keptBut (· ∈ before)),λ_=>?_⟩
 ·rw[hps,List.mem_append]at hp;exact Or.inr hp
 ·obtain⟨_,_,_,_,_,hz,hn⟩:=hW;refine⟨hok,_,_,([]++pa)++pv,⟨[]++pa,pv,trodAll_append (hargs _ (λ_ _=>rfl)) (hres _ _ _),hvars _ (λ_ _=>rfl),rfl,?_,?_⟩,?_⟩
  ·intro b off hp;have hp':=hp;simp only[List.nil_append,<-hps]at hp';rw[hk.frozen b off (by simpa[MemPlace.block]using hlt _ hp')];exact hz b off hp'
  ·intro ha;have:=hn ha;rw[hps]at this;simpa using this
  ·intro p hp _;rw[hps];simpa using hp
