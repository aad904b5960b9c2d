/- A part of the proof. -/
import Derived.Test.YtpflahgcdgdkjaaGreatDoorAL25
set_option linter.all false
namespace Go.AL
open Option.some renaming injEq -> qQ
open Go
inductive BT(α:Type) where
 |lf
 |nd (v:α) (l r:BT α)
section
variable{α:Type}
def BT.get(d:α):BT α->Nat->α
 |.lf,_=>d
 |.nd v l r,n=>match n with
  |0=>v
  |n+1=>match n%2 with
   |0=>l.get d (n/2)
   |_+1=>r.get d (n/2)
def BT.one(d:α)(x:α):Nat->Nat->BT α
 |0,_=> .lf
 |f+1,n=>match n with
  |0=> .nd x .lf .lf
  |n+1=>match n%2 with
   |0=> .nd d (one d x f (n/2)) .lf
   |_+1=> .nd d .lf (one d x f (n/2))
def BT.set(d:α)(x:α):BT α->Nat->BT α
 |.lf,n=>BT.one d x (n+1) n
 |.nd v l r,n=>match n with
  |0=> .nd x l r
  |n+1=>match n%2 with
   |0=> .nd v (l.set d x (n/2)) r
   |_+1=> .nd v l (r.set d x (n/2))
theorem BT.get_one(d x:α):∀(f n m:Nat),n<f->(BT.one d x f n).get d m=if m=n then x else d:=by
 intro f
 induction f with
 |zero=>intro n m h;omega
 |succ f ih=>
  intro n m h;cases n with
  |zero=>cases m with
   |zero=>simp[BT.one,BT.get]
   |succ m=>simp only[BT.one,BT.get];split<;>simp[BT.get]
  |succ n=>
   cases m with
   |zero=>simp only[BT.one];split<;>simp[BT.get]
   |succ m=>
    simp only[BT.one];split
    ·rename_i h1;simp only[BT.get];split
     ·rename_i h2;rw[ih _ _ (by omega)];congr 1;apply propext;omega
     ·rename_i h2;rw[if_neg (by omega)]
    ·rename_i k h1;simp only[BT.get];split
     ·rename_i h2;rw[if_neg (by omega)]
     ·rename_i h2;rw[ih _ _ (by omega)];congr 1;apply propext;omega
theorem BT.get_set(d x:α):∀(t:BT α) (n m:Nat),(t.set d x n).get d m=if m=n then x else t.get d m:=by
 intro t
 induction t with
 |lf=>intro n m;simp only[BT.set];rw[BT.get_one _ _ _ _ _ (by omega)];simp[BT.get]
 |nd v l r ihl ihr=>
  intro n m;cases n with
  |zero=>cases m with
   |zero=>simp[BT.set,BT.get]
   |succ m=>simp[BT.set,BT.get]
  |succ n=>
   cases m with
   |zero=>simp only[BT.set];split<;>simp[BT.get]
   |succ m=>
    simp only[BT.set];split
    ·rename_i h1;simp only[BT.get];split
     ·rename_i h2;rw[ihl];congr 1;apply propext;omega
     ·rename_i h2;rw[if_neg (by omega)]
    ·rename_i k h1;simp only[BT.get];split
     ·rename_i h2;rw[if_neg (by omega)]
     ·rename_i h2;rw[ihr];congr 1;apply propext;omega
def BT.all(p:Nat->α->Prop):BT α->Prop
 |.lf=>True
 |.nd v l r=>p 0 v/\l.all (λn=>p (2*n+1))/\r.all (λn=>p (2*n+2))
end
abbrev ET:=BT AV
def BT.env(E:ET):Env:=λn=>E.get .junk n
def ET.setO(E:ET):Option Nat->AV->ET
 |none,_=>E
 |some d,v=>E.set .junk v d
theorem qqt(E:ET)(d:Option Nat)(v:AV):(ET.setO E d v).env=updO E.env d v:=by
 cases d with
 |none=>rfl
 |some d=>funext t;simp only[ET.setO,BT.env,BT.get_set,updO,upd]
def ET.ofL:List AV->Nat->ET->ET
 | [],_,E=>E
 |a::r,i,E=>ofL r (i+1) (E.set .junk a i)
theorem qxn:∀(l:List AV) (i:Nat) (E:ET) (t:Nat),(ET.ofL l i E).env t=if i<=t/\t<i+l.length then l.getD (t-i) .junk else E.env t:=by
 intro l
 induction l with
 |nil=>intro i E t;simp only[ET.ofL,List.length_nil,Nat.add_zero];rw[if_neg (by omega)]
 |cons a r ih=>
  intro i E t;simp only[ET.ofL,ih,List.length_cons];by_cases h:t=i
  ·subst h;rw[if_neg (by omega),if_pos (by omega)];simp[BT.env,BT.get_set]
  ·by_cases h2:i+1<=t/\t<i+1+r.length
   ·rw[if_pos h2,if_pos (by omega)];obtain⟨k,hk⟩:∃k,t-i=k+1:=⟨t-i-1,by omega⟩
    rw[hk,List.getD_cons_succ];congr 1;omega
   ·rw[if_neg h2,if_neg (by omega)];simp[BT.env,BT.get_set,h]
theorem qqu(l:List AV):(ET.ofL l 0 .lf).env=zjc l:=by
 funext t;rw[qxn];simp only[zjc,Nat.zero_add,Nat.zero_le,true_and,Nat.sub_zero];split
 ·rfl
 ·rename_i h;simp only[List.getD_eq_getElem?_getD,List.getElem?_eq_none (Nat.le_of_not_lt h),Option.getD_none];rfl
abbrev CRes:=AV×Eff×List Nat×Nat
abbrev zhu:=FuncId->List AV->Heap->Option CRes
abbrev Out:=Option (Exit×ET×Heap)
def padH(H:Heap):Nat->Heap
 |0=>H
 |c+1=>H++List.replicate (c+1) none
theorem qxo(H:Heap)(c:Nat):padH H c=H++List.replicate c none:=by cases c<;>simp[padH]
def qbo(P:FuncId->Bool)(call:zhu)(n0:Nat)(k:CK)(E:ET)(H:Heap):Option CRes:=
 match k with
 |.call f args=>call f (args.map (val E.env)) H
 |.callc x args=>match val E.env x with
  |.clo f caps=>if okC P f=true then call (cloF f) (cloA f (args.map (val E.env)) caps) H else none
  |_=>none
 |k=>match evK n0 H.length k (val E.env) H with
  |some (v,e,rd)=>some (v,e,rd,cntK k)
  |none=>none
def qxp{β:Type}(v:AV)(x:β):β:=match v with
 |.int _ n=>match n with
  |.ofNat m=>match m with
   |0=>x
   |_+1=>x
  |.negSucc m=>match m with
   |0=>x
   |_+1=>x
 |_=>x
theorem qqv{β:Type}(v:AV)(x:β):qxp v x=x:=by
 unfold qxp;split
 ·split
  ·split<;>rfl
  ·split<;>rfl
 ·rfl
def qus(P:FuncId->Bool)(call:zhu)(n0:Nat)(o:COp)(E:ET)(H:Heap):Option CRes:=
 match o.g with
 |none=>qbo P call n0 o.k E H
 |some (d,want)=>match E.get .junk d with
  |.bool b=>if b=want then qbo P call n0 o.k E H else some (.junk,[],[],0)
  |_=>none
def runR(P:FuncId->Bool)(call:zhu)(n0:Nat):List COp->ET->Heap->Option (ET×Heap×List FP)
 | [],E,H=>some (E,H,[])
 |o::os,E,H=>match qus P call n0 o E H with
  |some (v,e,rd,c)=>qxp v (match runR P call n0 os (ET.setO E o.dst v) (zad e (padH H c))with
   |some (E',H',l)=>some (E',H',(rd,keys e)::l)
   |none=>none)
  |none=>none
def iter(f:ET->Heap->Out):Nat->ET->Heap->Out
 |0,_,_=>none
 |n+1,E,H=>match f E H with
  |some (.normal,E',H')=>iter f n E' H'
  |r=>r
def qjo(f:ET->Heap->Out)(l:Nat):Nat->ET->Heap->Out
 |0,_,_=>none
 |n+1,E,H=>match f E H with
  |some (.goto l',E',H')=>if l'=l then qjo f l n E' H' else none
  |r=>r
def hasL:CC->Nat->Bool
 |.seq a b,l=>hasL a l || hasL b l
 |.label l',l=>l' == l
 |_,_=>false
theorem zop:∀(c:CC) (l:Nat),hasL c l=(zee c l).isSome:=by
 intro c l
 induction c with
 |seq a b iha ihb=>
  simp only[hasL,zee,iha,ihb];cases zee a l<;>simp
 |label l'=>simp only[hasL,zee];split<;>simp_all
 |_=>rfl
def exC(P:FuncId->Bool)(call:zhu)(lf n0:Nat):CC->Option Nat->ET->Heap->Out
 |.skip,none,E,H=>some (.normal,E,H)
 |.ret,none,E,H=>some (.ret,E,H)
 |.exit i,none,E,H=>some (.exit i,E,H)
 |.goto l,none,E,H=>some (.goto l,E,H)
 |.label _,_,E,H=>some (.normal,E,H)
 |.seq a b,none,E,H=>match exC P call lf n0 a none E H with
  |some (.normal,E',H')=>exC P call lf n0 b none E' H'
  |r=>r
 |.seq a b,some l,E,H=>match hasL a l with
  |true=>match exC P call lf n0 a (some l) E H with
   |some (.normal,E',H')=>exC P call lf n0 b none E' H'
   |r=>r
  |false=>exC P call lf n0 b (some l) E H
 |.cond x a b,none,E,H=>match val E.env x with
  |.bool true=>exC P call lf n0 a none E H
  |.bool false=>exC P call lf n0 b none E H
  |_=>none
 |.block id c,none,E,H=>match exC P call lf n0 c none E H with
  |some (.exit i,E',H')=>if i=id then some (.normal,E',H')else some (.exit i,E',H')
  |r=>r
 |.reg cs d,none,E,H=>match runR P call n0 cs E H with
  |some (E',H',fps)=>match d with
   |none=>some (.normal,E',H')
   |some l=>if dynB l fps=true then some (.normal,E',H')else none
  |none=>none
 |.loop c,none,E,H=>iter (exC P call lf n0 c none) lf E H
 |.scope c,none,E,H=>match exC P call lf n0 c none E H with
  |some (.goto l,E',H')=>if hasL c l=true then qjo (exC P call lf n0 c (some l)) l lf E' H' else none
  |r=>r
 |_,_,_,_=>none
section
variable{P:Program}{ok:FuncId->Bool}{Γ:Glob}{n0 nt:Nat}
def zvv(P:Program)(Γ:Glob)(call:zhu):Prop:=
 ∀f args H v e rd c,call f args H=some (v,e,rd,c)->CallR P Γ f args H.length (H++List.replicate c none) v e rd c
theorem zmm{call:zhu}(hok:∀f,ok f=true->okFn P f=true)(hc:zvv P Γ call){k:CK}{E:ET}{H:Heap}{v:AV}{e:Eff}{rd:List Nat}{c:Nat}(h:qbo ok call n0 k E H=some (v,e,rd,c)){K:It->Prop}(hK:K ⟨v,e,rd,H.length,c⟩):
  qeq P Γ n0 k E.env H K:=by
 cases k<;>simp only[qbo]at h
 case call f args=>exact⟨v,e,rd,c,hc _ _ _ _ _ _ _ h,hK⟩
 case callc x args=>
  split at h
  ·rename_i f caps hx;split at h
   ·rename_i ho;exact⟨f,caps,hx,zsj hok ho,v,e,rd,c,hc _ _ _ _ _ _ _ h,hK⟩
   ·simp at h
  ·simp at h
 all_goals
  split at h
  ·rename_i v' e' rd' hev;simp only[qQ,Prod.mk.injEq]at h;obtain⟨rfl,rfl,rfl,rfl⟩:=h;exact⟨_,_,_,hev,hK⟩
  ·simp at h
theorem zrb{call:zhu}(hok:∀f,ok f=true->okFn P f=true)(hc:zvv P Γ call):∀(os:List COp) (E:ET) (H:Heap) (E':ET) (H':Heap) (l:List FP),runR ok call n0 os E H=some (E',H',l)->∀Q:List FP->Env->Heap->Prop,Q l E'.env H'->
  regA P Γ n0 os E.env H Q:=by
 intro os
 induction os with
 |nil=>
  intro E H E' H' l h Q hQ;simp only[runR,qQ,Prod.mk.injEq]at h;obtain⟨rfl,rfl,rfl⟩:=h;exact hQ
 |cons o os ih=>
  intro E H E' H' l h Q hQ;simp only[runR]at h;split at h
  ·rename_i v e rd c hst;rw[qqv]at h;split at h
   ·rename_i E1 H1 l1 hr;simp only[qQ,Prod.mk.injEq]at h;obtain⟨rfl,rfl,rfl⟩:=h;have hrest:=ih _ _ _ _ _ hr (λl=>Q ((rd,keys e)::l)) hQ;rw[qqt,qxo]at hrest;simp only[regA,ztb];unfold qus at hst;split at hst
    ·rename_i hg;rw[hg];exact zmm hok hc hst hrest
    ·rename_i d want hg;rw[hg];split at hst
     ·rename_i b hb;refine⟨b,hb,λe1=>?_,λe1=>?_⟩
      ·rw[if_pos e1]at hst;exact zmm hok hc hst hrest
      ·rw[if_neg e1]at hst;simp only[qQ,Prod.mk.injEq]at hst;obtain⟨rfl,rfl,rfl,rfl⟩:=hst;exact hrest
     ·simp at hst
   ·simp at h
  ·simp at h
theorem qjp{call:zhu}{lf:Nat}(hok:∀f,ok f=true->okFn P f=true)(hc:zvv P Γ call)(hm:P.follows .mixedOrders=true):∀(c:CC),
  (∀E H x E' H',exC ok call lf n0 c none E H=some (x,E',H')->∀Q:Post,Q x E'.env H'->W P Γ n0 nt c E.env H Q)/\
  (∀l rest E H x E' H',zee c l=some rest->exC ok call lf n0 c (some l) E H=some (x,E',H')->∀Q:Post,Q x E'.env H'->W P Γ n0 nt rest E.env H Q):=by
 intro c
 induction c with
 |skip=>
  refine⟨λE H x E' H' h Q hQ=>?_,λl rest E H x E' H' hf=>by simp[zee]at hf⟩;simp only[exC,qQ,Prod.mk.injEq]at h;obtain⟨rfl,rfl,rfl⟩:=h;exact qhx hQ
 |ret=>
  refine⟨λE H x E' H' h Q hQ=>?_,λl rest E H x E' H' hf=>by simp[zee]at hf⟩;simp only[exC,qQ,Prod.mk.injEq]at h;obtain⟨rfl,rfl,rfl⟩:=h;exact jbx hQ
 |exit i=>
  refine⟨λE H x E' H' h Q hQ=>?_,λl rest E H x E' H' hf=>by simp[zee]at hf⟩;simp only[exC,qQ,Prod.mk.injEq]at h;obtain⟨rfl,rfl,rfl⟩:=h;exact qun hQ
 |goto i=>
  refine⟨λE H x E' H' h Q hQ=>?_,λl rest E H x E' H' hf=>by simp[zee]at hf⟩;simp only[exC,qQ,Prod.mk.injEq]at h;obtain⟨rfl,rfl,rfl⟩:=h;exact qup hQ
 |label i=>
  refine⟨λE H x E' H' h Q hQ=>?_,λl rest E H x E' H' hf h Q hQ=>?_⟩
  ·simp only[exC,qQ,Prod.mk.injEq]at h;obtain⟨rfl,rfl,rfl⟩:=h;exact qhy hQ
  ·simp only[exC,qQ,Prod.mk.injEq]at h;obtain⟨rfl,rfl,rfl⟩:=h;simp only[zee]at hf;split at hf
   ·simp at hf;subst hf;exact qhx hQ
   ·simp at hf
 |seq a b iha ihb=>
  refine⟨λE H x E' H' h Q hQ=>?_,λl rest E H x E' H' hf h Q hQ=>?_⟩
  ·simp only[exC]at h;split at h
   ·rename_i E1 H1 h1;exact zkf (iha.1 _ _ _ _ _ h1 _ (ihb.1 _ _ _ _ _ h Q hQ))
   ·rename_i h1;refine zkf (iha.1 _ _ _ _ _ h _ ?_);cases x with
    |normal=>exact absurd h (h1 _ _)
    |_=>exact hQ
  ·simp only[exC]at h;simp only[zee]at hf;split at h
   ·rename_i hl;rw[zop]at hl;obtain⟨r,hr⟩:=Option.isSome_iff_exists.1 hl;rw[hr]at hf;simp at hf;subst hf;split at h
    ·rename_i E1 H1 h1;exact zkf (iha.2 _ _ _ _ _ _ _ hr h1 _ (ihb.1 _ _ _ _ _ h Q hQ))
    ·rename_i h1;refine zkf (iha.2 _ _ _ _ _ _ _ hr h _ ?_);cases x with
     |normal=>exact absurd h (h1 _ _)
     |_=>exact hQ
   ·rename_i hl;rw[zop]at hl;have hn:zee a l=none:=by simpa using hl
    rw[hn]at hf;exact ihb.2 _ _ _ _ _ _ _ hf h Q hQ
 |cond x a b iha ihb=>
  refine⟨λE H x' E' H' h Q hQ=>?_,λl rest E H x E' H' hf=>by simp[zee]at hf⟩;simp only[exC]at h;split at h
  ·rename_i hv;exact qhz hv (λ_=>iha.1 _ _ _ _ _ h Q hQ) (λe=>by simp at e)
  ·rename_i hv;exact qhz hv (λe=>by simp at e) (λ_=>ihb.1 _ _ _ _ _ h Q hQ)
  ·simp at h
 |block id c ih=>
  refine⟨λE H x' E' H' h Q hQ=>?_,λl rest E H x E' H' hf=>by simp[zee]at hf⟩;simp only[exC]at h;split at h
  ·rename_i i E1 H1 h1;refine zoi (ih.1 _ _ _ _ _ h1 _ ?_);simp only[zmw];split at h
   ·rename_i e;simp only[qQ,Prod.mk.injEq]at h;obtain⟨rfl,rfl,rfl⟩:=h;rw[if_pos e];exact hQ
   ·rename_i e;simp only[qQ,Prod.mk.injEq]at h;obtain⟨rfl,rfl,rfl⟩:=h;rw[if_neg e];exact hQ
  ·rename_i h1;refine zoi (ih.1 _ _ _ _ _ h _ ?_);cases x' with
   |exit i=>exact absurd h (h1 _ _ _)
   |_=>exact hQ
 |reg cs d=>
  refine⟨λE H x' E' H' h Q hQ=>?_,λl rest E H x E' H' hf=>by simp[zee]at hf⟩;simp only[exC]at h;split at h
  ·rename_i E1 H1 fps hr;split at h
   ·simp only[qQ,Prod.mk.injEq]at h;obtain⟨rfl,rfl,rfl⟩:=h;exact qur hm (zrb hok hc _ _ _ _ _ _ hr _ hQ)
   ·rename_i l;split at h
    ·rename_i hd;simp only[qQ,Prod.mk.injEq]at h;obtain⟨rfl,rfl,rfl⟩:=h;exact quq hm (zrb hok hc _ _ _ _ _ _ hr _ ⟨hd,hQ⟩)
    ·simp at h
  ·simp at h
 |loop c ih=>
  refine⟨λE H x' E' H' h Q hQ=>?_,λl rest E H x E' H' hf=>by simp[zee]at hf⟩;simp only[exC]at h;refine zaf (λn E2 H2=>∃T:ET,E2=T.env/\iter (exC ok call lf n0 c none) n T H2=some (x',E',H')) ⟨E,rfl,h⟩ ?_;rintro n E2 H2 ⟨T,rfl,ht⟩;cases n with
  |zero=>simp[iter]at ht
  |succ n=>
   simp only[iter]at ht;split at ht
   ·rename_i T1 H1 h1;exact ih.1 _ _ _ _ _ h1 _ ⟨n,T1.env,H1,by omega,⟨T1,rfl,ht⟩,.refl⟩
   ·rename_i h1;refine ih.1 _ _ _ _ _ ht _ ?_;cases x' with
    |normal=>exact absurd ht (h1 _ _)
    |_=>exact hQ
 |scope c ih=>
  refine⟨λE H x' E' H' h Q hQ=>?_,λl rest E H x E' H' hf=>by simp[zee]at hf⟩;simp only[exC]at h;split at h
  ·rename_i l E1 H1 h1;split at h
   ·rename_i hl;rw[zop]at hl;obtain⟨r,hr⟩:=Option.isSome_iff_exists.1 hl;refine qjn l (λn E2 H2=>∃T:ET,E2=T.env/\qjo (exC ok call lf n0 c (some l)) l n T H2=some (x',E',H')) hr ?_ ?_
    ·exact ih.1 _ _ _ _ _ h1 _ ⟨rfl,lf,E1.env,H1,⟨E1,rfl,h⟩,.refl⟩
    ·rintro n E2 H2 ⟨T,rfl,ht⟩;cases n with
     |zero=>simp[qjo]at ht
     |succ n=>
      simp only[qjo]at ht;split at ht
      ·rename_i l' T1 H2' h2;split at ht
       ·rename_i e;subst e;exact ih.2 _ _ _ _ _ _ _ hr h2 _ ⟨rfl,n,T1.env,H2',by omega,⟨T1,rfl,ht⟩,.refl⟩
       ·simp at ht
      ·rename_i h2;refine ih.2 _ _ _ _ _ _ _ hr ht _ ?_;cases x' with
       |goto l'=>exact absurd ht (h2 _ _ _)
       |_=>exact hQ
   ·simp at h
  ·rename_i h1;refine qbn (ih.1 _ _ _ _ _ h _ ⟨λl e=>?_,hQ⟩);subst e;exact h1 _ _ _ h
 |range x k ps a b=>exact⟨λE H x' E' H' h=>by simp[exC]at h,λl rest E H x E' H' hf=>by simp[zee]at hf⟩
