/- A part of the proof. -/
import Derived.Test.YtpflahgcdgdkjaaGreatDoorAL15
set_option linter.all false
namespace Go.AL
open List renaming getElem?_append_right -> qQ, getElem?_append_left -> qX, length_map -> qJ
open Nat renaming lt_or_ge -> qZ
open Go
theorem quk{f:Nat}(h:f-65536=4095):f=69631:=by omega
theorem qen{ops:Array Oper}{a:Act}{o:Oper}{d:Nat}{want b:Bool}(hg:zjf ops o.guard=some (some (d,want)))(hb:a.tmps.getD d undef= .bool b):
  Region.wanted o (yielded ops a.tmps)=(b == want):=by
 cases hgu:o.guard with
 |none=>rw[hgu]at hg;simp[zjf]at hg
 |some p=>
  obtain⟨j,wt⟩:=p;rw[hgu]at hg;simp only[zjf]at hg;split at hg
  ·rename_i d' hd;simp at hg;obtain⟨rfl,rfl⟩:=hg
   have hlt:a.tmps[d']?=some (.bool b):=by
    rw[Array.getD_eq_getD_getElem?]at hb;cases h:a.tmps[d']? with
    |none=>rw[h]at hb;simp[undef]at hb
    |some x=>rw[h]at hb;simp at hb;rw[hb]
   simp only[Region.wanted,hgu,yielded,hd,Option.bind_some,hlt];cases b<;>cases wt<;>rfl
  ·simp at hg
theorem qhu{w:World}{M:Nat->Prop}{ρ:Nat->RS}:Rep w M ρ (.tup []) undef:= .imm _ _ (.tup [] #[] rfl (λj a v h=>by simp at h))
theorem qpd{w:World}{M:Nat->Prop}{ρ:Nat->RS}{v:Value}(h:Rep w M ρ (.tup []) v):v= .tuple #[]:=by
 obtain⟨vs,rfl,hl,_⟩:=zsm h;simp at hl;rw[hl]
theorem zyl{ops:Array Oper}{a:Act}{o:Oper}{d:Nat}{want:Bool}(hg:zjf ops o.guard=some (some (d,want)))(hb:a.tmps.getD d undef= .tuple #[]):
  Region.wanted o (yielded ops a.tmps)=false:=by
 cases hgu:o.guard with
 |none=>rw[hgu]at hg;simp[zjf]at hg
 |some p=>
  obtain⟨j,wt⟩:=p;rw[hgu]at hg;simp only[zjf]at hg;split at hg
  ·rename_i d' hd;simp at hg;obtain⟨rfl,rfl⟩:=hg;rw[Array.getD_eq_getD_getElem?]at hb;cases h:a.tmps[d']? with
   |none=>simp[Region.wanted,hgu,yielded,hd,h]
   |some x=>
    rw[h]at hb;simp at hb;subst hb;simp[Region.wanted,hgu,yielded,hd,h]
  ·simp at hg
theorem qpe{ops:Array Oper}{a:Act}{o:Oper}{d:Nat}{want b:Bool}{w:World}{M:Nat->Prop}{ρ:Nat->RS}{x:AV}(hg:zjf ops o.guard=some (some (d,want)))(hx:gdB x want=some b)(hr:Rep w M ρ x (a.tmps.getD d undef)):
  Region.wanted o (yielded ops a.tmps)=b:=by
 unfold gdB at hx;split at hx
 ·rename_i b' _;simp at hx;rw[qen hg (zej hr),hx]
 ·simp at hx;subst hx;exact zyl hg (qpd hr)
 ·simp at hx
theorem qeo{ops:Array Oper}{a:Act}{o:Oper}(hg:zjf ops o.guard=some none):Region.wanted o (yielded ops a.tmps)=true:=by
 cases hgu:o.guard with
 |none=>simp[Region.wanted,hgu]
 |some p=>
  obtain⟨j,wt⟩:=p;rw[hgu]at hg;simp only[zjf]at hg;split at hg<;>simp at hg
section
variable{P:Program}{Γ:Glob}{C:Ctx}{ρ:Nat->RS}{E:Env}{H:Heap}{a:Act}{w:World}{ops:Array Oper}{o:Oper}{co:COp}{it:It}{Q:Exit->Act->World->Prop}{K:Act->World->Prop}
def Then(Γ:Glob)(C:Ctx)(ρ:Nat->RS)(E:Env)(H:Heap)(a:Act)(co:COp)(it:It)(K:Act->World->Prop):Prop:=
 ∀(ρ':Nat->RS) (v':Value) (w':World),Sim Γ C ρ' (updO E co.dst it.v) (zad it.e H) (a.put co.dst v') w'->(∀j,ρ j= .unborn->j∉zge it.k it.c->ρ' j= .unborn)->K (a.put co.dst v') w'
theorem qhv(hs:Sim Γ C ρ E H a w)(hk:zeo P Γ o.op=some co.k)(hd:o.dst=co.dst)(hok:qoj C.nt co.dst=true)(hb:Body P Γ C.n0 co.k E H it)(h0:C.n0<=it.k)(hlen:it.k+it.c<=H.length)
  (hu:∀j,it.k<=j->j<it.k+it.c->ρ j= .unborn) (hK:Then Γ C ρ E H a co it K):o.wpIn (zek C.ro) 0 P a w K Q:=by
 have hnew:∀i∈zge it.k it.c,C.n0<=i:=by intro i hi;simp[zge]at hi;omega
 have hl:C.n0<=(zad it.e H).length:=by rw[zit];exact hs.len
 have hdef:∀c,o.op≠ .defer c:=by intro c e;rw[e]at hk;simp[zeo]at hk
 have callsX:∀(f:FuncId) (args:List AV) (vs:Array Value),CallR P Γ f args it.k H it.v it.e it.rd it.c->vs.size=args.length->
   (∀(j:Nat) (x:AV) (u:Value),args[j]?=some x->vs[j]?=some u->Rep w (Mu C.F ρ) ρ x u)->zoe P f vs w λen w'=>∃u,en= .returned u/\K (a.put o.dst u) w':=by
  intro f args vs hcr hsz hrep;refine(qel (n0:=C.n0) hs.hok hlen hu hcr hsz hrep).mono ?_;rintro e w' ⟨u,ρ',rfl,hA,hr⟩;refine⟨u,rfl,?_⟩;rw[hd];exact hK ρ' u w' (hs.step hA hnew hl hr hok) (λj hj hn=>hA.still j hj hn)
 have calls:∀(f:FuncId) (args:List AV) (vs:Array Value),f≠4095->CallR P Γ f args it.k H it.v it.e it.rd it.c->vs.size=args.length->
   (∀(j:Nat) (x:AV) (u:Value),args[j]?=some x->vs[j]?=some u->Rep w (Mu C.F ρ) ρ x u)->(execOp a.eval o).run P w= .ok (.enter f vs) w->o.wpIn (zek C.ro) 0 P a w K Q:=by
  intro f args vs hne hcr hsz hrep hrun;refine⟨λ_ _=>trivial,?_⟩;rw[Oper.semAt_eq _ _ _ hdef,hrun,Oper.uponIn_enter];refine⟨λh=>by simp[zek,Fence.wide]at h,?_⟩;rcases callsX f args vs hcr hsz hrep with⟨_,h⟩ | ⟨h,_⟩
  ·have h2:CallsIn Fence.wide 0 P f vs w (fun
     |.returned v,w''=>K (a.put o.dst v) w''
     |.panicked chain,w''=>Q (.panic chain) a w''
     |.outgrown,_=>LetsOut Q):=(callsIn_wide.2 h).mono (by rintro e w' ⟨u,rfl,h⟩;exact h)
   exact h2
  ·exact absurd h hne
 have plain:∀ck,co.k=ck->evK C.n0 it.k ck (val E) H=some (it.v,it.e,it.rd)->it.c=cntK ck->o.wpIn (zek C.ro) 0 P a w K Q:=by
  intro ck hck hev hc;obtain⟨x,v',w',ρ',h1,h2,h3,h4⟩:=qhr (P:=P) (o:=o) (a:=a) hs.hok hs.env (λh=>⟨by omega,hu it.k (Nat.le_refl _) (by omega)⟩) (hck ▸ hk) hev;rw[<-hc]at h3;have hK':=hK ρ' v' w' (hs.step h3 hnew hl h4 hok) (λj hj hn=>h3.still j hj hn);refine⟨λ_ _=>trivial,?_⟩;rw[Oper.semAt_eq _ _ _ hdef,h1];rcases h2 with rfl | ⟨rfl,rfl⟩
  ·rw[Oper.uponIn_value,hd];exact hK'
  ·rw[Oper.uponIn_skip,hd];exact hK'
 cases hck:co.k<;>rw[hck]at hb<;>simp only[Body]at hb<;>try (exact plain _ hck hb.1 hb.2)
 case call f args=>
  rw[hck]at hk;obtain⟨cl,hop,hcl,hof,hm⟩:=zyk hk;obtain⟨m1,m2⟩:=znc hs.hok hs.env hm;refine calls f _ (cl.args.map a.eval) hof.2 hb (by simpa using m1) (λj x u hx hu=>m2 j x u hx (by simpa using hu)) ?_;have hf:a.eval (.func f)= .func (.func f) #[] #[]:=rfl;simp[execOp,hop,resolve,hcl,hf,Deferred.ofValue,invoke,zsx hof.1]
 case callc x args=>
  rw[hck]at hk;obtain⟨cl,t,hop,hcl,rfl,hm⟩:=zvl hk;obtain⟨f,caps,h1,h2,h3⟩:=hb;obtain⟨m1,m2⟩:=znc hs.hok hs.env hm;have hx:=hs.env t;simp only[val]at h1;rw[h1]at hx;simp only[okC,Bool.and_eq_true,Bool.not_eq_true']at h2;obtain⟨⟨h2,h2'⟩,hne⟩:=h2;rw[zsi]at h2';have hne:f≠4095:=λe=>by rw[e]at hne;exact absurd hne (by decide)
  by_cases hyd:f=69631
  case pos=>
   subst hyd;obtain⟨id,rfl,hy⟩:=qwe hx;obtain⟨b,e1,_⟩:=quj hy;have e2:a.eval (.tmp t)= .func (.yield b) #[] #[]:=e1
   have hX:=callsX 4095 (.clo 131075 [.ptr id 0]::args.map (val E)) (#[.func (.yield b) #[] #[]]++cl.args.map a.eval) h3 (by simp at m1;simp[m1];omega) (λj x u hx hu=>by
    cases j with
    |zero=>
     rw[Array.getElem?_append_left (by simp)]at hu;simp only[List.getElem?_cons_zero,Option.some.injEq,List.getElem?_toArray]at hx hu;subst hx hu;rw[<-e1];exact hy
    |succ j=>
     rw[Array.getElem?_append_right (by simp)]at hu;exact m2 j x u (by simpa using hx) (by simpa using hu))
   rcases hX with⟨h,_⟩ | ⟨_,b',r,us,q1,q2,q3,q4⟩
   ·exact absurd rfl h
   have q5:=congrArg Array.toList q1;simp only[Array.toList_append,List.cons_append,List.nil_append,List.cons.injEq,Value.func.injEq,Fn.yield.injEq,and_true]at q5;obtain⟨rfl,q5⟩:=q5;have q6:cl.args.map a.eval=us:=Array.toList_inj.1 q5;refine⟨λ_ _=>trivial,?_⟩
   have hrun:(execOp a.eval o).run P w= .ok (.round b r.fn ((r.params.zip us).foldl (λtmps (t,a)=>tmps.setIfInBounds t a) r.tmps) r.assign r.body) w:=by
    rw[<-run_yield (P:=P) q2 q3];simp[execOp,hop,resolve,hcl,e2,Deferred.ofValue,invoke,q6]
   rw[Oper.semAt_eq _ _ _ hdef,hrun,Oper.uponIn_round];refine⟨λh=>by simp[zek,Fence.wide]at h,?_⟩
   have h2:RoundIn Fence.wide 0 P b r.fn ((r.params.zip us).foldl (λtmps (t,a)=>tmps.setIfInBounds t a) r.tmps) r.assign r.body w (fun
     |.returned v,w''=>K (a.put o.dst v) w''
     |.panicked chain,w''=>Q (.panic chain) a w''
     |.outgrown,_=>LetsOut Q):=q4.mono (by rintro e w' ⟨u,rfl,h⟩;exact h)
   exact h2
  have h2:zxy P (cloF f)=true:=by
   unfold okFn at h2;simp only[Bool.or_eq_true]at h2;rcases h2 with h2 | h2
   ·exfalso;have h4:=Nat.eq_of_beq_eq_true h2;unfold cloF at h4;split at h4
    ·exact hne h4
    ·exact hyd (quk h4)
   ·exact h2
  rcases qZ f 65536 with hf | hf
  case inr=>
   have hb1:Nat.blt f 65536=false:=qgw hf;simp only[cloF,cloA,hb1]at h2 h3;obtain⟨us,e1,hl1,hr1⟩:=qwc hx hf h2' hyd;have e2:a.eval (.tmp t)= .func (.func (f-65536)) us #[]:=e1;refine calls (f-65536) _ (us++cl.args.map a.eval) (λh=>hyd (quk h)) h3 (by simp at m1;simp[hl1,m1]) (λj x u hx hu=>?_) ?_
   ·simp only[qJ]at m1;rcases qZ j caps.length with hj | hj
    ·rw[qX (by simpa using hj)]at hx;rw[Array.getElem?_append_left (by omega)]at hu;exact hr1 j x u hx hu
    ·rw[qQ (by simpa using hj)]at hx;rw[Array.getElem?_append_right (by omega)]at hu;rw[hl1]at hu;exact m2 (j-caps.length) x u (by simpa using hx) (by simpa using hu)
   ·simp[execOp,hop,resolve,hcl,e2,Deferred.ofValue,invoke,zsx h2]
  have hb1:Nat.blt f 65536=true:=zsi.2 hf;simp only[cloF,cloA,hb1]at h2 h3;obtain⟨us,e1,hl1,hr1⟩:=qwb hx hf;have e2:a.eval (.tmp t)= .func (.func f) #[] us:=e1;refine calls f _ (cl.args.map a.eval++us) hne h3 (by simp at m1;simp[hl1,m1]) (λj x u hx hu=>?_) ?_
  ·simp only[qJ]at m1;rcases qZ j args.length with hj | hj
   ·rw[qX (by simpa using hj)]at hx;rw[Array.getElem?_append_left (by simp;simp at m1;omega)]at hu;exact m2 j x u hx (by simpa using hu)
   ·rw[qQ (by simpa using hj)]at hx;rw[Array.getElem?_append_right (by simp;simp at m1;omega)]at hu;refine hr1 (j-args.length) x u (by simpa using hx) ?_;have:(cl.args.map a.eval).size=args.length:=by simp at m1 ⊢;omega
    rw[this]at hu;exact hu
  ·simp[execOp,hop,resolve,hcl,e2,Deferred.ofValue,invoke,zsx h2]
theorem qul{i:Nat}(hi:ops[i]?=some o)(hs:Sim Γ C ρ E H a w)(hc:qgu P Γ C.nt ops o=some co)(hb:Stp P Γ C.n0 co E H it)(h0:C.n0<=it.k)(hlen:it.k+it.c<=H.length)
  (hu:∀j,it.k<=j->j<it.k+it.c->ρ j= .unborn) (hK:Then Γ C ρ E H a co it K):wpOpIn (zek C.ro) 0 P ops Q i K a w:=by
 unfold qgu at hc;split at hc
 ·rename_i g k hg hk;split at hc
  ·rename_i hok;simp at hc;subst hc;unfold wpOpIn;simp only[hi];unfold Stp at hb;simp only at hb;cases g with
   |none=>
    rw[qeo hg];simp only at hb;rw[if_pos rfl];exact qhv hs hk rfl hok hb h0 hlen hu hK
   |some p=>
    obtain⟨d,want⟩:=p;simp only at hb;obtain⟨b,hE,hb⟩:=hb;have hx:=hs.env d;rw[qpe hg hE hx];by_cases e:b=true
    ·rw[if_pos e]at hb;rw[if_pos e];exact qhv hs hk rfl hok hb h0 hlen hu hK
    ·rw[if_neg e]at hb;rw[if_neg e];obtain⟨h1,h2,h3,h4⟩:=hb;have hA:=zio C.n0 hs.hok
     have:=hK ρ undef w (by
      rw[h2];rcases h1 with h1 | h1
      ·rw[h1];exact hs.step hA (by simp) hs.len (.imm _ _ (.junk _)) hok
      ·rw[h1];exact hs.step hA (by simp) hs.len qhu hok) (λj hj _=>hj)
     exact⟨λ_ _=>trivial,this⟩
  ·simp at hc
 ·simp at hc
