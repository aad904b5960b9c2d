/- A part of the proof. -/
import Derived.Test.YtpflahgcdgdkjaaGreatDoorAL13
set_option linter.all false
namespace Go.AL
open Option renaming bind_eq_some_iff -> qQ
open List renaming map_congr_left -> qX, mem_cons -> qZ, map_cons -> qJ
open Go
structure It where
 v:AV
 e:Eff
 rd:List Nat
 k:Nat
 c:Nat
def Body(P:Program)(Γ:Glob)(n0:Nat)(ck:CK)(E:Env)(H:Heap)(it:It):Prop:=
 match ck with
 |.call f args=>CallR P Γ f (args.map (val E)) it.k H it.v it.e it.rd it.c
 |.callc x args=>∃f caps,val E x= .clo f caps/\okC (okFn P) f=true/\CallR P Γ (cloF f) (cloA f (args.map (val E)) caps) it.k H it.v it.e it.rd it.c
 |ck=>evK n0 it.k ck (val E) H=some (it.v,it.e,it.rd)/\it.c=cntK ck
def gdB:AV->Bool->Option Bool
 |.bool b,want=>some (b == want)
 |.tup [],_=>some false
 |_,_=>none
def Stp(P:Program)(Γ:Glob)(n0:Nat)(o:COp)(E:Env)(H:Heap)(it:It):Prop:=
 match o.g with
 |none=>Body P Γ n0 o.k E H it
 |some (d,want)=>∃b,gdB (E d) want=some b/\if b=true then Body P Γ n0 o.k E H it else(it.v= .junk\/it.v= .tup [])/\it.e=[]/\it.rd=[]/\it.c=0
def keys(e:Eff):List Nat:=e.map (·.1)
theorem zog:∀(e:Eff) (H:Heap) (j:Nat),j∉keys e->(zad e H)[j]?=H[j]?:=by
 intro e
 induction e with
 |nil=>intro H j _;rfl
 |cons p e ih=>
  obtain⟨i,c⟩:=p;intro H j hj;simp only[keys,qJ,qZ,not_or]at hj;simp only[zad];rw[ih _ j hj.2,List.getElem?_set_ne (λx=>hj.1 x.symm)]
theorem qem(e:Eff):∀(H:Heap) (i:Nat) (c:Option (List AV)),i∉keys e->zad e (H.set i c)=(zad e H).set i c:=by
 induction e with
 |nil=>intro H i c _;rfl
 |cons p e ih=>
  obtain⟨j,d⟩:=p;intro H i c hi;simp only[keys,qJ,qZ,not_or]at hi;simp only[zad];rw[List.set_comm _ _ hi.1,ih _ i c hi.2]
theorem zyg:∀(e1 e2:Eff) (H:Heap),(∀i,i∈keys e1->i∉keys e2)->zad e2 (zad e1 H)=zad e1 (zad e2 H):=by
 intro e1
 induction e1 with
 |nil=>intro e2 H _;rfl
 |cons p e1 ih=>
  obtain⟨j,d⟩:=p;intro e2 H h;simp only[zad];rw[ih e2 _ (λi hi=>h i (by simp only[keys,qJ,qZ];exact .inr hi))];rw[qem e2 H j d (h j (by simp[keys]))]
def zyh(l:List Nat)(H H2:Heap):Prop:= ∀j∈l,getB H2 j=getB H j
theorem zqy{H H2:Heap}{j:Nat}(h:H2[j]?=H[j]?):getB H2 j=getB H j:=by unfold getB;rw[h]
theorem zjm{H H2:Heap}{sz n:Nat}{x:AV}{cs:List AV}{rd:List Nat}(h:zdr H sz n x=some (cs,rd))(ha:zyh rd H H2):zdr H2 sz n x=some (cs,rd):=by
 cases x<;>simp only[zdr]at h ⊢ <;> try (exact h)
 case sl id off m s c=>
  split at h
  ·rename_i cs' hg;have h3:=(zac h).2;simp at h3;obtain⟨rfl,rfl⟩:=h3;rw[ha id (by simp),hg];exact h
  ·simp at h
theorem zsw{n0 fresh sz bytes:Nat}{H H2:Heap}{s x:AV}{r:Res}(h:zby n0 fresh H sz bytes s x=some r)(ha:zyh r.2.2 H H2):zby n0 fresh H2 sz bytes s x=some r:=by
 unfold zby at h ⊢;simp only[qQ]at h ⊢;obtain⟨m,hm,⟨xs,xr⟩,hxs,h⟩:=h;obtain⟨v,e,rd⟩:=r;simp only at ha
 have hsub:∀j,j∈xr->j∈rd:=by
  by_cases hm0:m=0
  ·simp only[if_pos hm0]at h;cases s<;>simp at h
   ·obtain⟨_,_,rfl⟩:=h;exact λj hj=>hj
   ·obtain⟨_,_,rfl⟩:=h;exact λj hj=>hj
  ·simp only[if_neg hm0]at h;cases s<;>simp only at h<;>try (simp at h;done)
   ·have:=(zac h).2;simp at this;obtain⟨_,_,rfl⟩:=this;exact λj hj=>hj
   ·split at h
    ·have h2:=(zac h).2;split at h2
     ·simp at h2;obtain⟨_,_,rfl⟩:=h2;exact λj hj=>by simp[hj]
     ·have h3:=(zac h2).2;simp at h3;obtain⟨_,_,rfl⟩:=h3;exact λj hj=>by simp[hj]
    ·simp at h
 refine⟨m,hm,(xs,xr),zjm hxs (λj hj=>ha j (hsub j hj)),?_⟩;by_cases hm0:m=0
 ·simp only[if_pos hm0]at h ⊢;exact h
 ·simp only[if_neg hm0]at h ⊢;cases s<;>simp only at h ⊢ <;> try (exact h)
  rename_i id off n s' c;split at h
  ·rename_i cs hg
   have hid:id∈rd:=by
    have h2:=(zac h).2;split at h2
    ·simp at h2;obtain⟨_,_,rfl⟩:=h2;simp
    ·have h3:=(zac h2).2;simp at h3;obtain⟨_,_,rfl⟩:=h3;simp
   rw[ha id hid,hg];exact h
  ·simp at h
theorem zoh{V V2:Opd->AV}:∀(ps:List (Nat×Nat×Opd)) (cs:List AV),(∀x∈ps.map (·.2.2),V x=V2 x)->zey V cs ps=zey V2 cs ps:=by
 intro ps
 induction ps with
 |nil=>intro cs _;rfl
 |cons p ps ih=>
  obtain⟨off,s,x⟩:=p;intro cs h;simp only[zey];rw[h x (by simp),ih _ (λy hy=>h y (by simp only[qJ,qZ];exact .inr hy))]
theorem zmi{V V2:Opd->AV}{d:Nat}{x:Option Opd}(h:∀y∈x.toList,V y=V2 y):zbm V d x=zbm V2 d x:=by
 cases x with
 |none=>rfl
 |some y=>simp only[zbm];rw[h y (by simp)]
theorem zhs{V V2:Opd->AV}{sz:Nat}{x:AV}{lo hi mx:Option Opd}(h:∀y∈lo.toList++hi.toList++mx.toList,V y=V2 y):zdy V sz x lo hi mx=zdy V2 sz x lo hi mx:=by
 have h1:∀d,zbm V d lo=zbm V2 d lo:=λd=>zmi (λy hy=>h y (by simp;exact .inl (by simpa using hy)))
 have h2:∀d,zbm V d hi=zbm V2 d hi:=λd=>zmi (λy hy=>h y (by simp;exact .inr (.inl (by simpa using hy))))
 cases x<;>simp only[zdy]<;>(simp only[h1,h2];cases mx with
  |none=>rfl
  |some m=>simp only[h m (by simp)])
theorem zvk{n0 fresh:Nat}{k:CK}{V V2:Opd->AV}{H H2:Heap}{r:Res}(h:evK n0 fresh k V H=some r)(hV:∀x∈k.opds,V x=V2 x)(ha:zyh r.2.2 H H2):
  evK n0 fresh k V2 H2=some r:=by
 obtain⟨v,e,rd⟩:=r;simp only at ha;cases k<;>simp only[CK.opds,qZ,List.not_mem_nil,or_false,forall_eq_or_imp,forall_eq]at hV<;>simp only[evK]at h ⊢ <;> try (exact h)
 case mov x=>rw[<-hV];exact h
 case pick c a b=>rw[<-hV.1,<-hV.2.1,<-hV.2.2];exact h
 case box x=>rw[<-hV];exact h
 case build z ps=>rw[<-zoh ps z hV];exact h
 case bsl n sz z ps=>rw[<-zoh ps z hV];exact h
 case load ag sz x=>
  rw[<-hV];split at h
  ·rename_i id off hv;split at h
   ·rename_i cs hg;have h3:=(zac h).2;simp at h3;obtain⟨rfl,rfl,rfl⟩:=h3;rw[ha id (by simp),hg];exact h
   ·simp at h
  ·exact h
  ·simp at h
 case store sz x y=>
  rw[<-hV.1,<-hV.2];split at h
  ·rename_i id off hv;split at h
   ·rename_i cs hg;have h3:=(zac h).2;simp at h3;obtain⟨rfl,rfl,rfl⟩:=h3;rw[ha id (by simp),hg];exact h
   ·simp at h
  ·simp at h
 case nilck x=>rw[<-hV];exact h
 case bin op x y=>rw[<-hV.1,<-hV.2];exact h
 case beq neg x y=>rw[<-hV.1,<-hV.2];exact h
 case snil neg x=>rw[<-hV];exact h
 case un op x=>rw[<-hV];exact h
 case conv k x=>rw[<-hV];exact h
 case b2s x=>
  rw[<-hV];simp only[qQ]at h ⊢;obtain⟨n,hn,⟨xs,xr⟩,hxs,l,hl,h⟩:=h;simp at h;obtain⟨rfl,rfl,rfl⟩:=h;exact⟨n,hn,(xs,xr),zjm hxs ha,l,hl,rfl⟩
 case mksl sz bytes z x y=>rw[<-hV.1,<-hV.2];exact h
 case slice sz x lo hi mx=>rw[<-hV.1,<-zhs hV.2];exact h
 case slarr n sz x lo hi mx=>
  rw[<-hV.1];split at h
  ·rename_i id off hv;split at h
   ·rename_i cs hg;have h3:=(zac h).2;simp only[qQ]at h3;obtain⟨u,_,h3⟩:=h3;simp at h3;obtain⟨rfl,rfl,rfl⟩:=h3;rw[ha id (by simp),hg,<-zhs hV.2];exact h
   ·simp at h
  ·rw[<-zhs hV.2];exact h
  ·simp at h
 case fld off x=>rw[<-hV];exact h
 case part ag sz off x=>rw[<-hV];exact h
 case idx sz x y=>rw[<-hV.1,<-hV.2];exact h
 case idxa n sz x y=>rw[<-hV.1,<-hV.2];exact h
 case idxv n ag sz x y=>rw[<-hV.1,<-hV.2];exact h
 case idxs x y=>rw[<-hV.1,<-hV.2];exact h
 case ext x i=>rw[<-hV];exact h
 case len st x=>rw[<-hV];exact h
 case append sz bytes s x=>rw[<-hV.1,<-hV.2];exact zsw h ha
 case copy sz d s=>
  rw[<-hV.1,<-hV.2];split at h
  ·rename_i id off n s' c hv;split at h
   ·rename_i cs hg;simp only[qQ]at h;obtain⟨m,hm,⟨xs,xr⟩,hxs,h⟩:=h;have h3:=(zac h).2;simp at h3;obtain⟨rfl,rfl,rfl⟩:=h3;rw[ha id (by simp),hg];simp only[qQ];exact⟨m,hm,(xs,xr),zjm hxs (λj hj=>ha j (by simp[hj])),h⟩
   ·simp at h
  ·simp at h
 case max x y=>rw[<-hV.1,<-hV.2];exact h
 case mkfn f caps=>rw[<-qX hV];exact h
 case aeq neg ks x y=>rw[<-hV.1,<-hV.2];exact h
 case pnil neg x=>rw[<-hV];exact h
 case bits64 b x y z=>rw[<-hV.1,<-hV.2.1,<-hV.2.2];exact h
 case apz sz bytes z s x=>
  rw[<-hV.1,<-hV.2];generalize V s=sv at*;generalize V x=xv at*;unfold apzA at h ⊢;cases xv<;>simp only at h ⊢ <;> try (simp at h;done)
  rename_i kk m;cases sv<;>simp only at h ⊢ <;> try (exact h)
  have h2:=(zac h).2;split at h2
  ·rename_i cs hg;have h3:=(zac h2).2;simp at h3;obtain⟨rfl,rfl,rfl⟩:=h3;rw[ha _ (List.mem_singleton.2 rfl)];exact h
  ·simp at h2
 case clr sz z x=>
  rw[<-hV];split at h
  ·exact h
  ·rename_i id off n s c hv;split at h
   ·rename_i cs hg;have h3:=(zac h).2;simp at h3;obtain⟨rfl,rfl,rfl⟩:=h3;rw[ha id (by simp),hg];exact h
   ·simp at h
  ·simp at h
 case mkbnd f l=>rw[<-qX hV];exact h
 case mlook ks z x y=>
  rw[<-hV.1,<-hV.2];split at h
  ·rename_i f id p kk h1 h2;split at h
   ·rename_i cs hg;have h3:=(zac h).2;rw[qQ]at h3;obtain⟨r,_,h3⟩:=h3;simp at h3;obtain⟨rfl,rfl,rfl⟩:=h3;rw[ha id (by simp),hg];exact h
   ·simp at h
  ·simp at h
 case mentry ks z x y=>
  rw[<-hV.1,<-hV.2];split at h
  ·rename_i f id p kk h1 h2;split at h
   ·rename_i cs hg;have h3:=(zac h).2;rw[qQ]at h3;obtain⟨r,_,h3⟩:=h3
    have hrd:rd=[id]:=by
     cases r with
     |some i=>simp at h3;exact h3.2.2.symm
     |none=>have:=(zac h3).2;simp at this;exact this.2.2.symm
    subst hrd;rw[ha id (by simp),hg];exact h
   ·simp at h
  ·simp at h
 case mstore x s y=>
  rw[<-hV.1,<-hV.2.1,<-hV.2.2];split at h
  ·rename_i f id p kk n h1 h2;split at h
   ·rename_i cs hg;have h3:=(zac h).2;simp at h3;obtain⟨rfl,rfl,rfl⟩:=h3;rw[ha id (by simp),hg];exact h
   ·simp at h
  ·simp at h
theorem CallR0.local{P:Program}{Γ:Glob}{f:FuncId}{args:List AV}{k c:Nat}{H H2:Heap}{v:AV}{e:Eff}{rd:List Nat}(h:CallR0 P Γ f args k H v e rd c)(ha:zyh rd H H2):
  CallR0 P Γ f args k H2 v e rd c:=by
 obtain⟨ids,args0,H0,v0,H0',hret,hids,hnd,hlt,rfl,hbel,hH⟩:=h
 rename List Nat=>ids
 refine .mk ids args0 H0 v0 H0' hret hids hnd hlt rfl hbel (λi c hc=>?_);obtain⟨cs,h1,h2,h3⟩:=hH i c hc;refine⟨cs,h1,h2,?_⟩
 have hi:i<ids.length:=by
  rw[hids];rcases Nat.lt_or_ge i H0.length with h' | h'
  ·exact h'
  ·rw[List.getElem?_eq_none h']at hc;simp at hc
 have hm:zan ids k i∈ids:=by simp only[zan,hi,dif_pos];exact List.getElem_mem hi
 have h4:=ha _ hm;have h5:getB H (zan ids k i)=some (cs.map (AV.ren (zan ids k))):=by simp[getB,h3,h1,renB]
 rw[h5]at h4;have h6:=zce h4;rw[h6,h1];rfl
theorem CallR.local{P:Program}{Γ:Glob}{f:FuncId}{args:List AV}{k c:Nat}{H H2:Heap}{v:AV}{e:Eff}{rd:List Nat}(h:CallR P Γ f args k H v e rd c)(ha:zyh rd H H2):
  CallR P Γ f args k H2 v e rd c:=by
 induction h with
 |base h=>exact .base (h.local ha)
 |thin p h hp ih=>
  refine .thin p (ih ha) (λx hx hpx=>?_);obtain⟨h1,cs,h2,h3⟩:=hp x hx hpx;exact⟨h1,cs,h2,by rw[ha _ h1];exact h3⟩
theorem Body.local{P:Program}{Γ:Glob}{n0:Nat}{ck:CK}{E E2:Env}{H H2:Heap}{it:It}(h:Body P Γ n0 ck E H it)(hE:∀t,t∈zho ck.opds->E2 t=E t)(ha:zyh it.rd H H2):
  Body P Γ n0 ck E2 H2 it:=by
 have hV:∀x∈ck.opds,val E x=val E2 x:=by
  intro x hx;cases x with
  |t n=>
   have:n∈zho ck.opds:=by
    generalize ck.opds=l at hx
    induction l with
    |nil=>simp at hx
    |cons y l ih=>
     cases hx with
     |head=>simp[zho]
     |tail _ hx=>cases y<;>simp[zho,ih hx]
   exact(hE n this).symm
  |k a=>rfl
 cases ck<;>simp only[Body]at h ⊢ <;> try (exact⟨zvk h.1 hV ha,h.2⟩)
 case call f args=>
  have h4:args.map (val E2)=args.map (val E):=(qX (λy hy=>hV y (by simpa[CK.opds]using hy))).symm;rw[h4];exact h.local ha
 case callc x args=>
  obtain⟨f,caps,h1,h2,h3⟩:=h;have h4:args.map (val E2)=args.map (val E):=(qX (λy hy=>hV y (by simp[CK.opds,hy]))).symm;refine⟨f,caps,by rw[<-hV x (by simp[CK.opds])];exact h1,h2,?_⟩;rw[h4];exact h3.local ha
theorem Stp.local{P:Program}{Γ:Glob}{n0:Nat}{o:COp}{E E2:Env}{H H2:Heap}{it:It}(h:Stp P Γ n0 o E H it)(hE:∀t,t∈o.reads->E2 t=E t)(ha:zyh it.rd H H2):Stp P Γ n0 o E2 H2 it:=by
 unfold Stp at h ⊢;unfold COp.reads at hE;cases hg:o.g with
 |none=>rw[hg]at h hE;exact h.local hE ha
 |some p=>
  obtain⟨d,want⟩:=p;rw[hg]at h hE;obtain⟨b,hb,h⟩:=h;refine⟨b,by rw[hE d (by simp)];exact hb,?_⟩;split at h
  ·rename_i e1;rw[if_pos e1];exact h.local (λt ht=>hE t (by simp[ht])) ha
  ·rename_i e1;rw[if_neg e1];exact h
def Run(P:Program)(Γ:Glob)(n0:Nat):List (Nat×COp×It)->Env->Heap->Env->Heap->Prop
 | [],E,H,E',H'=>E'=E/\H'=H
 |(_,o,it)::r,E,H,E',H'=>Stp P Γ n0 o E H it/\Run P Γ n0 r (updO E o.dst it.v) (zad it.e H) E' H'
def qpb(x y:COp×It):Prop:=
 qax x.1 y.1=true/\(∀i,i∈keys x.2.e->i∉y.2.rd/\i∉keys y.2.e)/\(∀i,i∈keys y.2.e->i∉x.2.rd)
theorem zqz{E:Env}{d:Option Nat}{v:AV}{t:Nat}(h:d≠some t):updO E d v t=E t:=by
 cases d with
 |none=>rfl
 |some d=>simp only[updO,upd];rw[if_neg (λe=>h (by rw[e]))]
theorem qhs{E:Env}{d d2:Option Nat}{v v2:AV}(h:∀x,d=some x->d2≠some x):updO (updO E d v) d2 v2=updO (updO E d2 v2) d v:=by
 cases d with
 |none=>rfl
 |some d=>
  cases d2 with
  |none=>rfl
  |some d2=>
   have hne:d≠d2:=λe=>h d rfl (by rw[e])
   funext t;simp only[updO,upd];by_cases e1:t=d2
   ·subst e1;simp[Ne.symm hne]
   ·simp[e1]
theorem zyi{x y:COp}(h:qax x y=true):(∀d,x.dst=some d->d∉y.reads/\y.dst≠some d)/\(∀d,y.dst=some d->d∉x.reads):=by
 unfold qax at h;simp only[Bool.and_eq_true]at h;obtain⟨h1,h2⟩:=h;refine⟨λd hd=>?_,λd hd=>?_⟩
 ·rw[hd]at h1;simp at h1;exact⟨h1.1,h1.2⟩
 ·rw[hd]at h2;simp at h2;exact h2
theorem Run.swap{P:Program}{Γ:Glob}{n0:Nat}{x y:Nat×COp×It}{r:List (Nat×COp×It)}{E E':Env}{H H':Heap}(hi:qpb x.2 y.2)
  (h:Run P Γ n0 (x::y::r) E H E' H'):Run P Γ n0 (y::x::r) E H E' H':=by
 obtain⟨nx,ox,ix⟩:=x;obtain⟨ny,oy,iy⟩:=y;obtain⟨h1,h2,h3⟩:=h;obtain⟨hs,hk1,hk2⟩:=hi;simp only at hs hk1 hk2;obtain⟨s1,s2⟩:=zyi hs
 have g2:Stp P Γ n0 oy E H iy:=h2.local
  (λt ht=>by
   rw[zqz];intro e;exact(s1 t e).1 ht)
  (λj hj=>by
   refine(zqy (zog _ _ _ ?_)).symm;intro hx;exact(hk1 j hx).1 hj)
 have g1:Stp P Γ n0 ox (updO E oy.dst iy.v) (zad iy.e H) ix:=h1.local
  (λt ht=>by
   rw[zqz];intro e;exact s2 t e ht)
  (λj hj=>by
   refine zqy (zog _ _ _ ?_);intro hy;exact hk2 j hy hj)
 refine⟨g2,g1,?_⟩;rw[<-qhs (λd hd=>(s1 d hd).2),<-zyg _ _ _ (λi hi=>(hk1 i hi).2)];exact h3
theorem Run.front{P:Program}{Γ:Glob}{n0:Nat}{y:Nat×COp×It}{r:List (Nat×COp×It)}{E':Env}{H':Heap}:∀(l:List (Nat×COp×It)) (E:Env) (H:Heap),(∀x∈l,qpb x.2 y.2)->
  Run P Γ n0 (l++y::r) E H E' H'->Run P Γ n0 (y::(l++r)) E H E' H':=by
 intro l
 induction l with
 |nil=>intro E H _ h;exact h
 |cons x l ih=>
  intro E H hi h;refine Run.swap (hi x (by simp)) ?_;obtain⟨nx,ox,ix⟩:=x;exact⟨h.1,ih _ _ (λz hz=>hi z (by simp[hz])) h.2⟩
