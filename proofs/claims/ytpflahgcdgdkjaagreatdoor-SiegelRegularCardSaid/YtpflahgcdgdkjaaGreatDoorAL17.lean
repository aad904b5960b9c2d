/- A part of the proof. -/
import Derived.Test.YtpflahgcdgdkjaaGreatDoorAL16
set_option linter.all false
namespace Go.AL
open Option renaming bind_eq_some_iff -> qQ
open List renaming mem_cons -> qX, getElem?_eq_none -> qZ, length_cons -> qJ
open Go
def RunS(P:Program)(Γ:Glob)(n0:Nat):List COp->List It->Env->Heap->Env->Heap->Prop
 | [],[],E,H,E',H'=>E'=E/\H'=H
 |o::os,it::its,E,H,E',H'=>it.k=H.length/\Stp P Γ n0 o E (H++List.replicate it.c none) it/\
   RunS P Γ n0 os its (updO E o.dst it.v) (zad it.e (H++List.replicate it.c none)) E' H'
 |_,_,_,_,_,_=>False
theorem zht{H:Heap}{id:Nat}{cs:List AV}(h:getB H id=some cs):id<H.length:=by
 have:=zce h;rcases Nat.lt_or_ge id H.length with h' | h'
 ·exact h'
 ·rw[qZ h']at this;simp at this
theorem qpf{n0 fresh:Nat}{k:CK}{V:Opd->AV}{X:Heap}{v:AV}{e:Eff}{rd:List Nat}(h:evK n0 fresh k V X=some (v,e,rd))(hf:cntK k=1->fresh<X.length):∀i∈keys e,i<X.length:=by
 cases k<;>simp only[evK]at h
 case mov x=>simp at h;obtain⟨_,rfl,_⟩:=h;simp[keys]
 case pick c a b=>split at h<;>simp at h;obtain⟨_,rfl,_⟩:=h;simp[keys]
 case box x=>have:=(zac h).2;simp at this;obtain⟨_,rfl,_⟩:=this;simp[keys];exact hf rfl
 case build z ps=>simp only[qQ]at h;obtain⟨_,_,h⟩:=h;simp at h;obtain⟨_,rfl,_⟩:=h;simp[keys]
 case bsl n sz z ps=>simp only[qQ]at h;obtain⟨_,_,h⟩:=h;have:=(zac h).2;simp at this;obtain⟨_,rfl,_⟩:=this;simp[keys];exact hf rfl
 case load ag sz x=>
  split at h
  ·split at h
   ·have:=(zac h).2;simp at this;obtain⟨_,rfl,_⟩:=this;simp[keys]
   ·simp at h
  ·have:=(zac h).2;simp at this;obtain⟨_,rfl,_⟩:=this;simp[keys]
  ·simp at h
 case store sz x y=>
  split at h
  ·split at h
   ·rename_i cs hg;have:=(zac h).2;simp at this;obtain⟨_,rfl,_⟩:=this;simp[keys];exact zht hg
   ·simp at h
  ·simp at h
 case nilck x=>split at h<;>simp at h<;>(obtain⟨_,rfl,_⟩:=h;simp[keys])
 case bin op x y=>simp only[qQ]at h;obtain⟨_,_,h⟩:=h;simp at h;obtain⟨_,rfl,_⟩:=h;simp[keys]
 case beq neg x y=>split at h<;>simp at h;obtain⟨_,rfl,_⟩:=h;simp[keys]
 case snil neg x=>
  split at h
  ·split at h<;>simp at h<;>(obtain⟨_,rfl,_⟩:=h;simp[keys])
  ·simp at h;obtain⟨_,rfl,_⟩:=h;simp[keys]
  ·simp at h
 case un op x=>simp only[qQ]at h;obtain⟨_,_,h⟩:=h;simp at h;obtain⟨_,rfl,_⟩:=h;simp[keys]
 case conv kk x=>split at h<;>simp at h;obtain⟨_,rfl,_⟩:=h;simp[keys]
 case b2s x=>simp only[qQ]at h;obtain⟨_,_,_,_,_,_,h⟩:=h;simp at h;obtain⟨_,rfl,_⟩:=h;simp[keys]
 case mksl sz bytes z x y=>
  split at h
  ·have:=(zac h).2;simp at this;obtain⟨_,rfl,_⟩:=this;simp[keys];exact hf rfl
  ·simp at h
 case slice sz x lo hi mx=>simp only[qQ]at h;obtain⟨_,_,h⟩:=h;simp at h;obtain⟨_,rfl,_⟩:=h;simp[keys]
 case slarr n sz x lo hi mx=>
  split at h
  ·split at h
   ·have:=(zac h).2;simp only[qQ]at this;obtain⟨_,_,this⟩:=this;simp at this;obtain⟨_,rfl,_⟩:=this;simp[keys]
   ·simp at h
  ·have:=(zac h).2;simp only[qQ]at this;obtain⟨_,_,this⟩:=this;simp at this;obtain⟨_,rfl,_⟩:=this;simp[keys]
  ·simp at h
 case fld off x=>split at h<;>simp at h<;>(obtain⟨_,rfl,_⟩:=h;simp[keys])
 case part ag sz off x=>
  split at h<;>try (simp at h;done)
  have:=(zac h).2;simp at this;obtain⟨_,rfl,_⟩:=this;simp[keys]
 case idx sz x y=>
  split at h<;>try (simp at h;done)
  all_goals (have:=(zac h).2;simp at this;obtain⟨_,rfl,_⟩:=this;simp[keys])
 case idxa n sz x y=>
  split at h<;>try (simp at h;done)
  all_goals (have:=(zac h).2;simp at this;obtain⟨_,rfl,_⟩:=this;simp[keys])
 case idxv n ag sz x y=>
  split at h<;>try (simp at h;done)
  all_goals (have:=(zac h).2;simp at this;obtain⟨_,rfl,_⟩:=this;simp[keys])
 case idxs x y=>
  split at h<;>try (simp at h;done)
  all_goals (have:=(zac h).2;simp at this;obtain⟨_,rfl,_⟩:=this;simp[keys])
 case ext x i=>
  split at h
  ·split at h<;>simp at h;obtain⟨_,rfl,_⟩:=h;simp[keys]
  ·simp at h
 case len st x=>split at h<;>simp at h<;>(obtain⟨_,rfl,_⟩:=h;simp[keys])
 case lenk n=>simp at h;obtain⟨_,rfl,_⟩:=h;simp[keys]
 case append sz bytes s x=>
  unfold zby at h;simp only[qQ]at h;obtain⟨m,hm,⟨xs,xr⟩,hxs,h⟩:=h;split at h
  ·split at h<;>simp at h<;>(obtain⟨_,rfl,_⟩:=h;simp[keys])
  ·split at h
   ·have:=(zac h).2;simp at this;obtain⟨_,rfl,_⟩:=this;simp[keys];exact hf rfl
   ·split at h
    ·rename_i cs hg;have h2:=(zac h).2;split at h2
     ·simp at h2;obtain⟨_,rfl,_⟩:=h2;simp[keys];exact hf rfl
     ·have h3:=(zac h2).2;simp at h3;obtain⟨_,rfl,_⟩:=h3;simp[keys];exact⟨zht hg,hf rfl⟩
    ·simp at h
   ·simp at h
 case copy sz d s=>
  split at h
  ·split at h
   ·rename_i cs hg;simp only[qQ]at h;obtain⟨_,_,_,_,h⟩:=h;have:=(zac h).2;simp at this;obtain⟨_,rfl,_⟩:=this;simp[keys];exact zht hg
   ·simp at h
  ·simp at h
 case max x y=>split at h<;>simp at h;obtain⟨_,rfl,_⟩:=h;simp[keys]
 case mkfn f caps=>simp at h;obtain⟨_,rfl,_⟩:=h;simp[keys]
 case aeq neg ks x y=>
  split at h<;>try (simp at h;done)
  rw[qQ]at h;obtain⟨_,_,h⟩:=h;simp at h;obtain⟨_,rfl,_⟩:=h;simp[keys]
 case pnil neg x=>
  split at h<;>try (simp at h;done)
  ·simp at h;obtain⟨_,rfl,_⟩:=h;simp[keys]
  ·simp at h;obtain⟨_,rfl,_⟩:=h;simp[keys]
  ·have:=(zac h).2;simp at this;obtain⟨_,rfl,_⟩:=this;simp[keys]
 case mkbnd f l=>simp at h;obtain⟨_,rfl,_⟩:=h;simp[keys]
 case bits64 b x y z=>
  split at h<;>try (simp at h;done)
  have:=(zac h).2;simp at this;obtain⟨_,rfl,_⟩:=this;simp[keys]
 case apz sz bytes z s x=>
  unfold apzA at h;split at h
  ·have h2:=(zac h).2;split at h2
   ·have:=(zac h2).2;simp at this;obtain⟨_,rfl,_⟩:=this;simp[keys];exact hf rfl
   ·split at h2
    ·have:=(zac h2).2;simp at this;obtain⟨_,rfl,_⟩:=this;simp[keys];exact hf rfl
    ·simp at h2
   ·simp at h2
  ·simp at h
 case clr sz z x=>
  split at h
  ·have:=(zac h).2;simp at this;obtain⟨_,rfl,_⟩:=this;simp[keys]
  ·split at h
   ·rename_i cs hg;have:=(zac h).2;simp at this;obtain⟨_,rfl,_⟩:=this;simp[keys];exact zht hg
   ·simp at h
  ·simp at h
 case mkmap=>simp at h;obtain⟨_,rfl,_⟩:=h;simp[keys];exact hf rfl
 case mlook ks z x y=>
  split at h<;>try (simp at h;done)
  split at h<;>try (simp at h;done)
  have:=(zac h).2;rw[qQ]at this;obtain⟨_,_,this⟩:=this;simp at this;obtain⟨_,rfl,_⟩:=this;simp[keys]
 case mentry ks z x y=>
  split at h<;>try (simp at h;done)
  split at h<;>try (simp at h;done)
  rename_i cs hg;have h2:=(zac h).2;rw[qQ]at h2;obtain⟨r,_,h2⟩:=h2;cases r with
  |some i=>simp at h2;obtain⟨_,rfl,_⟩:=h2;simp[keys];exact zht hg
  |none=>have:=(zac h2).2;simp at this;obtain⟨_,rfl,_⟩:=this;simp[keys];exact zht hg
 case mstore x s y=>
  split at h<;>try (simp at h;done)
  split at h<;>try (simp at h;done)
  rename_i cs hg;have:=(zac h).2;simp at this;obtain⟨_,rfl,_⟩:=this;simp[keys];exact zht hg
 case call=>simp at h
 case callc=>simp at h
theorem qhw{σ:Nat->Nat}:∀(L:Heap) (i0 j:Nat),j∈keys (effs σ i0 L)->∃i,i<L.length/\j=σ (i0+i):=by
 intro L
 induction L with
 |nil=>intro i0 j h;simp[effs,keys]at h
 |cons c L ih=>
  intro i0 j h;simp only[effs,keys,List.map_cons,qX]at h;rcases h with rfl | h
  ·exact⟨0,by simp,rfl⟩
  ·obtain⟨i,hi,rfl⟩:=ih (i0+1) j h;exact⟨i+1,by simp;omega,by congr 1;omega⟩
theorem CallR0.keys{P:Program}{Γ:Glob}{f:FuncId}{args:List AV}{k c:Nat}{H:Heap}{v:AV}{e:Eff}{rd:List Nat}(h:CallR0 P Γ f args k H v e rd c):∀i∈keys e,i<k+c:=by
 obtain⟨ids,args0,H0,v0,H0',hret,hids,hnd,hlt,rfl,hbel,hH⟩:=h
 rename List Nat=>ids
 intro j hj;obtain⟨i,hi,rfl⟩:=qhw _ _ _ hj;unfold zan;split
 ·rename_i h;have:=hlt _ (List.getElem_mem h);omega
 ·omega
theorem CallR.keys{P:Program}{Γ:Glob}{f:FuncId}{args:List AV}{k c:Nat}{H:Heap}{v:AV}{e:Eff}{rd:List Nat}(h:CallR P Γ f args k H v e rd c):∀i∈keys e,i<k+c:=by
 induction h with
 |base h=>exact h.keys
 |thin p h hp ih=>
  intro i hi;refine ih i ?_;simp only[AL.keys,List.mem_map,List.mem_filter]at hi ⊢;obtain⟨x,⟨hx,_⟩,rfl⟩:=hi;exact⟨x,hx,rfl⟩
theorem Stp.keys{P:Program}{Γ:Glob}{n0:Nat}{o:COp}{E:Env}{X:Heap}{it:It}(h:Stp P Γ n0 o E X it)(hl:it.k+it.c=X.length):∀i∈keys it.e,i<X.length:=by
 have body:Body P Γ n0 o.k E X it->∀i∈AL.keys it.e,i<X.length:=by
  intro hb;cases hck:o.k<;>rw[hck]at hb<;>simp only[Body]at hb<;>try (exact qpf hb.1 (λhc=>by rw[<-hb.2]at hc;omega))
  case call f args=>intro i hi;have:=CallR.keys hb i hi;omega
  case callc x args=>obtain⟨f,caps,_,_,hb⟩:=hb;intro i hi;have:=CallR.keys hb i hi;omega
 unfold Stp at h;split at h
 ·exact body h
 ·obtain⟨b,hb,h⟩:=h;split at h
  ·exact body h
  ·rw[h.2.1];simp[AL.keys]
theorem zsy:∀(e:Eff) (X Y:Heap),(∀i∈keys e,i<X.length)->zad e (X++Y)=zad e X++Y:=by
 intro e
 induction e with
 |nil=>intro X Y _;rfl
 |cons p e ih=>
  obtain⟨i,c⟩:=p;intro X Y h;simp only[zad];rw[List.set_append_left _ _ (h i (by simp[keys]))];exact ih _ _ (λj hj=>by simpa using h j (by simp only[keys,List.map_cons,qX];exact .inr hj))
def zqn:List It->Nat
 | []=>0
 |it::r=>it.c+zqn r
def zip3:Nat->List COp->List It->List (Nat×COp×It)
 |i,o::os,it::its=>(i,o,it)::zip3 (i+1) os its
 |_,_,_=>[]
theorem RunS.len{P:Program}{Γ:Glob}{n0:Nat}:∀(os:List COp) (its:List It) (E:Env) (H:Heap) (E':Env) (H':Heap),RunS P Γ n0 os its E H E' H'->os.length=its.length:=by
 intro os
 induction os with
 |nil=>intro its E H E' H' h;cases its with | nil=>rfl | cons it its=>exact h.elim
 |cons o os ih=>
  intro its E H E' H' h;cases its with
  |nil=>exact h.elim
  |cons it its=>simp only[qJ];rw[ih its _ _ _ _ h.2.2]
theorem zsz(H:Heap)(m j:Nat):getB (H++List.replicate m none) j=getB H j:=by
 unfold getB;rcases Nat.lt_or_ge j H.length with hl | hl
 ·rw[List.getElem?_append_left hl]
 ·rw[List.getElem?_append_right hl,qZ hl,List.getElem?_replicate];by_cases h:j-H.length<m
  ·rw[if_pos h]
  ·rw[if_neg h]
theorem RunS.run{P:Program}{Γ:Glob}{n0:Nat}:∀(os:List COp) (its:List It) (i:Nat) (E:Env) (H:Heap) (E':Env) (H':Heap),RunS P Γ n0 os its E H E' H'->
  Run P Γ n0 (zip3 i os its) E (H++List.replicate (zqn its) none) E' H'/\(zip3 i os its).Pairwise (λx y=>x.2.2.k+x.2.2.c<=y.2.2.k)/\
  (∀x∈zip3 i os its,H.length<=x.2.2.k/\x.2.2.k+x.2.2.c<=H.length+zqn its):=by
 intro os
 induction os with
 |nil=>
  intro its i E H E' H' h;cases its with
  |nil=>obtain⟨rfl,rfl⟩:=h;exact⟨⟨rfl,by simp[zqn]⟩,.nil,by simp[zip3]⟩
  |cons it its=>exact h.elim
 |cons o os ih=>
  intro its i E H E' H' h;cases its with
  |nil=>exact h.elim
  |cons it its=>
   obtain⟨h1,h2,h3⟩:=h;have hk:=h2.keys (by simp;omega);obtain⟨g1,g2,g3⟩:=ih its (i+1) _ _ _ _ h3;have hlen:(zad it.e (H++List.replicate it.c none)).length=H.length+it.c:=by rw[zit];simp
   refine⟨⟨?_,?_⟩,?_,?_⟩
   ·exact h2.local (λ_ _=>rfl) (λj _=>by rw[zsz,zsz])
   ·have e1:H++List.replicate (zqn (it::its)) none=(H++List.replicate it.c none)++List.replicate (zqn its) (none:Option (List AV)):=by
     simp only[zqn];rw[<-List.replicate_append_replicate,List.append_assoc]
    rw[e1,zsy _ _ _ hk];exact g1
   ·refine List.pairwise_cons.2 ⟨λx hx=>?_,g2⟩;have:=(g3 x hx).1;simp only;omega
   ·intro x hx;simp only[zip3,qX]at hx;rcases hx with rfl | hx
    ·simp only[zqn];omega
    ·have:=g3 x hx;simp only[zqn];omega
theorem qbk:∀(os:List COp) (its:List It) (i:Nat) (x:Nat×COp×It),x∈zip3 i os its->i<=x.1/\os[x.1-i]?=some x.2.1/\its[x.1-i]?=some x.2.2:=by
 intro os
 induction os with
 |nil=>intro its i x h;simp[zip3]at h
 |cons o os ih=>
  intro its i x h;cases its with
  |nil=>simp[zip3]at h
  |cons it its=>
   simp only[zip3,qX]at h;rcases h with rfl | h
   ·simp
   ·obtain⟨h1,h2,h3⟩:=ih its (i+1) x h;have:x.1-i=(x.1-(i+1))+1:=by omega
    rw[this];exact⟨by omega,by simpa using h2,by simpa using h3⟩
theorem zym:∀(os:List COp) (its:List It) (i:Nat),(zip3 i os its).Pairwise (λx y=>x.1<y.1):=by
 intro os
 induction os with
 |nil=>intro its i;simp[zip3]
 |cons o os ih=>
  intro its i;cases its with
  |nil=>simp[zip3]
  |cons it its=>
   simp only[zip3];refine List.pairwise_cons.2 ⟨λx hx=>?_,ih its (i+1)⟩;have:=(qbk os its (i+1) x hx).1;simp only;omega
theorem qpg:∀(os:List COp) (its:List It) (i:Nat),os.length=its.length->(zip3 i os its).length=os.length:=by
 intro os
 induction os with
 |nil=>intro its i h;simp[zip3]
 |cons o os ih=>
  intro its i h;cases its with
  |nil=>simp at h
  |cons it its=>simp only[zip3,qJ];rw[ih its (i+1) (by simpa using h)]
theorem qph:∀(os:List COp) (its:List It) (i j:Nat) (o:COp) (it:It),os[j]?=some o->its[j]?=some it->(i+j,o,it)∈zip3 i os its:=by
 intro os
 induction os with
 |nil=>intro its i j o it h;simp at h
 |cons o' os ih=>
  intro its i j o it h1 h2;cases its with
  |nil=>simp at h2
  |cons it' its=>
   cases j with
   |zero=>simp at h1 h2;subst h1 h2;simp[zip3]
   |succ j=>
    have:=ih its (i+1) j o it (by simpa using h1) (by simpa using h2);simp only[zip3,qX];right
    rwa[show i+(j+1)=i+1+j from by omega]
