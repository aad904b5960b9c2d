/- A part of the proof. -/
import Derived.Test.YtpflahgcdgdkjaaGreatDoorAL17
set_option linter.all false
namespace Go.AL
open Option renaming bind_eq_some_iff -> qQ, getD_some -> qY, map_some -> qA
open List renaming mem_filter -> qX, mem_append -> qZ, mem_range -> qK, mem_cons -> qW
open Bool renaming and_eq_true -> qJ, not_eq_true' -> qV, or_eq_true -> qU
open Go
theorem zyn{ops:Array Oper}{listed:Array Bool}(hdc:∀y o,ops[y]?=some o->listed.getD y false=true->∀e∈o.after,Region.binds .any e=true->listed.getD e.on false=true):
  ∀(n x i:Nat) (o:Oper),ops[i]?=some o->(∀e∈o.after,Region.binds .any e=true->listed.getD e.on false=true)->ordB ops n x i=true->listed.getD x false=true:=by
 intro n
 induction n with
 |zero=>intro x i o _ _ h;simp[ordB]at h
 |succ n ih=>
  intro x i o ho he h;simp only[ordB,ho,Array.any_eq_true',qJ,qU]at h;obtain⟨e,hm,hb,h⟩:=h;have hl:=he e hm hb;rcases h with h | h
  ·have:e.on=x:=by simpa using h
   rw[<-this];exact hl
  ·replace h:=h.2;cases hoe:ops[e.on]? with
   |none=>
    cases n with
    |zero=>simp[ordB]at h
    |succ n=>simp[ordB,hoe]at h
   |some o2=>exact ih x e.on o2 hoe (hdc e.on o2 hoe hl) h
theorem Stp.quiet{P:Program}{Γ:Glob}{n0:Nat}{o:COp}{E:Env}{X:Heap}{it:It}(h:Stp P Γ n0 o E X it)(hq:o.k.loud=false):it.e=[]/\it.rd=[]:=by
 have body:Body P Γ n0 o.k E X it->it.e=[]/\it.rd=[]:=by
  intro hb;cases hck:o.k<;>rw[hck]at hb hq<;>simp only[CK.loud]at hq<;>try (simp at hq;done)
  all_goals
   simp only[Body]at hb;obtain⟨hb,_⟩:=hb;simp only[evK]at hb
  case mov x=>simp at hb;exact⟨hb.2.1,hb.2.2⟩
  case pick c a b=>split at hb<;>simp at hb;exact⟨hb.2.1,hb.2.2⟩
  case build z ps=>simp only[qQ]at hb;obtain⟨_,_,hb⟩:=hb;simp at hb;exact⟨hb.2.1,hb.2.2⟩
  case nilck x=>split at hb<;>simp at hb<;>exact⟨hb.2.1,hb.2.2⟩
  case bin op x y=>simp only[qQ]at hb;obtain⟨_,_,hb⟩:=hb;simp at hb;exact⟨hb.2.1,hb.2.2⟩
  case beq neg x y=>split at hb<;>simp at hb;exact⟨hb.2.1,hb.2.2⟩
  case snil neg x=>
   split at hb
   ·split at hb<;>simp at hb<;>exact⟨hb.2.1,hb.2.2⟩
   ·simp at hb;exact⟨hb.2.1,hb.2.2⟩
   ·simp at hb
  case un op x=>simp only[qQ]at hb;obtain⟨_,_,hb⟩:=hb;simp at hb;exact⟨hb.2.1,hb.2.2⟩
  case conv kk x=>split at hb<;>simp at hb;exact⟨hb.2.1,hb.2.2⟩
  case slice sz x lo hi mx=>simp only[qQ]at hb;obtain⟨_,_,hb⟩:=hb;simp at hb;exact⟨hb.2.1,hb.2.2⟩
  case fld off x=>split at hb<;>simp at hb<;>exact⟨hb.2.1,hb.2.2⟩
  case part ag sz off x=>
   split at hb<;>try (simp at hb;done)
   have hb:=(zac hb).2;simp at hb;exact⟨hb.2.1,hb.2.2⟩
  case idx sz x y=>
   split at hb<;>try (simp at hb;done)
   all_goals (have hb:=(zac hb).2;simp at hb;exact⟨hb.2.1,hb.2.2⟩)
  case idxa n sz x y=>
   split at hb<;>try (simp at hb;done)
   all_goals (have hb:=(zac hb).2;simp at hb;exact⟨hb.2.1,hb.2.2⟩)
  case idxv n ag sz x y=>
   split at hb<;>try (simp at hb;done)
   all_goals (have hb:=(zac hb).2;simp at hb;exact⟨hb.2.1,hb.2.2⟩)
  case idxs x y=>
   split at hb<;>try (simp at hb;done)
   all_goals (have hb:=(zac hb).2;simp at hb;exact⟨hb.2.1,hb.2.2⟩)
  case ext x i=>
   split at hb
   ·split at hb<;>simp at hb;exact⟨hb.2.1,hb.2.2⟩
   ·simp at hb
  case len st x=>split at hb<;>simp at hb<;>exact⟨hb.2.1,hb.2.2⟩
  case lenk n=>simp at hb;exact⟨hb.2.1,hb.2.2⟩
  case max x y=>split at hb<;>simp at hb;exact⟨hb.2.1,hb.2.2⟩
  case mkfn f caps=>simp at hb;exact⟨hb.2.1,hb.2.2⟩
  case aeq neg ks x y=>
   split at hb<;>try (simp at hb;done)
   rw[qQ]at hb;obtain⟨_,_,hb⟩:=hb;simp at hb;exact⟨hb.2.1,hb.2.2⟩
  case pnil neg x=>
   split at hb<;>try (simp at hb;done)
   ·simp at hb;exact⟨hb.2.1,hb.2.2⟩
   ·simp at hb;exact⟨hb.2.1,hb.2.2⟩
   ·have hb:=(zac hb).2;simp at hb;exact⟨hb.2.1,hb.2.2⟩
  case mkbnd f l=>simp at hb;exact⟨hb.2.1,hb.2.2⟩
  case bits64 b x y z=>
   split at hb<;>try (simp at hb;done)
   have hb:=(zac hb).2;simp at hb;exact⟨hb.2.1,hb.2.2⟩
 unfold Stp at h;split at h
 ·exact body h
 ·obtain⟨b,hb,h⟩:=h;split at h
  ·exact body h
  ·exact⟨h.2.1,h.2.2.1⟩
def qum(x y:It):Prop:=(∀i,i∈keys x.e->i∉y.rd/\i∉keys y.e)/\(∀i,i∈keys y.e->i∉x.rd)
theorem RunS.quiet{P:Program}{Γ:Glob}{n0:Nat}:∀(os:List COp) (its:List It) (E:Env) (H:Heap) (E':Env) (H':Heap),RunS P Γ n0 os its E H E' H'->
  ∀(j:Nat) (o:COp) (it:It),os[j]?=some o->its[j]?=some it->o.k.loud=false->it.e=[]/\it.rd=[]:=by
 intro os
 induction os with
 |nil=>intro its E H E' H' _ j o it h;simp at h
 |cons o os ih=>
  intro its E H E' H' h j o' it' h1 h2 hq;cases its with
  |nil=>exact h.elim
  |cons it its=>
   cases j with
   |zero=>simp at h1 h2;subst h1 h2;exact h.2.1.quiet hq
   |succ j=>exact ih its _ _ _ _ h.2.2 j o' it' (by simpa using h1) (by simpa using h2) hq
theorem zvm{P:Program}{Γ:Glob}{nt:Nat}{ops:Array Oper}{cs:List COp}(h:qok P Γ nt ops=some cs):
  cs.length=ops.size/\∀(j:Nat) (o:Oper),ops[j]?=some o->∃c,cs[j]?=some c/\qgu P Γ nt ops o=some c:=by
 obtain⟨h1,h2⟩:=zgv h;exact⟨by simpa using h1,λj o ho=>h2 j o (by simpa using ho)⟩
theorem zyo{P:Program}{Γ:Glob}{C:Ctx}{ρ:Nat->RS}{E E':Env}{H H':Heap}{a:Act}{w:World}{ops:Array Oper}{cs:List COp}{its:List It}{Q:Exit->Act->World->Prop}{id:Nat}
  (hm:P.follows .mixedOrders=true) (hc:qok P Γ C.nt ops=some cs) (hst:qgv ops cs=true) (hrun:RunS P Γ C.n0 cs its E H E' H')
  (hdyn:∀p∈zjz ops cs,∀x y,its[p.1]?=some x->its[p.2]?=some y->qum x y) (hs:Sim Γ C ρ E H a w) (hQ:∀ρ' a' w',Sim Γ C ρ' E' H' a' w'->Q .normal a' w'):
  (Code.region id ops true).wpIn (zek C.ro) 0 P Q a w:=by
 refine wpIn_region_any hm ?_;obtain⟨hlen,hget⟩:=zvm hc;have hlen2:=RunS.len _ _ _ _ _ _ hrun;obtain⟨r1,r2,r3⟩:=RunS.run cs its 0 E H E' H' hrun;have hs0:=(hs.drew { w with drawn:=w.drawn+1 } rfl ⟨rfl,rfl⟩).pad (zqn its);unfold qgv at hst;simp only[qJ,List.all_eq_true]at hst;obtain⟨hback,happ⟩:=hst
 have hedge:∀(i:Nat) (o:Oper),ops[i]?=some o->∀e∈o.after,Region.binds .any e=true->e.on<i:=by
  intro i o ho e he hb
  have hmem:(o,i)∈ops.toList.zipIdx:=by
   rw[List.mem_zipIdx_iff_getElem?];simpa using ho
  have:=hback (o,i) hmem;simp only[Array.all_eq_true',qU,qV,decide_eq_true_eq]at this;rcases this e he with h | h
  ·rw[hb]at h;simp at h
  ·exact h
 have hindep:∀(x i:Nat) (ox oi:COp) (ix ii:It),x<i->i<ops.size->cs[x]?=some ox->cs[i]?=some oi->its[x]?=some ix->its[i]?=some ii->ordB ops 5 x i=false->qpb (ox,ix) (oi,ii):=by
  intro x i ox oi ix ii hxi hi h1 h2 h3 h4 hord
  have hup:(x,i)∈qay ops:=by
   unfold qay;simp only[List.mem_flatMap,qK,List.mem_map,qX];exact⟨i,hi,x,⟨hxi,by simp[hord]⟩,rfl⟩
  have ha:=happ (x,i) hup;simp only[h1,h2]at ha;refine⟨ha,?_⟩;by_cases hl:ox.k.loud=true/\oi.k.loud=true
  ·have:(x,i)∈zjz ops cs:=by
    unfold zjz;simp only[qX,h1,h2];exact⟨hup,by simp[hl.1,hl.2]⟩
   exact hdyn (x,i) this ix ii h3 h4
  ·by_cases hx:ox.k.loud=true
   ·have hi':oi.k.loud=false:=by
     cases h:oi.k.loud
     ·rfl
     ·exact absurd ⟨hx,h⟩ hl
    obtain⟨e1,e2⟩:=RunS.quiet _ _ _ _ _ _ hrun i oi ii h2 h4 hi';simp only[e1,e2,keys];exact⟨λ_ _=>⟨by simp,by simp⟩,by simp⟩
   ·have hx':ox.k.loud=false:=by simpa using hx
    obtain⟨e1,e2⟩:=RunS.quiet _ _ _ _ _ _ hrun x ox ix h1 h3 hx';simp only[e1,e2,keys];exact⟨by simp,by simp⟩
 have main:∀(fuel:Nat) (listed:Array Bool) (rem:List (Nat×COp×It)) (ρ:Nat->RS) (E:Env) (X:Heap) (a:Act) (w:World),rem.length=fuel->listed.size=ops.size->
   rem.Pairwise (λx y=>x.1<y.1)->(∀x∈rem,x.1<ops.size/\cs[x.1]?=some x.2.1/\its[x.1]?=some x.2.2)->(∀i,i<ops.size->(listed.getD i true=false↔∃x∈rem,x.1=i))->
   (∀y o,ops[y]?=some o->listed.getD y false=true->∀e∈o.after,Region.binds .any e=true->listed.getD e.on false=true)->
   Run P Γ C.n0 rem E X E' H'->Sim Γ C ρ E X a w->(∀x∈rem,C.n0<=x.2.2.k/\x.2.2.k+x.2.2.c<=X.length/\∀j,x.2.2.k<=j->j<x.2.2.k+x.2.2.c->ρ j= .unborn)->
   rem.Pairwise (λx y=>x.2.2.k+x.2.2.c<=y.2.2.k)->wpAnyIn (zek C.ro) 0 P .any ops Q fuel listed a w:=by
  intro fuel
  induction fuel with
  |zero=>
   intro listed rem ρ E X a w hf hsz hsort hmem hlist hdc hrun hs hub hpw;have:rem=[]:=List.length_eq_zero_iff.1 hf;subst this;obtain⟨rfl,rfl⟩:=hrun;refine⟨?_,hQ _ _ _ hs⟩;unfold Region.ready;rw[List.filter_eq_nil_iff];intro i hi;simp only[qK]at hi
   have:listed.getD i true=true:=by
    cases h:listed.getD i true
    ·obtain⟨x,hx,_⟩:=(hlist i hi).1 h;simp at hx
    ·rfl
   simp[this]
  |succ fuel ih=>
   intro listed rem ρ E X a w hf hsz hsort hmem hlist hdc hrun hs hub hpw
   have lsame:∀i,i<ops.size->listed.getD i true=listed.getD i false:=by
    intro i hi;have:i<listed.size:=by omega
    simp[Array.getD_eq_getD_getElem?,this]
   refine⟨λhr=>?_,λi hi=>?_⟩
   ·exfalso;cases hrem:rem with
    |nil=>rw[hrem]at hf;simp at hf
    |cons x rest=>
     have hx:x∈rem:=by rw[hrem];simp
     obtain⟨hx1,hx2,hx3⟩:=hmem x hx;have hxo:∃o,ops[x.1]?=some o:=⟨ops[x.1],by simp[hx1]⟩
     obtain⟨o,ho⟩:=hxo
     have hin:x.1∈Region.ready .any ops listed:=by
      unfold Region.ready;rw[qX];refine⟨by simpa using hx1,?_⟩;rw[(hlist x.1 hx1).2 ⟨x,hx,rfl⟩,ho];simp only[Bool.not_false,Bool.true_and,qA,qY,Array.all_eq_true'];intro e he;cases hb:Region.binds .any e
      ·simp
      ·simp only[Bool.not_true,Bool.false_or];have hlt:=hedge x.1 o ho e he hb;rw[<-lsame e.on (by omega)];cases hl:listed.getD e.on true
       ·obtain⟨y,hy,hy1⟩:=(hlist e.on (by omega)).1 hl;rw[hrem]at hy hsort;simp only[qW]at hy;rcases hy with rfl | hy
        ·omega
        ·have:=(List.pairwise_cons.1 hsort).1 y hy;omega
       ·rfl
     rw[hr]at hin;simp at hin
   ·unfold Region.ready at hi;rw[qX]at hi;obtain⟨hi1,hi2⟩:=hi;simp only[qK]at hi1;simp only[qJ,qV]at hi2;obtain⟨hi2,hi3⟩:=hi2;obtain⟨o,ho⟩:∃o,ops[i]?=some o:=⟨ops[i],by simp[hi1]⟩
    rw[ho]at hi3;simp only[qA,qY,Array.all_eq_true']at hi3
    have hedges:∀e∈o.after,Region.binds .any e=true->listed.getD e.on false=true:=by
     intro e he hb;have:=hi3 e he;rw[hb]at this;simpa using this
    obtain⟨x,hx,hxi⟩:=(hlist i hi1).1 hi2;obtain⟨l1,l2,hsplit⟩:=List.append_of_mem hx;obtain⟨xi,co,it⟩:=x;simp only at hxi;subst hxi;obtain⟨_,hco,hit⟩:=hmem _ hx;simp only at hco hit;obtain⟨co',hco',hcop⟩:=hget xi o ho;rw[hco]at hco';simp at hco';subst hco'
    have hl1:∀y∈l1,qpb y.2 (co,it):=by
     intro y hy;obtain⟨yi,oy,iy⟩:=y;have hyr:(yi,oy,iy)∈rem:=by rw[hsplit];simp[hy]
     obtain⟨g1,g2,g3⟩:=hmem _ hyr;simp only at g1 g2 g3
     have hlt:yi<xi:=by
      rw[hsplit]at hsort;exact(List.pairwise_append.1 hsort).2.2 _ hy (xi,co,it) (by simp)
     refine hindep yi xi oy co iy it hlt hi1 g2 hco g3 hit ?_;cases hord:ordB ops 5 yi xi
     ·rfl
     ·exfalso;have h1:=zyn hdc 5 yi xi o ho hedges hord;rw[<-lsame yi g1,(hlist yi g1).2 ⟨_,hyr,rfl⟩]at h1;simp at h1
    rw[hsplit]at hrun;have hrun':=Run.front l1 E X hl1 hrun;obtain⟨hstp,hrest⟩:=hrun';obtain⟨hb1,hb2,hb3⟩:=hub _ hx;simp only at hb1 hb2 hb3;refine qul ho hs hcop hstp hb1 hb2 hb3 ?_;intro ρ' v' w' hs' hstill
    have hsub:∀y,y∈l1++l2->y∈rem:=by
     intro y hy;rw[hsplit];simp only[qZ,qW]at hy ⊢;rcases hy with h | h
     ·exact .inl h
     ·exact .inr (.inr h)
    have hsubl:(l1++l2).Sublist rem:=by rw[hsplit];exact List.Sublist.append_left (List.sublist_cons_self _ _) _
    have hne:∀y∈l1++l2,y.1≠xi:=by
     intro y hy e;rw[hsplit]at hsort;obtain⟨s1,s2,s3⟩:=List.pairwise_append.1 hsort;simp only[qZ]at hy;rcases hy with hy | hy
     ·have:=s3 y hy (xi,co,it) (by simp);simp only at this;omega
     ·have:=(List.pairwise_cons.1 s2).1 y hy;simp only at this;omega
    have hgd:∀j (d:Bool),(listed.setIfInBounds xi true).getD j d=if j=xi then true else listed.getD j d:=by
     intro j d;have hxl:xi<listed.size:=by omega
     simp only[Array.getD_eq_getD_getElem?];by_cases e:j=xi
     ·subst e;simp[hxl]
     ·rw[if_neg e,Array.getElem?_setIfInBounds_ne (λh=>e h.symm)]
    refine ih (listed.setIfInBounds xi true) (l1++l2) ρ' _ _ _ w' ?_ (by simpa using hsz) (hsort.sublist hsubl) (λy hy=>hmem y (hsub y hy)) (λj hj=>?_) (λy oy hoy hly e he hb=>?_) hrest hs' (λy hy=>?_) (hpw.sublist hsubl)
    ·rw[hsplit]at hf;simp at hf ⊢;omega
    ·rw[hgd];by_cases e:j=xi
     ·subst e;simp only[if_true];constructor
      ·intro h;simp at h
      ·rintro⟨y,hy,rfl⟩;exact absurd rfl (hne y hy)
     ·rw[if_neg e,hlist j hj];constructor
      ·rintro⟨y,hy,rfl⟩;rw[hsplit]at hy;simp only[qZ,qW]at hy;rcases hy with hy | rfl | hy
       ·exact⟨y,by simp[hy],rfl⟩
       ·exact absurd rfl e
       ·exact⟨y,by simp[hy],rfl⟩
      ·rintro⟨y,hy,rfl⟩;exact⟨y,hsub y hy,rfl⟩
    ·rw[hgd]at hly ⊢;by_cases e2:e.on=xi
     ·rw[if_pos e2]
     ·rw[if_neg e2];by_cases e3:y=xi
      ·subst e3;rw[ho]at hoy;simp at hoy;subst hoy;exact hedges e he hb
      ·rw[if_neg e3]at hly;exact hdc y oy hoy hly e he hb
    ·obtain⟨k1,k2,k3⟩:=hub y (hsub y hy);refine⟨k1,by rw[zit];exact k2,λj hj1 hj2=>hstill j (k3 j hj1 hj2) ?_⟩;simp only[zge,List.mem_range'_1];intro hj3
     have hdis:it.k+it.c<=y.2.2.k\/y.2.2.k+y.2.2.c<=it.k:=by
      rw[hsplit]at hpw;obtain⟨s1,s2,s3⟩:=List.pairwise_append.1 hpw;simp only[qZ]at hy;rcases hy with hy | hy
      ·exact .inr (s3 y hy (xi,co,it) (by simp))
      ·exact .inl ((List.pairwise_cons.1 s2).1 y hy)
     omega
 refine main ops.size (Array.replicate ops.size false) (zip3 0 cs its) ρ E _ a _ (by rw[qpg _ _ _ hlen2,hlen]) (by simp) (zym _ _ _) (λx hx=>?_) (λi hi=>?_) (λy o ho hl=>?_) r1 hs0 (λx hx=>?_) r2
 ·obtain⟨_,h2,h3⟩:=qbk cs its 0 x hx;simp only[Nat.sub_zero]at h2 h3;refine⟨?_,h2,h3⟩;rw[<-hlen];rcases Nat.lt_or_ge x.1 cs.length with h' | h'
  ·exact h'
  ·rw[List.getElem?_eq_none h']at h2;simp at h2
 ·constructor
  ·intro _;have h1:i<cs.length:=by omega
   have h2:i<its.length:=by omega
   exact⟨_,qph cs its 0 i cs[i] its[i] (by simp[h1]) (by simp[h2]),by simp⟩
  ·intro _;simp[Array.getD_eq_getD_getElem?,hi]
 ·exfalso;simp only[Array.getD_eq_getD_getElem?,Array.getElem?_replicate]at hl;split at hl<;>simp at hl
 ·obtain⟨h1,h2⟩:=r3 x hx;refine⟨Nat.le_trans hs.len h1,by simpa using h2,λj hj1 _=>hs.hok.unborn j (by omega)⟩
