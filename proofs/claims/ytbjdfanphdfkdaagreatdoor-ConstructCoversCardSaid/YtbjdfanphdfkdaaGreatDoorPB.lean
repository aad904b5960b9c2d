/- A part of the proof. -/
import Derived.Test.YtbjdfanphdfkdaaGreatDoorPA
import Derived.RangeFuncIn
import Derived.OrdersIn
import Derived.RangeFuncLeaves
import Derived.RangeFuncRecord
set_option linter.all false
open Option renaming bind_eq_some_iff -> qX, map_eq_some_iff -> qJ, getD_some -> qP, map_some -> xW
open List renaming getElem?_eq_none -> qZ, getElem?_map -> qV, mem_cons -> qY, getElem?_append_left -> qU, getElem_mem -> qA, getElem?_append_right -> qB, map_cons -> qC, getElem?_set_ne -> qD, map_congr_left -> qE, mem_filter -> qG, mem_append -> qI, getElem?_take -> qL, getD_eq_getElem?_getD -> qM, getElem?_eq_getElem -> qN, getElem?_replicate -> qO, getElem?_set_self -> qS, mem_range -> xQ, mem_range'_1 -> xZ, length_cons -> xJ, length_map -> xK
open Nat renaming lt_or_ge -> qK, zero_add -> xX
open Bool renaming and_eq_true -> qW, not_eq_true' -> qH, or_eq_true -> qT
namespace Go.AL
open Go
def zfx(n c:Nat):List Nat:=List.range' n c
def zov(P:Program)(f:FuncId)(vs:Array Value)(w:World)(R:Ending->World->Prop):Prop:=
 (f≠4095/\Calls P f vs w R)\/
 (f=4095/\∃(b:Nat) (r:Loop) (us:Array Value),vs= #[.func (.yield b) #[] #[]]++us/\w.heap[b]?=some (.loop r)/\us.size=r.params.size/\
  RoundIn Fence.wide 0 P b r.fn ((r.params.zip us).foldl (λtmps (t,a)=>tmps.setIfInBounds t a) r.tmps) r.assign r.body w R)
theorem zov.mono{P:Program}{f:FuncId}{vs:Array Value}{w:World}{R R':Ending->World->Prop}(h:zov P f vs w R)(hr:∀e w',R e w'->R' e w'):zov P f vs w R':=by
 rcases h with⟨h1,h⟩ | ⟨h1,b,r,us,h2,h3,h4,h⟩
 ·exact .inl ⟨h1,h.mono hr⟩
 ·exact .inr ⟨h1,b,r,us,h2,h3,h4,h.mono hr⟩
def Ret(P:Program)(Γ:Glob)(f:FuncId)(args:List AV)(H:Heap)(v:AV)(H':Heap):Prop:=
 H.length<=H'.length/\
 ∀(w:World) (F:Nat->Prop) (ρ:Nat->RS) (vs:Array Value),HOK Γ w F ρ H->vs.size=args.length->
  (∀(j:Nat) (a:AV) (u:Value),args[j]?=some a->vs[j]?=some u->Rep w (Mu F ρ) ρ a u)->
  zov P f vs w λe w'=>∃u ρ',e= .returned u/\After Γ F H.length ρ w ρ' w' H' (zfx H.length (H'.length-H.length))/\Rep w' (Mu F ρ') ρ' v u
def AV.ren(σ:Nat->Nat):AV->AV
 |.sl id off n sz c=> .sl (σ id) off n sz c
 |.ptr id off=> .ptr (σ id) off
 |.agg cs=> .agg (renL σ cs)
 |.tup cs=> .tup (renL σ cs)
 |.clo f cs=> .clo f (renL σ cs)
 |a=>a
 where renL (σ:Nat->Nat):List AV->List AV
 | []=>[]
 |a::r=>a.ren σ::renL σ r
theorem zaz(σ:Nat->Nat)(l:List AV):AV.ren.renL σ l=l.map (AV.ren σ):=by
 induction l with
 |nil=>rfl
 |cons a r ih=>simp[AV.ren.renL,ih]
theorem qfj(σ:Nat->Nat)(k s p:Nat)(sn:List AV):(zbh k s p sn).map (AV.ren σ)=zbh k s p (sn.map (AV.ren σ)):=by
 simp[zbh,AV.ren,AV.ren.renL,zaz]
theorem znf{σ:Nat->Nat}{cs:List AV}{k s p:Nat}{sn:List AV}(h:cs.map (AV.ren σ)=zbh k s p sn):∃sn0,cs=zbh k s p sn0/\(AV.agg sn0).ren σ= .agg sn:=by
 unfold zbh at h;obtain⟨a,l1,rfl,ha,h⟩:=List.map_eq_cons_iff.1 h;obtain⟨b,l2,rfl,hb,h⟩:=List.map_eq_cons_iff.1 h;obtain⟨c,l3,rfl,hc,h⟩:=List.map_eq_cons_iff.1 h;obtain⟨d,l4,rfl,hd,h⟩:=List.map_eq_cons_iff.1 h;obtain rfl:=List.map_eq_nil_iff.1 h;cases a<;>simp[AV.ren]at ha;obtain⟨rfl,ha⟩:=ha;rw[zaz]at ha;obtain⟨y,rfl,hy⟩:=List.map_eq_singleton_iff.1 ha;cases y<;>simp[AV.ren]at hy;cases b<;>simp[AV.ren]at hb;cases c<;>simp[AV.ren]at hc;cases d<;>simp[AV.ren]at hd;obtain⟨rfl,rfl⟩:=hy;obtain⟨rfl,rfl⟩:=hb;obtain⟨rfl,rfl⟩:=hc;exact⟨_,rfl,by simp[AV.ren,hd]⟩
def AV.under(n:Nat):AV->Bool
 |.sl id _ _ _ _=>decide (id<n)
 |.ptr id _=>decide (id<n)
 |.agg cs=>underL n cs
 |.tup cs=>underL n cs
 |.clo _ cs=>underL n cs
 |_=>true
 where underL (n:Nat):List AV->Bool
 | []=>true
 |a::r=>a.under n && underL n r
theorem zby{n:Nat}{cs:List AV}(h:AV.under.underL n cs=true):∀(j:Nat) (a:AV),cs[j]?=some a->a.under n=true:=by
 induction cs with
 |nil=>intro j a hj;simp at hj
 |cons x r ih=>
  simp only[AV.under.underL,qW]at h;intro j a hj;cases j with
  |zero=>simp at hj;subst hj;exact h.1
  |succ j=>exact ih h.2 j a (by simpa using hj)
theorem IRep.unren{w:World}{M:Nat->Prop}{σ:Nat->Nat}{x:AV}{v:Value}(h:IRep w M x v):∀a,a.ren σ=x->IRep w M a v:=by
 induction h with
 |bool b=>intro a e;cases a<;>simp[AV.ren]at e;subst e;exact .bool _
 |int k n=>intro a e;cases a<;>simp[AV.ren]at e;obtain⟨rfl,rfl⟩:=e;exact .int _ _
 |str s=>intro a e;cases a<;>simp[AV.ren]at e;subst e;exact .str _
 |anyb b=>intro a e;cases a<;>simp[AV.ren]at e;exact .anyb _
 |junk v=>intro a e;cases a<;>simp[AV.ren]at e;exact .junk _
 |nil p c hc=>intro a e;cases a<;>simp[AV.ren]at e;obtain⟨rfl,rfl,rfl⟩:=e;exact .nil _ _ hc
 |vec cs n c b off cap vs hM hcell hrep hn hc ih=>
  intro a e;cases a<;>simp[AV.ren]at e;obtain⟨rfl,rfl,rfl⟩:=e;exact .vec _ _ _ b off cap vs hM hcell hrep hn hc
 |iptr cs p b off vs hM hcell hrep ih=>
  intro a e;cases a<;>simp[AV.ren]at e;obtain⟨rfl,rfl⟩:=e;exact .iptr _ _ b off vs hM hcell hrep
 |agg cs vs hl hrep ih=>
  intro a e;cases a<;>simp[AV.ren]at e;rename_i l;rw[zaz]at e;subst e;exact .agg l vs (by simpa using hl) (λj a v ha hv=>ih j (a.ren σ) v (by simp[ha]) hv a rfl)
 |tup cs vs hl hrep ih=>
  intro a e;cases a<;>simp[AV.ren]at e;rename_i l;rw[zaz]at e;subst e;exact .tup l vs (by simpa using hl) (λj a v ha hv=>ih j (a.ren σ) v (by simp[ha]) hv a rfl)
 |clo f cs vs hf hl hrep ih=>
  intro a e;cases a<;>simp[AV.ren]at e;rename_i f' l;obtain⟨rfl,e⟩:=e;rw[zaz]at e;subst e;exact .clo _ l vs hf (by simpa using hl) (λj a v ha hv=>ih j (a.ren σ) v (by simp[ha]) hv a rfl)
 |bnd f cs vs hf hl hrep ih=>
  intro a e;cases a<;>simp[AV.ren]at e;rename_i f' l;obtain⟨rfl,e⟩:=e;rw[zaz]at e;subst e;exact .bnd _ l vs hf (by simpa using hl) (λj a v ha hv=>ih j (a.ren σ) v (by simp[ha]) hv a rfl)
 |nilp=>
  intro a e;cases a<;>simp[AV.ren]at e;rename_i f' l;obtain⟨rfl,e⟩:=e;rw[zaz]at e;simp at e;subst e;exact .nilp
 |nilf=>
  intro a e;cases a<;>simp[AV.ren]at e;rename_i f' l;obtain⟨rfl,e⟩:=e;rw[zaz]at e;simp at e;subst e;exact .nilf
theorem Rep.unren{w:World}{M:Nat->Prop}{ρ ρ0:Nat->RS}{σ:Nat->Nat}{n:Nat}(hσ:∀i,i<n->ρ0 i=ρ (σ i)){x:AV}{v:Value}(h:Rep w M ρ x v):
  ∀a,a.ren σ=x->a.under n=true->Rep w M ρ0 a v:=by
 induction h with
 |imm x v h=>intro a e _;exact .imm _ _ (h.unren a e)
 |slDead id off m sz c b cap h hn hc=>
  intro a e hb;cases a<;>simp[AV.ren]at e;obtain⟨rfl,rfl,rfl,rfl,rfl⟩:=e;simp[AV.under]at hb;exact .slDead _ _ _ _ _ b cap ((hσ _ hb).trans h) hn hc
 |slAt id off m sz c b cap el mm h hs hn hc hm=>
  intro a e hb;cases a<;>simp[AV.ren]at e;obtain⟨rfl,rfl,rfl,rfl,rfl⟩:=e;simp[AV.under]at hb;exact .slAt _ _ _ _ _ b cap el mm ((hσ _ hb).trans h) hs hn hc hm
 |ptrDead id off b h=>
  intro a e hb;cases a<;>simp[AV.ren]at e;obtain⟨rfl,rfl⟩:=e;simp[AV.under]at hb;exact .ptrDead _ _ b ((hσ _ hb).trans h)
 |ptrAt id off b h hs=>
  intro a e hb;cases a<;>simp[AV.ren]at e;obtain⟨rfl,rfl⟩:=e;simp[AV.under]at hb;exact .ptrAt _ _ b ((hσ _ hb).trans h) hs
 |mapDead id b h=>
  intro a e hb;cases a<;>simp[AV.ren]at e;rename_i f' l;obtain⟨rfl,e⟩:=e;rw[zaz]at e;obtain⟨y,rfl,e⟩:=List.map_eq_singleton_iff.1 e;cases y<;>simp[AV.ren]at e;obtain⟨rfl,rfl⟩:=e;simp[AV.under,AV.under.underL]at hb;exact .mapDead _ b ((hσ _ hb).trans h)
 |mapAt id b h hs=>
  intro a e hb;cases a<;>simp[AV.ren]at e;rename_i f' l;obtain⟨rfl,e⟩:=e;rw[zaz]at e;obtain⟨y,rfl,e⟩:=List.map_eq_singleton_iff.1 e;cases y<;>simp[AV.ren]at e;obtain⟨rfl,rfl⟩:=e;simp[AV.under,AV.under.underL]at hb;exact .mapAt _ b ((hσ _ hb).trans h) hs
 |ydDead id b h=>
  intro a e hb;cases a<;>simp[AV.ren]at e;rename_i f' l;obtain⟨rfl,e⟩:=e;rw[zaz]at e;obtain⟨y,rfl,e⟩:=List.map_eq_singleton_iff.1 e;cases y<;>simp[AV.ren]at e;obtain⟨rfl,rfl⟩:=e;simp[AV.under,AV.under.underL]at hb;exact .ydDead _ b ((hσ _ hb).trans h)
 |ydAt id b h hs=>
  intro a e hb;cases a<;>simp[AV.ren]at e;rename_i f' l;obtain⟨rfl,e⟩:=e;rw[zaz]at e;obtain⟨y,rfl,e⟩:=List.map_eq_singleton_iff.1 e;cases y<;>simp[AV.ren]at e;obtain⟨rfl,rfl⟩:=e;simp[AV.under,AV.under.underL]at hb;exact .ydAt _ b ((hσ _ hb).trans h) hs
 |ydF id v h ih=>
  intro a e hb;cases a<;>simp[AV.ren]at e;rename_i f' l;obtain⟨rfl,e⟩:=e;rw[zaz]at e;obtain⟨y,hy,e1⟩:=List.map_eq_singleton_iff.1 e;subst hy;have h2:=ih y e1 (by simpa[AV.under,AV.under.underL]using hb);cases y<;>simp[AV.ren]at e1;rename_i f2 l2;obtain⟨rfl,e1⟩:=e1;rw[zaz]at e1;obtain⟨z,hz,e2⟩:=List.map_eq_singleton_iff.1 e1;subst hz;cases z<;>simp[AV.ren]at e2;obtain⟨rfl,rfl⟩:=e2;exact .ydF _ _ h2
 |agg cs vs hl hrep ih=>
  intro a e hb;cases a<;>simp[AV.ren]at e;rename_i l;rw[zaz]at e;subst e;exact .agg l vs (by simpa using hl) (λj a v ha hv=>ih j (a.ren σ) v (by simp[ha]) hv a rfl (zby (by simpa[AV.under]using hb) j a ha))
 |tup cs vs hl hrep ih=>
  intro a e hb;cases a<;>simp[AV.ren]at e;rename_i l;rw[zaz]at e;subst e;exact .tup l vs (by simpa using hl) (λj a v ha hv=>ih j (a.ren σ) v (by simp[ha]) hv a rfl (zby (by simpa[AV.under]using hb) j a ha))
 |clo f cs vs hf hl hrep ih=>
  intro a e hb;cases a<;>simp[AV.ren]at e;rename_i f' l;obtain⟨rfl,e⟩:=e;rw[zaz]at e;subst e;exact .clo _ l vs hf (by simpa using hl) (λj a v ha hv=>ih j (a.ren σ) v (by simp[ha]) hv a rfl (zby (by simpa[AV.under]using hb) j a ha))
 |bnd f cs vs hf hl hrep ih=>
  intro a e hb;cases a<;>simp[AV.ren]at e;rename_i f' l;obtain⟨rfl,e⟩:=e;rw[zaz]at e;subst e;exact .bnd _ l vs hf (by simpa using hl) (λj a v ha hv=>ih j (a.ren σ) v (by simp[ha]) hv a rfl (zby (by simpa[AV.under]using hb) j a ha))
theorem IRep.ren{w:World}{M:Nat->Prop}(σ:Nat->Nat){a:AV}{v:Value}(h:IRep w M a v):IRep w M (a.ren σ) v:=by
 induction h with
 |bool b=>exact .bool _
 |int k n=>exact .int _ _
 |str s=>exact .str _
 |anyb b=>exact .anyb _
 |junk v=>exact .junk _
 |nil p c hc=>exact .nil _ _ hc
 |vec cs n c b off cap vs hM hcell hrep hn hc ih=>exact .vec _ _ _ b off cap vs hM hcell hrep hn hc
 |iptr cs p b off vs hM hcell hrep ih=>exact .iptr _ _ b off vs hM hcell hrep
 |agg cs vs hl hrep ih=>
  simp only[AV.ren,zaz]
  exact .agg _ vs (by simpa using hl) (λj a v ha hv=>by
   simp only[qV,qJ]at ha;obtain⟨x,hx,rfl⟩:=ha;exact ih j x v hx hv)
 |tup cs vs hl hrep ih=>
  simp only[AV.ren,zaz]
  exact .tup _ vs (by simpa using hl) (λj a v ha hv=>by
   simp only[qV,qJ]at ha;obtain⟨x,hx,rfl⟩:=ha;exact ih j x v hx hv)
 |clo f cs vs hf hl hrep ih=>
  simp only[AV.ren,zaz]
  exact .clo _ _ vs hf (by simpa using hl) (λj a v ha hv=>by
   simp only[qV,qJ]at ha;obtain⟨x,hx,rfl⟩:=ha;exact ih j x v hx hv)
 |bnd f cs vs hf hl hrep ih=>
  simp only[AV.ren,zaz]
  exact .bnd _ _ vs hf (by simpa using hl) (λj a v ha hv=>by
   simp only[qV,qJ]at ha;obtain⟨x,hx,rfl⟩:=ha;exact ih j x v hx hv)
 |nilp=>exact .nilp
 |nilf=>exact .nilf
theorem Rep.ren{w:World}{M:Nat->Prop}{ρ ρ0:Nat->RS}{σ:Nat->Nat}(hσ:∀i,ρ0 i≠ .unborn->ρ (σ i)=ρ0 i){a:AV}{v:Value}(h:Rep w M ρ0 a v):Rep w M ρ (a.ren σ) v:=by
 induction h with
 |imm x v h=>exact .imm _ _ (h.ren σ)
 |slDead id off m sz c b cap h hn hc=>exact .slDead _ _ _ _ _ b cap ((hσ id (by rw[h];simp)).trans h) hn hc
 |slAt id off m sz c b cap el mm h hs hn hc hm=>exact .slAt _ _ _ _ _ b cap el mm ((hσ id (by rw[h];simp)).trans h) hs hn hc hm
 |ptrDead id off b h=>exact .ptrDead _ _ b ((hσ id (by rw[h];simp)).trans h)
 |ptrAt id off b h hs=>exact .ptrAt _ _ b ((hσ id (by rw[h];simp)).trans h) hs
 |mapDead id b h=>exact .mapDead _ b ((hσ id (by rw[h];simp)).trans h)
 |mapAt id b h hs=>exact .mapAt _ b ((hσ id (by rw[h];simp)).trans h) hs
 |ydDead id b h=>exact .ydDead _ b ((hσ id (by rw[h];simp)).trans h)
 |ydAt id b h hs=>exact .ydAt _ b ((hσ id (by rw[h];simp)).trans h) hs
 |ydF id v h ih=>exact .ydF _ _ ih
 |agg cs vs hl hrep ih=>
  simp only[AV.ren,zaz]
  exact .agg _ vs (by simpa using hl) (λj a v ha hv=>by
   simp only[qV,qJ]at ha;obtain⟨x,hx,rfl⟩:=ha;exact ih j x v hx hv)
 |tup cs vs hl hrep ih=>
  simp only[AV.ren,zaz]
  exact .tup _ vs (by simpa using hl) (λj a v ha hv=>by
   simp only[qV,qJ]at ha;obtain⟨x,hx,rfl⟩:=ha;exact ih j x v hx hv)
 |clo f cs vs hf hl hrep ih=>
  simp only[AV.ren,zaz]
  exact .clo _ _ vs hf (by simpa using hl) (λj a v ha hv=>by
   simp only[qV,qJ]at ha;obtain⟨x,hx,rfl⟩:=ha;exact ih j x v hx hv)
 |bnd f cs vs hf hl hrep ih=>
  simp only[AV.ren,zaz]
  exact .bnd _ _ vs hf (by simpa using hl) (λj a v ha hv=>by
   simp only[qV,qJ]at ha;obtain⟨x,hx,rfl⟩:=ha;exact ih j x v hx hv)
def zag(ids:List Nat)(k:Nat)(i:Nat):Nat:=if h:i<ids.length then ids[i]else k+(i-ids.length)
def renB(σ:Nat->Nat):Option (List AV)->Option (List AV)
 |none=>none
 |some cs=>some (cs.map (AV.ren σ))
def effs(σ:Nat->Nat):Nat->Heap->Eff
 |_,[]=>[]
 |i,c::r=>(σ i,renB σ c)::effs σ (i+1) r
inductive CallR0(P:Program)(Γ:Glob)(f:FuncId)(args:List AV)(k:Nat)(H:Heap):AV->Eff->List Nat->Nat->Prop
 |mk (ids:List Nat) (args0:List AV) (H0:Heap) (v0:AV) (H0':Heap) (hret:Ret P Γ f args0 H0 v0 H0')
   (hids:ids.length=H0.length) (hnd:ids.Nodup) (hlt:∀i∈ids,i<k) (hargs:args=args0.map (AV.ren (zag ids k)))
   (hbel:AV.under.underL ids.length args0=true)
   (hH:∀(i:Nat) (c:Option (List AV)),H0[i]?=some c->∃cs,c=some cs/\AV.under.underL ids.length cs=true/\H[zag ids k i]?=some (renB (zag ids k) c)):
   CallR0 P Γ f args k H (v0.ren (zag ids k)) (effs (zag ids k) 0 H0') ids (H0'.length-H0.length)
theorem zow{ids:List Nat}{k:Nat}(hnd:ids.Nodup)(hlt:∀i∈ids,i<k){i j:Nat}(h:zag ids k i=zag ids k j):i=j:=by
 unfold zag at h;split at h<;>split at h
 ·rename_i h1 h2;have hp:=List.pairwise_iff_getElem.1 hnd;rcases Nat.lt_trichotomy i j with h3 | h3 | h3
  ·exact absurd h (hp i j h1 h2 h3)
  ·exact h3
  ·exact absurd h.symm (hp j i h2 h1 h3)
 ·rename_i h1 h2;have:=hlt _ (qA h1);omega
 ·rename_i h1 h2;have:=hlt _ (qA h2);omega
 ·omega
theorem zgq:∀(e:Eff) (H:Heap),(zaf e H).length=H.length:=by
 intro e
 induction e with
 |nil=>intro H;rfl
 |cons p e ih=>intro H;obtain⟨i,c⟩:=p;simp[zaf,ih]
theorem zox(σ:Nat->Nat):∀(L:Heap) (i0:Nat) (H:Heap) (j:Nat),(∀i,i<L.length->σ (i0+i)≠j)->(zaf (effs σ i0 L) H)[j]?=H[j]?:=by
 intro L
 induction L with
 |nil=>intro i0 H j _;rfl
 |cons c L ih=>
  intro i0 H j h;simp only[effs,zaf];rw[ih (i0+1) _ j (λi hi=>by have:=h (i+1) (by simp;omega);rwa[show i0+(i+1)=i0+1+i from by omega]at this)];rw[qD];exact h 0 (by simp)
theorem ztl(σ:Nat->Nat)(hinj:∀i j,σ i=σ j->i=j):∀(L:Heap) (i0:Nat) (H:Heap) (i:Nat),(hi:i<L.length)->σ (i0+i)<H.length->
  (zaf (effs σ i0 L) H)[σ (i0+i)]?=some (renB σ L[i]):=by
 intro L
 induction L with
 |nil=>intro i0 H i hi;simp at hi
 |cons c L ih=>
  intro i0 H i hi hlt;simp only[effs,zaf];cases i with
  |zero=>
   rw[zox σ L (i0+1) _ _ (λi _ h=>by have:=hinj _ _ h;omega)];simp only[Nat.add_zero]at hlt ⊢;rw[qS hlt];rfl
  |succ i=>
   have e1:i0+(i+1)=i0+1+i:=by omega
   rw[e1]at hlt ⊢;rw[ih (i0+1) _ i (by simpa using hi) (by simpa using hlt)];rfl
theorem zyp{P:Program}{Γ:Glob}{w:World}{F:Nat->Prop}{ρ:Nat->RS}{H:Heap}{n0 k c:Nat}{f:FuncId}{args:List AV}{v:AV}{e:Eff}{rd:List Nat}{vs:Array Value}
  (ho:HOK Γ w F ρ H) (hk:k+c<=H.length) (hub:∀j,k<=j->j<k+c->ρ j= .unborn) (hcr:CallR0 P Γ f args k H v e rd c) (hsz:vs.size=args.length)
  (hrep:∀(j:Nat) (a:AV) (u:Value),args[j]?=some a->vs[j]?=some u->Rep w (Mu F ρ) ρ a u):
  zov P f vs w λen w'=>∃u ρ',en= .returned u/\After Γ F n0 ρ w ρ' w' (zaf e H) (zfx k c)/\Rep w' (Mu F ρ') ρ' v u:=by
 obtain⟨ids,args0,H0,v0,H0',hret,hids,hnd,hlt,rfl,hbel,hH⟩:=hcr
 rename List Nat=>ids
 generalize hσ:zag ids k=σ at*;have hinj:∀i j,σ i=σ j->i=j:=by intro i j h;subst hσ;exact zow hnd hlt h
 have hin:∀i,i<ids.length->σ i<k/\σ i∈ids:=by
  intro i hi;subst hσ;simp only[zag,hi,dif_pos];exact⟨hlt _ (qA hi),qA hi⟩
 have hout:∀i,ids.length<=i->σ i=k+(i-ids.length):=by
  intro i hi;subst hσ;simp only[zag];rw[dif_neg (by omega)]
 have hmem:∀j,j∈ids->∃i,i<ids.length/\σ i=j:=by
  intro j hj;obtain⟨i,hi,e⟩:=List.getElem_of_mem hj;refine⟨i,hi,?_⟩;subst hσ;simp only[zag,hi,dif_pos,e]
 obtain⟨hlen,hret⟩:=hret;let F0:Nat->Prop:=λb=>F b\/∃i,i∉ids/\ρ i= .here b
 let ρ0:Nat->RS:=λi=>if i<ids.length then ρ (σ i)else .unborn
 have hρ0:∀i,i<ids.length->ρ0 i=ρ (σ i):=λi hi=>by simp[ρ0,hi]
 have hρ0':∀i b,ρ0 i= .here b->i<ids.length/\ρ (σ i)= .here b:=by
  intro i b hi;simp only[ρ0]at hi;split at hi
  ·exact⟨by assumption,hi⟩
  ·simp at hi
 have hMu:∀b,Mu F0 ρ0 b↔Mu F ρ b:=by
  intro b;constructor
  ·rintro((h | ⟨i,_,h⟩) | ⟨i,h⟩)
   ·exact .inl h
   ·exact .inr ⟨i,h⟩
   ·exact .inr ⟨σ i,(hρ0' i b h).2⟩
  ·rintro(h | ⟨i,h⟩)
   ·exact .inl (.inl h)
   ·by_cases hi:i∈ids
    ·obtain⟨j,hj,rfl⟩:=hmem i hi;exact .inr ⟨j,(hρ0 j hj).trans h⟩
    ·exact .inl (.inr ⟨i,hi,h⟩)
 have hback:∀(a:AV) (u:Value),a.under ids.length=true->Rep w (Mu F ρ) ρ (a.ren σ) u->Rep w (Mu F0 ρ0) ρ0 a u:=by
  intro a u hb hr;have h1:Rep w (Mu F ρ) ρ0 a u:=hr.unren hρ0 a rfl hb;exact h1.kept (Kept.refl (λ_=>False) w) (λ_ x=>x.elim) (λb _ hb=>(hMu b).1 hb) (λi b hi=>ho.lt _ b (hρ0' i b hi).2) (λ_ _=> .inl rfl)
 have ho0:HOK Γ w F0 ρ0 H0:=by
  refine⟨?_,?_,?_,?_,?_,?_,?_⟩
  ·intro i j b hi hj;exact hinj _ _ (ho.inj _ _ b (hρ0' i b hi).2 (hρ0' j b hj).2)
  ·intro i b hi hF;obtain⟨h1,h2⟩:=hρ0' i b hi;rcases hF with hF | ⟨j,hj,hjb⟩
   ·exact ho.notF _ b h2 hF
   ·have:=ho.inj _ _ b h2 hjb;exact hj (this ▸ (hin i h1).2)
  ·rintro b (hF | ⟨j,hj,hjb⟩)
   ·exact ho.fLt b hF
   ·exact ho.lt j b hjb
  ·intro i hi;simp only[ρ0];rw[if_neg (by omega)]
  ·intro i cs hi
   have hil:i<ids.length:=by
    rw[hids];rcases qK i H0.length with h' | h'
    ·exact h'
    ·rw[qZ h']at hi;simp at hi
   obtain⟨cs',_,_,hc⟩:=hH i _ hi;obtain⟨b,hb⟩:=ho.alive (σ i) _ hc;exact⟨b,(hρ0 i hil).trans hb⟩
  ·intro i b hi;obtain⟨h1,h2⟩:=hρ0' i b hi;obtain⟨cs,g1,g2⟩:=ho.blk (σ i) b h2;have hil:i<H0.length:=by omega
   obtain⟨cs0,hcs0,hu0,hc⟩:=hH i H0[i] (by simp[hil]);rw[hc,hcs0]at g1;simp[renB]at g1;subst g1;refine⟨cs0,by simp[hil,hcs0],?_⟩;rcases g2 with⟨el,m,g2,g3,g4,g5⟩ | ⟨es,g2,g3,g4⟩ | ⟨r,kk,ss,pp,sn,g2,g3,g4,g5⟩
   ·refine .inl ⟨el,m,g2,by simpa using g3,g4,λj a ha=>?_⟩;obtain⟨u,hu,hr⟩:=g5 j (a.ren σ) (by simp[ha]);exact⟨u,hu,hback a u (zby hu0 j a ha) hr⟩
   ·refine .inr (.inl ⟨es,g2,by simpa using g3,λj e he=>?_⟩);obtain⟨q0,k,v,q1,q2,q3,q4⟩:=g4 j e he;simp only[qV,qJ]at q1 q2;obtain⟨k0,q1,rfl⟩:=q1;obtain⟨v0,q2,rfl⟩:=q2;exact⟨q0,k0,v0,q1,q2,hback _ _ (zby hu0 _ _ q1) q3,hback _ _ (zby hu0 _ _ q2) q4⟩
   ·obtain⟨sn0,e1,e2⟩:=znf g3;rw[<-e2]at g5;subst e1;exact .inr (.inr ⟨r,kk,ss,pp,sn0,g2,rfl,g4,hback (.agg sn0) _ (zby hu0 3 _ rfl) g5⟩)
  ·intro g cs hg;exact(ho.glob g cs hg).weaken (λb _ hb=>(hMu b).1 hb)
 have hcall:=hret w F0 ρ0 vs ho0 (by simpa using hsz) (λj a u ha hu=>hback a u (zby hbel j a ha) (hrep j (a.ren σ) u (by simp[ha]) hu));refine hcall.mono ?_;rintro en w' ⟨u,ρ1,rfl,hA,hr⟩;let ρ':Nat->RS:=λj=>if k<=j/\j<k+(H0'.length-H0.length)then ρ1 (ids.length+(j-k))else open Classical in if h:∃i,i<ids.length/\σ i=j then ρ1 (Classical.choose h)else ρ j
 have hold1:∀i,i<ids.length->ρ1 i=ρ (σ i)\/(ρ (σ i)≠ .unborn/\ρ1 i= .dead):=by
  intro i hi;by_cases hu:ρ0 i= .unborn
  ·exact .inl (by rw[hA.still i hu (by simp[zfx];omega),<-hρ0 i hi,hu])
  ·rcases hA.ext i hu with h | ⟨_,h⟩
   ·exact .inl (by rw[h,hρ0 i hi])
   ·exact .inr ⟨by rw[<-hρ0 i hi];exact hu,h⟩
 have hin1:∀i,i<ids.length->ρ' (σ i)=ρ1 i:=by
  intro i hi;simp only[ρ'];rw[if_neg (by have:=(hin i hi).1;omega)];have hex:∃i',i'<ids.length/\σ i'=σ i:=⟨i,hi,rfl⟩
  rw[dif_pos hex];exact congrArg ρ1 (hinj _ _ (Classical.choose_spec hex).2)
 have hnew1:∀i,ids.length<=i->i<H0'.length->ρ' (σ i)=ρ1 i:=by
  intro i h1 h2;rw[hout i h1];simp only[ρ'];rw[if_pos (by omega)];congr 1;omega
 have hkeep:∀j,¬(k<=j/\j<k+(H0'.length-H0.length))->j∉ids->ρ' j=ρ j:=λj hj hji=>by
  simp only[ρ'];rw[if_neg hj,dif_neg];rintro⟨i,hi,rfl⟩;exact hji (hin i hi).2
 have hids:∀j,j∈ids->ρ' j=ρ j\/(ρ j≠ .unborn/\ρ' j= .dead):=by
  intro j hj;obtain⟨i,hi,rfl⟩:=hmem j hj;rw[hin1 i hi];exact hold1 i hi
 have hσ1:∀i,ρ1 i≠ .unborn->ρ' (σ i)=ρ1 i:=by
  intro i hi;rcases qK i ids.length with h | h
  ·exact hin1 i h
  ·rcases qK i H0'.length with h' | h'
   ·exact hnew1 i h h'
   ·exact absurd (hA.hok.unborn i h') hi
 have hinv:∀j b,ρ' j= .here b->(∃i,σ i=j/\ρ1 i= .here b)\/(j∉ids/\ρ j= .here b/\¬(k<=j/\j<k+(H0'.length-H0.length))):=by
  intro j b hj;by_cases hkj:k<=j/\j<k+(H0'.length-H0.length)
  ·simp only[ρ']at hj;rw[if_pos hkj]at hj;exact .inl ⟨ids.length+(j-k),by rw[hout _ (by omega)];omega,hj⟩
  ·by_cases hji:j∈ids
   ·obtain⟨i,hi,rfl⟩:=hmem j hji;exact .inl ⟨i,rfl,(hin1 i hi).symm.trans hj⟩
   ·rw[hkeep j hkj hji]at hj;exact .inr ⟨hji,hj,hkj⟩
 have hMu':∀b,Mu F0 ρ1 b↔Mu F ρ' b:=by
  intro b;constructor
  ·rintro((h | ⟨i,hi,h⟩) | ⟨i,h⟩)
   ·exact .inl h
   ·refine .inr ⟨i,?_⟩;rw[hkeep i ?_ hi]
    ·exact h
    ·intro hki;rw[hub i hki.1 hki.2]at h;simp at h
   ·exact .inr ⟨σ i,(hσ1 i (by rw[h];simp)).trans h⟩
  ·rintro(h | ⟨j,h⟩)
   ·exact .inl (.inl h)
   ·rcases hinv j b h with⟨i,_,hi⟩ | ⟨hji,hj,_⟩
    ·exact .inr ⟨i,hi⟩
    ·exact .inl (.inr ⟨j,hji,hj⟩)
 have hfwd:∀(a:AV) (u:Value),Rep w' (Mu F0 ρ1) ρ1 a u->Rep w' (Mu F ρ') ρ' (a.ren σ) u:=by
  intro a u hr;have h1:=hr.kept (M':=Mu F ρ') (ρ':=ρ1) (Kept.refl (λ_=>False) w') (λ_ x=>x.elim) (λb _ hb=>(hMu' b).2 hb) hA.hok.lt (λ_ _=> .inl rfl);exact h1.ren hσ1
 have hkept:Kept (λb=>∃i,ρ i= .here b) w w':=hA.kept.mono (λb _ ⟨i,hi⟩=>⟨σ i,(hρ0' i b hi).2⟩)
 have hold':∀i b,ρ' i= .here b->(∃j,ρ j= .here b)\/w.heap.size<=b:=by
  intro i b hi;rcases hinv i b hi with⟨j,_,hj⟩ | ⟨_,hj,_⟩
  ·rcases hA.old j b hj with⟨l,hl⟩ | h
   ·exact .inl ⟨σ l,(hρ0' l b hl).2⟩
   ·exact .inr h
  ·exact .inl ⟨i,hj⟩
 have hrest:∀(a:AV) (u:Value),Rep w (Mu F ρ) ρ a u->Rep w' (Mu F ρ') ρ' a u:=by
  intro a u hr;refine hr.kept hkept (λ_ hb=> .inr hb) (Mu.mono hold') ho.lt (λi hi=>?_);by_cases hji:i∈ids
  ·exact(hids i hji).imp id (λx=>x.2)
  ·exact .inl (hkeep i (λhki=>hi (hub i hki.1 hki.2)) hji)
 have hσlt:∀i,i<H0'.length->σ i<H.length:=by
  intro i hi;rcases qK i ids.length with h | h
  ·have:=(hin i h).1;omega
  ·rw[hout i h];omega
 refine⟨u,ρ',rfl,⟨⟨?_,?_,?_,?_,?_,?_,?_⟩,hkept,?_,hold',?_⟩,hfwd _ _ hr⟩
 ·intro i j b hi hj;rcases hinv i b hi with⟨p,rfl,hp⟩ | ⟨h1,h2,h3⟩<;>rcases hinv j b hj with⟨q,rfl,hq⟩ | ⟨h4,h5,h6⟩
  ·rw[hA.hok.inj p q b hp hq]
  ·exact absurd (Or.inr ⟨j,h4,h5⟩) (hA.hok.notF p b hp)
  ·exact absurd (Or.inr ⟨i,h1,h2⟩) (hA.hok.notF q b hq)
  ·exact ho.inj i j b h2 h5
 ·intro i b hi hF;rcases hinv i b hi with⟨p,rfl,hp⟩ | ⟨h1,h2,h3⟩
  ·exact hA.hok.notF p b hp (.inl hF)
  ·exact ho.notF i b h2 hF
 ·intro b hF;exact Nat.lt_of_lt_of_le (ho.fLt b hF) hkept.size
 ·intro i hi;rw[zgq]at hi;rw[hkeep i (by omega) (λhji=>by have:=hlt i hji;omega)];exact ho.unborn i hi
 ·intro j cs hj;by_cases hex:∃i,i<H0'.length/\σ i=j
  ·obtain⟨i,hi,rfl⟩:=hex;have hh:=ztl σ hinj H0' 0 H i hi (by simpa using hσlt i hi);simp only[xX]at hh;rw[hh]at hj;cases hc:H0'[i]with
   |none=>rw[hc]at hj;simp[renB]at hj
   |some cs1=>
    obtain⟨b,hb⟩:=hA.hok.alive i cs1 (by simp[hi,hc]);exact⟨b,(hσ1 i (by rw[hb];simp)).trans hb⟩
  ·rw[zox σ H0' 0 H j (λi hi h=>hex ⟨i,hi,by simpa using h⟩)]at hj;obtain⟨b,hb⟩:=ho.alive j cs hj;refine⟨b,?_⟩;rw[hkeep j ?_ ?_]
   ·exact hb
   ·intro hki;rw[hub j hki.1 hki.2]at hb;simp at hb
   ·intro hji;obtain⟨i,hi,e⟩:=hmem j hji;exact hex ⟨i,by omega,e⟩
 ·intro j b hj;rcases hinv j b hj with⟨i,rfl,hi⟩ | ⟨h1,h2,h3⟩
  ·obtain⟨cs,g1,g2⟩:=hA.hok.blk i b hi
   have hil:i<H0'.length:=by
    rcases qK i H0'.length with h' | h'
    ·exact h'
    ·rw[qZ h']at g1;simp at g1
   have hh:=ztl σ hinj H0' 0 H i hil (by simpa using hσlt i hil);simp only[xX]at hh;have hcc:H0'[i]=some cs:=by rw[qN hil]at g1;simpa using g1
   refine⟨cs.map (AV.ren σ),by rw[hh,hcc];rfl,?_⟩;rcases g2 with⟨el,m,g2,g3,g4,g5⟩ | ⟨es,g2,g3,g4⟩ | ⟨r,kk,ss,pp,sn,g2,g3,g4,g5⟩
   ·refine .inl ⟨el,m,g2,by simpa using g3,g4,λj a ha=>?_⟩;simp only[qV,qJ]at ha;obtain⟨x,hx,rfl⟩:=ha;obtain⟨y,hy,hyr⟩:=g5 j x hx;exact⟨y,hy,hfwd _ _ hyr⟩
   ·refine .inr (.inl ⟨es,g2,by simpa using g3,λj e he=>?_⟩);obtain⟨q0,k,v,q1,q2,q3,q4⟩:=g4 j e he;exact⟨q0,k.ren σ,v.ren σ,by simp[q1],by simp[q2],hfwd _ _ q3,hfwd _ _ q4⟩
   ·subst g3;rw[qfj];have:=hfwd _ _ g5;simp only[AV.ren,zaz]at this;exact .inr (.inr ⟨r,kk,ss,pp,_,g2,rfl,g4,this⟩)
  ·obtain⟨cs,g1,g2⟩:=ho.blk j b h2
   have hmiss:∀i,i<H0'.length->σ (0+i)≠j:=by
    intro i hi h;rw[xX]at h;rcases qK i ids.length with h' | h'
    ·exact h1 (h ▸ (hin i h').2)
    ·rw[hout i h']at h;omega
   have hsame:=hA.kept.same b (ho.lt j b h2) (by
    rintro⟨i,hi⟩;obtain⟨h4,h5⟩:=hρ0' i b hi;have:=ho.inj _ _ b h5 h2;exact h1 (this ▸ (hin i h4).2))
   exact⟨cs,by rw[zox σ H0' 0 H j hmiss];exact g1,g2.mono hsame (λ_ _ _=>hrest _ _)⟩
 ·intro g cs hg;exact(ho.glob g cs hg).kept hkept (λ_ hb=> .inr hb) (Mu.mono hold')
 ·intro i hi;by_cases hji:i∈ids
  ·exact(hids i hji).imp id (λx=>⟨Nat.zero_le _,x.2⟩)
  ·exact .inl (hkeep i (λhki=>hi (hub i hki.1 hki.2)) hji)
 ·intro i hi hn;by_cases hji:i∈ids
  ·rcases hids i hji with h | ⟨h,_⟩
   ·rw[h];exact hi
   ·exact absurd hi h
  ·rw[hkeep i ?_ hji]
   ·exact hi
   ·intro hki;exact hn (by simp[zfx];omega)
inductive CallR(P:Program)(Γ:Glob)(f:FuncId)(args:List AV)(k:Nat)(H:Heap):AV->Eff->List Nat->Nat->Prop
 |base {v:AV} {e:Eff} {rd:List Nat} {c:Nat} (h:CallR0 P Γ f args k H v e rd c):CallR P Γ f args k H v e rd c
 |thin {v:AV} {e:Eff} {rd:List Nat} {c:Nat} (p:Nat->Bool) (h:CallR P Γ f args k H v e rd c) (hp:∀x∈e,p x.1=false->x.1∈rd/\∃cs,x.2=some cs/\getB H x.1=some cs):
   CallR P Γ f args k H v (e.filter λx=>p x.1) rd c
theorem qtf{H:Heap}{i:Nat}{cs:List AV}(h:getB H i=some cs):H.set i (some cs)=H:=by
 have h1:=zch h;apply List.ext_getElem?;intro j;by_cases e:i=j
 ·subst e
  have hl:i<H.length:=by
   rcases qK i H.length with h' | h'
   ·exact h'
   ·rw[qZ h']at h1;simp at h1
  rw[qS hl,h1]
 ·rw[qD e]
theorem zla(p:Nat->Bool):∀(e:Eff) (H:Heap),(∀x∈e,p x.1=false->∃cs,x.2=some cs/\getB H x.1=some cs)->zaf (e.filter λx=>p x.1) H=zaf e H:=by
 intro e
 induction e with
 |nil=>intro H _;rfl
 |cons x e ih=>
  intro H h;obtain⟨i,c⟩:=x;cases hpi:p i with
  |true=>
   rw[List.filter_cons_of_pos (by simpa using hpi)];simp only[zaf];refine ih _ (λy hy hpy=>?_);obtain⟨cs,h1,h2⟩:=h y (by simp[hy]) hpy;refine⟨cs,h1,?_⟩;have hne:i≠y.1:=by intro e2;rw[e2,hpy]at hpi;simp at hpi
   unfold getB at h2 ⊢;rw[qD hne];exact h2
  |false=>
   rw[List.filter_cons_of_neg (by simp[hpi])];obtain⟨cs,h1,h2⟩:=h (i,c) (by simp) hpi;simp only at h1;subst h1;simp only[zaf];rw[qtf h2];exact ih H (λy hy hpy=>h y (by simp[hy]) hpy)
theorem zrs{P:Program}{Γ:Glob}{w:World}{F:Nat->Prop}{ρ:Nat->RS}{H:Heap}{n0 k c:Nat}{f:FuncId}{args:List AV}{v:AV}{e:Eff}{rd:List Nat}{vs:Array Value}
  (ho:HOK Γ w F ρ H) (hk:k+c<=H.length) (hub:∀j,k<=j->j<k+c->ρ j= .unborn) (hcr:CallR P Γ f args k H v e rd c) (hsz:vs.size=args.length)
  (hrep:∀(j:Nat) (a:AV) (u:Value),args[j]?=some a->vs[j]?=some u->Rep w (Mu F ρ) ρ a u):
  zov P f vs w λen w'=>∃u ρ',en= .returned u/\After Γ F n0 ρ w ρ' w' (zaf e H) (zfx k c)/\Rep w' (Mu F ρ') ρ' v u:=by
 induction hcr with
 |base h=>exact zyp ho hk hub h hsz hrep
 |thin p h hp ih=>
  rw[zla p _ _ (λx hx hpx=>(hp x hx hpx).2)];exact ih hk hub
structure It where
 v:AV
 e:Eff
 rd:List Nat
 k:Nat
 c:Nat
def Body(P:Program)(Γ:Glob)(n0:Nat)(ck:CK)(E:Env)(H:Heap)(it:It):Prop:=
 match ck with
 |.call f args=>CallR P Γ f (args.map (val E)) it.k H it.v it.e it.rd it.c
 |.callc x args=>∃f caps,val E x= .clo f caps/\okC (okFn P) f=true/\CallR P Γ (cloF f) (cloA f (args.map (val E)) caps) it.k H it.v it.e it.rd it.c
 |ck=>evK n0 it.k ck (val E) H=some (it.v,it.e,it.rd)/\it.c=cntK ck
def gdB:AV->Bool->Option Bool
 |.bool b,want=>some (b == want)
 |.tup [],_=>some false
 |_,_=>none
def Stp(P:Program)(Γ:Glob)(n0:Nat)(o:COp)(E:Env)(H:Heap)(it:It):Prop:=
 match o.g with
 |none=>Body P Γ n0 o.k E H it
 |some (d,want)=>∃b,gdB (E d) want=some b/\if b=true then Body P Γ n0 o.k E H it else(it.v= .junk\/it.v= .tup [])/\it.e=[]/\it.rd=[]/\it.c=0
def keys(e:Eff):List Nat:=e.map (·.1)
theorem zoy:∀(e:Eff) (H:Heap) (j:Nat),j∉keys e->(zaf e H)[j]?=H[j]?:=by
 intro e
 induction e with
 |nil=>intro H j _;rfl
 |cons p e ih=>
  obtain⟨i,c⟩:=p;intro H j hj;simp only[keys,qC,qY,not_or]at hj;simp only[zaf];rw[ih _ j hj.2,qD (λx=>hj.1 x.symm)]
theorem qfk(e:Eff):∀(H:Heap) (i:Nat) (c:Option (List AV)),i∉keys e->zaf e (H.set i c)=(zaf e H).set i c:=by
 induction e with
 |nil=>intro H i c _;rfl
 |cons p e ih=>
  obtain⟨j,d⟩:=p;intro H i c hi;simp only[keys,qC,qY,not_or]at hi;simp only[zaf];rw[List.set_comm _ _ hi.1,ih _ i c hi.2]
theorem zyq:∀(e1 e2:Eff) (H:Heap),(∀i,i∈keys e1->i∉keys e2)->zaf e2 (zaf e1 H)=zaf e1 (zaf e2 H):=by
 intro e1
 induction e1 with
 |nil=>intro e2 H _;rfl
 |cons p e1 ih=>
  obtain⟨j,d⟩:=p;intro e2 H h;simp only[zaf];rw[ih e2 _ (λi hi=>h i (by simp only[keys,qC,qY];exact .inr hi))];rw[qfk e2 H j d (h j (by simp[keys]))]
def zyr(l:List Nat)(H H2:Heap):Prop:= ∀j∈l,getB H2 j=getB H j
theorem zrt{H H2:Heap}{j:Nat}(h:H2[j]?=H[j]?):getB H2 j=getB H j:=by unfold getB;rw[h]
theorem zka{H H2:Heap}{sz n:Nat}{x:AV}{cs:List AV}{rd:List Nat}(h:zdz H sz n x=some (cs,rd))(ha:zyr rd H H2):zdz H2 sz n x=some (cs,rd):=by
 cases x<;>simp only[zdz]at h ⊢ <;> try (exact h)
 case sl id off m s c=>
  split at h
  ·rename_i cs' hg;have h3:=(zac h).2;simp at h3;obtain⟨rfl,rfl⟩:=h3;rw[ha id (by simp),hg];exact h
  ·simp at h
theorem ztm{n0 fresh sz bytes:Nat}{H H2:Heap}{s x:AV}{r:Res}(h:zcd n0 fresh H sz bytes s x=some r)(ha:zyr r.2.2 H H2):zcd n0 fresh H2 sz bytes s x=some r:=by
 unfold zcd at h ⊢;simp only[qX]at h ⊢;obtain⟨m,hm,⟨xs,xr⟩,hxs,h⟩:=h;obtain⟨v,e,rd⟩:=r;simp only at ha
 have hsub:∀j,j∈xr->j∈rd:=by
  by_cases hm0:m=0
  ·simp only[if_pos hm0]at h;cases s<;>simp at h
   ·obtain⟨_,_,rfl⟩:=h;exact λj hj=>hj
   ·obtain⟨_,_,rfl⟩:=h;exact λj hj=>hj
  ·simp only[if_neg hm0]at h;cases s<;>simp only at h<;>try (simp at h;done)
   ·have:=(zac h).2;simp at this;obtain⟨_,_,rfl⟩:=this;exact λj hj=>hj
   ·split at h
    ·have h2:=(zac h).2;split at h2
     ·simp at h2;obtain⟨_,_,rfl⟩:=h2;exact λj hj=>by simp[hj]
     ·have h3:=(zac h2).2;simp at h3;obtain⟨_,_,rfl⟩:=h3;exact λj hj=>by simp[hj]
    ·simp at h
 refine⟨m,hm,(xs,xr),zka hxs (λj hj=>ha j (hsub j hj)),?_⟩;by_cases hm0:m=0
 ·simp only[if_pos hm0]at h ⊢;exact h
 ·simp only[if_neg hm0]at h ⊢;cases s<;>simp only at h ⊢ <;> try (exact h)
  rename_i id off n s' c;split at h
  ·rename_i cs hg
   have hid:id∈rd:=by
    have h2:=(zac h).2;split at h2
    ·simp at h2;obtain⟨_,_,rfl⟩:=h2;simp
    ·have h3:=(zac h2).2;simp at h3;obtain⟨_,_,rfl⟩:=h3;simp
   rw[ha id hid,hg];exact h
  ·simp at h
theorem zoz{V V2:Opd->AV}:∀(ps:List (Nat×Nat×Opd)) (cs:List AV),(∀x∈ps.map (·.2.2),V x=V2 x)->zfm V cs ps=zfm V2 cs ps:=by
 intro ps
 induction ps with
 |nil=>intro cs _;rfl
 |cons p ps ih=>
  obtain⟨off,s,x⟩:=p;intro cs h;simp only[zfm];rw[h x (by simp),ih _ (λy hy=>h y (by simp only[qC,qY];exact .inr hy))]
theorem zng{V V2:Opd->AV}{d:Nat}{x:Option Opd}(h:∀y∈x.toList,V y=V2 y):zbq V d x=zbq V2 d x:=by
 cases x with
 |none=>rfl
 |some y=>simp only[zbq];rw[h y (by simp)]
theorem zif{V V2:Opd->AV}{sz:Nat}{x:AV}{lo hi mx:Option Opd}(h:∀y∈lo.toList++hi.toList++mx.toList,V y=V2 y):zeh V sz x lo hi mx=zeh V2 sz x lo hi mx:=by
 have h1:∀d,zbq V d lo=zbq V2 d lo:=λd=>zng (λy hy=>h y (by simp;exact .inl (by simpa using hy)))
 have h2:∀d,zbq V d hi=zbq V2 d hi:=λd=>zng (λy hy=>h y (by simp;exact .inr (.inl (by simpa using hy))))
 cases x<;>simp only[zeh]<;>(simp only[h1,h2];cases mx with
  |none=>rfl
  |some m=>simp only[h m (by simp)])
theorem zvv{n0 fresh:Nat}{k:CK}{V V2:Opd->AV}{H H2:Heap}{r:Res}(h:evK n0 fresh k V H=some r)(hV:∀x∈k.opds,V x=V2 x)(ha:zyr r.2.2 H H2):
  evK n0 fresh k V2 H2=some r:=by
 obtain⟨v,e,rd⟩:=r;simp only at ha;cases k<;>simp only[CK.opds,qY,List.not_mem_nil,or_false,forall_eq_or_imp,forall_eq]at hV<;>simp only[evK]at h ⊢ <;> try (exact h)
 case mov x=>rw[<-hV];exact h
 case pick c a b=>rw[<-hV.1,<-hV.2.1,<-hV.2.2];exact h
 case box x=>rw[<-hV];exact h
 case build z ps=>rw[<-zoz ps z hV];exact h
 case bsl n sz z ps=>rw[<-zoz ps z hV];exact h
 case load ag sz x=>
  rw[<-hV];split at h
  ·rename_i id off hv;split at h
   ·rename_i cs hg;have h3:=(zac h).2;simp at h3;obtain⟨rfl,rfl,rfl⟩:=h3;rw[ha id (by simp),hg];exact h
   ·simp at h
  ·exact h
  ·simp at h
 case store sz x y=>
  rw[<-hV.1,<-hV.2];split at h
  ·rename_i id off hv;split at h
   ·rename_i cs hg;have h3:=(zac h).2;simp at h3;obtain⟨rfl,rfl,rfl⟩:=h3;rw[ha id (by simp),hg];exact h
   ·simp at h
  ·simp at h
 case nilck x=>rw[<-hV];exact h
 case bin op x y=>rw[<-hV.1,<-hV.2];exact h
 case beq neg x y=>rw[<-hV.1,<-hV.2];exact h
 case snil neg x=>rw[<-hV];exact h
 case un op x=>rw[<-hV];exact h
 case conv k x=>rw[<-hV];exact h
 case b2s x=>
  rw[<-hV];simp only[qX]at h ⊢;obtain⟨n,hn,⟨xs,xr⟩,hxs,l,hl,h⟩:=h;simp at h;obtain⟨rfl,rfl,rfl⟩:=h;exact⟨n,hn,(xs,xr),zka hxs ha,l,hl,rfl⟩
 case mksl sz bytes z x y=>rw[<-hV.1,<-hV.2];exact h
 case slice sz x lo hi mx=>rw[<-hV.1,<-zif hV.2];exact h
 case slarr n sz x lo hi mx=>
  rw[<-hV.1];split at h
  ·rename_i id off hv;split at h
   ·rename_i cs hg;have h3:=(zac h).2;simp only[qX]at h3;obtain⟨u,_,h3⟩:=h3;simp at h3;obtain⟨rfl,rfl,rfl⟩:=h3;rw[ha id (by simp),hg,<-zif hV.2];exact h
   ·simp at h
  ·rw[<-zif hV.2];exact h
  ·simp at h
 case fld off x=>rw[<-hV];exact h
 case part ag sz off x=>rw[<-hV];exact h
 case idx sz x y=>rw[<-hV.1,<-hV.2];exact h
 case idxa n sz x y=>rw[<-hV.1,<-hV.2];exact h
 case idxv n ag sz x y=>rw[<-hV.1,<-hV.2];exact h
 case idxs x y=>rw[<-hV.1,<-hV.2];exact h
 case ext x i=>rw[<-hV];exact h
 case len st x=>rw[<-hV];exact h
 case append sz bytes s x=>rw[<-hV.1,<-hV.2];exact ztm h ha
 case copy sz d s=>
  rw[<-hV.1,<-hV.2];split at h
  ·rename_i id off n s' c hv;split at h
   ·rename_i cs hg;simp only[qX]at h;obtain⟨m,hm,⟨xs,xr⟩,hxs,h⟩:=h;have h3:=(zac h).2;simp at h3;obtain⟨rfl,rfl,rfl⟩:=h3;rw[ha id (by simp),hg];simp only[qX];exact⟨m,hm,(xs,xr),zka hxs (λj hj=>ha j (by simp[hj])),h⟩
   ·simp at h
  ·simp at h
 case max x y=>rw[<-hV.1,<-hV.2];exact h
 case mkfn f caps=>rw[<-qE hV];exact h
 case aeq neg ks x y=>rw[<-hV.1,<-hV.2];exact h
 case pnil neg x=>rw[<-hV];exact h
 case bits64 b x y z=>rw[<-hV.1,<-hV.2.1,<-hV.2.2];exact h
 case apz sz bytes z s x=>
  rw[<-hV.1,<-hV.2];generalize V s=sv at*;generalize V x=xv at*;unfold apzA at h ⊢;cases xv<;>simp only at h ⊢ <;> try (simp at h;done)
  rename_i kk m;cases sv<;>simp only at h ⊢ <;> try (exact h)
  have h2:=(zac h).2;split at h2
  ·rename_i cs hg;have h3:=(zac h2).2;simp at h3;obtain⟨rfl,rfl,rfl⟩:=h3;rw[ha _ (List.mem_singleton.2 rfl)];exact h
  ·simp at h2
 case clr sz z x=>
  rw[<-hV];split at h
  ·exact h
  ·rename_i id off n s c hv;split at h
   ·rename_i cs hg;have h3:=(zac h).2;simp at h3;obtain⟨rfl,rfl,rfl⟩:=h3;rw[ha id (by simp),hg];exact h
   ·simp at h
  ·simp at h
 case mkbnd f l=>rw[<-qE hV];exact h
 case mlook ks z x y=>
  rw[<-hV.1,<-hV.2];split at h
  ·rename_i f id p kk h1 h2;split at h
   ·rename_i cs hg;have h3:=(zac h).2;rw[qX]at h3;obtain⟨r,_,h3⟩:=h3;simp at h3;obtain⟨rfl,rfl,rfl⟩:=h3;rw[ha id (by simp),hg];exact h
   ·simp at h
  ·simp at h
 case mentry ks z x y=>
  rw[<-hV.1,<-hV.2];split at h
  ·rename_i f id p kk h1 h2;split at h
   ·rename_i cs hg;have h3:=(zac h).2;rw[qX]at h3;obtain⟨r,_,h3⟩:=h3
    have hrd:rd=[id]:=by
     cases r with
     |some i=>simp at h3;exact h3.2.2.symm
     |none=>have:=(zac h3).2;simp at this;exact this.2.2.symm
    subst hrd;rw[ha id (by simp),hg];exact h
   ·simp at h
  ·simp at h
 case mstore x s y=>
  rw[<-hV.1,<-hV.2.1,<-hV.2.2];split at h
  ·rename_i f id p kk n h1 h2;split at h
   ·rename_i cs hg;have h3:=(zac h).2;simp at h3;obtain⟨rfl,rfl,rfl⟩:=h3;rw[ha id (by simp),hg];exact h
   ·simp at h
  ·simp at h
theorem CallR0.local{P:Program}{Γ:Glob}{f:FuncId}{args:List AV}{k c:Nat}{H H2:Heap}{v:AV}{e:Eff}{rd:List Nat}(h:CallR0 P Γ f args k H v e rd c)(ha:zyr rd H H2):
  CallR0 P Γ f args k H2 v e rd c:=by
 obtain⟨ids,args0,H0,v0,H0',hret,hids,hnd,hlt,rfl,hbel,hH⟩:=h
 rename List Nat=>ids
 refine .mk ids args0 H0 v0 H0' hret hids hnd hlt rfl hbel (λi c hc=>?_);obtain⟨cs,h1,h2,h3⟩:=hH i c hc;refine⟨cs,h1,h2,?_⟩
 have hi:i<ids.length:=by
  rw[hids];rcases qK i H0.length with h' | h'
  ·exact h'
  ·rw[qZ h']at hc;simp at hc
 have hm:zag ids k i∈ids:=by simp only[zag,hi,dif_pos];exact qA hi
 have h4:=ha _ hm;have h5:getB H (zag ids k i)=some (cs.map (AV.ren (zag ids k))):=by simp[getB,h3,h1,renB]
 rw[h5]at h4;have h6:=zch h4;rw[h6,h1];rfl
theorem CallR.local{P:Program}{Γ:Glob}{f:FuncId}{args:List AV}{k c:Nat}{H H2:Heap}{v:AV}{e:Eff}{rd:List Nat}(h:CallR P Γ f args k H v e rd c)(ha:zyr rd H H2):
  CallR P Γ f args k H2 v e rd c:=by
 induction h with
 |base h=>exact .base (h.local ha)
 |thin p h hp ih=>
  refine .thin p (ih ha) (λx hx hpx=>?_);obtain⟨h1,cs,h2,h3⟩:=hp x hx hpx;exact⟨h1,cs,h2,by rw[ha _ h1];exact h3⟩
theorem Body.local{P:Program}{Γ:Glob}{n0:Nat}{ck:CK}{E E2:Env}{H H2:Heap}{it:It}(h:Body P Γ n0 ck E H it)(hE:∀t,t∈zib ck.opds->E2 t=E t)(ha:zyr it.rd H H2):
  Body P Γ n0 ck E2 H2 it:=by
 have hV:∀x∈ck.opds,val E x=val E2 x:=by
  intro x hx;cases x with
  |t n=>
   have:n∈zib ck.opds:=by
    generalize ck.opds=l at hx
    induction l with
    |nil=>simp at hx
    |cons y l ih=>
     cases hx with
     |head=>simp[zib]
     |tail _ hx=>cases y<;>simp[zib,ih hx]
   exact(hE n this).symm
  |k a=>rfl
 cases ck<;>simp only[Body]at h ⊢ <;> try (exact⟨zvv h.1 hV ha,h.2⟩)
 case call f args=>
  have h4:args.map (val E2)=args.map (val E):=(qE (λy hy=>hV y (by simpa[CK.opds]using hy))).symm;rw[h4];exact h.local ha
 case callc x args=>
  obtain⟨f,caps,h1,h2,h3⟩:=h;have h4:args.map (val E2)=args.map (val E):=(qE (λy hy=>hV y (by simp[CK.opds,hy]))).symm;refine⟨f,caps,by rw[<-hV x (by simp[CK.opds])];exact h1,h2,?_⟩;rw[h4];exact h3.local ha
theorem Stp.local{P:Program}{Γ:Glob}{n0:Nat}{o:COp}{E E2:Env}{H H2:Heap}{it:It}(h:Stp P Γ n0 o E H it)(hE:∀t,t∈o.reads->E2 t=E t)(ha:zyr it.rd H H2):Stp P Γ n0 o E2 H2 it:=by
 unfold Stp at h ⊢;unfold COp.reads at hE;cases hg:o.g with
 |none=>rw[hg]at h hE;exact h.local hE ha
 |some p=>
  obtain⟨d,want⟩:=p;rw[hg]at h hE;obtain⟨b,hb,h⟩:=h;refine⟨b,by rw[hE d (by simp)];exact hb,?_⟩;split at h
  ·rename_i e1;rw[if_pos e1];exact h.local (λt ht=>hE t (by simp[ht])) ha
  ·rename_i e1;rw[if_neg e1];exact h
def Run(P:Program)(Γ:Glob)(n0:Nat):List (Nat×COp×It)->Env->Heap->Env->Heap->Prop
 | [],E,H,E',H'=>E'=E/\H'=H
 |(_,o,it)::r,E,H,E',H'=>Stp P Γ n0 o E H it/\Run P Γ n0 r (updO E o.dst it.v) (zaf it.e H) E' H'
def qtg(x y:COp×It):Prop:=
 qbu x.1 y.1=true/\(∀i,i∈keys x.2.e->i∉y.2.rd/\i∉keys y.2.e)/\(∀i,i∈keys y.2.e->i∉x.2.rd)
theorem zru{E:Env}{d:Option Nat}{v:AV}{t:Nat}(h:d≠some t):updO E d v t=E t:=by
 cases d with
 |none=>rfl
 |some d=>simp only[updO,upd];rw[if_neg (λe=>h (by rw[e]))]
theorem qjm{E:Env}{d d2:Option Nat}{v v2:AV}(h:∀x,d=some x->d2≠some x):updO (updO E d v) d2 v2=updO (updO E d2 v2) d v:=by
 cases d with
 |none=>rfl
 |some d=>
  cases d2 with
  |none=>rfl
  |some d2=>
   have hne:d≠d2:=λe=>h d rfl (by rw[e])
   funext t;simp only[updO,upd];by_cases e1:t=d2
   ·subst e1;simp[Ne.symm hne]
   ·simp[e1]
theorem zys{x y:COp}(h:qbu x y=true):(∀d,x.dst=some d->d∉y.reads/\y.dst≠some d)/\(∀d,y.dst=some d->d∉x.reads):=by
 unfold qbu at h;simp only[qW]at h;obtain⟨h1,h2⟩:=h;refine⟨λd hd=>?_,λd hd=>?_⟩
 ·rw[hd]at h1;simp at h1;exact⟨h1.1,h1.2⟩
 ·rw[hd]at h2;simp at h2;exact h2
theorem Run.swap{P:Program}{Γ:Glob}{n0:Nat}{x y:Nat×COp×It}{r:List (Nat×COp×It)}{E E':Env}{H H':Heap}(hi:qtg x.2 y.2)
  (h:Run P Γ n0 (x::y::r) E H E' H'):Run P Γ n0 (y::x::r) E H E' H':=by
 obtain⟨nx,ox,ix⟩:=x;obtain⟨ny,oy,iy⟩:=y;obtain⟨h1,h2,h3⟩:=h;obtain⟨hs,hk1,hk2⟩:=hi;simp only at hs hk1 hk2;obtain⟨s1,s2⟩:=zys hs
 have g2:Stp P Γ n0 oy E H iy:=h2.local
  (λt ht=>by
   rw[zru];intro e;exact(s1 t e).1 ht)
  (λj hj=>by
   refine(zrt (zoy _ _ _ ?_)).symm;intro hx;exact(hk1 j hx).1 hj)
 have g1:Stp P Γ n0 ox (updO E oy.dst iy.v) (zaf iy.e H) ix:=h1.local
  (λt ht=>by
   rw[zru];intro e;exact s2 t e ht)
  (λj hj=>by
   refine zrt (zoy _ _ _ ?_);intro hy;exact hk2 j hy hj)
 refine⟨g2,g1,?_⟩;rw[<-qjm (λd hd=>(s1 d hd).2),<-zyq _ _ _ (λi hi=>(hk1 i hi).2)];exact h3
theorem Run.front{P:Program}{Γ:Glob}{n0:Nat}{y:Nat×COp×It}{r:List (Nat×COp×It)}{E':Env}{H':Heap}:∀(l:List (Nat×COp×It)) (E:Env) (H:Heap),(∀x∈l,qtg x.2 y.2)->
  Run P Γ n0 (l++y::r) E H E' H'->Run P Γ n0 (y::(l++r)) E H E' H':=by
 intro l
 induction l with
 |nil=>intro E H _ h;exact h
 |cons x l ih=>
  intro E H hi h;refine Run.swap (hi x (by simp)) ?_;obtain⟨nx,ox,ix⟩:=x;exact⟨h.1,ih _ _ (λz hz=>hi z (by simp[hz])) h.2⟩
structure Ctx where
 F:Nat->Prop
 w0:World
 ρ0:Nat->RS
 n0:Nat
 nt:Nat
 ro:Option Nat:=none
def zdj(ro:Option Nat):Fence:={ Fence.wide with round:=ro }
def zgf(r:Nat):Deferred:={ target:= .collected r,args:= #[] }
def qth(w0:World)(ρ:Nat->RS)(a:Act)(w:World):Prop:=
 ∃ms:List Nat,a.defers=ms.map zgf/\ms.Nodup/\∀D∈ms,w0.heap.size<=D/\w.heap[D]?=some (.deferred (some []))/\∀i,ρ i≠ .here D
structure Sim(Γ:Glob)(C:Ctx)(ρ:Nat->RS)(E:Env)(H:Heap)(a:Act)(w:World):Prop where
 hok:HOK Γ w C.F ρ H
 env:∀t,Rep w (Mu C.F ρ) ρ (E t) (a.tmps.getD t undef)
 defers:qth C.w0 ρ a w
 size:a.tmps.size=C.nt
 kept:Kept (λb=>∃i,C.ρ0 i= .here b) C.w0 w
 ext:∀i,i<C.n0->ρ i=C.ρ0 i\/(C.ρ0 i≠ .unborn/\ρ i= .dead)
 old:∀i b,ρ i= .here b->(∃j,C.ρ0 j= .here b)\/C.w0.heap.size<=b
 len:C.n0<=H.length
theorem zdt{w:World}{b:Nat}{o:Obj}(h:w.heap[b]?=some o):b<w.heap.size:=by
 rcases qK b w.heap.size with h' | h'
 ·exact h'
 ·rw[Array.getElem?_eq_none h']at h;simp at h
theorem qth.after{Γ:Glob}{F:Nat->Prop}{n0:Nat}{ρ ρ':Nat->RS}{w0 w w':World}{H':Heap}{new:List Nat}{a a':Act}(h:qth w0 ρ a w)(hA:After Γ F n0 ρ w ρ' w' H' new)(ha:a'.defers=a.defers):qth w0 ρ' a' w':=by
 obtain⟨ms,h1,h2,h3⟩:=h;refine⟨ms,ha.trans h1,h2,λD hD=>?_⟩;obtain⟨g1,g2,g3⟩:=h3 D hD;have hlt:=zdt g2;refine⟨g1,?_,λi hi=>?_⟩
 ·rw[hA.kept.same D hlt (λ⟨i,hi⟩=>g3 i hi)];exact g2
 ·rcases hA.old i D hi with⟨j,hj⟩ | hle
  ·exact g3 j hj
  ·omega
theorem zyt(a:Act)(d:Option Nat)(v:Value):(a.put d v).defers=a.defers:=by cases d<;>rfl
theorem jyp{a:Act}{d:Nat}{v:Value}(hd:d<a.tmps.size)(t:Nat):(a.put (some d) v).tmps.getD t undef=if t=d then v else a.tmps.getD t undef:=by
 simp only[Act.put,Array.getD_eq_getD_getElem?];by_cases e:t=d
 ·subst e;simp[hd]
 ·rw[if_neg e,Array.getElem?_setIfInBounds_ne (λx=>e x.symm)]
theorem Sim.step{Γ:Glob}{C:Ctx}{ρ ρ':Nat->RS}{E:Env}{H H':Heap}{a:Act}{w w':World}{new:List Nat}{d:Option Nat}{v:AV}{v':Value}(hs:Sim Γ C ρ E H a w)
  (hA:After Γ C.F C.n0 ρ w ρ' w' H' new) (hnew:∀i∈new,C.n0<=i) (hlen:C.n0<=H'.length) (hr:Rep w' (Mu C.F ρ') ρ' v v') (hd:qso C.nt d=true):
  Sim Γ C ρ' (updO E d v) H' (a.put d v') w':=by
 refine⟨hA.hok,λt=>?_,?_,?_,?_,?_,?_,hlen⟩
 ·cases d with
  |none=>exact(hs.env t).after hs.hok hA
  |some d=>
   have hd':d<a.tmps.size:=by rw[hs.size];simpa[qso]using hd
   rw[jyp hd'];simp only[updO,upd];split
   ·exact hr
   ·exact(hs.env t).after hs.hok hA
 ·exact hs.defers.after hA (zyt a d v')
 ·cases d with
  |none=>exact hs.size
  |some d=>simpa[Act.put]using hs.size
 ·exact hs.kept.trans hA.kept (by
   rintro b hb ⟨i,hi⟩;rcases hs.old i b hi with h | h
   ·exact h
   ·omega)
 ·intro i hi;by_cases hu:ρ i= .unborn
  ·have h1:=hA.still i hu (λhn=>by have:=hnew i hn;omega);rcases hs.ext i hi with h2 | ⟨_,h2⟩
   ·exact .inl (by rw[h1,<-h2,hu])
   ·rw[hu]at h2;simp at h2
  ·rcases hA.ext i hu with h | ⟨_,h⟩
   ·rw[h];exact hs.ext i hi
   ·refine .inr ⟨?_,h⟩;rcases hs.ext i hi with h2 | ⟨h2,_⟩
    ·rw[<-h2];exact hu
    ·exact h2
 ·intro i b hi;rcases hA.old i b hi with⟨j,hj⟩ | h
  ·exact hs.old j b hj
  ·exact .inr (Nat.le_trans hs.kept.size h)
theorem Sim.drew{Γ:Glob}{C:Ctx}{ρ:Nat->RS}{E:Env}{H:Heap}{a:Act}{w:World}(hs:Sim Γ C ρ E H a w)(w':World)(hw:w'.heap=w.heap)(hr:w'.os=w.os/\w'.output=w.output):Sim Γ C ρ E H a w':=by
 have hA:=ziz C.n0 hs.hok hw hr;refine⟨hA.hok,λt=>(hs.env t).after hs.hok hA,hs.defers.after hA rfl,hs.size,?_,hs.ext,hs.old,hs.len⟩
 exact hs.kept.trans hA.kept (by
  rintro b hb ⟨i,hi⟩;rcases hs.old i b hi with h | h
  ·exact h
  ·omega)
theorem HOK.pad{Γ:Glob}{w:World}{F:Nat->Prop}{ρ:Nat->RS}{H:Heap}(h:HOK Γ w F ρ H)(m:Nat):HOK Γ w F ρ (H++List.replicate m none):=by
 refine⟨h.inj,h.notF,h.fLt,λi hi=>h.unborn i (by simp at hi;omega),λi cs hi=>?_,λi b hi=>?_,h.glob⟩
 ·rcases qK i H.length with hl | hl
  ·rw[qU hl]at hi;exact h.alive i cs hi
  ·rw[qB hl,qO]at hi;split at hi<;>simp at hi
 ·obtain⟨cs,h1,h2⟩:=h.blk i b hi
  have hl:i<H.length:=by
   rcases qK i H.length with h' | h'
   ·exact h'
   ·rw[qZ h']at h1;simp at h1
  exact⟨cs,by rw[qU hl];exact h1,h2⟩
theorem Sim.pad{Γ:Glob}{C:Ctx}{ρ:Nat->RS}{E:Env}{H:Heap}{a:Act}{w:World}(hs:Sim Γ C ρ E H a w)(m:Nat):Sim Γ C ρ E (H++List.replicate m none) a w:=
 ⟨hs.hok.pad m,hs.env,hs.defers,hs.size,hs.kept,hs.ext,hs.old,by have:=hs.len;simp;omega⟩
theorem zyu{P:Program}{Γ:Glob}{op:Op}{f:FuncId}{l:List Opd}(h:zdy P Γ op=some (.call f l)):
  ∃cl,op= .call cl/\cl.callee= .value (.func f)/\(zvj P f=true/\f≠4095)/\cl.args.toList.mapM (cOpd Γ)=some l:=by
 cases op<;>simp only[zdy]at h<;>try (simp[qX]at h;done)
 case buildSlice t n ps=>
  obtain⟨d,hd,h⟩:=zab h;cases d<;>simp only at h<;>try (simp at h;done)
  obtain⟨s,hs,h⟩:=zab h;obtain⟨z,hz,h⟩:=zab h;obtain⟨ps',hps,h⟩:=zab h;split at h<;>simp at h
 case binOp op t x y t'=>
  split at h<;>try (simp[qX]at h;done)
  all_goals (split at h<;>simp at h)
 case convert src dst x=>
  split at h<;>try (simp at h;done)
  split at h<;>simp at h
 case makeFunc fn first caps=>
  cases fn<;>simp only[zdy]at h<;>try (simp at h;done)
  split at h<;>try (simp at h;done)
  split at h
  ·simp[qX]at h
  ·split at h<;>simp[qX]at h
 case makeMap t r=>
  cases r<;>simp only[zdy]at h<;>try (simp at h;done)
  split at h<;>simp at h
 case lookup t x y ok=>
  cases ok<;>simp only[zdy]at h<;>try (simp at h;done)
  split at h<;>try (simp at h;done)
  split at h<;>simp[qX]at h
 case mapEntry t x y=>
  split at h<;>try (simp at h;done)
  split at h<;>simp[qX]at h
 case makeSlice t x y=>
  obtain⟨d,hd,h⟩:=zab h;cases d<;>simp only at h<;>simp[qX]at h
 case slice t x lo hi mx=>
  obtain⟨x',hx,h⟩:=zab h;obtain⟨lo',hlo,h⟩:=zab h;obtain⟨hi',hhi,h⟩:=zab h;obtain⟨mx',hmx,h⟩:=zab h;split at h<;>simp[qX]at h
 case fieldAddr s x f=>
  split at h<;>try (simp at h;done)
  split at h<;>try (simp at h;done)
  obtain⟨z,hz,h⟩:=zab h;split at h<;>simp[qX]at h
 case field s x f=>
  split at h<;>try (simp at h;done)
  split at h<;>simp[qX]at h
 case indexAddr t x i=>split at h<;>simp[qX]at h
 case index t x i=>
  split at h<;>try (simp[qX]at h;done)
 case call cl=>
  cases hcl:cl.callee with
  |invoke r m=>rw[hcl]at h;simp at h
  |value g=>
   rw[hcl]at h;cases g<;>simp only at h<;>try (simp at h;done)
   ·simp[qX]at h
   ·split at h
    ·rename_i hok;obtain⟨l',hl,h⟩:=zab h;simp at h;obtain⟨rfl,rfl⟩:=h
     exact⟨cl,rfl,hcl,by
      simp only[qW,qH]at hok;exact⟨hok.1,λe=>by rw[e]at hok;exact absurd hok.2 (by decide)⟩,hl⟩
    ·split at h<;>simp[qX]at h
  |builtin b=>
   rw[hcl]at h;cases b<;>simp only at h<;>try (simp at h;done)
   case append=>
    split at h<;>try (simp at h;done)
    ·obtain⟨i,hi,h⟩:=zab h;obtain⟨z,hz,h⟩:=zab h;split at h<;>simp[qX]at h
    ·obtain⟨i,hi,h⟩:=zab h;obtain⟨z,hz,h⟩:=zab h;split at h<;>simp[qX]at h
   case copy=>split at h<;>simp[qX]at h
   case clear=>split at h<;>simp[qX]at h
   case len=>
    split at h<;>try (simp at h;done)
    split at h<;>simp at h
   case max=>split at h<;>simp[qX]at h
theorem zvw{P:Program}{Γ:Glob}{op:Op}{x:Opd}{l:List Opd}(h:zdy P Γ op=some (.callc x l)):
  ∃cl t,op= .call cl/\cl.callee= .value (.tmp t)/\x= .t t/\cl.args.toList.mapM (cOpd Γ)=some l:=by
 cases op<;>simp only[zdy]at h<;>try (simp[qX]at h;done)
 case buildSlice t n ps=>
  obtain⟨d,hd,h⟩:=zab h;cases d<;>simp only at h<;>try (simp at h;done)
  obtain⟨s,hs,h⟩:=zab h;obtain⟨z,hz,h⟩:=zab h;obtain⟨ps',hps,h⟩:=zab h;split at h<;>simp at h
 case binOp op t x y t'=>
  split at h<;>try (simp[qX]at h;done)
  all_goals (split at h<;>simp at h)
 case convert src dst x=>
  split at h<;>try (simp at h;done)
  split at h<;>simp at h
 case makeFunc fn first caps=>
  cases fn<;>simp only[zdy]at h<;>try (simp at h;done)
  split at h<;>try (simp at h;done)
  split at h
  ·simp[qX]at h
  ·split at h<;>simp[qX]at h
 case makeMap t r=>
  cases r<;>simp only[zdy]at h<;>try (simp at h;done)
  split at h<;>simp at h
 case lookup t x y ok=>
  cases ok<;>simp only[zdy]at h<;>try (simp at h;done)
  split at h<;>try (simp at h;done)
  split at h<;>simp[qX]at h
 case mapEntry t x y=>
  split at h<;>try (simp at h;done)
  split at h<;>simp[qX]at h
 case makeSlice t x y=>
  obtain⟨d,hd,h⟩:=zab h;cases d<;>simp only at h<;>simp[qX]at h
 case slice t x lo hi mx=>
  obtain⟨x',hx,h⟩:=zab h;obtain⟨lo',hlo,h⟩:=zab h;obtain⟨hi',hhi,h⟩:=zab h;obtain⟨mx',hmx,h⟩:=zab h;split at h<;>simp[qX]at h
 case fieldAddr s x f=>
  split at h<;>try (simp at h;done)
  split at h<;>try (simp at h;done)
  obtain⟨z,hz,h⟩:=zab h;split at h<;>simp[qX]at h
 case field s x f=>
  split at h<;>try (simp at h;done)
  split at h<;>simp[qX]at h
 case indexAddr t x i=>split at h<;>simp[qX]at h
 case index t x i=>
  split at h<;>try (simp[qX]at h;done)
 case call cl=>
  cases hcl:cl.callee with
  |invoke r m=>rw[hcl]at h;simp at h
  |value g=>
   rw[hcl]at h;cases g<;>simp only at h<;>try (simp at h;done)
   ·rename_i t;obtain⟨l',hl,h⟩:=zab h;simp at h;obtain⟨rfl,rfl⟩:=h;exact⟨cl,t,rfl,hcl,rfl,hl⟩
   ·split at h
    ·simp[qX]at h
    ·split at h<;>simp[qX]at h
  |builtin b=>
   rw[hcl]at h;cases b<;>simp only at h<;>try (simp at h;done)
   case append=>
    split at h<;>try (simp at h;done)
    ·obtain⟨i,hi,h⟩:=zab h;obtain⟨z,hz,h⟩:=zab h;split at h<;>simp[qX]at h
    ·obtain⟨i,hi,h⟩:=zab h;obtain⟨z,hz,h⟩:=zab h;split at h<;>simp[qX]at h
   case copy=>split at h<;>simp[qX]at h
   case clear=>split at h<;>simp[qX]at h
   case len=>
    split at h<;>try (simp at h;done)
    split at h<;>simp at h
   case max=>split at h<;>simp[qX]at h
theorem qjn{P:Program}{f:FuncId}(h:zvj P f=true):∃fn,P.funcs[f]?=some fn/\fn.body.isNone=false/\(fn.name == "runtime.NumGoroutine")=false:=by
 unfold zvj at h;split at h
 ·rename_i fn hf;simp at h;refine⟨fn,hf,?_,by simpa using h.2⟩;cases hb:fn.body<;>simp[hb]at h ⊢
 ·simp at h
theorem zlb{P:Program}{w:World}{f:FuncId}{args:Array Value}(h:zvj P f=true):(callFunc f args).run P w= .ok (.enter f args) w:=by
 obtain⟨fn,h1,h2,h3⟩:=qjn h;have h4:fn.name≠ "runtime.NumGoroutine" := by simpa using h3
 have h5:fn.body≠none:=by intro e;rw[e]at h2;simp at h2
 simp only[callFunc,Sem.run_bind,program,Sem.run];simp[h1,h4,h5]
theorem jux{f:Nat}(h:f-65536=4095):f=69631:=by omega
theorem qfl{ops:Array Oper}{a:Act}{o:Oper}{d:Nat}{want b:Bool}(hg:zjs ops o.guard=some (some (d,want)))(hb:a.tmps.getD d undef= .bool b):
  Region.wanted o (yielded ops a.tmps)=(b == want):=by
 cases hgu:o.guard with
 |none=>rw[hgu]at hg;simp[zjs]at hg
 |some p=>
  obtain⟨j,wt⟩:=p;rw[hgu]at hg;simp only[zjs]at hg;split at hg
  ·rename_i d' hd;simp at hg;obtain⟨rfl,rfl⟩:=hg
   have hlt:a.tmps[d']?=some (.bool b):=by
    rw[Array.getD_eq_getD_getElem?]at hb;cases h:a.tmps[d']? with
    |none=>rw[h]at hb;simp[undef]at hb
    |some x=>rw[h]at hb;simp at hb;rw[hb]
   simp only[Region.wanted,hgu,yielded,hd,Option.bind_some,hlt];cases b<;>cases wt<;>rfl
  ·simp at hg
theorem qjo{w:World}{M:Nat->Prop}{ρ:Nat->RS}:Rep w M ρ (.tup []) undef:= .imm _ _ (.tup [] #[] rfl (λj a v h=>by simp at h))
theorem qti{w:World}{M:Nat->Prop}{ρ:Nat->RS}{v:Value}(h:Rep w M ρ (.tup []) v):v= .tuple #[]:=by
 obtain⟨vs,rfl,hl,_⟩:=ztc h;simp at hl;rw[hl]
theorem zyv{ops:Array Oper}{a:Act}{o:Oper}{d:Nat}{want:Bool}(hg:zjs ops o.guard=some (some (d,want)))(hb:a.tmps.getD d undef= .tuple #[]):
  Region.wanted o (yielded ops a.tmps)=false:=by
 cases hgu:o.guard with
 |none=>rw[hgu]at hg;simp[zjs]at hg
 |some p=>
  obtain⟨j,wt⟩:=p;rw[hgu]at hg;simp only[zjs]at hg;split at hg
  ·rename_i d' hd;simp at hg;obtain⟨rfl,rfl⟩:=hg;rw[Array.getD_eq_getD_getElem?]at hb;cases h:a.tmps[d']? with
   |none=>simp[Region.wanted,hgu,yielded,hd,h]
   |some x=>
    rw[h]at hb;simp at hb;subst hb;simp[Region.wanted,hgu,yielded,hd,h]
  ·simp at hg
theorem qtj{ops:Array Oper}{a:Act}{o:Oper}{d:Nat}{want b:Bool}{w:World}{M:Nat->Prop}{ρ:Nat->RS}{x:AV}(hg:zjs ops o.guard=some (some (d,want)))(hx:gdB x want=some b)(hr:Rep w M ρ x (a.tmps.getD d undef)):
  Region.wanted o (yielded ops a.tmps)=b:=by
 unfold gdB at hx;split at hx
 ·rename_i b' _;simp at hx;rw[qfl hg (zej hr),hx]
 ·simp at hx;subst hx;exact zyv hg (qti hr)
 ·simp at hx
theorem qfm{ops:Array Oper}{a:Act}{o:Oper}(hg:zjs ops o.guard=some none):Region.wanted o (yielded ops a.tmps)=true:=by
 cases hgu:o.guard with
 |none=>simp[Region.wanted,hgu]
 |some p=>
  obtain⟨j,wt⟩:=p;rw[hgu]at hg;simp only[zjs]at hg;split at hg<;>simp at hg
section
variable{P:Program}{Γ:Glob}{C:Ctx}{ρ:Nat->RS}{E:Env}{H:Heap}{a:Act}{w:World}{ops:Array Oper}{o:Oper}{co:COp}{it:It}{Q:Exit->Act->World->Prop}{K:Act->World->Prop}
def Then(Γ:Glob)(C:Ctx)(ρ:Nat->RS)(E:Env)(H:Heap)(a:Act)(co:COp)(it:It)(K:Act->World->Prop):Prop:=
 ∀(ρ':Nat->RS) (v':Value) (w':World),Sim Γ C ρ' (updO E co.dst it.v) (zaf it.e H) (a.put co.dst v') w'->(∀j,ρ j= .unborn->j∉zfx it.k it.c->ρ' j= .unborn)->K (a.put co.dst v') w'
theorem qjp(hs:Sim Γ C ρ E H a w)(hk:zdy P Γ o.op=some co.k)(hd:o.dst=co.dst)(hok:qso C.nt co.dst=true)(hb:Body P Γ C.n0 co.k E H it)(h0:C.n0<=it.k)(hlen:it.k+it.c<=H.length)
  (hu:∀j,it.k<=j->j<it.k+it.c->ρ j= .unborn) (hK:Then Γ C ρ E H a co it K):o.wpIn (zdj C.ro) 0 P a w K Q:=by
 have hnew:∀i∈zfx it.k it.c,C.n0<=i:=by intro i hi;simp[zfx]at hi;omega
 have hl:C.n0<=(zaf it.e H).length:=by rw[zgq];exact hs.len
 have hdef:∀c,o.op≠ .defer c:=by intro c e;rw[e]at hk;simp[zdy]at hk
 have callsX:∀(f:FuncId) (args:List AV) (vs:Array Value),CallR P Γ f args it.k H it.v it.e it.rd it.c->vs.size=args.length->
   (∀(j:Nat) (x:AV) (u:Value),args[j]?=some x->vs[j]?=some u->Rep w (Mu C.F ρ) ρ x u)->zov P f vs w λen w'=>∃u,en= .returned u/\K (a.put o.dst u) w':=by
  intro f args vs hcr hsz hrep;refine(zrs (n0:=C.n0) hs.hok hlen hu hcr hsz hrep).mono ?_;rintro e w' ⟨u,ρ',rfl,hA,hr⟩;refine⟨u,rfl,?_⟩;rw[hd];exact hK ρ' u w' (hs.step hA hnew hl hr hok) (λj hj hn=>hA.still j hj hn)
 have calls:∀(f:FuncId) (args:List AV) (vs:Array Value),f≠4095->CallR P Γ f args it.k H it.v it.e it.rd it.c->vs.size=args.length->
   (∀(j:Nat) (x:AV) (u:Value),args[j]?=some x->vs[j]?=some u->Rep w (Mu C.F ρ) ρ x u)->(execOp a.eval o).run P w= .ok (.enter f vs) w->o.wpIn (zdj C.ro) 0 P a w K Q:=by
  intro f args vs hne hcr hsz hrep hrun;refine⟨λ_ _=>trivial,?_⟩;rw[Oper.semAt_eq _ _ _ hdef,hrun,Oper.uponIn_enter];refine⟨λh=>by simp[zdj,Fence.wide]at h,?_⟩;rcases callsX f args vs hcr hsz hrep with⟨_,h⟩ | ⟨h,_⟩
  ·have h2:CallsIn Fence.wide 0 P f vs w (fun
     |.returned v,w''=>K (a.put o.dst v) w''
     |.panicked chain,w''=>Q (.panic chain) a w''
     |.outgrown,_=>LetsOut Q):=(callsIn_wide.2 h).mono (by rintro e w' ⟨u,rfl,h⟩;exact h)
   exact h2
  ·exact absurd h hne
 have plain:∀ck,co.k=ck->evK C.n0 it.k ck (val E) H=some (it.v,it.e,it.rd)->it.c=cntK ck->o.wpIn (zdj C.ro) 0 P a w K Q:=by
  intro ck hck hev hc;obtain⟨x,v',w',ρ',h1,h2,h3,h4⟩:=qjl (P:=P) (o:=o) (a:=a) hs.hok hs.env (λh=>⟨by omega,hu it.k (Nat.le_refl _) (by omega)⟩) (hck ▸ hk) hev;rw[<-hc]at h3;have hK':=hK ρ' v' w' (hs.step h3 hnew hl h4 hok) (λj hj hn=>h3.still j hj hn);refine⟨λ_ _=>trivial,?_⟩;rw[Oper.semAt_eq _ _ _ hdef,h1];rcases h2 with rfl | ⟨rfl,rfl⟩
  ·rw[Oper.uponIn_value,hd];exact hK'
  ·rw[Oper.uponIn_skip,hd];exact hK'
 cases hck:co.k<;>rw[hck]at hb<;>simp only[Body]at hb<;>try (exact plain _ hck hb.1 hb.2)
 case call f args=>
  rw[hck]at hk;obtain⟨cl,hop,hcl,hof,hm⟩:=zyu hk;obtain⟨m1,m2⟩:=znu hs.hok hs.env hm;refine calls f _ (cl.args.map a.eval) hof.2 hb (by simpa using m1) (λj x u hx hu=>m2 j x u hx (by simpa using hu)) ?_;have hf:a.eval (.func f)= .func (.func f) #[] #[]:=rfl;simp[execOp,hop,resolve,hcl,hf,Deferred.ofValue,invoke,zlb hof.1]
 case callc x args=>
  rw[hck]at hk;obtain⟨cl,t,hop,hcl,rfl,hm⟩:=zvw hk;obtain⟨f,caps,h1,h2,h3⟩:=hb;obtain⟨m1,m2⟩:=znu hs.hok hs.env hm;have hx:=hs.env t;simp only[val]at h1;rw[h1]at hx;simp only[okC,qW,qH]at h2;obtain⟨⟨h2,h2'⟩,hne⟩:=h2;rw[ziy]at h2';have hne:f≠4095:=λe=>by rw[e]at hne;exact absurd hne (by decide)
  by_cases hyd:f=69631
  case pos=>
   subst hyd;obtain⟨id,rfl,hy⟩:=jyg hx;obtain⟨b,e1,_⟩:=qir hy;have e2:a.eval (.tmp t)= .func (.yield b) #[] #[]:=e1
   have hX:=callsX 4095 (.clo 131075 [.ptr id 0]::args.map (val E)) (#[.func (.yield b) #[] #[]]++cl.args.map a.eval) h3 (by simp at m1;simp[m1];omega) (λj x u hx hu=>by
    cases j with
    |zero=>
     rw[Array.getElem?_append_left (by simp)]at hu;simp only[List.getElem?_cons_zero,Option.some.injEq,List.getElem?_toArray]at hx hu;subst hx hu;rw[<-e1];exact hy
    |succ j=>
     rw[Array.getElem?_append_right (by simp)]at hu;exact m2 j x u (by simpa using hx) (by simpa using hu))
   rcases hX with⟨h,_⟩ | ⟨_,b',r,us,q1,q2,q3,q4⟩
   ·exact absurd rfl h
   have q5:=congrArg Array.toList q1;simp only[Array.toList_append,List.cons_append,List.nil_append,List.cons.injEq,Value.func.injEq,Fn.yield.injEq,and_true]at q5;obtain⟨rfl,q5⟩:=q5;have q6:cl.args.map a.eval=us:=Array.toList_inj.1 q5;refine⟨λ_ _=>trivial,?_⟩
   have hrun:(execOp a.eval o).run P w= .ok (.round b r.fn ((r.params.zip us).foldl (λtmps (t,a)=>tmps.setIfInBounds t a) r.tmps) r.assign r.body) w:=by
    rw[<-run_yield (P:=P) q2 q3];simp[execOp,hop,resolve,hcl,e2,Deferred.ofValue,invoke,q6]
   rw[Oper.semAt_eq _ _ _ hdef,hrun,Oper.uponIn_round];refine⟨λh=>by simp[zdj,Fence.wide]at h,?_⟩
   have h2:RoundIn Fence.wide 0 P b r.fn ((r.params.zip us).foldl (λtmps (t,a)=>tmps.setIfInBounds t a) r.tmps) r.assign r.body w (fun
     |.returned v,w''=>K (a.put o.dst v) w''
     |.panicked chain,w''=>Q (.panic chain) a w''
     |.outgrown,_=>LetsOut Q):=q4.mono (by rintro e w' ⟨u,rfl,h⟩;exact h)
   exact h2
  have h2:zvj P (cloF f)=true:=by
   unfold okFn at h2;simp only[qT]at h2;rcases h2 with h2 | h2
   ·exfalso;have h4:=Nat.eq_of_beq_eq_true h2;unfold cloF at h4;split at h4
    ·exact hne h4
    ·exact hyd (jux h4)
   ·exact h2
  rcases qK f 65536 with hf | hf
  case inr=>
   have hb1:Nat.blt f 65536=false:=zvl hf;simp only[cloF,cloA,hb1]at h2 h3;obtain⟨us,e1,hl1,hr1⟩:=qiq hx hf h2' hyd;have e2:a.eval (.tmp t)= .func (.func (f-65536)) us #[]:=e1;refine calls (f-65536) _ (us++cl.args.map a.eval) (λh=>hyd (jux h)) h3 (by simp at m1;simp[hl1,m1]) (λj x u hx hu=>?_) ?_
   ·simp only[xK]at m1;rcases qK j caps.length with hj | hj
    ·rw[qU (by simpa using hj)]at hx;rw[Array.getElem?_append_left (by omega)]at hu;exact hr1 j x u hx hu
    ·rw[qB (by simpa using hj)]at hx;rw[Array.getElem?_append_right (by omega)]at hu;rw[hl1]at hu;exact m2 (j-caps.length) x u (by simpa using hx) (by simpa using hu)
   ·simp[execOp,hop,resolve,hcl,e2,Deferred.ofValue,invoke,zlb h2]
  have hb1:Nat.blt f 65536=true:=ziy.2 hf;simp only[cloF,cloA,hb1]at h2 h3;obtain⟨us,e1,hl1,hr1⟩:=qip hx hf;have e2:a.eval (.tmp t)= .func (.func f) #[] us:=e1;refine calls f _ (cl.args.map a.eval++us) hne h3 (by simp at m1;simp[hl1,m1]) (λj x u hx hu=>?_) ?_
  ·simp only[xK]at m1;rcases qK j args.length with hj | hj
   ·rw[qU (by simpa using hj)]at hx;rw[Array.getElem?_append_left (by simp;simp at m1;omega)]at hu;exact m2 j x u hx (by simpa using hu)
   ·rw[qB (by simpa using hj)]at hx;rw[Array.getElem?_append_right (by simp;simp at m1;omega)]at hu;refine hr1 (j-args.length) x u (by simpa using hx) ?_;have:(cl.args.map a.eval).size=args.length:=by simp at m1 ⊢;omega
    rw[this]at hu;exact hu
  ·simp[execOp,hop,resolve,hcl,e2,Deferred.ofValue,invoke,zlb h2]
theorem juy{i:Nat}(hi:ops[i]?=some o)(hs:Sim Γ C ρ E H a w)(hc:zvk P Γ C.nt ops o=some co)(hb:Stp P Γ C.n0 co E H it)(h0:C.n0<=it.k)(hlen:it.k+it.c<=H.length)
  (hu:∀j,it.k<=j->j<it.k+it.c->ρ j= .unborn) (hK:Then Γ C ρ E H a co it K):wpOpIn (zdj C.ro) 0 P ops Q i K a w:=by
 unfold zvk at hc;split at hc
 ·rename_i g k hg hk;split at hc
  ·rename_i hok;simp at hc;subst hc;unfold wpOpIn;simp only[hi];unfold Stp at hb;simp only at hb;cases g with
   |none=>
    rw[qfm hg];simp only at hb;rw[if_pos rfl];exact qjp hs hk rfl hok hb h0 hlen hu hK
   |some p=>
    obtain⟨d,want⟩:=p;simp only at hb;obtain⟨b,hE,hb⟩:=hb;have hx:=hs.env d;rw[qtj hg hE hx];by_cases e:b=true
    ·rw[if_pos e]at hb;rw[if_pos e];exact qjp hs hk rfl hok hb h0 hlen hu hK
    ·rw[if_neg e]at hb;rw[if_neg e];obtain⟨h1,h2,h3,h4⟩:=hb;have hA:=zja C.n0 hs.hok
     have:=hK ρ undef w (by
      rw[h2];rcases h1 with h1 | h1
      ·rw[h1];exact hs.step hA (by simp) hs.len (.imm _ _ (.junk _)) hok
      ·rw[h1];exact hs.step hA (by simp) hs.len qjo hok) (λj hj _=>hj)
     exact⟨λ_ _=>trivial,this⟩
  ·simp at hc
 ·simp at hc
end
def RunS(P:Program)(Γ:Glob)(n0:Nat):List COp->List It->Env->Heap->Env->Heap->Prop
 | [],[],E,H,E',H'=>E'=E/\H'=H
 |o::os,it::its,E,H,E',H'=>it.k=H.length/\Stp P Γ n0 o E (H++List.replicate it.c none) it/\
   RunS P Γ n0 os its (updO E o.dst it.v) (zaf it.e (H++List.replicate it.c none)) E' H'
 |_,_,_,_,_,_=>False
theorem zfy{H:Heap}{id:Nat}{cs:List AV}(h:getB H id=some cs):id<H.length:=by
 have:=zch h;rcases qK id H.length with h' | h'
 ·exact h'
 ·rw[qZ h']at this;simp at this
theorem qtk{n0 fresh:Nat}{k:CK}{V:Opd->AV}{X:Heap}{v:AV}{e:Eff}{rd:List Nat}(h:evK n0 fresh k V X=some (v,e,rd))(hf:cntK k=1->fresh<X.length):∀i∈keys e,i<X.length:=by
 cases k<;>simp only[evK]at h
 case mov x=>simp at h;obtain⟨_,rfl,_⟩:=h;simp[keys]
 case pick c a b=>split at h<;>simp at h;obtain⟨_,rfl,_⟩:=h;simp[keys]
 case box x=>have:=(zac h).2;simp at this;obtain⟨_,rfl,_⟩:=this;simp[keys];exact hf rfl
 case build z ps=>simp only[qX]at h;obtain⟨_,_,h⟩:=h;simp at h;obtain⟨_,rfl,_⟩:=h;simp[keys]
 case bsl n sz z ps=>simp only[qX]at h;obtain⟨_,_,h⟩:=h;have:=(zac h).2;simp at this;obtain⟨_,rfl,_⟩:=this;simp[keys];exact hf rfl
 case load ag sz x=>
  split at h
  ·split at h
   ·have:=(zac h).2;simp at this;obtain⟨_,rfl,_⟩:=this;simp[keys]
   ·simp at h
  ·have:=(zac h).2;simp at this;obtain⟨_,rfl,_⟩:=this;simp[keys]
  ·simp at h
 case store sz x y=>
  split at h
  ·split at h
   ·rename_i cs hg;have:=(zac h).2;simp at this;obtain⟨_,rfl,_⟩:=this;simp[keys];exact zfy hg
   ·simp at h
  ·simp at h
 case nilck x=>split at h<;>simp at h<;>(obtain⟨_,rfl,_⟩:=h;simp[keys])
 case bin op x y=>simp only[qX]at h;obtain⟨_,_,h⟩:=h;simp at h;obtain⟨_,rfl,_⟩:=h;simp[keys]
 case beq neg x y=>split at h<;>simp at h;obtain⟨_,rfl,_⟩:=h;simp[keys]
 case snil neg x=>
  split at h
  ·split at h<;>simp at h<;>(obtain⟨_,rfl,_⟩:=h;simp[keys])
  ·simp at h;obtain⟨_,rfl,_⟩:=h;simp[keys]
  ·simp at h
 case un op x=>simp only[qX]at h;obtain⟨_,_,h⟩:=h;simp at h;obtain⟨_,rfl,_⟩:=h;simp[keys]
 case conv kk x=>split at h<;>simp at h;obtain⟨_,rfl,_⟩:=h;simp[keys]
 case b2s x=>simp only[qX]at h;obtain⟨_,_,_,_,_,_,h⟩:=h;simp at h;obtain⟨_,rfl,_⟩:=h;simp[keys]
 case mksl sz bytes z x y=>
  split at h
  ·have:=(zac h).2;simp at this;obtain⟨_,rfl,_⟩:=this;simp[keys];exact hf rfl
  ·simp at h
 case slice sz x lo hi mx=>simp only[qX]at h;obtain⟨_,_,h⟩:=h;simp at h;obtain⟨_,rfl,_⟩:=h;simp[keys]
 case slarr n sz x lo hi mx=>
  split at h
  ·split at h
   ·have:=(zac h).2;simp only[qX]at this;obtain⟨_,_,this⟩:=this;simp at this;obtain⟨_,rfl,_⟩:=this;simp[keys]
   ·simp at h
  ·have:=(zac h).2;simp only[qX]at this;obtain⟨_,_,this⟩:=this;simp at this;obtain⟨_,rfl,_⟩:=this;simp[keys]
  ·simp at h
 case fld off x=>split at h<;>simp at h<;>(obtain⟨_,rfl,_⟩:=h;simp[keys])
 case part ag sz off x=>
  split at h<;>try (simp at h;done)
  have:=(zac h).2;simp at this;obtain⟨_,rfl,_⟩:=this;simp[keys]
 case idx sz x y=>
  split at h<;>try (simp at h;done)
  all_goals (have:=(zac h).2;simp at this;obtain⟨_,rfl,_⟩:=this;simp[keys])
 case idxa n sz x y=>
  split at h<;>try (simp at h;done)
  all_goals (have:=(zac h).2;simp at this;obtain⟨_,rfl,_⟩:=this;simp[keys])
 case idxv n ag sz x y=>
  split at h<;>try (simp at h;done)
  all_goals (have:=(zac h).2;simp at this;obtain⟨_,rfl,_⟩:=this;simp[keys])
 case idxs x y=>
  split at h<;>try (simp at h;done)
  all_goals (have:=(zac h).2;simp at this;obtain⟨_,rfl,_⟩:=this;simp[keys])
 case ext x i=>
  split at h
  ·split at h<;>simp at h;obtain⟨_,rfl,_⟩:=h;simp[keys]
  ·simp at h
 case len st x=>split at h<;>simp at h<;>(obtain⟨_,rfl,_⟩:=h;simp[keys])
 case lenk n=>simp at h;obtain⟨_,rfl,_⟩:=h;simp[keys]
 case append sz bytes s x=>
  unfold zcd at h;simp only[qX]at h;obtain⟨m,hm,⟨xs,xr⟩,hxs,h⟩:=h;split at h
  ·split at h<;>simp at h<;>(obtain⟨_,rfl,_⟩:=h;simp[keys])
  ·split at h
   ·have:=(zac h).2;simp at this;obtain⟨_,rfl,_⟩:=this;simp[keys];exact hf rfl
   ·split at h
    ·rename_i cs hg;have h2:=(zac h).2;split at h2
     ·simp at h2;obtain⟨_,rfl,_⟩:=h2;simp[keys];exact hf rfl
     ·have h3:=(zac h2).2;simp at h3;obtain⟨_,rfl,_⟩:=h3;simp[keys];exact⟨zfy hg,hf rfl⟩
    ·simp at h
   ·simp at h
 case copy sz d s=>
  split at h
  ·split at h
   ·rename_i cs hg;simp only[qX]at h;obtain⟨_,_,_,_,h⟩:=h;have:=(zac h).2;simp at this;obtain⟨_,rfl,_⟩:=this;simp[keys];exact zfy hg
   ·simp at h
  ·simp at h
 case max x y=>split at h<;>simp at h;obtain⟨_,rfl,_⟩:=h;simp[keys]
 case mkfn f caps=>simp at h;obtain⟨_,rfl,_⟩:=h;simp[keys]
 case aeq neg ks x y=>
  split at h<;>try (simp at h;done)
  rw[qX]at h;obtain⟨_,_,h⟩:=h;simp at h;obtain⟨_,rfl,_⟩:=h;simp[keys]
 case pnil neg x=>
  split at h<;>try (simp at h;done)
  ·simp at h;obtain⟨_,rfl,_⟩:=h;simp[keys]
  ·simp at h;obtain⟨_,rfl,_⟩:=h;simp[keys]
  ·have:=(zac h).2;simp at this;obtain⟨_,rfl,_⟩:=this;simp[keys]
 case mkbnd f l=>simp at h;obtain⟨_,rfl,_⟩:=h;simp[keys]
 case bits64 b x y z=>
  split at h<;>try (simp at h;done)
  have:=(zac h).2;simp at this;obtain⟨_,rfl,_⟩:=this;simp[keys]
 case apz sz bytes z s x=>
  unfold apzA at h;split at h
  ·have h2:=(zac h).2;split at h2
   ·have:=(zac h2).2;simp at this;obtain⟨_,rfl,_⟩:=this;simp[keys];exact hf rfl
   ·split at h2
    ·have:=(zac h2).2;simp at this;obtain⟨_,rfl,_⟩:=this;simp[keys];exact hf rfl
    ·simp at h2
   ·simp at h2
  ·simp at h
 case clr sz z x=>
  split at h
  ·have:=(zac h).2;simp at this;obtain⟨_,rfl,_⟩:=this;simp[keys]
  ·split at h
   ·rename_i cs hg;have:=(zac h).2;simp at this;obtain⟨_,rfl,_⟩:=this;simp[keys];exact zfy hg
   ·simp at h
  ·simp at h
 case mkmap=>simp at h;obtain⟨_,rfl,_⟩:=h;simp[keys];exact hf rfl
 case mlook ks z x y=>
  split at h<;>try (simp at h;done)
  split at h<;>try (simp at h;done)
  have:=(zac h).2;rw[qX]at this;obtain⟨_,_,this⟩:=this;simp at this;obtain⟨_,rfl,_⟩:=this;simp[keys]
 case mentry ks z x y=>
  split at h<;>try (simp at h;done)
  split at h<;>try (simp at h;done)
  rename_i cs hg;have h2:=(zac h).2;rw[qX]at h2;obtain⟨r,_,h2⟩:=h2;cases r with
  |some i=>simp at h2;obtain⟨_,rfl,_⟩:=h2;simp[keys];exact zfy hg
  |none=>have:=(zac h2).2;simp at this;obtain⟨_,rfl,_⟩:=this;simp[keys];exact zfy hg
 case mstore x s y=>
  split at h<;>try (simp at h;done)
  split at h<;>try (simp at h;done)
  rename_i cs hg;have:=(zac h).2;simp at this;obtain⟨_,rfl,_⟩:=this;simp[keys];exact zfy hg
 case call=>simp at h
 case callc=>simp at h
theorem qjq{σ:Nat->Nat}:∀(L:Heap) (i0 j:Nat),j∈keys (effs σ i0 L)->∃i,i<L.length/\j=σ (i0+i):=by
 intro L
 induction L with
 |nil=>intro i0 j h;simp[effs,keys]at h
 |cons c L ih=>
  intro i0 j h;simp only[effs,keys,qC,qY]at h;rcases h with rfl | h
  ·exact⟨0,by simp,rfl⟩
  ·obtain⟨i,hi,rfl⟩:=ih (i0+1) j h;exact⟨i+1,by simp;omega,by congr 1;omega⟩
theorem CallR0.keys{P:Program}{Γ:Glob}{f:FuncId}{args:List AV}{k c:Nat}{H:Heap}{v:AV}{e:Eff}{rd:List Nat}(h:CallR0 P Γ f args k H v e rd c):∀i∈keys e,i<k+c:=by
 obtain⟨ids,args0,H0,v0,H0',hret,hids,hnd,hlt,rfl,hbel,hH⟩:=h
 rename List Nat=>ids
 intro j hj;obtain⟨i,hi,rfl⟩:=qjq _ _ _ hj;unfold zag;split
 ·rename_i h;have:=hlt _ (qA h);omega
 ·omega
theorem CallR.keys{P:Program}{Γ:Glob}{f:FuncId}{args:List AV}{k c:Nat}{H:Heap}{v:AV}{e:Eff}{rd:List Nat}(h:CallR P Γ f args k H v e rd c):∀i∈keys e,i<k+c:=by
 induction h with
 |base h=>exact h.keys
 |thin p h hp ih=>
  intro i hi;refine ih i ?_;simp only[AL.keys,List.mem_map,qG]at hi ⊢;obtain⟨x,⟨hx,_⟩,rfl⟩:=hi;exact⟨x,hx,rfl⟩
theorem Stp.keys{P:Program}{Γ:Glob}{n0:Nat}{o:COp}{E:Env}{X:Heap}{it:It}(h:Stp P Γ n0 o E X it)(hl:it.k+it.c=X.length):∀i∈keys it.e,i<X.length:=by
 have body:Body P Γ n0 o.k E X it->∀i∈AL.keys it.e,i<X.length:=by
  intro hb;cases hck:o.k<;>rw[hck]at hb<;>simp only[Body]at hb<;>try (exact qtk hb.1 (λhc=>by rw[<-hb.2]at hc;omega))
  case call f args=>intro i hi;have:=CallR.keys hb i hi;omega
  case callc x args=>obtain⟨f,caps,_,_,hb⟩:=hb;intro i hi;have:=CallR.keys hb i hi;omega
 unfold Stp at h;split at h
 ·exact body h
 ·obtain⟨b,hb,h⟩:=h;split at h
  ·exact body h
  ·rw[h.2.1];simp[AL.keys]
theorem ztn:∀(e:Eff) (X Y:Heap),(∀i∈keys e,i<X.length)->zaf e (X++Y)=zaf e X++Y:=by
 intro e
 induction e with
 |nil=>intro X Y _;rfl
 |cons p e ih=>
  obtain⟨i,c⟩:=p;intro X Y h;simp only[zaf];rw[List.set_append_left _ _ (h i (by simp[keys]))];exact ih _ _ (λj hj=>by simpa using h j (by simp only[keys,qC,qY];exact .inr hj))
def zre:List It->Nat
 | []=>0
 |it::r=>it.c+zre r
def zip3:Nat->List COp->List It->List (Nat×COp×It)
 |i,o::os,it::its=>(i,o,it)::zip3 (i+1) os its
 |_,_,_=>[]
theorem RunS.len{P:Program}{Γ:Glob}{n0:Nat}:∀(os:List COp) (its:List It) (E:Env) (H:Heap) (E':Env) (H':Heap),RunS P Γ n0 os its E H E' H'->os.length=its.length:=by
 intro os
 induction os with
 |nil=>intro its E H E' H' h;cases its with | nil=>rfl | cons it its=>exact h.elim
 |cons o os ih=>
  intro its E H E' H' h;cases its with
  |nil=>exact h.elim
  |cons it its=>simp only[xJ];rw[ih its _ _ _ _ h.2.2]
theorem zlc(H:Heap)(m j:Nat):getB (H++List.replicate m none) j=getB H j:=by
 unfold getB;rcases qK j H.length with hl | hl
 ·rw[qU hl]
 ·rw[qB hl,qZ hl,qO];by_cases h:j-H.length<m
  ·rw[if_pos h]
  ·rw[if_neg h]
theorem RunS.run{P:Program}{Γ:Glob}{n0:Nat}:∀(os:List COp) (its:List It) (i:Nat) (E:Env) (H:Heap) (E':Env) (H':Heap),RunS P Γ n0 os its E H E' H'->
  Run P Γ n0 (zip3 i os its) E (H++List.replicate (zre its) none) E' H'/\(zip3 i os its).Pairwise (λx y=>x.2.2.k+x.2.2.c<=y.2.2.k)/\
  (∀x∈zip3 i os its,H.length<=x.2.2.k/\x.2.2.k+x.2.2.c<=H.length+zre its):=by
 intro os
 induction os with
 |nil=>
  intro its i E H E' H' h;cases its with
  |nil=>obtain⟨rfl,rfl⟩:=h;exact⟨⟨rfl,by simp[zre]⟩,.nil,by simp[zip3]⟩
  |cons it its=>exact h.elim
 |cons o os ih=>
  intro its i E H E' H' h;cases its with
  |nil=>exact h.elim
  |cons it its=>
   obtain⟨h1,h2,h3⟩:=h;have hk:=h2.keys (by simp;omega);obtain⟨g1,g2,g3⟩:=ih its (i+1) _ _ _ _ h3;have hlen:(zaf it.e (H++List.replicate it.c none)).length=H.length+it.c:=by rw[zgq];simp
   refine⟨⟨?_,?_⟩,?_,?_⟩
   ·exact h2.local (λ_ _=>rfl) (λj _=>by rw[zlc,zlc])
   ·have e1:H++List.replicate (zre (it::its)) none=(H++List.replicate it.c none)++List.replicate (zre its) (none:Option (List AV)):=by
     simp only[zre];rw[<-List.replicate_append_replicate,List.append_assoc]
    rw[e1,ztn _ _ _ hk];exact g1
   ·refine List.pairwise_cons.2 ⟨λx hx=>?_,g2⟩;have:=(g3 x hx).1;simp only;omega
   ·intro x hx;simp only[zip3,qY]at hx;rcases hx with rfl | hx
    ·simp only[zre];omega
    ·have:=g3 x hx;simp only[zre];omega
theorem qcg:∀(os:List COp) (its:List It) (i:Nat) (x:Nat×COp×It),x∈zip3 i os its->i<=x.1/\os[x.1-i]?=some x.2.1/\its[x.1-i]?=some x.2.2:=by
 intro os
 induction os with
 |nil=>intro its i x h;simp[zip3]at h
 |cons o os ih=>
  intro its i x h;cases its with
  |nil=>simp[zip3]at h
  |cons it its=>
   simp only[zip3,qY]at h;rcases h with rfl | h
   ·simp
   ·obtain⟨h1,h2,h3⟩:=ih its (i+1) x h;have:x.1-i=(x.1-(i+1))+1:=by omega
    rw[this];exact⟨by omega,by simpa using h2,by simpa using h3⟩
theorem zyw:∀(os:List COp) (its:List It) (i:Nat),(zip3 i os its).Pairwise (λx y=>x.1<y.1):=by
 intro os
 induction os with
 |nil=>intro its i;simp[zip3]
 |cons o os ih=>
  intro its i;cases its with
  |nil=>simp[zip3]
  |cons it its=>
   simp only[zip3];refine List.pairwise_cons.2 ⟨λx hx=>?_,ih its (i+1)⟩;have:=(qcg os its (i+1) x hx).1;simp only;omega
theorem qtl:∀(os:List COp) (its:List It) (i:Nat),os.length=its.length->(zip3 i os its).length=os.length:=by
 intro os
 induction os with
 |nil=>intro its i h;simp[zip3]
 |cons o os ih=>
  intro its i h;cases its with
  |nil=>simp at h
  |cons it its=>simp only[zip3,xJ];rw[ih its (i+1) (by simpa using h)]
theorem qtm:∀(os:List COp) (its:List It) (i j:Nat) (o:COp) (it:It),os[j]?=some o->its[j]?=some it->(i+j,o,it)∈zip3 i os its:=by
 intro os
 induction os with
 |nil=>intro its i j o it h;simp at h
 |cons o' os ih=>
  intro its i j o it h1 h2;cases its with
  |nil=>simp at h2
  |cons it' its=>
   cases j with
   |zero=>simp at h1 h2;subst h1 h2;simp[zip3]
   |succ j=>
    have:=ih its (i+1) j o it (by simpa using h1) (by simpa using h2);simp only[zip3,qY];right
    rwa[show i+(j+1)=i+1+j from by omega]
theorem zyx{ops:Array Oper}{listed:Array Bool}(hdc:∀y o,ops[y]?=some o->listed.getD y false=true->∀e∈o.after,Region.binds .any e=true->listed.getD e.on false=true):
  ∀(n x i:Nat) (o:Oper),ops[i]?=some o->(∀e∈o.after,Region.binds .any e=true->listed.getD e.on false=true)->ordB ops n x i=true->listed.getD x false=true:=by
 intro n
 induction n with
 |zero=>intro x i o _ _ h;simp[ordB]at h
 |succ n ih=>
  intro x i o ho he h;simp only[ordB,ho,Array.any_eq_true',qW,qT]at h;obtain⟨e,hm,hb,h⟩:=h;have hl:=he e hm hb;rcases h with h | h
  ·have:e.on=x:=by simpa using h
   rw[<-this];exact hl
  ·replace h:=h.2;cases hoe:ops[e.on]? with
   |none=>
    cases n with
    |zero=>simp[ordB]at h
    |succ n=>simp[ordB,hoe]at h
   |some o2=>exact ih x e.on o2 hoe (hdc e.on o2 hoe hl) h
theorem Stp.quiet{P:Program}{Γ:Glob}{n0:Nat}{o:COp}{E:Env}{X:Heap}{it:It}(h:Stp P Γ n0 o E X it)(hq:o.k.loud=false):it.e=[]/\it.rd=[]:=by
 have body:Body P Γ n0 o.k E X it->it.e=[]/\it.rd=[]:=by
  intro hb;cases hck:o.k<;>rw[hck]at hb hq<;>simp only[CK.loud]at hq<;>try (simp at hq;done)
  all_goals
   simp only[Body]at hb;obtain⟨hb,_⟩:=hb;simp only[evK]at hb
  case mov x=>simp at hb;exact⟨hb.2.1,hb.2.2⟩
  case pick c a b=>split at hb<;>simp at hb;exact⟨hb.2.1,hb.2.2⟩
  case build z ps=>simp only[qX]at hb;obtain⟨_,_,hb⟩:=hb;simp at hb;exact⟨hb.2.1,hb.2.2⟩
  case nilck x=>split at hb<;>simp at hb<;>exact⟨hb.2.1,hb.2.2⟩
  case bin op x y=>simp only[qX]at hb;obtain⟨_,_,hb⟩:=hb;simp at hb;exact⟨hb.2.1,hb.2.2⟩
  case beq neg x y=>split at hb<;>simp at hb;exact⟨hb.2.1,hb.2.2⟩
  case snil neg x=>
   split at hb
   ·split at hb<;>simp at hb<;>exact⟨hb.2.1,hb.2.2⟩
   ·simp at hb;exact⟨hb.2.1,hb.2.2⟩
   ·simp at hb
  case un op x=>simp only[qX]at hb;obtain⟨_,_,hb⟩:=hb;simp at hb;exact⟨hb.2.1,hb.2.2⟩
  case conv kk x=>split at hb<;>simp at hb;exact⟨hb.2.1,hb.2.2⟩
  case slice sz x lo hi mx=>simp only[qX]at hb;obtain⟨_,_,hb⟩:=hb;simp at hb;exact⟨hb.2.1,hb.2.2⟩
  case fld off x=>split at hb<;>simp at hb<;>exact⟨hb.2.1,hb.2.2⟩
  case part ag sz off x=>
   split at hb<;>try (simp at hb;done)
   have hb:=(zac hb).2;simp at hb;exact⟨hb.2.1,hb.2.2⟩
  case idx sz x y=>
   split at hb<;>try (simp at hb;done)
   all_goals (have hb:=(zac hb).2;simp at hb;exact⟨hb.2.1,hb.2.2⟩)
  case idxa n sz x y=>
   split at hb<;>try (simp at hb;done)
   all_goals (have hb:=(zac hb).2;simp at hb;exact⟨hb.2.1,hb.2.2⟩)
  case idxv n ag sz x y=>
   split at hb<;>try (simp at hb;done)
   all_goals (have hb:=(zac hb).2;simp at hb;exact⟨hb.2.1,hb.2.2⟩)
  case idxs x y=>
   split at hb<;>try (simp at hb;done)
   all_goals (have hb:=(zac hb).2;simp at hb;exact⟨hb.2.1,hb.2.2⟩)
  case ext x i=>
   split at hb
   ·split at hb<;>simp at hb;exact⟨hb.2.1,hb.2.2⟩
   ·simp at hb
  case len st x=>split at hb<;>simp at hb<;>exact⟨hb.2.1,hb.2.2⟩
  case lenk n=>simp at hb;exact⟨hb.2.1,hb.2.2⟩
  case max x y=>split at hb<;>simp at hb;exact⟨hb.2.1,hb.2.2⟩
  case mkfn f caps=>simp at hb;exact⟨hb.2.1,hb.2.2⟩
  case aeq neg ks x y=>
   split at hb<;>try (simp at hb;done)
   rw[qX]at hb;obtain⟨_,_,hb⟩:=hb;simp at hb;exact⟨hb.2.1,hb.2.2⟩
  case pnil neg x=>
   split at hb<;>try (simp at hb;done)
   ·simp at hb;exact⟨hb.2.1,hb.2.2⟩
   ·simp at hb;exact⟨hb.2.1,hb.2.2⟩
   ·have hb:=(zac hb).2;simp at hb;exact⟨hb.2.1,hb.2.2⟩
  case mkbnd f l=>simp at hb;exact⟨hb.2.1,hb.2.2⟩
  case bits64 b x y z=>
   split at hb<;>try (simp at hb;done)
   have hb:=(zac hb).2;simp at hb;exact⟨hb.2.1,hb.2.2⟩
 unfold Stp at h;split at h
 ·exact body h
 ·obtain⟨b,hb,h⟩:=h;split at h
  ·exact body h
  ·exact⟨h.2.1,h.2.2.1⟩
def juz(x y:It):Prop:=(∀i,i∈keys x.e->i∉y.rd/\i∉keys y.e)/\(∀i,i∈keys y.e->i∉x.rd)
theorem RunS.quiet{P:Program}{Γ:Glob}{n0:Nat}:∀(os:List COp) (its:List It) (E:Env) (H:Heap) (E':Env) (H':Heap),RunS P Γ n0 os its E H E' H'->
  ∀(j:Nat) (o:COp) (it:It),os[j]?=some o->its[j]?=some it->o.k.loud=false->it.e=[]/\it.rd=[]:=by
 intro os
 induction os with
 |nil=>intro its E H E' H' _ j o it h;simp at h
 |cons o os ih=>
  intro its E H E' H' h j o' it' h1 h2 hq;cases its with
  |nil=>exact h.elim
  |cons it its=>
   cases j with
   |zero=>simp at h1 h2;subst h1 h2;exact h.2.1.quiet hq
   |succ j=>exact ih its _ _ _ _ h.2.2 j o' it' (by simpa using h1) (by simpa using h2) hq
theorem zvx{P:Program}{Γ:Glob}{nt:Nat}{ops:Array Oper}{cs:List COp}(h:zyi P Γ nt ops=some cs):
  cs.length=ops.size/\∀(j:Nat) (o:Oper),ops[j]?=some o->∃c,cs[j]?=some c/\zvk P Γ nt ops o=some c:=by
 obtain⟨h1,h2⟩:=zhe h;exact⟨by simpa using h1,λj o ho=>h2 j o (by simpa using ho)⟩
theorem zyy{P:Program}{Γ:Glob}{C:Ctx}{ρ:Nat->RS}{E E':Env}{H H':Heap}{a:Act}{w:World}{ops:Array Oper}{cs:List COp}{its:List It}{Q:Exit->Act->World->Prop}{id:Nat}
  (hm:P.follows .mixedOrders=true) (hc:zyi P Γ C.nt ops=some cs) (hst:qin ops cs=true) (hrun:RunS P Γ C.n0 cs its E H E' H')
  (hdyn:∀p∈zkt ops cs,∀x y,its[p.1]?=some x->its[p.2]?=some y->juz x y) (hs:Sim Γ C ρ E H a w) (hQ:∀ρ' a' w',Sim Γ C ρ' E' H' a' w'->Q .normal a' w'):
  (Code.region id ops true).wpIn (zdj C.ro) 0 P Q a w:=by
 refine wpIn_region_any hm ?_;obtain⟨hlen,hget⟩:=zvx hc;have hlen2:=RunS.len _ _ _ _ _ _ hrun;obtain⟨r1,r2,r3⟩:=RunS.run cs its 0 E H E' H' hrun;have hs0:=(hs.drew { w with drawn:=w.drawn+1 } rfl ⟨rfl,rfl⟩).pad (zre its);unfold qin at hst;simp only[qW,List.all_eq_true]at hst;obtain⟨hback,happ⟩:=hst
 have hedge:∀(i:Nat) (o:Oper),ops[i]?=some o->∀e∈o.after,Region.binds .any e=true->e.on<i:=by
  intro i o ho e he hb
  have hmem:(o,i)∈ops.toList.zipIdx:=by
   rw[List.mem_zipIdx_iff_getElem?];simpa using ho
  have:=hback (o,i) hmem;simp only[Array.all_eq_true',qT,qH,decide_eq_true_eq]at this;rcases this e he with h | h
  ·rw[hb]at h;simp at h
  ·exact h
 have hindep:∀(x i:Nat) (ox oi:COp) (ix ii:It),x<i->i<ops.size->cs[x]?=some ox->cs[i]?=some oi->its[x]?=some ix->its[i]?=some ii->ordB ops 5 x i=false->qtg (ox,ix) (oi,ii):=by
  intro x i ox oi ix ii hxi hi h1 h2 h3 h4 hord
  have hup:(x,i)∈qbv ops:=by
   unfold qbv;simp only[List.mem_flatMap,xQ,List.mem_map,qG];exact⟨i,hi,x,⟨hxi,by simp[hord]⟩,rfl⟩
  have ha:=happ (x,i) hup;simp only[h1,h2]at ha;refine⟨ha,?_⟩;by_cases hl:ox.k.loud=true/\oi.k.loud=true
  ·have:(x,i)∈zkt ops cs:=by
    unfold zkt;simp only[qG,h1,h2];exact⟨hup,by simp[hl.1,hl.2]⟩
   exact hdyn (x,i) this ix ii h3 h4
  ·by_cases hx:ox.k.loud=true
   ·have hi':oi.k.loud=false:=by
     cases h:oi.k.loud
     ·rfl
     ·exact absurd ⟨hx,h⟩ hl
    obtain⟨e1,e2⟩:=RunS.quiet _ _ _ _ _ _ hrun i oi ii h2 h4 hi';simp only[e1,e2,keys];exact⟨λ_ _=>⟨by simp,by simp⟩,by simp⟩
   ·have hx':ox.k.loud=false:=by simpa using hx
    obtain⟨e1,e2⟩:=RunS.quiet _ _ _ _ _ _ hrun x ox ix h1 h3 hx';simp only[e1,e2,keys];exact⟨by simp,by simp⟩
 have main:∀(fuel:Nat) (listed:Array Bool) (rem:List (Nat×COp×It)) (ρ:Nat->RS) (E:Env) (X:Heap) (a:Act) (w:World),rem.length=fuel->listed.size=ops.size->
   rem.Pairwise (λx y=>x.1<y.1)->(∀x∈rem,x.1<ops.size/\cs[x.1]?=some x.2.1/\its[x.1]?=some x.2.2)->(∀i,i<ops.size->(listed.getD i true=false↔∃x∈rem,x.1=i))->
   (∀y o,ops[y]?=some o->listed.getD y false=true->∀e∈o.after,Region.binds .any e=true->listed.getD e.on false=true)->
   Run P Γ C.n0 rem E X E' H'->Sim Γ C ρ E X a w->(∀x∈rem,C.n0<=x.2.2.k/\x.2.2.k+x.2.2.c<=X.length/\∀j,x.2.2.k<=j->j<x.2.2.k+x.2.2.c->ρ j= .unborn)->
   rem.Pairwise (λx y=>x.2.2.k+x.2.2.c<=y.2.2.k)->wpAnyIn (zdj C.ro) 0 P .any ops Q fuel listed a w:=by
  intro fuel
  induction fuel with
  |zero=>
   intro listed rem ρ E X a w hf hsz hsort hmem hlist hdc hrun hs hub hpw;have:rem=[]:=List.length_eq_zero_iff.1 hf;subst this;obtain⟨rfl,rfl⟩:=hrun;refine⟨?_,hQ _ _ _ hs⟩;unfold Region.ready;rw[List.filter_eq_nil_iff];intro i hi;simp only[xQ]at hi
   have:listed.getD i true=true:=by
    cases h:listed.getD i true
    ·obtain⟨x,hx,_⟩:=(hlist i hi).1 h;simp at hx
    ·rfl
   simp[this]
  |succ fuel ih=>
   intro listed rem ρ E X a w hf hsz hsort hmem hlist hdc hrun hs hub hpw
   have lsame:∀i,i<ops.size->listed.getD i true=listed.getD i false:=by
    intro i hi;have:i<listed.size:=by omega
    simp[Array.getD_eq_getD_getElem?,this]
   refine⟨λhr=>?_,λi hi=>?_⟩
   ·exfalso;cases hrem:rem with
    |nil=>rw[hrem]at hf;simp at hf
    |cons x rest=>
     have hx:x∈rem:=by rw[hrem];simp
     obtain⟨hx1,hx2,hx3⟩:=hmem x hx;have hxo:∃o,ops[x.1]?=some o:=⟨ops[x.1],by simp[hx1]⟩
     obtain⟨o,ho⟩:=hxo
     have hin:x.1∈Region.ready .any ops listed:=by
      unfold Region.ready;rw[qG];refine⟨by simpa using hx1,?_⟩;rw[(hlist x.1 hx1).2 ⟨x,hx,rfl⟩,ho];simp only[Bool.not_false,Bool.true_and,xW,qP,Array.all_eq_true'];intro e he;cases hb:Region.binds .any e
      ·simp
      ·simp only[Bool.not_true,Bool.false_or];have hlt:=hedge x.1 o ho e he hb;rw[<-lsame e.on (by omega)];cases hl:listed.getD e.on true
       ·obtain⟨y,hy,hy1⟩:=(hlist e.on (by omega)).1 hl;rw[hrem]at hy hsort;simp only[qY]at hy;rcases hy with rfl | hy
        ·omega
        ·have:=(List.pairwise_cons.1 hsort).1 y hy;omega
       ·rfl
     rw[hr]at hin;simp at hin
   ·unfold Region.ready at hi;rw[qG]at hi;obtain⟨hi1,hi2⟩:=hi;simp only[xQ]at hi1;simp only[qW,qH]at hi2;obtain⟨hi2,hi3⟩:=hi2;obtain⟨o,ho⟩:∃o,ops[i]?=some o:=⟨ops[i],by simp[hi1]⟩
    rw[ho]at hi3;simp only[xW,qP,Array.all_eq_true']at hi3
    have hedges:∀e∈o.after,Region.binds .any e=true->listed.getD e.on false=true:=by
     intro e he hb;have:=hi3 e he;rw[hb]at this;simpa using this
    obtain⟨x,hx,hxi⟩:=(hlist i hi1).1 hi2;obtain⟨l1,l2,hsplit⟩:=List.append_of_mem hx;obtain⟨xi,co,it⟩:=x;simp only at hxi;subst hxi;obtain⟨_,hco,hit⟩:=hmem _ hx;simp only at hco hit;obtain⟨co',hco',hcop⟩:=hget xi o ho;rw[hco]at hco';simp at hco';subst hco'
    have hl1:∀y∈l1,qtg y.2 (co,it):=by
     intro y hy;obtain⟨yi,oy,iy⟩:=y;have hyr:(yi,oy,iy)∈rem:=by rw[hsplit];simp[hy]
     obtain⟨g1,g2,g3⟩:=hmem _ hyr;simp only at g1 g2 g3
     have hlt:yi<xi:=by
      rw[hsplit]at hsort;exact(List.pairwise_append.1 hsort).2.2 _ hy (xi,co,it) (by simp)
     refine hindep yi xi oy co iy it hlt hi1 g2 hco g3 hit ?_;cases hord:ordB ops 5 yi xi
     ·rfl
     ·exfalso;have h1:=zyx hdc 5 yi xi o ho hedges hord;rw[<-lsame yi g1,(hlist yi g1).2 ⟨_,hyr,rfl⟩]at h1;simp at h1
    rw[hsplit]at hrun;have hrun':=Run.front l1 E X hl1 hrun;obtain⟨hstp,hrest⟩:=hrun';obtain⟨hb1,hb2,hb3⟩:=hub _ hx;simp only at hb1 hb2 hb3;refine juy ho hs hcop hstp hb1 hb2 hb3 ?_;intro ρ' v' w' hs' hstill
    have hsub:∀y,y∈l1++l2->y∈rem:=by
     intro y hy;rw[hsplit];simp only[qI,qY]at hy ⊢;rcases hy with h | h
     ·exact .inl h
     ·exact .inr (.inr h)
    have hsubl:(l1++l2).Sublist rem:=by rw[hsplit];exact List.Sublist.append_left (List.sublist_cons_self _ _) _
    have hne:∀y∈l1++l2,y.1≠xi:=by
     intro y hy e;rw[hsplit]at hsort;obtain⟨s1,s2,s3⟩:=List.pairwise_append.1 hsort;simp only[qI]at hy;rcases hy with hy | hy
     ·have:=s3 y hy (xi,co,it) (by simp);simp only at this;omega
     ·have:=(List.pairwise_cons.1 s2).1 y hy;simp only at this;omega
    have hgd:∀j (d:Bool),(listed.setIfInBounds xi true).getD j d=if j=xi then true else listed.getD j d:=by
     intro j d;have hxl:xi<listed.size:=by omega
     simp only[Array.getD_eq_getD_getElem?];by_cases e:j=xi
     ·subst e;simp[hxl]
     ·rw[if_neg e,Array.getElem?_setIfInBounds_ne (λh=>e h.symm)]
    refine ih (listed.setIfInBounds xi true) (l1++l2) ρ' _ _ _ w' ?_ (by simpa using hsz) (hsort.sublist hsubl) (λy hy=>hmem y (hsub y hy)) (λj hj=>?_) (λy oy hoy hly e he hb=>?_) hrest hs' (λy hy=>?_) (hpw.sublist hsubl)
    ·rw[hsplit]at hf;simp at hf ⊢;omega
    ·rw[hgd];by_cases e:j=xi
     ·subst e;simp only[if_true];constructor
      ·intro h;simp at h
      ·rintro⟨y,hy,rfl⟩;exact absurd rfl (hne y hy)
     ·rw[if_neg e,hlist j hj];constructor
      ·rintro⟨y,hy,rfl⟩;rw[hsplit]at hy;simp only[qI,qY]at hy;rcases hy with hy | rfl | hy
       ·exact⟨y,by simp[hy],rfl⟩
       ·exact absurd rfl e
       ·exact⟨y,by simp[hy],rfl⟩
      ·rintro⟨y,hy,rfl⟩;exact⟨y,hsub y hy,rfl⟩
    ·rw[hgd]at hly ⊢;by_cases e2:e.on=xi
     ·rw[if_pos e2]
     ·rw[if_neg e2];by_cases e3:y=xi
      ·subst e3;rw[ho]at hoy;simp at hoy;subst hoy;exact hedges e he hb
      ·rw[if_neg e3]at hly;exact hdc y oy hoy hly e he hb
    ·obtain⟨k1,k2,k3⟩:=hub y (hsub y hy);refine⟨k1,by rw[zgq];exact k2,λj hj1 hj2=>hstill j (k3 j hj1 hj2) ?_⟩;simp only[zfx,xZ];intro hj3
     have hdis:it.k+it.c<=y.2.2.k\/y.2.2.k+y.2.2.c<=it.k:=by
      rw[hsplit]at hpw;obtain⟨s1,s2,s3⟩:=List.pairwise_append.1 hpw;simp only[qI]at hy;rcases hy with hy | hy
      ·exact .inr (s3 y hy (xi,co,it) (by simp))
      ·exact .inl ((List.pairwise_cons.1 s2).1 y hy)
     omega
 refine main ops.size (Array.replicate ops.size false) (zip3 0 cs its) ρ E _ a _ (by rw[qtl _ _ _ hlen2,hlen]) (by simp) (zyw _ _ _) (λx hx=>?_) (λi hi=>?_) (λy o ho hl=>?_) r1 hs0 (λx hx=>?_) r2
 ·obtain⟨_,h2,h3⟩:=qcg cs its 0 x hx;simp only[Nat.sub_zero]at h2 h3;refine⟨?_,h2,h3⟩;rw[<-hlen];rcases qK x.1 cs.length with h' | h'
  ·exact h'
  ·rw[qZ h']at h2;simp at h2
 ·constructor
  ·intro _;have h1:i<cs.length:=by omega
   have h2:i<its.length:=by omega
   exact⟨_,qtm cs its 0 i cs[i] its[i] (by simp[h1]) (by simp[h2]),by simp⟩
  ·intro _;simp[Array.getD_eq_getD_getElem?,hi]
 ·exfalso;simp only[Array.getD_eq_getD_getElem?,Array.getElem?_replicate]at hl;split at hl<;>simp at hl
 ·obtain⟨h1,h2⟩:=r3 x hx;refine⟨Nat.le_trans hs.len h1,by simpa using h2,λj hj1 _=>hs.hok.unborn j (by omega)⟩
abbrev Post:=Exit->Env->Heap->Prop
def W(P:Program)(Γ:Glob)(n0 nt:Nat)(c:CC)(E:Env)(H:Heap)(Q:Post):Prop:=
 ∀code,zbt P Γ nt code=some c->∀(C:Ctx) (ρ:Nat->RS) (a:Act) (w:World),C.n0=n0->C.nt=nt->(C.ro=none\/c.flat=true)->Sim Γ C ρ E H a w->
  code.wpIn (zdj C.ro) 0 P (λx a' w'=>∃E' H' ρ',Q x E' H'/\Sim Γ C ρ' E' H' a' w') a w
theorem jyq{x:Option Nat}{a b:Bool}(h:x=none\/(a && b)=true):x=none\/a=true:=h.imp id (λh=>(qW _ _ ▸ h).1)
theorem jyr{x:Option Nat}{a b:Bool}(h:x=none\/(a && b)=true):x=none\/b=true:=h.imp id (λh=>(qW _ _ ▸ h).2)
section
variable{P:Program}{Γ:Glob}{n0 nt:Nat}{c d:CC}{E:Env}{H:Heap}{Q R:Post}
theorem W.mono(h:W P Γ n0 nt c E H Q)(hq:∀x E' H',Q x E' H'->R x E' H'):W P Γ n0 nt c E H R:=
 λcode hc C ρ a w h1 h2 hfl hs=>wpIn_mono (h code hc C ρ a w h1 h2 hfl hs) (λ_ _ _ ⟨E',H',ρ',q,s⟩=>⟨E',H',ρ',hq _ _ _ q,s⟩)
theorem jva(h:Q .normal E H):W P Γ n0 nt .skip E H Q:=by
 intro code hc C ρ a w _ _ _ hs;cases code<;>simp only[zbt]at hc<;>try (simp at hc;done)
 case skip=>exact wpIn_skip ⟨E,H,ρ,h,hs⟩
 all_goals (split at hc<;>try (simp at hc;done))
 all_goals (split at hc<;>try (simp at hc;done))
 all_goals (split at hc<;>simp at hc)
theorem xwv(h:Q .ret E H):W P Γ n0 nt .ret E H Q:=by
 intro code hc C ρ a w _ _ _ hs;cases code<;>simp only[zbt]at hc<;>try (simp at hc;done)
 case ret=>exact wpIn_ret ⟨E,H,ρ,h,hs⟩
 all_goals (split at hc<;>try (simp at hc;done))
 all_goals (split at hc<;>try (simp at hc;done))
 all_goals (split at hc<;>simp at hc)
theorem jvb{id:Nat}(h:Q (.exit id) E H):W P Γ n0 nt (.exit id) E H Q:=by
 intro code hc C ρ a w _ _ _ hs;cases code<;>simp only[zbt]at hc<;>try (simp at hc;done)
 case exit id'=>simp at hc;subst hc;exact wpIn_exit ⟨E,H,ρ,h,hs⟩
 all_goals (split at hc<;>try (simp at hc;done))
 all_goals (split at hc<;>try (simp at hc;done))
 all_goals (split at hc<;>simp at hc)
theorem qjr{l:Nat}(h:Q .normal E H):W P Γ n0 nt (.label l) E H Q:=by
 intro code hc C ρ a w _ _ _ hs;cases code<;>simp only[zbt]at hc<;>try (simp at hc;done)
 case label id'=>simp at hc;subst hc;exact wpIn_label ⟨E,H,ρ,h,hs⟩
 all_goals (split at hc<;>try (simp at hc;done))
 all_goals (split at hc<;>try (simp at hc;done))
 all_goals (split at hc<;>simp at hc)
theorem jvc{l:Nat}(h:Q (.goto l) E H):W P Γ n0 nt (.goto l) E H Q:=by
 intro code hc C ρ a w _ _ _ hs;cases code<;>simp only[zbt]at hc<;>try (simp at hc;done)
 case goto id'=>simp at hc;subst hc;exact wpIn_goto ⟨E,H,ρ,h,hs⟩
 all_goals (split at hc<;>try (simp at hc;done))
 all_goals (split at hc<;>try (simp at hc;done))
 all_goals (split at hc<;>simp at hc)
def zhf(k:Env->Heap->Prop)(Q:Post):Post:=λx E H=>match x with
 |.normal=>k E H
 |x=>Q x E H
theorem zgr(h:W P Γ n0 nt c E H (zhf (λE' H'=>W P Γ n0 nt d E' H' Q) Q)):W P Γ n0 nt (.seq c d) E H Q:=by
 intro code hc C ρ a w h1 h2 hfl hs;cases code<;>simp only[zbt]at hc<;>try (simp at hc;done)
 case seq x y=>
  split at hc
  ·rename_i cx cy hx hy;simp at hc;obtain⟨rfl,rfl⟩:=hc;refine wpIn_seq (wpIn_mono (h x hx C ρ a w h1 h2 (jyq hfl) hs) ?_);rintro e a' w' ⟨E',H',ρ',q,s⟩;cases e with
   |normal=>exact q y hy C ρ' a' w' h1 h2 (jyr hfl) s
   |_=>exact⟨E',H',ρ',q,s⟩
  ·simp at hc
 all_goals (split at hc<;>try (simp at hc;done))
 all_goals (split at hc<;>try (simp at hc;done))
 all_goals (split at hc<;>simp at hc)
theorem zvy{x:Opd}{t:Bool}(hx:val E x= .bool t)(ht:t=true->W P Γ n0 nt c E H Q)(hf:t=false->W P Γ n0 nt d E H Q):W P Γ n0 nt (.cond x c d) E H Q:=by
 intro code hc C ρ a w h1 h2 hfl hs;cases code<;>simp only[zbt]at hc<;>try (simp at hc;done)
 case cond x' y z=>
  split at hc
  ·rename_i cx cy cz hxx hy hz;simp at hc;obtain⟨rfl,rfl,rfl⟩:=hc;have hr:=zah hs.hok hs.env hxx;rw[hx]at hr;exact wpIn_cond_split (zej hr) (λe=>ht e y hy C ρ a w h1 h2 (jyq hfl) hs) (λe=>hf e z hz C ρ a w h1 h2 (jyr hfl) hs)
  ·simp at hc
 all_goals (split at hc<;>try (simp at hc;done))
 all_goals (split at hc<;>try (simp at hc;done))
 all_goals (split at hc<;>simp at hc)
theorem qfn{x:Opd}(hx:val E x= .anyb)(ht:W P Γ n0 nt c E H Q)(hf:W P Γ n0 nt d E H Q):W P Γ n0 nt (.cond x c d) E H Q:=by
 intro code hc C ρ a w h1 h2 hfl hs;cases code<;>simp only[zbt]at hc<;>try (simp at hc;done)
 case cond x' y z=>
  split at hc
  ·rename_i cx cy cz hxx hy hz;simp at hc;obtain⟨rfl,rfl,rfl⟩:=hc;have hr:=zah hs.hok hs.env hxx;rw[hx]at hr;obtain⟨b,hb⟩:=zta hr;exact wpIn_cond_split hb (λ_=>ht y hy C ρ a w h1 h2 (jyq hfl) hs) (λ_=>hf z hz C ρ a w h1 h2 (jyr hfl) hs)
  ·simp at hc
 all_goals (split at hc<;>try (simp at hc;done))
 all_goals (split at hc<;>try (simp at hc;done))
 all_goals (split at hc<;>simp at hc)
def zmo(id:Nat)(Q:Post):Post:=λx E H=>match x with
 |.exit i=>if i=id then Q .normal E H else Q (.exit i) E H
 |x=>Q x E H
theorem zdk{id:Nat}(h:W P Γ n0 nt c E H (zmo id Q)):W P Γ n0 nt (.block id c) E H Q:=by
 intro code hc C ρ a w h1 h2 hfl hs;cases code<;>simp only[zbt]at hc<;>try (simp at hc;done)
 case block id' x=>
  split at hc
  ·rename_i cx hx;simp at hc;obtain⟨rfl,rfl⟩:=hc;refine wpIn_block (wpIn_mono (h x hx C ρ a w h1 h2 hfl hs) ?_);rintro e a' w' ⟨E',H',ρ',q,s⟩;cases e with
   |exit i=>
    simp only[zmo]at q;simp only[Exit.inBlock];split at q
    ·rename_i e1;rw[if_pos e1];exact⟨E',H',ρ',q,s⟩
    ·rename_i e1;rw[if_neg e1];exact⟨E',H',ρ',q,s⟩
   |_=>exact⟨E',H',ρ',q,s⟩
  ·simp at hc
 all_goals (split at hc<;>try (simp at hc;done))
 all_goals (split at hc<;>try (simp at hc;done))
 all_goals (split at hc<;>simp at hc)
def Weak(Γ:Glob)(n0:Nat)(E:Env)(H:Heap)(E':Env)(H':Heap):Prop:=
 ∀(C:Ctx) (ρ:Nat->RS) (a:Act) (w:World),C.n0=n0->Sim Γ C ρ E H a w->∃ρ',Sim Γ C ρ' E' H' a w
theorem Weak.refl:Weak Γ n0 E H E H:=λ_ ρ _ _ _ h=>⟨ρ,h⟩
theorem Weak.trans{E1 E2:Env}{H1 H2:Heap}(h:Weak Γ n0 E H E1 H1)(h':Weak Γ n0 E1 H1 E2 H2):Weak Γ n0 E H E2 H2:=by
 intro C ρ a w hn hs;obtain⟨ρ1,h1⟩:=h C ρ a w hn hs;exact h' C ρ1 a w hn h1
theorem W.weak{E':Env}{H':Heap}(hw:Weak Γ n0 E H E' H')(h:W P Γ n0 nt c E' H' Q):W P Γ n0 nt c E H Q:=by
 intro code hc C ρ a w h1 h2 hfl hs;obtain⟨ρ',hs'⟩:=hw C ρ a w h1 hs;exact h code hc C ρ' a w h1 h2 hfl hs'
theorem zax(I:Nat->Env->Heap->Prop){n:Nat}(h0:I n E H)
  (round:∀n E H,I n E H->W P Γ n0 nt c E H (zhf (λE' H'=>∃m E2 H2,m<n/\I m E2 H2/\Weak Γ n0 E' H' E2 H2) Q)):W P Γ n0 nt (.loop c) E H Q:=by
 intro code hc C ρ a w h1 h2 hfl hs;cases code<;>simp only[zbt]at hc<;>try (simp at hc;done)
 case loop x=>
  split at hc
  ·rename_i cx hx;simp at hc;subst hc;intro b k cs hro hb hr
   have key:∀n E H ρ a w,I n E H->Sim Γ C ρ E H a w->
     ∃e a' w',(∃E' H' ρ',Q e E' H'/\Sim Γ C ρ' E' H' a' w')/\ArrivesIn (Machine.fenced P (zdj C.ro)) P (lone (b.atR a (.code x:: .inLoop x::k)) cs w) b k cs e a' w':=by
    intro n
    induction n using Nat.strongRecOn with
    |_ n ih=>
     intro E H ρ a w hI hs;obtain⟨e,a₁,w₁,⟨E1,H1,ρ1,hq,hs1⟩,harr⟩:=round n E H hI x hx C ρ a w h1 h2 hfl hs b (.inLoop x::k) cs hro hb hr;cases e with
     |normal=>
      obtain⟨m,E2,H2,hlt,hI2,hw⟩:=hq;obtain⟨ρ2,hs2⟩:=hw C ρ1 a₁ w₁ h1 hs1;obtain⟨e₂,a₂,w₂,hq₂,harr₂⟩:=ih m hlt E2 H2 ρ2 a₁ w₁ hI2 hs2;exact⟨e₂,a₂,w₂,hq₂,.of_steps (StepsIn.trans harr (.one (fenced_calm hb hr rfl) stepR_inLoop)) harr₂⟩
     |exit id=>exact⟨_,a₁,w₁,⟨E1,H1,ρ1,hq,hs1⟩,.pass (x:= .inLoop x) rfl (λ_ _=> .inl (by simp)) harr⟩
     |goto l=>exact⟨_,a₁,w₁,⟨E1,H1,ρ1,hq,hs1⟩,.pass (x:= .inLoop x) rfl (λ_ _=> .inl (by simp)) harr⟩
     |ret=>exact⟨_,a₁,w₁,⟨E1,H1,ρ1,hq,hs1⟩,.pass (x:= .inLoop x) rfl (λ_ _=> .inl (by simp)) harr⟩
     |panic ch=>exact⟨_,a₁,w₁,⟨E1,H1,ρ1,hq,hs1⟩,.pass (x:= .inLoop x) rfl (λ_ _=> .inl (by simp)) harr⟩
     |outgrown=>exact⟨_,a₁,w₁,⟨E1,H1,ρ1,hq,hs1⟩,.pass (x:= .inLoop x) rfl (λ_ _=> .inl (by simp)) harr⟩
   obtain⟨e,a',w',hq,harr⟩:=key n E H ρ a w h0 hs;exact⟨e,a',w',hq,.of_steps (.one (fenced_calm hb hr rfl) stepR_loop) harr⟩
  ·simp at hc
 all_goals (split at hc<;>try (simp at hc;done))
 all_goals (split at hc<;>try (simp at hc;done))
 all_goals (split at hc<;>simp at hc)
theorem zyz{C:Ctx}{ops:Array Oper}{cs:List COp}{Q:Exit->Act->World->Prop}(hget:∀(j:Nat) (o:Oper),ops[j]?=some o->∃c,cs[j]?=some c/\zvk P Γ C.nt ops o=some c)(hlen:cs.length=ops.size):
  ∀(n i:Nat) (its:List It) (ρ:Nat->RS) (E:Env) (H:Heap) (E':Env) (H':Heap) (a:Act) (w:World),i+n=ops.size->RunS P Γ C.n0 (cs.drop i) its E H E' H'->Sim Γ C ρ E H a w->
   (∀ρ' a' w',Sim Γ C ρ' E' H' a' w'->Q .normal a' w')->wpOpsIn (zdj C.ro) 0 P ops Q (List.range' i n) a w:=by
 intro n
 induction n with
 |zero=>
  intro i its ρ E H E' H' a w hn hr hs hQ;have:cs.drop i=[]:=List.drop_eq_nil_of_le (by omega);rw[this]at hr;cases its with
  |nil=>obtain⟨rfl,rfl⟩:=hr;exact hQ ρ a w hs
  |cons it its=>exact hr.elim
 |succ n ih=>
  intro i its ρ E H E' H' a w hn hr hs hQ;have hi:i<cs.length:=by omega
  rw[List.drop_eq_getElem_cons hi]at hr;cases its with
  |nil=>exact hr.elim
  |cons it its=>
   obtain⟨h1,h2,h3⟩:=hr;have hio:i<ops.size:=by omega
   obtain⟨c',hc',hco⟩:=hget i ops[i] (by simp[hio]);rw[qN hi]at hc';simp at hc';subst hc';rw[List.range'_succ,wpOpsIn_cons];have hsp:=hs.pad it.c;refine juy (o:=ops[i]) (by simp[hio]) hsp hco h2 (by rw[h1];exact hs.len) (by simp;omega) (λj hj1 _=>hs.hok.unborn j (by omega)) ?_;intro ρ' v' w' hs' _;exact ih (i+1) its ρ' _ _ E' H' _ w' (by omega) h3 hs' hQ
theorem qtn{cs:List COp}{dr:Option (List (Nat×Nat))}{its:List It}{E':Env}{H':Heap}(hm:P.follows .mixedOrders=true)(hrun:RunS P Γ n0 cs its E H E' H')
  (hd:∀l,dr=some l->∀p∈l,∀x y,its[p.1]?=some x->its[p.2]?=some y->juz x y) (hQ:Q .normal E' H'):W P Γ n0 nt (.reg cs dr) E H Q:=by
 intro code hc C ρ a w h1 h2 hfl hs;cases code<;>simp only[zbt]at hc<;>try (simp at hc;done)
 case region id ops draw=>
  split at hc
  ·rename_i cs' hcs;subst h1 h2;split at hc
   ·rename_i hdraw;subst hdraw;split at hc
    ·rename_i hst;simp at hc;obtain⟨rfl,rfl⟩:=hc;exact zyy hm hcs hst hrun (hd _ rfl) hs (λρ' a' w' hs'=>⟨E',H',ρ',hQ,hs'⟩)
    ·simp at hc
   ·rename_i hdraw;have:draw=false:=by simpa using hdraw
    subst this;simp at hc;obtain⟨rfl,rfl⟩:=hc;obtain⟨hlen,hget⟩:=zvx hcs;refine wpIn_region ?_;rw[List.range_eq_range'];exact zyz hget hlen ops.size 0 its ρ E H E' H' a w (by omega) (by simpa using hrun) hs (λρ' a' w' hs'=>⟨E',H',ρ',hQ,hs'⟩)
  ·simp at hc
 all_goals (split at hc<;>try (simp at hc;done))
end
theorem zfq(σ:Nat->Nat):∀a:AV,a.closed=true->a.ren σ=a:=by
 suffices h:∀(a:AV),(a.closed=true->a.ren σ=a)from h
 intro a
 induction a using AV.rec (motive_2:=λl=>AV.closed.closedL l=true->AV.ren.renL σ l=l)with
 |bool b=>intro _;rfl
 |int k n=>intro _;rfl
 |str s=>intro _;rfl
 |vec cs n c=>intro _;rfl
 |sl id off n sz c=>intro h;simp[AV.closed]at h
 |ptr id off=>intro h;simp[AV.closed]at h
 |iptr cs p=>intro _;rfl
 |clo f cs ih=>intro h;simp only[AV.ren];rw[ih (by simpa[AV.closed]using h)]
 |agg cs ih=>intro h;simp only[AV.ren];rw[ih (by simpa[AV.closed]using h)]
 |tup cs ih=>intro h;simp only[AV.ren];rw[ih (by simpa[AV.closed]using h)]
 |anyb=>intro _;rfl
 |junk=>intro _;rfl
 |nil=>rfl
 |cons x l hx hl=>
  rename_i h;simp only[AV.closed.closedL,qW]at h;simp only[AV.ren.renL];rw[hx h.1,hl h.2]
theorem znh(n:Nat):∀a:AV,a.closed=true->a.under n=true:=by
 intro a
 induction a using AV.rec (motive_2:=λl=>AV.closed.closedL l=true->AV.under.underL n l=true)with
 |bool b=>intro _;rfl
 |int k n=>intro _;rfl
 |str s=>intro _;rfl
 |vec cs n c=>intro _;rfl
 |sl id off n sz c=>intro h;simp[AV.closed]at h
 |ptr id off=>intro h;simp[AV.closed]at h
 |iptr cs p=>intro _;rfl
 |clo f cs ih=>intro h;simp only[AV.under];exact ih (by simpa[AV.closed]using h)
 |agg cs ih=>intro h;simp only[AV.under];exact ih (by simpa[AV.closed]using h)
 |tup cs ih=>intro h;simp only[AV.under];exact ih (by simpa[AV.closed]using h)
 |anyb=>intro _;rfl
 |junk=>intro _;rfl
 |nil=>rfl
 |cons x l hx hl=>
  rename_i h;simp only[AV.closed.closedL,qW]at h;simp only[AV.under.underL,qW];exact⟨hx h.1,hl h.2⟩
theorem zbs(n:Nat):∀l:List AV,AV.closed.closedL l=true->AV.under.underL n l=true:=by
 intro l
 induction l with
 |nil=>intro _;rfl
 |cons x l ih=>
  intro h;simp only[AV.closed.closedL,qW]at h;simp only[AV.under.underL,qW];exact⟨znh n x h.1,ih h.2⟩
theorem zaq(σ:Nat->Nat):∀l:List AV,AV.closed.closedL l=true->l.map (AV.ren σ)=l:=by
 intro l
 induction l with
 |nil=>intro _;rfl
 |cons x l ih=>
  intro h;simp only[AV.closed.closedL,qW]at h;simp only[qC];rw[zfq σ x h.1,ih h.2]
theorem CallR.pure{P:Program}{Γ:Glob}{f:FuncId}{args:List AV}{v:AV}{k:Nat}{H:Heap}(h:Ret P Γ f args [] v [])(ha:AV.closed.closedL args=true)(hv:v.closed=true):
  CallR P Γ f args k H v [] [] 0:=by
 have:=CallR0.mk (P:=P) (Γ:=Γ) (f:=f) (args:=args) (k:=k) (H:=H) [] args [] v [] h rfl .nil (by simp) (zaq _ _ ha).symm (zbs _ _ ha) (by intro i c h;simp at h);rw[zfq _ _ hv]at this;exact .base this
def frzI(n0:Nat)(H:Heap):Nat->AV->Option AV
 |0,_=>none
 |d+1,a=>match a with
  |.sl id off n sz c=>if id<n0 then none else match getB H id with
   |some cs=>need (off+n*sz<=cs.length) ((((cs.drop off).take (n*sz)).mapM (frzI n0 H d)).map λl=> .vec l n c)
   |none=>none
  |.ptr _ _=>none
  |.agg cs=>(cs.mapM (frzI n0 H d)).map .agg
  |.tup cs=>(cs.mapM (frzI n0 H d)).map .tup
  |.clo _ _=>none
  |a=>some a
def cutR(n0:Nat)(ρ:Nat->RS):Nat->RS:=λi=>if i<n0 then ρ i else .unborn
theorem zto{Γ:Glob}{w:World}{F:Nat->Prop}{ρ:Nat->RS}{H:Heap}{n0:Nat}(ho:HOK Γ w F ρ H):∀(d:Nat) (a a':AV) (u:Value),Rep w (Mu F ρ) ρ a u->frzI n0 H d a=some a'->
  IRep w (Mu F (cutR n0 ρ)) a' u:=by
 have hmu:∀b,Mu F (cutR n0 ρ) b->Mu F ρ b:=by
  rintro b (h | ⟨i,h⟩)
  ·exact .inl h
  ·unfold cutR at h;split at h
   ·exact .inr ⟨i,h⟩
   ·simp at h
 intro d
 induction d with
 |zero=>intro a a' u _ h;simp[frzI]at h
 |succ d ih=>
  intro a a' u hr h
  have rowI:∀(cs l:List AV) (us:Array Value),us.size=cs.length->(∀(j:Nat) (x:AV) (v:Value),cs[j]?=some x->us[j]?=some v->Rep w (Mu F ρ) ρ x v)->cs.mapM (frzI n0 H d)=some l->
    us.size=l.length/\∀(j:Nat) (x:AV) (v:Value),l[j]?=some x->us[j]?=some v->IRep w (Mu F (cutR n0 ρ)) x v:=by
   intro cs l us hl hrr hm;obtain⟨m1,m2⟩:=zhe hm;refine⟨by omega,λj x v hx hv=>?_⟩
   have hj:j<cs.length:=by
    rcases qK j l.length with h' | h'
    ·omega
    ·rw[qZ h']at hx;simp at hx
   obtain⟨y,hy,hy'⟩:=m2 j cs[j] (by simp[hj]);rw[hx]at hy;simp at hy;subst hy;exact ih _ _ _ (hrr j cs[j] v (by simp[hj]) hv) hy'
  cases a<;>simp only[frzI]at h
  case sl id off n sz c=>
   split at h
   ·simp at h
   ·rename_i hid;split at h
    ·rename_i cs hg;obtain⟨hle,h⟩:=zac h;simp only[qJ]at h;obtain⟨l,hm,rfl⟩:=h;obtain⟨b,el,m,hb,hs,hlen,hf,hc⟩:=ho.at hg (qey hr);obtain⟨b',cap,rfl,hn,hcc,hb'⟩:=zfd hr
     have hbb:b'=b:=by
      rcases hb' with hb' | ⟨hb',_⟩
      ·rw[hb]at hb';simp at hb'
      ·rw[hb]at hb';simp at hb';exact hb'.symm
     subst hbb;obtain⟨vs,hvs,hrr⟩:=zid hle hc;obtain⟨m1,m2⟩:=zhe hm;have hll:l.length=n*sz:=by rw[m1];simp;omega
     refine .vec l n c b' off cap vs (λ_ hmm=>?_) (λj hj=>hvs j (by omega)) (λj x hx=>?_) hn hcc
     ·rcases hmm with hmm | ⟨i,hi⟩
      ·exact ho.notF id b' hb hmm
      ·unfold cutR at hi;split at hi
       ·have:=ho.inj i id b' hi hb;omega
       ·simp at hi
     ·have hj:j<n*sz:=by
       rcases qK j l.length with h' | h'
       ·omega
       ·rw[qZ h']at hx;simp at hx
      have hcj:((cs.drop off).take (n*sz))[j]?=some cs[off+j]:=by
       rw[qL,if_pos hj,List.getElem?_drop];simp
      obtain⟨y,hy,hy'⟩:=m2 j _ hcj;rw[hx]at hy;simp at hy;subst hy;exact ih _ _ _ (hrr j _ hj (by simp)) hy'
    ·simp at h
  case agg cs=>
   simp only[qJ]at h;obtain⟨l,hm,rfl⟩:=h;obtain⟨us,rfl,hl,hrr⟩:=zjx hr;obtain⟨g1,g2⟩:=rowI cs l us hl hrr hm;exact .agg l us g1 g2
  case tup cs=>
   simp only[qJ]at h;obtain⟨l,hm,rfl⟩:=h;obtain⟨us,rfl,hl,hrr⟩:=ztc hr;obtain⟨g1,g2⟩:=rowI cs l us hl hrr hm;exact .tup l us g1 g2
  case ptr=>simp at h
  case clo=>simp at h
  all_goals
   simp at h;subst h;exact(hr.toI rfl).weaken (λb _ hb=>hmu b hb)
theorem zza{w:World}{M:Nat->Prop}{ρ:Nat->RS}{n0:Nat}{a:AV}{u:Value}(h:Rep w M ρ a u):a.under n0=true->Rep w M (cutR n0 ρ) a u:=by
 have hid:∀a:AV,a.ren (λi=>i)=a:=by
  intro a
  induction a using AV.rec (motive_2:=λl=>AV.ren.renL (λi=>i) l=l)with
  |clo f cs ih=>simp only[AV.ren];rw[ih]
  |agg cs ih=>simp only[AV.ren];rw[ih]
  |tup cs ih=>simp only[AV.ren];rw[ih]
  |nil=>rfl
  |cons x l hx hl=>simp only[AV.ren.renL];rw[hx,hl]
  |_=>rfl
 intro hu;exact h.unren (σ:=λi=>i) (n:=n0) (λi hi=>by simp[cutR,hi]) a (hid a) hu
inductive Frc(ids:List Nat)(H:Heap):AV->AV->Prop
 |ren (a a':AV) (h:a'.ren (zag ids H.length)=a) (hu:a'.under ids.length=true):Frc ids H a a'
 |frz (id off n sz:Nat) (c:Option Nat) (cs l:List AV) (hid:id∉ids) (hg:getB H id=some cs) (hle:off+n*sz<=cs.length) (hl:l.length=n*sz) (hcl:AV.closed.closedL l=true)
   (hc:∀(j:Nat) (x y:AV),cs[off+j]?=some x->l[j]?=some y->Frc ids H x y):Frc ids H (.sl id off n sz c) (.vec l n c)
 |agg (cs cs':List AV) (hl:cs'.length=cs.length) (h:∀(j:Nat) (x y:AV),cs[j]?=some x->cs'[j]?=some y->Frc ids H x y):Frc ids H (.agg cs) (.agg cs')
 |tup (cs cs':List AV) (hl:cs'.length=cs.length) (h:∀(j:Nat) (x y:AV),cs[j]?=some x->cs'[j]?=some y->Frc ids H x y):Frc ids H (.tup cs) (.tup cs')
inductive BlkC(ids:List Nat)(H:Heap):Option (Option (List AV))->Option (List AV)->Prop
 |dead:BlkC ids H (some none) none
 |ren (cs cs':List AV) (h:cs'.map (AV.ren (zag ids H.length))=cs) (hu:AV.under.underL ids.length cs'=true):BlkC ids H (some (some cs)) (some cs')
 |frz (cs cs':List AV) (hn:zgk cs=true) (hl:cs'.length=cs.length) (h:∀(j:Nat) (x y:AV),cs[j]?=some x->cs'[j]?=some y->Frc ids H x y):BlkC ids H (some (some cs)) (some cs')
inductive Fin(n0:Nat):AV->Heap->AV->Heap->Prop
 |keep (v:AV) (H:Heap):Fin n0 v H v H
 |drop (v:AV) (H:Heap) (hv:v.under n0=true) (hH:∀(i:Nat) (cs:List AV),i<n0->H[i]?=some (some cs)->AV.under.underL n0 cs=true):Fin n0 v H v (H.take n0)
 |freeze (d:Nat) (v v':AV) (H:Heap) (hv:frzI n0 H d v=some v') (hH:∀(i:Nat) (cs:List AV),i<n0->H[i]?=some (some cs)->AV.under.underL n0 cs=true):Fin n0 v H v' (H.take n0)
 |comp (ids:List Nat) (v v':AV) (H H':Heap) (hnd:ids.Nodup) (hlt:∀i∈ids,i<H.length) (hl:n0<=ids.length) (hp:∀i,i<n0->zag ids H.length i=i)
   (hv:Frc ids H v v') (hH':H'.length=ids.length)
   (hH:∀(i:Nat) (c:Option (List AV)),H'[i]?=some c->BlkC ids H (H[zag ids H.length i]?) c):Fin n0 v H v' H'
theorem HOK.cut{Γ:Glob}{w:World}{F:Nat->Prop}{ρ:Nat->RS}{H:Heap}{n0:Nat}(ho:HOK Γ w F ρ H)(hH:∀(i:Nat) (cs:List AV),i<n0->H[i]?=some (some cs)->AV.under.underL n0 cs=true):
  HOK Γ w F (cutR n0 ρ) (H.take n0):=by
 have hmu:∀b,Mu F (cutR n0 ρ) b->Mu F ρ b:=by
  rintro b (h | ⟨i,h⟩)
  ·exact .inl h
  ·unfold cutR at h;split at h
   ·exact .inr ⟨i,h⟩
   ·simp at h
 have hinv:∀i b,cutR n0 ρ i= .here b->i<n0/\ρ i= .here b:=by
  intro i b h;unfold cutR at h;split at h
  ·exact⟨by assumption,h⟩
  ·simp at h
 refine⟨λi j b hi hj=>ho.inj i j b (hinv i b hi).2 (hinv j b hj).2,λi b hi=>ho.notF i b (hinv i b hi).2,ho.fLt,λi hi=>?_,λi cs hi=>?_,λi b hi=>?_,λg cs hg=>(ho.glob g cs hg).weaken (λb _ hb=>hmu b hb)⟩
 ·simp at hi;unfold cutR;split
  ·exact ho.unborn i (by omega)
  ·rfl
 ·rw[qL]at hi;split at hi
  ·rename_i hlt;obtain⟨b,hb⟩:=ho.alive i cs hi;exact⟨b,by simp[cutR,hlt,hb]⟩
  ·simp at hi
 ·obtain⟨hlt,hi'⟩:=hinv i b hi;obtain⟨cs,h1,h2⟩:=ho.blk i b hi';refine⟨cs,by rw[qL,if_pos hlt];exact h1,h2.mono rfl (λa v ha hr=>?_)⟩;obtain⟨j,hj,hja⟩:=List.mem_iff_getElem.1 ha;have h6:=zza hr (zby (hH i cs hlt h1) j a (by rw[<-hja];simp));exact h6.kept (Kept.refl (λ_=>False) w) (λ_ x=>x.elim) (λb _ hb=>hmu b hb) (λi b hi=>ho.lt i b (hinv i b hi).2) (λ_ _=> .inl rfl)
theorem jys{Γ:Glob}{w:World}{F:Nat->Prop}{ρ ρ0:Nat->RS}{H:Heap}{ids:List Nat}(ho:HOK Γ w F ρ H)
  (hρ0:∀i b,ρ0 i= .here b->i<ids.length/\ρ (zag ids H.length i)= .here b) (hback:∀(a:AV) (u:Value),a.under ids.length=true->Rep w (Mu F ρ) ρ (a.ren (zag ids H.length)) u->Rep w (Mu F ρ0) ρ0 a u)
  {a a':AV} (h:Frc ids H a a'):∀u,Rep w (Mu F ρ) ρ a u->Rep w (Mu F ρ0) ρ0 a' u:=by
 induction h with
 |ren a a' h hu=>intro u hr;exact hback a' u hu (by rw[h];exact hr)
 |frz id off n sz c cs l hid hg hle hl hcl hc ih=>
  intro u hr;obtain⟨b,el,m,hb,hs,hlen,hf,hcs⟩:=ho.at hg (qey hr);obtain⟨b',cap,rfl,hn,hcc,hb'⟩:=zfd hr
  have hbb:b'=b:=by
   rcases hb' with hb' | ⟨hb',_⟩
   ·rw[hb]at hb';simp at hb'
   ·rw[hb]at hb';simp at hb';exact hb'.symm
  subst hbb;obtain⟨vs,hvs,hrr⟩:=zid hle hcs;refine .imm _ _ (.vec l n c b' off cap vs (λ_ hmm=>?_) (λj hj=>hvs j (by omega)) (λj x hx=>?_) hn hcc)
  ·rcases hmm with hmm | ⟨i,hi⟩
   ·exact ho.notF id b' hb hmm
   ·obtain⟨h1,h2⟩:=hρ0 i b' hi;have:=ho.inj _ _ b' h2 hb;apply hid;rw[<-this];simp only[zag,h1,dif_pos];exact qA h1
  ·have hj:j<n*sz:=by
    rcases qK j l.length with h' | h'
    ·omega
    ·rw[qZ h']at hx;simp at hx
   have hcj:cs[off+j]?=some cs[off+j]:=by simp
   have hcl':=zft hcl j x hx;exact(ih j _ x hcj hx _ (hrr j _ hj hcj)).toI hcl'
 |agg cs cs' hl h ih=>
  intro u hr;obtain⟨us,rfl,hul,hrr⟩:=zjx hr;refine .agg _ us (by omega) (λj a v ha hv=>?_)
  have hj:j<cs.length:=by
   rcases qK j cs'.length with h' | h'
   ·omega
   ·rw[qZ h']at ha;simp at ha
  exact ih j cs[j] a (by simp[hj]) ha v (hrr j cs[j] v (by simp[hj]) hv)
 |tup cs cs' hl h ih=>
  intro u hr;obtain⟨us,rfl,hul,hrr⟩:=ztc hr;refine .tup _ us (by omega) (λj a v ha hv=>?_)
  have hj:j<cs.length:=by
   rcases qK j cs'.length with h' | h'
   ·omega
   ·rw[qZ h']at ha;simp at ha
  exact ih j cs[j] a (by simp[hj]) ha v (hrr j cs[j] v (by simp[hj]) hv)
theorem HOK.comp{Γ:Glob}{w:World}{F:Nat->Prop}{ρ:Nat->RS}{H H':Heap}{ids:List Nat}(ho:HOK Γ w F ρ H)(hnd:ids.Nodup)(hlt:∀i∈ids,i<H.length)(hH':H'.length=ids.length)
  (hH:∀(i:Nat) (c:Option (List AV)),H'[i]?=some c->BlkC ids H (H[zag ids H.length i]?) c):
  HOK Γ w F (λi=>if i<ids.length then ρ (zag ids H.length i)else .unborn) H'/\
  ∀(a a':AV) (u:Value),Frc ids H a a'->Rep w (Mu F ρ) ρ a u->Rep w (Mu F (λi=>if i<ids.length then ρ (zag ids H.length i)else .unborn)) (λi=>if i<ids.length then ρ (zag ids H.length i)else .unborn) a' u:=by
 let ρ0:Nat->RS:=λi=>if i<ids.length then ρ (zag ids H.length i)else .unborn
 have hinj:∀i j,zag ids H.length i=zag ids H.length j->i=j:=λi j h=>zow hnd hlt h
 have hρ0:∀i,i<ids.length->ρ0 i=ρ (zag ids H.length i):=λi hi=>by simp[ρ0,hi]
 have hρ0':∀i b,ρ0 i= .here b->i<ids.length/\ρ (zag ids H.length i)= .here b:=by
  intro i b hi;simp only[ρ0]at hi;split at hi
  ·exact⟨by assumption,hi⟩
  ·simp at hi
 have hMu:∀b,Mu F ρ0 b->Mu F ρ b:=by
  rintro b (h | ⟨i,h⟩)
  ·exact .inl h
  ·exact .inr ⟨_,(hρ0' i b h).2⟩
 have hback:∀(a:AV) (u:Value),a.under ids.length=true->Rep w (Mu F ρ) ρ (a.ren (zag ids H.length)) u->Rep w (Mu F ρ0) ρ0 a u:=by
  intro a u hb hr;have h1:Rep w (Mu F ρ) ρ0 a u:=hr.unren hρ0 a rfl hb;exact h1.kept (Kept.refl (λ_=>False) w) (λ_ x=>x.elim) (λb _ hb=>hMu b hb) (λi b hi=>ho.lt _ b (hρ0' i b hi).2) (λ_ _=> .inl rfl)
 have hfr:∀(a a':AV) (u:Value),Frc ids H a a'->Rep w (Mu F ρ) ρ a u->Rep w (Mu F ρ0) ρ0 a' u:=λa a' u hf hr=>jys ho hρ0' hback hf u hr
 refine⟨⟨λi j b hi hj=>hinj _ _ (ho.inj _ _ b (hρ0' i b hi).2 (hρ0' j b hj).2),λi b hi=>ho.notF _ b (hρ0' i b hi).2,ho.fLt,λi hi=>?_,λi cs hi=>?_,λi b hi=>?_,λg cs hg=>(ho.glob g cs hg).weaken (λb _ hb=>hMu b hb)⟩,hfr⟩
 ·show ρ0 i= .unborn
  simp only[ρ0];rw[if_neg (by omega)]
 ·have hil:i<ids.length:=by
   rw[<-hH'];rcases qK i H'.length with h' | h'
   ·exact h'
   ·rw[qZ h']at hi;simp at hi
  have hb:=hH i _ hi
  have:∃cs0,H[zag ids H.length i]?=some (some cs0):=by
   generalize H[zag ids H.length i]?=x at hb;cases hb with
   |ren cs=>exact⟨cs,rfl⟩
   |frz cs=>exact⟨cs,rfl⟩
  obtain⟨cs0,h0⟩:=this;obtain⟨b,hb⟩:=ho.alive _ _ h0;exact⟨b,(hρ0 i hil).trans hb⟩
 ·obtain⟨h1,h2⟩:=hρ0' i b hi;obtain⟨cs,g1,g2⟩:=ho.blk _ b h2;have hil:i<H'.length:=by omega
  have hc:=hH i H'[i] (by simp[hil]);rw[g1]at hc;generalize hx:H'[i]=c at hc;cases hc with
  |ren _ cs0 h hu0=>
   subst h;refine⟨cs0,by simp[hil,hx],?_⟩;rcases g2 with⟨el,m,g2,g3,g4,g5⟩ | ⟨es,g2,g3,g4⟩ | ⟨r,kk,ss,pp,sn,g2,g3,g4,g5⟩
   ·refine .inl ⟨el,m,g2,by simpa using g3,g4,λj a ha=>?_⟩;obtain⟨u,hu,hr⟩:=g5 j (a.ren (zag ids H.length)) (by simp[ha]);exact⟨u,hu,hback a u (zby hu0 j a ha) hr⟩
   ·refine .inr (.inl ⟨es,g2,by simpa using g3,λj e he=>?_⟩);obtain⟨q0,k,v,q1,q2,q3,q4⟩:=g4 j e he;simp only[qV,qJ]at q1 q2;obtain⟨k0,q1,rfl⟩:=q1;obtain⟨v0,q2,rfl⟩:=q2;exact⟨q0,k0,v0,q1,q2,hback _ _ (zby hu0 _ _ q1) q3,hback _ _ (zby hu0 _ _ q2) q4⟩
   ·obtain⟨sn0,e1,e2⟩:=znf g3;rw[<-e2]at g5;subst e1;exact .inr (.inr ⟨r,kk,ss,pp,sn0,g2,rfl,g4,hback (.agg sn0) _ (zby hu0 3 _ rfl) g5⟩)
  |frz _ cs0 hn hl h=>
   refine⟨cs0,by simp[hil,hx],?_⟩
   have at':∀(j:Nat) (x:AV),cs[j]?=some x->∃y,cs0[j]?=some y/\Frc ids H x y:=by
    intro j x hx
    have hj:j<cs0.length:=by
     rw[hl];rcases qK j cs.length with h' | h'
     ·exact h'
     ·rw[qZ h']at hx;simp at hx
    exact⟨cs0[j],by simp[hj],h j x _ hx (by simp[hj])⟩
   rcases g2 with⟨el,m,g2,g3,g4,g5⟩ | ⟨es,g2,g3,g4⟩ | ⟨r,kk,ss,pp,sn,g2,g3,g4,g5⟩
   ·refine .inl ⟨el,m,g2,by omega,g4,λj a ha=>?_⟩
    have hj:j<cs.length:=by
     rw[<-hl];rcases qK j cs0.length with h' | h'
     ·exact h'
     ·rw[qZ h']at ha;simp at ha
    obtain⟨u,hu,hr⟩:=g5 j cs[j] (by simp[hj]);exact⟨u,hu,hfr _ _ u (h j cs[j] a (by simp[hj]) ha) hr⟩
   ·refine .inr (.inl ⟨es,g2,by omega,λj e he=>?_⟩);obtain⟨q0,k,v,q1,q2,q3,q4⟩:=g4 j e he;obtain⟨k0,r1,f1⟩:=at' _ _ q1;obtain⟨v0,r2,f2⟩:=at' _ _ q2;exact⟨q0,k0,v0,r1,r2,hfr _ _ _ f1 q3,hfr _ _ _ f2 q4⟩
   ·rw[g3]at hn;simp[zbh,zgk]at hn
theorem Fin.sound{Γ:Glob}{w:World}{F:Nat->Prop}{ρ:Nat->RS}{H H':Heap}{n0:Nat}{v v':AV}{u:Value}(h:Fin n0 v H v' H')(ho:HOK Γ w F ρ H)(hr:Rep w (Mu F ρ) ρ v u)(hl:n0<=H.length):
  ∃ρ',HOK Γ w F ρ' H'/\Rep w (Mu F ρ') ρ' v' u/\(∀i,i<n0->ρ' i=ρ i)/\(∀i b,ρ' i= .here b->∃j,ρ j= .here b)/\n0<=H'.length:=by
 have hcutH:n0<=(H.take n0).length:=by simp;omega
 have hcut1:∀i,i<n0->cutR n0 ρ i=ρ i:=λi hi=>by simp[cutR,hi]
 have hcut2:∀i b,cutR n0 ρ i= .here b->ρ i= .here b:=by
  intro i b h;unfold cutR at h;split at h
  ·exact h
  ·simp at h
 cases h with
 |keep v H=>exact⟨ρ,ho,hr,λ_ _=>rfl,λi _ h=>⟨i,h⟩,hl⟩
 |comp ids v v' H H' hnd hlt hl hp hv hH' hH=>
  obtain⟨g1,g2⟩:=ho.comp hnd hlt hH' hH;refine⟨_,g1,g2 _ _ _ hv hr,λi hi=>by rw[if_pos (by omega),hp i hi],λi b h=>?_,by omega⟩;split at h
  ·exact⟨_,h⟩
  ·simp at h
 |drop v H hv hH=>
  refine⟨cutR n0 ρ,ho.cut hH,?_,hcut1,λi b h=>⟨i,hcut2 i b h⟩,hcutH⟩
  exact(zza hr hv).kept (Kept.refl (λ_=>False) w) (λ_ x=>x.elim) (λb _ hb=>by
   rcases hb with hb | ⟨i,hi⟩
   ·exact .inl hb
   ·exact .inr ⟨i,hcut2 i b hi⟩) (λi b hi=>ho.lt i b (hcut2 i b hi)) (λ_ _=> .inl rfl)
 |freeze d v v' H hv hH=>exact⟨cutR n0 ρ,ho.cut hH,.imm _ _ (zto ho d v v' u hr hv),hcut1,λi b h=>⟨i,hcut2 i b h⟩,hcutH⟩
def zgs(P:Program)(E:Env)(H:Heap):ResultVar->Option AV
 |.tmp t=>some (E t)
 |.cell a t=>match ldSz P t,E a with
  |some (ag,sz),.ptr id off=>match getB H id with
   |some cs=>need (off+sz<=cs.length) (some (ldv ag sz off cs))
   |none=>none
  |_,_=>none
def resA(P:Program)(rs:List ResultVar)(E:Env)(H:Heap):Option AV:=
 match rs.mapM (zgs P E H)with
 |some [v]=>some v
 |some vs=>some (.tup vs)
 |none=>none
def resF(tmps:Array Value):ResultVar->Sem Value
 |.tmp t=>pure (tmps.getD t undef)
 |.cell x t=>do loadVar t (<-asAddr (tmps.getD x undef))
theorem zrv(fn:Func)(tmps:Array Value):results fn tmps=(fn.results.mapM (resF tmps) >>= λvs=>pure (if h:vs.size=1 then vs[0]else .tuple vs)):=rfl
theorem zpa{P:Program}{Γ:Glob}{C:Ctx}{ρ:Nat->RS}{E:Env}{H:Heap}{a:Act}{w:World}(hs:Sim Γ C ρ E H a w):∀(rs:List ResultVar) (vs:List AV),rs.mapM (zgs P E H)=some vs->
  ∃us:List Value,(rs.mapM (resF a.tmps)).run P w= .ok us w/\zaw w (Mu C.F ρ) ρ vs us:=by
 intro rs
 induction rs with
 |nil=>intro vs h;simp at h;subst h;exact⟨[],by simp,rfl,λj a v h=>by simp at h⟩
 |cons r rs ih=>
  intro vs h;rw[List.mapM_cons]at h;cases hr:zgs P E H r with
  |none=>simp[hr]at h
  |some x=>
   cases hl:rs.mapM (zgs P E H)with
   |none=>simp[hr,hl]at h
   |some vs'=>
    simp[hr,hl]at h;subst h;obtain⟨us,h1,h2⟩:=ih vs' hl
    have key:∃u,(resF a.tmps r).run P w= .ok u w/\Rep w (Mu C.F ρ) ρ x u:=by
     cases r with
     |tmp t=>simp[zgs]at hr;subst hr;exact⟨_,by simp only[resF];exact Sem.run_pure _ _ _,hs.env t⟩
     |cell ad t=>
      simp only[zgs]at hr;split at hr
      ·rename_i ag sz id off hsz hE;split at hr
       ·rename_i cs hg;obtain⟨hle,hr⟩:=zac hr;simp at hr;subst hr;have henv:=hs.env ad;rw[hE]at henv;obtain⟨b,e1,hb,_,hc⟩:=znv hs.hok henv hg;obtain⟨vs,hvs,hrr⟩:=zid hle hc;refine⟨_,?_,zyl hle (zkx hsz).2.2 hrr⟩;simp only[resF,Sem.run_bind,e1,asAddr,Sem.run_pure,Result.andThen_ok];exact zjy hsz hvs
       ·simp at hr
      ·simp at hr
    obtain⟨u,hu,hru⟩:=key;refine⟨u::us,?_,?_⟩
    ·rw[List.mapM_cons];simp only[Sem.run_bind,hu,Result.andThen_ok,h1,Sem.run_pure]
    ·refine⟨by simp[h2.1],λj y z hy hz=>?_⟩;cases j with
     |zero=>simp at hy hz;subst hy hz;exact hru
     |succ j=>exact h2.2 j y z (by simpa using hy) (by simpa using hz)
def zig(args:List AV):Env:=λt=>args.getD t .junk
theorem IRep.same2{w w':World}{M:Nat->Prop}(hc:∀p,w'.cell? p=w.cell? p){a:AV}{v:Value}(h:IRep w M a v):IRep w' M a v:=by
 induction h with
 |bool b=>exact .bool b
 |int k n=>exact .int k n
 |str s=>exact .str s
 |anyb b=>exact .anyb b
 |junk v=>exact .junk v
 |nil p c hc=>exact .nil p c hc
 |vec cs n c b off cap vs hMb hcell hrep hn hc' ih=>exact .vec cs n c b off cap vs hMb (λj hj=>by rw[hc];exact hcell j hj) ih hn hc'
 |iptr cs p b off vs hMb hcell hrep ih=>exact .iptr cs p b off vs hMb (λj hj=>by rw[hc];exact hcell j hj) ih
 |agg cs vs hl hrep ih=>exact .agg cs vs hl ih
 |tup cs vs hl hrep ih=>exact .tup cs vs hl ih
 |clo f cs vs hf hl hrep ih=>exact .clo f cs vs hf hl ih
 |bnd f cs vs hf hl hrep ih=>exact .bnd f cs vs hf hl ih
 |nilp=>exact .nilp
 |nilf=>exact .nilf
theorem Rep.same2{w w':World}{M:Nat->Prop}{ρ:Nat->RS}(hc:∀p,w'.cell? p=w.cell? p)(hs:∀b,w'.shape? b=w.shape? b){a:AV}{v:Value}(h:Rep w M ρ a v):Rep w' M ρ a v:=by
 induction h with
 |imm a v h=>exact .imm a v (h.same2 hc)
 |slDead id off n sz c b cap h hn hc=>exact .slDead id off n sz c b cap h hn hc
 |slAt id off n sz c b cap el m h hs' hn hc hm=>exact .slAt id off n sz c b cap el m h (by rw[hs];exact hs') hn hc hm
 |ptrDead id off b h=>exact .ptrDead id off b h
 |ptrAt id off b h hs'=>exact .ptrAt id off b h (by rw[hs];exact hs')
 |mapDead id b h=>exact .mapDead id b h
 |mapAt id b h hs'=>exact .mapAt id b h (by rw[hs];exact hs')
 |ydDead id b h=>exact .ydDead id b h
 |ydAt id b h hs'=>exact .ydAt id b h (by rw[hs];exact hs')
 |ydF id v h ih=>exact .ydF id v ih
 |agg cs vs hl hrep ih=>exact .agg cs vs hl ih
 |tup cs vs hl hrep ih=>exact .tup cs vs hl ih
 |clo f cs vs hf hl hrep ih=>exact .clo f cs vs hf hl ih
 |bnd f cs vs hf hl hrep ih=>exact .bnd f cs vs hf hl ih
theorem zje{w:World}{b:Nat}{o:Obj}(h:b<w.heap.size)(x:Nat):(w.putObj b o).heap[x]?=if x=b then some o else w.heap[x]?:=by
 by_cases e:x=b
 ·subst e;rw[if_pos rfl];exact World.putObj_heap_same h
 ·rw[if_neg e];exact World.putObj_heap_other e
def zex:Obj->Bool
 |.cells .. => false
 |_=>true
theorem zni{w:World}{b:Nat}{o o':Obj}(h:w.heap[b]?=some o)(ho:zex o=true)(ho':zex o'=true):
  (∀p,(w.putObj b o').cell? p=w.cell? p)/\(∀x,(w.putObj b o').shape? x=w.shape? x)/\(∀p,(w.putObj b o').frozen? p=w.frozen? p):=by
 have hlt:=zdt h;refine⟨λp=>?_,λx=>?_,λp=>?_⟩
 ·unfold World.cell?;rw[zje hlt];by_cases e:p.block=b
  ·rw[if_pos e,e,h];cases o<;>simp[zex]at ho<;>cases o'<;>simp[zex]at ho'<;>rfl
  ·rw[if_neg e]
 ·unfold World.shape?;rw[zje hlt];by_cases e:x=b
  ·rw[if_pos e,e,h];cases o<;>simp[zex]at ho<;>cases o'<;>simp[zex]at ho'<;>rfl
  ·rw[if_neg e]
 ·unfold World.frozen?;rw[zje hlt];by_cases e:p.block=b
  ·rw[if_pos e,e,h];cases o<;>simp[zex]at ho<;>cases o'<;>simp[zex]at ho'<;>rfl
  ·rw[if_neg e]
theorem zpb{w:World}{b:Nat}{o o':Obj}(h:w.heap[b]?=some o)(ho:zex o=true)(ho':zex o'=true):Kept (λx=>x=b) w (w.putObj b o'):=by
 obtain⟨h1,h2,h3⟩:=zni h ho ho';exact⟨by simp,λx _ hx=>by rw[zje (zdt h),if_neg hx],λx _=>h2 x,λx j _=>h3 _,rfl,rfl⟩
theorem Sim.take{Γ:Glob}{C:Ctx}{ρ:Nat->RS}{E:Env}{H:Heap}{a:Act}{w:World}(hs:Sim Γ C ρ E H a w){D:Nat}{ms:List Nat}(hd:a.defers=(D::ms).map zgf):
  w.heap[D]?=some (.deferred (some []))/\Sim Γ C ρ E H { a with defers:=ms.map zgf } (w.putObj D (.deferred none)):=by
 obtain⟨ms',h1,h2,h3⟩:=hs.defers;have hinj:∀x y,zgf x=zgf y->x=y:=by intro x y h;simpa[zgf]using h
 have e:ms'=D::ms:=by
  rw[hd]at h1;exact((List.map_inj_right hinj).1 h1).symm
 subst e;obtain⟨g1,g2,g3⟩:=h3 D (by simp);have hk:=zpb (o':= .deferred none) g2 rfl rfl;obtain⟨p1,p2,p3⟩:=zni (o':= .deferred none) g2 rfl rfl;have hr:∀x v,Rep w (Mu C.F ρ) ρ x v->Rep (w.putObj D (.deferred none)) (Mu C.F ρ) ρ x v:=λx v h=>h.same2 p1 p2
 refine⟨g2,⟨⟨hs.hok.inj,hs.hok.notF,λb hb=>by simpa using hs.hok.fLt b hb,hs.hok.unborn,hs.hok.alive,λi b hi=>?_,λg cs hg=>(hs.hok.glob g cs hg).same2 p1⟩,λt=>hr _ _ (hs.env t),?_,hs.size,?_,hs.ext,hs.old,hs.len⟩⟩
 ·obtain⟨cs,q1,q2⟩:=hs.hok.blk i b hi;exact⟨cs,q1,q2.mono (hk.same b (hs.hok.lt i b hi) (λe=>g3 i (by rw[<-e];exact hi))) (λ_ _ _=>hr _ _)⟩
 ·refine⟨ms,rfl,(List.nodup_cons.1 h2).2,λD' hD'=>?_⟩;obtain⟨q1,q2,q3⟩:=h3 D' (by simp[hD']);have hne:D'≠D:=λe=>(List.nodup_cons.1 h2).1 (e ▸ hD')
  exact⟨q1,by rw[hk.same D' (zdt q2) hne];exact q2,q3⟩
 ·exact hs.kept.trans hk (λb hb e=>by omega)
theorem Sim.fin{Γ:Glob}{C:Ctx}{ρ1:Nat->RS}{E':Env}{H H' Hout:Heap}{a':Act}{w':World}{v v':AV}{u:Value}(hs':Sim Γ C ρ1 E' H' a' w')(ho:HOK Γ C.w0 C.F C.ρ0 H)(hn:C.n0=H.length)
  (hu2:Rep w' (Mu C.F ρ1) ρ1 v' u) (hfin:Fin H.length v' H' v Hout):
  ∃ρ',After Γ C.F H.length C.ρ0 C.w0 ρ' w' Hout (zfx H.length (Hout.length-H.length))/\Rep w' (Mu C.F ρ') ρ' v u:=by
 obtain⟨ρ',g1,g2,g3,g4,g5⟩:=hfin.sound hs'.hok hu2 (hn ▸ hs'.len);refine⟨ρ',⟨g1,hs'.kept,λi hi=>?_,λi b hi=>(g4 i b hi).elim λj hj=>hs'.old j b hj,λi hi hn'=>?_⟩,g2⟩
 ·have hlt:i<H.length:=by
   rcases qK i H.length with h' | h'
   ·exact h'
   ·exact absurd (ho.unborn i h') hi
  rw[g3 i hlt];exact(hs'.ext i (by rw[hn];exact hlt)).imp id (λx=>⟨Nat.zero_le _,x.2⟩)
 ·rcases qK i H.length with h' | h'
  ·rw[g3 i h'];rcases hs'.ext i (by rw[hn];exact h')with h | ⟨h,_⟩
   ·rw[h];exact hi
   ·exact absurd hi h
  ·exact g1.unborn i (by
    simp only[zfx,xZ]at hn';omega)
theorem zld{P:Program}{Γ:Glob}{f:FuncId}{fn:Func}{code:Code}{c:CC}{args:List AV}{H:Heap}{v:AV}{Hout:Heap}(hf:P.funcs[f]?=some fn)(hb:fn.body=some code)
  (hc:zbt P Γ fn.ntmps code=some c) (hn:args.length<=fn.ntmps) (hlen:H.length<=Hout.length) (hne:f≠4095)
  (h:W P Γ H.length fn.ntmps c (zig args) H (λx E' H'=>(x= .ret\/x= .normal)/\∃v',resA P fn.results.toList E' H'=some v'/\Fin H.length v' H' v Hout)):Ret P Γ f args H v Hout:=by
 refine⟨hlen,?_⟩;intro w F ρ vs ho hsz hrep;refine .inl ⟨hne,(callsIn_wide (n:=0)).1 (callsIn_of_wp_marks hf hb trivial ?_)⟩;let C:Ctx:={ F:=F,w0:=w,ρ0:=ρ,n0:=H.length,nt:=fn.ntmps }
 have hs:Sim Γ C ρ (zig args) H { tmps:=vs++Array.replicate (fn.ntmps-vs.size) undef,defers:=[] } w:=by
  refine⟨ho,λt=>?_,⟨[],rfl,List.nodup_nil,by simp⟩,by show(vs++Array.replicate (fn.ntmps-vs.size) undef).size=fn.ntmps;simp;omega,Kept.refl _ w,λ_ _=> .inl rfl,λi b hi=> .inl ⟨i,hi⟩,Nat.le_refl _⟩;simp only[zig];rcases qK t args.length with hl | hl
  ·have h1:args[t]?=some args[t]:=by simp[hl]
   have h2:t<vs.size:=by omega
   have:=hrep t args[t] vs[t] h1 (by simp[h2]);simp only[qM,h1,qP];rw[Array.getD_eq_getD_getElem?,Array.getElem?_append_left h2];simpa[h2]using this
  ·simp only[qM,qZ hl,Option.getD_none];exact .imm _ _ (.junk _)
 refine wpIn_mono (h code hc C ρ _ w rfl rfl (.inl rfl) hs) ?_;rintro x a' w' ⟨E',H',ρ1,⟨hx,v',hres,hfin⟩,hs'⟩
 have key:∀(ms:List Nat) (a':Act) (w':World),Sim Γ C ρ1 E' H' a' w'->a'.defers=ms.map zgf->
   LeavesInM Fence.wide 0 P fn a'.tmps (λe w'=>∃u ρ',e= .returned u/\After Γ F H.length ρ w ρ' w' Hout (zfx H.length (Hout.length-H.length))/\Rep w' (Mu F ρ') ρ' v u) a'.defers .returning w':=by
  intro ms
  induction ms with
  |cons D ms ih=>
   intro a' w' hs' hd;obtain⟨h1,h2⟩:=hs'.take hd;have:=ih _ _ h2 rfl;rw[hd];exact⟨by simp,.inl ⟨D,_,rfl,run_takeDeferred h1,this⟩⟩
  |nil=>
   intro a' w' hs' hd;rw[hd]
   show LeavesIn _ _ _ _ _ _ [] _ _
   have post:∃u,(results fn a'.tmps).run P w'= .ok u w'/\Rep w' (Mu F ρ1) ρ1 v' u:=by
    unfold resA at hres;cases hm:fn.results.toList.mapM (zgs P E' H')with
    |none=>simp[hm]at hres
    |some l=>
     obtain⟨us,h1,h2⟩:=zpa (P:=P) hs' _ l hm
     have h1':(fn.results.mapM (resF a'.tmps)).run P w'= .ok us.toArray w':=by
      rw[Array.mapM_eq_mapM_toList,Sem.run_map,h1];rfl
     rw[hm]at hres;simp only[zrv,Sem.run_bind,h1',Result.andThen_ok,Sem.run_pure];by_cases h1l:us.length=1
     ·obtain⟨u,rfl⟩:=List.length_eq_one_iff.1 h1l;obtain⟨y,rfl⟩:=List.length_eq_one_iff.1 (by rw[<-h2.1];rfl:l.length=1);simp at hres;subst hres;exact⟨u,by simp,h2.2 0 y u rfl rfl⟩
     ·refine⟨.tuple us.toArray,by simp[h1l],?_⟩
      have:v'= .tup l:=by
       match l,hres,h2.1 with
       | [],hres,_=>simpa using hres.symm
       | [y],_,hh=>simp at hh;exact absurd hh h1l
       |y::z::r,hres,_=>simpa using hres.symm
      subst this;exact .tup l us.toArray (by simpa using h2.1) (λj a v ha hv=>h2.2 j a v ha (by simpa using hv))
   obtain⟨u,hu1,hu2⟩:=post;obtain⟨ρ',g1,g2⟩:=hs'.fin (H:=H) ho rfl hu2 hfin;exact⟨u,hu1,u,ρ',rfl,g1,g2⟩
 obtain⟨ms,hms,_⟩:=hs'.defers;rcases hx with rfl | rfl
 ·exact key ms a' w' hs' hms
 ·exact key ms a' w' hs' hms
