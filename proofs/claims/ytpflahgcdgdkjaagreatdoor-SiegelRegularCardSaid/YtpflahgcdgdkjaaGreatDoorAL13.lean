/- A part of the proof. -/
import Derived.Test.YtpflahgcdgdkjaaGreatDoorAL12
import Derived.RangeFuncIn
set_option linter.all false
namespace Go.AL
open Option renaming map_eq_some_iff -> qQ
open List renaming getElem?_map -> qX, getElem?_eq_none -> qJ, getElem_mem -> qK, getElem?_set_ne -> qW, getElem?_set_self -> qV
open Nat renaming lt_or_ge -> qZ, zero_add -> qY
open Go
def zge(n c:Nat):List Nat:=List.range' n c
def zoe(P:Program)(f:FuncId)(vs:Array Value)(w:World)(R:Ending->World->Prop):Prop:=
 (f≠4095/\Calls P f vs w R)\/
 (f=4095/\∃(b:Nat) (r:Loop) (us:Array Value),vs= #[.func (.yield b) #[] #[]]++us/\w.heap[b]?=some (.loop r)/\us.size=r.params.size/\
  RoundIn Fence.wide 0 P b r.fn ((r.params.zip us).foldl (λtmps (t,a)=>tmps.setIfInBounds t a) r.tmps) r.assign r.body w R)
theorem zoe.mono{P:Program}{f:FuncId}{vs:Array Value}{w:World}{R R':Ending->World->Prop}(h:zoe P f vs w R)(hr:∀e w',R e w'->R' e w'):zoe P f vs w R':=by
 rcases h with⟨h1,h⟩ | ⟨h1,b,r,us,h2,h3,h4,h⟩
 ·exact .inl ⟨h1,h.mono hr⟩
 ·exact .inr ⟨h1,b,r,us,h2,h3,h4,h.mono hr⟩
def Ret(P:Program)(Γ:Glob)(f:FuncId)(args:List AV)(H:Heap)(v:AV)(H':Heap):Prop:=
 H.length<=H'.length/\
 ∀(w:World) (F:Nat->Prop) (ρ:Nat->RS) (vs:Array Value),HOK Γ w F ρ H->vs.size=args.length->
  (∀(j:Nat) (a:AV) (u:Value),args[j]?=some a->vs[j]?=some u->Rep w (Mu F ρ) ρ a u)->
  zoe P f vs w λe w'=>∃u ρ',e= .returned u/\After Γ F H.length ρ w ρ' w' H' (zge H.length (H'.length-H.length))/\Rep w' (Mu F ρ') ρ' v u
def AV.ren(σ:Nat->Nat):AV->AV
 |.sl id off n sz c=> .sl (σ id) off n sz c
 |.ptr id off=> .ptr (σ id) off
 |.agg cs=> .agg (renL σ cs)
 |.tup cs=> .tup (renL σ cs)
 |.clo f cs=> .clo f (renL σ cs)
 |a=>a
 where renL (σ:Nat->Nat):List AV->List AV
 | []=>[]
 |a::r=>a.ren σ::renL σ r
theorem zbj(σ:Nat->Nat)(l:List AV):AV.ren.renL σ l=l.map (AV.ren σ):=by
 induction l with
 |nil=>rfl
 |cons a r ih=>simp[AV.ren.renL,ih]
theorem qek(σ:Nat->Nat)(k s p:Nat)(sn:List AV):(zje k s p sn).map (AV.ren σ)=zje k s p (sn.map (AV.ren σ)):=by
 simp[zje,AV.ren,AV.ren.renL,zbj]
theorem zmh{σ:Nat->Nat}{cs:List AV}{k s p:Nat}{sn:List AV}(h:cs.map (AV.ren σ)=zje k s p sn):∃sn0,cs=zje k s p sn0/\(AV.agg sn0).ren σ= .agg sn:=by
 unfold zje at h;obtain⟨a,l1,rfl,ha,h⟩:=List.map_eq_cons_iff.1 h;obtain⟨b,l2,rfl,hb,h⟩:=List.map_eq_cons_iff.1 h;obtain⟨c,l3,rfl,hc,h⟩:=List.map_eq_cons_iff.1 h;obtain⟨d,l4,rfl,hd,h⟩:=List.map_eq_cons_iff.1 h;obtain rfl:=List.map_eq_nil_iff.1 h;cases a<;>simp[AV.ren]at ha;obtain⟨rfl,ha⟩:=ha;rw[zbj]at ha;obtain⟨y,rfl,hy⟩:=List.map_eq_singleton_iff.1 ha;cases y<;>simp[AV.ren]at hy;cases b<;>simp[AV.ren]at hb;cases c<;>simp[AV.ren]at hc;cases d<;>simp[AV.ren]at hd;obtain⟨rfl,rfl⟩:=hy;obtain⟨rfl,rfl⟩:=hb;obtain⟨rfl,rfl⟩:=hc;exact⟨_,rfl,by simp[AV.ren,hd]⟩
def AV.under(n:Nat):AV->Bool
 |.sl id _ _ _ _=>decide (id<n)
 |.ptr id _=>decide (id<n)
 |.agg cs=>underL n cs
 |.tup cs=>underL n cs
 |.clo _ cs=>underL n cs
 |_=>true
 where underL (n:Nat):List AV->Bool
 | []=>true
 |a::r=>a.under n && underL n r
theorem zch{n:Nat}{cs:List AV}(h:AV.under.underL n cs=true):∀(j:Nat) (a:AV),cs[j]?=some a->a.under n=true:=by
 induction cs with
 |nil=>intro j a hj;simp at hj
 |cons x r ih=>
  simp only[AV.under.underL,Bool.and_eq_true]at h;intro j a hj;cases j with
  |zero=>simp at hj;subst hj;exact h.1
  |succ j=>exact ih h.2 j a (by simpa using hj)
theorem IRep.unren{w:World}{M:Nat->Prop}{σ:Nat->Nat}{x:AV}{v:Value}(h:IRep w M x v):∀a,a.ren σ=x->IRep w M a v:=by
 induction h with
 |bool b=>intro a e;cases a<;>simp[AV.ren]at e;subst e;exact .bool _
 |int k n=>intro a e;cases a<;>simp[AV.ren]at e;obtain⟨rfl,rfl⟩:=e;exact .int _ _
 |str s=>intro a e;cases a<;>simp[AV.ren]at e;subst e;exact .str _
 |anyb b=>intro a e;cases a<;>simp[AV.ren]at e;exact .anyb _
 |junk v=>intro a e;cases a<;>simp[AV.ren]at e;exact .junk _
 |nil p c hc=>intro a e;cases a<;>simp[AV.ren]at e;obtain⟨rfl,rfl,rfl⟩:=e;exact .nil _ _ hc
 |vec cs n c b off cap vs hM hcell hrep hn hc ih=>
  intro a e;cases a<;>simp[AV.ren]at e;obtain⟨rfl,rfl,rfl⟩:=e;exact .vec _ _ _ b off cap vs hM hcell hrep hn hc
 |iptr cs p b off vs hM hcell hrep ih=>
  intro a e;cases a<;>simp[AV.ren]at e;obtain⟨rfl,rfl⟩:=e;exact .iptr _ _ b off vs hM hcell hrep
 |agg cs vs hl hrep ih=>
  intro a e;cases a<;>simp[AV.ren]at e;rename_i l;rw[zbj]at e;subst e;exact .agg l vs (by simpa using hl) (λj a v ha hv=>ih j (a.ren σ) v (by simp[ha]) hv a rfl)
 |tup cs vs hl hrep ih=>
  intro a e;cases a<;>simp[AV.ren]at e;rename_i l;rw[zbj]at e;subst e;exact .tup l vs (by simpa using hl) (λj a v ha hv=>ih j (a.ren σ) v (by simp[ha]) hv a rfl)
 |clo f cs vs hf hl hrep ih=>
  intro a e;cases a<;>simp[AV.ren]at e;rename_i f' l;obtain⟨rfl,e⟩:=e;rw[zbj]at e;subst e;exact .clo _ l vs hf (by simpa using hl) (λj a v ha hv=>ih j (a.ren σ) v (by simp[ha]) hv a rfl)
 |bnd f cs vs hf hl hrep ih=>
  intro a e;cases a<;>simp[AV.ren]at e;rename_i f' l;obtain⟨rfl,e⟩:=e;rw[zbj]at e;subst e;exact .bnd _ l vs hf (by simpa using hl) (λj a v ha hv=>ih j (a.ren σ) v (by simp[ha]) hv a rfl)
 |nilp=>
  intro a e;cases a<;>simp[AV.ren]at e;rename_i f' l;obtain⟨rfl,e⟩:=e;rw[zbj]at e;simp at e;subst e;exact .nilp
 |nilf=>
  intro a e;cases a<;>simp[AV.ren]at e;rename_i f' l;obtain⟨rfl,e⟩:=e;rw[zbj]at e;simp at e;subst e;exact .nilf
theorem Rep.unren{w:World}{M:Nat->Prop}{ρ ρ0:Nat->RS}{σ:Nat->Nat}{n:Nat}(hσ:∀i,i<n->ρ0 i=ρ (σ i)){x:AV}{v:Value}(h:Rep w M ρ x v):
  ∀a,a.ren σ=x->a.under n=true->Rep w M ρ0 a v:=by
 induction h with
 |imm x v h=>intro a e _;exact .imm _ _ (h.unren a e)
 |slDead id off m sz c b cap h hn hc=>
  intro a e hb;cases a<;>simp[AV.ren]at e;obtain⟨rfl,rfl,rfl,rfl,rfl⟩:=e;simp[AV.under]at hb;exact .slDead _ _ _ _ _ b cap ((hσ _ hb).trans h) hn hc
 |slAt id off m sz c b cap el mm h hs hn hc hm=>
  intro a e hb;cases a<;>simp[AV.ren]at e;obtain⟨rfl,rfl,rfl,rfl,rfl⟩:=e;simp[AV.under]at hb;exact .slAt _ _ _ _ _ b cap el mm ((hσ _ hb).trans h) hs hn hc hm
 |ptrDead id off b h=>
  intro a e hb;cases a<;>simp[AV.ren]at e;obtain⟨rfl,rfl⟩:=e;simp[AV.under]at hb;exact .ptrDead _ _ b ((hσ _ hb).trans h)
 |ptrAt id off b h hs=>
  intro a e hb;cases a<;>simp[AV.ren]at e;obtain⟨rfl,rfl⟩:=e;simp[AV.under]at hb;exact .ptrAt _ _ b ((hσ _ hb).trans h) hs
 |mapDead id b h=>
  intro a e hb;cases a<;>simp[AV.ren]at e;rename_i f' l;obtain⟨rfl,e⟩:=e;rw[zbj]at e;obtain⟨y,rfl,e⟩:=List.map_eq_singleton_iff.1 e;cases y<;>simp[AV.ren]at e;obtain⟨rfl,rfl⟩:=e;simp[AV.under,AV.under.underL]at hb;exact .mapDead _ b ((hσ _ hb).trans h)
 |mapAt id b h hs=>
  intro a e hb;cases a<;>simp[AV.ren]at e;rename_i f' l;obtain⟨rfl,e⟩:=e;rw[zbj]at e;obtain⟨y,rfl,e⟩:=List.map_eq_singleton_iff.1 e;cases y<;>simp[AV.ren]at e;obtain⟨rfl,rfl⟩:=e;simp[AV.under,AV.under.underL]at hb;exact .mapAt _ b ((hσ _ hb).trans h) hs
 |ydDead id b h=>
  intro a e hb;cases a<;>simp[AV.ren]at e;rename_i f' l;obtain⟨rfl,e⟩:=e;rw[zbj]at e;obtain⟨y,rfl,e⟩:=List.map_eq_singleton_iff.1 e;cases y<;>simp[AV.ren]at e;obtain⟨rfl,rfl⟩:=e;simp[AV.under,AV.under.underL]at hb;exact .ydDead _ b ((hσ _ hb).trans h)
 |ydAt id b h hs=>
  intro a e hb;cases a<;>simp[AV.ren]at e;rename_i f' l;obtain⟨rfl,e⟩:=e;rw[zbj]at e;obtain⟨y,rfl,e⟩:=List.map_eq_singleton_iff.1 e;cases y<;>simp[AV.ren]at e;obtain⟨rfl,rfl⟩:=e;simp[AV.under,AV.under.underL]at hb;exact .ydAt _ b ((hσ _ hb).trans h) hs
 |ydF id v h ih=>
  intro a e hb;cases a<;>simp[AV.ren]at e;rename_i f' l;obtain⟨rfl,e⟩:=e;rw[zbj]at e;obtain⟨y,hy,e1⟩:=List.map_eq_singleton_iff.1 e;subst hy;have h2:=ih y e1 (by simpa[AV.under,AV.under.underL]using hb);cases y<;>simp[AV.ren]at e1;rename_i f2 l2;obtain⟨rfl,e1⟩:=e1;rw[zbj]at e1;obtain⟨z,hz,e2⟩:=List.map_eq_singleton_iff.1 e1;subst hz;cases z<;>simp[AV.ren]at e2;obtain⟨rfl,rfl⟩:=e2;exact .ydF _ _ h2
 |agg cs vs hl hrep ih=>
  intro a e hb;cases a<;>simp[AV.ren]at e;rename_i l;rw[zbj]at e;subst e;exact .agg l vs (by simpa using hl) (λj a v ha hv=>ih j (a.ren σ) v (by simp[ha]) hv a rfl (zch (by simpa[AV.under]using hb) j a ha))
 |tup cs vs hl hrep ih=>
  intro a e hb;cases a<;>simp[AV.ren]at e;rename_i l;rw[zbj]at e;subst e;exact .tup l vs (by simpa using hl) (λj a v ha hv=>ih j (a.ren σ) v (by simp[ha]) hv a rfl (zch (by simpa[AV.under]using hb) j a ha))
 |clo f cs vs hf hl hrep ih=>
  intro a e hb;cases a<;>simp[AV.ren]at e;rename_i f' l;obtain⟨rfl,e⟩:=e;rw[zbj]at e;subst e;exact .clo _ l vs hf (by simpa using hl) (λj a v ha hv=>ih j (a.ren σ) v (by simp[ha]) hv a rfl (zch (by simpa[AV.under]using hb) j a ha))
 |bnd f cs vs hf hl hrep ih=>
  intro a e hb;cases a<;>simp[AV.ren]at e;rename_i f' l;obtain⟨rfl,e⟩:=e;rw[zbj]at e;subst e;exact .bnd _ l vs hf (by simpa using hl) (λj a v ha hv=>ih j (a.ren σ) v (by simp[ha]) hv a rfl (zch (by simpa[AV.under]using hb) j a ha))
theorem IRep.ren{w:World}{M:Nat->Prop}(σ:Nat->Nat){a:AV}{v:Value}(h:IRep w M a v):IRep w M (a.ren σ) v:=by
 induction h with
 |bool b=>exact .bool _
 |int k n=>exact .int _ _
 |str s=>exact .str _
 |anyb b=>exact .anyb _
 |junk v=>exact .junk _
 |nil p c hc=>exact .nil _ _ hc
 |vec cs n c b off cap vs hM hcell hrep hn hc ih=>exact .vec _ _ _ b off cap vs hM hcell hrep hn hc
 |iptr cs p b off vs hM hcell hrep ih=>exact .iptr _ _ b off vs hM hcell hrep
 |agg cs vs hl hrep ih=>
  simp only[AV.ren,zbj]
  exact .agg _ vs (by simpa using hl) (λj a v ha hv=>by
   simp only[qX,qQ]at ha;obtain⟨x,hx,rfl⟩:=ha;exact ih j x v hx hv)
 |tup cs vs hl hrep ih=>
  simp only[AV.ren,zbj]
  exact .tup _ vs (by simpa using hl) (λj a v ha hv=>by
   simp only[qX,qQ]at ha;obtain⟨x,hx,rfl⟩:=ha;exact ih j x v hx hv)
 |clo f cs vs hf hl hrep ih=>
  simp only[AV.ren,zbj]
  exact .clo _ _ vs hf (by simpa using hl) (λj a v ha hv=>by
   simp only[qX,qQ]at ha;obtain⟨x,hx,rfl⟩:=ha;exact ih j x v hx hv)
 |bnd f cs vs hf hl hrep ih=>
  simp only[AV.ren,zbj]
  exact .bnd _ _ vs hf (by simpa using hl) (λj a v ha hv=>by
   simp only[qX,qQ]at ha;obtain⟨x,hx,rfl⟩:=ha;exact ih j x v hx hv)
 |nilp=>exact .nilp
 |nilf=>exact .nilf
theorem Rep.ren{w:World}{M:Nat->Prop}{ρ ρ0:Nat->RS}{σ:Nat->Nat}(hσ:∀i,ρ0 i≠ .unborn->ρ (σ i)=ρ0 i){a:AV}{v:Value}(h:Rep w M ρ0 a v):Rep w M ρ (a.ren σ) v:=by
 induction h with
 |imm x v h=>exact .imm _ _ (h.ren σ)
 |slDead id off m sz c b cap h hn hc=>exact .slDead _ _ _ _ _ b cap ((hσ id (by rw[h];simp)).trans h) hn hc
 |slAt id off m sz c b cap el mm h hs hn hc hm=>exact .slAt _ _ _ _ _ b cap el mm ((hσ id (by rw[h];simp)).trans h) hs hn hc hm
 |ptrDead id off b h=>exact .ptrDead _ _ b ((hσ id (by rw[h];simp)).trans h)
 |ptrAt id off b h hs=>exact .ptrAt _ _ b ((hσ id (by rw[h];simp)).trans h) hs
 |mapDead id b h=>exact .mapDead _ b ((hσ id (by rw[h];simp)).trans h)
 |mapAt id b h hs=>exact .mapAt _ b ((hσ id (by rw[h];simp)).trans h) hs
 |ydDead id b h=>exact .ydDead _ b ((hσ id (by rw[h];simp)).trans h)
 |ydAt id b h hs=>exact .ydAt _ b ((hσ id (by rw[h];simp)).trans h) hs
 |ydF id v h ih=>exact .ydF _ _ ih
 |agg cs vs hl hrep ih=>
  simp only[AV.ren,zbj]
  exact .agg _ vs (by simpa using hl) (λj a v ha hv=>by
   simp only[qX,qQ]at ha;obtain⟨x,hx,rfl⟩:=ha;exact ih j x v hx hv)
 |tup cs vs hl hrep ih=>
  simp only[AV.ren,zbj]
  exact .tup _ vs (by simpa using hl) (λj a v ha hv=>by
   simp only[qX,qQ]at ha;obtain⟨x,hx,rfl⟩:=ha;exact ih j x v hx hv)
 |clo f cs vs hf hl hrep ih=>
  simp only[AV.ren,zbj]
  exact .clo _ _ vs hf (by simpa using hl) (λj a v ha hv=>by
   simp only[qX,qQ]at ha;obtain⟨x,hx,rfl⟩:=ha;exact ih j x v hx hv)
 |bnd f cs vs hf hl hrep ih=>
  simp only[AV.ren,zbj]
  exact .bnd _ _ vs hf (by simpa using hl) (λj a v ha hv=>by
   simp only[qX,qQ]at ha;obtain⟨x,hx,rfl⟩:=ha;exact ih j x v hx hv)
def zan(ids:List Nat)(k:Nat)(i:Nat):Nat:=if h:i<ids.length then ids[i]else k+(i-ids.length)
def renB(σ:Nat->Nat):Option (List AV)->Option (List AV)
 |none=>none
 |some cs=>some (cs.map (AV.ren σ))
def effs(σ:Nat->Nat):Nat->Heap->Eff
 |_,[]=>[]
 |i,c::r=>(σ i,renB σ c)::effs σ (i+1) r
inductive CallR0(P:Program)(Γ:Glob)(f:FuncId)(args:List AV)(k:Nat)(H:Heap):AV->Eff->List Nat->Nat->Prop
 |mk (ids:List Nat) (args0:List AV) (H0:Heap) (v0:AV) (H0':Heap) (hret:Ret P Γ f args0 H0 v0 H0')
   (hids:ids.length=H0.length) (hnd:ids.Nodup) (hlt:∀i∈ids,i<k) (hargs:args=args0.map (AV.ren (zan ids k)))
   (hbel:AV.under.underL ids.length args0=true)
   (hH:∀(i:Nat) (c:Option (List AV)),H0[i]?=some c->∃cs,c=some cs/\AV.under.underL ids.length cs=true/\H[zan ids k i]?=some (renB (zan ids k) c)):
   CallR0 P Γ f args k H (v0.ren (zan ids k)) (effs (zan ids k) 0 H0') ids (H0'.length-H0.length)
theorem zvj{ids:List Nat}{k:Nat}(hnd:ids.Nodup)(hlt:∀i∈ids,i<k){i j:Nat}(h:zan ids k i=zan ids k j):i=j:=by
 unfold zan at h;split at h<;>split at h
 ·rename_i h1 h2;have hp:=List.pairwise_iff_getElem.1 hnd;rcases Nat.lt_trichotomy i j with h3 | h3 | h3
  ·exact absurd h (hp i j h1 h2 h3)
  ·exact h3
  ·exact absurd h.symm (hp j i h2 h1 h3)
 ·rename_i h1 h2;have:=hlt _ (qK h1);omega
 ·rename_i h1 h2;have:=hlt _ (qK h2);omega
 ·omega
theorem zit:∀(e:Eff) (H:Heap),(zad e H).length=H.length:=by
 intro e
 induction e with
 |nil=>intro H;rfl
 |cons p e ih=>intro H;obtain⟨i,c⟩:=p;simp[zad,ih]
theorem zof(σ:Nat->Nat):∀(L:Heap) (i0:Nat) (H:Heap) (j:Nat),(∀i,i<L.length->σ (i0+i)≠j)->(zad (effs σ i0 L) H)[j]?=H[j]?:=by
 intro L
 induction L with
 |nil=>intro i0 H j _;rfl
 |cons c L ih=>
  intro i0 H j h;simp only[effs,zad];rw[ih (i0+1) _ j (λi hi=>by have:=h (i+1) (by simp;omega);rwa[show i0+(i+1)=i0+1+i from by omega]at this)];rw[qW];exact h 0 (by simp)
theorem qbj(σ:Nat->Nat)(hinj:∀i j,σ i=σ j->i=j):∀(L:Heap) (i0:Nat) (H:Heap) (i:Nat),(hi:i<L.length)->σ (i0+i)<H.length->
  (zad (effs σ i0 L) H)[σ (i0+i)]?=some (renB σ L[i]):=by
 intro L
 induction L with
 |nil=>intro i0 H i hi;simp at hi
 |cons c L ih=>
  intro i0 H i hi hlt;simp only[effs,zad];cases i with
  |zero=>
   rw[zof σ L (i0+1) _ _ (λi _ h=>by have:=hinj _ _ h;omega)];simp only[Nat.add_zero]at hlt ⊢;rw[qV hlt];rfl
  |succ i=>
   have e1:i0+(i+1)=i0+1+i:=by omega
   rw[e1]at hlt ⊢;rw[ih (i0+1) _ i (by simpa using hi) (by simpa using hlt)];rfl
theorem zyf{P:Program}{Γ:Glob}{w:World}{F:Nat->Prop}{ρ:Nat->RS}{H:Heap}{n0 k c:Nat}{f:FuncId}{args:List AV}{v:AV}{e:Eff}{rd:List Nat}{vs:Array Value}
  (ho:HOK Γ w F ρ H) (hk:k+c<=H.length) (hub:∀j,k<=j->j<k+c->ρ j= .unborn) (hcr:CallR0 P Γ f args k H v e rd c) (hsz:vs.size=args.length)
  (hrep:∀(j:Nat) (a:AV) (u:Value),args[j]?=some a->vs[j]?=some u->Rep w (Mu F ρ) ρ a u):
  zoe P f vs w λen w'=>∃u ρ',en= .returned u/\After Γ F n0 ρ w ρ' w' (zad e H) (zge k c)/\Rep w' (Mu F ρ') ρ' v u:=by
 obtain⟨ids,args0,H0,v0,H0',hret,hids,hnd,hlt,rfl,hbel,hH⟩:=hcr
 rename List Nat=>ids
 generalize hσ:zan ids k=σ at*;have hinj:∀i j,σ i=σ j->i=j:=by intro i j h;subst hσ;exact zvj hnd hlt h
 have hin:∀i,i<ids.length->σ i<k/\σ i∈ids:=by
  intro i hi;subst hσ;simp only[zan,hi,dif_pos];exact⟨hlt _ (qK hi),qK hi⟩
 have hout:∀i,ids.length<=i->σ i=k+(i-ids.length):=by
  intro i hi;subst hσ;simp only[zan];rw[dif_neg (by omega)]
 have hmem:∀j,j∈ids->∃i,i<ids.length/\σ i=j:=by
  intro j hj;obtain⟨i,hi,e⟩:=List.getElem_of_mem hj;refine⟨i,hi,?_⟩;subst hσ;simp only[zan,hi,dif_pos,e]
 obtain⟨hlen,hret⟩:=hret;let F0:Nat->Prop:=λb=>F b\/∃i,i∉ids/\ρ i= .here b
 let ρ0:Nat->RS:=λi=>if i<ids.length then ρ (σ i)else .unborn
 have hρ0:∀i,i<ids.length->ρ0 i=ρ (σ i):=λi hi=>by simp[ρ0,hi]
 have hρ0':∀i b,ρ0 i= .here b->i<ids.length/\ρ (σ i)= .here b:=by
  intro i b hi;simp only[ρ0]at hi;split at hi
  ·exact⟨by assumption,hi⟩
  ·simp at hi
 have hMu:∀b,Mu F0 ρ0 b↔Mu F ρ b:=by
  intro b;constructor
  ·rintro((h | ⟨i,_,h⟩) | ⟨i,h⟩)
   ·exact .inl h
   ·exact .inr ⟨i,h⟩
   ·exact .inr ⟨σ i,(hρ0' i b h).2⟩
  ·rintro(h | ⟨i,h⟩)
   ·exact .inl (.inl h)
   ·by_cases hi:i∈ids
    ·obtain⟨j,hj,rfl⟩:=hmem i hi;exact .inr ⟨j,(hρ0 j hj).trans h⟩
    ·exact .inl (.inr ⟨i,hi,h⟩)
 have hback:∀(a:AV) (u:Value),a.under ids.length=true->Rep w (Mu F ρ) ρ (a.ren σ) u->Rep w (Mu F0 ρ0) ρ0 a u:=by
  intro a u hb hr;have h1:Rep w (Mu F ρ) ρ0 a u:=hr.unren hρ0 a rfl hb;exact h1.kept (Kept.refl (λ_=>False) w) (λ_ x=>x.elim) (λb _ hb=>(hMu b).1 hb) (λi b hi=>ho.lt _ b (hρ0' i b hi).2) (λ_ _=> .inl rfl)
 have ho0:HOK Γ w F0 ρ0 H0:=by
  refine⟨?_,?_,?_,?_,?_,?_,?_⟩
  ·intro i j b hi hj;exact hinj _ _ (ho.inj _ _ b (hρ0' i b hi).2 (hρ0' j b hj).2)
  ·intro i b hi hF;obtain⟨h1,h2⟩:=hρ0' i b hi;rcases hF with hF | ⟨j,hj,hjb⟩
   ·exact ho.notF _ b h2 hF
   ·have:=ho.inj _ _ b h2 hjb;exact hj (this ▸ (hin i h1).2)
  ·rintro b (hF | ⟨j,hj,hjb⟩)
   ·exact ho.fLt b hF
   ·exact ho.lt j b hjb
  ·intro i hi;simp only[ρ0];rw[if_neg (by omega)]
  ·intro i cs hi
   have hil:i<ids.length:=by
    rw[hids];rcases qZ i H0.length with h' | h'
    ·exact h'
    ·rw[qJ h']at hi;simp at hi
   obtain⟨cs',_,_,hc⟩:=hH i _ hi;obtain⟨b,hb⟩:=ho.alive (σ i) _ hc;exact⟨b,(hρ0 i hil).trans hb⟩
  ·intro i b hi;obtain⟨h1,h2⟩:=hρ0' i b hi;obtain⟨cs,g1,g2⟩:=ho.blk (σ i) b h2;have hil:i<H0.length:=by omega
   obtain⟨cs0,hcs0,hu0,hc⟩:=hH i H0[i] (by simp[hil]);rw[hc,hcs0]at g1;simp[renB]at g1;subst g1;refine⟨cs0,by simp[hil,hcs0],?_⟩;rcases g2 with⟨el,m,g2,g3,g4,g5⟩ | ⟨es,g2,g3,g4⟩ | ⟨r,kk,ss,pp,sn,g2,g3,g4,g5⟩
   ·refine .inl ⟨el,m,g2,by simpa using g3,g4,λj a ha=>?_⟩;obtain⟨u,hu,hr⟩:=g5 j (a.ren σ) (by simp[ha]);exact⟨u,hu,hback a u (zch hu0 j a ha) hr⟩
   ·refine .inr (.inl ⟨es,g2,by simpa using g3,λj e he=>?_⟩);obtain⟨q0,k,v,q1,q2,q3,q4⟩:=g4 j e he;simp only[qX,qQ]at q1 q2;obtain⟨k0,q1,rfl⟩:=q1;obtain⟨v0,q2,rfl⟩:=q2;exact⟨q0,k0,v0,q1,q2,hback _ _ (zch hu0 _ _ q1) q3,hback _ _ (zch hu0 _ _ q2) q4⟩
   ·obtain⟨sn0,e1,e2⟩:=zmh g3;rw[<-e2]at g5;subst e1;exact .inr (.inr ⟨r,kk,ss,pp,sn0,g2,rfl,g4,hback (.agg sn0) _ (zch hu0 3 _ rfl) g5⟩)
  ·intro g cs hg;exact(ho.glob g cs hg).weaken (λb _ hb=>(hMu b).1 hb)
 have hcall:=hret w F0 ρ0 vs ho0 (by simpa using hsz) (λj a u ha hu=>hback a u (zch hbel j a ha) (hrep j (a.ren σ) u (by simp[ha]) hu));refine hcall.mono ?_;rintro en w' ⟨u,ρ1,rfl,hA,hr⟩;let ρ':Nat->RS:=λj=>if k<=j/\j<k+(H0'.length-H0.length)then ρ1 (ids.length+(j-k))else open Classical in if h:∃i,i<ids.length/\σ i=j then ρ1 (Classical.choose h)else ρ j
 have hold1:∀i,i<ids.length->ρ1 i=ρ (σ i)\/(ρ (σ i)≠ .unborn/\ρ1 i= .dead):=by
  intro i hi;by_cases hu:ρ0 i= .unborn
  ·exact .inl (by rw[hA.still i hu (by simp[zge];omega),<-hρ0 i hi,hu])
  ·rcases hA.ext i hu with h | ⟨_,h⟩
   ·exact .inl (by rw[h,hρ0 i hi])
   ·exact .inr ⟨by rw[<-hρ0 i hi];exact hu,h⟩
 have hin1:∀i,i<ids.length->ρ' (σ i)=ρ1 i:=by
  intro i hi;simp only[ρ'];rw[if_neg (by have:=(hin i hi).1;omega)];have hex:∃i',i'<ids.length/\σ i'=σ i:=⟨i,hi,rfl⟩
  rw[dif_pos hex];exact congrArg ρ1 (hinj _ _ (Classical.choose_spec hex).2)
 have hnew1:∀i,ids.length<=i->i<H0'.length->ρ' (σ i)=ρ1 i:=by
  intro i h1 h2;rw[hout i h1];simp only[ρ'];rw[if_pos (by omega)];congr 1;omega
 have hkeep:∀j,¬(k<=j/\j<k+(H0'.length-H0.length))->j∉ids->ρ' j=ρ j:=λj hj hji=>by
  simp only[ρ'];rw[if_neg hj,dif_neg];rintro⟨i,hi,rfl⟩;exact hji (hin i hi).2
 have hids:∀j,j∈ids->ρ' j=ρ j\/(ρ j≠ .unborn/\ρ' j= .dead):=by
  intro j hj;obtain⟨i,hi,rfl⟩:=hmem j hj;rw[hin1 i hi];exact hold1 i hi
 have hσ1:∀i,ρ1 i≠ .unborn->ρ' (σ i)=ρ1 i:=by
  intro i hi;rcases qZ i ids.length with h | h
  ·exact hin1 i h
  ·rcases qZ i H0'.length with h' | h'
   ·exact hnew1 i h h'
   ·exact absurd (hA.hok.unborn i h') hi
 have hinv:∀j b,ρ' j= .here b->(∃i,σ i=j/\ρ1 i= .here b)\/(j∉ids/\ρ j= .here b/\¬(k<=j/\j<k+(H0'.length-H0.length))):=by
  intro j b hj;by_cases hkj:k<=j/\j<k+(H0'.length-H0.length)
  ·simp only[ρ']at hj;rw[if_pos hkj]at hj;exact .inl ⟨ids.length+(j-k),by rw[hout _ (by omega)];omega,hj⟩
  ·by_cases hji:j∈ids
   ·obtain⟨i,hi,rfl⟩:=hmem j hji;exact .inl ⟨i,rfl,(hin1 i hi).symm.trans hj⟩
   ·rw[hkeep j hkj hji]at hj;exact .inr ⟨hji,hj,hkj⟩
 have hMu':∀b,Mu F0 ρ1 b↔Mu F ρ' b:=by
  intro b;constructor
  ·rintro((h | ⟨i,hi,h⟩) | ⟨i,h⟩)
   ·exact .inl h
   ·refine .inr ⟨i,?_⟩;rw[hkeep i ?_ hi]
    ·exact h
    ·intro hki;rw[hub i hki.1 hki.2]at h;simp at h
   ·exact .inr ⟨σ i,(hσ1 i (by rw[h];simp)).trans h⟩
  ·rintro(h | ⟨j,h⟩)
   ·exact .inl (.inl h)
   ·rcases hinv j b h with⟨i,_,hi⟩ | ⟨hji,hj,_⟩
    ·exact .inr ⟨i,hi⟩
    ·exact .inl (.inr ⟨j,hji,hj⟩)
 have hfwd:∀(a:AV) (u:Value),Rep w' (Mu F0 ρ1) ρ1 a u->Rep w' (Mu F ρ') ρ' (a.ren σ) u:=by
  intro a u hr;have h1:=hr.kept (M':=Mu F ρ') (ρ':=ρ1) (Kept.refl (λ_=>False) w') (λ_ x=>x.elim) (λb _ hb=>(hMu' b).2 hb) hA.hok.lt (λ_ _=> .inl rfl);exact h1.ren hσ1
 have hkept:Kept (λb=>∃i,ρ i= .here b) w w':=hA.kept.mono (λb _ ⟨i,hi⟩=>⟨σ i,(hρ0' i b hi).2⟩)
 have hold':∀i b,ρ' i= .here b->(∃j,ρ j= .here b)\/w.heap.size<=b:=by
  intro i b hi;rcases hinv i b hi with⟨j,_,hj⟩ | ⟨_,hj,_⟩
  ·rcases hA.old j b hj with⟨l,hl⟩ | h
   ·exact .inl ⟨σ l,(hρ0' l b hl).2⟩
   ·exact .inr h
  ·exact .inl ⟨i,hj⟩
 have hrest:∀(a:AV) (u:Value),Rep w (Mu F ρ) ρ a u->Rep w' (Mu F ρ') ρ' a u:=by
  intro a u hr;refine hr.kept hkept (λ_ hb=> .inr hb) (Mu.mono hold') ho.lt (λi hi=>?_);by_cases hji:i∈ids
  ·exact(hids i hji).imp id (λx=>x.2)
  ·exact .inl (hkeep i (λhki=>hi (hub i hki.1 hki.2)) hji)
 have hσlt:∀i,i<H0'.length->σ i<H.length:=by
  intro i hi;rcases qZ i ids.length with h | h
  ·have:=(hin i h).1;omega
  ·rw[hout i h];omega
 refine⟨u,ρ',rfl,⟨⟨?_,?_,?_,?_,?_,?_,?_⟩,hkept,?_,hold',?_⟩,hfwd _ _ hr⟩
 ·intro i j b hi hj;rcases hinv i b hi with⟨p,rfl,hp⟩ | ⟨h1,h2,h3⟩<;>rcases hinv j b hj with⟨q,rfl,hq⟩ | ⟨h4,h5,h6⟩
  ·rw[hA.hok.inj p q b hp hq]
  ·exact absurd (Or.inr ⟨j,h4,h5⟩) (hA.hok.notF p b hp)
  ·exact absurd (Or.inr ⟨i,h1,h2⟩) (hA.hok.notF q b hq)
  ·exact ho.inj i j b h2 h5
 ·intro i b hi hF;rcases hinv i b hi with⟨p,rfl,hp⟩ | ⟨h1,h2,h3⟩
  ·exact hA.hok.notF p b hp (.inl hF)
  ·exact ho.notF i b h2 hF
 ·intro b hF;exact Nat.lt_of_lt_of_le (ho.fLt b hF) hkept.size
 ·intro i hi;rw[zit]at hi;rw[hkeep i (by omega) (λhji=>by have:=hlt i hji;omega)];exact ho.unborn i hi
 ·intro j cs hj;by_cases hex:∃i,i<H0'.length/\σ i=j
  ·obtain⟨i,hi,rfl⟩:=hex;have hh:=qbj σ hinj H0' 0 H i hi (by simpa using hσlt i hi);simp only[qY]at hh;rw[hh]at hj;cases hc:H0'[i]with
   |none=>rw[hc]at hj;simp[renB]at hj
   |some cs1=>
    obtain⟨b,hb⟩:=hA.hok.alive i cs1 (by simp[hi,hc]);exact⟨b,(hσ1 i (by rw[hb];simp)).trans hb⟩
  ·rw[zof σ H0' 0 H j (λi hi h=>hex ⟨i,hi,by simpa using h⟩)]at hj;obtain⟨b,hb⟩:=ho.alive j cs hj;refine⟨b,?_⟩;rw[hkeep j ?_ ?_]
   ·exact hb
   ·intro hki;rw[hub j hki.1 hki.2]at hb;simp at hb
   ·intro hji;obtain⟨i,hi,e⟩:=hmem j hji;exact hex ⟨i,by omega,e⟩
 ·intro j b hj;rcases hinv j b hj with⟨i,rfl,hi⟩ | ⟨h1,h2,h3⟩
  ·obtain⟨cs,g1,g2⟩:=hA.hok.blk i b hi
   have hil:i<H0'.length:=by
    rcases qZ i H0'.length with h' | h'
    ·exact h'
    ·rw[qJ h']at g1;simp at g1
   have hh:=qbj σ hinj H0' 0 H i hil (by simpa using hσlt i hil);simp only[qY]at hh;have hcc:H0'[i]=some cs:=by rw[List.getElem?_eq_getElem hil]at g1;simpa using g1
   refine⟨cs.map (AV.ren σ),by rw[hh,hcc];rfl,?_⟩;rcases g2 with⟨el,m,g2,g3,g4,g5⟩ | ⟨es,g2,g3,g4⟩ | ⟨r,kk,ss,pp,sn,g2,g3,g4,g5⟩
   ·refine .inl ⟨el,m,g2,by simpa using g3,g4,λj a ha=>?_⟩;simp only[qX,qQ]at ha;obtain⟨x,hx,rfl⟩:=ha;obtain⟨y,hy,hyr⟩:=g5 j x hx;exact⟨y,hy,hfwd _ _ hyr⟩
   ·refine .inr (.inl ⟨es,g2,by simpa using g3,λj e he=>?_⟩);obtain⟨q0,k,v,q1,q2,q3,q4⟩:=g4 j e he;exact⟨q0,k.ren σ,v.ren σ,by simp[q1],by simp[q2],hfwd _ _ q3,hfwd _ _ q4⟩
   ·subst g3;rw[qek];have:=hfwd _ _ g5;simp only[AV.ren,zbj]at this;exact .inr (.inr ⟨r,kk,ss,pp,_,g2,rfl,g4,this⟩)
  ·obtain⟨cs,g1,g2⟩:=ho.blk j b h2
   have hmiss:∀i,i<H0'.length->σ (0+i)≠j:=by
    intro i hi h;rw[qY]at h;rcases qZ i ids.length with h' | h'
    ·exact h1 (h ▸ (hin i h').2)
    ·rw[hout i h']at h;omega
   have hsame:=hA.kept.same b (ho.lt j b h2) (by
    rintro⟨i,hi⟩;obtain⟨h4,h5⟩:=hρ0' i b hi;have:=ho.inj _ _ b h5 h2;exact h1 (this ▸ (hin i h4).2))
   exact⟨cs,by rw[zof σ H0' 0 H j hmiss];exact g1,g2.mono hsame (λ_ _ _=>hrest _ _)⟩
 ·intro g cs hg;exact(ho.glob g cs hg).kept hkept (λ_ hb=> .inr hb) (Mu.mono hold')
 ·intro i hi;by_cases hji:i∈ids
  ·exact(hids i hji).imp id (λx=>⟨Nat.zero_le _,x.2⟩)
  ·exact .inl (hkeep i (λhki=>hi (hub i hki.1 hki.2)) hji)
 ·intro i hi hn;by_cases hji:i∈ids
  ·rcases hids i hji with h | ⟨h,_⟩
   ·rw[h];exact hi
   ·exact absurd hi h
  ·rw[hkeep i ?_ hji]
   ·exact hi
   ·intro hki;exact hn (by simp[zge];omega)
inductive CallR(P:Program)(Γ:Glob)(f:FuncId)(args:List AV)(k:Nat)(H:Heap):AV->Eff->List Nat->Nat->Prop
 |base {v:AV} {e:Eff} {rd:List Nat} {c:Nat} (h:CallR0 P Γ f args k H v e rd c):CallR P Γ f args k H v e rd c
 |thin {v:AV} {e:Eff} {rd:List Nat} {c:Nat} (p:Nat->Bool) (h:CallR P Γ f args k H v e rd c) (hp:∀x∈e,p x.1=false->x.1∈rd/\∃cs,x.2=some cs/\getB H x.1=some cs):
   CallR P Γ f args k H v (e.filter λx=>p x.1) rd c
theorem qpa{H:Heap}{i:Nat}{cs:List AV}(h:getB H i=some cs):H.set i (some cs)=H:=by
 have h1:=zce h;apply List.ext_getElem?;intro j;by_cases e:i=j
 ·subst e
  have hl:i<H.length:=by
   rcases qZ i H.length with h' | h'
   ·exact h'
   ·rw[qJ h']at h1;simp at h1
  rw[qV hl,h1]
 ·rw[qW e]
theorem zsv(p:Nat->Bool):∀(e:Eff) (H:Heap),(∀x∈e,p x.1=false->∃cs,x.2=some cs/\getB H x.1=some cs)->zad (e.filter λx=>p x.1) H=zad e H:=by
 intro e
 induction e with
 |nil=>intro H _;rfl
 |cons x e ih=>
  intro H h;obtain⟨i,c⟩:=x;cases hpi:p i with
  |true=>
   rw[List.filter_cons_of_pos (by simpa using hpi)];simp only[zad];refine ih _ (λy hy hpy=>?_);obtain⟨cs,h1,h2⟩:=h y (by simp[hy]) hpy;refine⟨cs,h1,?_⟩;have hne:i≠y.1:=by intro e2;rw[e2,hpy]at hpi;simp at hpi
   unfold getB at h2 ⊢;rw[qW hne];exact h2
  |false=>
   rw[List.filter_cons_of_neg (by simp[hpi])];obtain⟨cs,h1,h2⟩:=h (i,c) (by simp) hpi;simp only at h1;subst h1;simp only[zad];rw[qpa h2];exact ih H (λy hy hpy=>h y (by simp[hy]) hpy)
theorem qel{P:Program}{Γ:Glob}{w:World}{F:Nat->Prop}{ρ:Nat->RS}{H:Heap}{n0 k c:Nat}{f:FuncId}{args:List AV}{v:AV}{e:Eff}{rd:List Nat}{vs:Array Value}
  (ho:HOK Γ w F ρ H) (hk:k+c<=H.length) (hub:∀j,k<=j->j<k+c->ρ j= .unborn) (hcr:CallR P Γ f args k H v e rd c) (hsz:vs.size=args.length)
  (hrep:∀(j:Nat) (a:AV) (u:Value),args[j]?=some a->vs[j]?=some u->Rep w (Mu F ρ) ρ a u):
  zoe P f vs w λen w'=>∃u ρ',en= .returned u/\After Γ F n0 ρ w ρ' w' (zad e H) (zge k c)/\Rep w' (Mu F ρ') ρ' v u:=by
 induction hcr with
 |base h=>exact zyf ho hk hub h hsz hrep
 |thin p h hp ih=>
  rw[zsv p _ _ (λx hx hpx=>(hp x hx hpx).2)];exact ih hk hub
