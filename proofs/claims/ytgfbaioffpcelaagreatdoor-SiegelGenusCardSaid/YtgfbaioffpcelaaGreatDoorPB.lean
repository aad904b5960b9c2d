/- A part of the proof. -/
import Derived.Test.YtgfbaioffpcelaaGreatDoorPA
import Derived.RangeFuncRecord
import Derived.ScopeJumps
set_option linter.all false
open Bool renaming and_eq_true -> qQ
open List renaming getElem?_eq_none -> qX, getElem?_take -> qK, getD_eq_getElem?_getD -> qW, mapM_cons -> qV, getElem?_map -> qY, all_eq_true -> qU
open Nat renaming lt_or_ge -> qZ
open Option renaming map_eq_some_iff -> qJ
namespace Go.AL
open Go
theorem zes(σ:Nat->Nat):∀a:AV,a.closed=true->a.ren σ=a:=by
 suffices h:∀(a:AV),(a.closed=true->a.ren σ=a)from h
 intro a
 induction a using AV.rec (motive_2:=λl=>AV.closed.closedL l=true->AV.ren.renL σ l=l)with
 |bool b=>intro _;rfl
 |int k n=>intro _;rfl
 |str s=>intro _;rfl
 |vec cs n c=>intro _;rfl
 |sl id off n sz c=>intro h;simp[AV.closed]at h
 |ptr id off=>intro h;simp[AV.closed]at h
 |iptr cs p=>intro _;rfl
 |clo f cs ih=>intro h;simp only[AV.ren];rw[ih (by simpa[AV.closed]using h)]
 |agg cs ih=>intro h;simp only[AV.ren];rw[ih (by simpa[AV.closed]using h)]
 |tup cs ih=>intro h;simp only[AV.ren];rw[ih (by simpa[AV.closed]using h)]
 |anyb=>intro _;rfl
 |junk=>intro _;rfl
 |nil=>rfl
 |cons x l hx hl=>
  rename_i h;simp only[AV.closed.closedL,qQ]at h;simp only[AV.ren.renL];rw[hx h.1,hl h.2]
theorem znm(n:Nat):∀a:AV,a.closed=true->a.under n=true:=by
 intro a
 induction a using AV.rec (motive_2:=λl=>AV.closed.closedL l=true->AV.under.underL n l=true)with
 |bool b=>intro _;rfl
 |int k n=>intro _;rfl
 |str s=>intro _;rfl
 |vec cs n c=>intro _;rfl
 |sl id off n sz c=>intro h;simp[AV.closed]at h
 |ptr id off=>intro h;simp[AV.closed]at h
 |iptr cs p=>intro _;rfl
 |clo f cs ih=>intro h;simp only[AV.under];exact ih (by simpa[AV.closed]using h)
 |agg cs ih=>intro h;simp only[AV.under];exact ih (by simpa[AV.closed]using h)
 |tup cs ih=>intro h;simp only[AV.under];exact ih (by simpa[AV.closed]using h)
 |anyb=>intro _;rfl
 |junk=>intro _;rfl
 |nil=>rfl
 |cons x l hx hl=>
  rename_i h;simp only[AV.closed.closedL,qQ]at h;simp only[AV.under.underL,qQ];exact⟨hx h.1,hl h.2⟩
theorem zbd(n:Nat):∀l:List AV,AV.closed.closedL l=true->AV.under.underL n l=true:=by
 intro l
 induction l with
 |nil=>intro _;rfl
 |cons x l ih=>
  intro h;simp only[AV.closed.closedL,qQ]at h;simp only[AV.under.underL,qQ];exact⟨znm n x h.1,ih h.2⟩
theorem zay(σ:Nat->Nat):∀l:List AV,AV.closed.closedL l=true->l.map (AV.ren σ)=l:=by
 intro l
 induction l with
 |nil=>intro _;rfl
 |cons x l ih=>
  intro h;simp only[AV.closed.closedL,qQ]at h;simp only[List.map_cons];rw[zes σ x h.1,ih h.2]
theorem CallR.pure{P:Program}{Γ:Glob}{f:FuncId}{args:List AV}{v:AV}{k:Nat}{H:Heap}(h:Ret P Γ f args [] v [])(ha:AV.closed.closedL args=true)(hv:v.closed=true):
  CallR P Γ f args k H v [] [] 0:=by
 have:=CallR0.mk (P:=P) (Γ:=Γ) (f:=f) (args:=args) (k:=k) (H:=H) [] args [] v [] h rfl .nil (by simp) (zay _ _ ha).symm (zbd _ _ ha) (by intro i c h;simp at h);rw[zes _ _ hv]at this;exact .base this
def frzI(n0:Nat)(H:Heap):Nat->AV->Option AV
 |0,_=>none
 |d+1,a=>match a with
  |.sl id off n sz c=>if id<n0 then none else match getB H id with
   |some cs=>need (off+n*sz<=cs.length) ((((cs.drop off).take (n*sz)).mapM (frzI n0 H d)).map λl=> .vec l n c)
   |none=>none
  |.ptr _ _=>none
  |.agg cs=>(cs.mapM (frzI n0 H d)).map .agg
  |.tup cs=>(cs.mapM (frzI n0 H d)).map .tup
  |.clo _ _=>none
  |a=>some a
def cutR(n0:Nat)(ρ:Nat->RS):Nat->RS:=λi=>if i<n0 then ρ i else .unborn
theorem zui{Γ:Glob}{w:World}{F:Nat->Prop}{ρ:Nat->RS}{H:Heap}{n0:Nat}(ho:HOK Γ w F ρ H):∀(d:Nat) (a a':AV) (u:Value),Rep w (Mu F ρ) ρ a u->frzI n0 H d a=some a'->
  IRep w (Mu F (cutR n0 ρ)) a' u:=by
 have hmu:∀b,Mu F (cutR n0 ρ) b->Mu F ρ b:=by
  rintro b (h | ⟨i,h⟩)
  ·exact .inl h
  ·unfold cutR at h;split at h
   ·exact .inr ⟨i,h⟩
   ·simp at h
 intro d
 induction d with
 |zero=>intro a a' u _ h;simp[frzI]at h
 |succ d ih=>
  intro a a' u hr h
  have rowI:∀(cs l:List AV) (us:Array Value),us.size=cs.length->(∀(j:Nat) (x:AV) (v:Value),cs[j]?=some x->us[j]?=some v->Rep w (Mu F ρ) ρ x v)->cs.mapM (frzI n0 H d)=some l->
    us.size=l.length/\∀(j:Nat) (x:AV) (v:Value),l[j]?=some x->us[j]?=some v->IRep w (Mu F (cutR n0 ρ)) x v:=by
   intro cs l us hl hrr hm;obtain⟨m1,m2⟩:=zhn hm;refine⟨by omega,λj x v hx hv=>?_⟩
   have hj:j<cs.length:=by
    rcases qZ j l.length with h' | h'
    ·omega
    ·rw[qX h']at hx;simp at hx
   obtain⟨y,hy,hy'⟩:=m2 j cs[j] (by simp[hj]);rw[hx]at hy;simp at hy;subst hy;exact ih _ _ _ (hrr j cs[j] v (by simp[hj]) hv) hy'
  cases a<;>simp only[frzI]at h
  case sl id off n sz c=>
   split at h
   ·simp at h
   ·rename_i hid;split at h
    ·rename_i cs hg;obtain⟨hle,h⟩:=zad h;simp only[qJ]at h;obtain⟨l,hm,rfl⟩:=h;obtain⟨b,el,m,hb,hs,hlen,hf,hc⟩:=ho.at hg (qfg hr);obtain⟨b',cap,rfl,hn,hcc,hb'⟩:=zfo hr
     have hbb:b'=b:=by
      rcases hb' with hb' | ⟨hb',_⟩
      ·rw[hb]at hb';simp at hb'
      ·rw[hb]at hb';simp at hb';exact hb'.symm
     subst hbb;obtain⟨vs,hvs,hrr⟩:=zir hle hc;obtain⟨m1,m2⟩:=zhn hm;have hll:l.length=n*sz:=by rw[m1];simp;omega
     refine .vec l n c b' off cap vs (λ_ hmm=>?_) (λj hj=>hvs j (by omega)) (λj x hx=>?_) hn hcc
     ·rcases hmm with hmm | ⟨i,hi⟩
      ·exact ho.notF id b' hb hmm
      ·unfold cutR at hi;split at hi
       ·have:=ho.inj i id b' hi hb;omega
       ·simp at hi
     ·have hj:j<n*sz:=by
       rcases qZ j l.length with h' | h'
       ·omega
       ·rw[qX h']at hx;simp at hx
      have hcj:((cs.drop off).take (n*sz))[j]?=some cs[off+j]:=by
       rw[qK,if_pos hj,List.getElem?_drop];simp
      obtain⟨y,hy,hy'⟩:=m2 j _ hcj;rw[hx]at hy;simp at hy;subst hy;exact ih _ _ _ (hrr j _ hj (by simp)) hy'
    ·simp at h
  case agg cs=>
   simp only[qJ]at h;obtain⟨l,hm,rfl⟩:=h;obtain⟨us,rfl,hl,hrr⟩:=zmr hr;obtain⟨g1,g2⟩:=rowI cs l us hl hrr hm;exact .agg l us g1 g2
  case tup cs=>
   simp only[qJ]at h;obtain⟨l,hm,rfl⟩:=h;obtain⟨us,rfl,hl,hrr⟩:=ztu hr;obtain⟨g1,g2⟩:=rowI cs l us hl hrr hm;exact .tup l us g1 g2
  case ptr=>simp at h
  case clo=>simp at h
  all_goals
   simp at h;subst h;exact(hr.toI rfl).weaken (λb _ hb=>hmu b hb)
theorem zzs{w:World}{M:Nat->Prop}{ρ:Nat->RS}{n0:Nat}{a:AV}{u:Value}(h:Rep w M ρ a u):a.under n0=true->Rep w M (cutR n0 ρ) a u:=by
 have hid:∀a:AV,a.ren (λi=>i)=a:=by
  intro a
  induction a using AV.rec (motive_2:=λl=>AV.ren.renL (λi=>i) l=l)with
  |clo f cs ih=>simp only[AV.ren];rw[ih]
  |agg cs ih=>simp only[AV.ren];rw[ih]
  |tup cs ih=>simp only[AV.ren];rw[ih]
  |nil=>rfl
  |cons x l hx hl=>simp only[AV.ren.renL];rw[hx,hl]
  |_=>rfl
 intro hu;exact h.unren (σ:=λi=>i) (n:=n0) (λi hi=>by simp[cutR,hi]) a (hid a) hu
inductive Fin(n0:Nat):AV->Heap->AV->Heap->Prop
 |keep (v:AV) (H:Heap):Fin n0 v H v H
 |drop (v:AV) (H:Heap) (hv:v.under n0=true) (hH:∀(i:Nat) (cs:List AV),i<n0->H[i]?=some (some cs)->AV.under.underL n0 cs=true):Fin n0 v H v (H.take n0)
 |freeze (d:Nat) (v v':AV) (H:Heap) (hv:frzI n0 H d v=some v') (hH:∀(i:Nat) (cs:List AV),i<n0->H[i]?=some (some cs)->AV.under.underL n0 cs=true):Fin n0 v H v' (H.take n0)
theorem HOK.cut{Γ:Glob}{w:World}{F:Nat->Prop}{ρ:Nat->RS}{H:Heap}{n0:Nat}(ho:HOK Γ w F ρ H)(hH:∀(i:Nat) (cs:List AV),i<n0->H[i]?=some (some cs)->AV.under.underL n0 cs=true):
  HOK Γ w F (cutR n0 ρ) (H.take n0):=by
 have hmu:∀b,Mu F (cutR n0 ρ) b->Mu F ρ b:=by
  rintro b (h | ⟨i,h⟩)
  ·exact .inl h
  ·unfold cutR at h;split at h
   ·exact .inr ⟨i,h⟩
   ·simp at h
 have hinv:∀i b,cutR n0 ρ i= .here b->i<n0/\ρ i= .here b:=by
  intro i b h;unfold cutR at h;split at h
  ·exact⟨by assumption,h⟩
  ·simp at h
 refine⟨λi j b hi hj=>ho.inj i j b (hinv i b hi).2 (hinv j b hj).2,λi b hi=>ho.notF i b (hinv i b hi).2,ho.fLt,λi hi=>?_,λi cs hi=>?_,λi b hi=>?_,λg cs hg=>(ho.glob g cs hg).weaken (λb _ hb=>hmu b hb)⟩
 ·simp at hi;unfold cutR;split
  ·exact ho.unborn i (by omega)
  ·rfl
 ·rw[qK]at hi;split at hi
  ·rename_i hlt;obtain⟨b,hb⟩:=ho.alive i cs hi;exact⟨b,by simp[cutR,hlt,hb]⟩
  ·simp at hi
 ·obtain⟨hlt,hi'⟩:=hinv i b hi;obtain⟨cs,h1,h2⟩:=ho.blk i b hi';refine⟨cs,by rw[qK,if_pos hlt];exact h1,h2.mono rfl (λa v ha hr=>?_)⟩;obtain⟨j,hj,hja⟩:=List.mem_iff_getElem.1 ha;have h6:=zzs hr (zcr (hH i cs hlt h1) j a (by rw[<-hja];simp));exact h6.kept (Kept.refl (λ_=>False) w) (λ_ x=>x.elim) (λb _ hb=>hmu b hb) (λi b hi=>ho.lt i b (hinv i b hi).2) (λ_ _=> .inl rfl)
theorem Fin.sound{Γ:Glob}{w:World}{F:Nat->Prop}{ρ:Nat->RS}{H H':Heap}{n0:Nat}{v v':AV}{u:Value}(h:Fin n0 v H v' H')(ho:HOK Γ w F ρ H)(hr:Rep w (Mu F ρ) ρ v u)(hl:n0<=H.length):
  ∃ρ',HOK Γ w F ρ' H'/\Rep w (Mu F ρ') ρ' v' u/\(∀i,i<n0->ρ' i=ρ i)/\(∀i b,ρ' i= .here b->∃j,ρ j= .here b)/\n0<=H'.length:=by
 have hcutH:n0<=(H.take n0).length:=by simp;omega
 have hcut1:∀i,i<n0->cutR n0 ρ i=ρ i:=λi hi=>by simp[cutR,hi]
 have hcut2:∀i b,cutR n0 ρ i= .here b->ρ i= .here b:=by
  intro i b h;unfold cutR at h;split at h
  ·exact h
  ·simp at h
 cases h with
 |keep v H=>exact⟨ρ,ho,hr,λ_ _=>rfl,λi _ h=>⟨i,h⟩,hl⟩
 |drop v H hv hH=>
  refine⟨cutR n0 ρ,ho.cut hH,?_,hcut1,λi b h=>⟨i,hcut2 i b h⟩,hcutH⟩
  exact(zzs hr hv).kept (Kept.refl (λ_=>False) w) (λ_ x=>x.elim) (λb _ hb=>by
   rcases hb with hb | ⟨i,hi⟩
   ·exact .inl hb
   ·exact .inr ⟨i,hcut2 i b hi⟩) (λi b hi=>ho.lt i b (hcut2 i b hi)) (λ_ _=> .inl rfl)
 |freeze d v v' H hv hH=>exact⟨cutR n0 ρ,ho.cut hH,.imm _ _ (zui ho d v v' u hr hv),hcut1,λi b h=>⟨i,hcut2 i b h⟩,hcutH⟩
def zeh(P:Program)(E:Env)(H:Heap):ResultVar->Option AV
 |.tmp t=>some (E t)
 |.cell a t=>match ldSz P t,E a with
  |some (ag,sz),.ptr id off=>match getB H id with
   |some cs=>need (off+sz<=cs.length) (some (ldv ag sz off cs))
   |none=>none
  |_,_=>none
def resA(P:Program)(rs:List ResultVar)(E:Env)(H:Heap):Option AV:=
 match rs.mapM (zeh P E H)with
 |some [v]=>some v
 |some vs=>some (.tup vs)
 |none=>none
def resF(tmps:Array Value):ResultVar->Sem Value
 |.tmp t=>pure (tmps.getD t undef)
 |.cell x t=>do loadVar t (<-asAddr (tmps.getD x undef))
theorem zsg(fn:Func)(tmps:Array Value):results fn tmps=(fn.results.mapM (resF tmps) >>= λvs=>pure (if h:vs.size=1 then vs[0]else .tuple vs)):=rfl
theorem zpg{P:Program}{Γ:Glob}{C:Ctx}{ρ:Nat->RS}{E:Env}{H:Heap}{a:Act}{w:World}(hs:Sim Γ C ρ E H a w):∀(rs:List ResultVar) (vs:List AV),rs.mapM (zeh P E H)=some vs->
  ∃us:List Value,(rs.mapM (resF a.tmps)).run P w= .ok us w/\zbr w (Mu C.F ρ) ρ vs us:=by
 intro rs
 induction rs with
 |nil=>intro vs h;simp at h;subst h;exact⟨[],by simp,rfl,λj a v h=>by simp at h⟩
 |cons r rs ih=>
  intro vs h;rw[qV]at h;cases hr:zeh P E H r with
  |none=>simp[hr]at h
  |some x=>
   cases hl:rs.mapM (zeh P E H)with
   |none=>simp[hr,hl]at h
   |some vs'=>
    simp[hr,hl]at h;subst h;obtain⟨us,h1,h2⟩:=ih vs' hl
    have key:∃u,(resF a.tmps r).run P w= .ok u w/\Rep w (Mu C.F ρ) ρ x u:=by
     cases r with
     |tmp t=>simp[zeh]at hr;subst hr;exact⟨_,by simp only[resF];exact Sem.run_pure _ _ _,hs.env t⟩
     |cell ad t=>
      simp only[zeh]at hr;split at hr
      ·rename_i ag sz id off hsz hE;split at hr
       ·rename_i cs hg;obtain⟨hle,hr⟩:=zad hr;simp at hr;subst hr;have henv:=hs.env ad;rw[hE]at henv;obtain⟨b,e1,hb,_,hc⟩:=zob hs.hok henv hg;obtain⟨vs,hvs,hrr⟩:=zir hle hc;refine⟨_,?_,zzd hle (zlk hsz).2.2 hrr⟩;simp only[resF,Sem.run_bind,e1,asAddr,Sem.run_pure,Result.andThen_ok];exact zku hsz hvs
       ·simp at hr
      ·simp at hr
    obtain⟨u,hu,hru⟩:=key;refine⟨u::us,?_,?_⟩
    ·rw[qV];simp only[Sem.run_bind,hu,Result.andThen_ok,h1,Sem.run_pure]
    ·refine⟨by simp[h2.1],λj y z hy hz=>?_⟩;cases j with
     |zero=>simp at hy hz;subst hy hz;exact hru
     |succ j=>exact h2.2 j y z (by simpa using hy) (by simpa using hz)
def zkj(args:List AV):Env:=λt=>args.getD t .junk
theorem IRep.same2{w w':World}{M:Nat->Prop}(hc:∀p,w'.cell? p=w.cell? p){a:AV}{v:Value}(h:IRep w M a v):IRep w' M a v:=by
 induction h with
 |bool b=>exact .bool b
 |int k n=>exact .int k n
 |str s=>exact .str s
 |anyb b=>exact .anyb b
 |junk v=>exact .junk v
 |nil p c hc=>exact .nil p c hc
 |vec cs n c b off cap vs hMb hcell hrep hn hc' ih=>exact .vec cs n c b off cap vs hMb (λj hj=>by rw[hc];exact hcell j hj) ih hn hc'
 |iptr cs p b off vs hMb hcell hrep ih=>exact .iptr cs p b off vs hMb (λj hj=>by rw[hc];exact hcell j hj) ih
 |agg cs vs hl hrep ih=>exact .agg cs vs hl ih
 |tup cs vs hl hrep ih=>exact .tup cs vs hl ih
 |clo f cs vs hf hl hrep ih=>exact .clo f cs vs hf hl ih
theorem Rep.same2{w w':World}{M:Nat->Prop}{ρ:Nat->RS}(hc:∀p,w'.cell? p=w.cell? p)(hs:∀b,w'.shape? b=w.shape? b){a:AV}{v:Value}(h:Rep w M ρ a v):Rep w' M ρ a v:=by
 induction h with
 |imm a v h=>exact .imm a v (h.same2 hc)
 |slDead id off n sz c b cap h hn hc=>exact .slDead id off n sz c b cap h hn hc
 |slAt id off n sz c b cap el m h hs' hn hc hm=>exact .slAt id off n sz c b cap el m h (by rw[hs];exact hs') hn hc hm
 |ptrDead id off b h=>exact .ptrDead id off b h
 |ptrAt id off b h hs'=>exact .ptrAt id off b h (by rw[hs];exact hs')
 |agg cs vs hl hrep ih=>exact .agg cs vs hl ih
 |tup cs vs hl hrep ih=>exact .tup cs vs hl ih
 |clo f cs vs hf hl hrep ih=>exact .clo f cs vs hf hl ih
theorem zjs{w:World}{b:Nat}{o:Obj}(h:b<w.heap.size)(x:Nat):(w.putObj b o).heap[x]?=if x=b then some o else w.heap[x]?:=by
 by_cases e:x=b
 ·subst e;rw[if_pos rfl];exact World.putObj_heap_same h
 ·rw[if_neg e];exact World.putObj_heap_other e
def zfg:Obj->Bool
 |.cells .. => false
 |_=>true
theorem znn{w:World}{b:Nat}{o o':Obj}(h:w.heap[b]?=some o)(ho:zfg o=true)(ho':zfg o'=true):
  (∀p,(w.putObj b o').cell? p=w.cell? p)/\(∀x,(w.putObj b o').shape? x=w.shape? x)/\(∀p,(w.putObj b o').frozen? p=w.frozen? p):=by
 have hlt:=zgk h;refine⟨λp=>?_,λx=>?_,λp=>?_⟩
 ·unfold World.cell?;rw[zjs hlt];by_cases e:p.block=b
  ·rw[if_pos e,e,h];cases o<;>simp[zfg]at ho<;>cases o'<;>simp[zfg]at ho'<;>rfl
  ·rw[if_neg e]
 ·unfold World.shape?;rw[zjs hlt];by_cases e:x=b
  ·rw[if_pos e,e,h];cases o<;>simp[zfg]at ho<;>cases o'<;>simp[zfg]at ho'<;>rfl
  ·rw[if_neg e]
 ·unfold World.frozen?;rw[zjs hlt];by_cases e:p.block=b
  ·rw[if_pos e,e,h];cases o<;>simp[zfg]at ho<;>cases o'<;>simp[zfg]at ho'<;>rfl
  ·rw[if_neg e]
theorem zzt{w:World}{b:Nat}{o o':Obj}(h:w.heap[b]?=some o)(ho:zfg o=true)(ho':zfg o'=true):Kept (λx=>x=b) w (w.putObj b o'):=by
 obtain⟨h1,h2,h3⟩:=znn h ho ho';exact⟨by simp,λx _ hx=>by rw[zjs (zgk h),if_neg hx],λx _=>h2 x,λx j _=>h3 _,rfl,rfl⟩
theorem Sim.take{Γ:Glob}{C:Ctx}{ρ:Nat->RS}{E:Env}{H:Heap}{a:Act}{w:World}(hs:Sim Γ C ρ E H a w){D:Nat}{ms:List Nat}(hd:a.defers=(D::ms).map znl):
  w.heap[D]?=some (.deferred (some []))/\Sim Γ C ρ E H { a with defers:=ms.map znl } (w.putObj D (.deferred none)):=by
 obtain⟨ms',h1,h2,h3⟩:=hs.defers;have hinj:∀x y,znl x=znl y->x=y:=by intro x y h;simpa[znl]using h
 have e:ms'=D::ms:=by
  rw[hd]at h1;exact((List.map_inj_right hinj).1 h1).symm
 subst e;obtain⟨g1,g2,g3⟩:=h3 D (by simp);have hk:=zzt (o':= .deferred none) g2 rfl rfl;obtain⟨p1,p2,p3⟩:=znn (o':= .deferred none) g2 rfl rfl;have hr:∀x v,Rep w (Mu C.F ρ) ρ x v->Rep (w.putObj D (.deferred none)) (Mu C.F ρ) ρ x v:=λx v h=>h.same2 p1 p2
 refine⟨g2,⟨⟨hs.hok.inj,hs.hok.notF,λb hb=>by simpa using hs.hok.fLt b hb,hs.hok.unborn,hs.hok.alive,λi b hi=>?_,λg cs hg=>(hs.hok.glob g cs hg).same2 p1⟩,λt=>hr _ _ (hs.env t),?_,hs.size,?_,hs.ext,hs.old,hs.len⟩⟩
 ·obtain⟨cs,q1,q2⟩:=hs.hok.blk i b hi;exact⟨cs,q1,q2.mono (hk.same b (hs.hok.lt i b hi) (λe=>g3 i (by rw[<-e];exact hi))) (λ_ _ _=>hr _ _)⟩
 ·refine⟨ms,rfl,(List.nodup_cons.1 h2).2,λD' hD'=>?_⟩;obtain⟨q1,q2,q3⟩:=h3 D' (by simp[hD']);have hne:D'≠D:=λe=>(List.nodup_cons.1 h2).1 (e ▸ hD')
  exact⟨q1,by rw[hk.same D' (zgk q2) hne];exact q2,q3⟩
 ·exact hs.kept.trans hk (λb hb e=>by omega)
theorem Sim.fin{Γ:Glob}{C:Ctx}{ρ1:Nat->RS}{E':Env}{H H' Hout:Heap}{a':Act}{w':World}{v v':AV}{u:Value}(hs':Sim Γ C ρ1 E' H' a' w')(ho:HOK Γ C.w0 C.F C.ρ0 H)(hn:C.n0=H.length)
  (hu2:Rep w' (Mu C.F ρ1) ρ1 v' u) (hfin:Fin H.length v' H' v Hout):
  ∃ρ',After Γ C.F H.length C.ρ0 C.w0 ρ' w' Hout (zgz H.length (Hout.length-H.length))/\Rep w' (Mu C.F ρ') ρ' v u:=by
 obtain⟨ρ',g1,g2,g3,g4,g5⟩:=hfin.sound hs'.hok hu2 (hn ▸ hs'.len);refine⟨ρ',⟨g1,hs'.kept,λi hi=>?_,λi b hi=>(g4 i b hi).elim λj hj=>hs'.old j b hj,λi hi hn'=>?_⟩,g2⟩
 ·have hlt:i<H.length:=by
   rcases qZ i H.length with h' | h'
   ·exact h'
   ·exact absurd (ho.unborn i h') hi
  rw[g3 i hlt];exact(hs'.ext i (by rw[hn];exact hlt)).imp id (λx=>⟨Nat.zero_le _,x.2⟩)
 ·rcases qZ i H.length with h' | h'
  ·rw[g3 i h'];rcases hs'.ext i (by rw[hn];exact h')with h | ⟨h,_⟩
   ·rw[h];exact hi
   ·exact absurd hi h
  ·exact g1.unborn i (by
    simp only[zgz,List.mem_range'_1]at hn';omega)
theorem zph{P:Program}{Γ:Glob}{f:FuncId}{fn:Func}{code:Code}{c:CC}{args:List AV}{H:Heap}{v:AV}{Hout:Heap}(hf:P.funcs[f]?=some fn)(hb:fn.body=some code)
  (hc:zdo P Γ fn.ntmps code=some c) (hn:args.length<=fn.ntmps) (hlen:H.length<=Hout.length) (hne:f≠4095)
  (h:W P Γ H.length fn.ntmps c (zkj args) H (λx E' H'=>(x= .ret\/x= .normal)/\∃v',resA P fn.results.toList E' H'=some v'/\Fin H.length v' H' v Hout)):Ret P Γ f args H v Hout:=by
 refine⟨hlen,?_⟩;intro w F ρ vs ho hsz hrep;refine⟨hne,(callsIn_wide (n:=0)).1 (callsIn_of_wp_marks hf hb trivial ?_)⟩;let C:Ctx:={ F:=F,w0:=w,ρ0:=ρ,n0:=H.length,nt:=fn.ntmps }
 have hs:Sim Γ C ρ (zkj args) H { tmps:=vs++Array.replicate (fn.ntmps-vs.size) undef,defers:=[] } w:=by
  refine⟨ho,λt=>?_,⟨[],rfl,List.nodup_nil,by simp⟩,by show(vs++Array.replicate (fn.ntmps-vs.size) undef).size=fn.ntmps;simp;omega,Kept.refl _ w,λ_ _=> .inl rfl,λi b hi=> .inl ⟨i,hi⟩,Nat.le_refl _⟩;simp only[zkj];rcases qZ t args.length with hl | hl
  ·have h1:args[t]?=some args[t]:=by simp[hl]
   have h2:t<vs.size:=by omega
   have:=hrep t args[t] vs[t] h1 (by simp[h2]);simp only[qW,h1,Option.getD_some];rw[Array.getD_eq_getD_getElem?,Array.getElem?_append_left h2];simpa[h2]using this
  ·simp only[qW,qX hl,Option.getD_none];exact .imm _ _ (.junk _)
 refine wpIn_mono (h code hc C ρ _ w rfl rfl (.inl rfl) hs) ?_;rintro x a' w' ⟨E',H',ρ1,⟨hx,v',hres,hfin⟩,hs'⟩
 have key:∀(ms:List Nat) (a':Act) (w':World),Sim Γ C ρ1 E' H' a' w'->a'.defers=ms.map znl->
   LeavesInM Fence.wide 0 P fn a'.tmps (λe w'=>∃u ρ',e= .returned u/\After Γ F H.length ρ w ρ' w' Hout (zgz H.length (Hout.length-H.length))/\Rep w' (Mu F ρ') ρ' v u) a'.defers .returning w':=by
  intro ms
  induction ms with
  |cons D ms ih=>
   intro a' w' hs' hd;obtain⟨h1,h2⟩:=hs'.take hd;have:=ih _ _ h2 rfl;rw[hd];exact⟨by simp,.inl ⟨D,_,rfl,run_takeDeferred h1,this⟩⟩
  |nil=>
   intro a' w' hs' hd;rw[hd]
   show LeavesIn _ _ _ _ _ _ [] _ _
   have post:∃u,(results fn a'.tmps).run P w'= .ok u w'/\Rep w' (Mu F ρ1) ρ1 v' u:=by
    unfold resA at hres;cases hm:fn.results.toList.mapM (zeh P E' H')with
    |none=>simp[hm]at hres
    |some l=>
     obtain⟨us,h1,h2⟩:=zpg (P:=P) hs' _ l hm
     have h1':(fn.results.mapM (resF a'.tmps)).run P w'= .ok us.toArray w':=by
      rw[Array.mapM_eq_mapM_toList,Sem.run_map,h1];rfl
     rw[hm]at hres;simp only[zsg,Sem.run_bind,h1',Result.andThen_ok,Sem.run_pure];by_cases h1l:us.length=1
     ·obtain⟨u,rfl⟩:=List.length_eq_one_iff.1 h1l;obtain⟨y,rfl⟩:=List.length_eq_one_iff.1 (by rw[<-h2.1];rfl:l.length=1);simp at hres;subst hres;exact⟨u,by simp,h2.2 0 y u rfl rfl⟩
     ·refine⟨.tuple us.toArray,by simp[h1l],?_⟩
      have:v'= .tup l:=by
       match l,hres,h2.1 with
       | [],hres,_=>simpa using hres.symm
       | [y],_,hh=>simp at hh;exact absurd hh h1l
       |y::z::r,hres,_=>simpa using hres.symm
      subst this;exact .tup l us.toArray (by simpa using h2.1) (λj a v ha hv=>h2.2 j a v ha (by simpa using hv))
   obtain⟨u,hu1,hu2⟩:=post;obtain⟨ρ',g1,g2⟩:=hs'.fin (H:=H) ho rfl hu2 hfin;exact⟨u,hu1,u,ρ',rfl,g1,g2⟩
 obtain⟨ms,hms,_⟩:=hs'.defers;rcases hx with rfl | rfl
 ·exact key ms a' w' hs' hms
 ·exact key ms a' w' hs' hms
abbrev FP:=List Nat×List Nat
def qfx(P:Program)(Γ:Glob)(n0:Nat)(ck:CK)(E:Env)(H:Heap)(K:It->Prop):Prop:=
 match ck with
 |.call f args=>∃v e rd c,CallR P Γ f (args.map (val E)) H.length (H++List.replicate c none) v e rd c/\K ⟨v,e,rd,H.length,c⟩
 |.callc x args=>∃f caps,val E x= .clo f caps/\okC (okFn P) f=true/\∃v e rd c,CallR P Γ (cloF f) (cloA f (args.map (val E)) caps) H.length (H++List.replicate c none) v e rd c/\K ⟨v,e,rd,H.length,c⟩
 |ck=>∃v e rd,evK n0 H.length ck (val E) H=some (v,e,rd)/\K ⟨v,e,rd,H.length,cntK ck⟩
def zuj(P:Program)(Γ:Glob)(n0:Nat)(o:COp)(E:Env)(H:Heap)(K:It->Prop):Prop:=
 match o.g with
 |none=>qfx P Γ n0 o.k E H K
 |some (d,want)=>∃b,E d= .bool b/\(b=want->qfx P Γ n0 o.k E H K)/\(b≠want->K ⟨.junk,[],[],H.length,0⟩)
def regA(P:Program)(Γ:Glob)(n0:Nat):List COp->Env->Heap->(List FP->Env->Heap->Prop)->Prop
 | [],E,H,Q=>Q [] E H
 |o::os,E,H,Q=>zuj P Γ n0 o E H λit=>regA P Γ n0 os (updO E o.dst it.v) (zac it.e (H++List.replicate it.c none)) λl=>Q ((it.rd,keys it.e)::l)
def zxd(x y:List Nat):Bool:=x.all λi=>!y.contains i
def dynB(l:List (Nat×Nat))(fps:List FP):Bool:=
 l.all λp=>match fps[p.1]?,fps[p.2]? with
  |some x,some y=>zxd x.2 y.1 && zxd x.2 y.2 && zxd y.2 x.1
  |_,_=>true
section
variable{P:Program}{Γ:Glob}{n0 nt:Nat}{E:Env}{H:Heap}
theorem qzb{fresh:Nat}{k:CK}{V:Opd->AV}{m:Nat}{r:Res}(h:evK n0 fresh k V H=some r):evK n0 fresh k V (H++List.replicate m none)=some r:=
 zxa h (λ_ _=>rfl) (λj _=>zuh H m j)
theorem qiz{o:COp}{K:It->Prop}(h:zuj P Γ n0 o E H K):∃it,it.k=H.length/\Stp P Γ n0 o E (H++List.replicate it.c none) it/\K it:=by
 have body:qfx P Γ n0 o.k E H K->∃it,it.k=H.length/\Body P Γ n0 o.k E (H++List.replicate it.c none) it/\K it:=by
  intro hb;cases hck:o.k<;>rw[hck]at hb<;>simp only[qfx]at hb
  case call f args=>
   obtain⟨v,e,rd,c,h1,h2⟩:=hb;exact⟨_,rfl,by simp only[Body];exact h1,h2⟩
  case callc x args=>
   obtain⟨f,caps,h1,h2,v,e,rd,c,h3,h4⟩:=hb;exact⟨_,rfl,by simp only[Body];exact⟨f,caps,h1,h2,h3⟩,h4⟩
  all_goals
   obtain⟨v,e,rd,h1,h2⟩:=hb;exact⟨_,rfl,⟨qzb h1,rfl⟩,h2⟩
 unfold zuj at h;unfold Stp;split at h
 ·rename_i hg;obtain⟨it,h1,h2,h3⟩:=body h;exact⟨it,h1,by rw[hg];exact h2,h3⟩
 ·rename_i d want hg;obtain⟨b,hb,h1,h2⟩:=h;by_cases e:b=want
  ·obtain⟨it,g1,g2,g3⟩:=body (h1 e);exact⟨it,g1,by rw[hg];exact⟨true,by rw[hb,e];simp[gdB],by rw[if_pos rfl];exact g2⟩,g3⟩
  ·exact⟨_,rfl,by rw[hg];exact⟨false,by rw[hb];simp[gdB,e],by rw[if_neg (by simp)];exact⟨.inl rfl,rfl,rfl,rfl⟩⟩,h2 e⟩
theorem qcv:∀(os:List COp) (E:Env) (H:Heap) (Q:List FP->Env->Heap->Prop),regA P Γ n0 os E H Q->∃its E' H',RunS P Γ n0 os its E H E' H'/\Q (its.map λit=>(it.rd,keys it.e)) E' H':=by
 intro os
 induction os with
 |nil=>intro E H Q h;exact⟨[],E,H,⟨rfl,rfl⟩,h⟩
 |cons o os ih=>
  intro E H Q h;obtain⟨it,h1,h2,h3⟩:=qiz h;obtain⟨its,E',H',g1,g2⟩:=ih _ _ _ h3;exact⟨it::its,E',H',⟨h1,h2,g1⟩,g2⟩
theorem zmv{x y:List Nat}(h:zxd x y=true):∀i∈x,i∉y:=by
 intro i hi;simp only[zxd,qU]at h;have:=h i hi;simpa using this
theorem qwt{cs:List COp}{l:List (Nat×Nat)}{Q:Post}(hm:P.follows .mixedOrders=true)(h:regA P Γ n0 cs E H (λfps E' H'=>dynB l fps=true/\Q .normal E' H')):W P Γ n0 nt (.reg cs (some l)) E H Q:=by
 obtain⟨its,E',H',hr,hd,hQ⟩:=qcv _ _ _ _ h;refine jej hm hr ?_ hQ;intro l' e p hp x y hx hy;simp at e;subst e;simp only[dynB,qU]at hd;have:=hd p hp;simp only[qY,hx,hy,Option.map_some,qQ]at this;exact⟨λi hi=>⟨zmv this.1.1 i hi,zmv this.1.2 i hi⟩,λi hi=>zmv this.2 i hi⟩
theorem qwu{cs:List COp}{Q:Post}(hm:P.follows .mixedOrders=true)(h:regA P Γ n0 cs E H (λ_ E' H'=>Q .normal E' H')):W P Γ n0 nt (.reg cs none) E H Q:=by
 obtain⟨its,E',H',hr,hQ⟩:=qcv _ _ _ _ h;exact jej hm hr (by intro l e;simp at e) hQ
theorem qra{d:Option Nat}{g:Nat}{want:Bool}{k:CK}{os:List COp}{Q:List FP->Env->Heap->Prop}{b:Bool}(hb:E g= .bool b)
  (h1:b=want->regA P Γ n0 (⟨d,none,k⟩::os) E H Q) (h2:b≠want->regA P Γ n0 os (updO E d .junk) H (λl=>Q (([],[])::l))):
  regA P Γ n0 (⟨d,some (g,want),k⟩::os) E H Q:=by
 simp only[regA,zuj]at h1 ⊢;refine⟨b,hb,h1,λh=>?_⟩;have:=h2 h;simpa[zac,keys]using this
theorem jek{Q:List FP->Env->Heap->Prop}:regA P Γ n0 [] E H Q=Q [] E H:=rfl
end
def zbf{α:Type}(x:Option α)(F:α->Prop):Prop:=match x with
 |some a=>F a
 |none=>False
theorem zar{α:Type}(a:α)(F:α->Prop):zbf (some a) F=F a:=rfl
theorem zch{α:Type}(F:α->Prop):zbf none F=False:=rfl
theorem zbz{α:Type}(c:Prop)[Decidable c](x:Option α)(F:α->Prop):zbf (need c x) F=(c/\zbf x F):=by
 unfold need;split
 ·rename_i h;simp[h]
 ·rename_i h;simp[h,zbf]
theorem zct{α β:Type}(x:Option α)(f:α->Option β)(F:β->Prop):zbf (x.bind f) F=zbf x λa=>zbf (f a) F:=by cases x<;>rfl
def zxe:AV->Option Bool
 |.bool b=>some b
 |_=>none
def zxf:AV->Option (Option Bool)
 |.bool t=>some (some t)
 |.anyb=>some none
 |_=>none
def both(t:Option Bool)(a b:Prop):Prop:=match t with
 |some t=>(t=true->a)/\(t=false->b)
 |none=>a/\b
def CK.isCall:CK->Bool
 |.call .. => true
 |.callc .. => true
 |_=>false
def ziv(P:Program)(Γ:Glob)(f:FuncId)(args:List AV)(H:Heap)(K:AV->Eff->List Nat->Nat->Prop):Prop:=
 ∃v e rd c,CallR P Γ f args H.length (H++List.replicate c none) v e rd c/\K v e rd c
def zaf(P:Program)(Γ:Glob)(n0:Nat)(d:Option Nat)(os:List COp)(E:Env)(H:Heap)(Q:List FP->Env->Heap->Prop)(v:AV)(e:Eff)(rd:List Nat)(c:Nat):Prop:=
 regA P Γ n0 os (updO E d v) (zac e (H++List.replicate c none)) λl=>Q ((rd,keys e)::l)
section
variable{P:Program}{Γ:Glob}{n0 nt:Nat}{E:Env}{H:Heap}
theorem zca{d:Option Nat}{k:CK}{os:List COp}{Q:List FP->Env->Heap->Prop}(hk:k.isCall=false):
  regA P Γ n0 (⟨d,none,k⟩::os) E H Q=zbf (evK n0 H.length k (val E) H) λr=>regA P Γ n0 os (updO E d r.1) (zac r.2.1 (H++List.replicate (cntK k) none)) λl=>Q ((r.2.2,keys r.2.1)::l):=by
 apply propext;simp only[regA,zuj]
 have hb:∀K,qfx P Γ n0 k E H K= ∃v e rd,evK n0 H.length k (val E) H=some (v,e,rd)/\K ⟨v,e,rd,H.length,cntK k⟩:=by
  intro K;cases k<;>first | rfl | (simp[CK.isCall]at hk;done)
 rw[hb];cases hev:evK n0 H.length k (val E) H with
 |none=>simp[zbf]
 |some r=>
  obtain⟨v,e,rd⟩:=r;simp only[zar,Option.some.injEq,Prod.mk.injEq];constructor
  ·rintro⟨v',e',rd',⟨rfl,rfl,rfl⟩,h⟩;exact h
  ·intro h;exact⟨v,e,rd,⟨rfl,rfl,rfl⟩,h⟩
theorem qrb{d:Option Nat}{f:FuncId}{args:List Opd}{os:List COp}{Q:List FP->Env->Heap->Prop}:
  regA P Γ n0 (⟨d,none,.call f args⟩::os) E H Q=ziv P Γ f (args.map (val E)) H (zaf P Γ n0 d os E H Q):=rfl
theorem qrc{d:Option Nat}{x:Opd}{args:List Opd}{os:List COp}{Q:List FP->Env->Heap->Prop}:
  regA P Γ n0 (⟨d,none,.callc x args⟩::os) E H Q= ∃f caps,val E x= .clo f caps/\okC (okFn P) f=true/\ziv P Γ (cloF f) (cloA f (args.map (val E)) caps) H (zaf P Γ n0 d os E H Q):=rfl
theorem zjt{g:Nat}{v:AV}(h:E g=v):upd E g v=E:=by
 funext t;unfold upd;split
 ·rename_i e;subst e;exact h.symm
 ·rfl
theorem zpi{d:Option Nat}{g:Nat}{want:Bool}{k:CK}{os:List COp}{Q:List FP->Env->Heap->Prop}:
  regA P Γ n0 (⟨d,some (g,want),k⟩::os) E H Q=zbf (zxe (E g)) λb=>
   (b=want->regA P Γ n0 (⟨d,none,k⟩::os) (upd E g (.bool want)) H Q)/\(b=!want->regA P Γ n0 os (updO (upd E g (.bool !want)) d .junk) H (λl=>Q (([],[])::l))):=by
 apply propext;cases hg:E g with
 |bool b=>
  simp only[zxe,zar];constructor
  ·intro h;simp only[regA,zuj]at h;obtain⟨b',hb',h1,h2⟩:=h;rw[hg]at hb';simp at hb';subst hb';refine⟨λe=>?_,λe=>?_⟩
   ·rw[zjt (by rw[hg,e])];simp only[regA,zuj];exact h1 e
   ·rw[zjt (by rw[hg,e])];have:=h2 (by intro e2;rw[e2]at e;cases want<;>simp at e);simpa[zac,keys]using this
  ·rintro⟨h1,h2⟩;refine qra hg (λe=>?_) (λe=>?_)
   ·have:=h1 e;rwa[zjt (by rw[hg,e])]at this
   ·have e2:b=!want:=by cases b<;>cases want<;>simp_all
    have:=h2 e2;rwa[zjt (by rw[hg,e2])]at this
 |_=>
  simp only[zxe,zbf];constructor
  ·intro h;simp only[regA,zuj]at h;obtain⟨b',hb',_⟩:=h;rw[hg]at hb';simp at hb'
  ·intro h;exact h.elim
theorem zaa{f:FuncId}{args:List AV}{v:AV}{K:AV->Eff->List Nat->Nat->Prop}(h:Ret P Γ f args [] v [])(hk:K v [] [] 0)(ha:AV.closed.closedL args=true:=by rfl)(hv:v.closed=true:=by rfl):
  ziv P Γ f args H K:=⟨v,[],[],0,CallR.pure h ha hv,hk⟩
theorem qfy{d:Option Nat}{os:List COp}{Q:List FP->Env->Heap->Prop}{v:AV}:
  zaf P Γ n0 d os E H Q v [] [] 0=regA P Γ n0 os (updO E d v) H (λl=>Q (([],[])::l)):=by
 simp[zaf,zac,keys]
def wpC(P:Program)(Γ:Glob)(n0 nt:Nat):CC->Env->Heap->Post->Prop
 |.skip,E,H,Q=>Q .normal E H
 |.ret,E,H,Q=>Q .ret E H
 |.exit id,E,H,Q=>Q (.exit id) E H
 |.label _,E,H,Q=>Q .normal E H
 |.goto l,E,H,Q=>Q (.goto l) E H
 |.seq a b,E,H,Q=>wpC P Γ n0 nt a E H (zep (λE' H'=>wpC P Γ n0 nt b E' H' Q) Q)
 |.cond x a b,E,H,Q=>zbf (zxf (val E x)) λt=>both t (wpC P Γ n0 nt a E H Q) (wpC P Γ n0 nt b E H Q)
 |.block id c,E,H,Q=>wpC P Γ n0 nt c E H (znv id Q)
 |.reg cs none,E,H,Q=>regA P Γ n0 cs E H (λ_ E' H'=>Q .normal E' H')
 |.reg cs (some l),E,H,Q=>regA P Γ n0 cs E H (λfps E' H'=>dynB l fps=true/\Q .normal E' H')
 |.loop c,E,H,Q=>W P Γ n0 nt (.loop c) E H Q
 |.scope c,E,H,Q=>W P Γ n0 nt (.scope c) E H Q
 |.range x k ps a b,E,H,Q=>W P Γ n0 nt (.range x k ps a b) E H Q
theorem qcw:∀(c:CC) (E:Env) (H:Heap) (Q R:Post),P.follows .mixedOrders=true->wpC P Γ n0 nt c E H Q->(∀x E' H',Q x E' H'->R x E' H')->W P Γ n0 nt c E H R:=by
 intro c
 induction c with
 |skip=>intro E H Q R _ h hq;exact qiw (hq _ _ _ h)
 |ret=>intro E H Q R _ h hq;exact jei (hq _ _ _ h)
 |exit id=>intro E H Q R _ h hq;exact qwr (hq _ _ _ h)
 |label l=>intro E H Q R _ h hq;exact qix (hq _ _ _ h)
 |goto l=>intro E H Q R _ h hq;exact qws (hq _ _ _ h)
 |seq a b iha ihb=>
  intro E H Q R hm h hq;refine zki (iha E H _ _ hm h ?_);intro x E' H' hx;cases x with
  |normal=>exact ihb E' H' Q R hm hx hq
  |_=>exact hq _ _ _ hx
 |cond x a b iha ihb=>
  intro E H Q R hm h hq;simp only[wpC]at h;cases hv:val E x with
  |bool t=>
   rw[hv]at h;simp only[zxf,zar,both]at h;exact qiy hv (λe=>iha E H Q R hm (h.1 e) hq) (λe=>ihb E H Q R hm (h.2 e) hq)
  |anyb=>
   rw[hv]at h;simp only[zxf,zar,both]at h;exact qfw hv (iha E H Q R hm h.1 hq) (ihb E H Q R hm h.2 hq)
  |_=>rw[hv]at h;exact h.elim
 |block id c ih=>
  intro E H Q R hm h hq;refine zmu (ih E H _ _ hm h ?_);intro x E' H' hx;cases x with
  |exit i=>
   simp only[znv]at hx ⊢;split at hx
   ·rename_i e;rw[if_pos e];exact hq _ _ _ hx
   ·rename_i e;rw[if_neg e];exact hq _ _ _ hx
  |_=>exact hq _ _ _ hx
 |reg cs l=>
  intro E H Q R hm h hq;cases l with
  |none=>
   have h':W P Γ n0 nt (.reg cs none) E H Q:=qwu hm h;exact h'.mono hq
  |some l=>
   have h':W P Γ n0 nt (.reg cs (some l)) E H Q:=qwt hm h;exact h'.mono hq
 |loop c ih=>intro E H Q R _ h hq;exact W.mono h hq
 |scope c ih=>intro E H Q R _ h hq;exact W.mono h hq
 |range x k ps a b=>intro E H Q R _ h hq;exact W.mono h hq
theorem zpj{c:CC}{Q:Post}(hm:P.follows .mixedOrders=true)(h:wpC P Γ n0 nt c E H Q):W P Γ n0 nt c E H Q:=qcw c E H Q Q hm h (λ_ _ _ h=>h)
theorem zrr{k:Env->Heap->Prop}{Q:Post}:zep k Q .normal E H=k E H:=rfl
theorem zzu{k:Env->Heap->Prop}{Q:Post}:zep k Q .ret E H=Q .ret E H:=rfl
theorem zxg{k:Env->Heap->Prop}{Q:Post}{i:Nat}:zep k Q (.exit i) E H=Q (.exit i) E H:=rfl
theorem zxh{k:Env->Heap->Prop}{Q:Post}{i:Nat}:zep k Q (.goto i) E H=Q (.goto i) E H:=rfl
theorem zxi{id:Nat}{Q:Post}:znv id Q .normal E H=Q .normal E H:=rfl
theorem qja{id:Nat}{Q:Post}:znv id Q .ret E H=Q .ret E H:=rfl
theorem qfz{id i:Nat}{Q:Post}:znv id Q (.exit i) E H=if i=id then Q .normal E H else Q (.exit i) E H:=rfl
theorem zpk{d:Nat}{v:AV}{t:Nat}:upd E d v t=if t=d then v else E t:=rfl
theorem jel{f:FuncId}{fn:Func}{c:CC}{args:List AV}{H:Heap}{v:AV}{Hout:Heap}(hm:P.follows .mixedOrders=true)(hf:P.funcs[f]?=some fn)(hc:fn.body.bind (zdo P Γ fn.ntmps)=some c)(rs:List ResultVar)(nt:Nat)
  (hrs:fn.results.toList=rs) (hnt:fn.ntmps=nt) (hn:args.length<=nt) (hlen:H.length<=Hout.length)
  (h:wpC P Γ H.length nt c (zkj args) H (λx E' H'=>(x= .ret\/x= .normal)/\∃v',resA P rs E' H'=some v'/\Fin H.length v' H' v Hout)) (hne:f≠4095:=by decide):Ret P Γ f args H v Hout:=by
 subst hrs hnt;cases hb:fn.body with
 |none=>rw[hb]at hc;simp at hc
 |some code=>
  rw[hb]at hc;exact zph hf hb hc hn hlen hne (zpj hm h)
end
section
variable{P:Program}{Γ:Glob}{n0 nt:Nat}{E:Env}{H:Heap}{d:Option Nat}{os:List COp}{Q:List FP->Env->Heap->Prop}
abbrev goon(P:Program)(Γ:Glob)(n0:Nat)(d:Option Nat)(os:List COp)(E:Env)(H:Heap)(Q:List FP->Env->Heap->Prop)(v:AV):Prop:=
 regA P Γ n0 os (updO E d v) H λl=>Q (([],[])::l)
theorem jem{x:Opd}:regA P Γ n0 (⟨d,none,.mov x⟩::os) E H Q=goon P Γ n0 d os E H Q (val E x):=by
 rw[zca rfl];simp[evK,zar,zac,keys,cntK]
def qjb(c a b:AV):Option AV:=match c with
 |.bool t=>some (if t then a else b)
 |_=>none
theorem qzc{c a b:Opd}:regA P Γ n0 (⟨d,none,.pick c a b⟩::os) E H Q=zbf (qjb (val E c) (val E a) (val E b)) (goon P Γ n0 d os E H Q):=by
 rw[zca rfl];simp only[evK,qjb];cases val E c<;>simp[zbf,zac,keys,cntK]
theorem jen{x:Opd}:regA P Γ n0 (⟨d,none,.box x⟩::os) E H Q=
  ((val E x).firm=true/\regA P Γ n0 os (updO E d (.ptr H.length 0)) (H++[some (val E x).cells]) λl=>Q (([],[H.length])::l)):=by
 rw[zca rfl];simp[evK,zbz,zar,zac,keys,cntK]
theorem qrd{z:List AV}{ps:List (Nat×Nat×Opd)}:regA P Γ n0 (⟨d,none,.build z ps⟩::os) E H Q=zbf (zfn (val E) z ps) λcs=>goon P Γ n0 d os E H Q (.agg cs):=by
 rw[zca rfl];simp only[evK];cases zfn (val E) z ps<;>simp[zbf,zac,keys,cntK]
theorem jeo{n sz:Nat}{z:List AV}{ps:List (Nat×Nat×Opd)}:regA P Γ n0 (⟨d,none,.bsl n sz z ps⟩::os) E H Q=
  zbf (zfn (val E) z ps) λcs=>n*sz=z.length/\regA P Γ n0 os (updO E d (.sl H.length 0 n sz (some n))) (H++[some cs]) λl=>Q (([],[H.length])::l):=by
 rw[zca rfl];simp only[evK];cases zfn (val E) z ps<;>simp[zbz,zct,zar,zch,zac,keys,cntK,goon]
def ldA(ag:Bool)(sz:Nat)(x:AV)(H:Heap):Option (AV×List Nat):=match x with
 |.ptr id off=>(getB H id).bind λcs=>need (off+sz<=cs.length) (some (ldv ag sz off cs,[id]))
 |.iptr cs p=>need (p+sz<=cs.length) (some (ldv ag sz p cs,[]))
 |_=>none
theorem qzd{ag:Bool}{sz:Nat}{x:Opd}:regA P Γ n0 (⟨d,none,.load ag sz x⟩::os) E H Q=
  ((ag=false->sz=1)/\zbf (ldA ag sz (val E x) H) λr=>regA P Γ n0 os (updO E d r.1) H λl=>Q ((r.2,[])::l)):=by
 rw[zca rfl];simp only[evK,ldA];cases val E x<;>try (simp[zbz,zct,zar,zch,zac,keys,cntK,goon];done)
 case ptr id off=>
  cases hg:getB H id with
  |none=>simp[hg,zch]
  |some cs=>
   simp[hg,zbz,zar,zac,keys,cntK];exact⟨λh=>⟨h.1.2,h.1.1,h.2⟩,λh=>⟨⟨h.2.1,h.1⟩,h.2.2⟩⟩
 case iptr cs p=>
  simp[zbz,zct,zar,zch,zac,keys,cntK,goon];exact⟨λh=>⟨h.1.2,h.1.1,h.2⟩,λh=>⟨⟨h.2.1,h.1⟩,h.2.2⟩⟩
def stA(sz:Nat)(x v:AV)(H:Heap):Option (Nat×List AV):=match x with
 |.ptr id off=>(getB H id).bind λcs=>need (v.firm=true/\v.cells.length=sz/\AV.scalL v.cells=true/\off+sz<=cs.length) (some (id,setL cs off v.cells))
 |_=>none
theorem qre{sz:Nat}{x v:Opd}:regA P Γ n0 (⟨none,none,.store sz x v⟩::os) E H Q=
  zbf (stA sz (val E x) (val E v) H) λr=>regA P Γ n0 os E (H.set r.1 (some r.2)) λl=>Q (([r.1],[r.1])::l):=by
 rw[zca rfl];simp only[evK,stA];cases val E x<;>try (simp[zbz,zct,zar,zch,zac,keys,cntK,goon];done)
 case ptr id off=>
  cases hg:getB H id with
  |none=>simp[hg,zch]
  |some cs=>simp[hg,zbz,zar,zac,keys,cntK,updO]
def nilA:AV->Option AV
 |.ptr id off=>some (.ptr id off)
 |.iptr cs p=>some (.iptr cs p)
 |_=>none
theorem qrf{x:Opd}:regA P Γ n0 (⟨d,none,.nilck x⟩::os) E H Q=zbf (nilA (val E x)) (goon P Γ n0 d os E H Q):=by
 rw[zca rfl];simp only[evK,nilA];cases val E x<;>simp[zbf,zac,keys,cntK]
theorem jep{op:BinOp}{x y:Opd}:regA P Γ n0 (⟨d,none,.bin op x y⟩::os) E H Q=zbf (binA op (val E x) (val E y)) (goon P Γ n0 d os E H Q):=by
 rw[zca rfl];simp only[evK];cases binA op (val E x) (val E y)<;>simp[zbf,zac,keys,cntK]
def beqA(neg:Bool):AV->AV->Option AV
 |.bool a,.bool b=>some (.bool (if neg then !(a == b)else(a == b)))
 |_,_=>none
theorem jeq{neg:Bool}{x y:Opd}:regA P Γ n0 (⟨d,none,.beq neg x y⟩::os) E H Q=zbf (beqA neg (val E x) (val E y)) (goon P Γ n0 d os E H Q):=by
 rw[zca rfl];simp only[evK,beqA];cases val E x<;>cases val E y<;>simp[zbf,zac,keys,cntK]
def zzv(neg:Bool):AV->Option AV
 |.vec _ n _=>if n=0 then some .anyb else some (.bool neg)
 |.sl .. => some (.bool neg)
 |_=>none
theorem qze{neg:Bool}{x:Opd}:regA P Γ n0 (⟨d,none,.snil neg x⟩::os) E H Q=zbf (zzv neg (val E x)) (goon P Γ n0 d os E H Q):=by
 rw[zca rfl];simp only[evK,zzv];cases val E x<;>try (simp[zbz,zct,zar,zch,zac,keys,cntK,goon];done)
 rename_i cs n c;by_cases h:n=0<;>simp[h,zar,zac,keys,cntK,goon]
theorem jif{op:UnOp}{x:Opd}:regA P Γ n0 (⟨d,none,.un op x⟩::os) E H Q=zbf (unA op (val E x)) (goon P Γ n0 d os E H Q):=by
 rw[zca rfl];simp only[evK];cases unA op (val E x)<;>simp[zbf,zac,keys,cntK]
def qjc(k:IntKind):AV->Option AV
 |.int _ n=>some (.int k (k.wrap n))
 |_=>none
theorem qzf{k:IntKind}{x:Opd}:regA P Γ n0 (⟨d,none,.conv k x⟩::os) E H Q=zbf (qjc k (val E x)) (goon P Γ n0 d os E H Q):=by
 rw[zca rfl];simp only[evK,qjc];cases val E x<;>simp[zbf,zac,keys,cntK]
def qjd(bytes:Nat):AV->AV->Option (Int×Int)
 |.int _ n,.int _ c=>need (0<=n/\n<=c/\c*bytes<=2^48/\c<2^63) (some (n,c))
 |_,_=>none
theorem qzg{sz bytes:Nat}{z:List AV}{x y:Opd}:regA P Γ n0 (⟨d,none,.mksl sz bytes z x y⟩::os) E H Q=
  ((z.length=sz/\0<sz)/\zbf (qjd bytes (val E x) (val E y)) λr=>regA P Γ n0 os (updO E d (.sl H.length 0 r.1.toNat sz (some r.2.toNat))) (H++[some (zeo r.2.toNat z)]) λl=>Q (([],[H.length])::l)):=by
 rw[zca rfl];simp only[evK,qjd];cases val E x<;>try (simp[zbz,zct,zar,zch,zac,keys,cntK,goon];done)
 case int k n=>
  cases val E y<;>try (simp[zbz,zct,zar,zch,zac,keys,cntK,goon];done)
  case int k' c=>
   simp[zbz,zct,zar,zch,zac,keys,cntK,goon];constructor
   ·rintro⟨⟨h1,h2,h3,h4,h5,h6⟩,h7⟩;exact⟨⟨h5,h6⟩,⟨h1,h2,h3,h4⟩,h7⟩
   ·rintro⟨⟨h5,h6⟩,⟨h1,h2,h3,h4⟩,h7⟩;exact⟨⟨h1,h2,h3,h4,h5,h6⟩,h7⟩
theorem qrg{sz:Nat}{x:Opd}{lo hi mx:Option Opd}:regA P Γ n0 (⟨d,none,.slice sz x lo hi mx⟩::os) E H Q=zbf (zej (val E) sz (val E x) lo hi mx) (goon P Γ n0 d os E H Q):=by
 rw[zca rfl];simp only[evK];cases zej (val E) sz (val E x) lo hi mx<;>simp[zbf,zac,keys,cntK]
def fldA(off:Nat):AV->Option AV
 |.ptr id o=>some (.ptr id (o+off))
 |.iptr cs p=>some (.iptr cs (p+off))
 |_=>none
theorem jer{off:Nat}{x:Opd}:regA P Γ n0 (⟨d,none,.fld off x⟩::os) E H Q=zbf (fldA off (val E x)) (goon P Γ n0 d os E H Q):=by
 rw[zca rfl];simp only[evK,fldA];cases val E x<;>simp[zbf,zac,keys,cntK]
def qje(ag:Bool)(sz off:Nat):AV->Option AV
 |.agg cs=>need (off+sz<=cs.length/\(ag=false->sz=1)) (some (ldv ag sz off cs))
 |_=>none
theorem qzh{ag:Bool}{sz off:Nat}{x:Opd}:regA P Γ n0 (⟨d,none,.part ag sz off x⟩::os) E H Q=zbf (qje ag sz off (val E x)) (goon P Γ n0 d os E H Q):=by
 rw[zca rfl];simp only[evK,qje];cases val E x<;>simp[zbz,zct,zar,zch,zac,keys,cntK,goon]
def idxA(sz:Nat):AV->AV->Option AV
 |.sl id off n s _,.int _ j=>need (s=sz/\0<=j/\j<n) (some (.ptr id (off+j.toNat*sz)))
 |.vec cs n _,.int _ j=>need (0<=j/\j<n) (some (.iptr cs (j.toNat*sz)))
 |_,_=>none
theorem jes{sz:Nat}{x i:Opd}:regA P Γ n0 (⟨d,none,.idx sz x i⟩::os) E H Q=zbf (idxA sz (val E x) (val E i)) (goon P Γ n0 d os E H Q):=by
 rw[zca rfl];simp only[evK,idxA];cases val E x<;>cases val E i<;>simp[zbz,zct,zar,zch,zac,keys,cntK,goon]
def zzw(n sz:Nat):AV->AV->Option AV
 |.ptr id off,.int _ j=>need (0<=j/\j<n) (some (.ptr id (off+j.toNat*sz)))
 |.iptr cs p,.int _ j=>need (0<=j/\j<n) (some (.iptr cs (p+j.toNat*sz)))
 |_,_=>none
theorem qzi{n sz:Nat}{x i:Opd}:regA P Γ n0 (⟨d,none,.idxa n sz x i⟩::os) E H Q=zbf (zzw n sz (val E x) (val E i)) (goon P Γ n0 d os E H Q):=by
 rw[zca rfl];simp only[evK,zzw];cases val E x<;>cases val E i<;>simp[zbz,zct,zar,zch,zac,keys,cntK,goon]
def qjf(n:Nat)(ag:Bool)(sz:Nat):AV->AV->Option AV
 |.agg cs,.int _ j=>need (0<=j/\j<n/\j.toNat*sz+sz<=cs.length/\(ag=false->sz=1)) (some (ldv ag sz (j.toNat*sz) cs))
 |_,_=>none
theorem qzj{n sz:Nat}{ag:Bool}{x i:Opd}:regA P Γ n0 (⟨d,none,.idxv n ag sz x i⟩::os) E H Q=zbf (qjf n ag sz (val E x) (val E i)) (goon P Γ n0 d os E H Q):=by
 rw[zca rfl];simp only[evK,qjf];cases val E x<;>cases val E i<;>simp[zbz,zct,zar,zch,zac,keys,cntK,goon]
def zzx:AV->AV->Option AV
 |.str s,.int _ j=>need (0<=j/\j<s.size) (some (.int .u8 (s.data.getD j.toNat 0).toNat))
 |_,_=>none
theorem qzk{x i:Opd}:regA P Γ n0 (⟨d,none,.idxs x i⟩::os) E H Q=zbf (zzx (val E x) (val E i)) (goon P Γ n0 d os E H Q):=by
 rw[zca rfl];simp only[evK,zzx];cases val E x<;>cases val E i<;>simp[zbz,zct,zar,zch,zac,keys,cntK,goon]
def extA(i:Nat):AV->Option AV
 |.tup vs=>vs[i]?
 |_=>none
theorem jet{x:Opd}{i:Nat}:regA P Γ n0 (⟨d,none,.ext x i⟩::os) E H Q=zbf (extA i (val E x)) (goon P Γ n0 d os E H Q):=by
 rw[zca rfl];simp only[evK,extA];cases val E x<;>simp[zbf];rename_i vs;cases vs[i]?<;>simp[zac,keys,cntK]
def zzy:AV->Option AV
 |.vec _ n _=>some (.int .i64 n)
 |.sl _ _ n _ _=>some (.int .i64 n)
 |_=>none
theorem jeu{x:Opd}:regA P Γ n0 (⟨d,none,.len false x⟩::os) E H Q=zbf (zzy (val E x)) (goon P Γ n0 d os E H Q):=by
 rw[zca rfl];simp only[evK,zzy];cases val E x<;>simp[zbf,zac,keys,cntK]
def zxj:AV->Option AV
 |.str s=>some (.int .i64 s.size)
 |_=>none
theorem qzl{x:Opd}:regA P Γ n0 (⟨d,none,.len true x⟩::os) E H Q=zbf (zxj (val E x)) (goon P Γ n0 d os E H Q):=by
 rw[zca rfl];simp only[evK,zxj];cases val E x<;>simp[zbf,zac,keys,cntK]
def maxA:AV->AV->Option AV
 |.int k a,.int _ b=>some (.int k (if b>a then b else a))
 |_,_=>none
theorem jev{x y:Opd}:regA P Γ n0 (⟨d,none,.max x y⟩::os) E H Q=zbf (maxA (val E x) (val E y)) (goon P Γ n0 d os E H Q):=by
 rw[zca rfl];simp only[evK,maxA];cases val E x<;>cases val E y<;>simp[zbf,zac,keys,cntK]
theorem qzn{f:FuncId}{caps:List Opd}:regA P Γ n0 (⟨d,none,.mkfn f caps⟩::os) E H Q=goon P Γ n0 d os E H Q (.clo f (caps.map (val E))):=by
 rw[zca rfl];simp[evK,zar,zac,keys,cntK]
theorem qjg{sz bytes:Nat}{s x:Opd}:regA P Γ n0 (⟨d,none,.append sz bytes s x⟩::os) E H Q=
  zbf (zby n0 H.length H sz bytes (val E s) (val E x)) λr=>regA P Γ n0 os (updO E d r.1) (zac r.2.1 (H++[none])) λl=>Q ((r.2.2,keys r.2.1)::l):=by
 rw[zca rfl];simp[evK,cntK]
theorem qrh{k:CK}(hk:k.isCall=false)(hc:cntK k=0):regA P Γ n0 (⟨d,none,k⟩::os) E H Q=
  zbf (evK n0 H.length k (val E) H) λr=>regA P Γ n0 os (updO E d r.1) (zac r.2.1 H) λl=>Q ((r.2.2,keys r.2.1)::l):=by
 rw[zca hk];simp[hc]
theorem zpl{cs:List AV}:getB (some cs::H) 0=some cs:=rfl
theorem qjh{c:Option (List AV)}{n:Nat}:getB (c::H) (n+1)=getB H n:=rfl
theorem zxk{args:List AV}{t:Nat}:zkj args t=args.getD t .junk:=rfl
end
section
variable{H:Heap}{id off n sz p:Nat}{c:Option Nat}{cs:List AV}{k k':IntKind}{a b:Int}{x y:AV}
theorem qga{b:Bool}:zxe (.bool b)=some b:=rfl
theorem qgb{b:Bool}:zxf (.bool b)=some (some b):=rfl
theorem qji:zxf .anyb=some none:=rfl
theorem qjj{t:Bool}{A B:Prop}:both (some t) A B=((t=true->A)/\(t=false->B)):=rfl
theorem qjk{A B:Prop}:both none A B=(A/\B):=rfl
theorem qgc{t:Bool}:qjb (.bool t) x y=some (if t=true then x else y):=rfl
theorem qzo{ag:Bool}:ldA ag sz (.ptr id off) H=(getB H id).bind λcs=>need (off+sz<=cs.length) (some (ldv ag sz off cs,[id])):=rfl
theorem qri{ag:Bool}:ldA ag sz (.iptr cs p) H=need (p+sz<=cs.length) (some (ldv ag sz p cs,[])):=rfl
theorem jig:ldv false sz off cs=cs.getD off .junk:=rfl
theorem jih:ldv true sz off cs= .agg ((cs.drop off).take sz):=rfl
theorem qzp{v:AV}:stA sz (.ptr id off) v H=(getB H id).bind λcs=>need (v.firm=true/\v.cells.length=sz/\AV.scalL v.cells=true/\off+sz<=cs.length) (some (id,setL cs off v.cells)):=rfl
theorem qrj:nilA (.ptr id off)=some (.ptr id off):=rfl
theorem qjl:nilA (.iptr cs p)=some (.iptr cs p):=rfl
theorem qrk:binA .add (.int k a) (.int k b)=some (.int k (k.wrap (a+b))):=by simp[binA,need]
theorem qrl:binA .sub (.int k a) (.int k b)=some (.int k (k.wrap (a-b))):=by simp[binA,need]
theorem qrm:binA .mul (.int k a) (.int k b)=some (.int k (k.wrap (a*b))):=by simp[binA,need]
theorem qrn:binA .quo (.int k a) (.int k b)=need (b≠0) (some (.int k (k.wrap (a.tdiv b)))):=by simp[binA,need]
theorem qro:binA .rem (.int k a) (.int k b)=need (b≠0) (some (.int k (a.tmod b))):=by simp[binA,need]
theorem qrp:binA .shl (.int k a) (.int k' b)=need (0<=b) (some (.int k (k.wrap (a*2^(min b.toNat k.bits))))):=rfl
theorem qrq:binA .shr (.int k a) (.int k' b)=need (0<=b) (some (.int k (a.fdiv (2^(min b.toNat k.bits))))):=rfl
theorem qrr:binA .and (.int k a) (.int k b)=some (.int k (k.wrap (BitVec.ofInt k.bits a &&& BitVec.ofInt k.bits b).toNat)):=by simp[binA,need]
theorem qzq:binA .or (.int k a) (.int k b)=some (.int k (k.wrap (BitVec.ofInt k.bits a ||| BitVec.ofInt k.bits b).toNat)):=by simp[binA,need]
theorem zzz:binA .andNot (.int k a) (.int k b)=some (.int k (k.wrap (BitVec.ofInt k.bits a &&& ~~~ BitVec.ofInt k.bits b).toNat)):=by simp[binA,need]
theorem qrs:binA .eql (.int k a) (.int k b)=some (.bool (decide (a=b))):=by
 simp only[binA,need,if_true];congr 2
theorem qrt:binA .neq (.int k a) (.int k b)=some (.bool (decide (a≠b))):=by
 simp only[binA,need,if_true];congr 2;by_cases h:a=b<;>simp[h]
theorem qru:binA .lss (.int k a) (.int k b)=some (.bool (decide (a<b))):=by simp[binA,need]
theorem qrv:binA .leq (.int k a) (.int k b)=some (.bool (decide (a<=b))):=by simp[binA,need]
theorem qrw:binA .gtr (.int k a) (.int k b)=some (.bool (decide (b<a))):=by simp[binA,need]
theorem qrx:binA .geq (.int k a) (.int k b)=some (.bool (decide (b<=a))):=by simp[binA,need]
theorem qjm{s t:ByteArray}:binA .eql (.str s) (.str t)=some (.bool (s.toList == t.toList)):=rfl
theorem qjn{s t:ByteArray}:binA .add (.str s) (.str t)=need ((s.size+t.size:Nat)<=IntKind.i64.max) (some (.str (s++t))):=rfl
theorem qjo{neg s t:Bool}:beqA neg (.bool s) (.bool t)=some (.bool (if neg=true then !(s == t)else(s == t))):=rfl
theorem qjp{neg:Bool}:zzv neg (.vec cs n c)=if n=0 then some .anyb else some (.bool neg):=rfl
theorem qry{neg:Bool}:zzv neg (.sl id off n sz c)=some (.bool neg):=rfl
theorem qzr:unA .neg (.int k a)=some (.int k (k.wrap (0-a))):=rfl
theorem qzs{t:Bool}:unA .not (.bool t)=some (.bool !t):=rfl
theorem qjq:qjc k (.int k' a)=some (.int k (k.wrap a)):=rfl
theorem qjr{bytes:Nat}:qjd bytes (.int k a) (.int k' b)=need (0<=a/\a<=b/\b*bytes<=2^48/\b<2^63) (some (a,b)):=rfl
theorem qjs:zgx (.int k a)=need (0<=a) (some a.toNat):=rfl
theorem zpm{V:Opd->AV}{d:Nat}:zbw V d none=some d:=rfl
theorem qaa{V:Opd->AV}{d:Nat}{z:Opd}:zbw V d (some z)=zgx (V z):=rfl
theorem zsh{V:Opd->AV}{lo hi:Option Opd}:zej V sz (.vec cs n c) lo hi none=
  (zbw V n hi).bind λh=>(zbw V 0 lo).bind λl=>need (l<=h/\h<=n/\n*sz<=cs.length) (some (.vec ((cs.drop (l*sz)).take ((h-l)*sz)) (h-l) (zdn l c))):=rfl
theorem qjt{V:Opd->AV}{lo hi:Option Opd}{s:Nat}:zej V sz (.sl id off n s c) lo hi none=
  (zbw V n hi).bind λh=>(zbw V 0 lo).bind λl=>need (s=sz/\l<=h/\h<=n) (some (if l=h then zio id off sz l c else .sl id (off+l*sz) (h-l) sz (zdn l c))):=rfl
theorem qab{V:Opd->AV}{lo hi:Option Opd}{m:Opd}:zej V sz (.vec cs n c) lo hi (some m)=
  (zbw V n hi).bind λh=>(zbw V 0 lo).bind λl=>(zgx (V m)).bind λm=>need (hi.isSome=true/\l<=h/\h<=m/\m<=n/\n*sz<=cs.length) (some (.vec ((cs.drop (l*sz)).take ((h-l)*sz)) (h-l) (some (m-l)))):=rfl
theorem qgd{V:Opd->AV}{lo hi:Option Opd}{m:Opd}{s:Nat}:zej V sz (.sl id off n s c) lo hi (some m)=
  (zbw V n hi).bind λh=>(zbw V 0 lo).bind λl=>(zgx (V m)).bind λm=>need (hi.isSome=true/\s=sz/\l<=h/\h<=m/\m<=n) (some (if l=h then .vec [] 0 (some (m-l))else .sl id (off+l*sz) (h-l) sz (some (m-l)))):=rfl
theorem qge{id off sz l q:Nat}:zio id off sz l (some q)= .vec [] 0 (zdn l (some q)):=by cases l<;>rfl
theorem qac{id off sz l:Nat}{c:Option Nat}:zio id off sz (l+1) c= .vec [] 0 (zdn (l+1) c):=by cases c<;>rfl
theorem qad{id off sz:Nat}:zio id off sz 0 none= .sl id off 0 sz none:=rfl
theorem qae{l:Nat}:zdn l none=none:=rfl
theorem qaf:zdn 0 c=c:=by cases c<;>rfl
theorem qrz{o:Nat}:fldA off (.ptr id o)=some (.ptr id (o+off)):=rfl
theorem qju:fldA off (.iptr cs p)=some (.iptr cs (p+off)):=rfl
theorem qjv{ag:Bool}:qje ag sz off (.agg cs)=need (off+sz<=cs.length/\(ag=false->sz=1)) (some (ldv ag sz off cs)):=rfl
theorem qzt{s:Nat}:idxA sz (.sl id off n s c) (.int k a)=need (s=sz/\0<=a/\a<n) (some (.ptr id (off+a.toNat*sz))):=rfl
theorem qsa:idxA sz (.vec cs n c) (.int k a)=need (0<=a/\a<n) (some (.iptr cs (a.toNat*sz))):=rfl
theorem qjw:zzw n sz (.ptr id off) (.int k a)=need (0<=a/\a<n) (some (.ptr id (off+a.toNat*sz))):=rfl
theorem qgf:zzw n sz (.iptr cs p) (.int k a)=need (0<=a/\a<n) (some (.iptr cs (p+a.toNat*sz))):=rfl
theorem qjx{ag:Bool}:qjf n ag sz (.agg cs) (.int k a)=need (0<=a/\a<n/\a.toNat*sz+sz<=cs.length/\(ag=false->sz=1)) (some (ldv ag sz (a.toNat*sz) cs)):=rfl
theorem qjy{s:ByteArray}:zzx (.str s) (.int k a)=need (0<=a/\a<s.size) (some (.int .u8 (s.data.getD a.toNat 0).toNat)):=rfl
theorem qsb{i:Nat}:extA i (.tup cs)=cs[i]?:=rfl
theorem qjz:zzy (.vec cs n c)=some (.int .i64 n):=rfl
theorem qsc:zzy (.sl id off n sz c)=some (.int .i64 n):=rfl
theorem qgg{s:ByteArray}:zxj (.str s)=some (.int .i64 s.size):=rfl
theorem qsd:maxA (.int k a) (.int k' b)=some (.int k (if b>a then b else a)):=rfl
theorem jii{E:Env}{t:Nat}:val E (.t t)=E t:=rfl
theorem jij{E:Env}:val E (.k x)=x:=rfl
theorem qka{E:Env}{d:Nat}:updO E (some d) x=upd E d x:=rfl
theorem qkb{E:Env}:updO E none x=E:=rfl
theorem qkc:(AV.agg cs).cells=cs:=rfl
theorem qkd:(AV.int k a).cells=[.int k a]:=rfl
theorem qgh{t:Bool}:(AV.bool t).cells=[.bool t]:=rfl
theorem qke:(AV.vec cs n c).cells=[.vec cs n c]:=rfl
theorem qse:(AV.sl id off n sz c).cells=[.sl id off n sz c]:=rfl
theorem qsf:(AV.agg cs).firm=true:=rfl
theorem qsg:(AV.int k a).firm=true:=rfl
theorem qkf{t:Bool}:(AV.bool t).firm=true:=rfl
theorem qsh:(AV.vec cs n c).firm=true:=rfl
theorem qzu:(AV.sl id off n sz c).firm=true:=rfl
theorem qsi{i:Nat}:setL cs i []=cs:=rfl
theorem qkg{i:Nat}{v:AV}{vs:List AV}:setL cs i (v::vs)=setL (cs.set i v) (i+1) vs:=rfl
theorem qkh:AV.scalL []=true:=rfl
theorem qgi{r:List AV}:AV.scalL (x::r)=(x.scal && AV.scalL r):=rfl
theorem qsj:(AV.int k a).scal=true:=rfl
theorem qki{t:Bool}:(AV.bool t).scal=true:=rfl
theorem qsk:(AV.vec cs n c).scal=true:=rfl
theorem qzv:(AV.sl id off n sz c).scal=true:=rfl
theorem qkj{V:Opd->AV}:zfn V cs []=some cs:=rfl
theorem qgj{V:Opd->AV}{s:Nat}{z:Opd}{r:List (Nat×Nat×Opd)}:zfn V cs ((off,s,z)::r)=
  need ((V z).firm=true/\(V z).cells.length=s/\off+s<=cs.length) (zfn V (setL cs off (V z).cells) r):=rfl
theorem qkk{m:Nat}{z:AV}:zeo m [z]=List.replicate m z:=rfl
end
def zeq:CC->Nat->Option CC
 |.seq a b,l=>match zeq a l with
  |some r=>some (.seq r b)
  |none=>zeq b l
 |.label l',l=>if l' == l then some .skip else none
 |_,_=>none
theorem qgk{P:Program}{Γ:Glob}{nt l:Nat}:∀(code:Code) (c:CC),zdo P Γ nt code=some c->
  match zeq c l with
  |some r=>∃code',findLabel code l=some code'/\zdo P Γ nt code'=some r
  |none=>findLabel code l=none:=by
 intro code
 induction code with
 |seq x y ihx ihy=>
  intro c hc;simp only[zdo]at hc;split at hc
  ·rename_i cx cy hx hy;simp at hc;subst hc;have h1:=ihx cx hx;have h2:=ihy cy hy;simp only[zeq];cases hf:zeq cx l with
   |some r=>
    rw[hf]at h1;obtain⟨code',g1,g2⟩:=h1;exact⟨.seq code' y,by simp[findLabel,g1],by simp[zdo,g2,hy]⟩
   |none=>
    rw[hf]at h1;simp only at h1 ⊢;cases hg:zeq cy l with
    |some r=>
     rw[hg]at h2;obtain⟨code',g1,g2⟩:=h2;exact⟨code',by simp[findLabel,h1,g1],g2⟩
    |none=>rw[hg]at h2;simp only at h2 ⊢;simp[findLabel,h1,h2]
  ·simp at hc
 |label l'=>
  intro c hc;simp only[zdo]at hc;simp at hc;subst hc;simp only[zeq];by_cases h:(l' == l)=true
  ·simp only[h,if_true];exact⟨.skip,by simp[findLabel,h],rfl⟩
  ·simp only[h];simp[findLabel,h]
 |_=>
  intro c hc;simp only[zdo]at hc
  repeat' (split at hc)
  all_goals first
   |(simp at hc;done)
   |(simp at hc;subst hc;simp[zeq,findLabel])
theorem qgl{l:Nat}:∀{c r:CC},zeq c l=some r->c.flat=true->r.flat=true:=by
 intro c
 induction c with
 |seq a b iha ihb=>
  intro r h hf;simp only[CC.flat,qQ]at hf;simp only[zeq]at h;split at h
  ·rename_i r' hr;simp at h;subst h;simp[CC.flat,iha hr hf.1,hf.2]
  ·exact ihb h hf.2
 |label l'=>
  intro r h _;simp only[zeq]at h;split at h<;>simp at h;subst h;rfl
 |_=>intro r h _;simp[zeq]at h
theorem zcl{P:Program}{b:Frame}{a:Act}{k:List Item}{cs:List Frame}{w:World}{c:Code}:step P (lone (b.atR a (.code (.scope c)::k)) cs w)= .next (lone (b.atR a (.code c:: .inScope c::k)) cs w):=
 step_lone_go (by simp[stepG,stepG.exec,Frame.atR])
theorem zho{P:Program}{b:Frame}{a:Act}{k:List Item}{cs:List Frame}{w:World}{c:Code}:step P (lone (b.atR a (.inScope c::k)) cs w)= .next (lone (b.atR a k) cs w):=
 step_lone_go (by simp[stepG,stepG.exec,Frame.atR])
theorem qcx{P:Program}{Γ:Glob}{n0 nt:Nat}{c:CC}{E:Env}{H:Heap}{Q:Post}(h:W P Γ n0 nt c E H (λx E' H'=>(∀l,x≠ .goto l)/\Q x E' H')):W P Γ n0 nt (.scope c) E H Q:=by
 intro code hc C ρ a w h1 h2 hfl hs;cases code<;>simp only[zdo]at hc<;>try (simp at hc;done)
 case scope x=>
  split at hc
  ·rename_i cx hx;simp at hc;subst hc;intro b k cs hro hb hr;obtain⟨e,a₁,w₁,⟨E1,H1,ρ1,⟨hg,hq⟩,hs1⟩,harr⟩:=h x hx C ρ a w h1 h2 hfl hs b (.inScope x::k) cs hro hb hr;have h0:(lone (b.atR a (.code (.scope x)::k)) cs w).fenced P (zey C.ro):=fenced_calm hb hr rfl;cases e with
   |normal=>exact⟨.normal,a₁,w₁,⟨E1,H1,ρ1,hq,hs1⟩,.head h0 zcl (StepsIn.trans harr (.one (fenced_calm hb hr rfl) zho))⟩
   |exit id=>exact⟨.exit id,a₁,w₁,⟨E1,H1,ρ1,hq,hs1⟩,λk' hk=> .head h0 zcl (harr.1 k' (by simp[exitTo,hk])),λhr' hk=>let ⟨k₁,h1,h2⟩:=harr.2 hr' (by simp[exitTo,hk]);⟨k₁,h1,.head h0 zcl h2⟩⟩
   |goto l=>exact absurd rfl (hg l)
   |ret=>exact⟨_,a₁,w₁,⟨E1,H1,ρ1,hq,hs1⟩,.of_steps (.one h0 zcl) harr⟩
   |panic ch=>exact⟨_,a₁,w₁,⟨E1,H1,ρ1,hq,hs1⟩,.of_steps (.one h0 zcl) harr⟩
   |outgrown=>exact⟨_,a₁,w₁,⟨E1,H1,ρ1,hq,hs1⟩,.of_steps (.one h0 zcl) harr⟩
  ·simp at hc
 all_goals (split at hc<;>try (simp at hc;done))
 all_goals (split at hc<;>try (simp at hc;done))
 all_goals (split at hc<;>simp at hc)
def qzw(l:Nat)(J:Env->Heap->Prop)(Q:Post):Post:=λx E H=>match x with
 |.goto l'=>l'=l/\J E H
 |x=>Q x E H
theorem qkl{P:Program}{Γ:Glob}{n0 nt:Nat}{c rest:CC}{E:Env}{H:Heap}{Q:Post}(l:Nat)(J:Nat->Env->Heap->Prop)(hf:zeq c l=some rest)
  (first:W P Γ n0 nt c E H (qzw l (λE' H'=>∃m E2 H2,J m E2 H2/\Weak Γ n0 E' H' E2 H2) Q))
  (pass:∀n E H,J n E H->W P Γ n0 nt rest E H (qzw l (λE' H'=>∃m E2 H2,m<n/\J m E2 H2/\Weak Γ n0 E' H' E2 H2) Q)):W P Γ n0 nt (.scope c) E H Q:=by
 intro code hc C ρ a w h1 h2 hfl hs;cases code<;>simp only[zdo]at hc<;>try (simp at hc;done)
 case scope x=>
  split at hc
  ·rename_i cx hx;simp at hc;subst hc;have hfl:=qgk (l:=l) x cx hx;rw[hf]at hfl;obtain⟨rx,hfx,hrx⟩:=hfl;intro b k cs hro hb hr;have hg:gotoIn l (.inScope x::k)=some (.code rx:: .inScope x::k):=by simp[gotoIn,hfx]
   have key:∀n E H ρ a w,J n E H->Sim Γ C ρ E H a w->
     ∃e a' w',(∃E' H' ρ',Q e E' H'/\Sim Γ C ρ' E' H' a' w')/\ArrivesIn (Machine.fenced P (zey C.ro)) P (lone (b.atR a (.code rx:: .inScope x::k)) cs w) b k cs e a' w':=by
    intro n
    induction n using Nat.strongRecOn with
    |_ n ih=>
     intro E H ρ a w hJ hs;obtain⟨e,a₁,w₁,⟨E1,H1,ρ1,hq,hs1⟩,harr⟩:=pass n E H hJ rx hrx C ρ a w h1 h2 (hfl.imp id (qgl hf)) hs b (.inScope x::k) cs hro hb hr;cases e with
     |normal=>exact⟨.normal,a₁,w₁,⟨E1,H1,ρ1,hq,hs1⟩,StepsIn.trans harr (.one (fenced_calm hb hr rfl) zho)⟩
     |exit id=>exact⟨.exit id,a₁,w₁,⟨E1,H1,ρ1,hq,hs1⟩,λk' hk=>harr.1 k' (by simp[exitTo,hk]),λhr' hk=>harr.2 hr' (by simp[exitTo,hk])⟩
     |goto l'=>
      obtain⟨rfl,m,E2,H2,hlt,hJ2,hw⟩:=hq;obtain⟨ρ2,hs2⟩:=hw C ρ1 a₁ w₁ h1 hs1;obtain⟨e₂,a₂,w₂,hq₂,harr₂⟩:=ih m hlt E2 H2 ρ2 a₁ w₁ hJ2 hs2;exact⟨e₂,a₂,w₂,hq₂,.of_steps (harr.1 _ hg) harr₂⟩
     |ret=>exact⟨_,a₁,w₁,⟨E1,H1,ρ1,hq,hs1⟩,harr⟩
     |panic ch=>exact⟨_,a₁,w₁,⟨E1,H1,ρ1,hq,hs1⟩,harr⟩
     |outgrown=>exact⟨_,a₁,w₁,⟨E1,H1,ρ1,hq,hs1⟩,harr⟩
   obtain⟨e,a₁,w₁,⟨E1,H1,ρ1,hq,hs1⟩,harr⟩:=first x hx C ρ a w h1 h2 hfl hs b (.inScope x::k) cs hro hb hr
   have h0:(lone (b.atR a (.code (.scope x)::k)) cs w).fenced P (zey C.ro):=fenced_calm hb hr rfl;cases e with
   |normal=>exact⟨.normal,a₁,w₁,⟨E1,H1,ρ1,hq,hs1⟩,.head h0 zcl (StepsIn.trans harr (.one (fenced_calm hb hr rfl) zho))⟩
   |exit id=>exact⟨.exit id,a₁,w₁,⟨E1,H1,ρ1,hq,hs1⟩,λk' hk=> .head h0 zcl (harr.1 k' (by simp[exitTo,hk])),λhr' hk=>let ⟨k₁,h1,h2⟩:=harr.2 hr' (by simp[exitTo,hk]);⟨k₁,h1,.head h0 zcl h2⟩⟩
   |goto l'=>
    obtain⟨rfl,m,E2,H2,hJ2,hw⟩:=hq;obtain⟨ρ2,hs2⟩:=hw C ρ1 a₁ w₁ h1 hs1;obtain⟨e₂,a₂,w₂,hq₂,harr₂⟩:=key m E2 H2 ρ2 a₁ w₁ hJ2 hs2;exact⟨e₂,a₂,w₂,hq₂,.of_steps (.head h0 zcl (harr.1 _ hg)) harr₂⟩
   |ret=>exact⟨_,a₁,w₁,⟨E1,H1,ρ1,hq,hs1⟩,.of_steps (.one h0 zcl) harr⟩
   |panic ch=>exact⟨_,a₁,w₁,⟨E1,H1,ρ1,hq,hs1⟩,.of_steps (.one h0 zcl) harr⟩
   |outgrown=>exact⟨_,a₁,w₁,⟨E1,H1,ρ1,hq,hs1⟩,.of_steps (.one h0 zcl) harr⟩
  ·simp at hc
 all_goals (split at hc<;>try (simp at hc;done))
 all_goals (split at hc<;>try (simp at hc;done))
 all_goals (split at hc<;>simp at hc)
section
variable{P:Program}{Γ:Glob}{n0 nt:Nat}{E:Env}{H:Heap}
def qag(ρ:Nat->RS):Nat->RS:=λi=>match ρ i with
 |.unborn=> .unborn
 |_=> .dead
theorem zha{ρ:Nat->RS}{i b:Nat}:qag ρ i≠ .here b:=by
 unfold qag;split<;>simp
theorem qkm{f:FuncId}{args args':List AV}{H0:Heap}{v:AV}{d:Nat}(h:Ret P Γ f args' [] v [])(hfr:args.mapM (frzI 0 H0 d)=some args'):Ret P Γ f args H0 v (H0.map λ_=>none):=by
 obtain⟨_,h⟩:=h;refine⟨by simp,λw F ρ vs ho hsz hrep=>?_⟩;have ho0:=ho.cut (n0:=0) (λi cs hi=>absurd hi (by omega));rw[List.take_zero]at ho0;obtain⟨m1,m2⟩:=zhn hfr;refine(h w F (cutR 0 ρ) vs ho0 (by omega) (λj a u ha hu=>?_)).mono (λe w' ⟨u,ρ2,he,hA,hr⟩=>?_)
 ·have hj:j<args.length:=by
   rcases qZ j args'.length with h' | h'
   ·omega
   ·rw[qX h']at ha;simp at ha
  obtain⟨y,hy,hy'⟩:=m2 j args[j] (by simp[hj]);rw[ha]at hy;simp at hy;subst hy;exact .imm _ _ (zui ho d _ _ u (hrep j args[j] u (by simp[hj]) hu) hy')
 ·have hub:∀i,ρ2 i= .unborn:=λi=>hA.hok.unborn i (by simp)
  have hmu:∀b,Mu F (qag ρ) b->Mu F ρ2 b:=by
   rintro b (hb | ⟨i,hi⟩)
   ·exact .inl hb
   ·exact absurd hi zha
  refine⟨u,qag ρ,he,⟨⟨?_,?_,hA.hok.fLt,?_,?_,?_,?_⟩,?_,?_,?_,?_⟩,?_⟩
  ·intro i j b hi;exact absurd hi zha
  ·intro i b hi;exact absurd hi zha
  ·intro i hi;unfold qag;rw[ho.unborn i (by simpa using hi)]
  ·intro i cs hi;rw[qY]at hi;cases hx:H0[i]?<;>rw[hx]at hi<;>simp at hi
  ·intro i b hi;exact absurd hi zha
  ·intro g cs hg;exact(hA.hok.glob g cs hg).weaken (λb _ hb=>hmu b hb)
  ·refine hA.kept.mono (λb _ hb=>?_);obtain⟨i,hi⟩:=hb;simp[cutR]at hi
  ·intro i hi;refine .inr ⟨by omega,?_⟩;unfold qag;split
   ·rename_i h';exact absurd h' hi
   ·rfl
  ·intro i b hi;exact absurd hi zha
  ·intro i hi _;unfold qag;rw[hi]
  ·exact .imm _ _ ((hr.unbornI hub).weaken (λb _ hb=>hmu b hb))
theorem zfp{f:FuncId}{args args0 args':List AV}{id d:Nat}{cs:List AV}{v:AV}{K:AV->Eff->List Nat->Nat->Prop}(h:Ret P Γ f args' [] v [])(hid:H[id]?=some (some cs))
  (hfr:args0.mapM (frzI 0 [some cs] d)=some args') (hargs:args=args0.map (AV.ren (zan [id] H.length))) (hk:K v [(id,none)] [id] 0)
  (hu:AV.under.underL 1 args0=true:=by rfl) (hcs:AV.closed.closedL cs=true:=by rfl) (hv:v.closed=true:=by rfl):ziv P Γ f args H K:=by
 have hlt:id<H.length:=by
  rcases qZ id H.length with h' | h'
  ·exact h'
  ·rw[qX h']at hid;simp at hid
 have hn:zan [id] H.length 0=id:=by simp[zan]
 have hm:renB (zan [id] H.length) (some cs)=some cs:=by
  simp only[renB];rw[zay _ _ hcs]
 have:=CallR0.mk (P:=P) (Γ:=Γ) (f:=f) (args:=args) (k:=H.length) (H:=H++List.replicate 0 none) [id] args0 [some cs] v [none] (qkm h hfr) rfl (by simp) (by simpa using hlt)
  hargs hu (by
   intro i c hi;cases i with
   |zero=>
    simp at hi;subst hi;refine⟨cs,rfl,zbd _ _ hcs,?_⟩;rw[hn,hm];simpa using hid
   |succ i=>simp at hi)
 refine⟨v,[(id,none)],[id],0,?_,hk⟩;rw[zes _ v hv]at this;refine .base ?_;simpa[effs,hn,renB]using this
def frzE(m d:Nat)(H:Heap)(E:Env):Env:=λt=>if(E t).under m=true then E t else(frzI m H d (E t)).getD .junk
theorem zhp(m d:Nat)(hm:n0<=m)(hml:m<=H.length)(hH:∀(i:Nat) (cs:List AV),i<m->H[i]?=some (some cs)->AV.under.underL m cs=true):Weak Γ n0 E H (frzE m d H E) (H.take m):=by
 intro C ρ a w hn hs
 have hcut2:∀i b,cutR m ρ i= .here b->ρ i= .here b:=by
  intro i b h;unfold cutR at h;split at h
  ·exact h
  ·simp at h
 have hmu:∀b,Mu C.F (cutR m ρ) b->Mu C.F ρ b:=by
  rintro b (h | ⟨i,h⟩)
  ·exact .inl h
  ·exact .inr ⟨i,hcut2 i b h⟩
 refine⟨cutR m ρ,⟨hs.hok.cut hH,λt=>?_,?_,hs.size,hs.kept,λi hi=>?_,λi b hi=>hs.old i b (hcut2 i b hi),?_⟩⟩
 ·unfold frzE;split
  ·rename_i hu;exact(zzs (hs.env t) hu).kept (Kept.refl (λ_=>False) w) (λ_ x=>x.elim) (λb _ hb=>hmu b hb) (λi b hi=>hs.hok.lt i b (hcut2 i b hi)) (λ_ _=> .inl rfl)
  ·cases hf:frzI m H d (E t)with
   |none=>exact .imm _ _ (.junk _)
   |some a'=>exact .imm _ _ (zui hs.hok d _ _ _ (hs.env t) hf)
 ·obtain⟨ms,h1,h2,h3⟩:=hs.defers;refine⟨ms,h1,h2,λD hD=>⟨(h3 D hD).1,(h3 D hD).2.1,λi hi=>(h3 D hD).2.2 i (hcut2 i D hi)⟩⟩
 ·have:cutR m ρ i=ρ i:=by simp[cutR,show i<m by omega]
  rw[this];exact hs.ext i hi
 ·rw[List.length_take];omega
theorem zxl{H':Heap}(hl:H'.length=H.length)(hH:∀i,H'[i]?=H[i]?\/(n0<=i/\H'[i]?=some none)):Weak Γ n0 E H E H':=by
 intro C ρ a w hn hs
 let ρ':Nat->RS:=λi=>match H'[i]?,ρ i with
  |some none,.here _=> .dead
  |_,r=>r
 have h1:∀i b,ρ' i= .here b->ρ i= .here b/\∃cs,H'[i]?=some (some cs):=by
  intro i b h;simp only[ρ']at h;split at h
  ·simp at h
  ·rename_i hne;refine⟨h,?_⟩;obtain⟨cs,hcs,_⟩:=hs.hok.blk i b h;rcases hH i with e | ⟨_,e⟩
   ·exact⟨cs,e.trans hcs⟩
   ·exact(hne b e h).elim
 have h2:∀i,ρ i≠ .unborn->ρ' i=ρ i\/ρ' i= .dead:=by
  intro i _;simp only[ρ'];split
  ·exact .inr rfl
  ·exact .inl rfl
 have hmu:∀b,Mu C.F ρ' b->Mu C.F ρ b:=by
  rintro b (h | ⟨i,h⟩)
  ·exact .inl h
  ·exact .inr ⟨i,(h1 i b h).1⟩
 have hk:∀a v,Rep w (Mu C.F ρ) ρ a v->Rep w (Mu C.F ρ') ρ' a v:=λa v h=>h.kept (Kept.refl (λ_=>False) w) (λ_ x=>x.elim) (λb _ hb=>hmu b hb) (λi b hi=>hs.hok.lt i b hi) h2
 refine⟨ρ',⟨⟨λi j b hi hj=>hs.hok.inj i j b (h1 i b hi).1 (h1 j b hj).1,λi b hi=>hs.hok.notF i b (h1 i b hi).1,hs.hok.fLt,λi hi=>?_,λi cs hi=>?_,λi b hi=>?_,λg cs hg=>(hs.hok.glob g cs hg).weaken (λb _ hb=>hmu b hb)⟩,
  λt=>hk _ _ (hs.env t),?_,hs.size,hs.kept,λi hi=>?_,λi b hi=>hs.old i b (h1 i b hi).1,by rw[hl];exact hs.len⟩⟩
 ·have:=hs.hok.unborn i (by omega);simp only[ρ',this];split
  ·rename_i h;simp at h
  ·rfl
 ·have hi':H[i]?=some (some cs):=by
   rcases hH i with e | ⟨_,e⟩
   ·rw[<-e];exact hi
   ·rw[e]at hi;simp at hi
  obtain⟨b,hb⟩:=hs.hok.alive i cs hi';refine⟨b,?_⟩;simp only[ρ',hi,hb]
 ·obtain⟨h3,cs,h4⟩:=h1 i b hi;obtain⟨cs',h5,h6⟩:=hs.hok.blk i b h3
  have:cs'=cs:=by
   rcases hH i with e | ⟨_,e⟩
   ·rw[e,h5]at h4;simpa using h4
   ·rw[e]at h4;simp at h4
  subst this;exact⟨cs',h4,h6.mono rfl (λa v _ hr=>hk a v hr)⟩
 ·obtain⟨ms,m1,m2,m3⟩:=hs.defers;exact⟨ms,m1,m2,λD hD=>⟨(m3 D hD).1,(m3 D hD).2.1,λi hi=>(m3 D hD).2.2 i (h1 i D hi).1⟩⟩
 ·have:ρ' i=ρ i:=by
   simp only[ρ'];split
   ·rename_i b hx hb;rcases hH i with e | ⟨e,_⟩
    ·obtain⟨cs,hcs,_⟩:=hs.hok.blk i b hb;rw[e,hcs]at hx;simp at hx
    ·omega
   ·rfl
  rw[this];exact hs.ext i hi
theorem zoe{m d:Nat}:∀{cs:List AV},(∀a∈cs,frzI m H (d+1) a=some a)->cs.mapM (frzI m H (d+1))=some cs:=by
 intro cs
 induction cs with
 |nil=>intro _;rfl
 |cons a r ih=>
  intro h;rw[qV,h a (by simp),ih (λx hx=>h x (by simp[hx]))];rfl
end
section
variable{P:Program}{Γ:Glob}{n0 nt:Nat}{E:Env}{H:Heap}{c:CC}{Q:Post}
def Un(P:Program)(Γ:Glob)(n0 nt:Nat)(c:CC)(Q:Post):Nat->Env->Heap->Prop
 |0,_,_=>False
 |n+1,E,H=>wpC P Γ n0 nt c E H (zep (λE' H'=>Un P Γ n0 nt c Q n E' H') Q)
theorem W_un(hm:P.follows .mixedOrders=true)(n:Nat)(h:Un P Γ n0 nt c Q n E H):W P Γ n0 nt (.loop c) E H Q:=by
 refine zaj (λn E H=>Un P Γ n0 nt c Q n E H) h ?_;intro n E H hI;cases n with
 |zero=>exact hI.elim
 |succ n=>
  refine qcw c E H _ _ hm hI ?_;intro x E' H' hx;cases x with
  |normal=>exact⟨n,E',H',Nat.lt_succ_self n,hx,Weak.refl⟩
  |_=>exact hx
theorem zkx{n:Nat}(h:wpC P Γ n0 nt c E H (zep (λE' H'=>Un P Γ n0 nt c Q n E' H') Q)):Un P Γ n0 nt c Q (n+1) E H:=h
end
abbrev mV(d s:Nat):COp:=⟨some d,none,.mov (.t s)⟩
abbrev oP(d:Nat)(k:CK):COp:=⟨some d,none,k⟩
abbrev sT(k:CK):COp:=⟨none,none,k⟩
abbrev gU(d g:Nat)(w:Bool)(k:CK):COp:=⟨some d,some (g,w),k⟩
abbrev kI(n:Int):Opd:= .k (.int .i64 n)
abbrev bT(d:Nat)(o:BinOp)(a b:Nat):COp:=oP d (.bin o (.t a) (.t b))
abbrev bK(d:Nat)(o:BinOp)(a:Nat)(n:Int):COp:=oP d (.bin o (.t a) (kI n))
abbrev ldO(d:Nat)(g:Bool)(k a:Nat):COp:=oP d (.load g k (.t a))
abbrev iX(d s a b:Nat):COp:=oP d (.idx s (.t a) (.t b))
abbrev cL(d f:Nat)(l:List Opd):COp:=oP d (.call f l)
abbrev eX(d a i:Nat):COp:=oP d (.ext (.t a) i)
abbrev lN(d a:Nat):COp:=oP d (.len false (.t a))
abbrev rN(l:List COp):CC:= .reg l none
abbrev sR(a:List COp)(c:CC):CC:= .seq (.reg a none) c
abbrev iS(t:Nat)(c:CC):CC:= .cond (.t t) c .skip
abbrev xR(t k:Nat):CC:= .cond (.t t) .skip (.exit k)
abbrev qR(a:List COp)(t:Nat)(b:List COp)(c:CC):CC:= .seq (.seq (.reg a none) (.cond (.t t) (.seq (.reg b none) .ret) .skip)) c
abbrev RL:=List COp
def RSc:CC->List RL
 |.reg l _=>[l]
 |.seq a b=>RSc a++RSc b
 |.cond _ a b=>RSc a++RSc b
 |.block _ a=>RSc a
 |.loop a=>RSc a
 |.scope a=>RSc a
 |_=>[]
def V{α:Type}(p:α->Prop){y:α}(_:p y:=by show _=_;conv=>lhs;cbv):α:=y
def X(q:List RL)(i:Nat){y:RL}(_:q.getD i []=y:=by conv=>lhs;cbv):RL:=y
theorem dT{p:Prop}[Decidable p](h:p:=by omega):decide p=true:=decide_eq_true h
theorem dF{p:Prop}[Decidable p](h:¬p:=by omega):decide p=false:=decide_eq_false h
theorem SS0:(∀{q:List RL} {i:Nat} {y:RL} (h:q.getD i []=y),X q i h=y)/\
 (∀{α:Type} {p:α->Prop} {y:α} (h:p y),V p h=y)/\
 (∀{P Γ n0 nt E H Q},wpC P Γ n0 nt .skip E H Q=(Q .normal E H))/\
 (∀{P Γ n0 nt E H Q},wpC P Γ n0 nt .ret E H Q=(Q .ret E H))/\
 (∀{P Γ n0 nt E H Q i},wpC P Γ n0 nt (.exit i) E H Q=(Q (.exit i) E H))/\
 (∀{P Γ n0 nt E H Q i},wpC P Γ n0 nt (.label i) E H Q=(Q .normal E H))/\
 (∀{P Γ n0 nt E H Q i},wpC P Γ n0 nt (.goto i) E H Q=(Q (.goto i) E H))/\
 (∀{P Γ n0 nt E H Q a b},wpC P Γ n0 nt (.seq a b) E H Q=(wpC P Γ n0 nt a E H (zep (λE' H'=>wpC P Γ n0 nt b E' H' Q) Q)))/\
 (∀{P Γ n0 nt E H Q x a b},wpC P Γ n0 nt (.cond x a b) E H Q=(zbf (zxf (val E x)) λt=>both t (wpC P Γ n0 nt a E H Q) (wpC P Γ n0 nt b E H Q)))/\
 (∀{P Γ n0 nt E H Q i c},wpC P Γ n0 nt (.block i c) E H Q=(wpC P Γ n0 nt c E H (znv i Q)))/\
 (∀{P Γ n0 nt E H Q cs},wpC P Γ n0 nt (.reg cs none) E H Q=(regA P Γ n0 cs E H (λ_ E' H'=>Q .normal E' H')))/\
 (∀{P:Program} {Γ:Glob} {n0 nt:Nat} {E:Env} {H:Heap} {Q:Post} {cs:List COp} {l:List (Nat×Nat)},wpC P Γ n0 nt (.reg cs (some l)) E H Q=(regA P Γ n0 cs E H (λfps E' H'=>dynB l fps=true/\Q .normal E' H')))/\
 (∀{P Γ n0 nt E H Q c},wpC P Γ n0 nt (.loop c) E H Q=(W P Γ n0 nt (.loop c) E H Q))/\
 (∀{P Γ n0 nt E H Q c},wpC P Γ n0 nt (.scope c) E H Q=(W P Γ n0 nt (.scope c) E H Q))/\
 (∀{P Γ n0 d os E H Q v},goon P Γ n0 d os E H Q v=(regA P Γ n0 os (updO E d v) H λl=>Q (([],[])::l)))/\
 (∀{d s},mV d s=⟨some d,none,.mov (.t s)⟩)/\
 (∀{d k},oP d k=⟨some d,none,k⟩)/\
 (∀{k},sT k=⟨none,none,k⟩)/\
 (∀{d g w k},gU d g w k=⟨some d,some (g,w),k⟩)/\
 (∀{n},kI n= .k (.int .i64 n))/\
 (∀{d a b o},bT d o a b=⟨some d,none,.bin o (.t a) (.t b)⟩)/\
 (∀{d a n o},bK d o a n=⟨some d,none,.bin o (.t a) (.k (.int .i64 n))⟩)/\
 (∀{d k a g},ldO d g k a=⟨some d,none,.load g k (.t a)⟩)/\
 (∀{d s a b},iX d s a b=⟨some d,none,.idx s (.t a) (.t b)⟩)/\
 (∀{d f l},cL d f l=⟨some d,none,.call f l⟩)/\
 (∀{d a i},eX d a i=⟨some d,none,.ext (.t a) i⟩)/\
 (∀{d a},lN d a=⟨some d,none,.len false (.t a)⟩)/\
 (∀{l},rN l= .reg l none)/\
 (∀{a c},sR a c= .seq (.reg a none) c)/\
 (∀{t c},iS t c= .cond (.t t) c .skip)/\
 (∀{t k},xR t k= .cond (.t t) .skip (.exit k))/\
 (∀{a b t c},qR a t b c= .seq (.seq (.reg a none) (.cond (.t t) (.seq (.reg b none) .ret) .skip)) c)/\
 (∀{α:Type} {x d:α} {l:List α},(x::l).getD 0 d=x)/\
 (∀{α:Type} {x d:α} {l:List α} {n:Nat},(x::l).getD (n+1) d=l.getD n d)/\
 (∀{α:Type} {d:α} {n:Nat},([]:List α).getD n d=d)/\
 (∀{α β:Type} {f:α->β} {a:α} {l:List α},(a::l).map f=f a::l.map f)/\
 (∀{α β:Type} {f:α->β},([]:List α).map f=[])/\
 (∀{α:Type} {a:α} {l:List α},(a::l).length=l.length+1)/\
 (∀{α:Type},([]:List α).length=0)/\
 (∀{α:Type} (l:List α),[]++l=l)/\
 (∀{α:Type} {a:α} {l m:List α},(a::l)++m=a::(l++m))/\
 (∀(p:Prop),(True/\p)=p)/\
 (∀(p:Prop),(p/\True)=p)/\
 (∀(p:Prop),(True->p)=p)/\
 (∀{α β:Type} (a:α) (f:α->Option β),(some a).bind f=f a)/\
 (∀{α β:Type} (f:α->Option β),(none:Option α).bind f=none)/\
 (∀(p:Prop),(False->p)=True)/\
 ((!true)=false)/\
 ((!false)=true)/\
 ((true=false)=False)/\
 ((false=true)=False)/\
 (∀(n:Nat),0+n=n)/\
 (∀(n:Nat),(n+1=0)=False)/\
 (∀{p:Prop} [Decidable p],(decide p=true)=p)/\
 (∀{p:Prop} [Decidable p],(decide p=false)= ¬p)/\
 (∀(n:Nat),n*1=n)/\
 (∀{α:Type} {a:α} {l:List α} {n:Nat},(a::l).take (n+1)=a::l.take n)/\
 (∀{α:Type} {l:List α},l.take 0=[])/\
 (∀{α:Type} {l:List α},l.drop 0=l)/\
 (∀{α:Type} {a:α} {l:List α} {n:Nat},(a::l).drop (n+1)=l.drop n)/\
 (∀{α:Type} {x a:α} {l:List α},(x::l).set 0 a=a::l)/\
 (∀{α:Type} {x a:α} {l:List α} {n:Nat},(x::l).set (n+1) a=x::l.set n a)/\
 (∀(b:Bool),(b && true)=b)/\
 (∀(b:Bool),(b && b)=b):=
 ⟨λ_=>rfl,
 λ_=>rfl,
 rfl,
 rfl,
 rfl,
 rfl,
 rfl,
 rfl,
 rfl,
 rfl,
 rfl,
 rfl,
 rfl,
 rfl,
 rfl,
 rfl,
 rfl,
 rfl,
 rfl,
 rfl,
 rfl,
 rfl,
 rfl,
 rfl,
 rfl,
 rfl,
 rfl,
 by intros;rfl,
 by intros;rfl,
 by intros;rfl,
 by intros;rfl,
 rfl,
 by intros;rfl,
 by intros;rfl,
 by intros;rfl,
 by intros;rfl,
 by intros;rfl,
 by intros;rfl,
 by intros;rfl,
 λ_=>rfl,
 by intros;rfl,
 λp=>propext ⟨λh=>h.2,λh=>⟨trivial,h⟩⟩,
 λp=>propext ⟨λh=>h.1,λh=>⟨h,trivial⟩⟩,
 λp=>propext ⟨λh=>h trivial,λh _=>h⟩,
 by intros;rfl,
 by intros;rfl,
 λp=>propext ⟨λ_=>trivial,λ_ h=>h.elim⟩,
 by intros;rfl,
 by intros;rfl,
 by simp,
 by simp,
 Nat.zero_add,
 λn=>by simp,
 by intros;simp,
 by intros;simp,
 Nat.mul_one,
 by intros;rfl,
 by intros;simp,
 by intros;rfl,
 by intros;rfl,
 by intros;rfl,
 by intros;rfl,
 Bool.and_true,
 Bool.and_self⟩
theorem aI{a b:Prop}(x:a)(y:b):a/\b:=⟨x,y⟩
def SSd:=PLift.up <| aI SS0 <| aI @zrr <| aI @zzu <| aI @zxg <| aI @zxh <| aI @zxi <| aI @qja <| aI @qfz <| aI @jem <| aI @qzc <| aI @jen <| aI @qrd <| aI @jeo <| aI @qzd <| aI @qre <| aI @qrf <| aI @jep <| aI @jeq <| aI @qze <| aI @jif <| aI @qzf <| aI @qzg <| aI @qrg <| aI @jer <| aI @qzh <| aI @jes <| aI @qzi <| aI @qzj <| aI @qzk <| aI @jet <| aI @jeu <| aI @qzl <| aI @jev <| aI @qzn <| aI @qjg <| aI @qrb <| aI @qrc <| aI @zpi <| aI @jek <| aI @qfy <| aI @qga <| aI @qgb <| aI @qji <| aI @qjj <| aI @qjk <| aI @qgc <| aI @qzo <| aI @qri <| aI @jig <| aI @jih <| aI @qzp <| aI @qrj <| aI @qjl <| aI @qrk <| aI @qrl <| aI @qrm <| aI @qrn <| aI @qro <| aI @qrp <| aI @qrq <| aI @qrr <| aI @qzq <| aI @zzz <| aI @qrs <| aI @qrt <| aI @qru <| aI @qrv <| aI @qrw <| aI @qrx <| aI @qjm <| aI @qjn <| aI @qjo <| aI @qjp <| aI @qry <| aI @qzr <| aI @qzs <| aI @qjq <| aI @qjr <| aI @qjs <| aI @zpm <| aI @qaa <| aI @zsh <| aI @qjt <| aI @qab <| aI @qgd <| aI @qae <| aI @qaf <| aI @qrz <| aI @qju <| aI @qjv <| aI @qzt <| aI @qsa <| aI @qjw <| aI @qgf <| aI @qjx <| aI @qjy <| aI @qsb <| aI @qjz <| aI @qsc <| aI @qgg <| aI @qsd <| aI @jii <| aI @jij <| aI @qka <| aI @qkb <| aI @qkc <| aI @qkd <| aI @qgh <| aI @qke <| aI @qse <| aI @qsf <| aI @qsg <| aI @qkf <| aI @qsh <| aI @qzu <| aI @qsi <| aI @qkg <| aI @qkh <| aI @qgi <| aI @qsj <| aI @qki <| aI @qsk <| aI @qzv <| aI @qkj <| aI @qgj <| aI @qkk <| aI @zar <| aI @zbz <| aI @zch <| aI @zct <| aI @zpk <| aI @zxk <| aI @zpl <| aI @qjh <| aI @qge <| aI @qac <| @qad
theorem SS:type_of% SSd.down:=SSd.down
theorem UU:(∀{E:Env} {d:Nat} {v:AV} {t:Nat},upd E d v t=if t=d then v else E t)/\
 (∀{args:List AV} {t:Nat},zkj args t=args.getD t .junk)/\
 (∀{α:Type} {x d:α} {l:List α},(x::l).getD 0 d=x)/\
 (∀{α:Type} {x d:α} {l:List α} {n:Nat},(x::l).getD (n+1) d=l.getD n d)/\
 (∀{α:Type} {_:Decidable False} (t e:α),(if False then t else e)=e):=
 ⟨@zpk,
 @zxk,
 by intros;rfl,
 by intros;rfl,
 by intros;exact if_neg not_false⟩
universe u
theorem fC{p:Prop}(α:Sort u)[Nonempty α]:(α->p)↔p:=forall_const α
