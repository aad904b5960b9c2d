/- A part of the proof. -/
import Derived.Test.YtpflahgcdgdkjaaGreatDoorAL19
import Derived.RangeFuncRecord
set_option linter.all false
namespace Go.AL
open List renaming getElem?_eq_none -> qQ, getElem?_take -> qK, getD_eq_getElem?_getD -> qW
open Nat renaming lt_or_ge -> qX
open Bool renaming and_eq_true -> qZ
open Option renaming map_eq_some_iff -> qJ
open Go
theorem zef(σ:Nat->Nat):∀a:AV,a.closed=true->a.ren σ=a:=by
 suffices h:∀(a:AV),(a.closed=true->a.ren σ=a)from h
 intro a
 induction a using AV.rec (motive_2:=λl=>AV.closed.closedL l=true->AV.ren.renL σ l=l)with
 |bool b=>intro _;rfl
 |int k n=>intro _;rfl
 |str s=>intro _;rfl
 |vec cs n c=>intro _;rfl
 |sl id off n sz c=>intro h;simp[AV.closed]at h
 |ptr id off=>intro h;simp[AV.closed]at h
 |iptr cs p=>intro _;rfl
 |clo f cs ih=>intro h;simp only[AV.ren];rw[ih (by simpa[AV.closed]using h)]
 |agg cs ih=>intro h;simp only[AV.ren];rw[ih (by simpa[AV.closed]using h)]
 |tup cs ih=>intro h;simp only[AV.ren];rw[ih (by simpa[AV.closed]using h)]
 |anyb=>intro _;rfl
 |junk=>intro _;rfl
 |nil=>rfl
 |cons x l hx hl=>
  rename_i h;simp only[AV.closed.closedL,qZ]at h;simp only[AV.ren.renL];rw[hx h.1,hl h.2]
theorem zmk(n:Nat):∀a:AV,a.closed=true->a.under n=true:=by
 intro a
 induction a using AV.rec (motive_2:=λl=>AV.closed.closedL l=true->AV.under.underL n l=true)with
 |bool b=>intro _;rfl
 |int k n=>intro _;rfl
 |str s=>intro _;rfl
 |vec cs n c=>intro _;rfl
 |sl id off n sz c=>intro h;simp[AV.closed]at h
 |ptr id off=>intro h;simp[AV.closed]at h
 |iptr cs p=>intro _;rfl
 |clo f cs ih=>intro h;simp only[AV.under];exact ih (by simpa[AV.closed]using h)
 |agg cs ih=>intro h;simp only[AV.under];exact ih (by simpa[AV.closed]using h)
 |tup cs ih=>intro h;simp only[AV.under];exact ih (by simpa[AV.closed]using h)
 |anyb=>intro _;rfl
 |junk=>intro _;rfl
 |nil=>rfl
 |cons x l hx hl=>
  rename_i h;simp only[AV.closed.closedL,qZ]at h;simp only[AV.under.underL,qZ];exact⟨hx h.1,hl h.2⟩
theorem zbg(n:Nat):∀l:List AV,AV.closed.closedL l=true->AV.under.underL n l=true:=by
 intro l
 induction l with
 |nil=>intro _;rfl
 |cons x l ih=>
  intro h;simp only[AV.closed.closedL,qZ]at h;simp only[AV.under.underL,qZ];exact⟨zmk n x h.1,ih h.2⟩
theorem zaw(σ:Nat->Nat):∀l:List AV,AV.closed.closedL l=true->l.map (AV.ren σ)=l:=by
 intro l
 induction l with
 |nil=>intro _;rfl
 |cons x l ih=>
  intro h;simp only[AV.closed.closedL,qZ]at h;simp only[List.map_cons];rw[zef σ x h.1,ih h.2]
theorem CallR.pure{P:Program}{Γ:Glob}{f:FuncId}{args:List AV}{v:AV}{k:Nat}{H:Heap}(h:Ret P Γ f args [] v [])(ha:AV.closed.closedL args=true)(hv:v.closed=true):
  CallR P Γ f args k H v [] [] 0:=by
 have:=CallR0.mk (P:=P) (Γ:=Γ) (f:=f) (args:=args) (k:=k) (H:=H) [] args [] v [] h rfl .nil (by simp) (zaw _ _ ha).symm (zbg _ _ ha) (by intro i c h;simp at h);rw[zef _ _ hv]at this;exact .base this
def frzI(n0:Nat)(H:Heap):Nat->AV->Option AV
 |0,_=>none
 |d+1,a=>match a with
  |.sl id off n sz c=>if id<n0 then none else match getB H id with
   |some cs=>need (off+n*sz<=cs.length) ((((cs.drop off).take (n*sz)).mapM (frzI n0 H d)).map λl=> .vec l n c)
   |none=>none
  |.ptr _ _=>none
  |.agg cs=>(cs.mapM (frzI n0 H d)).map .agg
  |.tup cs=>(cs.mapM (frzI n0 H d)).map .tup
  |.clo _ _=>none
  |a=>some a
def cutR(n0:Nat)(ρ:Nat->RS):Nat->RS:=λi=>if i<n0 then ρ i else .unborn
theorem zta{Γ:Glob}{w:World}{F:Nat->Prop}{ρ:Nat->RS}{H:Heap}{n0:Nat}(ho:HOK Γ w F ρ H):∀(d:Nat) (a a':AV) (u:Value),Rep w (Mu F ρ) ρ a u->frzI n0 H d a=some a'->
  IRep w (Mu F (cutR n0 ρ)) a' u:=by
 have hmu:∀b,Mu F (cutR n0 ρ) b->Mu F ρ b:=by
  rintro b (h | ⟨i,h⟩)
  ·exact .inl h
  ·unfold cutR at h;split at h
   ·exact .inr ⟨i,h⟩
   ·simp at h
 intro d
 induction d with
 |zero=>intro a a' u _ h;simp[frzI]at h
 |succ d ih=>
  intro a a' u hr h
  have rowI:∀(cs l:List AV) (us:Array Value),us.size=cs.length->(∀(j:Nat) (x:AV) (v:Value),cs[j]?=some x->us[j]?=some v->Rep w (Mu F ρ) ρ x v)->cs.mapM (frzI n0 H d)=some l->
    us.size=l.length/\∀(j:Nat) (x:AV) (v:Value),l[j]?=some x->us[j]?=some v->IRep w (Mu F (cutR n0 ρ)) x v:=by
   intro cs l us hl hrr hm;obtain⟨m1,m2⟩:=zgv hm;refine⟨by omega,λj x v hx hv=>?_⟩
   have hj:j<cs.length:=by
    rcases qX j l.length with h' | h'
    ·omega
    ·rw[qQ h']at hx;simp at hx
   obtain⟨y,hy,hy'⟩:=m2 j cs[j] (by simp[hj]);rw[hx]at hy;simp at hy;subst hy;exact ih _ _ _ (hrr j cs[j] v (by simp[hj]) hv) hy'
  cases a<;>simp only[frzI]at h
  case sl id off n sz c=>
   split at h
   ·simp at h
   ·rename_i hid;split at h
    ·rename_i cs hg;obtain⟨hle,h⟩:=zac h;simp only[qJ]at h;obtain⟨l,hm,rfl⟩:=h;obtain⟨b,el,m,hb,hs,hlen,hf,hc⟩:=ho.at hg (qdz hr);obtain⟨b',cap,rfl,hn,hcc,hb'⟩:=zez hr
     have hbb:b'=b:=by
      rcases hb' with hb' | ⟨hb',_⟩
      ·rw[hb]at hb';simp at hb'
      ·rw[hb]at hb';simp at hb';exact hb'.symm
     subst hbb;obtain⟨vs,hvs,hrr⟩:=zhq hle hc;obtain⟨m1,m2⟩:=zgv hm;have hll:l.length=n*sz:=by rw[m1];simp;omega
     refine .vec l n c b' off cap vs (λ_ hmm=>?_) (λj hj=>hvs j (by omega)) (λj x hx=>?_) hn hcc
     ·rcases hmm with hmm | ⟨i,hi⟩
      ·exact ho.notF id b' hb hmm
      ·unfold cutR at hi;split at hi
       ·have:=ho.inj i id b' hi hb;omega
       ·simp at hi
     ·have hj:j<n*sz:=by
       rcases qX j l.length with h' | h'
       ·omega
       ·rw[qQ h']at hx;simp at hx
      have hcj:((cs.drop off).take (n*sz))[j]?=some cs[off+j]:=by
       rw[qK,if_pos hj,List.getElem?_drop];simp
      obtain⟨y,hy,hy'⟩:=m2 j _ hcj;rw[hx]at hy;simp at hy;subst hy;exact ih _ _ _ (hrr j _ hj (by simp)) hy'
    ·simp at h
  case agg cs=>
   simp only[qJ]at h;obtain⟨l,hm,rfl⟩:=h;obtain⟨us,rfl,hl,hrr⟩:=zlo hr;obtain⟨g1,g2⟩:=rowI cs l us hl hrr hm;exact .agg l us g1 g2
  case tup cs=>
   simp only[qJ]at h;obtain⟨l,hm,rfl⟩:=h;obtain⟨us,rfl,hl,hrr⟩:=zsm hr;obtain⟨g1,g2⟩:=rowI cs l us hl hrr hm;exact .tup l us g1 g2
  case ptr=>simp at h
  case clo=>simp at h
  all_goals
   simp at h;subst h;exact(hr.toI rfl).weaken (λb _ hb=>hmu b hb)
theorem zyq{w:World}{M:Nat->Prop}{ρ:Nat->RS}{n0:Nat}{a:AV}{u:Value}(h:Rep w M ρ a u):a.under n0=true->Rep w M (cutR n0 ρ) a u:=by
 have hid:∀a:AV,a.ren (λi=>i)=a:=by
  intro a
  induction a using AV.rec (motive_2:=λl=>AV.ren.renL (λi=>i) l=l)with
  |clo f cs ih=>simp only[AV.ren];rw[ih]
  |agg cs ih=>simp only[AV.ren];rw[ih]
  |tup cs ih=>simp only[AV.ren];rw[ih]
  |nil=>rfl
  |cons x l hx hl=>simp only[AV.ren.renL];rw[hx,hl]
  |_=>rfl
 intro hu;exact h.unren (σ:=λi=>i) (n:=n0) (λi hi=>by simp[cutR,hi]) a (hid a) hu
inductive Frc(ids:List Nat)(H:Heap):AV->AV->Prop
 |ren (a a':AV) (h:a'.ren (zan ids H.length)=a) (hu:a'.under ids.length=true):Frc ids H a a'
 |frz (id off n sz:Nat) (c:Option Nat) (cs l:List AV) (hid:id∉ids) (hg:getB H id=some cs) (hle:off+n*sz<=cs.length) (hl:l.length=n*sz) (hcl:AV.closed.closedL l=true)
   (hc:∀(j:Nat) (x y:AV),cs[off+j]?=some x->l[j]?=some y->Frc ids H x y):Frc ids H (.sl id off n sz c) (.vec l n c)
 |agg (cs cs':List AV) (hl:cs'.length=cs.length) (h:∀(j:Nat) (x y:AV),cs[j]?=some x->cs'[j]?=some y->Frc ids H x y):Frc ids H (.agg cs) (.agg cs')
 |tup (cs cs':List AV) (hl:cs'.length=cs.length) (h:∀(j:Nat) (x y:AV),cs[j]?=some x->cs'[j]?=some y->Frc ids H x y):Frc ids H (.tup cs) (.tup cs')
inductive BlkC(ids:List Nat)(H:Heap):Option (Option (List AV))->Option (List AV)->Prop
 |dead:BlkC ids H (some none) none
 |ren (cs cs':List AV) (h:cs'.map (AV.ren (zan ids H.length))=cs) (hu:AV.under.underL ids.length cs'=true):BlkC ids H (some (some cs)) (some cs')
 |frz (cs cs':List AV) (hn:zhn cs=true) (hl:cs'.length=cs.length) (h:∀(j:Nat) (x y:AV),cs[j]?=some x->cs'[j]?=some y->Frc ids H x y):BlkC ids H (some (some cs)) (some cs')
inductive Fin(n0:Nat):AV->Heap->AV->Heap->Prop
 |keep (v:AV) (H:Heap):Fin n0 v H v H
 |drop (v:AV) (H:Heap) (hv:v.under n0=true) (hH:∀(i:Nat) (cs:List AV),i<n0->H[i]?=some (some cs)->AV.under.underL n0 cs=true):Fin n0 v H v (H.take n0)
 |freeze (d:Nat) (v v':AV) (H:Heap) (hv:frzI n0 H d v=some v') (hH:∀(i:Nat) (cs:List AV),i<n0->H[i]?=some (some cs)->AV.under.underL n0 cs=true):Fin n0 v H v' (H.take n0)
 |comp (ids:List Nat) (v v':AV) (H H':Heap) (hnd:ids.Nodup) (hlt:∀i∈ids,i<H.length) (hl:n0<=ids.length) (hp:∀i,i<n0->zan ids H.length i=i)
   (hv:Frc ids H v v') (hH':H'.length=ids.length)
   (hH:∀(i:Nat) (c:Option (List AV)),H'[i]?=some c->BlkC ids H (H[zan ids H.length i]?) c):Fin n0 v H v' H'
theorem HOK.cut{Γ:Glob}{w:World}{F:Nat->Prop}{ρ:Nat->RS}{H:Heap}{n0:Nat}(ho:HOK Γ w F ρ H)(hH:∀(i:Nat) (cs:List AV),i<n0->H[i]?=some (some cs)->AV.under.underL n0 cs=true):
  HOK Γ w F (cutR n0 ρ) (H.take n0):=by
 have hmu:∀b,Mu F (cutR n0 ρ) b->Mu F ρ b:=by
  rintro b (h | ⟨i,h⟩)
  ·exact .inl h
  ·unfold cutR at h;split at h
   ·exact .inr ⟨i,h⟩
   ·simp at h
 have hinv:∀i b,cutR n0 ρ i= .here b->i<n0/\ρ i= .here b:=by
  intro i b h;unfold cutR at h;split at h
  ·exact⟨by assumption,h⟩
  ·simp at h
 refine⟨λi j b hi hj=>ho.inj i j b (hinv i b hi).2 (hinv j b hj).2,λi b hi=>ho.notF i b (hinv i b hi).2,ho.fLt,λi hi=>?_,λi cs hi=>?_,λi b hi=>?_,λg cs hg=>(ho.glob g cs hg).weaken (λb _ hb=>hmu b hb)⟩
 ·simp at hi;unfold cutR;split
  ·exact ho.unborn i (by omega)
  ·rfl
 ·rw[qK]at hi;split at hi
  ·rename_i hlt;obtain⟨b,hb⟩:=ho.alive i cs hi;exact⟨b,by simp[cutR,hlt,hb]⟩
  ·simp at hi
 ·obtain⟨hlt,hi'⟩:=hinv i b hi;obtain⟨cs,h1,h2⟩:=ho.blk i b hi';refine⟨cs,by rw[qK,if_pos hlt];exact h1,h2.mono rfl (λa v ha hr=>?_)⟩;obtain⟨j,hj,hja⟩:=List.mem_iff_getElem.1 ha;have h6:=zyq hr (zch (hH i cs hlt h1) j a (by rw[<-hja];simp));exact h6.kept (Kept.refl (λ_=>False) w) (λ_ x=>x.elim) (λb _ hb=>hmu b hb) (λi b hi=>ho.lt i b (hinv i b hi).2) (λ_ _=> .inl rfl)
theorem qwq{Γ:Glob}{w:World}{F:Nat->Prop}{ρ ρ0:Nat->RS}{H:Heap}{ids:List Nat}(ho:HOK Γ w F ρ H)
  (hρ0:∀i b,ρ0 i= .here b->i<ids.length/\ρ (zan ids H.length i)= .here b) (hback:∀(a:AV) (u:Value),a.under ids.length=true->Rep w (Mu F ρ) ρ (a.ren (zan ids H.length)) u->Rep w (Mu F ρ0) ρ0 a u)
  {a a':AV} (h:Frc ids H a a'):∀u,Rep w (Mu F ρ) ρ a u->Rep w (Mu F ρ0) ρ0 a' u:=by
 induction h with
 |ren a a' h hu=>intro u hr;exact hback a' u hu (by rw[h];exact hr)
 |frz id off n sz c cs l hid hg hle hl hcl hc ih=>
  intro u hr;obtain⟨b,el,m,hb,hs,hlen,hf,hcs⟩:=ho.at hg (qdz hr);obtain⟨b',cap,rfl,hn,hcc,hb'⟩:=zez hr
  have hbb:b'=b:=by
   rcases hb' with hb' | ⟨hb',_⟩
   ·rw[hb]at hb';simp at hb'
   ·rw[hb]at hb';simp at hb';exact hb'.symm
  subst hbb;obtain⟨vs,hvs,hrr⟩:=zhq hle hcs;refine .imm _ _ (.vec l n c b' off cap vs (λ_ hmm=>?_) (λj hj=>hvs j (by omega)) (λj x hx=>?_) hn hcc)
  ·rcases hmm with hmm | ⟨i,hi⟩
   ·exact ho.notF id b' hb hmm
   ·obtain⟨h1,h2⟩:=hρ0 i b' hi;have:=ho.inj _ _ b' h2 hb;apply hid;rw[<-this];simp only[zan,h1,dif_pos];exact List.getElem_mem h1
  ·have hj:j<n*sz:=by
    rcases qX j l.length with h' | h'
    ·omega
    ·rw[qQ h']at hx;simp at hx
   have hcj:cs[off+j]?=some cs[off+j]:=by simp
   have hcl':=zfg hcl j x hx;exact(ih j _ x hcj hx _ (hrr j _ hj hcj)).toI hcl'
 |agg cs cs' hl h ih=>
  intro u hr;obtain⟨us,rfl,hul,hrr⟩:=zlo hr;refine .agg _ us (by omega) (λj a v ha hv=>?_)
  have hj:j<cs.length:=by
   rcases qX j cs'.length with h' | h'
   ·omega
   ·rw[qQ h']at ha;simp at ha
  exact ih j cs[j] a (by simp[hj]) ha v (hrr j cs[j] v (by simp[hj]) hv)
 |tup cs cs' hl h ih=>
  intro u hr;obtain⟨us,rfl,hul,hrr⟩:=zsm hr;refine .tup _ us (by omega) (λj a v ha hv=>?_)
  have hj:j<cs.length:=by
   rcases qX j cs'.length with h' | h'
   ·omega
   ·rw[qQ h']at ha;simp at ha
  exact ih j cs[j] a (by simp[hj]) ha v (hrr j cs[j] v (by simp[hj]) hv)
theorem HOK.comp{Γ:Glob}{w:World}{F:Nat->Prop}{ρ:Nat->RS}{H H':Heap}{ids:List Nat}(ho:HOK Γ w F ρ H)(hnd:ids.Nodup)(hlt:∀i∈ids,i<H.length)(hH':H'.length=ids.length)
  (hH:∀(i:Nat) (c:Option (List AV)),H'[i]?=some c->BlkC ids H (H[zan ids H.length i]?) c):
  HOK Γ w F (λi=>if i<ids.length then ρ (zan ids H.length i)else .unborn) H'/\
  ∀(a a':AV) (u:Value),Frc ids H a a'->Rep w (Mu F ρ) ρ a u->Rep w (Mu F (λi=>if i<ids.length then ρ (zan ids H.length i)else .unborn)) (λi=>if i<ids.length then ρ (zan ids H.length i)else .unborn) a' u:=by
 let ρ0:Nat->RS:=λi=>if i<ids.length then ρ (zan ids H.length i)else .unborn
 have hinj:∀i j,zan ids H.length i=zan ids H.length j->i=j:=λi j h=>zvj hnd hlt h
 have hρ0:∀i,i<ids.length->ρ0 i=ρ (zan ids H.length i):=λi hi=>by simp[ρ0,hi]
 have hρ0':∀i b,ρ0 i= .here b->i<ids.length/\ρ (zan ids H.length i)= .here b:=by
  intro i b hi;simp only[ρ0]at hi;split at hi
  ·exact⟨by assumption,hi⟩
  ·simp at hi
 have hMu:∀b,Mu F ρ0 b->Mu F ρ b:=by
  rintro b (h | ⟨i,h⟩)
  ·exact .inl h
  ·exact .inr ⟨_,(hρ0' i b h).2⟩
 have hback:∀(a:AV) (u:Value),a.under ids.length=true->Rep w (Mu F ρ) ρ (a.ren (zan ids H.length)) u->Rep w (Mu F ρ0) ρ0 a u:=by
  intro a u hb hr;have h1:Rep w (Mu F ρ) ρ0 a u:=hr.unren hρ0 a rfl hb;exact h1.kept (Kept.refl (λ_=>False) w) (λ_ x=>x.elim) (λb _ hb=>hMu b hb) (λi b hi=>ho.lt _ b (hρ0' i b hi).2) (λ_ _=> .inl rfl)
 have hfr:∀(a a':AV) (u:Value),Frc ids H a a'->Rep w (Mu F ρ) ρ a u->Rep w (Mu F ρ0) ρ0 a' u:=λa a' u hf hr=>qwq ho hρ0' hback hf u hr
 refine⟨⟨λi j b hi hj=>hinj _ _ (ho.inj _ _ b (hρ0' i b hi).2 (hρ0' j b hj).2),λi b hi=>ho.notF _ b (hρ0' i b hi).2,ho.fLt,λi hi=>?_,λi cs hi=>?_,λi b hi=>?_,λg cs hg=>(ho.glob g cs hg).weaken (λb _ hb=>hMu b hb)⟩,hfr⟩
 ·show ρ0 i= .unborn
  simp only[ρ0];rw[if_neg (by omega)]
 ·have hil:i<ids.length:=by
   rw[<-hH'];rcases qX i H'.length with h' | h'
   ·exact h'
   ·rw[qQ h']at hi;simp at hi
  have hb:=hH i _ hi
  have:∃cs0,H[zan ids H.length i]?=some (some cs0):=by
   generalize H[zan ids H.length i]?=x at hb;cases hb with
   |ren cs=>exact⟨cs,rfl⟩
   |frz cs=>exact⟨cs,rfl⟩
  obtain⟨cs0,h0⟩:=this;obtain⟨b,hb⟩:=ho.alive _ _ h0;exact⟨b,(hρ0 i hil).trans hb⟩
 ·obtain⟨h1,h2⟩:=hρ0' i b hi;obtain⟨cs,g1,g2⟩:=ho.blk _ b h2;have hil:i<H'.length:=by omega
  have hc:=hH i H'[i] (by simp[hil]);rw[g1]at hc;generalize hx:H'[i]=c at hc;cases hc with
  |ren _ cs0 h hu0=>
   subst h;refine⟨cs0,by simp[hil,hx],?_⟩;rcases g2 with⟨el,m,g2,g3,g4,g5⟩ | ⟨es,g2,g3,g4⟩ | ⟨r,kk,ss,pp,sn,g2,g3,g4,g5⟩
   ·refine .inl ⟨el,m,g2,by simpa using g3,g4,λj a ha=>?_⟩;obtain⟨u,hu,hr⟩:=g5 j (a.ren (zan ids H.length)) (by simp[ha]);exact⟨u,hu,hback a u (zch hu0 j a ha) hr⟩
   ·refine .inr (.inl ⟨es,g2,by simpa using g3,λj e he=>?_⟩);obtain⟨q0,k,v,q1,q2,q3,q4⟩:=g4 j e he;simp only[List.getElem?_map,qJ]at q1 q2;obtain⟨k0,q1,rfl⟩:=q1;obtain⟨v0,q2,rfl⟩:=q2;exact⟨q0,k0,v0,q1,q2,hback _ _ (zch hu0 _ _ q1) q3,hback _ _ (zch hu0 _ _ q2) q4⟩
   ·obtain⟨sn0,e1,e2⟩:=zmh g3;rw[<-e2]at g5;subst e1;exact .inr (.inr ⟨r,kk,ss,pp,sn0,g2,rfl,g4,hback (.agg sn0) _ (zch hu0 3 _ rfl) g5⟩)
  |frz _ cs0 hn hl h=>
   refine⟨cs0,by simp[hil,hx],?_⟩
   have at':∀(j:Nat) (x:AV),cs[j]?=some x->∃y,cs0[j]?=some y/\Frc ids H x y:=by
    intro j x hx
    have hj:j<cs0.length:=by
     rw[hl];rcases qX j cs.length with h' | h'
     ·exact h'
     ·rw[qQ h']at hx;simp at hx
    exact⟨cs0[j],by simp[hj],h j x _ hx (by simp[hj])⟩
   rcases g2 with⟨el,m,g2,g3,g4,g5⟩ | ⟨es,g2,g3,g4⟩ | ⟨r,kk,ss,pp,sn,g2,g3,g4,g5⟩
   ·refine .inl ⟨el,m,g2,by omega,g4,λj a ha=>?_⟩
    have hj:j<cs.length:=by
     rw[<-hl];rcases qX j cs0.length with h' | h'
     ·exact h'
     ·rw[qQ h']at ha;simp at ha
    obtain⟨u,hu,hr⟩:=g5 j cs[j] (by simp[hj]);exact⟨u,hu,hfr _ _ u (h j cs[j] a (by simp[hj]) ha) hr⟩
   ·refine .inr (.inl ⟨es,g2,by omega,λj e he=>?_⟩);obtain⟨q0,k,v,q1,q2,q3,q4⟩:=g4 j e he;obtain⟨k0,r1,f1⟩:=at' _ _ q1;obtain⟨v0,r2,f2⟩:=at' _ _ q2;exact⟨q0,k0,v0,r1,r2,hfr _ _ _ f1 q3,hfr _ _ _ f2 q4⟩
   ·rw[g3]at hn;simp[zje,zhn]at hn
theorem Fin.sound{Γ:Glob}{w:World}{F:Nat->Prop}{ρ:Nat->RS}{H H':Heap}{n0:Nat}{v v':AV}{u:Value}(h:Fin n0 v H v' H')(ho:HOK Γ w F ρ H)(hr:Rep w (Mu F ρ) ρ v u)(hl:n0<=H.length):
  ∃ρ',HOK Γ w F ρ' H'/\Rep w (Mu F ρ') ρ' v' u/\(∀i,i<n0->ρ' i=ρ i)/\(∀i b,ρ' i= .here b->∃j,ρ j= .here b)/\n0<=H'.length:=by
 have hcutH:n0<=(H.take n0).length:=by simp;omega
 have hcut1:∀i,i<n0->cutR n0 ρ i=ρ i:=λi hi=>by simp[cutR,hi]
 have hcut2:∀i b,cutR n0 ρ i= .here b->ρ i= .here b:=by
  intro i b h;unfold cutR at h;split at h
  ·exact h
  ·simp at h
 cases h with
 |keep v H=>exact⟨ρ,ho,hr,λ_ _=>rfl,λi _ h=>⟨i,h⟩,hl⟩
 |comp ids v v' H H' hnd hlt hl hp hv hH' hH=>
  obtain⟨g1,g2⟩:=ho.comp hnd hlt hH' hH;refine⟨_,g1,g2 _ _ _ hv hr,λi hi=>by rw[if_pos (by omega),hp i hi],λi b h=>?_,by omega⟩;split at h
  ·exact⟨_,h⟩
  ·simp at h
 |drop v H hv hH=>
  refine⟨cutR n0 ρ,ho.cut hH,?_,hcut1,λi b h=>⟨i,hcut2 i b h⟩,hcutH⟩
  exact(zyq hr hv).kept (Kept.refl (λ_=>False) w) (λ_ x=>x.elim) (λb _ hb=>by
   rcases hb with hb | ⟨i,hi⟩
   ·exact .inl hb
   ·exact .inr ⟨i,hcut2 i b hi⟩) (λi b hi=>ho.lt i b (hcut2 i b hi)) (λ_ _=> .inl rfl)
 |freeze d v v' H hv hH=>exact⟨cutR n0 ρ,ho.cut hH,.imm _ _ (zta ho d v v' u hr hv),hcut1,λi b h=>⟨i,hcut2 i b h⟩,hcutH⟩
def zdv(P:Program)(E:Env)(H:Heap):ResultVar->Option AV
 |.tmp t=>some (E t)
 |.cell a t=>match ldSz P t,E a with
  |some (ag,sz),.ptr id off=>match getB H id with
   |some cs=>need (off+sz<=cs.length) (some (ldv ag sz off cs))
   |none=>none
  |_,_=>none
def resA(P:Program)(rs:List ResultVar)(E:Env)(H:Heap):Option AV:=
 match rs.mapM (zdv P E H)with
 |some [v]=>some v
 |some vs=>some (.tup vs)
 |none=>none
def resF(tmps:Array Value):ResultVar->Sem Value
 |.tmp t=>pure (tmps.getD t undef)
 |.cell x t=>do loadVar t (<-asAddr (tmps.getD x undef))
theorem zra(fn:Func)(tmps:Array Value):results fn tmps=(fn.results.mapM (resF tmps) >>= λvs=>pure (if h:vs.size=1 then vs[0]else .tuple vs)):=rfl
theorem zoj{P:Program}{Γ:Glob}{C:Ctx}{ρ:Nat->RS}{E:Env}{H:Heap}{a:Act}{w:World}(hs:Sim Γ C ρ E H a w):∀(rs:List ResultVar) (vs:List AV),rs.mapM (zdv P E H)=some vs->
  ∃us:List Value,(rs.mapM (resF a.tmps)).run P w= .ok us w/\zbi w (Mu C.F ρ) ρ vs us:=by
 intro rs
 induction rs with
 |nil=>intro vs h;simp at h;subst h;exact⟨[],by simp,rfl,λj a v h=>by simp at h⟩
 |cons r rs ih=>
  intro vs h;rw[List.mapM_cons]at h;cases hr:zdv P E H r with
  |none=>simp[hr]at h
  |some x=>
   cases hl:rs.mapM (zdv P E H)with
   |none=>simp[hr,hl]at h
   |some vs'=>
    simp[hr,hl]at h;subst h;obtain⟨us,h1,h2⟩:=ih vs' hl
    have key:∃u,(resF a.tmps r).run P w= .ok u w/\Rep w (Mu C.F ρ) ρ x u:=by
     cases r with
     |tmp t=>simp[zdv]at hr;subst hr;exact⟨_,by simp only[resF];exact Sem.run_pure _ _ _,hs.env t⟩
     |cell ad t=>
      simp only[zdv]at hr;split at hr
      ·rename_i ag sz id off hsz hE;split at hr
       ·rename_i cs hg;obtain⟨hle,hr⟩:=zac hr;simp at hr;subst hr;have henv:=hs.env ad;rw[hE]at henv;obtain⟨b,e1,hb,_,hc⟩:=znd hs.hok henv hg;obtain⟨vs,hvs,hrr⟩:=zhq hle hc;refine⟨_,?_,zyb hle (zkd hsz).2.2 hrr⟩;simp only[resF,Sem.run_bind,e1,asAddr,Sem.run_pure,Result.andThen_ok];exact zjk hsz hvs
       ·simp at hr
      ·simp at hr
    obtain⟨u,hu,hru⟩:=key;refine⟨u::us,?_,?_⟩
    ·rw[List.mapM_cons];simp only[Sem.run_bind,hu,Result.andThen_ok,h1,Sem.run_pure]
    ·refine⟨by simp[h2.1],λj y z hy hz=>?_⟩;cases j with
     |zero=>simp at hy hz;subst hy hz;exact hru
     |succ j=>exact h2.2 j y z (by simpa using hy) (by simpa using hz)
def zjc(args:List AV):Env:=λt=>args.getD t .junk
theorem IRep.same2{w w':World}{M:Nat->Prop}(hc:∀p,w'.cell? p=w.cell? p){a:AV}{v:Value}(h:IRep w M a v):IRep w' M a v:=by
 induction h with
 |bool b=>exact .bool b
 |int k n=>exact .int k n
 |str s=>exact .str s
 |anyb b=>exact .anyb b
 |junk v=>exact .junk v
 |nil p c hc=>exact .nil p c hc
 |vec cs n c b off cap vs hMb hcell hrep hn hc' ih=>exact .vec cs n c b off cap vs hMb (λj hj=>by rw[hc];exact hcell j hj) ih hn hc'
 |iptr cs p b off vs hMb hcell hrep ih=>exact .iptr cs p b off vs hMb (λj hj=>by rw[hc];exact hcell j hj) ih
 |agg cs vs hl hrep ih=>exact .agg cs vs hl ih
 |tup cs vs hl hrep ih=>exact .tup cs vs hl ih
 |clo f cs vs hf hl hrep ih=>exact .clo f cs vs hf hl ih
 |bnd f cs vs hf hl hrep ih=>exact .bnd f cs vs hf hl ih
 |nilp=>exact .nilp
 |nilf=>exact .nilf
theorem Rep.same2{w w':World}{M:Nat->Prop}{ρ:Nat->RS}(hc:∀p,w'.cell? p=w.cell? p)(hs:∀b,w'.shape? b=w.shape? b){a:AV}{v:Value}(h:Rep w M ρ a v):Rep w' M ρ a v:=by
 induction h with
 |imm a v h=>exact .imm a v (h.same2 hc)
 |slDead id off n sz c b cap h hn hc=>exact .slDead id off n sz c b cap h hn hc
 |slAt id off n sz c b cap el m h hs' hn hc hm=>exact .slAt id off n sz c b cap el m h (by rw[hs];exact hs') hn hc hm
 |ptrDead id off b h=>exact .ptrDead id off b h
 |ptrAt id off b h hs'=>exact .ptrAt id off b h (by rw[hs];exact hs')
 |mapDead id b h=>exact .mapDead id b h
 |mapAt id b h hs'=>exact .mapAt id b h (by rw[hs];exact hs')
 |ydDead id b h=>exact .ydDead id b h
 |ydAt id b h hs'=>exact .ydAt id b h (by rw[hs];exact hs')
 |ydF id v h ih=>exact .ydF id v ih
 |agg cs vs hl hrep ih=>exact .agg cs vs hl ih
 |tup cs vs hl hrep ih=>exact .tup cs vs hl ih
 |clo f cs vs hf hl hrep ih=>exact .clo f cs vs hf hl ih
 |bnd f cs vs hf hl hrep ih=>exact .bnd f cs vs hf hl ih
theorem ziu{w:World}{b:Nat}{o:Obj}(h:b<w.heap.size)(x:Nat):(w.putObj b o).heap[x]?=if x=b then some o else w.heap[x]?:=by
 by_cases e:x=b
 ·subst e;rw[if_pos rfl];exact World.putObj_heap_same h
 ·rw[if_neg e];exact World.putObj_heap_other e
def zes:Obj->Bool
 |.cells .. => false
 |_=>true
theorem zml{w:World}{b:Nat}{o o':Obj}(h:w.heap[b]?=some o)(ho:zes o=true)(ho':zes o'=true):
  (∀p,(w.putObj b o').cell? p=w.cell? p)/\(∀x,(w.putObj b o').shape? x=w.shape? x)/\(∀p,(w.putObj b o').frozen? p=w.frozen? p):=by
 have hlt:=zfs h;refine⟨λp=>?_,λx=>?_,λp=>?_⟩
 ·unfold World.cell?;rw[ziu hlt];by_cases e:p.block=b
  ·rw[if_pos e,e,h];cases o<;>simp[zes]at ho<;>cases o'<;>simp[zes]at ho'<;>rfl
  ·rw[if_neg e]
 ·unfold World.shape?;rw[ziu hlt];by_cases e:x=b
  ·rw[if_pos e,e,h];cases o<;>simp[zes]at ho<;>cases o'<;>simp[zes]at ho'<;>rfl
  ·rw[if_neg e]
 ·unfold World.frozen?;rw[ziu hlt];by_cases e:p.block=b
  ·rw[if_pos e,e,h];cases o<;>simp[zes]at ho<;>cases o'<;>simp[zes]at ho'<;>rfl
  ·rw[if_neg e]
theorem zyr{w:World}{b:Nat}{o o':Obj}(h:w.heap[b]?=some o)(ho:zes o=true)(ho':zes o'=true):Kept (λx=>x=b) w (w.putObj b o'):=by
 obtain⟨h1,h2,h3⟩:=zml h ho ho';exact⟨by simp,λx _ hx=>by rw[ziu (zfs h),if_neg hx],λx _=>h2 x,λx j _=>h3 _,rfl,rfl⟩
theorem Sim.take{Γ:Glob}{C:Ctx}{ρ:Nat->RS}{E:Env}{H:Heap}{a:Act}{w:World}(hs:Sim Γ C ρ E H a w){D:Nat}{ms:List Nat}(hd:a.defers=(D::ms).map zmj):
  w.heap[D]?=some (.deferred (some []))/\Sim Γ C ρ E H { a with defers:=ms.map zmj } (w.putObj D (.deferred none)):=by
 obtain⟨ms',h1,h2,h3⟩:=hs.defers;have hinj:∀x y,zmj x=zmj y->x=y:=by intro x y h;simpa[zmj]using h
 have e:ms'=D::ms:=by
  rw[hd]at h1;exact((List.map_inj_right hinj).1 h1).symm
 subst e;obtain⟨g1,g2,g3⟩:=h3 D (by simp);have hk:=zyr (o':= .deferred none) g2 rfl rfl;obtain⟨p1,p2,p3⟩:=zml (o':= .deferred none) g2 rfl rfl;have hr:∀x v,Rep w (Mu C.F ρ) ρ x v->Rep (w.putObj D (.deferred none)) (Mu C.F ρ) ρ x v:=λx v h=>h.same2 p1 p2
 refine⟨g2,⟨⟨hs.hok.inj,hs.hok.notF,λb hb=>by simpa using hs.hok.fLt b hb,hs.hok.unborn,hs.hok.alive,λi b hi=>?_,λg cs hg=>(hs.hok.glob g cs hg).same2 p1⟩,λt=>hr _ _ (hs.env t),?_,hs.size,?_,hs.ext,hs.old,hs.len⟩⟩
 ·obtain⟨cs,q1,q2⟩:=hs.hok.blk i b hi;exact⟨cs,q1,q2.mono (hk.same b (hs.hok.lt i b hi) (λe=>g3 i (by rw[<-e];exact hi))) (λ_ _ _=>hr _ _)⟩
 ·refine⟨ms,rfl,(List.nodup_cons.1 h2).2,λD' hD'=>?_⟩;obtain⟨q1,q2,q3⟩:=h3 D' (by simp[hD']);have hne:D'≠D:=λe=>(List.nodup_cons.1 h2).1 (e ▸ hD')
  exact⟨q1,by rw[hk.same D' (zfs q2) hne];exact q2,q3⟩
 ·exact hs.kept.trans hk (λb hb e=>by omega)
theorem Sim.fin{Γ:Glob}{C:Ctx}{ρ1:Nat->RS}{E':Env}{H H' Hout:Heap}{a':Act}{w':World}{v v':AV}{u:Value}(hs':Sim Γ C ρ1 E' H' a' w')(ho:HOK Γ C.w0 C.F C.ρ0 H)(hn:C.n0=H.length)
  (hu2:Rep w' (Mu C.F ρ1) ρ1 v' u) (hfin:Fin H.length v' H' v Hout):
  ∃ρ',After Γ C.F H.length C.ρ0 C.w0 ρ' w' Hout (zge H.length (Hout.length-H.length))/\Rep w' (Mu C.F ρ') ρ' v u:=by
 obtain⟨ρ',g1,g2,g3,g4,g5⟩:=hfin.sound hs'.hok hu2 (hn ▸ hs'.len);refine⟨ρ',⟨g1,hs'.kept,λi hi=>?_,λi b hi=>(g4 i b hi).elim λj hj=>hs'.old j b hj,λi hi hn'=>?_⟩,g2⟩
 ·have hlt:i<H.length:=by
   rcases qX i H.length with h' | h'
   ·exact h'
   ·exact absurd (ho.unborn i h') hi
  rw[g3 i hlt];exact(hs'.ext i (by rw[hn];exact hlt)).imp id (λx=>⟨Nat.zero_le _,x.2⟩)
 ·rcases qX i H.length with h' | h'
  ·rw[g3 i h'];rcases hs'.ext i (by rw[hn];exact h')with h | ⟨h,_⟩
   ·rw[h];exact hi
   ·exact absurd hi h
  ·exact g1.unborn i (by
    simp only[zge,List.mem_range'_1]at hn';omega)
theorem zok{P:Program}{Γ:Glob}{f:FuncId}{fn:Func}{code:Code}{c:CC}{args:List AV}{H:Heap}{v:AV}{Hout:Heap}(hf:P.funcs[f]?=some fn)(hb:fn.body=some code)
  (hc:zdb P Γ fn.ntmps code=some c) (hn:args.length<=fn.ntmps) (hlen:H.length<=Hout.length) (hne:f≠4095)
  (h:W P Γ H.length fn.ntmps c (zjc args) H (λx E' H'=>(x= .ret\/x= .normal)/\∃v',resA P fn.results.toList E' H'=some v'/\Fin H.length v' H' v Hout)):Ret P Γ f args H v Hout:=by
 refine⟨hlen,?_⟩;intro w F ρ vs ho hsz hrep;refine .inl ⟨hne,(callsIn_wide (n:=0)).1 (callsIn_of_wp_marks hf hb trivial ?_)⟩;let C:Ctx:={ F:=F,w0:=w,ρ0:=ρ,n0:=H.length,nt:=fn.ntmps }
 have hs:Sim Γ C ρ (zjc args) H { tmps:=vs++Array.replicate (fn.ntmps-vs.size) undef,defers:=[] } w:=by
  refine⟨ho,λt=>?_,⟨[],rfl,List.nodup_nil,by simp⟩,by show(vs++Array.replicate (fn.ntmps-vs.size) undef).size=fn.ntmps;simp;omega,Kept.refl _ w,λ_ _=> .inl rfl,λi b hi=> .inl ⟨i,hi⟩,Nat.le_refl _⟩;simp only[zjc];rcases qX t args.length with hl | hl
  ·have h1:args[t]?=some args[t]:=by simp[hl]
   have h2:t<vs.size:=by omega
   have:=hrep t args[t] vs[t] h1 (by simp[h2]);simp only[qW,h1,Option.getD_some];rw[Array.getD_eq_getD_getElem?,Array.getElem?_append_left h2];simpa[h2]using this
  ·simp only[qW,qQ hl,Option.getD_none];exact .imm _ _ (.junk _)
 refine wpIn_mono (h code hc C ρ _ w rfl rfl (.inl rfl) hs) ?_;rintro x a' w' ⟨E',H',ρ1,⟨hx,v',hres,hfin⟩,hs'⟩
 have key:∀(ms:List Nat) (a':Act) (w':World),Sim Γ C ρ1 E' H' a' w'->a'.defers=ms.map zmj->
   LeavesInM Fence.wide 0 P fn a'.tmps (λe w'=>∃u ρ',e= .returned u/\After Γ F H.length ρ w ρ' w' Hout (zge H.length (Hout.length-H.length))/\Rep w' (Mu F ρ') ρ' v u) a'.defers .returning w':=by
  intro ms
  induction ms with
  |cons D ms ih=>
   intro a' w' hs' hd;obtain⟨h1,h2⟩:=hs'.take hd;have:=ih _ _ h2 rfl;rw[hd];exact⟨by simp,.inl ⟨D,_,rfl,run_takeDeferred h1,this⟩⟩
  |nil=>
   intro a' w' hs' hd;rw[hd]
   show LeavesIn _ _ _ _ _ _ [] _ _
   have post:∃u,(results fn a'.tmps).run P w'= .ok u w'/\Rep w' (Mu F ρ1) ρ1 v' u:=by
    unfold resA at hres;cases hm:fn.results.toList.mapM (zdv P E' H')with
    |none=>simp[hm]at hres
    |some l=>
     obtain⟨us,h1,h2⟩:=zoj (P:=P) hs' _ l hm
     have h1':(fn.results.mapM (resF a'.tmps)).run P w'= .ok us.toArray w':=by
      rw[Array.mapM_eq_mapM_toList,Sem.run_map,h1];rfl
     rw[hm]at hres;simp only[zra,Sem.run_bind,h1',Result.andThen_ok,Sem.run_pure];by_cases h1l:us.length=1
     ·obtain⟨u,rfl⟩:=List.length_eq_one_iff.1 h1l;obtain⟨y,rfl⟩:=List.length_eq_one_iff.1 (by rw[<-h2.1];rfl:l.length=1);simp at hres;subst hres;exact⟨u,by simp,h2.2 0 y u rfl rfl⟩
     ·refine⟨.tuple us.toArray,by simp[h1l],?_⟩
      have:v'= .tup l:=by
       match l,hres,h2.1 with
       | [],hres,_=>simpa using hres.symm
       | [y],_,hh=>simp at hh;exact absurd hh h1l
       |y::z::r,hres,_=>simpa using hres.symm
      subst this;exact .tup l us.toArray (by simpa using h2.1) (λj a v ha hv=>h2.2 j a v ha (by simpa using hv))
   obtain⟨u,hu1,hu2⟩:=post;obtain⟨ρ',g1,g2⟩:=hs'.fin (H:=H) ho rfl hu2 hfin;exact⟨u,hu1,u,ρ',rfl,g1,g2⟩
 obtain⟨ms,hms,_⟩:=hs'.defers;rcases hx with rfl | rfl
 ·exact key ms a' w' hs' hms
 ·exact key ms a' w' hs' hms
