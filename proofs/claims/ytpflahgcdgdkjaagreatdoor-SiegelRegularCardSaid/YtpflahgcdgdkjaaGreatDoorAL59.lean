/- A part of the proof. -/
import Derived.Test.YtpflahgcdgdkjaaGreatDoorAL25
set_option linter.all false
namespace Go.AL
open List renaming getElem?_eq_none -> qQ
open Go
section
variable{P:Program}{Γ:Glob}{n0 nt:Nat}{E:Env}{H:Heap}
def zzh(ρ:Nat->RS):Nat->RS:=λi=>match ρ i with
 |.unborn=> .unborn
 |_=> .dead
theorem zgf{ρ:Nat->RS}{i b:Nat}:zzh ρ i≠ .here b:=by
 unfold zzh;split<;>simp
theorem qju{f:FuncId}{args args':List AV}{H0:Heap}{v:AV}{d:Nat}(h:Ret P Γ f args' [] v [])(hfr:args.mapM (frzI 0 H0 d)=some args'):Ret P Γ f args H0 v (H0.map λ_=>none):=by
 obtain⟨_,h⟩:=h;refine⟨by simp,λw F ρ vs ho hsz hrep=>?_⟩;have ho0:=ho.cut (n0:=0) (λi cs hi=>absurd hi (by omega));rw[List.take_zero]at ho0;obtain⟨m1,m2⟩:=zgv hfr;refine(h w F (cutR 0 ρ) vs ho0 (by omega) (λj a u ha hu=>?_)).mono (λe w' ⟨u,ρ2,he,hA,hr⟩=>?_)
 ·have hj:j<args.length:=by
   rcases Nat.lt_or_ge j args'.length with h' | h'
   ·omega
   ·rw[qQ h']at ha;simp at ha
  obtain⟨y,hy,hy'⟩:=m2 j args[j] (by simp[hj]);rw[ha]at hy;simp at hy;subst hy;exact .imm _ _ (zta ho d _ _ u (hrep j args[j] u (by simp[hj]) hu) hy')
 ·have hub:∀i,ρ2 i= .unborn:=λi=>hA.hok.unborn i (by simp)
  have hmu:∀b,Mu F (zzh ρ) b->Mu F ρ2 b:=by
   rintro b (hb | ⟨i,hi⟩)
   ·exact .inl hb
   ·exact absurd hi zgf
  refine⟨u,zzh ρ,he,⟨⟨?_,?_,hA.hok.fLt,?_,?_,?_,?_⟩,?_,?_,?_,?_⟩,?_⟩
  ·intro i j b hi;exact absurd hi zgf
  ·intro i b hi;exact absurd hi zgf
  ·intro i hi;unfold zzh;rw[ho.unborn i (by simpa using hi)]
  ·intro i cs hi;rw[List.getElem?_map]at hi;cases hx:H0[i]?<;>rw[hx]at hi<;>simp at hi
  ·intro i b hi;exact absurd hi zgf
  ·intro g cs hg;exact(hA.hok.glob g cs hg).weaken (λb _ hb=>hmu b hb)
  ·refine hA.kept.mono (λb _ hb=>?_);obtain⟨i,hi⟩:=hb;simp[cutR]at hi
  ·intro i hi;refine .inr ⟨by omega,?_⟩;unfold zzh;split
   ·rename_i h';exact absurd h' hi
   ·rfl
  ·intro i b hi;exact absurd hi zgf
  ·intro i hi _;unfold zzh;rw[hi]
  ·exact .imm _ _ ((hr.unbornI hub).weaken (λb _ hb=>hmu b hb))
theorem zgg{f:FuncId}{args args0 args':List AV}{id d:Nat}{cs:List AV}{v:AV}{K:AV->Eff->List Nat->Nat->Prop}(h:Ret P Γ f args' [] v [])(hid:H[id]?=some (some cs))
  (hfr:args0.mapM (frzI 0 [some cs] d)=some args') (hargs:args=args0.map (AV.ren (zan [id] H.length))) (hk:K v [(id,none)] [id] 0)
  (hu:AV.under.underL 1 args0=true:=by rfl) (hcs:AV.closed.closedL cs=true:=by rfl) (hv:v.closed=true:=by rfl):zls P Γ f args H K:=by
 have hlt:id<H.length:=by
  rcases Nat.lt_or_ge id H.length with h' | h'
  ·exact h'
  ·rw[qQ h']at hid;simp at hid
 have hn:zan [id] H.length 0=id:=by simp[zan]
 have hm:renB (zan [id] H.length) (some cs)=some cs:=by
  simp only[renB];rw[zaw _ _ hcs]
 have:=CallR0.mk (P:=P) (Γ:=Γ) (f:=f) (args:=args) (k:=H.length) (H:=H++List.replicate 0 none) [id] args0 [some cs] v [none] (qju h hfr) rfl (by simp) (by simpa using hlt)
  hargs hu (by
   intro i c hi;cases i with
   |zero=>
    simp at hi;subst hi;refine⟨cs,rfl,zbg _ _ hcs,?_⟩;rw[hn,hm];simpa using hid
   |succ i=>simp at hi)
 refine⟨v,[(id,none)],[id],0,?_,hk⟩;rw[zef _ v hv]at this;refine .base ?_;simpa[effs,hn,renB]using this
def frzE(m d:Nat)(H:Heap)(E:Env):Env:=λt=>if(E t).under m=true then E t else(frzI m H d (E t)).getD .junk
theorem ztf(m d:Nat)(hm:n0<=m)(hml:m<=H.length)(hH:∀(i:Nat) (cs:List AV),i<m->H[i]?=some (some cs)->AV.under.underL m cs=true):Weak Γ n0 E H (frzE m d H E) (H.take m):=by
 intro C ρ a w hn hs
 have hcut2:∀i b,cutR m ρ i= .here b->ρ i= .here b:=by
  intro i b h;unfold cutR at h;split at h
  ·exact h
  ·simp at h
 have hmu:∀b,Mu C.F (cutR m ρ) b->Mu C.F ρ b:=by
  rintro b (h | ⟨i,h⟩)
  ·exact .inl h
  ·exact .inr ⟨i,hcut2 i b h⟩
 refine⟨cutR m ρ,⟨hs.hok.cut hH,λt=>?_,?_,hs.size,hs.kept,λi hi=>?_,λi b hi=>hs.old i b (hcut2 i b hi),?_⟩⟩
 ·unfold frzE;split
  ·rename_i hu;exact(zyq (hs.env t) hu).kept (Kept.refl (λ_=>False) w) (λ_ x=>x.elim) (λb _ hb=>hmu b hb) (λi b hi=>hs.hok.lt i b (hcut2 i b hi)) (λ_ _=> .inl rfl)
  ·cases hf:frzI m H d (E t)with
   |none=>exact .imm _ _ (.junk _)
   |some a'=>exact .imm _ _ (zta hs.hok d _ _ _ (hs.env t) hf)
 ·obtain⟨ms,h1,h2,h3⟩:=hs.defers;refine⟨ms,h1,h2,λD hD=>⟨(h3 D hD).1,(h3 D hD).2.1,λi hi=>(h3 D hD).2.2 i (hcut2 i D hi)⟩⟩
 ·have:cutR m ρ i=ρ i:=by simp[cutR,show i<m by omega]
  rw[this];exact hs.ext i hi
 ·rw[List.length_take];omega
theorem zvy{H':Heap}(hl:H'.length=H.length)(hH:∀i,H'[i]?=H[i]?\/(n0<=i/\H'[i]?=some none)):Weak Γ n0 E H E H':=by
 intro C ρ a w hn hs
 let ρ':Nat->RS:=λi=>match H'[i]?,ρ i with
  |some none,.here _=> .dead
  |_,r=>r
 have h1:∀i b,ρ' i= .here b->ρ i= .here b/\∃cs,H'[i]?=some (some cs):=by
  intro i b h;simp only[ρ']at h;split at h
  ·simp at h
  ·rename_i hne;refine⟨h,?_⟩;obtain⟨cs,hcs,_⟩:=hs.hok.blk i b h;rcases hH i with e | ⟨_,e⟩
   ·exact⟨cs,e.trans hcs⟩
   ·exact(hne b e h).elim
 have h2:∀i,ρ i≠ .unborn->ρ' i=ρ i\/ρ' i= .dead:=by
  intro i _;simp only[ρ'];split
  ·exact .inr rfl
  ·exact .inl rfl
 have hmu:∀b,Mu C.F ρ' b->Mu C.F ρ b:=by
  rintro b (h | ⟨i,h⟩)
  ·exact .inl h
  ·exact .inr ⟨i,(h1 i b h).1⟩
 have hk:∀a v,Rep w (Mu C.F ρ) ρ a v->Rep w (Mu C.F ρ') ρ' a v:=λa v h=>h.kept (Kept.refl (λ_=>False) w) (λ_ x=>x.elim) (λb _ hb=>hmu b hb) (λi b hi=>hs.hok.lt i b hi) h2
 refine⟨ρ',⟨⟨λi j b hi hj=>hs.hok.inj i j b (h1 i b hi).1 (h1 j b hj).1,λi b hi=>hs.hok.notF i b (h1 i b hi).1,hs.hok.fLt,λi hi=>?_,λi cs hi=>?_,λi b hi=>?_,λg cs hg=>(hs.hok.glob g cs hg).weaken (λb _ hb=>hmu b hb)⟩,
  λt=>hk _ _ (hs.env t),?_,hs.size,hs.kept,λi hi=>?_,λi b hi=>hs.old i b (h1 i b hi).1,by rw[hl];exact hs.len⟩⟩
 ·have:=hs.hok.unborn i (by omega);simp only[ρ',this];split
  ·rename_i h;simp at h
  ·rfl
 ·have hi':H[i]?=some (some cs):=by
   rcases hH i with e | ⟨_,e⟩
   ·rw[<-e];exact hi
   ·rw[e]at hi;simp at hi
  obtain⟨b,hb⟩:=hs.hok.alive i cs hi';refine⟨b,?_⟩;simp only[ρ',hi,hb]
 ·obtain⟨h3,cs,h4⟩:=h1 i b hi;obtain⟨cs',h5,h6⟩:=hs.hok.blk i b h3
  have:cs'=cs:=by
   rcases hH i with e | ⟨_,e⟩
   ·rw[e,h5]at h4;simpa using h4
   ·rw[e]at h4;simp at h4
  subst this;exact⟨cs',h4,h6.mono rfl (λa v _ hr=>hk a v hr)⟩
 ·obtain⟨ms,m1,m2,m3⟩:=hs.defers;exact⟨ms,m1,m2,λD hD=>⟨(m3 D hD).1,(m3 D hD).2.1,λi hi=>(m3 D hD).2.2 i (h1 i D hi).1⟩⟩
 ·have:ρ' i=ρ i:=by
   simp only[ρ'];split
   ·rename_i b hx hb;rcases hH i with e | ⟨e,_⟩
    ·obtain⟨cs,hcs,_⟩:=hs.hok.blk i b hb;rw[e,hcs]at hx;simp at hx
    ·omega
   ·rfl
  rw[this];exact hs.ext i hi
theorem znh{m d:Nat}:∀{cs:List AV},(∀a∈cs,frzI m H (d+1) a=some a)->cs.mapM (frzI m H (d+1))=some cs:=by
 intro cs
 induction cs with
 |nil=>intro _;rfl
 |cons a r ih=>
  intro h;rw[List.mapM_cons,h a (by simp),ih (λx hx=>h x (by simp[hx]))];rfl
