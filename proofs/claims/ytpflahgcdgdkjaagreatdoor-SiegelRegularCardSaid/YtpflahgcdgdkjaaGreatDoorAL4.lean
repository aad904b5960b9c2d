/- A part of the proof. -/
import Derived.Test.YtpflahgcdgdkjaaGreatDoorAL3
set_option linter.all false
namespace Go.AL
open List renaming getElem?_set_ne -> qQ
open Nat renaming ne_of_lt -> qX
open Go
def updR(ρ:Nat->RS)(i:Nat)(r:RS):Nat->RS:=λj=>if j=i then r else ρ j
structure After(Γ:Glob)(F:Nat->Prop)(n0:Nat)(ρ:Nat->RS)(w:World)(ρ':Nat->RS)(w':World)(H':Heap)(new:List Nat):Prop where
 hok:HOK Γ w' F ρ' H'
 kept:Kept (λb=>∃i,ρ i= .here b) w w'
 ext:∀i,ρ i≠ .unborn->ρ' i=ρ i\/(0<=i/\ρ' i= .dead)
 old:∀i b,ρ' i= .here b->(∃j,ρ j= .here b)\/w.heap.size<=b
 still:∀i,ρ i= .unborn->i∉new->ρ' i= .unborn
theorem Mu.mono{F:Nat->Prop}{ρ ρ':Nat->RS}{w:World}(h:∀i b,ρ' i= .here b->(∃j,ρ j= .here b)\/w.heap.size<=b):
  ∀b,b<w.heap.size->Mu F ρ' b->Mu F ρ b:=by
 rintro b hb (hf | ⟨i,hi⟩)
 ·exact .inl hf
 ·rcases h i b hi with⟨j,hj⟩ | hle
  ·exact .inr ⟨j,hj⟩
  ·omega
theorem Rep.after{Γ:Glob}{F:Nat->Prop}{n0:Nat}{ρ ρ':Nat->RS}{w w':World}{H H':Heap}{new:List Nat}{a:AV}{v:Value}
  (ho:HOK Γ w F ρ H) (ha:After Γ F n0 ρ w ρ' w' H' new) (h:Rep w (Mu F ρ) ρ a v):Rep w' (Mu F ρ') ρ' a v:=
 h.kept ha.kept (λ_ hb=> .inr hb) (Mu.mono ha.old) ho.lt (λi hi=>(ha.ext i hi).imp id (λx=>x.2))
theorem After.trans{Γ:Glob}{F:Nat->Prop}{n0:Nat}{ρ ρ1 ρ2:Nat->RS}{w w1 w2:World}{H1 H2:Heap}{n1 n2:List Nat}
  (h:After Γ F n0 ρ w ρ1 w1 H1 n1) (h':After Γ F n0 ρ1 w1 ρ2 w2 H2 n2):After Γ F n0 ρ w ρ2 w2 H2 (n1++n2) where
 hok:=h'.hok
 kept:=h.kept.trans h'.kept (by
  rintro b hb ⟨i,hi⟩;rcases h.old i b hi with hj | hle
  ·exact hj
  ·omega)
 ext i hi:=by
  rcases h.ext i hi with e | ⟨hn,e⟩
  ·rcases h'.ext i (by rw[e];exact hi)with e' | ⟨hn,e'⟩
   ·exact .inl (e'.trans e)
   ·exact .inr ⟨hn,e'⟩
  ·rcases h'.ext i (by rw[e];simp)with e' | ⟨hn,e'⟩
   ·exact .inr ⟨hn,e'.trans e⟩
   ·exact .inr ⟨hn,e'⟩
 old i b hi:=by
  rcases h'.old i b hi with⟨j,hj⟩ | hle
  ·exact h.old j b hj
  ·exact .inr (Nat.le_trans h.kept.size hle)
 still i hi hn:=by
  simp only[List.mem_append,not_or]at hn;exact h'.still i (h.still i hi hn.1) hn.2
theorem HOK.same{Γ:Glob}{w w':World}{F:Nat->Prop}{ρ:Nat->RS}{H:Heap}(h:HOK Γ w F ρ H)(hw:w'.heap=w.heap)(hz:w'.os=w.os/\w'.output=w.output):HOK Γ w' F ρ H:=by
 have hk:Kept (λb=>∃i,ρ i= .here b) w w':=
  ⟨by rw[hw];exact Nat.le_refl _,λb _ _=>by rw[hw],λb _=>by simp[World.shape?,hw],λb j _=>by simp[World.frozen?,hw],hz⟩
 have hr:∀a v,Rep w (Mu F ρ) ρ a v->Rep w' (Mu F ρ) ρ a v:=λa v hr=>hr.kept hk (λ_ hb=> .inr hb) (λ_ _ x=>x) h.lt (λ_ _=> .inl rfl)
 refine⟨h.inj,h.notF,λb hb=>by rw[hw];exact h.fLt b hb,h.unborn,h.alive,λi b hi=>?_,λg cs hg=>?_⟩
 ·obtain⟨cs,h1,h2⟩:=h.blk i b hi;exact⟨cs,h1,h2.mono (by rw[hw]) (λ_ _ _=>hr _ _)⟩
 ·exact(h.glob g cs hg).kept hk (λ_ hb=> .inr hb) (λ_ _ x=>x)
theorem zin{Γ:Glob}{w w':World}{F:Nat->Prop}{ρ:Nat->RS}{H:Heap}(n0:Nat)(h:HOK Γ w F ρ H)(hw:w'.heap=w.heap)(hr:w'.os=w.os/\w'.output=w.output):
  After Γ F n0 ρ w ρ w' H [] where
 hok:=h.same hw hr
 kept:=⟨by rw[hw];exact Nat.le_refl _,λb _ _=>by rw[hw],λb _=>by simp[World.shape?,hw],λb j _=>by simp[World.frozen?,hw],hr⟩
 ext i hi:= .inl rfl
 old i b hi:= .inl ⟨i,hi⟩
 still i hi _:=hi
theorem zio{Γ:Glob}{w:World}{F:Nat->Prop}{ρ:Nat->RS}{H:Heap}(n0:Nat)(h:HOK Γ w F ρ H):After Γ F n0 ρ w ρ w H []:=
 zin n0 h rfl ⟨rfl,rfl⟩
theorem znq{w:World}{o:Obj}{b:Nat}(h:b<w.heap.size):(w.alloc o).shape? b=w.shape? b:=by
 simp[World.shape?,World.alloc,-World.alloc_eq,Array.getElem?_push,qX h]
theorem zjh{w:World}{o:Obj}{b:Nat}(h:b<w.heap.size):(w.alloc o).heap[b]?=w.heap[b]?:=by
 simp[World.alloc,-World.alloc_eq,Array.getElem?_push,qX h]
theorem zmt{w:World}{o:Obj}{b j:Nat}(h:b<w.heap.size):(w.alloc o).frozen? ⟨b,j,none⟩=w.frozen? ⟨b,j,none⟩:=by
 simp[World.frozen?,World.alloc,-World.alloc_eq,Array.getElem?_push,qX h]
theorem qdy(V:Nat->Prop)(w:World)(o:Obj):Kept V w (w.alloc o):=
 ⟨by simp,λ_ hb _=>zjh hb,λ_ hb=>znq hb,λ_ _ hb=>zmt hb,rfl,rfl⟩
theorem zuy{Γ:Glob}{w:World}{F:Nat->Prop}{ρ:Nat->RS}{H:Heap}(n0:Nat)(h:HOK Γ w F ρ H){fresh:Nat}(hfr:fresh<H.length)
  (hu:ρ fresh= .unborn) (cs:List AV) (ob:Obj)
  (hnew:(∀a v,Rep w (Mu F ρ) ρ a v->Rep (w.alloc ob) (Mu F (updR ρ fresh (.here w.heap.size))) (updR ρ fresh (.here w.heap.size)) a v)->
   zll Γ (w.alloc ob) (Mu F (updR ρ fresh (.here w.heap.size))) (updR ρ fresh (.here w.heap.size)) cs w.heap.size):
  After Γ F n0 ρ w (updR ρ fresh (.here w.heap.size)) (w.alloc ob) (H.set fresh (some cs)) [fresh]:=by
 have hold:∀i b,updR ρ fresh (.here w.heap.size) i= .here b->(∃j,ρ j= .here b)\/w.heap.size<=b:=by
  intro i b hi;unfold updR at hi;split at hi
  ·simp at hi;exact .inr (by omega)
  ·exact .inl ⟨i,hi⟩
 have hk:=qdy (λb=>∃i,ρ i= .here b) w ob
 have hne:∀i b,ρ i= .here b->i≠fresh:=by
  intro i b hi e;subst e;rw[hu]at hi;simp at hi
 have hr:∀a v,Rep w (Mu F ρ) ρ a v->Rep (w.alloc ob) (Mu F (updR ρ fresh (.here w.heap.size))) (updR ρ fresh (.here w.heap.size)) a v:=by
  intro a v hr;refine hr.kept hk (λ_ hb=> .inr hb) (Mu.mono hold) h.lt (λi hi=> .inl ?_);unfold updR;rw[if_neg];intro e;subst e;exact hi hu
 refine⟨⟨?_,?_,?_,?_,?_,?_,?_⟩,hk,?_,hold,?_⟩
 ·intro i j b hi hj;unfold updR at hi hj;split at hi<;>split at hj
  ·omega
  ·simp at hi;subst hi;exact absurd (h.lt j _ hj) (by omega)
  ·simp at hj;subst hj;exact absurd (h.lt i _ hi) (by omega)
  ·exact h.inj i j b hi hj
 ·intro i b hi hF;unfold updR at hi;split at hi
  ·simp at hi;have:=h.fLt b hF;omega
  ·exact h.notF i b hi hF
 ·intro b hF;have:=h.fLt b hF;simp;omega
 ·intro i hi;simp at hi;unfold updR;rw[if_neg (by omega)];exact h.unborn i hi
 ·intro i cs' hi;unfold updR;by_cases e:i=fresh
  ·subst e;exact⟨_,if_pos rfl⟩
  ·rw[if_neg e];rw[qQ (λx=>e x.symm)]at hi;exact h.alive i cs' hi
 ·intro i b hi;by_cases e:i=fresh
  ·subst e;unfold updR at hi;rw[if_pos rfl]at hi;simp at hi;subst hi;exact⟨cs,by simp[hfr],hnew hr⟩
  ·have hi':ρ i= .here b:=by unfold updR at hi;rwa[if_neg e]at hi
   obtain⟨cs',h1,h2⟩:=h.blk i b hi';have hlt:=h.lt i b hi';exact⟨cs',by rw[qQ (λx=>e x.symm)];exact h1,h2.mono (zjh hlt) (λ_ _ _=>hr _ _)⟩
 ·intro g cs' hg;exact(h.glob g cs' hg).kept hk (λ_ hb=> .inr hb) (Mu.mono hold)
 ·intro i hi;refine .inl ?_;unfold updR;rw[if_neg];intro e;subst e;exact hi hu
 ·intro i hi hn;simp at hn;unfold updR;rw[if_neg hn];exact hi
theorem zfh{Γ:Glob}{w:World}{F:Nat->Prop}{ρ:Nat->RS}{H:Heap}(n0:Nat)(h:HOK Γ w F ρ H){fresh:Nat}(hfr:fresh<H.length)
  (hu:ρ fresh= .unborn) (cs:List AV) (c:Array Value) (el:TypeId) (hlen:cs.length<=c.size)
  (hrep:∀(j:Nat) (a:AV),cs[j]?=some a->∃v,c[j]?=some v/\Rep w (Mu F ρ) ρ a v):
  After Γ F n0 ρ w (updR ρ fresh (.here w.heap.size)) (w.alloc (.cells c el)) (H.set fresh (some cs)) [fresh]:=by
 refine zuy n0 h hfr hu cs (.cells c el) (λhr=> .inl ?_);refine⟨el,c.size,by simp[World.shape?,World.alloc,-World.alloc_eq],hlen,λj=>by simp[World.frozen?,World.alloc,-World.alloc_eq],λj a hj=>?_⟩;obtain⟨v,hv,hv'⟩:=hrep j a hj;exact⟨v,by simpa[World.cell?,World.alloc,-World.alloc_eq]using hv,hr _ _ hv'⟩
theorem zgt{w:World}{p:Addr}{v:Value}{b:Nat}:(w.setCell p v).shape? b=w.shape? b:=by
 simp only[World.shape?,World.setCell,Array.getElem?_modify];by_cases e:p.block=b
 ·rw[if_pos e];cases hh:w.heap[b]? with
  |none=>simp
  |some o=>
   cases o<;>simp;split<;>simp
 ·rw[if_neg e]
theorem zkb{w:World}{p:Addr}{v:Value}{b:Nat}(h:b≠p.block):(w.setCell p v).heap[b]?=w.heap[b]?:=by
 simp only[World.setCell,Array.getElem?_modify];rw[if_neg (λx=>h x.symm)]
theorem zuz{V:Nat->Prop}{w:World}{b j:Nat}{v:Value}(hv:V b):Kept V w (w.setCell ⟨b,j,none⟩ v):=
 ⟨by simp,λb' _ hn=>zkb (λe=>hn (e ▸ hv)),λ_ _=>zgt,λ_ _ _=>by simp,rfl,rfl⟩
theorem zva{Γ:Glob}{w w':World}{F:Nat->Prop}{ρ:Nat->RS}{H:Heap}(n0:Nat)(h:HOK Γ w F ρ H){id b:Nat}{cs cs':List AV}(hb:ρ id= .here b)
  (hH:H[id]?=some (some cs)) (hk:Kept (λx=>x=b) w w')
  (hnew:(∀a x,Rep w (Mu F ρ) ρ a x->Rep w' (Mu F ρ) ρ a x)->zll Γ w' (Mu F ρ) ρ cs' b):
  After Γ F n0 ρ w ρ w' (H.set id (some cs')) []:=by
 have hk':Kept (λb=>∃i,ρ i= .here b) w w':=hk.mono (λx _ hx=>⟨id,hx ▸ hb⟩)
 have hrr:∀a x,Rep w (Mu F ρ) ρ a x->Rep w' (Mu F ρ) ρ a x:=λa x hx=>
  hx.kept hk' (λ_ hb=> .inr hb) (λ_ _ x=>x) h.lt (λ_ _=> .inl rfl)
 have hidl:id<H.length:=by
  rcases Nat.lt_or_ge id H.length with hl | hl
  ·exact hl
  ·rw[List.getElem?_eq_none hl]at hH;simp at hH
 refine⟨⟨h.inj,h.notF,λb' hF=>Nat.lt_of_lt_of_le (h.fLt b' hF) hk.size,?_,?_,?_,?_⟩,hk',λi _=> .inl rfl,λi b hi=> .inl ⟨i,hi⟩,λi hi _=>hi⟩
 ·intro i hi;exact h.unborn i (by simpa using hi)
 ·intro i cs' hi;by_cases e:i=id
  ·subst e;exact⟨b,hb⟩
  ·rw[qQ (λx=>e x.symm)]at hi;exact h.alive i cs' hi
 ·intro i b' hi;by_cases e:i=id
  ·subst e;have hbb:b'=b:=by rw[hb]at hi;simp at hi;exact hi.symm
   subst hbb;exact⟨cs',by simp[hidl],hnew hrr⟩
  ·obtain⟨cs2,h1,h2⟩:=h.blk i b' hi;have hne:b'≠b:=λe2=>e (h.inj i id b' hi (by rw[e2];exact hb))
   exact⟨cs2,by rw[qQ (λx=>e x.symm)];exact h1,h2.mono (hk.same b' (h.lt i b' hi) hne) (λ_ _ _=>hrr _ _)⟩
 ·intro g cs' hg;exact(h.glob g cs' hg).kept hk' (λ_ hb=> .inr hb) (λ_ _ x=>x)
theorem qgx{Γ:Glob}{w:World}{F:Nat->Prop}{ρ:Nat->RS}{H:Heap}(n0:Nat)(h:HOK Γ w F ρ H){id b j:Nat}{cs:List AV}(hb:ρ id= .here b)(hsh:∃x,w.shape? b=some x)
  (hH:H[id]?=some (some cs)) (hj:j<cs.length) {a:AV} {v:Value} (hr:Rep w (Mu F ρ) ρ a v):
  After Γ F n0 ρ w ρ (w.setCell ⟨b,j,none⟩ v) (H.set id (some (cs.set j a))) []:=by
 obtain⟨cs2,h1,h2⟩:=h.blk id b hb;rw[hH]at h1;simp at h1;subst h1;obtain⟨el,m,h2,h3,h4,h5⟩:=h2.cells hsh;refine zva n0 h hb hH (zuz rfl) (λhrr=> .inl ?_);refine⟨el,m,by rw[zgt];exact h2,by simpa using h3,λj'=>by simpa using h4 j',λj' a' hj'=>?_⟩;by_cases ej:j'=j
 ·subst ej;rw[List.getElem?_set_self hj]at hj';simp at hj';subst hj';obtain⟨u,hu⟩:∃u,cs[j']?=some u:=⟨cs[j'],by simp[hj]⟩
  obtain⟨x,hx,_⟩:=h5 j' u hu;exact⟨v,World.cell?_setCell_same _ _ _ hx,hrr _ _ hr⟩
 ·rw[qQ (λx=>ej x.symm)]at hj';obtain⟨x,hx,hx'⟩:=h5 j' a' hj';refine⟨x,?_,hrr _ _ hx'⟩;rw[World.cell?_setCell_other]
  ·exact hx
  ·intro e2;simp at e2;exact ej e2.symm
