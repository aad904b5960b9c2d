/- A part of the proof. -/
import Derived.Test.YtpflahgcdgdkjaaGreatDoorAL7
import Derived.Laws.Append
import Derived.Laws.BytesString
import Derived.IntWalk
set_option linter.all false
namespace Go.AL
open List renaming getElem?_append_right -> qQ, getElem?_append_left -> qX, replicate_succ -> qZ, getElem?_eq_none -> qJ, flatten_cons -> qK, getElem?_set_self -> qW, zipIdx_cons -> qY, foldl_cons -> qU
open Nat renaming lt_or_ge -> qV
open Go
def zbi(w:World)(M:Nat->Prop)(ρ:Nat->RS)(cs:List AV)(us:List Value):Prop:=
 us.length=cs.length/\∀(j:Nat) (a:AV) (v:Value),cs[j]?=some a->us[j]?=some v->Rep w M ρ a v
theorem zbi.set{w:World}{M:Nat->Prop}{ρ:Nat->RS}{cs:List AV}{us:List Value}(h:zbi w M ρ cs us){i:Nat}{a:AV}{v:Value}(hr:Rep w M ρ a v):
  zbi w M ρ (cs.set i a) (us.set i v):=by
 refine⟨by simp[h.1],λj x y hx hy=>?_⟩;by_cases e:i=j
 ·subst e;by_cases hl:i<cs.length
  ·rw[qW hl]at hx;rw[qW (by rw[h.1];exact hl)]at hy;simp at hx hy;subst hx hy;exact hr
  ·rw[qJ (by simp;omega)]at hx;simp at hx
 ·rw[List.getElem?_set_ne e]at hx hy;exact h.2 j x y hx hy
theorem zbi.mono{w w':World}{M M':Nat->Prop}{ρ ρ':Nat->RS}{cs:List AV}{us:List Value}(h:zbi w M ρ cs us)(hr:∀a v,Rep w M ρ a v->Rep w' M' ρ' a v):zbi w' M' ρ' cs us:=
 ⟨h.1,λj a v h1 h2=>hr _ _ (h.2 j a v h1 h2)⟩
theorem zbi.append{w:World}{M:Nat->Prop}{ρ:Nat->RS}{cs cs':List AV}{us us':List Value}(h:zbi w M ρ cs us)(h':zbi w M ρ cs' us'):zbi w M ρ (cs++cs') (us++us'):=by
 refine⟨by simp[h.1,h'.1],λj x y hx hy=>?_⟩;rcases qV j cs.length with hl | hl
 ·rw[qX hl]at hx;rw[qX (by rw[h.1];exact hl)]at hy;exact h.2 j x y hx hy
 ·rw[qQ hl]at hx;rw[qQ (by rw[h.1];exact hl),h.1]at hy;exact h'.2 _ x y hx hy
theorem zbi.setL{w:World}{M:Nat->Prop}{ρ:Nat->RS}:∀(as:List AV) (vs:List Value) (cs:List AV) (us:List Value) (i:Nat),zbi w M ρ cs us->zbi w M ρ as vs->
  zbi w M ρ (setL cs i as) ((vs.zipIdx i).foldl (λus p=>us.set p.2 p.1) us):=by
 intro as
 induction as with
 |nil=>
  intro vs cs us i h h';have:vs=[]:=List.length_eq_zero_iff.1 h'.1;subst this;simpa[AL.setL]using h
 |cons a as ih=>
  intro vs cs us i h h';cases vs with
  |nil=>have:=h'.1;simp at this
  |cons v vs=>
   simp only[AL.setL,qY,qU];refine ih vs _ _ (i+1) (h.set (h'.2 0 a v rfl rfl)) ⟨by have:=h'.1;simpa using this,λj x y hx hy=>h'.2 (j+1) x y (by simpa using hx) (by simpa using hy)⟩
theorem znv(off:Nat):∀(vs:List Value) (k:Nat) (c:Array Value),
  ((vs.zipIdx k).foldl (λ(cs:Array Value) p=>cs.setIfInBounds (off+p.2) p.1) c).toList=(vs.zipIdx (off+k)).foldl (λus p=>us.set p.2 p.1) c.toList:=by
 intro vs
 induction vs with
 |nil=>intro k c;simp
 |cons v vs ih=>
  intro k c;simp only[qY,qU];rw[ih];simp[Nat.add_assoc]
theorem qhi{w:World}{M:Nat->Prop}{ρ:Nat->RS}{a:AV}{v:Value}(h:Rep w M ρ a v)(hf:a.firm=true):zbi w M ρ a.cells v.cells.toList:=by
 obtain⟨h1,h2⟩:=znt h hf;refine⟨by simpa using h1,λj x y hx hy=>?_⟩;obtain⟨u,hu,hr⟩:=h2 j x hx;have hy':v.cells[j]?=some y:=by simpa using hy
 rw[hy']at hu;simp at hu;subst hu;exact hr
section
variable{P:Program}{Γ:Glob}{E:Env}{a:Act}{w:World}{F:Nat->Prop}{ρ:Nat->RS}{H:Heap}{n0 fresh:Nat}{o:Oper}{v:AV}{e:Eff}{rd:List Nat}
theorem qbf(ho:HOK Γ w F ρ H)(he:∀t,Rep w (Mu F ρ) ρ (E t) (a.tmps.getD t undef))(pl:Nat->Option (Nat×Nat)):
  ∀(ps:List (Nat×Operand)) (ps':List (Nat×Nat×Opd)) (cells:Array Value) (cs r:List AV),zmf Γ pl ps=some ps'->zbi w (Mu F ρ) ρ cs cells.toList->
   zey (val E) cs ps'=some r->∃cells':Array Value,Instr.fill pl cells (ps.map λp=>(p.1,a.eval p.2))=some cells'/\zbi w (Mu F ρ) ρ r cells'.toList:=by
 intro ps
 induction ps with
 |nil=>
  intro ps' cells cs r h hr hf;simp[zmf]at h;subst h;simp[zey]at hf;subst hf;exact⟨cells,rfl,hr⟩
 |cons p ps ih=>
  obtain⟨i,x⟩:=p;intro ps' cells cs r h hr hf;simp only[zmf,Option.bind_eq_some_iff]at h;obtain⟨⟨off,s⟩,hp,y,hy,l,hl,h⟩:=h;simp at h;subst h;simp only[zey]at hf;obtain⟨⟨hfirm,hlen,hle⟩,hf⟩:=zac hf;have hx:=qhi (zaj ho he hy) hfirm;have hsz:(a.eval x).cells.size=s:=by rw[<-hlen];simpa using hx.1
  have hcs:cells.size=cs.length:=by simpa using hr.1
  have hrow:=zbi.setL _ _ _ _ off hr hx;have hfold:=znv off (a.eval x).cells.toList 0 cells;simp only[Nat.add_zero]at hfold;obtain⟨cells',h1,h2⟩:=ih l (((a.eval x).cells.toList.zipIdx 0).foldl (λ(cs:Array Value) p=>cs.setIfInBounds (off+p.2) p.1) cells) _ r hl (by rw[hfold];exact hrow) hf;refine⟨cells',?_,h2⟩;simp only[List.map_cons,Instr.fill,hp];rw[if_neg (by simp[hsz];omega)];rw[<-h1];congr 1;rw[<-Array.foldl_toList];simp[Array.toList_zipIdx]
theorem ziq{t:TypeId}{zl:List AV}(h:zjy P t=some zl):∃z i,P.info? t=some i/\i.zero=some z/\∀(w:World) (M:Nat->Prop) (ρ:Nat->RS),zbi w M ρ zl z.cells.toList:=by
 unfold zjy at h;split at h
 ·rename_i i hi;split at h
  ·rename_i z hz;obtain⟨h1,h2⟩:=zgv h;refine⟨z,i,hi,hz,λw M ρ=>⟨h1.symm,λj a v ha hv=>?_⟩⟩;obtain⟨y,hy,hy'⟩:=h2 j v hv;rw[ha]at hy;simp at hy;subst hy;exact .imm _ _ (zhp w M hy')
  ·simp at h
 ·simp at h
theorem zfr{t:TypeId}{z:Value}{i:TypeInfo}(hi:P.info? t=some i)(hz:i.zero=some z):(zeroValue t).run P w= .ok z w:=by
 simp[zeroValue,znb hi,hz]
theorem znw{w:World}:∀(l:List Field) (r:List (Nat×Nat)),(l.mapM λf=>(szT P f.type).map λs=>(f.offset,s))=some r->
  (l.mapM (m:=Sem) λf=>do pure (f.offset,<-sizeOf f.type)).run P w= .ok r w:=by
 intro l
 induction l with
 |nil=>intro r h;simp at h;subst h;simp
 |cons f l ih=>
  intro r h;rw[List.mapM_cons]at h;cases hs:szT P f.type with
  |none=>simp[hs]at h
  |some s=>
   simp only[hs,Option.map_some]at h;cases hl:l.mapM λf=>(szT P f.type).map λs=>(f.offset,s)with
   |none=>simp[hl]at h
   |some r'=>
    simp[hl]at h;subst h;have hih:=ih r' hl;rw[List.mapM_cons];simp only[Sem.run_bind,zcy hs,Result.andThen_ok,Sem.run_pure,hih]
theorem qhj(ho:HOK Γ w F ρ H)(he:∀t,Rep w (Mu F ρ) ρ (E t) (a.tmps.getD t undef)){t:TypeId}{ps:Array (Nat×Operand)}{z cs:List AV}{pl:Nat->Option (Nat×Nat)}{ps':List (Nat×Nat×Opd)}
  (hz:zjy P t=some z) (hpl:zqs P t=some pl) (hps:zmf Γ pl ps.toList=some ps') (hop:o.op= .build t ps) (hf:zey (val E) z ps'=some cs):
  Snd P Γ o a w F ρ n0 (.agg cs) H []:=by
 obtain⟨zv,i,hi,hiz,hrow⟩:=ziq hz;obtain⟨cells',h1,h2⟩:=qbf ho he pl ps.toList ps' zv.cells z cs hps (hrow _ _ _) hf;refine zat ho (v':= .agg cells') ?_ (.agg cs cells' (by simpa using h2.1) (λj a v hj hv=>h2.2 j a v hj (by simpa using hv)));have hm:(ps.map λ(x:Nat×Operand)=>(x.1,a.eval x.2)).toList=ps.toList.map λp=>(p.1,a.eval p.2):=by simp
 unfold zqs at hpl;split at hpl
 ·rename_i fields hd;cases hl:qaw P fields with
  |none=>simp[hl]at hpl
  |some l=>
   simp[hl]at hpl;subst hpl;have hrun:=znw (w:=w) fields.toList l hl
   have hrun':(fields.mapM (m:=Sem) λf=>do pure (f.offset,<-sizeOf f.type)).run P w= .ok l.toArray w:=by
    rw[Array.mapM_eq_mapM_toList,Sem.run_map,hrun];rfl
   have h1':Instr.fill (λi=>l.toArray[i]?) zv.cells (ps.toList.map λp=>(p.1,a.eval p.2))=some cells':=by simpa using h1
   simp only[execOp,hop,Instr.build,Sem.run_bind,zfr hi hiz,Result.andThen_ok,zas hd,hrun',hm,h1',Sem.run_pure]
 ·rename_i n el hd;cases hs:szT P el with
  |none=>simp[hs]at hpl
  |some s=>
   simp[hs]at hpl;subst hpl;simp only[execOp,hop,Instr.build,Sem.run_bind,zfr hi hiz,Result.andThen_ok,zas hd,zcy hs,hm,h1,Sem.run_pure]
 ·simp at hpl
theorem qot:∀(n:Nat) (z:List AV) (j:Nat),j<n*z.length->((List.replicate n z).flatten)[j]?=z[j%z.length]?:=by
 intro n z
 induction n with
 |zero=>intro j h;simp at h
 |succ n ih=>
  intro j h;rw[qZ,qK];rcases qV j z.length with hl | hl
  ·rw[qX hl,Nat.mod_eq_of_lt hl]
  ·rw[qQ hl,ih (j-z.length) (by rw[Nat.succ_mul]at h;omega),Nat.mod_eq_sub_mod hl]
theorem zne(n:Nat)(z:List AV):((List.replicate n z).flatten).length=n*z.length:=by
 induction n with
 |zero=>simp
 |succ n ih=>rw[qZ,qK,List.length_append,ih,Nat.succ_mul];omega
theorem znf(n:Nat)(z:List AV):zeh n z=(List.replicate n z).flatten:=by
 unfold zeh;split
 ·rename_i x
  induction n with
  |zero=>simp
  |succ n ih=>rw[qZ,qZ,qK,<-ih];rfl
 ·rfl
theorem zke{w:World}{M:Nat->Prop}{ρ:Nat->RS}{z:List AV}{zv:Array Value}(n:Nat)(hz:0<z.length)(h:zbi w M ρ z zv.toList):
  zbi w M ρ ((List.replicate n z).flatten) (((Array.range (n*z.length)).map λj=>zv[j%zv.size]!)).toList:=by
 have hs:zv.size=z.length:=by simpa using h.1
 refine⟨by rw[zne];simp,λj a v ha hv=>?_⟩
 have hj:j<n*z.length:=by
  rcases qV j (n*z.length)with h' | h'
  ·exact h'
  ·rw[qJ (by rw[zne];exact h')]at ha;simp at ha
 rw[qot n z j hj]at ha;have hlt:j%z.length<z.length:=Nat.mod_lt _ hz;simp[hj,hs]at hv;refine h.2 (j%z.length) a v ha ?_;have:j%z.length<zv.size:=by omega
 rw[<-hv];simp[this]
theorem qwj(ho:HOK Γ w F ρ H)(he:∀t,Rep w (Mu F ρ) ρ (E t) (a.tmps.getD t undef)){t el:TypeId}{n s:Nat}{ps:Array (Nat×Operand)}{z cs:List AV}{ps':List (Nat×Nat×Opd)}
  (hfr:fresh<H.length) (hu:ρ fresh= .unborn)
  (ht:P.underlying t=some (.slice el)) (hs:szT P el=some s) (hz:zjy P el=some z) (hps:zmf Γ (λi=>some (i*s,s)) ps.toList=some ps') (hsz:s=z.length) (hmax:n*s<=2^24)
  (hop:o.op= .buildSlice t n ps) (hf:zey (val E) (List.replicate n z).flatten ps'=some cs):
  Snd P Γ o a w F ρ n0 (.sl fresh 0 n s (some n)) (zad [(fresh,some cs)] H) [fresh]:=by
 obtain⟨zv,i,hi,hiz,hrow⟩:=ziq hz;have hm:(ps.map λ(x:Nat×Operand)=>(x.1,a.eval x.2)).toList=ps.toList.map λp=>(p.1,a.eval p.2):=by simp
 have key:∀cells0:Array Value,zbi w (Mu F ρ) ρ (List.replicate n z).flatten cells0.toList->
   (execOp a.eval o).run P w=(match Instr.fill (λi=>some (i*s,s)) cells0 (ps.toList.map λp=>(p.1,a.eval p.2))with
    |some cells=> .ok (.value (.slice (some ⟨w.heap.size,0,none⟩) n n)) (w.alloc (.cells cells el))
    |none=> .halt (.stuck "buildSlice: a part of the wrong size") w)->Snd P Γ o a w F ρ n0 (.sl fresh 0 n s (some n)) (zad [(fresh,some cs)] H) [fresh]:=by
  intro cells0 hr0 hrun;obtain⟨cells',h1,h2⟩:=qbf ho he (λi=>some (i*s,s)) ps.toList ps' cells0 _ cs hps hr0 hf;rw[h1]at hrun;have hcl:cells'.size=cs.length:=by simpa using h2.1
  have hcn:cs.length=n*s:=by
   have hfl:∀(ps':List (Nat×Nat×Opd)) (z r:List AV),zey (val E) z ps'=some r->r.length=z.length:=by
    intro ps'
    induction ps' with
    |nil=>intro z r h;simp[zey]at h;subst h;rfl
    |cons p ps' ih=>
     intro z r h;simp only[zey]at h;obtain⟨_,h⟩:=zac h
     have hsl:∀(vs cs:List AV) (i:Nat),(setL cs i vs).length=cs.length:=by
      intro vs
      induction vs with
      |nil=>intro cs i;rfl
      |cons v vs ih2=>intro cs i;simp[setL,ih2]
     rw[ih _ _ h,hsl]
   rw[hfl _ _ _ hf,zne,hsz]
  refine⟨_,_,_,_,hrun,.inl rfl,zfh n0 ho hfr hu cs cells' el (by omega) (λj x hx=>?_),?_⟩
  ·have hj:j<cells'.size:=by
    rcases qV j cs.length with h' | h'
    ·omega
    ·rw[qJ h']at hx;simp at hx
   exact⟨cells'[j],by simp[hj],h2.2 j x _ hx (by simp[hj])⟩
  ·exact .slAt _ _ _ _ _ w.heap.size n el cells'.size (by simp[updR]) (by simp[World.shape?,World.alloc,-World.alloc_eq]) (Nat.le_refl _) (by intro k hk;simpa using hk) (by omega)
 by_cases h0:n*s=0
 ·refine key ((Array.range (n*s)).map λj=>(#[]:Array Value)[j%(#[]:Array Value).size]!) ?_ ?_
  ·have:(List.replicate n z).flatten=[]:=by apply List.length_eq_zero_iff.1;rw[zne,<-hsz];exact h0
   rw[this,h0];exact⟨by simp,λj a v ha=>by simp at ha⟩
  ·simp only[execOp,hop,Instr.buildSlice,Sem.run_bind,zas ht,Result.andThen_ok,zcy hs];rw[if_neg (by omega)];simp only[if_pos h0,Sem.run_bind,Sem.run_pure,Result.andThen_ok,hm];cases Instr.fill (λi=>some (i*s,s)) ((Array.range (n*s)).map λj=>(#[]:Array Value)[j%(#[]:Array Value).size]!) (ps.toList.map λp=>(p.1,a.eval p.2))<;>simp[zfe,stuck,Sem.run]
 ·have hzl:0<z.length:=by rw[<-hsz];exact Nat.pos_of_ne_zero (λe=>h0 (by simp[e]))
  have hrw:=zke n hzl (hrow w (Mu F ρ) ρ);rw[<-hsz]at hrw;refine key _ hrw ?_;simp only[execOp,hop,Instr.buildSlice,Sem.run_bind,zas ht,Result.andThen_ok,zcy hs];rw[if_neg (by omega)];simp only[if_neg h0,Sem.run_bind,Sem.run_pure,Result.andThen_ok,hm,zfr hi hiz];cases Instr.fill (λi=>some (i*s,s)) ((Array.range (n*s)).map λj=>zv.cells[j%zv.cells.size]!) (ps.toList.map λp=>(p.1,a.eval p.2))<;>simp[zfe,stuck,Sem.run]
