/- A part of the proof. -/
import Derived.Orders
import Derived.Laws.World
import Derived.Laws.Sem
set_option linter.all false
namespace Go.AL
open List renaming mem_of_getElem? -> qQ
open Nat renaming lt_of_lt_of_le -> qX, lt_or_ge -> qZ
open Go
inductive AV where
 |bool (b:Bool)
 |int (k:IntKind) (n:Int)
 |str (s:ByteArray)
 |vec (cs:List AV) (n:Nat) (cap:Option Nat)
 |sl (id off n sz:Nat) (cap:Option Nat)
 |ptr (id off:Nat)
 |iptr (cs:List AV) (p:Nat)
 |clo (f:FuncId) (caps:List AV)
 |agg (cs:List AV)
 |tup (vs:List AV)
 |anyb
 |junk
 deriving Inhabited
inductive RS where
 |unborn
 |dead
 |here (b:Nat)
abbrev Heap:=List (Option (List AV))
structure Glob where
 globs:List (Nat×List AV)
 lp:Nat->Nat->Array Tmp->Code->Code->Prop
 lv:Nat->List Nat
inductive IRep(w:World)(M:Nat->Prop):AV->Value->Prop
 |bool (b:Bool):IRep w M (.bool b) (.bool b)
 |int (k:IntKind) (n:Int):IRep w M (.int k n) (.int k n)
 |str (s:ByteArray):IRep w M (.str s) (.string s)
 |anyb (b:Bool):IRep w M .anyb (.bool b)
 |junk (v:Value):IRep w M .junk v
 |nil (p:Option Addr) (c:Option Nat) (hc:∀k,c=some k->k=0):IRep w M (.vec [] 0 c) (.slice p 0 0)
 |vec (cs:List AV) (n:Nat) (c:Option Nat) (b off cap:Nat) (vs:Nat->Value)
   (hM:cs≠[]->¬M b)
   (hcell:∀j,j<cs.length->w.cell? ⟨b,off+j,none⟩=some (vs j))
   (hrep:∀(j:Nat) (a:AV),cs[j]?=some a->IRep w M a (vs j))
   (hn:n<=cap) (hc:∀k,c=some k->cap=k):
   IRep w M (.vec cs n c) (.slice (some ⟨b,off,none⟩) n cap)
 |iptr (cs:List AV) (p b off:Nat) (vs:Nat->Value)
   (hM:cs≠[]->¬M b)
   (hcell:∀j,j<cs.length->w.cell? ⟨b,off+j,none⟩=some (vs j))
   (hrep:∀(j:Nat) (a:AV),cs[j]?=some a->IRep w M a (vs j)):
   IRep w M (.iptr cs p) (.pointer (some ⟨b,off+p,none⟩))
 |agg (cs:List AV) (vs:Array Value) (hl:vs.size=cs.length)
   (hrep:∀(j:Nat) (a:AV) (v:Value),cs[j]?=some a->vs[j]?=some v->IRep w M a v):IRep w M (.agg cs) (.agg vs)
 |tup (cs:List AV) (vs:Array Value) (hl:vs.size=cs.length)
   (hrep:∀(j:Nat) (a:AV) (v:Value),cs[j]?=some a->vs[j]?=some v->IRep w M a v):IRep w M (.tup cs) (.tuple vs)
 |clo (f:FuncId) (cs:List AV) (vs:Array Value) (hf:f<65536) (hl:vs.size=cs.length)
   (hrep:∀(j:Nat) (a:AV) (v:Value),cs[j]?=some a->vs[j]?=some v->IRep w M a v):IRep w M (.clo f cs) (.func (.func f) #[] vs)
 |bnd (f:FuncId) (cs:List AV) (vs:Array Value) (hf:f<65536/\f≠4095) (hl:vs.size=cs.length)
   (hrep:∀(j:Nat) (a:AV) (v:Value),cs[j]?=some a->vs[j]?=some v->IRep w M a v):IRep w M (.clo (65536+f) cs) (.func (.func f) vs #[])
 |nilp:IRep w M (.clo 131072 []) (.pointer none)
 |nilf:IRep w M (.clo 131073 []) .nilFunc
inductive Rep(w:World)(M:Nat->Prop)(ρ:Nat->RS):AV->Value->Prop
 |imm (a:AV) (v:Value) (h:IRep w M a v):Rep w M ρ a v
 |slDead (id off n sz:Nat) (c:Option Nat) (b cap:Nat) (h:ρ id= .dead) (hn:n<=cap) (hc:∀k,c=some k->cap=k):
   Rep w M ρ (.sl id off n sz c) (.slice (some ⟨b,off,none⟩) n cap)
 |slAt (id off n sz:Nat) (c:Option Nat) (b cap:Nat) (el:TypeId) (m:Nat) (h:ρ id= .here b) (hs:w.shape? b=some (el,m))
   (hn:n<=cap) (hc:∀k,c=some k->cap=k) (hm:off+cap*sz<=m):
   Rep w M ρ (.sl id off n sz c) (.slice (some ⟨b,off,none⟩) n cap)
 |ptrDead (id off b:Nat) (h:ρ id= .dead):Rep w M ρ (.ptr id off) (.pointer (some ⟨b,off,none⟩))
 |ptrAt (id off b:Nat) (h:ρ id= .here b) (hs:∃x,w.shape? b=some x):Rep w M ρ (.ptr id off) (.pointer (some ⟨b,off,none⟩))
 |agg (cs:List AV) (vs:Array Value) (hl:vs.size=cs.length)
   (hrep:∀(j:Nat) (a:AV) (v:Value),cs[j]?=some a->vs[j]?=some v->Rep w M ρ a v):Rep w M ρ (.agg cs) (.agg vs)
 |tup (cs:List AV) (vs:Array Value) (hl:vs.size=cs.length)
   (hrep:∀(j:Nat) (a:AV) (v:Value),cs[j]?=some a->vs[j]?=some v->Rep w M ρ a v):Rep w M ρ (.tup cs) (.tuple vs)
 |clo (f:FuncId) (cs:List AV) (vs:Array Value) (hf:f<65536) (hl:vs.size=cs.length)
   (hrep:∀(j:Nat) (a:AV) (v:Value),cs[j]?=some a->vs[j]?=some v->Rep w M ρ a v):Rep w M ρ (.clo f cs) (.func (.func f) #[] vs)
 |bnd (f:FuncId) (cs:List AV) (vs:Array Value) (hf:f<65536/\f≠4095) (hl:vs.size=cs.length)
   (hrep:∀(j:Nat) (a:AV) (v:Value),cs[j]?=some a->vs[j]?=some v->Rep w M ρ a v):Rep w M ρ (.clo (65536+f) cs) (.func (.func f) vs #[])
 |mapDead (id b:Nat) (h:ρ id= .dead):Rep w M ρ (.clo 131074 [.ptr id 0]) (.map (some b))
 |mapAt (id b:Nat) (h:ρ id= .here b) (hs:w.shape? b=none):Rep w M ρ (.clo 131074 [.ptr id 0]) (.map (some b))
 |ydDead (id b:Nat) (h:ρ id= .dead):Rep w M ρ (.clo 131075 [.ptr id 0]) (.func (.yield b) #[] #[])
 |ydAt (id b:Nat) (h:ρ id= .here b) (hs:w.shape? b=none):Rep w M ρ (.clo 131075 [.ptr id 0]) (.func (.yield b) #[] #[])
 |ydF (id:Nat) (v:Value) (h:Rep w M ρ (.clo 131075 [.ptr id 0]) v):Rep w M ρ (.clo 69631 [.clo 131075 [.ptr id 0]]) v
def Mu(F:Nat->Prop)(ρ:Nat->RS)(b:Nat):Prop:=F b\/∃i,ρ i= .here b
def stOf:Nat->LoopState
 |0=> .ready
 |1=> .busy
 |2=> .done
 |_=> .exhausted
def jmOf:Nat->Option Code
 |0=>none
 |1=>some .ret
 |n+2=>some (.exit n)
def zje(k s p:Nat)(sn:List AV):List AV:=[.clo 131076 [.int .i64 k],.int .i64 s,.int .i64 p,.agg sn]
def jbr(Γ:Glob)(k s p:Nat)(r:Loop):Prop:=Γ.lp k r.tmps.size r.params r.assign r.body/\r.state=stOf s/\r.pending=jmOf p
def zll(Γ:Glob)(w:World)(M:Nat->Prop)(ρ:Nat->RS)(cs:List AV)(b:Nat):Prop:=
 (∃el m,w.shape? b=some (el,m)/\cs.length<=m/\(∀j,w.frozen? ⟨b,j,none⟩=false)/\∀(j:Nat) (a:AV),cs[j]?=some a->∃v,w.cell? ⟨b,j,none⟩=some v/\Rep w M ρ a v)\/
 (∃es:Array MapEntry,w.heap[b]?=some (.map es es.size)/\cs.length=2*es.size/\
  ∀(i:Nat) (e:MapEntry),es[i]?=some e->e.born=i/\∃k v,cs[2*i]?=some k/\cs[2*i+1]?=some v/\Rep w M ρ k e.key/\Rep w M ρ v e.val)\/
 (∃(r:Loop) (k s p:Nat) (sn:List AV),w.heap[b]?=some (.loop r)/\cs=zje k s p sn/\jbr Γ k s p r/\Rep w M ρ (.agg sn) (.agg ((Γ.lv k).map λt=>r.tmps.getD t undef).toArray))
structure HOK(Γ:Glob)(w:World)(F:Nat->Prop)(ρ:Nat->RS)(H:Heap):Prop where
 inj:∀i j b,ρ i= .here b->ρ j= .here b->i=j
 notF:∀i b,ρ i= .here b->¬F b
 fLt:∀b,F b->b<w.heap.size
 unborn:∀i,H.length<=i->ρ i= .unborn
 alive:∀i cs,H[i]?=some (some cs)->∃b,ρ i= .here b
 blk:∀i b,ρ i= .here b->∃cs,H[i]?=some (some cs)/\zll Γ w (Mu F ρ) ρ cs b
 glob:∀g cs,(g,cs)∈Γ.globs->IRep w (Mu F ρ) (.iptr cs 0) (.pointer (some ⟨g,0,none⟩))
structure Kept(V:Nat->Prop)(w w':World):Prop where
 size:w.heap.size<=w'.heap.size
 same:∀b,b<w.heap.size->¬V b->w'.heap[b]?=w.heap[b]?
 shape:∀b,b<w.heap.size->w'.shape? b=w.shape? b
 frozen:∀b j,b<w.heap.size->w'.frozen? ⟨b,j,none⟩=w.frozen? ⟨b,j,none⟩
 rest:w'.os=w.os/\w'.output=w.output
theorem Kept.refl(V:Nat->Prop)(w:World):Kept V w w:=⟨Nat.le_refl _,λ_ _ _=>rfl,λ_ _=>rfl,λ_ _ _=>rfl,rfl,rfl⟩
theorem Kept.trans{V V':Nat->Prop}{w w1 w2:World}(h:Kept V w w1)(h':Kept V' w1 w2)(hv:∀b,b<w.heap.size->V' b->V b):Kept V w w2 where
 size:=Nat.le_trans h.size h'.size
 same b hb hn:=(h'.same b (qX hb h.size) (λx=>hn (hv b hb x))).trans (h.same b hb hn)
 shape b hb:=(h'.shape b (qX hb h.size)).trans (h.shape b hb)
 frozen b j hb:=(h'.frozen b j (qX hb h.size)).trans (h.frozen b j hb)
 rest:=⟨h'.rest.1.trans h.rest.1,h'.rest.2.trans h.rest.2⟩
theorem Kept.mono{V V':Nat->Prop}{w w1:World}(h:Kept V w w1)(hv:∀b,b<w.heap.size->V b->V' b):Kept V' w w1 where
 size:=h.size
 same b hb hn:=h.same b hb (λx=>hn (hv b hb x))
 shape:=h.shape
 frozen:=h.frozen
 rest:=h.rest
theorem zhm{w w':World}{b:Nat}(h:w'.heap[b]?=w.heap[b]?)(o:Nat):w'.cell? ⟨b,o,none⟩=w.cell? ⟨b,o,none⟩:=by
 simp[World.cell?,h]
theorem zse{w:World}{b o:Nat}{v:Value}(h:w.cell? ⟨b,o,none⟩=some v):b<w.heap.size:=
 World.block_lt_of_cell? w _ h
theorem IRep.kept{w w':World}{M M' V:Nat->Prop}{a:AV}{v:Value}(h:IRep w M a v)(hk:Kept V w w')
  (hV:∀b,V b->M b) (hM:∀b,b<w.heap.size->M' b->M b):IRep w' M' a v:=by
 induction h with
 |bool b=>exact .bool b
 |int k n=>exact .int k n
 |str s=>exact .str s
 |anyb b=>exact .anyb b
 |junk v=>exact .junk v
 |nil p c hc=>exact .nil p c hc
 |vec cs n c b off cap vs hMb hcell hrep hn hc ih=>
  refine .vec cs n c b off cap vs (λhne hm=>?_) (λj hj=>?_) ih hn hc
  ·have h0:0<cs.length:=List.length_pos_iff.2 hne;exact hMb hne (hM b (zse (hcell 0 h0)) hm)
  ·have hlt:=zse (hcell j hj);have hne:cs≠[]:=by intro e;subst e;simp at hj
   rw[zhm (hk.same b hlt (λx=>hMb hne (hV b x)))];exact hcell j hj
 |iptr cs p b off vs hMb hcell hrep ih=>
  refine .iptr cs p b off vs (λhne hm=>?_) (λj hj=>?_) ih
  ·have h0:0<cs.length:=List.length_pos_iff.2 hne;exact hMb hne (hM b (zse (hcell 0 h0)) hm)
  ·have hlt:=zse (hcell j hj);have hne:cs≠[]:=by intro e;subst e;simp at hj
   rw[zhm (hk.same b hlt (λx=>hMb hne (hV b x)))];exact hcell j hj
 |agg cs vs hl hrep ih=>exact .agg cs vs hl ih
 |tup cs vs hl hrep ih=>exact .tup cs vs hl ih
 |clo f cs vs hf hl hrep ih=>exact .clo f cs vs hf hl ih
 |bnd f cs vs hf hl hrep ih=>exact .bnd f cs vs hf hl ih
 |nilp=>exact .nilp
 |nilf=>exact .nilf
theorem IRep.weaken{w:World}{M M':Nat->Prop}{a:AV}{v:Value}(h:IRep w M a v)(hM:∀b,b<w.heap.size->M' b->M b):IRep w M' a v:=
 h.kept (Kept.refl (λ_=>False) w) (λ_ x=>x.elim) hM
theorem Rep.kept{w w':World}{M M' V:Nat->Prop}{ρ ρ':Nat->RS}{a:AV}{v:Value}(h:Rep w M ρ a v)(hk:Kept V w w')
  (hV:∀b,V b->M b) (hM:∀b,b<w.heap.size->M' b->M b) (hlt:∀i b,ρ i= .here b->b<w.heap.size)
  (hρ:∀i,ρ i≠ .unborn->ρ' i=ρ i\/ρ' i= .dead):Rep w' M' ρ' a v:=by
 induction h with
 |imm a v h=>exact .imm a v (h.kept hk hV hM)
 |slDead id off n sz c b cap h hn hc=>
  exact .slDead id off n sz c b cap ((hρ id (by rw[h];simp)).elim (λe=>e.trans h) (λe=>e)) hn hc
 |slAt id off n sz c b cap el m h hs hn hc hm=>
  rcases hρ id (by rw[h];simp)with e | e
  ·exact .slAt id off n sz c b cap el m (e.trans h) (by rw[hk.shape b (hlt id b h)];exact hs) hn hc hm
  ·exact .slDead id off n sz c b cap e hn hc
 |ptrDead id off b h=>exact .ptrDead id off b ((hρ id (by rw[h];simp)).elim (λe=>e.trans h) (λe=>e))
 |ptrAt id off b h hs=>
  rcases hρ id (by rw[h];simp)with e | e
  ·exact .ptrAt id off b (e.trans h) (by rw[hk.shape b (hlt id b h)];exact hs)
  ·exact .ptrDead id off b e
 |mapDead id b h=>exact .mapDead id b ((hρ id (by rw[h];simp)).elim (λe=>e.trans h) (λe=>e))
 |mapAt id b h hs=>
  rcases hρ id (by rw[h];simp)with e | e
  ·exact .mapAt id b (e.trans h) (by rw[hk.shape b (hlt id b h)];exact hs)
  ·exact .mapDead id b e
 |ydDead id b h=>exact .ydDead id b ((hρ id (by rw[h];simp)).elim (λe=>e.trans h) (λe=>e))
 |ydAt id b h hs=>
  rcases hρ id (by rw[h];simp)with e | e
  ·exact .ydAt id b (e.trans h) (by rw[hk.shape b (hlt id b h)];exact hs)
  ·exact .ydDead id b e
 |ydF id v h ih=>exact .ydF id v ih
 |agg cs vs hl hrep ih=>exact .agg cs vs hl ih
 |tup cs vs hl hrep ih=>exact .tup cs vs hl ih
 |clo f cs vs hf hl hrep ih=>exact .clo f cs vs hf hl ih
 |bnd f cs vs hf hl hrep ih=>exact .bnd f cs vs hf hl ih
def AV.closed:AV->Bool
 |.sl .. => false
 |.ptr .. => false
 |.agg cs=>closedL cs
 |.tup cs=>closedL cs
 |.clo _ cs=>closedL cs
 |_=>true
 where closedL:List AV->Bool
 | []=>true
 |a::r=>a.closed && closedL r
theorem zfg{cs:List AV}(h:AV.closed.closedL cs=true):∀(j:Nat) (a:AV),cs[j]?=some a->a.closed=true:=by
 induction cs with
 |nil=>intro j a hj;simp at hj
 |cons x r ih=>
  simp only[AV.closed.closedL,Bool.and_eq_true]at h;intro j a hj;cases j with
  |zero=>simp at hj;subst hj;exact h.1
  |succ j=>exact ih h.2 j a (by simpa using hj)
theorem Rep.toI{w:World}{M:Nat->Prop}{ρ:Nat->RS}{a:AV}{v:Value}(h:Rep w M ρ a v)(hc:a.closed=true):IRep w M a v:=by
 induction h with
 |imm a v h=>exact h
 |slDead id off n sz c b cap h hn hc'=>simp[AV.closed]at hc
 |slAt id off n sz c b cap el m h hs hn hc' hm=>simp[AV.closed]at hc
 |ptrDead id off b h=>simp[AV.closed]at hc
 |ptrAt id off b h hs=>simp[AV.closed]at hc
 |mapDead id b h=>simp[AV.closed,AV.closed.closedL]at hc
 |mapAt id b h hs=>simp[AV.closed,AV.closed.closedL]at hc
 |ydDead id b h=>simp[AV.closed,AV.closed.closedL]at hc
 |ydAt id b h hs=>simp[AV.closed,AV.closed.closedL]at hc
 |ydF id v h ih=>simp[AV.closed,AV.closed.closedL]at hc
 |agg cs vs hl hrep ih=>exact .agg cs vs hl (λj a v h1 h2=>ih j a v h1 h2 (zfg (by simpa[AV.closed]using hc) j a h1))
 |tup cs vs hl hrep ih=>exact .tup cs vs hl (λj a v h1 h2=>ih j a v h1 h2 (zfg (by simpa[AV.closed]using hc) j a h1))
 |clo f cs vs hf hl hrep ih=>exact .clo f cs vs hf hl (λj a v h1 h2=>ih j a v h1 h2 (zfg (by simpa[AV.closed]using hc) j a h1))
 |bnd f cs vs hf hl hrep ih=>exact .bnd f cs vs hf hl (λj a v h1 h2=>ih j a v h1 h2 (zfg (by simpa[AV.closed]using hc) j a h1))
theorem jbs{f:Nat}{l cs:List AV}(hf:f<65536)(h:AV.clo 131075 l=AV.clo f cs):False:=by
 have e:(131075:Nat)=f:=(AV.clo.inj h).1;omega
theorem jbt{f:Nat}{l cs:List AV}(hf:f<65536)(h:AV.clo 131075 l=AV.clo (65536+f) cs):False:=by
 have e:(131075:Nat)=65536+f:=(AV.clo.inj h).1;omega
theorem qdx{w:World}{M:Nat->Prop}{l:List AV}{v:Value}(h:IRep w M (.clo 131075 l) v):False:=by
 generalize ha:AV.clo 131075 l=a at h;cases h with
 |clo f cs vs hf=>exact jbs hf ha
 |bnd f cs vs hf=>exact jbt hf.1 ha
 |_=>simp at ha
theorem Rep.unbornI{w:World}{M:Nat->Prop}{ρ:Nat->RS}{a:AV}{v:Value}(h:Rep w M ρ a v)(hu:∀i,ρ i= .unborn):IRep w M a v:=by
 induction h with
 |imm a v h=>exact h
 |slDead id off n sz c b cap h hn hc'=>rw[hu]at h;simp at h
 |slAt id off n sz c b cap el m h hs hn hc' hm=>rw[hu]at h;simp at h
 |ptrDead id off b h=>rw[hu]at h;simp at h
 |ptrAt id off b h hs=>rw[hu]at h;simp at h
 |mapDead id b h=>rw[hu]at h;simp at h
 |mapAt id b h hs=>rw[hu]at h;simp at h
 |ydDead id b h=>rw[hu]at h;simp at h
 |ydAt id b h hs=>rw[hu]at h;simp at h
 |ydF id v h ih=>exact(qdx ih).elim
 |agg cs vs hl hrep ih=>exact .agg cs vs hl ih
 |tup cs vs hl hrep ih=>exact .tup cs vs hl ih
 |clo f cs vs hf hl hrep ih=>exact .clo f cs vs hf hl ih
 |bnd f cs vs hf hl hrep ih=>exact .bnd f cs vs hf hl ih
theorem zsf{w:World}{b:Nat}{x:TypeId×Nat}(h:w.shape? b=some x):b<w.heap.size:=by
 unfold World.shape? at h;rcases qZ b w.heap.size with h' | h'
 ·exact h'
 ·simp[Array.getElem?_eq_none h']at h
theorem zll.lt{Γ:Glob}{w:World}{M:Nat->Prop}{ρ:Nat->RS}{cs:List AV}{b:Nat}(h:zll Γ w M ρ cs b):b<w.heap.size:=by
 rcases h with⟨el,m,hs,_⟩ | ⟨es,hs,_⟩ | ⟨r,k,s,p,sn,hs,_⟩
 ·exact zsf hs
 ·rcases qZ b w.heap.size with h' | h'
  ·exact h'
  ·rw[Array.getElem?_eq_none h']at hs;simp at hs
 ·rcases qZ b w.heap.size with h' | h'
  ·exact h'
  ·rw[Array.getElem?_eq_none h']at hs;simp at hs
theorem zll.mono{Γ:Glob}{w w':World}{M M':Nat->Prop}{ρ ρ':Nat->RS}{cs:List AV}{b:Nat}(h:zll Γ w M ρ cs b)(hw:w'.heap[b]?=w.heap[b]?)
  (hr:∀a v,a∈cs->Rep w M ρ a v->Rep w' M' ρ' a v):zll Γ w' M' ρ' cs b:=by
 rcases h with⟨el,m,h1,h2,h3,h4⟩ | ⟨es,h1,h2,h3⟩ | ⟨r,k,s,p,sn,h1,h2,h3,h4⟩
 ·refine .inl ⟨el,m,by simpa[World.shape?,hw]using h1,h2,λj=>by simpa[World.frozen?,hw]using h3 j,λj a hj=>?_⟩;obtain⟨v,hv,hv'⟩:=h4 j a hj;exact⟨v,by rw[zhm hw];exact hv,hr _ _ (qQ hj) hv'⟩
 ·refine .inr (.inl ⟨es,by rw[hw];exact h1,h2,λi e he=>?_⟩);obtain⟨g0,k,v,g1,g2,g3,g4⟩:=h3 i e he;exact⟨g0,k,v,g1,g2,hr _ _ (qQ g1) g3,hr _ _ (qQ g2) g4⟩
 ·exact .inr (.inr ⟨r,k,s,p,sn,by rw[hw];exact h1,h2,h3,hr _ _ (by rw[h2];simp[zje]) h4⟩)
theorem zll.cells{Γ:Glob}{w:World}{M:Nat->Prop}{ρ:Nat->RS}{cs:List AV}{b:Nat}(h:zll Γ w M ρ cs b)(hs:∃x,w.shape? b=some x):
  ∃el m,w.shape? b=some (el,m)/\cs.length<=m/\(∀j,w.frozen? ⟨b,j,none⟩=false)/\∀(j:Nat) (a:AV),cs[j]?=some a->∃v,w.cell? ⟨b,j,none⟩=some v/\Rep w M ρ a v:=by
 rcases h with h | ⟨es,h1,_⟩ | ⟨r,k,s,p,sn,h1,_⟩
 ·exact h
 ·obtain⟨x,hx⟩:=hs;simp[World.shape?,h1]at hx
 ·obtain⟨x,hx⟩:=hs;simp[World.shape?,h1]at hx
def zhn:List AV->Bool
 |.clo 131076 _::_=>false
 |_=>true
theorem zll.map{Γ:Glob}{w:World}{M:Nat->Prop}{ρ:Nat->RS}{cs:List AV}{b:Nat}(h:zll Γ w M ρ cs b)(hs:w.shape? b=none)(hn:zhn cs=true):
  ∃es:Array MapEntry,w.heap[b]?=some (.map es es.size)/\cs.length=2*es.size/\
  ∀(i:Nat) (e:MapEntry),es[i]?=some e->e.born=i/\∃k v,cs[2*i]?=some k/\cs[2*i+1]?=some v/\Rep w M ρ k e.key/\Rep w M ρ v e.val:=by
 rcases h with⟨el,m,h1,_⟩ | h | ⟨r,k,s,p,sn,h1,h2,_⟩
 ·rw[hs]at h1;simp at h1
 ·exact h
 ·rw[h2]at hn;simp[zje,zhn]at hn
theorem HOK.lt{Γ:Glob}{w:World}{F:Nat->Prop}{ρ:Nat->RS}{H:Heap}(h:HOK Γ w F ρ H):∀i b,ρ i= .here b->b<w.heap.size:=by
 intro i b hb;obtain⟨cs,_,hb⟩:=h.blk i b hb;exact hb.lt
