/- A part of the proof. -/
import Derived.Orders
import Derived.Laws.World
import Derived.Laws.Sem
import Derived.Laws.Append
import Derived.Laws.BytesString
import Derived.IntWalk
import Derived.Laws.StructEq
import Derived.ChangeKeysEq
import Derived.MapKept
import Derived.Laws.Externs
import Derived.KernelRfl
set_option linter.all false
open Option renaming bind_eq_some_iff -> qX, map_eq_some_iff -> qO, map_some -> xZ
open Option.some renaming injEq -> qZ
open List renaming getElem?_set_ne -> qJ, getElem?_eq_none -> qK, getElem?_set_self -> qW, getElem?_append_left -> qY, getElem?_append_right -> qU, drop_eq_nil_of_le -> qD, getElem?_take -> qE, replicate_succ -> qG, getElem?_drop -> qI, getElem?_replicate -> qL, mapM_cons -> qN, zipIdx_cons -> qS, mem_of_getElem? -> xQ, drop_eq_getElem_cons -> xW, flatten_cons -> xV, length_cons -> xA, range'_succ -> xB, foldl_cons -> xE, length_replicate -> xG, range_eq_range' -> xH, append_toArray -> xL, map_cons -> xM, ext_getElem? -> xO, set_set -> xP, size_toArray -> xT
open Nat renaming lt_or_ge -> qV, le_refl -> qA, mul_le_mul_right -> qC, lt_of_lt_of_le -> qH, add_assoc -> qT, add_mul -> xX, le_trans -> xJ, le_of_add_le_add_left -> xK, zero_le -> xY, add_sub_cancel_left -> xC, ne_of_lt -> xD, add_left_cancel -> xI, sub_self -> xS, zero_add -> yQ, mul_one -> yX
open Bool renaming false_eq_true -> qB, and_eq_true -> qP, not_true -> xU
open Int renaming eq_ofNat_of_zero_le -> qM
namespace Go.AL
open Go
inductive AV where
 |bool (b:Bool)
 |int (k:IntKind) (n:Int)
 |str (s:ByteArray)
 |vec (cs:List AV) (n:Nat) (cap:Option Nat)
 |sl (id off n sz:Nat) (cap:Option Nat)
 |ptr (id off:Nat)
 |iptr (cs:List AV) (p:Nat)
 |clo (f:FuncId) (caps:List AV)
 |agg (cs:List AV)
 |tup (vs:List AV)
 |anyb
 |junk
 deriving Inhabited
inductive RS where
 |unborn
 |dead
 |here (b:Nat)
abbrev Heap:=List (Option (List AV))
structure Glob where
 globs:List (Nat×List AV)
 lp:Nat->Nat->Array Tmp->Code->Code->Prop
 lv:Nat->List Nat
inductive IRep(w:World)(M:Nat->Prop):AV->Value->Prop
 |bool (b:Bool):IRep w M (.bool b) (.bool b)
 |int (k:IntKind) (n:Int):IRep w M (.int k n) (.int k n)
 |str (s:ByteArray):IRep w M (.str s) (.string s)
 |anyb (b:Bool):IRep w M .anyb (.bool b)
 |junk (v:Value):IRep w M .junk v
 |nil (p:Option Addr) (c:Option Nat) (hc:∀k,c=some k->k=0):IRep w M (.vec [] 0 c) (.slice p 0 0)
 |vec (cs:List AV) (n:Nat) (c:Option Nat) (b off cap:Nat) (vs:Nat->Value)
   (hM:cs≠[]->¬M b)
   (hcell:∀j,j<cs.length->w.cell? ⟨b,off+j,none⟩=some (vs j))
   (hrep:∀(j:Nat) (a:AV),cs[j]?=some a->IRep w M a (vs j))
   (hn:n<=cap) (hc:∀k,c=some k->cap=k):
   IRep w M (.vec cs n c) (.slice (some ⟨b,off,none⟩) n cap)
 |iptr (cs:List AV) (p b off:Nat) (vs:Nat->Value)
   (hM:cs≠[]->¬M b)
   (hcell:∀j,j<cs.length->w.cell? ⟨b,off+j,none⟩=some (vs j))
   (hrep:∀(j:Nat) (a:AV),cs[j]?=some a->IRep w M a (vs j)):
   IRep w M (.iptr cs p) (.pointer (some ⟨b,off+p,none⟩))
 |agg (cs:List AV) (vs:Array Value) (hl:vs.size=cs.length)
   (hrep:∀(j:Nat) (a:AV) (v:Value),cs[j]?=some a->vs[j]?=some v->IRep w M a v):IRep w M (.agg cs) (.agg vs)
 |tup (cs:List AV) (vs:Array Value) (hl:vs.size=cs.length)
   (hrep:∀(j:Nat) (a:AV) (v:Value),cs[j]?=some a->vs[j]?=some v->IRep w M a v):IRep w M (.tup cs) (.tuple vs)
 |clo (f:FuncId) (cs:List AV) (vs:Array Value) (hf:f<65536) (hl:vs.size=cs.length)
   (hrep:∀(j:Nat) (a:AV) (v:Value),cs[j]?=some a->vs[j]?=some v->IRep w M a v):IRep w M (.clo f cs) (.func (.func f) #[] vs)
 |bnd (f:FuncId) (cs:List AV) (vs:Array Value) (hf:f<65536/\f≠4095) (hl:vs.size=cs.length)
   (hrep:∀(j:Nat) (a:AV) (v:Value),cs[j]?=some a->vs[j]?=some v->IRep w M a v):IRep w M (.clo (65536+f) cs) (.func (.func f) vs #[])
 |nilp:IRep w M (.clo 131072 []) (.pointer none)
 |nilf:IRep w M (.clo 131073 []) .nilFunc
inductive Rep(w:World)(M:Nat->Prop)(ρ:Nat->RS):AV->Value->Prop
 |imm (a:AV) (v:Value) (h:IRep w M a v):Rep w M ρ a v
 |slDead (id off n sz:Nat) (c:Option Nat) (b cap:Nat) (h:ρ id= .dead) (hn:n<=cap) (hc:∀k,c=some k->cap=k):
   Rep w M ρ (.sl id off n sz c) (.slice (some ⟨b,off,none⟩) n cap)
 |slAt (id off n sz:Nat) (c:Option Nat) (b cap:Nat) (el:TypeId) (m:Nat) (h:ρ id= .here b) (hs:w.shape? b=some (el,m))
   (hn:n<=cap) (hc:∀k,c=some k->cap=k) (hm:off+cap*sz<=m):
   Rep w M ρ (.sl id off n sz c) (.slice (some ⟨b,off,none⟩) n cap)
 |ptrDead (id off b:Nat) (h:ρ id= .dead):Rep w M ρ (.ptr id off) (.pointer (some ⟨b,off,none⟩))
 |ptrAt (id off b:Nat) (h:ρ id= .here b) (hs:∃x,w.shape? b=some x):Rep w M ρ (.ptr id off) (.pointer (some ⟨b,off,none⟩))
 |agg (cs:List AV) (vs:Array Value) (hl:vs.size=cs.length)
   (hrep:∀(j:Nat) (a:AV) (v:Value),cs[j]?=some a->vs[j]?=some v->Rep w M ρ a v):Rep w M ρ (.agg cs) (.agg vs)
 |tup (cs:List AV) (vs:Array Value) (hl:vs.size=cs.length)
   (hrep:∀(j:Nat) (a:AV) (v:Value),cs[j]?=some a->vs[j]?=some v->Rep w M ρ a v):Rep w M ρ (.tup cs) (.tuple vs)
 |clo (f:FuncId) (cs:List AV) (vs:Array Value) (hf:f<65536) (hl:vs.size=cs.length)
   (hrep:∀(j:Nat) (a:AV) (v:Value),cs[j]?=some a->vs[j]?=some v->Rep w M ρ a v):Rep w M ρ (.clo f cs) (.func (.func f) #[] vs)
 |bnd (f:FuncId) (cs:List AV) (vs:Array Value) (hf:f<65536/\f≠4095) (hl:vs.size=cs.length)
   (hrep:∀(j:Nat) (a:AV) (v:Value),cs[j]?=some a->vs[j]?=some v->Rep w M ρ a v):Rep w M ρ (.clo (65536+f) cs) (.func (.func f) vs #[])
 |mapDead (id b:Nat) (h:ρ id= .dead):Rep w M ρ (.clo 131074 [.ptr id 0]) (.map (some b))
 |mapAt (id b:Nat) (h:ρ id= .here b) (hs:w.shape? b=none):Rep w M ρ (.clo 131074 [.ptr id 0]) (.map (some b))
 |ydDead (id b:Nat) (h:ρ id= .dead):Rep w M ρ (.clo 131075 [.ptr id 0]) (.func (.yield b) #[] #[])
 |ydAt (id b:Nat) (h:ρ id= .here b) (hs:w.shape? b=none):Rep w M ρ (.clo 131075 [.ptr id 0]) (.func (.yield b) #[] #[])
 |ydF (id:Nat) (v:Value) (h:Rep w M ρ (.clo 131075 [.ptr id 0]) v):Rep w M ρ (.clo 69631 [.clo 131075 [.ptr id 0]]) v
def Mu(F:Nat->Prop)(ρ:Nat->RS)(b:Nat):Prop:=F b\/∃i,ρ i= .here b
def stOf:Nat->LoopState
 |0=> .ready
 |1=> .busy
 |2=> .done
 |_=> .exhausted
def jmOf:Nat->Option Code
 |0=>none
 |1=>some .ret
 |n+2=>some (.exit n)
def zbh(k s p:Nat)(sn:List AV):List AV:=[.clo 131076 [.int .i64 k],.int .i64 s,.int .i64 p,.agg sn]
def zvi(Γ:Glob)(k s p:Nat)(r:Loop):Prop:=Γ.lp k r.tmps.size r.params r.assign r.body/\r.state=stOf s/\r.pending=jmOf p
def zjv(Γ:Glob)(w:World)(M:Nat->Prop)(ρ:Nat->RS)(cs:List AV)(b:Nat):Prop:=
 (∃el m,w.shape? b=some (el,m)/\cs.length<=m/\(∀j,w.frozen? ⟨b,j,none⟩=false)/\∀(j:Nat) (a:AV),cs[j]?=some a->∃v,w.cell? ⟨b,j,none⟩=some v/\Rep w M ρ a v)\/
 (∃es:Array MapEntry,w.heap[b]?=some (.map es es.size)/\cs.length=2*es.size/\
  ∀(i:Nat) (e:MapEntry),es[i]?=some e->e.born=i/\∃k v,cs[2*i]?=some k/\cs[2*i+1]?=some v/\Rep w M ρ k e.key/\Rep w M ρ v e.val)\/
 (∃(r:Loop) (k s p:Nat) (sn:List AV),w.heap[b]?=some (.loop r)/\cs=zbh k s p sn/\zvi Γ k s p r/\Rep w M ρ (.agg sn) (.agg ((Γ.lv k).map λt=>r.tmps.getD t undef).toArray))
structure HOK(Γ:Glob)(w:World)(F:Nat->Prop)(ρ:Nat->RS)(H:Heap):Prop where
 inj:∀i j b,ρ i= .here b->ρ j= .here b->i=j
 notF:∀i b,ρ i= .here b->¬F b
 fLt:∀b,F b->b<w.heap.size
 unborn:∀i,H.length<=i->ρ i= .unborn
 alive:∀i cs,H[i]?=some (some cs)->∃b,ρ i= .here b
 blk:∀i b,ρ i= .here b->∃cs,H[i]?=some (some cs)/\zjv Γ w (Mu F ρ) ρ cs b
 glob:∀g cs,(g,cs)∈Γ.globs->IRep w (Mu F ρ) (.iptr cs 0) (.pointer (some ⟨g,0,none⟩))
structure Kept(V:Nat->Prop)(w w':World):Prop where
 size:w.heap.size<=w'.heap.size
 same:∀b,b<w.heap.size->¬V b->w'.heap[b]?=w.heap[b]?
 shape:∀b,b<w.heap.size->w'.shape? b=w.shape? b
 frozen:∀b j,b<w.heap.size->w'.frozen? ⟨b,j,none⟩=w.frozen? ⟨b,j,none⟩
 rest:w'.os=w.os/\w'.output=w.output
theorem Kept.refl(V:Nat->Prop)(w:World):Kept V w w:=⟨qA _,λ_ _ _=>rfl,λ_ _=>rfl,λ_ _ _=>rfl,rfl,rfl⟩
theorem Kept.trans{V V':Nat->Prop}{w w1 w2:World}(h:Kept V w w1)(h':Kept V' w1 w2)(hv:∀b,b<w.heap.size->V' b->V b):Kept V w w2 where
 size:=xJ h.size h'.size
 same b hb hn:=(h'.same b (qH hb h.size) (λx=>hn (hv b hb x))).trans (h.same b hb hn)
 shape b hb:=(h'.shape b (qH hb h.size)).trans (h.shape b hb)
 frozen b j hb:=(h'.frozen b j (qH hb h.size)).trans (h.frozen b j hb)
 rest:=⟨h'.rest.1.trans h.rest.1,h'.rest.2.trans h.rest.2⟩
theorem Kept.mono{V V':Nat->Prop}{w w1:World}(h:Kept V w w1)(hv:∀b,b<w.heap.size->V b->V' b):Kept V' w w1 where
 size:=h.size
 same b hb hn:=h.same b hb (λx=>hn (hv b hb x))
 shape:=h.shape
 frozen:=h.frozen
 rest:=h.rest
theorem zhz{w w':World}{b:Nat}(h:w'.heap[b]?=w.heap[b]?)(o:Nat):w'.cell? ⟨b,o,none⟩=w.cell? ⟨b,o,none⟩:=by
 simp[World.cell?,h]
theorem zsw{w:World}{b o:Nat}{v:Value}(h:w.cell? ⟨b,o,none⟩=some v):b<w.heap.size:=
 World.block_lt_of_cell? w _ h
theorem IRep.kept{w w':World}{M M' V:Nat->Prop}{a:AV}{v:Value}(h:IRep w M a v)(hk:Kept V w w')
  (hV:∀b,V b->M b) (hM:∀b,b<w.heap.size->M' b->M b):IRep w' M' a v:=by
 induction h with
 |bool b=>exact .bool b
 |int k n=>exact .int k n
 |str s=>exact .str s
 |anyb b=>exact .anyb b
 |junk v=>exact .junk v
 |nil p c hc=>exact .nil p c hc
 |vec cs n c b off cap vs hMb hcell hrep hn hc ih=>
  refine .vec cs n c b off cap vs (λhne hm=>?_) (λj hj=>?_) ih hn hc
  ·have h0:0<cs.length:=List.length_pos_iff.2 hne;exact hMb hne (hM b (zsw (hcell 0 h0)) hm)
  ·have hlt:=zsw (hcell j hj);have hne:cs≠[]:=by intro e;subst e;simp at hj
   rw[zhz (hk.same b hlt (λx=>hMb hne (hV b x)))];exact hcell j hj
 |iptr cs p b off vs hMb hcell hrep ih=>
  refine .iptr cs p b off vs (λhne hm=>?_) (λj hj=>?_) ih
  ·have h0:0<cs.length:=List.length_pos_iff.2 hne;exact hMb hne (hM b (zsw (hcell 0 h0)) hm)
  ·have hlt:=zsw (hcell j hj);have hne:cs≠[]:=by intro e;subst e;simp at hj
   rw[zhz (hk.same b hlt (λx=>hMb hne (hV b x)))];exact hcell j hj
 |agg cs vs hl hrep ih=>exact .agg cs vs hl ih
 |tup cs vs hl hrep ih=>exact .tup cs vs hl ih
 |clo f cs vs hf hl hrep ih=>exact .clo f cs vs hf hl ih
 |bnd f cs vs hf hl hrep ih=>exact .bnd f cs vs hf hl ih
 |nilp=>exact .nilp
 |nilf=>exact .nilf
theorem IRep.weaken{w:World}{M M':Nat->Prop}{a:AV}{v:Value}(h:IRep w M a v)(hM:∀b,b<w.heap.size->M' b->M b):IRep w M' a v:=
 h.kept (Kept.refl (λ_=>False) w) (λ_ x=>x.elim) hM
theorem Rep.kept{w w':World}{M M' V:Nat->Prop}{ρ ρ':Nat->RS}{a:AV}{v:Value}(h:Rep w M ρ a v)(hk:Kept V w w')
  (hV:∀b,V b->M b) (hM:∀b,b<w.heap.size->M' b->M b) (hlt:∀i b,ρ i= .here b->b<w.heap.size)
  (hρ:∀i,ρ i≠ .unborn->ρ' i=ρ i\/ρ' i= .dead):Rep w' M' ρ' a v:=by
 induction h with
 |imm a v h=>exact .imm a v (h.kept hk hV hM)
 |slDead id off n sz c b cap h hn hc=>
  exact .slDead id off n sz c b cap ((hρ id (by rw[h];simp)).elim (λe=>e.trans h) (λe=>e)) hn hc
 |slAt id off n sz c b cap el m h hs hn hc hm=>
  rcases hρ id (by rw[h];simp)with e | e
  ·exact .slAt id off n sz c b cap el m (e.trans h) (by rw[hk.shape b (hlt id b h)];exact hs) hn hc hm
  ·exact .slDead id off n sz c b cap e hn hc
 |ptrDead id off b h=>exact .ptrDead id off b ((hρ id (by rw[h];simp)).elim (λe=>e.trans h) (λe=>e))
 |ptrAt id off b h hs=>
  rcases hρ id (by rw[h];simp)with e | e
  ·exact .ptrAt id off b (e.trans h) (by rw[hk.shape b (hlt id b h)];exact hs)
  ·exact .ptrDead id off b e
 |mapDead id b h=>exact .mapDead id b ((hρ id (by rw[h];simp)).elim (λe=>e.trans h) (λe=>e))
 |mapAt id b h hs=>
  rcases hρ id (by rw[h];simp)with e | e
  ·exact .mapAt id b (e.trans h) (by rw[hk.shape b (hlt id b h)];exact hs)
  ·exact .mapDead id b e
 |ydDead id b h=>exact .ydDead id b ((hρ id (by rw[h];simp)).elim (λe=>e.trans h) (λe=>e))
 |ydAt id b h hs=>
  rcases hρ id (by rw[h];simp)with e | e
  ·exact .ydAt id b (e.trans h) (by rw[hk.shape b (hlt id b h)];exact hs)
  ·exact .ydDead id b e
 |ydF id v h ih=>exact .ydF id v ih
 |agg cs vs hl hrep ih=>exact .agg cs vs hl ih
 |tup cs vs hl hrep ih=>exact .tup cs vs hl ih
 |clo f cs vs hf hl hrep ih=>exact .clo f cs vs hf hl ih
 |bnd f cs vs hf hl hrep ih=>exact .bnd f cs vs hf hl ih
def AV.closed:AV->Bool
 |.sl .. => false
 |.ptr .. => false
 |.agg cs=>closedL cs
 |.tup cs=>closedL cs
 |.clo _ cs=>closedL cs
 |_=>true
 where closedL:List AV->Bool
 | []=>true
 |a::r=>a.closed && closedL r
theorem zft{cs:List AV}(h:AV.closed.closedL cs=true):∀(j:Nat) (a:AV),cs[j]?=some a->a.closed=true:=by
 induction cs with
 |nil=>intro j a hj;simp at hj
 |cons x r ih=>
  simp only[AV.closed.closedL,qP]at h;intro j a hj;cases j with
  |zero=>simp at hj;subst hj;exact h.1
  |succ j=>exact ih h.2 j a (by simpa using hj)
theorem Rep.toI{w:World}{M:Nat->Prop}{ρ:Nat->RS}{a:AV}{v:Value}(h:Rep w M ρ a v)(hc:a.closed=true):IRep w M a v:=by
 induction h with
 |imm a v h=>exact h
 |slDead id off n sz c b cap h hn hc'=>simp[AV.closed]at hc
 |slAt id off n sz c b cap el m h hs hn hc' hm=>simp[AV.closed]at hc
 |ptrDead id off b h=>simp[AV.closed]at hc
 |ptrAt id off b h hs=>simp[AV.closed]at hc
 |mapDead id b h=>simp[AV.closed,AV.closed.closedL]at hc
 |mapAt id b h hs=>simp[AV.closed,AV.closed.closedL]at hc
 |ydDead id b h=>simp[AV.closed,AV.closed.closedL]at hc
 |ydAt id b h hs=>simp[AV.closed,AV.closed.closedL]at hc
 |ydF id v h ih=>simp[AV.closed,AV.closed.closedL]at hc
 |agg cs vs hl hrep ih=>exact .agg cs vs hl (λj a v h1 h2=>ih j a v h1 h2 (zft (by simpa[AV.closed]using hc) j a h1))
 |tup cs vs hl hrep ih=>exact .tup cs vs hl (λj a v h1 h2=>ih j a v h1 h2 (zft (by simpa[AV.closed]using hc) j a h1))
 |clo f cs vs hf hl hrep ih=>exact .clo f cs vs hf hl (λj a v h1 h2=>ih j a v h1 h2 (zft (by simpa[AV.closed]using hc) j a h1))
 |bnd f cs vs hf hl hrep ih=>exact .bnd f cs vs hf hl (λj a v h1 h2=>ih j a v h1 h2 (zft (by simpa[AV.closed]using hc) j a h1))
theorem xwq{f:Nat}{l cs:List AV}(hf:f<65536)(h:AV.clo 131075 l=AV.clo f cs):False:=by
 have e:(131075:Nat)=f:=(AV.clo.inj h).1;omega
theorem xwr{f:Nat}{l cs:List AV}(hf:f<65536)(h:AV.clo 131075 l=AV.clo (65536+f) cs):False:=by
 have e:(131075:Nat)=65536+f:=(AV.clo.inj h).1;omega
theorem qex{w:World}{M:Nat->Prop}{l:List AV}{v:Value}(h:IRep w M (.clo 131075 l) v):False:=by
 generalize ha:AV.clo 131075 l=a at h;cases h with
 |clo f cs vs hf=>exact xwq hf ha
 |bnd f cs vs hf=>exact xwr hf.1 ha
 |_=>simp at ha
theorem Rep.unbornI{w:World}{M:Nat->Prop}{ρ:Nat->RS}{a:AV}{v:Value}(h:Rep w M ρ a v)(hu:∀i,ρ i= .unborn):IRep w M a v:=by
 induction h with
 |imm a v h=>exact h
 |slDead id off n sz c b cap h hn hc'=>rw[hu]at h;simp at h
 |slAt id off n sz c b cap el m h hs hn hc' hm=>rw[hu]at h;simp at h
 |ptrDead id off b h=>rw[hu]at h;simp at h
 |ptrAt id off b h hs=>rw[hu]at h;simp at h
 |mapDead id b h=>rw[hu]at h;simp at h
 |mapAt id b h hs=>rw[hu]at h;simp at h
 |ydDead id b h=>rw[hu]at h;simp at h
 |ydAt id b h hs=>rw[hu]at h;simp at h
 |ydF id v h ih=>exact(qex ih).elim
 |agg cs vs hl hrep ih=>exact .agg cs vs hl ih
 |tup cs vs hl hrep ih=>exact .tup cs vs hl ih
 |clo f cs vs hf hl hrep ih=>exact .clo f cs vs hf hl ih
 |bnd f cs vs hf hl hrep ih=>exact .bnd f cs vs hf hl ih
theorem zsx{w:World}{b:Nat}{x:TypeId×Nat}(h:w.shape? b=some x):b<w.heap.size:=by
 unfold World.shape? at h;rcases qV b w.heap.size with h' | h'
 ·exact h'
 ·simp[Array.getElem?_eq_none h']at h
theorem zjv.lt{Γ:Glob}{w:World}{M:Nat->Prop}{ρ:Nat->RS}{cs:List AV}{b:Nat}(h:zjv Γ w M ρ cs b):b<w.heap.size:=by
 rcases h with⟨el,m,hs,_⟩ | ⟨es,hs,_⟩ | ⟨r,k,s,p,sn,hs,_⟩
 ·exact zsx hs
 ·rcases qV b w.heap.size with h' | h'
  ·exact h'
  ·rw[Array.getElem?_eq_none h']at hs;simp at hs
 ·rcases qV b w.heap.size with h' | h'
  ·exact h'
  ·rw[Array.getElem?_eq_none h']at hs;simp at hs
theorem zjv.mono{Γ:Glob}{w w':World}{M M':Nat->Prop}{ρ ρ':Nat->RS}{cs:List AV}{b:Nat}(h:zjv Γ w M ρ cs b)(hw:w'.heap[b]?=w.heap[b]?)
  (hr:∀a v,a∈cs->Rep w M ρ a v->Rep w' M' ρ' a v):zjv Γ w' M' ρ' cs b:=by
 rcases h with⟨el,m,h1,h2,h3,h4⟩ | ⟨es,h1,h2,h3⟩ | ⟨r,k,s,p,sn,h1,h2,h3,h4⟩
 ·refine .inl ⟨el,m,by simpa[World.shape?,hw]using h1,h2,λj=>by simpa[World.frozen?,hw]using h3 j,λj a hj=>?_⟩;obtain⟨v,hv,hv'⟩:=h4 j a hj;exact⟨v,by rw[zhz hw];exact hv,hr _ _ (xQ hj) hv'⟩
 ·refine .inr (.inl ⟨es,by rw[hw];exact h1,h2,λi e he=>?_⟩);obtain⟨g0,k,v,g1,g2,g3,g4⟩:=h3 i e he;exact⟨g0,k,v,g1,g2,hr _ _ (xQ g1) g3,hr _ _ (xQ g2) g4⟩
 ·exact .inr (.inr ⟨r,k,s,p,sn,by rw[hw];exact h1,h2,h3,hr _ _ (by rw[h2];simp[zbh]) h4⟩)
theorem zjv.cells{Γ:Glob}{w:World}{M:Nat->Prop}{ρ:Nat->RS}{cs:List AV}{b:Nat}(h:zjv Γ w M ρ cs b)(hs:∃x,w.shape? b=some x):
  ∃el m,w.shape? b=some (el,m)/\cs.length<=m/\(∀j,w.frozen? ⟨b,j,none⟩=false)/\∀(j:Nat) (a:AV),cs[j]?=some a->∃v,w.cell? ⟨b,j,none⟩=some v/\Rep w M ρ a v:=by
 rcases h with h | ⟨es,h1,_⟩ | ⟨r,k,s,p,sn,h1,_⟩
 ·exact h
 ·obtain⟨x,hx⟩:=hs;simp[World.shape?,h1]at hx
 ·obtain⟨x,hx⟩:=hs;simp[World.shape?,h1]at hx
def zgk:List AV->Bool
 |.clo 131076 _::_=>false
 |_=>true
theorem zjv.map{Γ:Glob}{w:World}{M:Nat->Prop}{ρ:Nat->RS}{cs:List AV}{b:Nat}(h:zjv Γ w M ρ cs b)(hs:w.shape? b=none)(hn:zgk cs=true):
  ∃es:Array MapEntry,w.heap[b]?=some (.map es es.size)/\cs.length=2*es.size/\
  ∀(i:Nat) (e:MapEntry),es[i]?=some e->e.born=i/\∃k v,cs[2*i]?=some k/\cs[2*i+1]?=some v/\Rep w M ρ k e.key/\Rep w M ρ v e.val:=by
 rcases h with⟨el,m,h1,_⟩ | h | ⟨r,k,s,p,sn,h1,h2,_⟩
 ·rw[hs]at h1;simp at h1
 ·exact h
 ·rw[h2]at hn;simp[zbh,zgk]at hn
theorem qbr{f:Nat}{l cs:List AV}(hf:f<65536)(h:AV.clo 131076 l=AV.clo f cs):False:=by
 have e:(131076:Nat)=f:=(AV.clo.inj h).1;omega
theorem qbs{f:Nat}{l cs:List AV}(hf:f<65536)(h:AV.clo 131076 l=AV.clo (65536+f) cs):False:=by
 have e:(131076:Nat)=65536+f:=(AV.clo.inj h).1;omega
theorem jyd{w:World}{M:Nat->Prop}{ρ:Nat->RS}{l:List AV}{v:Value}(h:Rep w M ρ (.clo 131076 l) v):False:=by
 generalize ha:AV.clo 131076 l=a at h;cases h with
 |imm a v h=>
  cases h with
  |clo f cs vs hf=>exact qbr hf ha
  |bnd f cs vs hf=>exact qbs hf.1 ha
  |_=>simp at ha
 |clo f cs vs hf=>exact qbr hf ha
 |bnd f cs vs hf=>exact qbs hf.1 ha
 |_=>simp at ha
theorem zjv.loop{Γ:Glob}{w:World}{M:Nat->Prop}{ρ:Nat->RS}{b k s p:Nat}{sn:List AV}(h:zjv Γ w M ρ (zbh k s p sn) b)(hs:w.shape? b=none):
  ∃r:Loop,w.heap[b]?=some (.loop r)/\zvi Γ k s p r/\Rep w M ρ (.agg sn) (.agg ((Γ.lv k).map λt=>r.tmps.getD t undef).toArray):=by
 rcases h with⟨el,m,h1,_⟩ | ⟨es,h1,h2,h3⟩ | ⟨r,k',s',p',sn',h1,h2,h3,h4⟩
 ·rw[hs]at h1;simp at h1
 ·simp only[zbh,xA,List.length_nil]at h2;have h0:0<es.size:=by omega
  obtain⟨_,x,_,g1,_,g2,_⟩:=h3 0 es[0] (by simp[h0]);simp[zbh]at g1;subst g1;exact(jyd g2).elim
 ·simp only[zbh,List.cons.injEq,AV.clo.injEq,AV.int.injEq,AV.agg.injEq,true_and,and_true]at h2;obtain⟨e1,e2,e3,e4⟩:=h2;obtain rfl:k=k':=by omega
  obtain rfl:s=s':=by omega
  obtain rfl:p=p':=by omega
  subst e4;exact⟨r,h1,h3,h4⟩
theorem HOK.lt{Γ:Glob}{w:World}{F:Nat->Prop}{ρ:Nat->RS}{H:Heap}(h:HOK Γ w F ρ H):∀i b,ρ i= .here b->b<w.heap.size:=by
 intro i b hb;obtain⟨cs,_,hb⟩:=h.blk i b hb;exact hb.lt
inductive Opd where
 |t (n:Nat)
 |k (a:AV)
 deriving Inhabited
inductive CK where
 |mov (x:Opd)
 |pick (c a b:Opd)
 |box (x:Opd)
 |build (zero:List AV) (parts:List (Nat×Nat×Opd))
 |bsl (n sz:Nat) (zero:List AV) (parts:List (Nat×Nat×Opd))
 |load (ag:Bool) (sz:Nat) (x:Opd)
 |store (sz:Nat) (x v:Opd)
 |nilck (x:Opd)
 |bin (op:BinOp) (x y:Opd)
 |beq (neg:Bool) (x y:Opd)
 |snil (neg:Bool) (x:Opd)
 |un (op:UnOp) (x:Opd)
 |conv (k:IntKind) (x:Opd)
 |b2s (x:Opd)
 |mksl (sz bytes:Nat) (zero:List AV) (len cap:Opd)
 |slice (sz:Nat) (x:Opd) (lo hi mx:Option Opd)
 |slarr (n sz:Nat) (x:Opd) (lo hi mx:Option Opd)
 |fld (off:Nat) (x:Opd)
 |part (ag:Bool) (sz off:Nat) (x:Opd)
 |idx (sz:Nat) (x i:Opd)
 |idxa (n sz:Nat) (x i:Opd)
 |idxv (n:Nat) (ag:Bool) (sz:Nat) (x i:Opd)
 |idxs (x i:Opd)
 |ext (x:Opd) (i:Nat)
 |len (st:Bool) (x:Opd)
 |lenk (n:Nat)
 |append (sz bytes:Nat) (s x:Opd)
 |copy (sz:Nat) (d s:Opd)
 |max (x y:Opd)
 |mkfn (f:FuncId) (caps:List Opd)
 |call (f:FuncId) (args:List Opd)
 |callc (x:Opd) (args:List Opd)
 |aeq (neg:Bool) (ks:List (Option IntKind)) (x y:Opd)
 |pnil (neg:Bool) (x:Opd)
 |mkbnd (f:FuncId) (first:List Opd)
 |mkmap
 |mlook (ks:List IntKind) (zero:AV) (x k:Opd)
 |mentry (ks:List IntKind) (zero:AV) (x k:Opd)
 |mstore (x st v:Opd)
 |bits64 (sub:Bool) (x y c:Opd)
 |clr (sz:Nat) (zero:List AV) (x:Opd)
 |apz (sz bytes:Nat) (zero:List AV) (s x:Opd)
 deriving Inhabited
structure COp where
 dst:Option Nat
 g:Option (Nat×Bool)
 k:CK
 deriving Inhabited
def zix:Value->Option AV
 |.bool b=>some (.bool b)
 |.int k n=>some (.int k n)
 |.string s=>some (.str s)
 |.slice none 0 0=>some (.vec [] 0 (some 0))
 |.pointer none=>some (.clo 131072 [])
 |.nilFunc=>some (.clo 131073 [])
 |_=>none
def ofV:Value->Option AV
 |.agg cs=>(cs.toList.mapM zix).map .agg
 |v=>zix v
def cOpd(Γ:Glob):Operand->Option Opd
 |.tmp t=>some (.t t)
 |.const v=>(ofV v).map .k
 |.global g=>(Γ.globs.find? (·.1 == g)).map λx=> .k (.iptr x.2 0)
 |.func f=>if f<65536 then some (.k (.clo f []))else none
def zrj(P:Program)(t:TypeId):Option Bool:=
 (P.underlying t).map fun | .struct _ | .array _ _=>true | _=>false
def szT(P:Program)(t:TypeId):Option Nat:=(P.info? t).map (·.size)
def zks(P:Program)(t:TypeId):Option (List AV):=
 match P.info? t with
 |some i=>match i.zero with
  |some z=>z.cells.toList.mapM zix
  |none=>none
 |none=>none
def qim(P:Program)(t:TypeId):Option AV:=
 match P.info? t with
 |some i=>match i.zero with
  |some z=>ofV z
  |none=>none
 |none=>none
def ldSz(P:Program)(t:TypeId):Option (Bool×Nat):=
 match zrj P t,szT P t with
 |some true,some s=>some (true,s)
 |some false,some _=>some (false,1)
 |_,_=>none
def qbt(P:Program)(fields:Array Field):Option (List (Nat×Nat)):=
 fields.toList.mapM λf=>(szT P f.type).map λs=>(f.offset,s)
def zrk(P:Program)(t:TypeId):Option (Nat->Option (Nat×Nat)):=
 match P.underlying t with
 |some (.struct fields)=>(qbt P fields).map λl i=>l[i]?
 |some (.array _ elem)=>(szT P elem).map λs i=>some (i*s,s)
 |_=>none
def zia(Γ:Glob)(pl:Nat->Option (Nat×Nat)):List (Nat×Operand)->Option (List (Nat×Nat×Opd))
 | []=>some []
 |(i,x)::r=>(pl i).bind λp=>(cOpd Γ x).bind λy=>(zia Γ pl r).bind λl=>some ((p.1,p.2,y)::l)
def zmk(P:Program)(t:TypeId):Option (List IntKind):=
 match P.underlying t with
 |some (.struct fields)=>if P.stoodInHeld t=true\/P.eqGuardType P.depth t=true then none else
  (fields.toList.zipIdx.mapM λx=>if x.1.offset=x.2/\x.1.name≠ "_" then(match P.underlying x.1.type with | some (.int k)=>some k | _=>none)else none)
 |some (.array n el)=>if P.eqGuardType P.depth t=true then none else match P.underlying el,szT P el with
  |some (.int k),some 1=>some (List.replicate n k)
  |_,_=>none
 |_=>none
def zsy(P:Program)(t:TypeId):Option (List (Option IntKind)):=
 match P.underlying t with
 |some (.struct fields)=>if P.stoodInHeld t=true\/P.eqGuardType P.depth t=true then none else
  (fields.toList.zipIdx.mapM λx=>if x.1.offset=x.2/\x.1.name≠ "_" then(match P.underlying x.1.type with | some (.int k)=>some (some k) | some .bool=>some none | _=>none)else none)
 |_=>(zmk P t).map (List.map some)
def zvj(P:Program)(f:FuncId):Bool:=
 match P.funcs[f]? with
 |some fn=>fn.body.isSome && fn.name != "runtime.NumGoroutine"
 |none=>false
def okFn(P:Program)(f:FuncId):Bool:=Nat.beq f 4095 || zvj P f
def zsz(P:Program)(f:FuncId):Option Bool:=
 match P.funcs[f]? with
 |some fn=>if fn.body.isNone && (Extern.findNext fn).isNone then(if fn.name= "math/bits.Add64" then some false else if fn.name= "math/bits.Sub64" then some true else none)else none
 |none=>none
def zdy(P:Program)(Γ:Glob)(o:Op):Option CK:=
 let c:=cOpd Γ
 match o with
 |.move x | .assign x=>(c x).map .mov
 |.pick x a b=>do some (.pick (<-c x) (<-c a) (<-c b))
 |.box _ x=>do some (.box (<-c x))
 |.alloc t=>do
  let z <-qim P t
  some (.box (.k z))
 |.build t ps=>do
  let z <-zks P t;let pl <-zrk P t;let ps <-zia Γ pl ps.toList
  some (.build z ps)
 |.buildSlice t n ps=>do
  let .slice el <-P.underlying t | none
  let s <-szT P el;let z <-zks P el;let ps <-zia Γ (λi=>some (i*s,s)) ps.toList
  if s=z.length/\n*s<=2^24 then some (.bsl n s (List.replicate n z).flatten ps)else none
 |.load t a=>do
  let s <-ldSz P t
  some (.load s.1 s.2 (<-c a))
 |.store t a v=>do some (.store (<-szT P t) (<-c a) (<-c v))
 |.nilCheck x=>(c x).map .nilck
 |.binOp op t x y _=>
  match P.underlying t,op with
  |some (.int _),_=>do some (.bin op (<-c x) (<-c y))
  |some .string,_=>do some (.bin op (<-c x) (<-c y))
  |some .bool,.eql=>do some (.beq false (<-c x) (<-c y))
  |some .bool,.neq=>do some (.beq true (<-c x) (<-c y))
  |some (.slice _),.eql=>match y with
   |.const (.slice none 0 0)=>(c x).map (.snil false)
   |_=>none
  |some (.struct _),.eql=>do some (.aeq false (<-zsy P t) (<-c x) (<-c y))
  |some (.struct _),.neq=>do some (.aeq true (<-zsy P t) (<-c x) (<-c y))
  |some (.array _ _),.eql=>do some (.aeq false (<-zsy P t) (<-c x) (<-c y))
  |some (.array _ _),.neq=>do some (.aeq true (<-zsy P t) (<-c x) (<-c y))
  |some (.pointer _),.eql=>match y with
   |.const (.pointer none)=>(c x).map (.pnil false)
   |_=>none
  |some (.pointer _),.neq=>match y with
   |.const (.pointer none)=>(c x).map (.pnil true)
   |_=>none
  |_,_=>none
 |.unOp op _ x=>(c x).map (.un op)
 |.convert src dst x=>
  match P.underlying src,P.underlying dst with
  |some _,some (.int k)=>(c x).map (.conv k)
  |some (.slice e),some .string=>match P.underlying e with
   |some (.int .u8)=>(c x).map .b2s
   |_=>none
  |_,_=>none
 |.makeSlice t l m=>do
  let .slice el <-P.underlying t | none
  let i <-P.info? el
  some (.mksl i.size i.bytes (<-zks P el) (<-c l) (<-c m))
 |.slice t x lo hi mx=>do
  let x <-c x;let lo <-lo.mapM c;let hi <-hi.mapM c;let mx <-mx.mapM c
  match P.underlying t with
  |some (.slice el)=>some (.slice (<-szT P el) x lo hi mx)
  |some (.array n el)=>some (.slarr n (<-szT P el) x lo hi mx)
  |_=>none
 |.fieldAddr s x f=>
  match P.underlying s with
  |some (.struct fields)=>match fields[f]? with
   |some fd=>do
    let z <-szT P fd.type
    if z=0 then none else some (.fld fd.offset (<-c x))
   |none=>none
  |_=>none
 |.field t x f=>
  match P.underlying t with
  |some (.struct fields)=>match fields[f]? with
   |some fd=>do
    let s <-ldSz P fd.type
    some (.part s.1 s.2 fd.offset (<-c x))
   |none=>none
  |_=>none
 |.indexAddr t x i=>
  match P.underlying t with
  |some (.slice el)=>do some (.idx (<-szT P el) (<-c x) (<-c i))
  |some (.array n el)=>do some (.idxa n (<-szT P el) (<-c x) (<-c i))
  |_=>none
 |.index t x i=>
  match P.underlying t with
  |some (.array n el)=>do
   let s <-ldSz P el;let z <-szT P el;let x <-c x;let i <-c i
   if z=s.2 then some (.idxv n s.1 s.2 x i)else none
  |some .string=>do some (.idxs (<-c x) (<-c i))
  |_=>none
 |.extract x i=>do some (.ext (<-c x) i)
 |.makeFunc (.func f) first caps=>if f<4095 then(if first.isEmpty then do some (.mkfn f (<-caps.toList.mapM c))else if caps.isEmpty then do some (.mkbnd f (<-first.toList.mapM c))else none)else none
 |.makeMap t none=>match P.underlying t with
  |some (.map _ _)=>some .mkmap
  |_=>none
 |.lookup t x k false=>match P.underlying t with
  |some (.map kt el)=>match P.underlying kt with
   |some (.array _ _)=>do some (.mlook (<-zmk P kt) (<-qim P el) (<-c x) (<-c k))
   |_=>none
  |_=>none
 |.mapEntry t x k=>match P.underlying t with
  |some (.map kt el)=>match P.underlying kt with
   |some (.array _ _)=>do some (.mentry (<-zmk P kt) (<-qim P el) (<-c x) (<-c k))
   |_=>none
  |_=>none
 |.entryStore _ x s v=>do some (.mstore (<-c x) (<-c s) (<-c v))
 |.call cl=>
  match cl.callee with
  |.builtin .len=>
   match (cl.argTypes[0]?).bind P.underlying,cl.args.toList with
   |some (.slice _),[x]=>(c x).map (.len false)
   |some .string,[x]=>(c x).map (.len true)
   |some (.array n _),[_]=>some (.lenk n)
   |some (.pointer a),[_]=>match P.underlying a with
    |some (.array n _)=>some (.lenk n)
    |_=>none
   |_,_=>none
  |.builtin .append=>
   match (cl.argTypes[0]?).bind P.underlying,(cl.argTypes[1]?).bind P.underlying,cl.args.toList with
   |some (.slice el),some (.slice _),[s,x]=>do
    let i <-P.info? el;let z <-zks P el
    if z.length=i.size then some (.append i.size i.bytes (<-c s) (<-c x))else none
   |some (.slice el),some (.int _),[s,x]=>do
    let i <-P.info? el;let z <-zks P el
    if z.length=i.size then some (.apz i.size i.bytes z (<-c s) (<-c x))else none
   |_,_,_=>none
  |.builtin .copy=>
   match (cl.argTypes[0]?).bind P.underlying,cl.args.toList with
   |some (.slice el),[d,s]=>do some (.copy (<-szT P el) (<-c d) (<-c s))
   |_,_=>none
  |.builtin .max=>match cl.args.toList with
   | [x,y]=>do some (.max (<-c x) (<-c y))
   |_=>none
  |.builtin .clear=>
   match (cl.argTypes[0]?).bind P.underlying,cl.args.toList with
   |some (.slice el),[x]=>do some (.clr (<-szT P el) (<-zks P el) (<-c x))
   |_,_=>none
  |.value (.func f)=>if zvj P f && !Nat.beq f 4095 then do some (.call f (<-cl.args.toList.mapM c))else
   match zsz P f,cl.args.toList with
   |some b,[x,y,z]=>do some (.bits64 b (<-c x) (<-c y) (<-c z))
   |_,_=>none
  |.value (.tmp t)=>do some (.callc (.t t) (<-cl.args.toList.mapM c))
  |_=>none
 |_=>none
inductive CC where
 |skip
 |reg (ops:List COp) (draw:Option (List (Nat×Nat)))
 |seq (a b:CC)
 |cond (c:Opd) (x y:CC)
 |block (id:Nat) (c:CC)
 |loop (c:CC)
 |exit (id:Nat)
 |scope (c:CC)
 |label (l:Nat)
 |goto (l:Nat)
 |ret
 |range (x:Opd) (k:Nat) (ps:List Nat) (a b:CC)
 deriving Inhabited
def CC.flat:CC->Bool
 |.seq a b=>a.flat && b.flat
 |.cond _ a b=>a.flat && b.flat
 |.block _ c=>c.flat
 |.loop c=>c.flat
 |.scope c=>c.flat
 |.range .. => false
 |_=>true
def kpz(nt:Nat)(ps:List Nat):Nat:=nt*1024+ps.headD 0
def zjs(ops:Array Oper):Option (Nat×Bool)->Option (Option (Nat×Bool))
 |none=>some none
 |some (j,want)=>match (ops[j]?).bind (·.dst)with
  |some d=>some (some (d,want))
  |none=>none
def qso(nt:Nat):Option Nat->Bool
 |some d=>decide (d<nt)
 |none=>true
def zvk(P:Program)(Γ:Glob)(nt:Nat)(ops:Array Oper)(o:Oper):Option COp:=
 match zjs ops o.guard,zdy P Γ o.op with
 |some g,some k=>if qso nt o.dst then some { dst:=o.dst,g:=g,k:=k }else none
 |_,_=>none
def zyi(P:Program)(Γ:Glob)(nt:Nat)(ops:Array Oper):Option (List COp):=ops.toList.mapM (zvk P Γ nt ops)
def CK.opds:CK->List Opd
 |.mov x | .box x | .load _ _ x | .nilck x | .snil _ x | .un _ x | .conv _ x | .b2s x | .fld _ x | .part _ _ _ x | .ext x _ | .len _ x=>[x]
 |.pick c a b=>[c,a,b]
 |.build _ ps | .bsl _ _ _ ps=>ps.map (·.2.2)
 |.store _ x y | .bin _ x y | .beq _ x y | .mksl _ _ _ x y | .idx _ x y | .idxa _ _ x y | .idxv _ _ _ x y | .idxs x y | .append _ _ x y | .copy _ x y | .max x y=>[x,y]
 |.slice _ x lo hi mx | .slarr _ _ x lo hi mx=>x::(lo.toList++hi.toList++mx.toList)
 |.lenk _=>[]
 |.mkfn _ l | .call _ l=>l
 |.callc x l=>x::l
 |.aeq _ _ x y | .mlook _ _ x y | .mentry _ _ x y=>[x,y]
 |.pnil _ x=>[x]
 |.mkbnd _ l=>l
 |.mkmap=>[]
 |.mstore x k v=>[x,k,v]
 |.bits64 _ x y z=>[x,y,z]
 |.clr _ _ x=>[x]
 |.apz _ _ _ x y=>[x,y]
def zib:List Opd->List Nat
 | []=>[]
 |.t n::r=>n::zib r
 |.k _::r=>zib r
def COp.reads(o:COp):List Nat:=
 match o.g with
 |some (d,_)=>d::zib o.k.opds
 |none=>zib o.k.opds
def ordB(ops:Array Oper):Nat->Nat->Nat->Bool
 |0,_,_=>false
 |n+1,x,i=>match ops[i]? with
  |some o=>o.after.any λe=>Region.binds .any e && (e.on == x || (Nat.blt x e.on && ordB ops n x e.on))
  |none=>false
def qbu(x y:COp):Bool:=
 (match x.dst with
  |some d=>!(y.reads).contains d && y.dst != some d
  |none=>true) &&
 (match y.dst with
  |some d=>!(x.reads).contains d
  |none=>true)
def qbv(ops:Array Oper):List (Nat×Nat):=
 (List.range ops.size).flatMap λi=>((List.range i).filter λx=>!ordB ops 5 x i).map λx=>(x,i)
def CK.loud:CK->Bool
 |.box _ | .bsl .. | .load .. | .store .. | .b2s _ | .mksl .. | .slarr .. | .append .. | .copy .. | .call .. | .callc .. | .mkmap | .mlook .. | .mentry .. | .mstore .. | .clr .. | .apz .. => true
 |_=>false
def qin(ops:Array Oper)(cs:List COp):Bool:=
 (ops.toList.zipIdx.all λ(o,i)=>o.after.all λe=>!Region.binds .any e || decide (e.on<i)) &&
 (qbv ops).all λ(x,i)=>match cs[x]?,cs[i]? with
  |some a,some b=>qbu a b
  |_,_=>false
def zkt(ops:Array Oper)(cs:List COp):List (Nat×Nat):=
 (qbv ops).filter λ(x,i)=>match cs[x]?,cs[i]? with
  |some a,some b=>a.k.loud && b.k.loud
  |_,_=>true
def zbt(P:Program)(Γ:Glob)(nt:Nat):Code->Option CC
 |.skip=>some .skip
 |.region _ ops draw=>match zyi P Γ nt ops with
  |some cs=>if draw then(if qin ops cs then some (.reg cs (some (zkt ops cs)))else none)else some (.reg cs none)
  |none=>none
 |.seq a b=>match zbt P Γ nt a,zbt P Γ nt b with
  |some a,some b=>some (.seq a b)
  |_,_=>none
 |.cond x a b=>match cOpd Γ x,zbt P Γ nt a,zbt P Γ nt b with
  |some x,some a,some b=>some (.cond x a b)
  |_,_,_=>none
 |.block id c=>match zbt P Γ nt c with
  |some c=>some (.block id c)
  |none=>none
 |.loop c=>match zbt P Γ nt c with
  |some c=>some (.loop c)
  |none=>none
 |.exit id=>some (.exit id)
 |.scope c=>match zbt P Γ nt c with
  |some c=>some (.scope c)
  |none=>none
 |.label l=>some (.label l)
 |.goto l=>some (.goto l)
 |.ret=>some .ret
 |.rangeFunc g ps a b=>match cOpd Γ g,zbt P Γ nt a,zbt P Γ nt b with
  |some x,some a,some b=>some (.range x (kpz nt ps.toList) ps.toList a b)
  |_,_,_=>none
 |_=>none
abbrev Env:=Nat->AV
abbrev Eff:=List (Nat×Option (List AV))
def upd(E:Env)(d:Nat)(v:AV):Env:=λt=>if t=d then v else E t
def updO(E:Env)(d:Option Nat)(v:AV):Env:=match d with | some d=>upd E d v | none=>E
def val(E:Env):Opd->AV
 |.t n=>E n
 |.k a=>a
def need(c:Prop)[Decidable c]{α:Type}(x:Option α):Option α:=if c then x else none
def AV.cells:AV->List AV
 |.agg cs=>cs
 |a=>[a]
def AV.scal:AV->Bool
 |.agg _=>false
 |.tup _=>false
 |.junk=>false
 |_=>true
def AV.scalL:List AV->Bool
 | []=>true
 |a::r=>a.scal && scalL r
def AV.firm:AV->Bool
 |.tup _=>false
 |.junk=>false
 |_=>true
def getB(H:Heap)(id:Nat):Option (List AV):=match H[id]? with | some (some cs)=>some cs | _=>none
def setL:List AV->Nat->List AV->List AV
 |l,_,[]=>l
 |l,i,v::vs=>setL (l.set i v) (i+1) vs
def zaf:Eff->Heap->Heap
 | [],H=>H
 |(i,c)::r,H=>zaf r (H.set i c)
def zgn(c:Nat):List AV->List AV
 | [z]=>List.replicate c z
 |zs=>(List.replicate c zs).flatten
def zfm(V:Opd->AV):List AV->List (Nat×Nat×Opd)->Option (List AV)
 |cs,[]=>some cs
 |cs,(off,s,x)::r=>
  need ((V x).firm=true/\(V x).cells.length=s/\off+s<=cs.length) (zfm V (setL cs off (V x).cells) r)
def ldv(ag:Bool)(sz off:Nat)(cs:List AV):AV:=if ag then .agg ((cs.drop off).take sz)else cs.getD off .junk
def binA(op:BinOp):AV->AV->Option AV
 |.int k a,.int k' b=>
  match op with
  |.shl=>need (0<=b) (some (.int k (k.wrap (a*2^(min b.toNat k.bits)))))
  |.shr=>need (0<=b) (some (.int k (a.fdiv (2^(min b.toNat k.bits)))))
  |.add=>need (k=k') (some (.int k (k.wrap (a+b))))
  |.sub=>need (k=k') (some (.int k (k.wrap (a-b))))
  |.mul=>need (k=k') (some (.int k (k.wrap (a*b))))
  |.quo=>need (k=k'/\b≠0) (some (.int k (k.wrap (a.tdiv b))))
  |.rem=>need (k=k'/\b≠0) (some (.int k (a.tmod b)))
  |.and=>need (k=k') (some (.int k (k.wrap (BitVec.ofInt k.bits a &&& BitVec.ofInt k.bits b).toNat)))
  |.or=>need (k=k') (some (.int k (k.wrap (BitVec.ofInt k.bits a ||| BitVec.ofInt k.bits b).toNat)))
  |.xor=>need (k=k') (some (.int k (k.wrap (BitVec.ofInt k.bits a ^^^ BitVec.ofInt k.bits b).toNat)))
  |.andNot=>need (k=k') (some (.int k (k.wrap (BitVec.ofInt k.bits a &&& ~~~ BitVec.ofInt k.bits b).toNat)))
  |.eql=>need (k=k') (some (.bool (a == b)))
  |.neq=>need (k=k') (some (.bool (a != b)))
  |.lss=>need (k=k') (some (.bool (decide (a<b))))
  |.leq=>need (k=k') (some (.bool (decide (a<=b))))
  |.gtr=>need (k=k') (some (.bool (decide (a>b))))
  |.geq=>need (k=k') (some (.bool (decide (a>=b))))
 |.str a,.str b=>
  match op with
  |.add=>need ((a.size+b.size:Nat)<=IntKind.i64.max) (some (.str (a++b)))
  |.eql=>some (.bool (a.toList == b.toList))
  |.neq=>some (.bool !(a.toList == b.toList))
  |_=>none
 |_,_=>none
def unA(op:UnOp):AV->Option AV
 |.int k n=>match op with
  |.neg=>some (.int k (k.wrap (0-n)))
  |_=>none
 |.bool b=>match op with
  |.not=>some (.bool !b)
  |_=>none
 |_=>none
def zjq:AV->Option Nat
 |.int _ n=>need (0<=n) (some n.toNat)
 |_=>none
def zbq(V:Opd->AV)(d:Nat):Option Opd->Option Nat
 |none=>some d
 |some x=>zjq (V x)
def zgo(l:Nat):Option Nat->Option Nat
 |none=>none
 |some c=>some (c-l)
def zrl(id off sz:Nat):Nat->Option Nat->AV
 |0,none=> .sl id off 0 sz none
 |l,c=> .vec [] 0 (zgo l c)
theorem zyj{id off sz l q:Nat}:zrl id off sz l (some q)= .vec [] 0 (some (q-l)):=by cases l<;>rfl
def zeh(V:Opd->AV)(sz:Nat)(x:AV)(lo hi mx:Option Opd):Option AV:=
 match x with
 |.vec cs n c=>
  (zbq V n hi).bind λh=>(zbq V 0 lo).bind λl=>
  match mx with
  |none=>need (l<=h/\h<=n/\n*sz<=cs.length) (some (.vec ((cs.drop (l*sz)).take ((h-l)*sz)) (h-l) (zgo l c)))
  |some m=>(zjq (V m)).bind λm=>need (hi.isSome=true/\l<=h/\h<=m/\m<=n/\n*sz<=cs.length) (some (.vec ((cs.drop (l*sz)).take ((h-l)*sz)) (h-l) (some (m-l))))
 |.sl id off n s c=>
  (zbq V n hi).bind λh=>(zbq V 0 lo).bind λl=>
  match mx with
  |none=>need (s=sz/\l<=h/\h<=n) (some (if l=h then zrl id off sz l c else .sl id (off+l*sz) (h-l) sz (zgo l c)))
  |some m=>(zjq (V m)).bind λm=>need (hi.isSome=true/\s=sz/\l<=h/\h<=m/\m<=n) (some (if l=h then .vec [] 0 (some (m-l))else .sl id (off+l*sz) (h-l) sz (some (m-l))))
 |_=>none
abbrev Res:=AV×Eff×List Nat
def zdz(H:Heap)(sz n:Nat):AV->Option (List AV×List Nat)
 |.vec cs m _=>need (n<=m/\n*sz<=cs.length) (some (cs.take (n*sz),[]))
 |.sl id off m s _=>match getB H id with
  |some cs=>need (s=sz/\n<=m/\off+n*sz<=cs.length) (some ((cs.drop off).take (n*sz),[id]))
  |none=>none
 |_=>none
def lenA:AV->Option Nat
 |.vec _ n _=>some n
 |.sl _ _ n _ _=>some n
 |.str s=>some s.size
 |_=>none
def zne:List AV->Option (List UInt8)
 | []=>some []
 |.int .u8 n::r=>(zne r).bind λl=>some (UInt8.ofNat n.toNat::l)
 |_=>none
def zcd(n0 fresh:Nat)(H:Heap)(sz bytes:Nat)(s x:AV):Option Res:=
 (lenA x).bind λm=>(zdz H sz m x).bind λxs=>
 (if m=0 then(match s with
  |.vec cs n c=>some (.vec cs n c,[],xs.2)
  |.sl id off n s' c=>some (.sl id off n s' c,[],xs.2)
  |_=>none)
 else match s with
  |.vec cs n c=>need (c=some n/\n*sz<=cs.length/\4*(n+m)*bytes<=2^48/\n+m<2^62)
    (some (.sl fresh 0 (n+m) sz none,[(fresh,some (cs.take (n*sz)++xs.1))],xs.2))
  |.sl id off n s' c=>match getB H id with
   |some cs=>need (s'=sz/\off=0/\n*sz<=cs.length/\4*(n+m)*bytes<=2^48/\n+m<2^62) (
     if c=some n then some (.sl fresh 0 (n+m) sz none,[(fresh,some (cs.take (n*sz)++xs.1))],id::xs.2)
     else need (0<=id/\id≠fresh/\AV.scalL xs.1=true) (some (.sl fresh 0 (n+m) sz none,[(id,none),(fresh,some (cs.take (n*sz)++xs.1))],id::xs.2)))
   |none=>none
  |_=>none)
def apzA(fresh:Nat)(H:Heap)(sz bytes:Nat)(z:List AV)(s x:AV):Option Res:=
 match x with
 |.int _ m=>need (0<m/\z.length=sz/\0<sz) (match s with
  |.vec cs n c=>need (c=some n/\n*sz<=cs.length/\4*(n+m.toNat)*bytes<=2^48/\n+m.toNat<2^62)
    (some (.sl fresh 0 (n+m.toNat) sz none,[(fresh,some (cs.take (n*sz)++zgn m.toNat z))],[]))
  |.sl id off n s' c=>match getB H id with
   |some cs=>need (s'=sz/\off=0/\n*sz<=cs.length/\4*(n+m.toNat)*bytes<=2^48/\n+m.toNat<2^62/\c=some n)
     (some (.sl fresh 0 (n+m.toNat) sz none,[(fresh,some (cs.take (n*sz)++zgn m.toNat z))],[id]))
   |none=>none
  |_=>none)
 |_=>none
def zcv:List IntKind->List AV->List AV->Option Bool
 | [],[],[]=>some true
 |k::ks,.int k1 a::xs,.int k2 b::ys=>need (k1=k/\k2=k) ((zcv ks xs ys).bind λr=>some (a == b && r))
 |_,_,_=>none
def zhb:List (Option IntKind)->List AV->List AV->Option Bool
 | [],[],[]=>some true
 |some k::ks,.int k1 a::xs,.int k2 b::ys=>need (k1=k/\k2=k) ((zhb ks xs ys).bind λr=>some (a == b && r))
 |none::ks,.bool a::xs,.bool b::ys=>(zhb ks xs ys).bind λr=>some (a == b && r)
 |_,_,_=>none
def zku(ks:List IntKind)(key:List AV):Nat->List AV->Option (Option Nat)
 |i,.agg k::_::r=>match zcv ks key k with
  |some true=>some (some i)
  |some false=>zku ks key (i+1) r
  |none=>none
 |_,[]=>(zcv ks key key).bind λ_=>some none
 |_,_=>none
theorem qbw{ks:List IntKind}{key:List AV}{i:Nat}{cs:List AV}{r:Option Nat}(h:zku ks key i cs=some r):zgk cs=true:=by
 unfold zku at h;split at h
 ·rfl
 ·rfl
 ·simp at h
def evK(n0 fresh:Nat)(k:CK)(V:Opd->AV)(H:Heap):Option Res:=
 match k with
 |.mov x=>some (V x,[],[])
 |.pick c a b=>match V c with
  |.bool t=>some (if t then V a else V b,[],[])
  |_=>none
 |.box x=>need ((V x).firm=true) (some (.ptr fresh 0,[(fresh,some (V x).cells)],[]))
 |.build z ps=>(zfm V z ps).bind λcs=>some (.agg cs,[],[])
 |.bsl n sz z ps=>(zfm V z ps).bind λcs=>need (n*sz=z.length) (some (.sl fresh 0 n sz (some n),[(fresh,some cs)],[]))
 |.load ag sz x=>match V x with
  |.ptr id off=>match getB H id with
   |some cs=>need (off+sz<=cs.length/\(ag=false->sz=1)) (some (ldv ag sz off cs,[],[id]))
   |none=>none
  |.iptr cs p=>need (p+sz<=cs.length/\(ag=false->sz=1)) (some (ldv ag sz p cs,[],[]))
  |_=>none
 |.store sz x v=>match V x with
  |.ptr id off=>match getB H id with
   |some cs=>need ((V v).firm=true/\(V v).cells.length=sz/\AV.scalL (V v).cells=true/\off+sz<=cs.length) (some (.junk,[(id,some (setL cs off (V v).cells))],[id]))
   |none=>none
  |_=>none
 |.nilck x=>match V x with
  |.ptr id off=>some (.ptr id off,[],[])
  |.iptr cs p=>some (.iptr cs p,[],[])
  |_=>none
 |.bin op x y=>(binA op (V x) (V y)).bind λv=>some (v,[],[])
 |.beq neg x y=>match V x,V y with
  |.bool a,.bool b=>some (.bool (if neg then !(a == b)else(a == b)),[],[])
  |_,_=>none
 |.snil neg x=>match V x with
  |.vec _ n _=>if n=0 then some (.anyb,[],[])else some (.bool neg,[],[])
  |.sl .. => some (.bool neg,[],[])
  |_=>none
 |.un op x=>(unA op (V x)).bind λv=>some (v,[],[])
 |.conv k x=>match V x with
  |.int _ n=>some (.int k (k.wrap n),[],[])
  |_=>none
 |.b2s x=>(lenA (V x)).bind λn=>(zdz H 1 n (V x)).bind λxs=>(zne xs.1).bind λl=>some (.str ⟨l.toArray⟩,[],xs.2)
 |.mksl sz bytes z l c=>match V l,V c with
  |.int _ n,.int _ c=>need (0<=n/\n<=c/\c*bytes<=2^48/\c<2^63/\z.length=sz/\0<sz)
    (some (.sl fresh 0 n.toNat sz (some c.toNat),[(fresh,some (zgn c.toNat z))],[]))
  |_,_=>none
 |.slice sz x lo hi mx=>(zeh V sz (V x) lo hi mx).bind λv=>some (v,[],[])
 |.slarr n sz x lo hi mx=>match V x with
  |.ptr id off=>match getB H id with
   |some cs=>need (off+n*sz<=cs.length) ((zeh V sz (.sl id off n sz (some n)) lo hi mx).bind λv=>some (v,[],[id]))
   |none=>none
  |.iptr cs p=>need (p+n*sz<=cs.length) ((zeh V sz (.vec ((cs.drop p).take (n*sz)) n (some n)) lo hi mx).bind λv=>some (v,[],[]))
  |_=>none
 |.fld off x=>match V x with
  |.ptr id o=>some (.ptr id (o+off),[],[])
  |.iptr cs p=>some (.iptr cs (p+off),[],[])
  |_=>none
 |.part ag sz off x=>match V x with
  |.agg cs=>need (off+sz<=cs.length/\(ag=false->sz=1)) (some (ldv ag sz off cs,[],[]))
  |_=>none
 |.idx sz x i=>match V x,V i with
  |.sl id off n s _,.int _ j=>need (s=sz/\0<=j/\j<n) (some (.ptr id (off+j.toNat*sz),[],[]))
  |.vec cs n _,.int _ j=>need (0<=j/\j<n) (some (.iptr cs (j.toNat*sz),[],[]))
  |_,_=>none
 |.idxa n sz x i=>match V x,V i with
  |.ptr id off,.int _ j=>need (0<=j/\j<n) (some (.ptr id (off+j.toNat*sz),[],[]))
  |.iptr cs p,.int _ j=>need (0<=j/\j<n) (some (.iptr cs (p+j.toNat*sz),[],[]))
  |_,_=>none
 |.idxv n ag sz x i=>match V x,V i with
  |.agg cs,.int _ j=>need (0<=j/\j<n/\j.toNat*sz+sz<=cs.length/\(ag=false->sz=1)) (some (ldv ag sz (j.toNat*sz) cs,[],[]))
  |_,_=>none
 |.idxs x i=>match V x,V i with
  |.str s,.int _ j=>need (0<=j/\j<s.size) (some (.int .u8 (s.data.getD j.toNat 0).toNat,[],[]))
  |_,_=>none
 |.ext x i=>match V x with
  |.tup vs=>match vs[i]? with
   |some v=>some (v,[],[])
   |none=>none
  |_=>none
 |.len st x=>match st,V x with
  |true,.str s=>some (.int .i64 s.size,[],[])
  |false,.vec _ n _=>some (.int .i64 n,[],[])
  |false,.sl _ _ n _ _=>some (.int .i64 n,[],[])
  |_,_=>none
 |.lenk n=>some (.int .i64 n,[],[])
 |.append sz bytes s x=>zcd n0 fresh H sz bytes (V s) (V x)
 |.copy sz d s=>match V d with
  |.sl id off n s' _=>match getB H id with
   |some cs=>(lenA (V s)).bind λm=>(zdz H sz (min m n) (V s)).bind λxs=>
     need (s'=sz/\off+n*sz<=cs.length/\AV.scalL xs.1=true)
      (some (.int .i64 (min m n:Nat),[(id,some (setL cs off xs.1))],id::xs.2))
   |none=>none
  |_=>none
 |.max x y=>match V x,V y with
  |.int k a,.int _ b=>some (.int k (if b>a then b else a),[],[])
  |_,_=>none
 |.mkfn f caps=>some (.clo f (caps.map V),[],[])
 |.call .. => none
 |.callc .. => none
 |.aeq neg ks x y=>match V x,V y with
  |.agg xs,.agg ys=>(zhb ks xs ys).bind λr=>some (.bool (if neg then !r else r),[],[])
  |_,_=>none
 |.pnil neg x=>match V x with
  |.ptr .. => some (.bool neg,[],[])
  |.iptr .. => some (.bool neg,[],[])
  |.clo f _=>need (f=131072) (some (.bool !neg,[],[]))
  |_=>none
 |.mkbnd f l=>some (.clo (65536+f) (l.map V),[],[])
 |.mkmap=>some (.clo 131074 [.ptr fresh 0],[(fresh,some [])],[])
 |.mlook ks z x k=>match V x,V k with
  |.clo f [.ptr id p],.agg kk=>match getB H id with
   |some cs=>need (f=131074/\p=0) ((zku ks kk 0 cs).bind λr=>some (match r with | some i=>cs.getD (2*i+1) .junk | none=>z,[],[id]))
   |none=>none
  |_,_=>none
 |.mentry ks z x k=>match V x,V k with
  |.clo f [.ptr id p],.agg kk=>match getB H id with
   |some cs=>need (f=131074/\p=0) ((zku ks kk 0 cs).bind λr=>match r with
    |some i=>some (.tup [cs.getD (2*i+1) .junk,.int .i64 i],[(id,some cs)],[id])
    |none=>need (z.scal=true/\cs.length<2^62) (some (.tup [z,.int .i64 (cs.length/2:Nat)],[(id,some (cs++[.agg kk,z]))],[id])))
   |none=>none
  |_,_=>none
 |.mstore x s v=>match V x,V s with
  |.clo f [.ptr id p],.int _ n=>match getB H id with
   |some cs=>need (f=131074/\p=0/\(V v).scal=true/\0<=n/\2*n.toNat+1<cs.length/\zgk cs=true) (some (.junk,[(id,some (cs.set (2*n.toNat+1) (V v)))],[id]))
   |none=>none
  |_,_=>none
 |.bits64 sub x y z=>match V x,V y,V z with
  |.int .u64 a,.int .u64 b,.int .u64 d=>need (0<=a/\0<=b/\0<=d/\d<=1)
    (some (.tup (if sub then[.int .u64 ((a.toNat+18446744073709551616-b.toNat-d.toNat)%18446744073709551616:Nat),.int .u64 (if a.toNat<b.toNat+d.toNat then 1 else 0:Nat)]
     else[.int .u64 ((a.toNat+b.toNat+d.toNat)%18446744073709551616:Nat),.int .u64 ((a.toNat+b.toNat+d.toNat)/18446744073709551616:Nat)]),[],[]))
  |_,_,_=>none
 |.apz sz bytes z s x=>apzA fresh H sz bytes z (V s) (V x)
 |.clr sz z x=>match V x with
  |.vec _ n _=>need (n=0) (some (.junk,[],[]))
  |.sl id off n s _=>match getB H id with
   |some cs=>need (s=sz/\z.length=sz/\0<sz/\off+n*sz<=cs.length/\AV.scalL (zgn n z)=true) (some (.junk,[(id,some (setL cs off (zgn n z)))],[id]))
   |none=>none
  |_=>none
theorem ziy{n m:Nat}:Nat.blt n m=true↔n<m:=by
 unfold Nat.blt;rw[Nat.ble_eq];exact Iff.rfl
theorem zvl{n m:Nat}(h:m<=n):Nat.blt n m=false:=by
 cases hb:Nat.blt n m with
 |false=>rfl
 |true=>exact absurd (ziy.1 hb) (by omega)
def cloF(f:Nat):Nat:=match Nat.blt f 65536 with
 |true=>f
 |false=>f-65536
def okC(ok:Nat->Bool)(f:Nat):Bool:=ok (cloF f) && Nat.blt f 131072 && !Nat.beq f 4095
theorem qbx{ok ok':Nat->Bool}{f:Nat}(h:∀f,ok f=true->ok' f=true)(hf:okC ok f=true):okC ok' f=true:=by
 simp only[okC,qP]at hf ⊢;exact⟨⟨h _ hf.1.1,hf.1.2⟩,hf.2⟩
def cloA(f:Nat)(args caps:List AV):List AV:=match Nat.blt f 65536 with
 |true=>args++caps
 |false=>caps++args
def updR(ρ:Nat->RS)(i:Nat)(r:RS):Nat->RS:=λj=>if j=i then r else ρ j
structure After(Γ:Glob)(F:Nat->Prop)(n0:Nat)(ρ:Nat->RS)(w:World)(ρ':Nat->RS)(w':World)(H':Heap)(new:List Nat):Prop where
 hok:HOK Γ w' F ρ' H'
 kept:Kept (λb=>∃i,ρ i= .here b) w w'
 ext:∀i,ρ i≠ .unborn->ρ' i=ρ i\/(0<=i/\ρ' i= .dead)
 old:∀i b,ρ' i= .here b->(∃j,ρ j= .here b)\/w.heap.size<=b
 still:∀i,ρ i= .unborn->i∉new->ρ' i= .unborn
theorem Mu.mono{F:Nat->Prop}{ρ ρ':Nat->RS}{w:World}(h:∀i b,ρ' i= .here b->(∃j,ρ j= .here b)\/w.heap.size<=b):
  ∀b,b<w.heap.size->Mu F ρ' b->Mu F ρ b:=by
 rintro b hb (hf | ⟨i,hi⟩)
 ·exact .inl hf
 ·rcases h i b hi with⟨j,hj⟩ | hle
  ·exact .inr ⟨j,hj⟩
  ·omega
theorem Rep.after{Γ:Glob}{F:Nat->Prop}{n0:Nat}{ρ ρ':Nat->RS}{w w':World}{H H':Heap}{new:List Nat}{a:AV}{v:Value}
  (ho:HOK Γ w F ρ H) (ha:After Γ F n0 ρ w ρ' w' H' new) (h:Rep w (Mu F ρ) ρ a v):Rep w' (Mu F ρ') ρ' a v:=
 h.kept ha.kept (λ_ hb=> .inr hb) (Mu.mono ha.old) ho.lt (λi hi=>(ha.ext i hi).imp id (λx=>x.2))
theorem IRep.after{Γ:Glob}{F:Nat->Prop}{n0:Nat}{ρ ρ':Nat->RS}{w w':World}{H':Heap}{new:List Nat}{a:AV}{v:Value}
  (ha:After Γ F n0 ρ w ρ' w' H' new) (h:IRep w (Mu F ρ) a v):IRep w' (Mu F ρ') a v:=
 h.kept ha.kept (λ_ hb=> .inr hb) (Mu.mono ha.old)
theorem After.trans{Γ:Glob}{F:Nat->Prop}{n0:Nat}{ρ ρ1 ρ2:Nat->RS}{w w1 w2:World}{H1 H2:Heap}{n1 n2:List Nat}
  (h:After Γ F n0 ρ w ρ1 w1 H1 n1) (h':After Γ F n0 ρ1 w1 ρ2 w2 H2 n2):After Γ F n0 ρ w ρ2 w2 H2 (n1++n2) where
 hok:=h'.hok
 kept:=h.kept.trans h'.kept (by
  rintro b hb ⟨i,hi⟩;rcases h.old i b hi with hj | hle
  ·exact hj
  ·omega)
 ext i hi:=by
  rcases h.ext i hi with e | ⟨hn,e⟩
  ·rcases h'.ext i (by rw[e];exact hi)with e' | ⟨hn,e'⟩
   ·exact .inl (e'.trans e)
   ·exact .inr ⟨hn,e'⟩
  ·rcases h'.ext i (by rw[e];simp)with e' | ⟨hn,e'⟩
   ·exact .inr ⟨hn,e'.trans e⟩
   ·exact .inr ⟨hn,e'⟩
 old i b hi:=by
  rcases h'.old i b hi with⟨j,hj⟩ | hle
  ·exact h.old j b hj
  ·exact .inr (xJ h.kept.size hle)
 still i hi hn:=by
  simp only[List.mem_append,not_or]at hn;exact h'.still i (h.still i hi hn.1) hn.2
theorem HOK.same{Γ:Glob}{w w':World}{F:Nat->Prop}{ρ:Nat->RS}{H:Heap}(h:HOK Γ w F ρ H)(hw:w'.heap=w.heap)(hz:w'.os=w.os/\w'.output=w.output):HOK Γ w' F ρ H:=by
 have hk:Kept (λb=>∃i,ρ i= .here b) w w':=
  ⟨by rw[hw];exact qA _,λb _ _=>by rw[hw],λb _=>by simp[World.shape?,hw],λb j _=>by simp[World.frozen?,hw],hz⟩
 have hr:∀a v,Rep w (Mu F ρ) ρ a v->Rep w' (Mu F ρ) ρ a v:=λa v hr=>hr.kept hk (λ_ hb=> .inr hb) (λ_ _ x=>x) h.lt (λ_ _=> .inl rfl)
 refine⟨h.inj,h.notF,λb hb=>by rw[hw];exact h.fLt b hb,h.unborn,h.alive,λi b hi=>?_,λg cs hg=>?_⟩
 ·obtain⟨cs,h1,h2⟩:=h.blk i b hi;exact⟨cs,h1,h2.mono (by rw[hw]) (λ_ _ _=>hr _ _)⟩
 ·exact(h.glob g cs hg).kept hk (λ_ hb=> .inr hb) (λ_ _ x=>x)
theorem ziz{Γ:Glob}{w w':World}{F:Nat->Prop}{ρ:Nat->RS}{H:Heap}(n0:Nat)(h:HOK Γ w F ρ H)(hw:w'.heap=w.heap)(hr:w'.os=w.os/\w'.output=w.output):
  After Γ F n0 ρ w ρ w' H [] where
 hok:=h.same hw hr
 kept:=⟨by rw[hw];exact qA _,λb _ _=>by rw[hw],λb _=>by simp[World.shape?,hw],λb j _=>by simp[World.frozen?,hw],hr⟩
 ext i hi:= .inl rfl
 old i b hi:= .inl ⟨i,hi⟩
 still i hi _:=hi
theorem zja{Γ:Glob}{w:World}{F:Nat->Prop}{ρ:Nat->RS}{H:Heap}(n0:Nat)(h:HOK Γ w F ρ H):After Γ F n0 ρ w ρ w H []:=
 ziz n0 h rfl ⟨rfl,rfl⟩
theorem zof{w:World}{o:Obj}{b:Nat}(h:b<w.heap.size):(w.alloc o).shape? b=w.shape? b:=by
 simp[World.shape?,World.alloc,-World.alloc_eq,Array.getElem?_push,xD h]
theorem zev{w:World}{o:Obj}{b:Nat}(h:b<w.heap.size):(w.alloc o).heap[b]?=w.heap[b]?:=by
 simp[World.alloc,-World.alloc_eq,Array.getElem?_push,xD h]
theorem zno{w:World}{o:Obj}{b j:Nat}(h:b<w.heap.size):(w.alloc o).frozen? ⟨b,j,none⟩=w.frozen? ⟨b,j,none⟩:=by
 simp[World.frozen?,World.alloc,-World.alloc_eq,Array.getElem?_push,xD h]
theorem zrm(V:Nat->Prop)(w:World)(o:Obj):Kept V w (w.alloc o):=
 ⟨by simp,λ_ hb _=>zev hb,λ_ hb=>zof hb,λ_ _ hb=>zno hb,rfl,rfl⟩
theorem zog{Γ:Glob}{w:World}{F:Nat->Prop}{ρ:Nat->RS}{H:Heap}(n0:Nat)(h:HOK Γ w F ρ H){fresh:Nat}(hfr:fresh<H.length)
  (hu:ρ fresh= .unborn) (cs:List AV) (ob:Obj)
  (hnew:(∀a v,Rep w (Mu F ρ) ρ a v->Rep (w.alloc ob) (Mu F (updR ρ fresh (.here w.heap.size))) (updR ρ fresh (.here w.heap.size)) a v)->
   zjv Γ (w.alloc ob) (Mu F (updR ρ fresh (.here w.heap.size))) (updR ρ fresh (.here w.heap.size)) cs w.heap.size):
  After Γ F n0 ρ w (updR ρ fresh (.here w.heap.size)) (w.alloc ob) (H.set fresh (some cs)) [fresh]:=by
 have hold:∀i b,updR ρ fresh (.here w.heap.size) i= .here b->(∃j,ρ j= .here b)\/w.heap.size<=b:=by
  intro i b hi;unfold updR at hi;split at hi
  ·simp at hi;exact .inr (by omega)
  ·exact .inl ⟨i,hi⟩
 have hk:=zrm (λb=>∃i,ρ i= .here b) w ob
 have hne:∀i b,ρ i= .here b->i≠fresh:=by
  intro i b hi e;subst e;rw[hu]at hi;simp at hi
 have hr:∀a v,Rep w (Mu F ρ) ρ a v->Rep (w.alloc ob) (Mu F (updR ρ fresh (.here w.heap.size))) (updR ρ fresh (.here w.heap.size)) a v:=by
  intro a v hr;refine hr.kept hk (λ_ hb=> .inr hb) (Mu.mono hold) h.lt (λi hi=> .inl ?_);unfold updR;rw[if_neg];intro e;subst e;exact hi hu
 refine⟨⟨?_,?_,?_,?_,?_,?_,?_⟩,hk,?_,hold,?_⟩
 ·intro i j b hi hj;unfold updR at hi hj;split at hi<;>split at hj
  ·omega
  ·simp at hi;subst hi;exact absurd (h.lt j _ hj) (by omega)
  ·simp at hj;subst hj;exact absurd (h.lt i _ hi) (by omega)
  ·exact h.inj i j b hi hj
 ·intro i b hi hF;unfold updR at hi;split at hi
  ·simp at hi;have:=h.fLt b hF;omega
  ·exact h.notF i b hi hF
 ·intro b hF;have:=h.fLt b hF;simp;omega
 ·intro i hi;simp at hi;unfold updR;rw[if_neg (by omega)];exact h.unborn i hi
 ·intro i cs' hi;unfold updR;by_cases e:i=fresh
  ·subst e;exact⟨_,if_pos rfl⟩
  ·rw[if_neg e];rw[qJ (λx=>e x.symm)]at hi;exact h.alive i cs' hi
 ·intro i b hi;by_cases e:i=fresh
  ·subst e;unfold updR at hi;rw[if_pos rfl]at hi;simp at hi;subst hi;exact⟨cs,by simp[hfr],hnew hr⟩
  ·have hi':ρ i= .here b:=by unfold updR at hi;rwa[if_neg e]at hi
   obtain⟨cs',h1,h2⟩:=h.blk i b hi';have hlt:=h.lt i b hi';exact⟨cs',by rw[qJ (λx=>e x.symm)];exact h1,h2.mono (zev hlt) (λ_ _ _=>hr _ _)⟩
 ·intro g cs' hg;exact(h.glob g cs' hg).kept hk (λ_ hb=> .inr hb) (Mu.mono hold)
 ·intro i hi;refine .inl ?_;unfold updR;rw[if_neg];intro e;subst e;exact hi hu
 ·intro i hi hn;simp at hn;unfold updR;rw[if_neg hn];exact hi
theorem zfu{Γ:Glob}{w:World}{F:Nat->Prop}{ρ:Nat->RS}{H:Heap}(n0:Nat)(h:HOK Γ w F ρ H){fresh:Nat}(hfr:fresh<H.length)
  (hu:ρ fresh= .unborn) (cs:List AV) (c:Array Value) (el:TypeId) (hlen:cs.length<=c.size)
  (hrep:∀(j:Nat) (a:AV),cs[j]?=some a->∃v,c[j]?=some v/\Rep w (Mu F ρ) ρ a v):
  After Γ F n0 ρ w (updR ρ fresh (.here w.heap.size)) (w.alloc (.cells c el)) (H.set fresh (some cs)) [fresh]:=by
 refine zog n0 h hfr hu cs (.cells c el) (λhr=> .inl ?_);refine⟨el,c.size,by simp[World.shape?,World.alloc,-World.alloc_eq],hlen,λj=>by simp[World.frozen?,World.alloc,-World.alloc_eq],λj a hj=>?_⟩;obtain⟨v,hv,hv'⟩:=hrep j a hj;exact⟨v,by simpa[World.cell?,World.alloc,-World.alloc_eq]using hv,hr _ _ hv'⟩
theorem zhc{w:World}{p:Addr}{v:Value}{b:Nat}:(w.setCell p v).shape? b=w.shape? b:=by
 simp only[World.shape?,World.setCell,Array.getElem?_modify];by_cases e:p.block=b
 ·rw[if_pos e];cases hh:w.heap[b]? with
  |none=>simp
  |some o=>
   cases o<;>simp;split<;>simp
 ·rw[if_neg e]
theorem zkv{w:World}{p:Addr}{v:Value}{b:Nat}(h:b≠p.block):(w.setCell p v).heap[b]?=w.heap[b]?:=by
 simp only[World.setCell,Array.getElem?_modify];rw[if_neg (λx=>h x.symm)]
theorem zvm{V:Nat->Prop}{w:World}{b j:Nat}{v:Value}(hv:V b):Kept V w (w.setCell ⟨b,j,none⟩ v):=
 ⟨by simp,λb' _ hn=>zkv (λe=>hn (e ▸ hv)),λ_ _=>zhc,λ_ _ _=>by simp,rfl,rfl⟩
theorem zoh{Γ:Glob}{w w':World}{F:Nat->Prop}{ρ:Nat->RS}{H:Heap}(n0:Nat)(h:HOK Γ w F ρ H){id b:Nat}{cs cs':List AV}(hb:ρ id= .here b)
  (hH:H[id]?=some (some cs)) (hk:Kept (λx=>x=b) w w')
  (hnew:(∀a x,Rep w (Mu F ρ) ρ a x->Rep w' (Mu F ρ) ρ a x)->zjv Γ w' (Mu F ρ) ρ cs' b):
  After Γ F n0 ρ w ρ w' (H.set id (some cs')) []:=by
 have hk':Kept (λb=>∃i,ρ i= .here b) w w':=hk.mono (λx _ hx=>⟨id,hx ▸ hb⟩)
 have hrr:∀a x,Rep w (Mu F ρ) ρ a x->Rep w' (Mu F ρ) ρ a x:=λa x hx=>
  hx.kept hk' (λ_ hb=> .inr hb) (λ_ _ x=>x) h.lt (λ_ _=> .inl rfl)
 have hidl:id<H.length:=by
  rcases qV id H.length with hl | hl
  ·exact hl
  ·rw[qK hl]at hH;simp at hH
 refine⟨⟨h.inj,h.notF,λb' hF=>qH (h.fLt b' hF) hk.size,?_,?_,?_,?_⟩,hk',λi _=> .inl rfl,λi b hi=> .inl ⟨i,hi⟩,λi hi _=>hi⟩
 ·intro i hi;exact h.unborn i (by simpa using hi)
 ·intro i cs' hi;by_cases e:i=id
  ·subst e;exact⟨b,hb⟩
  ·rw[qJ (λx=>e x.symm)]at hi;exact h.alive i cs' hi
 ·intro i b' hi;by_cases e:i=id
  ·subst e;have hbb:b'=b:=by rw[hb]at hi;simp at hi;exact hi.symm
   subst hbb;exact⟨cs',by simp[hidl],hnew hrr⟩
  ·obtain⟨cs2,h1,h2⟩:=h.blk i b' hi;have hne:b'≠b:=λe2=>e (h.inj i id b' hi (by rw[e2];exact hb))
   exact⟨cs2,by rw[qJ (λx=>e x.symm)];exact h1,h2.mono (hk.same b' (h.lt i b' hi) hne) (λ_ _ _=>hrr _ _)⟩
 ·intro g cs' hg;exact(h.glob g cs' hg).kept hk' (λ_ hb=> .inr hb) (λ_ _ x=>x)
theorem qio{Γ:Glob}{w:World}{F:Nat->Prop}{ρ:Nat->RS}{H:Heap}(n0:Nat)(h:HOK Γ w F ρ H){id b j:Nat}{cs:List AV}(hb:ρ id= .here b)(hsh:∃x,w.shape? b=some x)
  (hH:H[id]?=some (some cs)) (hj:j<cs.length) {a:AV} {v:Value} (hr:Rep w (Mu F ρ) ρ a v):
  After Γ F n0 ρ w ρ (w.setCell ⟨b,j,none⟩ v) (H.set id (some (cs.set j a))) []:=by
 obtain⟨cs2,h1,h2⟩:=h.blk id b hb;rw[hH]at h1;simp at h1;subst h1;obtain⟨el,m,h2,h3,h4,h5⟩:=h2.cells hsh;refine zoh n0 h hb hH (zvm rfl) (λhrr=> .inl ?_);refine⟨el,m,by rw[zhc];exact h2,by simpa using h3,λj'=>by simpa using h4 j',λj' a' hj'=>?_⟩;by_cases ej:j'=j
 ·subst ej;rw[qW hj]at hj';simp at hj';subst hj';obtain⟨u,hu⟩:∃u,cs[j']?=some u:=⟨cs[j'],by simp[hj]⟩
  obtain⟨x,hx,_⟩:=h5 j' u hu;exact⟨v,World.cell?_setCell_same _ _ _ hx,hrr _ _ hr⟩
 ·rw[qJ (λx=>ej x.symm)]at hj';obtain⟨x,hx,hx'⟩:=h5 j' a' hj';refine⟨x,?_,hrr _ _ hx'⟩;rw[World.cell?_setCell_other]
  ·exact hx
  ·intro e2;simp at e2;exact ej e2.symm
section runs
variable{P:Program}{w:World}
theorem zal{t:TypeId}{d:TypeDesc}(h:P.underlying t=some d):(underlying t).run P w= .ok d w:=by
 simp[underlying,program,Sem.run,h]
theorem znt{t:TypeId}{i:TypeInfo}(h:P.info? t=some i):(typeInfo t).run P w= .ok i w:=by
 simp[typeInfo,program,Sem.run,h]
theorem zcu{t:TypeId}{s:Nat}(h:szT P t=some s):(sizeOf t).run P w= .ok s w:=by
 unfold szT at h;cases hi:P.info? t with
 |none=>simp[hi]at h
 |some i=>simp[hi]at h;simp[sizeOf,znt hi,h]
theorem zoi{t:TypeId}{b:Bool}(h:zrj P t=some b):(isAgg t).run P w= .ok b w:=by
 unfold zrj at h;cases hd:P.underlying t with
 |none=>simp[hd]at h
 |some d=>
  simp[hd]at h;subst h;cases d<;>simp[isAgg,zal hd]
theorem juw{a:Addr}{v:Value}(h:w.cell? a=some v):(load a).run P w= .ok v w:=by
 simp[load,Sem.run,h]
theorem xws{a:Addr}{v u:Value}(h:w.cell? a=some u)(hf:w.frozen? a=false)(h1:∀cs,v≠ .agg cs)(h2:∀vs,v≠ .tuple vs):
  (store a v).run P w= .ok () (w.setCell a v):=by
 cases v<;>first | exact absurd rfl (h1 _) | exact absurd rfl (h2 _) | simp[store,Sem.run,h,hf]
theorem zei(b off n:Nat):(⟨b,off,none⟩:Addr).add n=⟨b,off+n,none⟩:=by
 unfold Addr.add;split
 ·rename_i h;subst h;rfl
 ·rfl
theorem zml{b off:Nat}{vs:Nat->Value}:∀(n i:Nat) (acc:Array Value),
  (∀j,i<=j->j<i+n->w.cell? ⟨b,off+j,none⟩=some (vs j))->
  (loadCellsFrom ⟨b,off,none⟩ i n acc).run P w= .ok (acc++((List.range' i n).map vs).toArray) w:=by
 intro n
 induction n with
 |zero=>intro i acc _;simp[loadCellsFrom]
 |succ n ih=>
  intro i acc h;simp only[loadCellsFrom,Sem.run_bind,zei];rw[juw (h i (qA _) (by omega))];simp only[Result.andThen_ok];rw[ih (i+1) _ (λj h1 h2=>h j (by omega) (by omega))];simp[xB]
theorem zkw{b off n:Nat}{vs:Nat->Value}(h:∀j,j<n->w.cell? ⟨b,off+j,none⟩=some (vs j)):
  (loadCells ⟨b,off,none⟩ n).run P w= .ok ((List.range n).map vs).toArray w:=by
 unfold loadCells;rw[zml n 0 #[] (λj _ h2=>h j (by omega))];simp[xH]
end runs
section inversions
variable{w:World}{M:Nat->Prop}{ρ:Nat->RS}
theorem zbi{k:IntKind}{n:Int}{v:Value}(h:Rep w M ρ (.int k n) v):v= .int k n:=by
 cases h with | imm _ _ h=>cases h;rfl
theorem zej{b:Bool}{v:Value}(h:Rep w M ρ (.bool b) v):v= .bool b:=by
 cases h with | imm _ _ h=>cases h;rfl
theorem zta{v:Value}(h:Rep w M ρ .anyb v):∃b,v= .bool b:=by
 cases h with | imm _ _ h=>cases h;exact⟨_,rfl⟩
theorem zjw{s:ByteArray}{v:Value}(h:Rep w M ρ (.str s) v):v= .string s:=by
 cases h with | imm _ _ h=>cases h;rfl
theorem ztb{id off:Nat}{v:Value}(h:Rep w M ρ (.ptr id off) v):∃b,v= .pointer (some ⟨b,off,none⟩)/\((ρ id= .here b/\∃x,w.shape? b=some x)\/ρ id= .dead):=by
 cases h with
 |imm _ _ h=>cases h
 |ptrDead _ _ b h=>exact⟨b,rfl,.inr h⟩
 |ptrAt _ _ b h hs=>exact⟨b,rfl,.inl ⟨h,hs⟩⟩
theorem zoj{id off:Nat}{v:Value}(h:Rep w M ρ (.ptr id off) v):∃b,v= .pointer (some ⟨b,off,none⟩)/\(ρ id= .here b\/ρ id= .dead):=by
 obtain⟨b,h1,h2⟩:=ztb h;exact⟨b,h1,h2.imp (λx=>x.1) (λx=>x)⟩
theorem zhd{cs:List AV}{p:Nat}{v:Value}(h:Rep w M ρ (.iptr cs p) v):
  ∃(b off:Nat) (vs:Nat->Value),v= .pointer (some ⟨b,off+p,none⟩)/\(cs≠[]->¬M b)/\(∀j,j<cs.length->w.cell? ⟨b,off+j,none⟩=some (vs j))/\
   ∀(j:Nat) (a:AV),cs[j]?=some a->IRep w M a (vs j):=by
 cases h with
 |imm _ _ h=>cases h with | iptr _ _ b off vs h1 h2 h3=>exact⟨b,off,vs,rfl,h1,h2,h3⟩
theorem zjx{cs:List AV}{v:Value}(h:Rep w M ρ (.agg cs) v):
  ∃vs:Array Value,v= .agg vs/\vs.size=cs.length/\∀(j:Nat) (a:AV) (v:Value),cs[j]?=some a->vs[j]?=some v->Rep w M ρ a v:=by
 cases h with
 |imm _ _ h=>cases h with | agg _ vs hl hr=>exact⟨vs,rfl,hl,λj a v h1 h2=> .imm _ _ (hr j a v h1 h2)⟩
 |agg _ vs hl hr=>exact⟨vs,rfl,hl,hr⟩
theorem ztc{cs:List AV}{v:Value}(h:Rep w M ρ (.tup cs) v):
  ∃vs:Array Value,v= .tuple vs/\vs.size=cs.length/\∀(j:Nat) (a:AV) (v:Value),cs[j]?=some a->vs[j]?=some v->Rep w M ρ a v:=by
 cases h with
 |imm _ _ h=>cases h with | tup _ vs hl hr=>exact⟨vs,rfl,hl,λj a v h1 h2=> .imm _ _ (hr j a v h1 h2)⟩
 |tup _ vs hl hr=>exact⟨vs,rfl,hl,hr⟩
theorem noF1{a:Nat}{p:Prop}(h:65536+a<65536):p:=absurd h (by omega)
theorem noF2{p:Prop}(h:131072<65536):p:=absurd h (by omega)
theorem noF3{p:Prop}(h:131073<65536):p:=absurd h (by omega)
theorem noF4{p:Prop}(h:131074<65536):p:=absurd h (by omega)
theorem noF9{p:Prop}(h:131075<65536):p:=absurd h (by omega)
theorem jye{p:Prop}(h:69631<65536):p:=absurd h (by omega)
theorem kqa{p:Prop}(h:131072<=69631):p:=absurd h (by omega)
theorem xwt{p:Prop}(h:131075<131072):p:=absurd h (by omega)
theorem noF5{a:Nat}{p:Prop}(h:a<65536)(h':65536<=a):p:=absurd h (by omega)
theorem noF6{a:Nat}{p:Prop}(h:131072<131072):p:=absurd h (by omega)
theorem noF7{a:Nat}{p:Prop}(h:131073<131072):p:=absurd h (by omega)
theorem noF8{a:Nat}{p:Prop}(h:131074<131072):p:=absurd h (by omega)
theorem qip{f:FuncId}{cs:List AV}{v:Value}(h:Rep w M ρ (.clo f cs) v)(hf:f<65536):
  ∃vs:Array Value,v= .func (.func f) #[] vs/\vs.size=cs.length/\∀(j:Nat) (a:AV) (v:Value),cs[j]?=some a->vs[j]?=some v->Rep w M ρ a v:=by
 cases h with
 |imm _ _ h=>
  cases h with
  |clo _ _ vs hf' hl hr=>exact⟨vs,rfl,hl,λj a v h1 h2=> .imm _ _ (hr j a v h1 h2)⟩
  |bnd f' _ vs hf' hl hr=>exact noF1 hf
  |nilp=>exact noF2 hf
  |nilf=>exact noF3 hf
 |clo _ _ vs hf' hl hr=>exact⟨vs,rfl,hl,hr⟩
 |bnd f' _ vs hf' hl hr=>exact noF1 hf
 |mapDead=>exact noF4 hf
 |mapAt=>exact noF4 hf
 |ydDead=>exact noF9 hf
 |ydAt=>exact noF9 hf
 |ydF=>exact jye hf
theorem qiq{f:FuncId}{cs:List AV}{v:Value}(h:Rep w M ρ (.clo f cs) v)(hf:65536<=f)(hf':f<131072)(hne:f≠69631):
  ∃vs:Array Value,v= .func (.func (f-65536)) vs #[]/\vs.size=cs.length/\∀(j:Nat) (a:AV) (v:Value),cs[j]?=some a->vs[j]?=some v->Rep w M ρ a v:=by
 cases h with
 |imm _ _ h=>
  cases h with
  |clo _ _ vs hf2 hl hr=>exact noF5 hf2 hf
  |bnd f' _ vs hf2 hl hr=>exact⟨vs,by rw[xC],hl,λj a v h1 h2=> .imm _ _ (hr j a v h1 h2)⟩
  |nilp=>exact noF6 (a:=0) hf'
  |nilf=>exact noF7 (a:=0) hf'
 |clo _ _ vs hf2 hl hr=>exact noF5 hf2 hf
 |bnd f' _ vs hf2 hl hr=>exact⟨vs,by rw[xC],hl,hr⟩
 |mapDead=>exact noF8 (a:=0) hf'
 |mapAt=>exact noF8 (a:=0) hf'
 |ydDead=>exact xwt hf'
 |ydAt=>exact xwt hf'
 |ydF=>exact absurd rfl hne
theorem zyk{f:FuncId}{cs:List AV}{v:Value}(h:Rep w M ρ (.clo f cs) v)(hf:131072<=f):
  (f=131072/\v= .pointer none)\/(f=131073/\v= .nilFunc)\/(f=131074/\∃id b,cs=[.ptr id 0]/\v= .map (some b)/\((ρ id= .here b/\w.shape? b=none)\/ρ id= .dead))\/
  (f=131075/\∃id b,cs=[.ptr id 0]/\v= .func (.yield b) #[] #[]/\((ρ id= .here b/\w.shape? b=none)\/ρ id= .dead)):=by
 cases h with
 |imm _ _ h=>
  cases h with
  |clo _ _ vs hf2 hl hr=>exact noF5 hf2 (xJ (by decide) hf)
  |bnd f' _ vs hf2 hl hr=>exact noF5 hf2.1 (xK (a:=65536) hf)
  |nilp=>exact .inl ⟨rfl,rfl⟩
  |nilf=>exact .inr (.inl ⟨rfl,rfl⟩)
 |clo _ _ vs hf2 hl hr=>exact noF5 hf2 (xJ (by decide) hf)
 |bnd f' _ vs hf2 hl hr=>exact noF5 hf2.1 (xK (a:=65536) hf)
 |mapDead id b h=>exact .inr (.inr (.inl ⟨rfl,id,b,rfl,rfl,.inr h⟩))
 |mapAt id b h hs=>exact .inr (.inr (.inl ⟨rfl,id,b,rfl,rfl,.inl ⟨h,hs⟩⟩))
 |ydDead id b h=>exact .inr (.inr (.inr ⟨rfl,id,b,rfl,rfl,.inr h⟩))
 |ydAt id b h hs=>exact .inr (.inr (.inr ⟨rfl,id,b,rfl,rfl,.inl ⟨h,hs⟩⟩))
 |ydF=>exact kqa hf
theorem qsp{cs:List AV}{v:Value}(h:Rep w M ρ (.clo 131072 cs) v):v= .pointer none:=by
 rcases zyk h (qA _)with⟨_,h⟩ | ⟨h,_⟩ | ⟨h,_⟩ | ⟨h,_⟩
 ·exact h
 ·exact absurd h (by decide)
 ·exact absurd h (by decide)
 ·exact absurd h (by decide)
theorem jyf{id:Nat}{v:Value}(h:Rep w M ρ (.clo 131074 [.ptr id 0]) v):∃b,v= .map (some b)/\((ρ id= .here b/\w.shape? b=none)\/ρ id= .dead):=by
 rcases zyk h (by decide)with⟨h,_⟩ | ⟨h,_⟩ | ⟨_,i,b,e,h1,h2⟩ | ⟨h,_⟩
 ·exact absurd h (by decide)
 ·exact absurd h (by decide)
 ·simp at e;subst e;exact⟨b,h1,h2⟩
 ·exact absurd h (by decide)
theorem qir{id:Nat}{v:Value}(h:Rep w M ρ (.clo 131075 [.ptr id 0]) v):∃b,v= .func (.yield b) #[] #[]/\((ρ id= .here b/\w.shape? b=none)\/ρ id= .dead):=by
 rcases zyk h (by decide)with⟨h,_⟩ | ⟨h,_⟩ | ⟨h,_⟩ | ⟨_,i,b,e,h1,h2⟩
 ·exact absurd h (by decide)
 ·exact absurd h (by decide)
 ·exact absurd h (by decide)
 ·simp at e;subst e;exact⟨b,h1,h2⟩
theorem jyg{cs:List AV}{v:Value}(h:Rep w M ρ (.clo 69631 cs) v):∃id,cs=[.clo 131075 [.ptr id 0]]/\Rep w M ρ (.clo 131075 [.ptr id 0]) v:=by
 generalize ha:AV.clo 69631 cs=a at h;cases h with
 |imm _ _ h=>
  cases h with
  |clo f _ vs hf=>exact jye (by rw[(AV.clo.inj ha).1];exact hf)
  |bnd f _ vs hf=>exact absurd (xI (show 65536+4095=65536+f from(AV.clo.inj ha).1)).symm hf.2
  |_=>simp at ha
 |clo f _ vs hf=>exact jye (by rw[(AV.clo.inj ha).1];exact hf)
 |bnd f _ vs hf=>exact absurd (xI (show 65536+4095=65536+f from(AV.clo.inj ha).1)).symm hf.2
 |ydF id _ h=>exact⟨id,(AV.clo.inj ha).2,h⟩
 |_=>simp at ha
theorem qby{f:FuncId}{cs:List AV}{v:Value}(h:Rep w M ρ (.clo f cs) v):v.cells= #[v]/\(∀l,v≠ .agg l)/\∀l,v≠ .tuple l:=by
 cases h with
 |imm _ _ h=>cases h<;>exact⟨rfl,by simp,by simp⟩
 |ydF id _ h=>
  obtain⟨b,rfl,_⟩:=qir h;exact⟨rfl,by simp,by simp⟩
 |_=>exact⟨rfl,by simp,by simp⟩
theorem zfd{id off n sz:Nat}{c:Option Nat}{v:Value}(h:Rep w M ρ (.sl id off n sz c) v):
  ∃b cap,v= .slice (some ⟨b,off,none⟩) n cap/\n<=cap/\(∀k,c=some k->cap=k)/\
   (ρ id= .dead\/(ρ id= .here b/\∃el m,w.shape? b=some (el,m)/\off+cap*sz<=m)):=by
 cases h with
 |imm _ _ h=>cases h
 |slDead _ _ _ _ _ b cap h hn hc=>exact⟨b,cap,rfl,hn,hc,.inl h⟩
 |slAt _ _ _ _ _ b cap el m h hs hn hc hm=>exact⟨b,cap,rfl,hn,hc,.inr ⟨h,el,m,hs,hm⟩⟩
theorem zfv{cs:List AV}{n:Nat}{c:Option Nat}{v:Value}(h:Rep w M ρ (.vec cs n c) v):
  (∃p,v= .slice p 0 0/\cs=[]/\n=0/\(∀k,c=some k->k=0))\/
  ∃(b off cap:Nat) (vs:Nat->Value),v= .slice (some ⟨b,off,none⟩) n cap/\(cs≠[]->¬M b)/\(∀j,j<cs.length->w.cell? ⟨b,off+j,none⟩=some (vs j))/\
   (∀(j:Nat) (a:AV),cs[j]?=some a->IRep w M a (vs j))/\n<=cap/\(∀k,c=some k->cap=k):=by
 cases h with
 |imm _ _ h=>cases h with
  |nil p c hc=>exact .inl ⟨p,rfl,rfl,rfl,hc⟩
  |vec _ _ _ b off cap vs h1 h2 h3 h4 h5=>exact .inr ⟨b,off,cap,vs,rfl,h1,h2,h3,h4,h5⟩
theorem zok{a:AV}{v:Value}(h:Rep w M ρ a v)(hf:a.firm=true):
  v.cells.size=a.cells.length/\∀(j:Nat) (x:AV),a.cells[j]?=some x->∃u,v.cells[j]?=some u/\Rep w M ρ x u:=by
 have one:∀(a:AV) (v:Value),Rep w M ρ a v->a.cells=[a]->v.cells= #[v]->
   v.cells.size=a.cells.length/\∀(j:Nat) (x:AV),a.cells[j]?=some x->∃u,v.cells[j]?=some u/\Rep w M ρ x u:=by
  intro a v h h1 h2;rw[h1,h2];refine⟨rfl,λj x hx=>?_⟩;cases j with
  |zero=>simp at hx;subst hx;exact⟨v,rfl,h⟩
  |succ j=>simp at hx
 cases a with
 |agg cs=>
  obtain⟨vs,rfl,hl,hr⟩:=zjx h;refine⟨hl,λj x hx=>?_⟩
  have hj:j<vs.size:=by
   rw[hl];rcases qV j cs.length with h' | h'
   ·exact h'
   ·simp[AV.cells,qK h']at hx
  exact⟨vs[j],by simp[Value.cells,hj],hr j x _ hx (by simp[hj])⟩
 |tup vs=>simp[AV.firm]at hf
 |junk=>simp[AV.firm]at hf
 |bool b=>have:=zej h;subst this;exact one _ _ h rfl rfl
 |int k n=>have:=zbi h;subst this;exact one _ _ h rfl rfl
 |str s=>have:=zjw h;subst this;exact one _ _ h rfl rfl
 |anyb=>obtain⟨b,rfl⟩:=zta h;exact one _ _ h rfl rfl
 |ptr id off=>obtain⟨b,rfl,_⟩:=zoj h;exact one _ _ h rfl rfl
 |iptr cs p=>obtain⟨b,off,vs,rfl,_⟩:=zhd h;exact one _ _ h rfl rfl
 |clo f cs=>exact one _ _ h rfl (qby h).1
 |sl id off n sz c=>obtain⟨b,cap,rfl,_⟩:=zfd h;exact one _ _ h rfl rfl
 |vec cs n c=>
  rcases zfv h with⟨p,rfl,_⟩ | ⟨b,off,cap,vs,rfl,_⟩
  ·exact one _ _ h rfl rfl
  ·exact one _ _ h rfl rfl
theorem qsq{a:AV}{v:Value}(h:Rep w M ρ a v)(hs:a.scal=true):(∀cs,v≠ .agg cs)/\∀vs,v≠ .tuple vs:=by
 cases a with
 |agg cs=>simp[AV.scal]at hs
 |tup vs=>simp[AV.scal]at hs
 |junk=>simp[AV.scal]at hs
 |bool b=>have:=zej h;subst this;simp
 |int k n=>have:=zbi h;subst this;simp
 |str s=>have:=zjw h;subst this;simp
 |anyb=>obtain⟨b,rfl⟩:=zta h;simp
 |ptr id off=>obtain⟨b,rfl,_⟩:=zoj h;simp
 |iptr cs p=>obtain⟨b,off,vs,rfl,_⟩:=zhd h;simp
 |clo f cs=>exact(qby h).2
 |sl id off n sz c=>obtain⟨b,cap,rfl,_⟩:=zfd h;simp
 |vec cs n c=>
  rcases zfv h with⟨p,rfl,_⟩ | ⟨b,off,cap,vs,rfl,_⟩<;>simp
end inversions
theorem zch{H:Heap}{id:Nat}{cs:List AV}(h:getB H id=some cs):H[id]?=some (some cs):=by
 unfold getB at h;split at h
 ·rename_i cs' h';simp at h;subst h;exact h'
 ·simp at h
theorem HOK.at'{Γ:Glob}{w:World}{F:Nat->Prop}{ρ:Nat->RS}{H:Heap}(h:HOK Γ w F ρ H){id:Nat}{cs:List AV}(hg:getB H id=some cs):∃b,ρ id= .here b/\zjv Γ w (Mu F ρ) ρ cs b:=by
 have h1:=zch hg;obtain⟨b,hb⟩:=h.alive id cs h1;obtain⟨cs',h2,h3⟩:=h.blk id b hb;rw[h1]at h2;simp at h2;subst h2;exact⟨b,hb,h3⟩
theorem HOK.at{Γ:Glob}{w:World}{F:Nat->Prop}{ρ:Nat->RS}{H:Heap}(h:HOK Γ w F ρ H){id:Nat}{cs:List AV}(hg:getB H id=some cs)(hsh:∀b,ρ id= .here b->∃x,w.shape? b=some x):
  ∃b el m,ρ id= .here b/\w.shape? b=some (el,m)/\cs.length<=m/\(∀j,w.frozen? ⟨b,j,none⟩=false)/\
   ∀(j:Nat) (a:AV),cs[j]?=some a->∃v,w.cell? ⟨b,j,none⟩=some v/\Rep w (Mu F ρ) ρ a v:=by
 obtain⟨b,hb,h3⟩:=h.at' hg;obtain⟨el,m,h3,h4,h5,h6⟩:=h3.cells (hsh b hb);exact⟨b,el,m,hb,h3,h4,h5,h6⟩
theorem qis{w:World}{M:Nat->Prop}{ρ:Nat->RS}{id off:Nat}{v:Value}(h:Rep w M ρ (.ptr id off) v):∀b,ρ id= .here b->∃x,w.shape? b=some x:=by
 intro b hb;obtain⟨b',_,h2⟩:=ztb h;rcases h2 with⟨h2,h3⟩ | h2
 ·rw[hb]at h2;simp at h2;subst h2;exact h3
 ·rw[hb]at h2;simp at h2
theorem qey{w:World}{M:Nat->Prop}{ρ:Nat->RS}{id off n sz:Nat}{c:Option Nat}{v:Value}(h:Rep w M ρ (.sl id off n sz c) v):∀b,ρ id= .here b->∃x,w.shape? b=some x:=by
 intro b hb;obtain⟨b',cap,_,_,_,h2⟩:=zfd h;rcases h2 with h2 | ⟨h2,el,m,h3,_⟩
 ·rw[hb]at h2;simp at h2
 ·rw[hb]at h2;simp at h2;subst h2;exact⟨_,h3⟩
theorem zic{v:Value}{a:AV}(w:World)(M:Nat->Prop)(h:zix v=some a):IRep w M a v:=by
 unfold zix at h;split at h<;>simp at h<;>subst h
 ·exact .bool _
 ·exact .int _ _
 ·exact .str _
 ·exact .nil none _ (by intro k hk;simp at hk;exact hk.symm)
 ·exact .nilp
 ·exact .nilf
theorem zhe{α β:Type}{f:α->Option β}:∀{l:List α} {r:List β},l.mapM f=some r->r.length=l.length/\∀(j:Nat) (x:α),l[j]?=some x->∃y,r[j]?=some y/\f x=some y:=by
 intro l
 induction l with
 |nil=>intro r h;simp at h;subst h;simp
 |cons x l ih=>
  intro r h;rw[qN]at h;cases hx:f x with
  |none=>simp[hx]at h
  |some y=>
   cases hl:l.mapM f with
   |none=>simp[hx,hl]at h
   |some r'=>
    simp[hx,hl]at h;subst h;obtain⟨h1,h2⟩:=ih hl;refine⟨by simp[h1],λj z hz=>?_⟩;cases j with
    |zero=>simp at hz;subst hz;exact⟨y,rfl,hx⟩
    |succ j=>exact h2 j z (by simpa using hz)
theorem zol{v:Value}{a:AV}(w:World)(M:Nat->Prop)(h:ofV v=some a):IRep w M a v:=by
 cases v with
 |agg cs=>
  simp only[ofV]at h;cases hm:cs.toList.mapM zix with
  |none=>simp[hm]at h
  |some l=>
   simp[hm]at h;subst h;obtain⟨h1,h2⟩:=zhe hm;refine .agg l cs (by simp[h1]) (λj a v hj hv=>?_);obtain⟨y,hy,hy'⟩:=h2 j v (by simpa using hv);rw[hj]at hy;simp at hy;subst hy;exact zic w M hy'
 |_=>exact zic w M h
theorem zah{Γ:Glob}{w:World}{F:Nat->Prop}{ρ:Nat->RS}{H:Heap}(ho:HOK Γ w F ρ H){E:Env}{a:Act}
  (he:∀t,Rep w (Mu F ρ) ρ (E t) (a.tmps.getD t undef)) {x:Operand} {y:Opd} (h:cOpd Γ x=some y):
  Rep w (Mu F ρ) ρ (val E y) (a.eval x):=by
 cases x with
 |tmp t=>simp[cOpd]at h;subst h;exact he t
 |const v=>
  simp only[cOpd]at h;cases hv:ofV v with
  |none=>simp[hv]at h
  |some b=>simp[hv]at h;subst h;exact .imm _ _ (zol w _ hv)
 |global g=>
  simp only[cOpd]at h;cases hg:Γ.globs.find? (λx=>x.1 == g)with
  |none=>simp[hg]at h
  |some p=>
   simp[hg]at h;subst h;have h1:=List.mem_of_find?_eq_some hg;have h2:=List.find?_some hg;simp at h2;refine .imm _ _ ?_;have:=ho.glob p.1 p.2 h1;rw[h2]at this;exact this
 |func f=>
  simp only[cOpd]at h;split at h
  ·rename_i hf;simp at h;subst h;exact .imm _ _ (.clo f [] #[] hf rfl (by intro j a v hj;simp at hj))
  ·simp at h
def Snd(P:Program)(Γ:Glob)(o:Oper)(a:Act)(w:World)(F:Nat->Prop)(ρ:Nat->RS)(n0:Nat)(v:AV)(H':Heap)(new:List Nat):Prop:=
 ∃x v' w' ρ',(execOp a.eval o).run P w= .ok x w'/\(x= .value v'\/(x= .skip/\v'=undef))/\After Γ F n0 ρ w ρ' w' H' new/\Rep w' (Mu F ρ') ρ' v v'
theorem zac{c:Prop}[Decidable c]{α:Type}{x:Option α}{r:α}(h:need c x=some r):c/\x=some r:=by
 unfold need at h;split at h
 ·exact⟨‹_›,h⟩
 ·simp at h
def movP(off:Nat):AV->Option AV
 |.ptr id p=>some (.ptr id (p+off))
 |.iptr cs p=>some (.iptr cs (p+off))
 |_=>none
theorem zrn{P:Program}{w:World}{t:TypeId}(h:P.underlying t=some .bool)(x y:Bool):(Op.equal t (.bool x) (.bool y)).run P w= .ok (x == y) w:=by
 have key:∀d,(Op.equalIn (d+1) t (.bool x) (.bool y)).run P w= .ok (x == y) w:=by
  intro d;simp only[Op.equalIn,Sem.run_bind,zal h,Result.andThen_ok];rfl
 exact key 9999
section
variable{P:Program}{Γ:Glob}{E:Env}{a:Act}{w:World}{F:Nat->Prop}{ρ:Nat->RS}{H:Heap}{n0 fresh:Nat}{o:Oper}{v:AV}{e:Eff}{rd:List Nat}
theorem zam(ho:HOK Γ w F ρ H){v':Value}(hr:(execOp a.eval o).run P w= .ok (.value v') w)(h:Rep w (Mu F ρ) ρ v v'):Snd P Γ o a w F ρ n0 v H []:=
 ⟨_,v',w,ρ,hr,.inl rfl,zja n0 ho,h⟩
theorem qit(ho:HOK Γ w F ρ H)(he:∀t,Rep w (Mu F ρ) ρ (E t) (a.tmps.getD t undef)){x:Operand}{y:Opd}(hx:cOpd Γ x=some y)
  (hop:o.op= .move x\/o.op= .assign x):Snd P Γ o a w F ρ n0 (val E y) H []:=by
 refine zam ho ?_ (zah ho he hx);rcases hop with h | h<;>simp[execOp,h]
theorem qsr(ho:HOK Γ w F ρ H)(he:∀t,Rep w (Mu F ρ) ρ (E t) (a.tmps.getD t undef)){c x y:Operand}{c' x' y':Opd}(hc:cOpd Γ c=some c')
  (hx:cOpd Γ x=some x') (hy:cOpd Γ y=some y') (hop:o.op= .pick c x y) {t:Bool} (ht:val E c'= .bool t):
  Snd P Γ o a w F ρ n0 (if t then val E x' else val E y') H []:=by
 have h1:=zah ho he hc;rw[ht]at h1;have h2:=zej h1;refine zam ho (v':=if t then a.eval x else a.eval y) ?_ ?_
 ·cases t<;>simp[execOp,hop,h2,asBool]
 ·cases t
  ·exact zah ho he hy
  ·exact zah ho he hx
theorem jyh{op:BinOp}{ty:TypeId}{x y:AV}{x' y':Value}(h1:Rep w (Mu F ρ) ρ x x')(h2:Rep w (Mu F ρ) ρ y y')(h:binA op x y=some v):
  ∃v',(binOp op ty x' y').run P w= .ok v' w/\Rep w (Mu F ρ) ρ v v':=by
 cases x<;>try (simp[binA]at h;done)
 case int k n=>
  cases y<;>try (simp[binA]at h;done)
  case int k' m=>
   have e1:=zbi h1;have e2:=zbi h2;subst e1 e2;cases op<;>simp only[binA]at h<;>obtain⟨hn,hv⟩:=zac h<;>simp at hv<;>subst hv
   case shl=>exact⟨_,by simp[binOp,Op.shift,Int.not_lt.2 hn],.imm _ _ (.int _ _)⟩
   case shr=>exact⟨_,by simp[binOp,Op.shift,Int.not_lt.2 hn],.imm _ _ (.int _ _)⟩
   case quo=>obtain⟨rfl,hn⟩:=hn;exact⟨_,by simp[binOp,Op.intDiv,hn],.imm _ _ (.int _ _)⟩
   case rem=>obtain⟨rfl,hn⟩:=hn;exact⟨_,by simp[binOp,Op.intDiv,hn],.imm _ _ (.int _ _)⟩
   all_goals subst hn
   case add=>exact⟨_,by simp[binOp,Op.intArith],.imm _ _ (.int _ _)⟩
   case sub=>exact⟨_,by simp[binOp,Op.intArith],.imm _ _ (.int _ _)⟩
   case mul=>exact⟨_,by simp[binOp,Op.intArith],.imm _ _ (.int _ _)⟩
   case and=>exact⟨_,by simp[binOp,Op.intBits],.imm _ _ (.int _ _)⟩
   case or=>exact⟨_,by simp[binOp,Op.intBits],.imm _ _ (.int _ _)⟩
   case xor=>exact⟨_,by simp[binOp,Op.intBits],.imm _ _ (.int _ _)⟩
   case andNot=>exact⟨_,by simp[binOp,Op.intBits],.imm _ _ (.int _ _)⟩
   case eql=>exact⟨_,by simp[binOp,Op.intCmp],.imm _ _ (.bool _)⟩
   case neq=>exact⟨_,by simp[binOp,Op.intCmp],.imm _ _ (.bool _)⟩
   case lss=>exact⟨_,by simp[binOp,Op.intCmp],.imm _ _ (.bool _)⟩
   case leq=>exact⟨_,by simp[binOp,Op.intCmp],.imm _ _ (.bool _)⟩
   case gtr=>exact⟨_,by simp[binOp,Op.intCmp],.imm _ _ (.bool _)⟩
   case geq=>exact⟨_,by simp[binOp,Op.intCmp],.imm _ _ (.bool _)⟩
 case str s=>
  cases y<;>try (simp[binA]at h;done)
  case str s'=>
   have e1:=zjw h1;have e2:=zjw h2;subst e1 e2;cases op<;>simp only[binA]at h<;>try (simp at h;done)
   case add=>
    obtain⟨hn,hv⟩:=zac h;simp at hv;subst hv;exact⟨_,by simp[binOp,Op.stringOp];have:IntKind.i64.max=9223372036854775807:=rfl;omega,.imm _ _ (.str _)⟩
   case eql=>simp at h;subst h;exact⟨_,by simp[binOp,Op.stringOp],.imm _ _ (.bool _)⟩
   case neq=>simp at h;subst h;exact⟨_,by simp[binOp,Op.stringOp],.imm _ _ (.bool _)⟩
theorem zvn{op:BinOp}{ty:TypeId}{x y:AV}{x' y':Value}{ox oy:Operand}(h1:Rep w (Mu F ρ) ρ x x')(h2:Rep w (Mu F ρ) ρ y y')
  (hx:(∃k n,x= .int k n)\/(∃s,x= .str s)\/(∃b,x= .bool b)):(eqGuard op ty ox oy x' y').run P w= .ok () w:=by
 have hx':(∃k n,x'= .int k n)\/(∃s,x'= .string s)\/(∃b,x'= .bool b):=by
  rcases hx with⟨k,n,rfl⟩ | ⟨s,rfl⟩ | ⟨b,rfl⟩
  ·exact .inl ⟨k,n,zbi h1⟩
  ·exact .inr (.inl ⟨s,zjw h1⟩)
  ·exact .inr (.inr ⟨b,zej h1⟩)
 rcases hx' with⟨k,n,rfl⟩ | ⟨s,rfl⟩ | ⟨b,rfl⟩<;>(unfold eqGuard;split<;>simp)
theorem qiu(ho:HOK Γ w F ρ H)(he:∀t,Rep w (Mu F ρ) ρ (E t) (a.tmps.getD t undef)){op:BinOp}{ty ty':TypeId}{x y:Operand}{x' y':Opd}
  (hx:cOpd Γ x=some x') (hy:cOpd Γ y=some y') (hop:o.op= .binOp op ty x y ty') (h:binA op (val E x') (val E y')=some v):
  Snd P Γ o a w F ρ n0 v H []:=by
 have h1:=zah ho he hx;have h2:=zah ho he hy;obtain⟨v',hv,hr⟩:=jyh (P:=P) (ty:=ty) h1 h2 h
 have hg:=zvn (P:=P) (op:=op) (ty:=ty) (ox:=x) (oy:=y) h1 h2 (by
  revert h;cases val E x'<;>simp[binA])
 exact zam ho (by simp[execOp,hop,hg,hv]) hr
theorem qiv(ho:HOK Γ w F ρ H)(he:∀t,Rep w (Mu F ρ) ρ (E t) (a.tmps.getD t undef)){neg:Bool}{ty ty':TypeId}{x y:Operand}{x' y':Opd}
  (hty:P.underlying ty=some .bool) (hx:cOpd Γ x=some x') (hy:cOpd Γ y=some y') (hop:o.op= .binOp (if neg then .neq else .eql) ty x y ty')
  {s t:Bool} (hs:val E x'= .bool s) (ht:val E y'= .bool t):Snd P Γ o a w F ρ n0 (.bool (if neg then !(s == t)else(s == t))) H []:=by
 have h1:=zah ho he hx;have h2:=zah ho he hy;rw[hs]at h1;rw[ht]at h2;have hg:=zvn (P:=P) (op:=if neg then .neq else .eql) (ty:=ty) (ox:=x) (oy:=y) h1 h2 (.inr (.inr ⟨s,rfl⟩));have e1:=zej h1;have e2:=zej h2;rw[e1,e2]at hg;refine zam ho (v':= .bool (if neg then !(s == t)else(s == t))) ?_ (.imm _ _ (.bool _));cases neg
 ·simp only[qB,if_false]at hop hg ⊢;simp[execOp,hop,e1,e2,hg,binOp,zrn hty]
 ·simp only[if_true]at hop hg ⊢;simp[execOp,hop,e1,e2,hg,binOp,zrn hty]
theorem xwu(ho:HOK Γ w F ρ H)(he:∀t,Rep w (Mu F ρ) ρ (E t) (a.tmps.getD t undef)){op:UnOp}{ty:TypeId}{x:Operand}{x':Opd}
  (hx:cOpd Γ x=some x') (hop:o.op= .unOp op ty x) (h:unA op (val E x')=some v):Snd P Γ o a w F ρ n0 v H []:=by
 have h1:=zah ho he hx;cases hv:val E x'<;>rw[hv]at h h1<;>try (simp[unA]at h;done)
 case int k n=>
  cases op<;>simp[unA]at h;subst h;exact zam ho (by simp[execOp,hop,zbi h1,Op.unary,Op.intArith]) (.imm _ _ (.int _ _))
 case bool b=>
  cases op<;>simp[unA]at h;subst h;exact zam ho (by simp[execOp,hop,zej h1,Op.unary]) (.imm _ _ (.bool _))
theorem qss(ho:HOK Γ w F ρ H)(he:∀t,Rep w (Mu F ρ) ρ (E t) (a.tmps.getD t undef)){src dst:TypeId}{d:TypeDesc}{k k':IntKind}{n:Int}{x:Operand}{x':Opd}
  (hs:P.underlying src=some d) (hd:P.underlying dst=some (.int k)) (hx:cOpd Γ x=some x') (hop:o.op= .convert src dst x) (hv:val E x'= .int k' n):
  Snd P Γ o a w F ρ n0 (.int k (k.wrap n)) H []:=by
 have h1:=zah ho he hx;rw[hv]at h1;refine zam ho (v':= .int k (k.wrap n)) ?_ (.imm _ _ (.int _ _));cases d<;>simp[execOp,hop,zbi h1,convert,zal hs,zal hd,Conv.intToInt]
theorem zvo(ho:HOK Γ w F ρ H)(he:∀t,Rep w (Mu F ρ) ρ (E t) (a.tmps.getD t undef)){x:Operand}{x':Opd}
  (hx:cOpd Γ x=some x') (hop:o.op= .nilCheck x) (hv:(∃id off,val E x'= .ptr id off)\/∃cs p,val E x'= .iptr cs p):
  Snd P Γ o a w F ρ n0 (val E x') H []:=by
 have h1:=zah ho he hx;rcases hv with⟨id,off,hv⟩ | ⟨cs,p,hv⟩
 ·rw[hv]at h1 ⊢;obtain⟨b,e,_⟩:=zoj h1;exact zam ho (v':=a.eval x) (by simp[execOp,hop,e]) h1
 ·rw[hv]at h1 ⊢;obtain⟨b,off,vs,e,_⟩:=zhd h1;exact zam ho (v':=a.eval x) (by simp[execOp,hop,e]) h1
theorem jyi{vs:List AV}{i:Nat}{x:AV}{u:Value}(h:Rep w (Mu F ρ) ρ (.tup vs) u)(hi:vs[i]?=some x):
  ∃us y,u= .tuple us/\us[i]?=some y/\Rep w (Mu F ρ) ρ x y:=by
 obtain⟨us,rfl,hl,hr⟩:=ztc h
 have hlt:i<us.size:=by
  rw[hl];rcases qV i vs.length with h' | h'
  ·exact h'
  ·rw[qK h']at hi;simp at hi
 exact⟨us,us[i],rfl,by simp[hlt],hr i x _ hi (by simp[hlt])⟩
theorem jyj(ho:HOK Γ w F ρ H)(he:∀t,Rep w (Mu F ρ) ρ (E t) (a.tmps.getD t undef)){x:Operand}{x':Opd}{i:Nat}{vs:List AV}
  (hx:cOpd Γ x=some x') (hop:o.op= .extract x i) (hv:val E x'= .tup vs) (hi:vs[i]?=some v):Snd P Γ o a w F ρ n0 v H []:=by
 have h1:=zah ho he hx;rw[hv]at h1;obtain⟨us,y,e,hy,hr⟩:=jyi h1 hi;exact zam ho (v':=y) (by simp[execOp,hop,e,Instr.extract,hy]) hr
theorem jyk(ho:HOK Γ w F ρ H)(he:∀t,Rep w (Mu F ρ) ρ (E t) (a.tmps.getD t undef)){cl:Call}{x y:Operand}{x' y':Opd}
  (hx:cOpd Γ x=some x') (hy:cOpd Γ y=some y') (hop:o.op= .call cl) (hc:cl.callee= .builtin .max) (hargs:cl.args.toList=[x,y]) {k k':IntKind} {m n:Int}
  (h1:val E x'= .int k m) (h2:val E y'= .int k' n):Snd P Γ o a w F ρ n0 (.int k (if n>m then n else m)) H []:=by
 have r1:=zah ho he hx;have r2:=zah ho he hy;rw[h1]at r1;rw[h2]at r2;have ha:cl.args= #[x,y]:=by rw[<-Array.toArray_toList (xs:=cl.args),hargs]
 refine zam ho (v':= .int k (if n>m then n else m)) ?_ (.imm _ _ (.int _ _));simp[execOp,hop,resolve,hc,ha,invoke,builtin,Builtin.max_,zbi r1,zbi r2,Builtin.max2]
theorem znu(ho:HOK Γ w F ρ H)(he:∀t,Rep w (Mu F ρ) ρ (E t) (a.tmps.getD t undef)){l:List Operand}{l':List Opd}(h:l.mapM (cOpd Γ)=some l'):
  (l.map a.eval).length=(l'.map (val E)).length/\∀(j:Nat) (x:AV) (y:Value),(l'.map (val E))[j]?=some x->(l.map a.eval)[j]?=some y->Rep w (Mu F ρ) ρ x y:=by
 obtain⟨h1,h2⟩:=zhe h;refine⟨by simp[h1],λj x y hx hy=>?_⟩;simp only[List.getElem?_map,qO]at hx hy;obtain⟨p,hp,rfl⟩:=hx;obtain⟨q,hq,rfl⟩:=hy;obtain⟨z,hz,hz'⟩:=h2 j q hq;rw[hp]at hz;simp at hz;subst hz;exact zah ho he hz'
theorem qst(ho:HOK Γ w F ρ H)(he:∀t,Rep w (Mu F ρ) ρ (E t) (a.tmps.getD t undef)){f:FuncId}{first caps:Array Operand}{caps':List Opd}
  (hf:first= #[]) (hf':f<65536) (hx:caps.toList.mapM (cOpd Γ)=some caps') (hop:o.op= .makeFunc (.func f) first caps):Snd P Γ o a w F ρ n0 (.clo f (caps'.map (val E))) H []:=by
 obtain⟨h1,h2⟩:=znu ho he hx;refine zam ho (v':= .func (.func f) #[] (caps.map a.eval)) ?_ (.clo f _ _ hf' (by simpa using h1) (λj x y hx hy=>h2 j x y hx (by simpa using hy)));simp[execOp,hop,hf,Instr.makeFunc]
theorem qiw(ho:HOK Γ w F ρ H)(he:∀t,Rep w (Mu F ρ) ρ (E t) (a.tmps.getD t undef)){f:FuncId}{first caps:Array Operand}{first':List Opd}
  (hf:caps= #[]) (hf':f<65536/\f≠4095) (hx:first.toList.mapM (cOpd Γ)=some first') (hop:o.op= .makeFunc (.func f) first caps):Snd P Γ o a w F ρ n0 (.clo (65536+f) (first'.map (val E))) H []:=by
 obtain⟨h1,h2⟩:=znu ho he hx;refine zam ho (v':= .func (.func f) (first.map a.eval) #[]) ?_ (.bnd f _ _ hf' (by simpa using h1) (λj x y hx hy=>h2 j x y hx (by simpa using hy)));simp[execOp,hop,hf,Instr.makeFunc]
theorem qix{off:Nat}{x:AV}{x':Value}(h:Rep w (Mu F ρ) ρ x x')(hv:movP off x=some v):
  ∃b p,x'= .pointer (some ⟨b,p,none⟩)/\Rep w (Mu F ρ) ρ v (.pointer (some ⟨b,p+off,none⟩)):=by
 cases x<;>simp[movP]at hv<;>subst hv
 case ptr id p=>
  obtain⟨b,rfl,hb⟩:=ztb h;refine⟨b,p,rfl,?_⟩;rcases hb with⟨hb,hs⟩ | hb
  ·exact .ptrAt _ _ _ hb hs
  ·exact .ptrDead _ _ _ hb
 case iptr cs p=>
  obtain⟨b,q,vs,rfl,h1,h2,h3⟩:=zhd h;exact⟨b,q+p,rfl,.imm _ _ (by rw[qT];exact .iptr cs (p+off) b q vs h1 h2 h3)⟩
theorem qiy(ho:HOK Γ w F ρ H)(he:∀t,Rep w (Mu F ρ) ρ (E t) (a.tmps.getD t undef)){s:TypeId}{fields:Array Field}{fd:Field}{f z:Nat}{x:Operand}{x':Opd}
  (hs:P.underlying s=some (.struct fields)) (hf:fields[f]?=some fd) (hz:szT P fd.type=some z) (hz0:z≠0) (hx:cOpd Γ x=some x') (hop:o.op= .fieldAddr s x f)
  (hv:movP fd.offset (val E x')=some v):Snd P Γ o a w F ρ n0 v H []:=by
 obtain⟨b,p,e,hr⟩:=qix (zah ho he hx) hv;refine zam ho ?_ hr;simp[execOp,hop,e,Instr.fieldAt,zal hs,hf,Instr.sureAddr,fieldPlace,zcu hz,hz0,zei]
theorem ztd(ho:HOK Γ w F ρ H){v':Value}{t:TypeId}{x i:Operand}(hop:o.op= .indexAddr t x i)
  (hr:(Instr.indexAt t (a.eval x) (a.eval i)).run P w= .ok v' w) (h:Rep w (Mu F ρ) ρ v v'):Snd P Γ o a w F ρ n0 v H []:=
 zam ho (by simp[execOp,hop,hr]) h
theorem qiz(ho:HOK Γ w F ρ H)(he:∀t,Rep w (Mu F ρ) ρ (E t) (a.tmps.getD t undef)){t el:TypeId}{sz:Nat}{x i:Operand}{x' i':Opd}{k:IntKind}{j:Int}
  (ht:P.underlying t=some (.slice el)) (hz:szT P el=some sz) (hx:cOpd Γ x=some x') (hi:cOpd Γ i=some i') (hop:o.op= .indexAddr t x i) (hj:val E i'= .int k j)
  (hv:(∃id off n c,val E x'= .sl id off n sz c/\0<=j/\j<n/\v= .ptr id (off+j.toNat*sz))\/(∃cs n c,val E x'= .vec cs n c/\0<=j/\j<n/\v= .iptr cs (j.toNat*sz))):
  Snd P Γ o a w F ρ n0 v H []:=by
 have h1:=zah ho he hx;have h2:=zah ho he hi;rw[hj]at h2;have e2:=zbi h2;rcases hv with⟨id,off,n,c,hv,hj0,hjn,rfl⟩ | ⟨cs,n,c,hv,hj0,hjn,rfl⟩
 ·rw[hv]at h1;obtain⟨b,cap,e1,hn,hc,hb⟩:=zfd h1;refine ztd ho hop (v':= .pointer (some ⟨b,off+j.toNat*sz,none⟩)) ?_ ?_
  ·simp[e1,e2,Instr.indexAt,asIntOf,zal ht,hj0,hjn,zcu hz,zei]
  ·rcases hb with hb | ⟨hb,el',m',hs,_⟩
   ·exact .ptrDead _ _ _ hb
   ·exact .ptrAt _ _ _ hb ⟨_,hs⟩
 ·rw[hv]at h1;rcases zfv h1 with⟨_,_,_,hn0,_⟩ | ⟨b,off,cap,vs,e1,hM,hcell,hrep,hn,hc⟩
  ·omega
  ·refine ztd ho hop (v':= .pointer (some ⟨b,off+j.toNat*sz,none⟩)) ?_ (.imm _ _ (.iptr cs _ b off vs hM hcell hrep));simp[e1,e2,Instr.indexAt,asIntOf,zal ht,hj0,hjn,zcu hz,zei]
theorem qbz(ho:HOK Γ w F ρ H)(he:∀t,Rep w (Mu F ρ) ρ (E t) (a.tmps.getD t undef)){t el:TypeId}{n sz:Nat}{x i:Operand}{x' i':Opd}{k:IntKind}{j:Int}
  (ht:P.underlying t=some (.array n el)) (hz:szT P el=some sz) (hx:cOpd Γ x=some x') (hi:cOpd Γ i=some i') (hop:o.op= .indexAddr t x i) (hj:val E i'= .int k j)
  (hj0:0<=j) (hjn:j<n)
  (hv:movP (j.toNat*sz) (val E x')=some v):Snd P Γ o a w F ρ n0 v H []:=by
 have h2:=zah ho he hi;rw[hj]at h2;have e2:=zbi h2;obtain⟨b,p,e,hr⟩:=qix (zah ho he hx) hv;refine ztd ho hop ?_ hr;simp[e,e2,Instr.indexAt,asIntOf,zal ht,Instr.sureAddr,hj0,hjn,zcu hz,zei]
end
theorem zkx{P:Program}{t:TypeId}{ag:Bool}{sz:Nat}(h:ldSz P t=some (ag,sz)):
  zrj P t=some ag/\(ag=true->szT P t=some sz)/\(ag=false->sz=1):=by
 unfold ldSz at h;split at h
 ·rename_i h1 h2;simp at h;obtain⟨rfl,rfl⟩:=h;exact⟨h1,λ_=>h2,λx=>by simp at x⟩
 ·rename_i h1 h2;simp at h;obtain⟨rfl,rfl⟩:=h;exact⟨h1,λx=>by simp at x,λ_=>rfl⟩
 ·simp at h
theorem zjy{P:Program}{w:World}{t:TypeId}{ag:Bool}{sz:Nat}(h:ldSz P t=some (ag,sz)){b p:Nat}{vs:Nat->Value}
  (hc:∀j,j<sz->w.cell? ⟨b,p+j,none⟩=some (vs j)):
  (loadVar t ⟨b,p,none⟩).run P w= .ok (if ag then .agg ((List.range sz).map vs).toArray else vs 0) w:=by
 obtain⟨h1,h2,h3⟩:=zkx h;unfold loadVar;simp only[Sem.run_bind,zoi h1,Result.andThen_ok];cases ag with
 |true=>
  simp only[if_true,Sem.run_bind,zcu (h2 rfl),Result.andThen_ok,zkw hc];rfl
 |false=>
  have e:=h3 rfl;subst e;have:=hc 0 (by omega);simp only[qB,if_false];exact juw this
theorem zyl{w:World}{M:Nat->Prop}{ρ:Nat->RS}{ag:Bool}{sz off:Nat}{cs:List AV}{vs:Nat->Value}(hl:off+sz<=cs.length)(hs:ag=false->sz=1)
  (hr:∀(j:Nat) (a:AV),j<sz->cs[off+j]?=some a->Rep w M ρ a (vs j)):Rep w M ρ (ldv ag sz off cs) (if ag then .agg ((List.range sz).map vs).toArray else vs 0):=by
 unfold ldv;cases ag with
 |true=>
  simp only[if_true];refine .agg _ _ (by simp;omega) (λj a v hj hv=>?_);rw[qE]at hj;split at hj
  ·rename_i hlt;rw[qI]at hj;have:=hr j a hlt hj;simp[hlt]at hv;subst hv;exact this
  ·simp at hj
 |false=>
  have e:=hs rfl;subst e;simp only[qB,if_false];have hlt:off<cs.length:=by omega
  have:=hr 0 cs[off] (by omega) (by simp[hlt]);simpa[hlt]using this
section
variable{P:Program}{Γ:Glob}{E:Env}{a:Act}{w:World}{F:Nat->Prop}{ρ:Nat->RS}{H:Heap}{n0 fresh:Nat}{o:Oper}{v:AV}{e:Eff}{rd:List Nat}
theorem znv(ho:HOK Γ w F ρ H){id off:Nat}{u:Value}{cs:List AV}(h:Rep w (Mu F ρ) ρ (.ptr id off) u)(hg:getB H id=some cs):
  ∃b,u= .pointer (some ⟨b,off,none⟩)/\ρ id= .here b/\(∀j,w.frozen? ⟨b,j,none⟩=false)/\
   ∀(j:Nat) (a:AV),cs[j]?=some a->∃v,w.cell? ⟨b,j,none⟩=some v/\Rep w (Mu F ρ) ρ a v:=by
 have hsh:=qis h;obtain⟨b,rfl,hb⟩:=zoj h;obtain⟨b',el,m,hb',_,_,hf,hc⟩:=ho.at hg hsh;rcases hb with hb | hb
 ·rw[hb]at hb';simp at hb';subst hb';exact⟨b,rfl,hb,hf,hc⟩
 ·rw[hb]at hb';simp at hb'
theorem zid{b p sz:Nat}{cs:List AV}(hl:p+sz<=cs.length)
  (hc:∀(j:Nat) (a:AV),cs[j]?=some a->∃v,w.cell? ⟨b,j,none⟩=some v/\Rep w (Mu F ρ) ρ a v):
  ∃vs:Nat->Value,(∀j,j<sz->w.cell? ⟨b,p+j,none⟩=some (vs j))/\∀(j:Nat) (a:AV),j<sz->cs[p+j]?=some a->Rep w (Mu F ρ) ρ a (vs j):=by
 refine⟨λj=>(w.cell? ⟨b,p+j,none⟩).getD undef,λj hj=>?_,λj a hj ha=>?_⟩
 ·obtain⟨v,hv,_⟩:=hc (p+j) cs[p+j] (by simp);simp[hv]
 ·obtain⟨v,hv,hr⟩:=hc (p+j) a ha;simpa[hv]using hr
theorem qca(ho:HOK Γ w F ρ H)(he:∀t,Rep w (Mu F ρ) ρ (E t) (a.tmps.getD t undef)){t:TypeId}{ag:Bool}{sz:Nat}{x:Operand}{x':Opd}
  (ht:ldSz P t=some (ag,sz)) (hx:cOpd Γ x=some x') (hop:o.op= .load t x)
  (hv:(∃id off cs,val E x'= .ptr id off/\getB H id=some cs/\off+sz<=cs.length/\v=ldv ag sz off cs)\/
   (∃cs p,val E x'= .iptr cs p/\p+sz<=cs.length/\v=ldv ag sz p cs)):Snd P Γ o a w F ρ n0 v H []:=by
 have h1:=zah ho he hx;have hs:=(zkx ht).2.2;rcases hv with⟨id,off,cs,hv,hg,hl,rfl⟩ | ⟨cs,p,hv,hl,rfl⟩
 ·rw[hv]at h1;obtain⟨b,e1,hb,hf,hc⟩:=znv ho h1 hg;obtain⟨vs,hvs,hr⟩:=zid hl hc;refine zam ho ?_ (zyl hl hs hr);simp[execOp,hop,e1,Instr.loadAt,Instr.sureAddr,zjy ht hvs]
 ·rw[hv]at h1;obtain⟨b,q,vs,e1,hM,hcell,hrep⟩:=zhd h1
  have hvs:∀j,j<sz->w.cell? ⟨b,(q+p)+j,none⟩=some (vs (p+j)):=λj hj=>by
   rw[qT];exact hcell (p+j) (by omega)
  refine zam ho ?_ (zyl (vs:=λj=>vs (p+j)) hl hs (λj a hj ha=> .imm _ _ (hrep (p+j) a ha)));simp[execOp,hop,e1,Instr.loadAt,Instr.sureAddr,zjy ht hvs]
theorem qcb{t:TypeId}{ag:Bool}{sz off:Nat}{cs:List AV}{us:Array Value}(ht:ldSz P t=some (ag,sz))(hl:off+sz<=cs.length)(hsz:us.size=cs.length)
  (hr:∀(j:Nat) (a:AV) (v:Value),cs[j]?=some a->us[j]?=some v->Rep w (Mu F ρ) ρ a v):
  ∃v',(part t us off).run P w= .ok v' w/\Rep w (Mu F ρ) ρ (ldv ag sz off cs) v':=by
 obtain⟨h1,h2,h3⟩:=zkx ht;unfold part ldv;cases ag with
 |true=>
  refine⟨.agg (us.extract off (off+sz)),by simp[zoi h1,zcu (h2 rfl)],?_⟩;simp only[if_true];refine .agg _ _ (by simp;omega) (λj a v hj hv=>?_);rw[qE]at hj;split at hj
  ·rename_i hlt;rw[qI]at hj;refine hr (off+j) a v hj ?_;rw[Array.getElem?_extract]at hv;split at hv
   ·exact hv
   ·simp at hv
  ·simp at hj
 |false=>
  have e:=h3 rfl;subst e;have hlt:off<cs.length:=by omega
  have hlu:off<us.size:=by omega
  refine⟨us[off],by simp[zoi h1,hlu],?_⟩;have:=hr off cs[off] us[off] (by simp[hlt]) (by simp[hlu]);simpa[hlt]using this
theorem qsu(ho:HOK Γ w F ρ H)(he:∀t,Rep w (Mu F ρ) ρ (E t) (a.tmps.getD t undef)){s:TypeId}{fields:Array Field}{fd:Field}{f:Nat}{ag:Bool}{sz:Nat}{x:Operand}{x':Opd}{cs:List AV}
  (hs:P.underlying s=some (.struct fields)) (hf:fields[f]?=some fd) (ht:ldSz P fd.type=some (ag,sz)) (hx:cOpd Γ x=some x') (hop:o.op= .field s x f)
  (hv:val E x'= .agg cs) (hl:fd.offset+sz<=cs.length):Snd P Γ o a w F ρ n0 (ldv ag sz fd.offset cs) H []:=by
 have h1:=zah ho he hx;rw[hv]at h1;obtain⟨us,e1,hsz,hr⟩:=zjx h1;obtain⟨v',hv',hr'⟩:=qcb (P:=P) ht hl hsz hr;exact zam ho (by simp[execOp,hop,e1,Instr.field,zal hs,hf,asAgg,hv']) hr'
theorem qsv(ho:HOK Γ w F ρ H)(he:∀t,Rep w (Mu F ρ) ρ (E t) (a.tmps.getD t undef)){t el:TypeId}{n:Nat}{ag:Bool}{sz s:Nat}{x i:Operand}{x' i':Opd}{cs:List AV}{k:IntKind}{j:Int}
  (ht:P.underlying t=some (.array n el)) (hel:ldSz P el=some (ag,sz)) (hz:szT P el=some s) (hss:s=sz) (hx:cOpd Γ x=some x') (hi:cOpd Γ i=some i') (hop:o.op= .index t x i)
  (hv:val E x'= .agg cs) (hj:val E i'= .int k j) (hj0:0<=j) (hjn:j<n) (hl:j.toNat*sz+sz<=cs.length):Snd P Γ o a w F ρ n0 (ldv ag sz (j.toNat*sz) cs) H []:=by
 have h1:=zah ho he hx;have h2:=zah ho he hi;rw[hv]at h1;rw[hj]at h2;obtain⟨us,e1,hsz,hr⟩:=zjx h1;obtain⟨v',hv',hr'⟩:=qcb (P:=P) hel hl hsz hr;subst hss;exact zam ho (by simp[execOp,hop,e1,zbi h2,Instr.index,asIntOf,zal ht,hj0,hjn,zcu hz,hv']) hr'
theorem qsw(ho:HOK Γ w F ρ H)(he:∀t,Rep w (Mu F ρ) ρ (E t) (a.tmps.getD t undef)){t:TypeId}{x i:Operand}{x' i':Opd}{s:ByteArray}{k:IntKind}{j:Int}
  (ht:P.underlying t=some .string) (hx:cOpd Γ x=some x') (hi:cOpd Γ i=some i') (hop:o.op= .index t x i)
  (hv:val E x'= .str s) (hj:val E i'= .int k j) (hj0:0<=j) (hjn:j<s.size):Snd P Γ o a w F ρ n0 (.int .u8 (s.data.getD j.toNat 0).toNat) H []:=by
 have h1:=zah ho he hx;have h2:=zah ho he hi;rw[hv]at h1;rw[hj]at h2;have hlt:j.toNat<s.size:=by omega
 have hlt':j.toNat<s.data.size:=hlt;refine zam ho (v':= .int .u8 (s.data.getD j.toNat 0).toNat) ?_ (.imm _ _ (.int _ _))
 have hg:s[j.toNat]?=some (s.data.getD j.toNat 0):=by
  simp[getElem?_pos s j.toNat hlt,Array.getElem?_eq_getElem hlt',ByteArray.getElem_eq_getElem_data]
 simp[execOp,hop,zjw h1,zbi h2,Instr.index,asIntOf,zal ht,hj0,hg]
theorem zym(ho:HOK Γ w F ρ H)(he:∀t,Rep w (Mu F ρ) ρ (E t) (a.tmps.getD t undef)){cl:Call}{x:Operand}{x':Opd}{n:Nat}{t:TypeId}
  (hx:cOpd Γ x=some x') (hop:o.op= .call cl) (hc:cl.callee= .builtin .len) (hargs:cl.args.toList=[x]) (ht:cl.argTypes[0]?=some t)
  (hv:lenA (val E x')=some n) (hty:(∃el,P.underlying t=some (.slice el)/\∀s,val E x'≠ .str s)\/(P.underlying t=some .string/\∃s,val E x'= .str s)):
  Snd P Γ o a w F ρ n0 (.int .i64 n) H []:=by
 have h1:=zah ho he hx;have ha:cl.args= #[x]:=by rw[<-Array.toArray_toList (xs:=cl.args),hargs]
 refine zam ho (v':= .int .i64 n) ?_ (.imm _ _ (.int _ _));rcases hty with⟨el,hty,hns⟩ | ⟨hty,s,hs⟩
 ·cases hx':val E x'<;>rw[hx']at hv h1 hns<;>simp[lenA]at hv
  case vec cs m c=>
   subst hv;rcases zfv h1 with⟨_,e1,_,hn,_⟩ | ⟨b,off,cap,vs,e1,_⟩
   ·subst hn;simp[execOp,hop,resolve,hc,ha,invoke,builtin,Builtin.len_,ht,e1,zal hty,goInt]
   ·simp[execOp,hop,resolve,hc,ha,invoke,builtin,Builtin.len_,ht,e1,zal hty,goInt]
  case sl id off m sz c=>
   subst hv;obtain⟨b,cap,e1,_⟩:=zfd h1;simp[execOp,hop,resolve,hc,ha,invoke,builtin,Builtin.len_,ht,e1,zal hty,goInt]
  case str s=>exact absurd rfl (hns s)
 ·rw[hs]at hv h1;simp[lenA]at hv;subst hv;simp[execOp,hop,resolve,hc,ha,invoke,builtin,Builtin.len_,ht,zjw h1,zal hty,goInt]
theorem qcc(ho:HOK Γ w F ρ H){cl:Call}{x:Operand}{n:Nat}{t:TypeId}
  (hop:o.op= .call cl) (hc:cl.callee= .builtin .len) (hargs:cl.args.toList=[x]) (ht:cl.argTypes[0]?=some t)
  (hty:(∃el,P.underlying t=some (.array n el))\/(∃p el,P.underlying t=some (.pointer p)/\P.underlying p=some (.array n el))):
  Snd P Γ o a w F ρ n0 (.int .i64 n) H []:=by
 have ha:cl.args= #[x]:=by rw[<-Array.toArray_toList (xs:=cl.args),hargs]
 refine zam ho (v':= .int .i64 n) ?_ (.imm _ _ (.int _ _));rcases hty with⟨el,hty⟩ | ⟨p,el,hty,hp⟩
 ·simp[execOp,hop,resolve,hc,ha,invoke,builtin,Builtin.len_,ht,zal hty,goInt]
 ·simp[execOp,hop,resolve,hc,ha,invoke,builtin,Builtin.len_,ht,zal hty,zal hp,goInt]
theorem zfp{el:TypeId}{c:Array Value}:(newRow el c).run P w= .ok ⟨w.heap.size,0,none⟩ (w.alloc (.cells c el)):=by
 simp[newRow,newObj,Sem.run]
theorem qja(ho:HOK Γ w F ρ H){u:AV}{u':Value}{el:TypeId}(hfr:fresh<H.length)(hu:ρ fresh= .unborn)(hr:Rep w (Mu F ρ) ρ u u')(hf:u.firm=true)
  (hrun:(execOp a.eval o).run P w= .ok (.value (.pointer (some ⟨w.heap.size,0,none⟩))) (w.alloc (.cells u'.cells el))):
  Snd P Γ o a w F ρ n0 (.ptr fresh 0) (zaf [(fresh,some u.cells)] H) [fresh]:=by
 obtain⟨h1,h2⟩:=zok hr hf;exact⟨_,_,_,_,hrun,.inl rfl,zfu n0 ho hfr hu u.cells u'.cells el (by omega) h2,.ptrAt _ _ _ (by simp[updR]) ⟨(el,u'.cells.size),by simp[World.shape?,World.alloc,-World.alloc_eq]⟩⟩
theorem zew{id b p:Nat}:∀(us:List Value) (as:List AV) (i:Nat) (w:World) (H:Heap) (cs:List AV),HOK Γ w F ρ H->ρ id= .here b->(∃x,w.shape? b=some x)->H[id]?=some (some cs)->
  p+i+us.length<=cs.length->as.length=us.length->AV.scalL as=true->(∀(j:Nat) (x:AV) (y:Value),as[j]?=some x->us[j]?=some y->Rep w (Mu F ρ) ρ x y)->
  ∃w',(storeCells ⟨b,p,none⟩ us i).run P w= .ok () w'/\After Γ F n0 ρ w ρ w' (H.set id (some (setL cs (p+i) as))) []:=by
 intro us
 induction us with
 |nil=>
  intro as i w H cs ho hb hshp hH hl hlen hsc hr;have:as=[]:=List.length_eq_zero_iff.1 hlen;subst this;refine⟨w,by simp[storeCells],?_⟩
  have hid:id<H.length:=by
   rcases qV id H.length with h' | h'
   ·exact h'
   ·rw[qK h']at hH;simp at hH
  have e:H.set id (some (setL cs (p+i) []))=H:=by
   apply xO;intro j;by_cases ej:id=j
   ·subst ej;rw[qW hid,hH];rfl
   ·simp[ej]
  rw[e];exact zja n0 ho
 |cons u us ih=>
  intro as i w H cs ho hb hshp hH hl hlen hsc hr;cases as with
  |nil=>simp at hlen
  |cons x as=>
   simp only[AV.scalL,qP]at hsc;simp only[xA]at hl hlen;have hx:=hr 0 x u rfl rfl;obtain⟨hn1,hn2⟩:=qsq hx hsc.1;obtain⟨cs',h1,h2⟩:=ho.blk id b hb;rw[hH]at h1;simp at h1;subst h1;obtain⟨el,m,h2,h3,h4,h5⟩:=h2.cells hshp;have hlt:p+i<cs.length:=by omega
   obtain⟨y,hy,_⟩:=h5 (p+i) cs[p+i] (by simp[hlt]);have hA:=qio n0 ho hb hshp hH hlt hx
   have hid:id<H.length:=by
    rcases qV id H.length with h' | h'
    ·exact h'
    ·rw[qK h']at hH;simp at hH
   obtain⟨w',hw',hA'⟩:=ih as (i+1) (w.setCell ⟨b,p+i,none⟩ u) (H.set id (some (cs.set (p+i) x))) (cs.set (p+i) x) hA.hok hb (by rw[zhc];exact hshp) (by simp[hid]) (by simp;omega) (by omega) hsc.2
    (λj x' y' hx' hy'=>(hr (j+1) x' y' (by simpa using hx') (by simpa using hy')).after ho hA)
   refine⟨w',?_,?_⟩
   ·simp only[storeCells,Sem.run_bind,zei];rw[xws hy (h4 _) hn1 hn2];simpa using hw'
   ·have:=hA.trans hA';rw[xP]at this;simpa[setL,qT]using this
theorem qjb(ho:HOK Γ w F ρ H)(he:∀t,Rep w (Mu F ρ) ρ (E t) (a.tmps.getD t undef)){t:TypeId}{sz id off:Nat}{x y:Operand}{x' y':Opd}{cs:List AV}
  (ht:szT P t=some sz) (hx:cOpd Γ x=some x') (hy:cOpd Γ y=some y') (hop:o.op= .store t x y) (hv:val E x'= .ptr id off) (hg:getB H id=some cs)
  (hf:(val E y').firm=true) (hl:(val E y').cells.length=sz) (hsc:AV.scalL (val E y').cells=true) (hlen:off+sz<=cs.length):
  Snd P Γ o a w F ρ n0 .junk (zaf [(id,some (setL cs off (val E y').cells))] H) []:=by
 have h1:=zah ho he hx;have h2:=zah ho he hy;rw[hv]at h1;have hsh:=qis h1;obtain⟨b,e1,hb,_,_⟩:=znv ho h1 hg;obtain⟨h3,h4⟩:=zok h2 hf
 obtain⟨w',hw',hA⟩:=zew (P:=P) (n0:=n0) (p:=off) (a.eval y).cells.toList (val E y').cells 0 w H cs ho hb (hsh b hb) (zch hg) (by simp;omega) (by simp;omega) hsc
  (λj p q hp hq=>by
   obtain⟨r,hr,hr'⟩:=h4 j p hp
   have:q=r:=by
    have hq':(a.eval y).cells[j]?=some q:=by simpa using hq
    rw[hq']at hr;simpa using hr
   subst this;exact hr')
 refine⟨.skip,undef,w',ρ,?_,.inr ⟨rfl,rfl⟩,hA,.imm _ _ (.junk _)⟩;simp[execOp,hop,e1,Instr.storeAt,Instr.sureAddr,storeVar,zcu ht,h3,hl,hw']
end
def zaw(w:World)(M:Nat->Prop)(ρ:Nat->RS)(cs:List AV)(us:List Value):Prop:=
 us.length=cs.length/\∀(j:Nat) (a:AV) (v:Value),cs[j]?=some a->us[j]?=some v->Rep w M ρ a v
theorem zaw.set{w:World}{M:Nat->Prop}{ρ:Nat->RS}{cs:List AV}{us:List Value}(h:zaw w M ρ cs us){i:Nat}{a:AV}{v:Value}(hr:Rep w M ρ a v):
  zaw w M ρ (cs.set i a) (us.set i v):=by
 refine⟨by simp[h.1],λj x y hx hy=>?_⟩;by_cases e:i=j
 ·subst e;by_cases hl:i<cs.length
  ·rw[qW hl]at hx;rw[qW (by rw[h.1];exact hl)]at hy;simp at hx hy;subst hx hy;exact hr
  ·rw[qK (by simp;omega)]at hx;simp at hx
 ·rw[qJ e]at hx hy;exact h.2 j x y hx hy
theorem zaw.mono{w w':World}{M M':Nat->Prop}{ρ ρ':Nat->RS}{cs:List AV}{us:List Value}(h:zaw w M ρ cs us)(hr:∀a v,Rep w M ρ a v->Rep w' M' ρ' a v):zaw w' M' ρ' cs us:=
 ⟨h.1,λj a v h1 h2=>hr _ _ (h.2 j a v h1 h2)⟩
theorem zaw.append{w:World}{M:Nat->Prop}{ρ:Nat->RS}{cs cs':List AV}{us us':List Value}(h:zaw w M ρ cs us)(h':zaw w M ρ cs' us'):zaw w M ρ (cs++cs') (us++us'):=by
 refine⟨by simp[h.1,h'.1],λj x y hx hy=>?_⟩;rcases qV j cs.length with hl | hl
 ·rw[qY hl]at hx;rw[qY (by rw[h.1];exact hl)]at hy;exact h.2 j x y hx hy
 ·rw[qU hl]at hx;rw[qU (by rw[h.1];exact hl),h.1]at hy;exact h'.2 _ x y hx hy
theorem zaw.setL{w:World}{M:Nat->Prop}{ρ:Nat->RS}:∀(as:List AV) (vs:List Value) (cs:List AV) (us:List Value) (i:Nat),zaw w M ρ cs us->zaw w M ρ as vs->
  zaw w M ρ (setL cs i as) ((vs.zipIdx i).foldl (λus p=>us.set p.2 p.1) us):=by
 intro as
 induction as with
 |nil=>
  intro vs cs us i h h';have:vs=[]:=List.length_eq_zero_iff.1 h'.1;subst this;simpa[AL.setL]using h
 |cons a as ih=>
  intro vs cs us i h h';cases vs with
  |nil=>have:=h'.1;simp at this
  |cons v vs=>
   simp only[AL.setL,qS,xE];refine ih vs _ _ (i+1) (h.set (h'.2 0 a v rfl rfl)) ⟨by have:=h'.1;simpa using this,λj x y hx hy=>h'.2 (j+1) x y (by simpa using hx) (by simpa using hy)⟩
theorem zom(off:Nat):∀(vs:List Value) (k:Nat) (c:Array Value),
  ((vs.zipIdx k).foldl (λ(cs:Array Value) p=>cs.setIfInBounds (off+p.2) p.1) c).toList=(vs.zipIdx (off+k)).foldl (λus p=>us.set p.2 p.1) c.toList:=by
 intro vs
 induction vs with
 |nil=>intro k c;simp
 |cons v vs ih=>
  intro k c;simp only[qS,xE];rw[ih];simp[qT]
theorem qjc{w:World}{M:Nat->Prop}{ρ:Nat->RS}{a:AV}{v:Value}(h:Rep w M ρ a v)(hf:a.firm=true):zaw w M ρ a.cells v.cells.toList:=by
 obtain⟨h1,h2⟩:=zok h hf;refine⟨by simpa using h1,λj x y hx hy=>?_⟩;obtain⟨u,hu,hr⟩:=h2 j x hx;have hy':v.cells[j]?=some y:=by simpa using hy
 rw[hy']at hu;simp at hu;subst hu;exact hr
section
variable{P:Program}{Γ:Glob}{E:Env}{a:Act}{w:World}{F:Nat->Prop}{ρ:Nat->RS}{H:Heap}{n0 fresh:Nat}{o:Oper}{v:AV}{e:Eff}{rd:List Nat}
theorem qcd(ho:HOK Γ w F ρ H)(he:∀t,Rep w (Mu F ρ) ρ (E t) (a.tmps.getD t undef))(pl:Nat->Option (Nat×Nat)):
  ∀(ps:List (Nat×Operand)) (ps':List (Nat×Nat×Opd)) (cells:Array Value) (cs r:List AV),zia Γ pl ps=some ps'->zaw w (Mu F ρ) ρ cs cells.toList->
   zfm (val E) cs ps'=some r->∃cells':Array Value,Instr.fill pl cells (ps.map λp=>(p.1,a.eval p.2))=some cells'/\zaw w (Mu F ρ) ρ r cells'.toList:=by
 intro ps
 induction ps with
 |nil=>
  intro ps' cells cs r h hr hf;simp[zia]at h;subst h;simp[zfm]at hf;subst hf;exact⟨cells,rfl,hr⟩
 |cons p ps ih=>
  obtain⟨i,x⟩:=p;intro ps' cells cs r h hr hf;simp only[zia,qX]at h;obtain⟨⟨off,s⟩,hp,y,hy,l,hl,h⟩:=h;simp at h;subst h;simp only[zfm]at hf;obtain⟨⟨hfirm,hlen,hle⟩,hf⟩:=zac hf;have hx:=qjc (zah ho he hy) hfirm;have hsz:(a.eval x).cells.size=s:=by rw[<-hlen];simpa using hx.1
  have hcs:cells.size=cs.length:=by simpa using hr.1
  have hrow:=zaw.setL _ _ _ _ off hr hx;have hfold:=zom off (a.eval x).cells.toList 0 cells;simp only[Nat.add_zero]at hfold;obtain⟨cells',h1,h2⟩:=ih l (((a.eval x).cells.toList.zipIdx 0).foldl (λ(cs:Array Value) p=>cs.setIfInBounds (off+p.2) p.1) cells) _ r hl (by rw[hfold];exact hrow) hf;refine⟨cells',?_,h2⟩;simp only[xM,Instr.fill,hp];rw[if_neg (by simp[hsz];omega)];rw[<-h1];congr 1;rw[<-Array.foldl_toList];simp[Array.toList_zipIdx]
theorem zjb{t:TypeId}{zl:List AV}(h:zks P t=some zl):∃z i,P.info? t=some i/\i.zero=some z/\∀(w:World) (M:Nat->Prop) (ρ:Nat->RS),zaw w M ρ zl z.cells.toList:=by
 unfold zks at h;split at h
 ·rename_i i hi;split at h
  ·rename_i z hz;obtain⟨h1,h2⟩:=zhe h;refine⟨z,i,hi,hz,λw M ρ=>⟨h1.symm,λj a v ha hv=>?_⟩⟩;obtain⟨y,hy,hy'⟩:=h2 j v hv;rw[ha]at hy;simp at hy;subst hy;exact .imm _ _ (zic w M hy')
  ·simp at h
 ·simp at h
theorem zge{t:TypeId}{z:Value}{i:TypeInfo}(hi:P.info? t=some i)(hz:i.zero=some z):(zeroValue t).run P w= .ok z w:=by
 simp[zeroValue,znt hi,hz]
theorem zon{w:World}:∀(l:List Field) (r:List (Nat×Nat)),(l.mapM λf=>(szT P f.type).map λs=>(f.offset,s))=some r->
  (l.mapM (m:=Sem) λf=>do pure (f.offset,<-sizeOf f.type)).run P w= .ok r w:=by
 intro l
 induction l with
 |nil=>intro r h;simp at h;subst h;simp
 |cons f l ih=>
  intro r h;rw[qN]at h;cases hs:szT P f.type with
  |none=>simp[hs]at h
  |some s=>
   simp only[hs,xZ]at h;cases hl:l.mapM λf=>(szT P f.type).map λs=>(f.offset,s)with
   |none=>simp[hl]at h
   |some r'=>
    simp[hl]at h;subst h;have hih:=ih r' hl;rw[qN];simp only[Sem.run_bind,zcu hs,Result.andThen_ok,Sem.run_pure,hih]
theorem qjd(ho:HOK Γ w F ρ H)(he:∀t,Rep w (Mu F ρ) ρ (E t) (a.tmps.getD t undef)){t:TypeId}{ps:Array (Nat×Operand)}{z cs:List AV}{pl:Nat->Option (Nat×Nat)}{ps':List (Nat×Nat×Opd)}
  (hz:zks P t=some z) (hpl:zrk P t=some pl) (hps:zia Γ pl ps.toList=some ps') (hop:o.op= .build t ps) (hf:zfm (val E) z ps'=some cs):
  Snd P Γ o a w F ρ n0 (.agg cs) H []:=by
 obtain⟨zv,i,hi,hiz,hrow⟩:=zjb hz;obtain⟨cells',h1,h2⟩:=qcd ho he pl ps.toList ps' zv.cells z cs hps (hrow _ _ _) hf;refine zam ho (v':= .agg cells') ?_ (.agg cs cells' (by simpa using h2.1) (λj a v hj hv=>h2.2 j a v hj (by simpa using hv)));have hm:(ps.map λ(x:Nat×Operand)=>(x.1,a.eval x.2)).toList=ps.toList.map λp=>(p.1,a.eval p.2):=by simp
 unfold zrk at hpl;split at hpl
 ·rename_i fields hd;cases hl:qbt P fields with
  |none=>simp[hl]at hpl
  |some l=>
   simp[hl]at hpl;subst hpl;have hrun:=zon (w:=w) fields.toList l hl
   have hrun':(fields.mapM (m:=Sem) λf=>do pure (f.offset,<-sizeOf f.type)).run P w= .ok l.toArray w:=by
    rw[Array.mapM_eq_mapM_toList,Sem.run_map,hrun];rfl
   have h1':Instr.fill (λi=>l.toArray[i]?) zv.cells (ps.toList.map λp=>(p.1,a.eval p.2))=some cells':=by simpa using h1
   simp only[execOp,hop,Instr.build,Sem.run_bind,zge hi hiz,Result.andThen_ok,zal hd,hrun',hm,h1',Sem.run_pure]
 ·rename_i n el hd;cases hs:szT P el with
  |none=>simp[hs]at hpl
  |some s=>
   simp[hs]at hpl;subst hpl;simp only[execOp,hop,Instr.build,Sem.run_bind,zge hi hiz,Result.andThen_ok,zal hd,zcu hs,hm,h1,Sem.run_pure]
 ·simp at hpl
theorem qsx:∀(n:Nat) (z:List AV) (j:Nat),j<n*z.length->((List.replicate n z).flatten)[j]?=z[j%z.length]?:=by
 intro n z
 induction n with
 |zero=>intro j h;simp at h
 |succ n ih=>
  intro j h;rw[qG,xV];rcases qV j z.length with hl | hl
  ·rw[qY hl,Nat.mod_eq_of_lt hl]
  ·rw[qU hl,ih (j-z.length) (by rw[Nat.succ_mul]at h;omega),Nat.mod_eq_sub_mod hl]
theorem znw(n:Nat)(z:List AV):((List.replicate n z).flatten).length=n*z.length:=by
 induction n with
 |zero=>simp
 |succ n ih=>rw[qG,xV,List.length_append,ih,Nat.succ_mul];omega
theorem zky(n:Nat)(z:List AV):zgn n z=(List.replicate n z).flatten:=by
 unfold zgn;split
 ·rename_i x
  induction n with
  |zero=>simp
  |succ n ih=>rw[qG,qG,xV,<-ih];rfl
 ·rfl
theorem zkz{w:World}{M:Nat->Prop}{ρ:Nat->RS}{z:List AV}{zv:Array Value}(n:Nat)(hz:0<z.length)(h:zaw w M ρ z zv.toList):
  zaw w M ρ ((List.replicate n z).flatten) (((Array.range (n*z.length)).map λj=>zv[j%zv.size]!)).toList:=by
 have hs:zv.size=z.length:=by simpa using h.1
 refine⟨by rw[znw];simp,λj a v ha hv=>?_⟩
 have hj:j<n*z.length:=by
  rcases qV j (n*z.length)with h' | h'
  ·exact h'
  ·rw[qK (by rw[znw];exact h')]at ha;simp at ha
 rw[qsx n z j hj]at ha;have hlt:j%z.length<z.length:=Nat.mod_lt _ hz;simp[hj,hs]at hv;refine h.2 (j%z.length) a v ha ?_;have:j%z.length<zv.size:=by omega
 rw[<-hv];simp[this]
theorem jyl(ho:HOK Γ w F ρ H)(he:∀t,Rep w (Mu F ρ) ρ (E t) (a.tmps.getD t undef)){t el:TypeId}{n s:Nat}{ps:Array (Nat×Operand)}{z cs:List AV}{ps':List (Nat×Nat×Opd)}
  (hfr:fresh<H.length) (hu:ρ fresh= .unborn)
  (ht:P.underlying t=some (.slice el)) (hs:szT P el=some s) (hz:zks P el=some z) (hps:zia Γ (λi=>some (i*s,s)) ps.toList=some ps') (hsz:s=z.length) (hmax:n*s<=2^24)
  (hop:o.op= .buildSlice t n ps) (hf:zfm (val E) (List.replicate n z).flatten ps'=some cs):
  Snd P Γ o a w F ρ n0 (.sl fresh 0 n s (some n)) (zaf [(fresh,some cs)] H) [fresh]:=by
 obtain⟨zv,i,hi,hiz,hrow⟩:=zjb hz;have hm:(ps.map λ(x:Nat×Operand)=>(x.1,a.eval x.2)).toList=ps.toList.map λp=>(p.1,a.eval p.2):=by simp
 have key:∀cells0:Array Value,zaw w (Mu F ρ) ρ (List.replicate n z).flatten cells0.toList->
   (execOp a.eval o).run P w=(match Instr.fill (λi=>some (i*s,s)) cells0 (ps.toList.map λp=>(p.1,a.eval p.2))with
    |some cells=> .ok (.value (.slice (some ⟨w.heap.size,0,none⟩) n n)) (w.alloc (.cells cells el))
    |none=> .halt (.stuck "buildSlice: a part of the wrong size") w)->Snd P Γ o a w F ρ n0 (.sl fresh 0 n s (some n)) (zaf [(fresh,some cs)] H) [fresh]:=by
  intro cells0 hr0 hrun;obtain⟨cells',h1,h2⟩:=qcd ho he (λi=>some (i*s,s)) ps.toList ps' cells0 _ cs hps hr0 hf;rw[h1]at hrun;have hcl:cells'.size=cs.length:=by simpa using h2.1
  have hcn:cs.length=n*s:=by
   have hfl:∀(ps':List (Nat×Nat×Opd)) (z r:List AV),zfm (val E) z ps'=some r->r.length=z.length:=by
    intro ps'
    induction ps' with
    |nil=>intro z r h;simp[zfm]at h;subst h;rfl
    |cons p ps' ih=>
     intro z r h;simp only[zfm]at h;obtain⟨_,h⟩:=zac h
     have hsl:∀(vs cs:List AV) (i:Nat),(setL cs i vs).length=cs.length:=by
      intro vs
      induction vs with
      |nil=>intro cs i;rfl
      |cons v vs ih2=>intro cs i;simp[setL,ih2]
     rw[ih _ _ h,hsl]
   rw[hfl _ _ _ hf,znw,hsz]
  refine⟨_,_,_,_,hrun,.inl rfl,zfu n0 ho hfr hu cs cells' el (by omega) (λj x hx=>?_),?_⟩
  ·have hj:j<cells'.size:=by
    rcases qV j cs.length with h' | h'
    ·omega
    ·rw[qK h']at hx;simp at hx
   exact⟨cells'[j],by simp[hj],h2.2 j x _ hx (by simp[hj])⟩
  ·exact .slAt _ _ _ _ _ w.heap.size n el cells'.size (by simp[updR]) (by simp[World.shape?,World.alloc,-World.alloc_eq]) (qA _) (by intro k hk;simpa using hk) (by omega)
 by_cases h0:n*s=0
 ·refine key ((Array.range (n*s)).map λj=>(#[]:Array Value)[j%(#[]:Array Value).size]!) ?_ ?_
  ·have:(List.replicate n z).flatten=[]:=by apply List.length_eq_zero_iff.1;rw[znw,<-hsz];exact h0
   rw[this,h0];exact⟨by simp,λj a v ha=>by simp at ha⟩
  ·simp only[execOp,hop,Instr.buildSlice,Sem.run_bind,zal ht,Result.andThen_ok,zcu hs];rw[if_neg (by omega)];simp only[if_pos h0,Sem.run_bind,Sem.run_pure,Result.andThen_ok,hm];cases Instr.fill (λi=>some (i*s,s)) ((Array.range (n*s)).map λj=>(#[]:Array Value)[j%(#[]:Array Value).size]!) (ps.toList.map λp=>(p.1,a.eval p.2))<;>simp[zfp,stuck,Sem.run]
 ·have hzl:0<z.length:=by rw[<-hsz];exact Nat.pos_of_ne_zero (λe=>h0 (by simp[e]))
  have hrw:=zkz n hzl (hrow w (Mu F ρ) ρ);rw[<-hsz]at hrw;refine key _ hrw ?_;simp only[execOp,hop,Instr.buildSlice,Sem.run_bind,zal ht,Result.andThen_ok,zcu hs];rw[if_neg (by omega)];simp only[if_neg h0,Sem.run_bind,Sem.run_pure,Result.andThen_ok,hm,zge hi hiz];cases Instr.fill (λi=>some (i*s,s)) ((Array.range (n*s)).map λj=>zv.cells[j%zv.cells.size]!) (ps.toList.map λp=>(p.1,a.eval p.2))<;>simp[zfp,stuck,Sem.run]
end
section
variable{P:Program}{Γ:Glob}{E:Env}{a:Act}{w:World}{F:Nat->Prop}{ρ:Nat->RS}{H:Heap}{n0 fresh:Nat}{o:Oper}{v:AV}{e:Eff}{rd:List Nat}
theorem jym{w:World}{M:Nat->Prop}{ρ:Nat->RS}{cs:List AV}{c:Array Value}(h:zaw w M ρ cs c.toList):
  ∀(j:Nat) (a:AV),cs[j]?=some a->∃v,c[j]?=some v/\Rep w M ρ a v:=by
 intro j x hx;have hl:c.size=cs.length:=by simpa using h.1
 have hj:j<c.size:=by
  rcases qV j cs.length with h' | h'
  ·omega
  ·rw[qK h']at hx;simp at hx
 exact⟨c[j],by simp[hj],h.2 j x _ hx (by simp[hj])⟩
theorem qsy(ho:HOK Γ w F ρ H)(he:∀t,Rep w (Mu F ρ) ρ (E t) (a.tmps.getD t undef)){t el:TypeId}{i:TypeInfo}{x y:Operand}{x' y':Opd}{z:List AV}{k k':IntKind}{n c:Int}
  (hfr:fresh<H.length) (hu:ρ fresh= .unborn) (ht:P.underlying t=some (.slice el)) (hi:P.info? el=some i) (hz:zks P el=some z)
  (hx:cOpd Γ x=some x') (hy:cOpd Γ y=some y') (hop:o.op= .makeSlice t x y) (hn:val E x'= .int k n) (hc:val E y'= .int k' c)
  (h0:0<=n) (h1:n<=c) (h2:c*i.bytes<=2^48) (h3:c<2^63) (h4:z.length=i.size) (h5:0<i.size):
  Snd P Γ o a w F ρ n0 (.sl fresh 0 n.toNat i.size (some c.toNat)) (zaf [(fresh,some (zgn c.toNat z))] H) [fresh]:=by
 have hx':=zah ho he hx;have hy':=zah ho he hy;rw[hn]at hx';rw[hc]at hy';obtain⟨zv,i',hi',hiz,hrow⟩:=zjb hz;rw[hi]at hi';simp at hi';subst hi';have hzl:0<z.length:=by omega
 have hrw:=zkz c.toNat hzl (hrow w (Mu F ρ) ρ);rw[h4,<-zky]at hrw;have wn:IntKind.i64.wrap n=n:=IntWalk.i64_in _ (by omega);have wc:IntKind.i64.wrap c=c:=IntWalk.i64_in _ (by omega);have hb:(i.bytes:Int)*c=c*i.bytes:=Int.mul_comm _ _;have hbig:¬((i.bytes:Int)*c>2^48):=by rw[hb];omega
 have hrun:(execOp a.eval o).run P w= .ok (.value (.slice (some ⟨w.heap.size,0,none⟩) n.toNat c.toNat))
   (w.alloc (.cells ((Array.range (c.toNat*i.size)).map λj=>zv.cells[j%zv.cells.size]!) el)):=by
  simp only[execOp,hop,zbi hx',zbi hy',Instr.makeSlice,Sem.run_bind,zal ht,Result.andThen_ok,asInt,asIntOf,Sem.run_pure,znt hi,wn,wc];rw[if_neg (by simp[hbig];omega)];simp only[Sem.run_bind,Sem.run_pure,Result.andThen_ok,askRoom]
  have hask:∀(w:World) (b:Nat),((if b>roomBytes then mark .noRoom else pure ():Sem Unit)).run P w= .ok () w:=by
   intro w b;split<;>simp[mark,Sem.run]
  rw[hask];simp only[Result.andThen_ok,sizeOf,Sem.run_bind,znt hi,Sem.run_pure];by_cases hz0:c.toNat*i.size=0
  ·have hr0:Array.range 0= #[]:=rfl;simp[hz0,zfp,hr0]
  ·simp only[if_neg hz0,Sem.run_bind,zge hi hiz,Sem.run_pure,Result.andThen_ok,zfp]
 have hsz:((Array.range (c.toNat*i.size)).map λj=>zv.cells[j%zv.cells.size]!).size=c.toNat*i.size:=by simp
 refine⟨_,_,_,_,hrun,.inl rfl,zfu n0 ho hfr hu (zgn c.toNat z) _ el (Nat.le_of_eq (by simpa using hrw.1.symm)) (jym hrw),?_⟩;exact .slAt _ _ _ _ _ w.heap.size c.toNat el _ (by simp[updR]) (by simp[World.shape?,World.alloc,-World.alloc_eq];rfl) (by omega) (by intro k hk;simpa using hk) (by omega)
theorem qez{x:AV}{n:Nat}(h:zjq x=some n):∃k i,x= .int k i/\0<=i/\n=i.toNat:=by
 cases x<;>simp[zjq]at h;rename_i k i;obtain⟨h1,h2⟩:=zac h;simp at h2;exact⟨k,i,rfl,h1,h2.symm⟩
theorem zoo{x:AV}{x':Value}{n y:Nat}(h:Rep w (Mu F ρ) ρ x x')(hn:zjq x=some n)(hy:n<=y)(code:BoundsCode):(Instr.sliceBound x' y code).run P w= .ok n w:=by
 obtain⟨k,i,rfl,h0,rfl⟩:=qez hn;have:=zbi h;subst this;simp[Instr.sliceBound,asIntOf,h0];omega
def cOpt(Γ:Glob):Option Operand->Option (Option Opd)
 |none=>some none
 |some x=>(cOpd Γ x).map some
theorem optM{x:Option Operand}{y:Option Opd}(h:x.mapM (cOpd Γ)=some y):cOpt Γ x=some y:=by
 cases x with
 |none=>simpa[cOpt]using h
 |some x=>simp[cOpt]at h ⊢;exact h
theorem zro(ho:HOK Γ w F ρ H)(he:∀t,Rep w (Mu F ρ) ρ (E t) (a.tmps.getD t undef)){lo hi mx:Option Operand}{lo' hi' mx':Option Opd}(hlo:cOpt Γ lo=some lo')(hhi:cOpt Γ hi=some hi')(hmx:cOpt Γ mx=some mx')
  {isS:Bool} {n cap l h m:Nat} (hl:zbq (val E) 0 lo'=some l) (hh:zbq (val E) n hi'=some h)
  (hm:(mx'=none/\m=cap)\/(∃y,mx'=some y/\zjq (val E y)=some m/\hi'.isSome=true)) (h1:l<=h) (h2:h<=m) (h3:m<=cap):
  (Instr.sliceBounds isS n cap (lo.map a.eval) (hi.map a.eval) (mx.map a.eval)).run P w= .ok (l,h,m) w:=by
 have low:∀x y,lo=some x->lo'=some y->∀code,(Instr.sliceBound (a.eval x) h code).run P w= .ok l w:=by
  intro x y e1 e2 code;subst e1 e2;simp[cOpt]at hlo;exact zoo (zah ho he hlo) (by simpa[zbq]using hl) h1 code
 have high:∀x y,hi=some x->hi'=some y->∀code,(Instr.sliceBound (a.eval x) m code).run P w= .ok h w:=by
  intro x y e1 e2 code;subst e1 e2;simp[cOpt]at hhi;exact zoo (zah ho he hhi) (by simpa[zbq]using hh) h2 code
 have lowN:lo'=none->l=0:=by intro e1;subst e1;simpa[zbq]using hl.symm
 have highN:hi'=none->h=n:=by intro e1;subst e1;simpa[zbq]using hh.symm
 have cN:∀(x:Option Operand) (y:Option Opd),cOpt Γ x=some y->(x=none/\y=none)\/∃u z,x=some u/\y=some z:=by
  intro x y hxy;cases x with
  |none=>simp[cOpt]at hxy;exact .inl ⟨rfl,hxy.symm⟩
  |some u=>simp[cOpt]at hxy;obtain⟨z,_,rfl⟩:=hxy;exact .inr ⟨u,z,rfl,rfl⟩
 rcases cN mx mx' hmx with⟨rfl,rfl⟩ | ⟨xm,ym,rfl,rfl⟩
 ·rcases hm with⟨_,rfl⟩ | ⟨y,hy,_⟩
  ·rcases cN lo lo' hlo with⟨rfl,rfl⟩ | ⟨xl,yl,rfl,rfl⟩<;>rcases cN hi hi' hhi with⟨rfl,rfl⟩ | ⟨xh,yh,rfl,rfl⟩
   ·have:=lowN rfl;have:=highN rfl;subst_vars;simp[Instr.sliceBounds]
   ·have:=lowN rfl;subst this;simp[Instr.sliceBounds,high xh yh rfl rfl]
   ·have:=highN rfl;subst this;simp[Instr.sliceBounds,low xl yl rfl rfl]
   ·simp[Instr.sliceBounds,low xl yl rfl rfl,high xh yh rfl rfl]
  ·simp at hy
 ·rcases hm with⟨hm,_⟩ | ⟨y',hy',hn,hs⟩
  ·simp at hm
  ·simp at hy';subst hy';simp[cOpt]at hmx;have hM:=λcode=>zoo (P:=P) (zah ho he hmx) hn h3 code
   rcases cN hi hi' hhi with⟨rfl,rfl⟩ | ⟨xh,yh,rfl,rfl⟩
   ·simp at hs
   ·rcases cN lo lo' hlo with⟨rfl,rfl⟩ | ⟨xl,yl,rfl,rfl⟩
    ·have:=lowN rfl;subst this;simp[Instr.sliceBounds,high xh yh rfl rfl,hM]
    ·simp[Instr.sliceBounds,low xl yl rfl rfl,high xh yh rfl rfl,hM]
theorem qje{w:World}{M:Nat->Prop}{cs:List AV}{b off l k:Nat}{vs:Nat->Value}(hM:cs≠[]->¬M b)(hcell:∀j,j<cs.length->w.cell? ⟨b,off+j,none⟩=some (vs j))
  (hrep:∀(j:Nat) (a:AV),cs[j]?=some a->IRep w M a (vs j)) {n cap:Nat} {c:Option Nat} (hn:n<=cap) (hc:∀k,c=some k->cap=k):
  IRep w M (.vec ((cs.drop l).take k) n c) (.slice (some ⟨b,off+l,none⟩) n cap):=by
 refine .vec _ n c b (off+l) cap (λj=>vs (l+j)) (λhne=>hM (λe=>hne (by simp[e]))) (λj hj=>?_) (λj a ha=>?_) hn hc
 ·simp at hj;rw[qT];exact hcell (l+j) (by omega)
 ·rw[qE]at ha;split at ha
  ·rw[qI]at ha;exact hrep (l+j) a ha
  ·simp at ha
theorem zop{l:Nat}{c:Option Nat}{cap k:Nat}(hc:∀k,c=some k->cap=k)(h:zgo l c=some k):cap-l=k:=by
 cases c with
 |none=>simp[zgo]at h
 |some c'=>simp[zgo]at h;have:=hc c' rfl;omega
theorem zvp{sz:Nat}{x:AV}{lo' hi' mx':Option Opd}(h:zeh (val E) sz x lo' hi' mx'=some v):
  (∀{u:Value},Rep w (Mu F ρ) ρ x u->∃(ad:Option Addr) (n cap l h m:Nat),u= .slice ad n cap/\zbq (val E) 0 lo'=some l/\zbq (val E) n hi'=some h/\
   ((mx'=none/\m=cap)\/(∃y,mx'=some y/\zjq (val E y)=some m/\hi'.isSome=true))/\l<=h/\h<=m/\m<=cap/\
   Rep w (Mu F ρ) ρ v (.slice (if m=l then ad else ad.map (·.add (l*sz))) (h-l) (m-l))):=by
 intro u hr;cases x<;>simp only[zeh]at h<;>try (simp at h;done)
 case vec cs n c=>
  simp only[qX]at h;obtain⟨hh,hhe,l,hle,h⟩:=h
  have emp:∀(ad:Option Addr) (c':Option Nat) (k:Nat),(∀b o s,ad=some ⟨b,o,s⟩->s=none)->(ad=none->k=0)->(∀q,c'=some q->k=q)->IRep w (Mu F ρ) (.vec [] 0 c') (.slice ad 0 k):=by
   intro ad c' k h1 h2 h3;cases ad with
   |none=>have:=h2 rfl;subst this;exact .nil none _ (λq hq=>(h3 q hq).symm)
   |some ad=>
    obtain⟨b,o,s⟩:=ad;have:=h1 b o s rfl;subst this;exact .vec [] 0 c' b o k (λ_=>undef) (by simp) (by simp) (by simp) (xY _) h3
  have body:∀(mf:Nat->Nat) (c':Option Nat),l<=hh->hh<=n->n*sz<=cs.length->(∀cap,n<=cap->(∀k,c=some k->cap=k)->hh<=mf cap/\mf cap<=cap/\∀q,c'=some q->mf cap-l=q)->
    (∀cap,(mx'=none/\mf cap=cap)\/(∃y,mx'=some y/\zjq (val E y)=some (mf cap)/\hi'.isSome=true))->
    ∃(ad:Option Addr) (n' cap l2 k2 m:Nat),u= .slice ad n' cap/\zbq (val E) 0 lo'=some l2/\zbq (val E) n' hi'=some k2/\
     ((mx'=none/\m=cap)\/(∃y,mx'=some y/\zjq (val E y)=some m/\hi'.isSome=true))/\l2<=k2/\k2<=m/\m<=cap/\
     Rep w (Mu F ρ) ρ (.vec ((cs.drop (l*sz)).take ((hh-l)*sz)) (hh-l) c') (.slice (if m=l2 then ad else ad.map (·.add (l2*sz))) (k2-l2) (m-l2)):=by
   intro mf c' h1 h2 h3 h4 h5;rcases zfv hr with⟨p,rfl,rfl,rfl,hc⟩ | ⟨b,off,cap,vs,rfl,hM,hcell,hrep,hn,hc⟩
   ·obtain⟨g1,g2,g3⟩:=h4 0 (qA _) (λk hk=>(hc k hk).symm);refine⟨p,0,0,l,hh,mf 0,rfl,hle,hhe,h5 0,h1,g1,g2,.imm _ _ ?_⟩;have e1:l=0:=by omega
    have e2:hh=0:=by omega
    have e3:mf 0=0:=by omega
    subst e1 e2;simp only[e3,if_true,List.drop_nil,List.take_nil,xS];exact .nil _ _ (λq hq=>by have:=g3 q hq;omega)
   ·obtain⟨g1,g2,g3⟩:=h4 cap hn hc;refine⟨some ⟨b,off,none⟩,n,cap,l,hh,mf cap,rfl,hle,hhe,h5 cap,h1,g1,g2,.imm _ _ ?_⟩;by_cases e:mf cap=l
    ·have e2:hh=l:=by omega
     subst e2;simp only[e,if_true,xS,Nat.zero_mul,List.take_zero];exact emp _ _ _ (by intro b o s h;simp at h;exact h.2.2.symm) (by simp) (λq hq=>by have:=g3 q hq;omega)
    ·simp only[e,if_false,xZ,zei];exact qje hM hcell hrep (by omega) g3
  cases mx' with
  |none=>
   simp only at h;obtain⟨⟨h1,h2,h3⟩,hv⟩:=zac h;simp at hv;subst hv;exact body (λcap=>cap) _ h1 h2 h3 (λcap hcap hcc=>⟨by omega,qA _,λq hq=>zop hcc hq⟩) (λcap=> .inl ⟨rfl,rfl⟩)
  |some y=>
   simp only[qX]at h;obtain⟨m,hm,h⟩:=h;obtain⟨⟨h0,h1,h2,h3,h4⟩,hv⟩:=zac h;simp at hv;subst hv;exact body (λ_=>m) (some (m-l)) h1 (by omega) h4 (λcap hcap hcc=>⟨h2,by omega,λq hq=>by simpa using hq⟩) (λcap=> .inr ⟨y,rfl,hm,h0⟩)
 case sl id off n s c=>
  simp only[qX]at h;obtain⟨hh,hhe,l,hle,h⟩:=h;obtain⟨b,cap,rfl,hn,hc,hb⟩:=zfd hr
  have body:∀(m:Nat) (c':Option Nat) (z:AV),(l=hh->Rep w (Mu F ρ) ρ z (.slice (if m=l then some ⟨b,off,none⟩else(some ⟨b,off,none⟩:Option Addr).map (·.add (l*sz))) 0 (m-l)))->s=sz->l<=hh->hh<=n->hh<=m->m<=cap->(∀q,c'=some q->m-l=q)->
    ((mx'=none/\m=cap)\/(∃y,mx'=some y/\zjq (val E y)=some m/\hi'.isSome=true))->
    ∃(ad:Option Addr) (n' cap' l2 k2 m:Nat),(Value.slice (some ⟨b,off,none⟩) n cap)= .slice ad n' cap'/\zbq (val E) 0 lo'=some l2/\zbq (val E) n' hi'=some k2/\
     ((mx'=none/\m=cap')\/(∃y,mx'=some y/\zjq (val E y)=some m/\hi'.isSome=true))/\l2<=k2/\k2<=m/\m<=cap'/\
     Rep w (Mu F ρ) ρ (if l=hh then z else .sl id (off+l*sz) (hh-l) sz c') (.slice (if m=l2 then ad else ad.map (·.add (l2*sz))) (k2-l2) (m-l2)):=by
   intro m c' z hz h0 h1 h2 h3 h4 h5 h6;refine⟨some ⟨b,off,none⟩,n,cap,l,hh,m,rfl,hle,hhe,h6,h1,h3,h4,?_⟩;by_cases e:l=hh
   ·subst e;simp only[if_true,xS];exact hz rfl
   ·have e2:¬m=l:=by omega
    simp only[e,e2,if_false,xZ,zei];subst h0;rcases hb with hb | ⟨hb,el,mm,hs,hm⟩
    ·exact .slDead _ _ _ _ _ _ _ hb (by omega) h5
    ·refine .slAt _ _ _ _ _ _ _ el mm hb hs (by omega) h5 ?_;have:l*s+(m-l)*s=m*s:=by rw[<-xX];congr 1;omega
     have h7:m*s<=cap*s:=qC _ h4;omega
  have vec0:∀(m:Nat) (c':Option Nat),(∀q,c'=some q->m-l=q)->Rep w (Mu F ρ) ρ (.vec [] 0 c') (.slice (if m=l then some ⟨b,off,none⟩else(some ⟨b,off,none⟩:Option Addr).map (·.add (l*sz))) 0 (m-l)):=by
   intro m c' h5;refine .imm _ _ ?_;split
   ·exact .vec [] 0 c' b off _ (λ_=>undef) (by simp) (by simp) (by simp) (xY _) h5
   ·simp only[xZ,zei];exact .vec [] 0 c' b _ _ (λ_=>undef) (by simp) (by simp) (by simp) (xY _) h5
  cases mx' with
  |none=>
   simp only at h;obtain⟨⟨h0,h1,h2⟩,hv⟩:=zac h;simp only[qZ]at hv;subst hv;refine body cap _ _ (λ_=>?_) h0 h1 h2 (by omega) (qA _) (λq hq=>zop hc hq) (.inl ⟨rfl,rfl⟩);cases c with
   |some q=>rw[zyj];exact vec0 cap _ (λq' hq=>by have:=hc q rfl;simp at hq;omega)
   |none=>
    cases l with
    |succ l=>exact vec0 cap _ (λq hq=>by simp[zgo]at hq)
    |zero=>
     have e1:(if cap=0 then some ⟨b,off,none⟩else(some ⟨b,off,none⟩:Option Addr).map (·.add (0*sz)))=some (⟨b,off,none⟩:Addr):=by
      split
      ·rfl
      ·simp[zei]
     rw[e1]
     show Rep w (Mu F ρ) ρ (.sl id off 0 sz none) _
     subst h0;rcases hb with hb | ⟨hb,el,mm,hs,hm⟩
     ·exact .slDead _ _ _ _ _ _ _ hb (xY _) (λq hq=>by simp at hq)
     ·exact .slAt _ _ _ _ _ _ _ el mm hb hs (xY _) (λq hq=>by simp at hq) (by simpa using hm)
  |some y=>
   simp only[qX]at h;obtain⟨m,hm,h⟩:=h;obtain⟨⟨hs,h0,h1,h2,h3⟩,hv⟩:=zac h;simp only[qZ]at hv;subst hv;exact body m (some (m-l)) _ (λ_=>vec0 m _ (λq hq=>by simpa using hq)) h0 h1 (by omega) h2 (by omega) (λq hq=>by simpa using hq) (.inr ⟨y,rfl,hm,hs⟩)
theorem qjf(ho:HOK Γ w F ρ H)(he:∀t,Rep w (Mu F ρ) ρ (E t) (a.tmps.getD t undef)){t el:TypeId}{sz:Nat}{x:Operand}{x':Opd}{lo hi mx:Option Operand}{lo' hi' mx':Option Opd}
  (ht:P.underlying t=some (.slice el)) (hz:szT P el=some sz) (hx:cOpd Γ x=some x') (hlo:cOpt Γ lo=some lo') (hhi:cOpt Γ hi=some hi') (hmx:cOpt Γ mx=some mx')
  (hop:o.op= .slice t x lo hi mx) (hv:zeh (val E) sz (val E x') lo' hi' mx'=some v):Snd P Γ o a w F ρ n0 v H []:=by
 obtain⟨ad,n,cap,l,h,m,e1,h1,h2,h3,h4,h5,h6,h7⟩:=zvp hv (zah ho he hx);refine zam ho ?_ h7;have hb:=zro (P:=P) (isS:=true) ho he hlo hhi hmx h1 h2 h3 h4 h5 h6;simp only[execOp,hop,e1,Instr.sliceAt,Instr.slice,Sem.run_bind,zal ht,Result.andThen_ok,hb,zcu hz,Sem.run_pure]
theorem zvq(ho:HOK Γ w F ρ H)(he:∀t,Rep w (Mu F ρ) ρ (E t) (a.tmps.getD t undef)){t el:TypeId}{n sz:Nat}{x:Operand}{lo hi mx:Option Operand}{lo' hi' mx':Option Opd}{y:AV}{b p:Nat}
  (ht:P.underlying t=some (.array n el)) (hz:szT P el=some sz) (hlo:cOpt Γ lo=some lo') (hhi:cOpt Γ hi=some hi') (hmx:cOpt Γ mx=some mx')
  (hop:o.op= .slice t x lo hi mx) (hx:a.eval x= .pointer (some ⟨b,p,none⟩)) (hy:Rep w (Mu F ρ) ρ y (.slice (some ⟨b,p,none⟩) n n))
  (hv:zeh (val E) sz y lo' hi' mx'=some v):Snd P Γ o a w F ρ n0 v H []:=by
 obtain⟨ad,n',cap,l,h,m,e1,h1,h2,h3,h4,h5,h6,h7⟩:=zvp hv hy;simp at e1;obtain⟨rfl,rfl,rfl⟩:=e1;refine zam ho (v':= .slice (some (if m=l then⟨b,p,none⟩else(⟨b,p,none⟩:Addr).add (l*sz))) (h-l) (m-l)) ?_ ?_
 ·have hb:=zro (P:=P) (isS:=false) ho he hlo hhi hmx h1 h2 h3 h4 h5 h6;simp only[execOp,hop,hx,Instr.sliceAt,Sem.run_bind,zal ht,Result.andThen_ok,Instr.sureAddr,hb,zcu hz,Sem.run_pure]
 ·by_cases e:m=l
  ·simpa[e]using h7
  ·simpa[e]using h7
end
section
variable{P:Program}{Γ:Glob}{E:Env}{a:Act}{w:World}{F:Nat->Prop}{ρ:Nat->RS}{H:Heap}{n0 fresh:Nat}{o:Oper}{v:AV}{e:Eff}{rd:List Nat}
theorem zrp{sz n b off len cap:Nat}{vs:Nat->Value}(h:∀j,j<n*sz->w.cell? ⟨b,off+j,none⟩=some (vs j))(w':World)(hw:w'.heap=w.heap):
  (Builtin.firstCells sz n (.slice (some ⟨b,off,none⟩) len cap)).run P w'= .ok ((List.range (n*sz)).map vs).toArray w':=by
 unfold Builtin.firstCells;exact zkw (λj hj=>by have:=h j hj;simpa[World.cell?,hw]using this)
theorem zfw(ho:HOK Γ w F ρ H){sz n:Nat}{x:AV}{x':Value}{cs:List AV}{rd:List Nat}(h:zdz H sz n x=some (cs,rd))(hr:Rep w (Mu F ρ) ρ x x'):
  ∃us:List Value,(∀w':World,w'.heap=w.heap->(Builtin.firstCells sz n x').run P w'= .ok us.toArray w')/\us.length=n*sz/\zaw w (Mu F ρ) ρ cs us:=by
 cases x<;>simp only[zdz]at h<;>try (simp at h;done)
 case vec cs' m c=>
  obtain⟨⟨h1,h2⟩,h3⟩:=zac h;simp at h3;obtain⟨rfl,rfl⟩:=h3;rcases zfv hr with⟨p,rfl,rfl,rfl,_⟩ | ⟨b,off,cap,vs,rfl,_,hcell,hrep,_⟩
  ·have e0:n=0:=by omega
   subst e0;exact⟨[],λw' _=>by cases p<;>simp[Builtin.firstCells,loadCells,loadCellsFrom]<;>rfl,by simp,by simp,λj a v ha=>by simp at ha⟩
  ·refine⟨(List.range (n*sz)).map vs,λw' hw=>zrp (λj hj=>hcell j (by omega)) w' hw,by simp,by simp;omega,λj a v ha hv=>?_⟩;rw[qE]at ha;split at ha
   ·rename_i hlt;simp[hlt]at hv;subst hv;exact .imm _ _ (hrep j a ha)
   ·simp at ha
 case sl id off m s c=>
  split at h
  ·rename_i cs' hg;obtain⟨⟨rfl,h1,h2⟩,h3⟩:=zac h;simp at h3;obtain⟨rfl,rfl⟩:=h3;obtain⟨b,el,mm,hb,hs,hlen,hf,hc⟩:=ho.at hg (qey hr);obtain⟨b',cap,rfl,_,_,hb'⟩:=zfd hr
   have hbb:b'=b:=by
    rcases hb' with hb' | ⟨hb',_⟩
    ·rw[hb]at hb';simp at hb'
    ·rw[hb]at hb';simp at hb';exact hb'.symm
   subst hbb;obtain⟨vs,hvs,hr'⟩:=zid h2 hc;refine⟨(List.range (n*s)).map vs,λw' hw=>zrp hvs w' hw,by simp,by simp;omega,λj a v ha hv=>?_⟩;rw[qE]at ha;split at ha
   ·rename_i hlt;rw[qI]at ha;simp[hlt]at hv;subst hv;exact hr' j a hlt ha
   ·simp at ha
  ·simp at h
theorem zvr{sz n:Nat}{x:AV}{cs:List AV}{rd:List Nat}(h:zdz H sz n x=some (cs,rd)):cs.length=n*sz:=by
 cases x<;>simp only[zdz]at h<;>try (simp at h;done)
 case vec cs' m c=>
  obtain⟨⟨h1,h2⟩,h3⟩:=zac h;simp at h3;obtain⟨rfl,rfl⟩:=h3;simp;omega
 case sl id off m s c=>
  split at h
  ·obtain⟨⟨rfl,h1,h2⟩,h3⟩:=zac h;simp at h3;obtain⟨rfl,rfl⟩:=h3;simp;omega
  ·simp at h
theorem zte{x:AV}{x':Value}{m:Nat}(h:lenA x=some m)(hr:Rep w (Mu F ρ) ρ x x')(hs:∀s,x≠ .str s):∃ad cap,x'= .slice ad m cap/\m<=cap:=by
 cases x<;>simp[lenA]at h
 case vec cs n c=>
  subst h;rcases zfv hr with⟨p,rfl,_,rfl,_⟩ | ⟨b,off,cap,vs,rfl,_,_,_,hn,_⟩
  ·exact⟨p,0,rfl,qA _⟩
  ·exact⟨_,cap,rfl,hn⟩
 case sl id off n sz c=>
  subst h;obtain⟨b,cap,rfl,hn,_⟩:=zfd hr;exact⟨_,cap,rfl,hn⟩
 case str s=>exact absurd rfl (hs s)
theorem zjz{sz n:Nat}{x:AV}{r:List AV×List Nat}(h:zdz H sz n x=some r):∀s,x≠ .str s:=by
 intro s e;subst e;simp[zdz]at h
theorem ztf(ho:HOK Γ w F ρ H)(he:∀t,Rep w (Mu F ρ) ρ (E t) (a.tmps.getD t undef)){ty ty' el:TypeId}{x:Operand}{x':Opd}
  (hty:P.underlying ty=some (.slice el)) (hx:cOpd Γ x=some x') (hop:o.op= .binOp .eql ty x (.const (.slice none 0 0)) ty')
  (hv:(∃cs n c,val E x'= .vec cs n c/\v=if n=0 then .anyb else .bool false)\/(∃id off n sz c,val E x'= .sl id off n sz c/\v= .bool false)):Snd P Γ o a w F ρ n0 v H []:=by
 have h1:=zah ho he hx
 have hsome:∀ad n c,a.eval x= .slice (some ad) n c->(execOp a.eval o).run P w= .ok (.value (.bool false)) w:=by
  intro ad n c h
  have key:∀d,(Op.equalIn (d+1) ty (.slice (some ad) n c) (.slice none 0 0)).run P w= .ok false w:=by
   intro d;simp only[Op.equalIn,Sem.run_bind,zal hty,Result.andThen_ok];rfl
  have key':(Op.equal ty (.slice (some ad) n c) (.slice none 0 0)).run P w= .ok false w:=key 9999;have hk:a.eval (.const (.slice none 0 0))= .slice none 0 0:=rfl;simp[execOp,hop,h,hk,eqGuard,binOp,key']
 have hnil:a.eval x= .slice none 0 0->(execOp a.eval o).run P w= .ok (.value (.bool true)) w:=by
  intro h
  have key:∀d,(Op.equalIn (d+1) ty (.slice none 0 0) (.slice none 0 0)).run P w= .ok true w:=by
   intro d;simp only[Op.equalIn,Sem.run_bind,zal hty,Result.andThen_ok];rfl
  have key':(Op.equal ty (.slice none 0 0) (.slice none 0 0)).run P w= .ok true w:=key 9999;have hk:a.eval (.const (.slice none 0 0))= .slice none 0 0:=rfl;simp[execOp,hop,h,hk,eqGuard,binOp,key']
 rcases hv with⟨cs,n,c,hv,rfl⟩ | ⟨id,off,n,sz,c,hv,rfl⟩
 ·rw[hv]at h1;rcases zfv h1 with⟨p,e1,_,rfl,_⟩ | ⟨b,off,cap,vs,e1,_⟩
  ·cases p with
   |none=>exact zam ho (hnil e1) (by simp;exact .imm _ _ (.anyb _))
   |some p=>exact zam ho (hsome _ _ _ e1) (by simp;exact .imm _ _ (.anyb _))
  ·refine zam ho (hsome _ _ _ e1) ?_;split
   ·exact .imm _ _ (.anyb _)
   ·exact .imm _ _ (.bool _)
 ·rw[hv]at h1;obtain⟨b,cap,e1,_⟩:=zfd h1;exact zam ho (hsome _ _ _ e1) (.imm _ _ (.bool _))
theorem qfa:∀(cs:List AV) (us:List Value) (l:List UInt8),zne cs=some l->zaw w (Mu F ρ) ρ cs us->∃ns:List Int,us=ns.map (Value.int .u8)/\l=ns.map λn=>UInt8.ofNat n.toNat:=by
 intro cs
 induction cs with
 |nil=>
  intro us l h hr;simp[zne]at h;subst h;have:us=[]:=List.length_eq_zero_iff.1 hr.1;subst this;exact⟨[],rfl,rfl⟩
 |cons c cs ih=>
  intro us l h hr;cases c<;>try (simp[zne]at h;done)
  rename_i k n;cases k<;>try (simp[zne]at h;done)
  simp only[zne,qX]at h;obtain⟨l',hl',h⟩:=h;simp at h;subst h;cases us with
  |nil=>have:=hr.1;simp at this
  |cons u us=>
   have hu:=zbi (hr.2 0 _ u rfl rfl);subst hu;obtain⟨ns,rfl,rfl⟩:=ih us l' hl' ⟨by have:=hr.1;simpa using this,λj x y hx hy=>hr.2 (j+1) x y (by simpa using hx) (by simpa using hy)⟩;exact⟨n::ns,rfl,rfl⟩
theorem jyn(ho:HOK Γ w F ρ H)(he:∀t,Rep w (Mu F ρ) ρ (E t) (a.tmps.getD t undef)){src dst el:TypeId}{x:Operand}{x':Opd}{n:Nat}{cs:List AV}{l:List UInt8}
  (hs:P.underlying src=some (.slice el)) (hel:P.underlying el=some (.int .u8)) (hd:P.underlying dst=some .string) (hx:cOpd Γ x=some x') (hop:o.op= .convert src dst x)
  (hn:lenA (val E x')=some n) (hc:zdz H 1 n (val E x')=some (cs,rd)) (hb:zne cs=some l):Snd P Γ o a w F ρ n0 (.str ⟨l.toArray⟩) H []:=by
 have h1:=zah ho he hx;obtain⟨ad,cap,e1,_⟩:=zte hn h1 (zjz hc);obtain⟨us,h2,h3,h4⟩:=zfw (P:=P) ho hc h1;obtain⟨ns,rfl,rfl⟩:=qfa cs us l hb h4
 have hpush:∀(ns:List Int) (s:ByteArray),ns.foldl (λr n=>r.push (UInt8.ofNat n.toNat)) s=⟨s.data++(ns.map λn=>UInt8.ofNat n.toNat).toArray⟩:=by
  intro ns
  induction ns with
  |nil=>intro s;simp
  |cons n ns ih=>
   intro s;rw[xE,ih];simp[ByteArray.push]
 refine zam ho (v':= .string ⟨(ns.map λn=>UInt8.ofNat n.toNat).toArray⟩) ?_ (.imm _ _ (.str _))
 have hrun:(convert src dst (a.eval x)).run P w= .ok (.string ⟨(ns.map λn=>UInt8.ofNat n.toNat).toArray⟩) w:=by
  rw[e1,run_convert_bytes_string w src dst el ad n cap hs hel hd];cases ad with
  |none=>
   have h5:=h2 w rfl;rw[e1]at h5;simp[Builtin.firstCells]at h5;subst h5;simp[Conv.bytesToString];rfl
  |some ad=>
   have h5:=h2 w rfl;rw[e1]at h5;simp only[Builtin.firstCells,yX]at h5;rw[run_bytesToString w ad n cap ns h5,hpush];simp
 simp[execOp,hop,hrun]
end
theorem qsz:∀(vs cs:List AV) (i:Nat),(setL cs i vs).length=cs.length:=by
 intro vs
 induction vs with
 |nil=>intro cs i;rfl
 |cons v vs ih=>intro cs i;simp[setL,ih]
theorem qta:∀(vs cs:List AV) (i j:Nat),i+vs.length<=cs.length->(setL cs i vs)[j]?=if i<=j/\j<i+vs.length then vs[j-i]? else cs[j]?:=by
 intro vs
 induction vs with
 |nil=>intro cs i j h;simp[setL];omega
 |cons v vs ih=>
  intro cs i j h;simp only[xA]at h;rw[setL,ih _ _ _ (by simp;omega)];by_cases h1:i+1<=j/\j<i+1+vs.length
  ·rw[if_pos h1,if_pos (by simp;omega)];have:j-i=(j-(i+1))+1:=by omega
   rw[this,List.getElem?_cons_succ]
  ·rw[if_neg h1];by_cases h2:j=i
   ·subst h2;rw[if_pos (by simp),qW (by omega)];simp
   ·rw[if_neg (by simp;omega),qJ (λe=>h2 e.symm)]
section
variable{P:Program}{Γ:Glob}{E:Env}{a:Act}{w:World}{F:Nat->Prop}{ρ:Nat->RS}{H:Heap}{n0 fresh:Nat}{o:Oper}{v:AV}{e:Eff}{rd:List Nat}
theorem qfb{b m:Nat}{el:TypeId}(h:w.shape? b=some (el,m)){j:Nat}(hj:j<m):∃v,w.cell? ⟨b,j,none⟩=some v:=by
 unfold World.shape? at h;unfold World.cell?;split at h
 ·rename_i c el' fr hh;simp at h;simp only[hh];exact⟨c[j]'(by omega),by simp⟩
 ·simp at h
theorem HOK.widen(ho:HOK Γ w F ρ H){id b m:Nat}{el:TypeId}{cs:List AV}(hb:ρ id= .here b)(hH:H[id]?=some (some cs))(hs:w.shape? b=some (el,m)):
  HOK Γ w F ρ (H.set id (some (cs++List.replicate (m-cs.length) .junk))):=by
 have hid:id<H.length:=by
  rcases qV id H.length with h' | h'
  ·exact h'
  ·rw[qK h']at hH;simp at hH
 refine⟨ho.inj,ho.notF,ho.fLt,λi hi=>ho.unborn i (by simpa using hi),λi cs' hi=>?_,λi b' hi=>?_,ho.glob⟩
 ·by_cases e:i=id
  ·subst e;exact⟨b,hb⟩
  ·rw[qJ (λx=>e x.symm)]at hi;exact ho.alive i cs' hi
 ·obtain⟨cs',h1,h2⟩:=ho.blk i b' hi;by_cases e:i=id
  ·subst e;have:b'=b:=by rw[hb]at hi;simp at hi;exact hi.symm
   subst this;rw[hH]at h1;simp at h1;subst h1;obtain⟨el',m',h2,h3,h4,h5⟩:=h2.cells ⟨_,hs⟩;rw[hs]at h2;simp at h2;obtain⟨rfl,rfl⟩:=h2;refine⟨_,by rw[qW hid],.inl ⟨el,m,hs,by simp;omega,h4,λj a hj=>?_⟩⟩;rcases qV j cs.length with hl | hl
   ·rw[qY hl]at hj;exact h5 j a hj
   ·rw[qU hl,qL]at hj;split at hj
    ·simp at hj;subst hj;obtain⟨v,hv⟩:=qfb hs (j:=j) (by omega);exact⟨v,hv,.imm _ _ (.junk _)⟩
    ·simp at hj
  ·exact⟨cs',by rw[qJ (λx=>e x.symm)];exact h1,h2⟩
theorem HOK.rename(ho:HOK Γ w F ρ H){id b:Nat}{cs cs':List AV}(hn:0<=id)(hb:ρ id= .here b)(hshp:∃x,w.shape? b=some x)(hH:H[id]?=some (some cs))(hu:ρ fresh= .unborn)(hfr:fresh<H.length)
  (hcs:∀(j:Nat) (a:AV),cs'[j]?=some a->cs[j]?=some a) (hl:cs'.length<=cs.length):
  After Γ F n0 ρ w (updR (updR ρ id .dead) fresh (.here b)) w ((H.set id none).set fresh (some cs')) [fresh]:=by
 have hne:fresh≠id:=by intro e;subst e;rw[hb]at hu;simp at hu
 have hold:∀i b',updR (updR ρ id .dead) fresh (.here b) i= .here b'->(i=fresh/\b'=b)\/(i≠fresh/\i≠id/\ρ i= .here b'):=by
  intro i b' hi;unfold updR at hi;split at hi
  ·simp at hi;exact .inl ⟨by assumption,hi.symm⟩
  ·split at hi
   ·simp at hi
   ·exact .inr ⟨by assumption,by assumption,hi⟩
 have hr:∀a v,Rep w (Mu F ρ) ρ a v->Rep w (Mu F (updR (updR ρ id .dead) fresh (.here b))) (updR (updR ρ id .dead) fresh (.here b)) a v:=by
  intro a v hr;refine hr.kept (Kept.refl (λ_=>False) w) (λ_ x=>x.elim) (λb' _ hb'=>?_) ho.lt (λi hi=>?_)
  ·rcases hb' with hb' | ⟨i,hi⟩
   ·exact .inl hb'
   ·rcases hold i b' hi with⟨_,rfl⟩ | ⟨_,_,hi⟩
    ·exact .inr ⟨id,hb⟩
    ·exact .inr ⟨i,hi⟩
  ·unfold updR;by_cases e1:i=fresh
   ·subst e1;exact absurd hu hi
   ·rw[if_neg e1];by_cases e2:i=id
    ·rw[if_pos e2];exact .inr rfl
    ·rw[if_neg e2];exact .inl rfl
 have hidl:id<H.length:=by
  rcases qV id H.length with h' | h'
  ·exact h'
  ·rw[qK h']at hH;simp at hH
 refine⟨⟨?_,?_,ho.fLt,?_,?_,?_,?_⟩,Kept.refl _ w,?_,?_,?_⟩
 ·intro i j b' hi hj;rcases hold i b' hi with⟨e1,e2⟩ | ⟨e1,e2,hi'⟩<;>rcases hold j b' hj with⟨e3,e4⟩ | ⟨e3,e4,hj'⟩
  ·omega
  ·subst e2;exact absurd (ho.inj j id _ hj' hb) e4
  ·subst e4;exact absurd (ho.inj i id _ hi' hb) e2
  ·exact ho.inj i j b' hi' hj'
 ·intro i b' hi;rcases hold i b' hi with⟨_,rfl⟩ | ⟨_,_,hi'⟩
  ·exact ho.notF id _ hb
  ·exact ho.notF i _ hi'
 ·intro i hi;simp at hi;unfold updR;rw[if_neg (by omega),if_neg (by omega)];exact ho.unborn i hi
 ·intro i cs2 hi;by_cases e1:i=fresh
  ·subst e1;exact⟨b,by simp[updR]⟩
  ·rw[qJ (λx=>e1 x.symm)]at hi;by_cases e2:i=id
   ·subst e2;rw[qW hidl]at hi;simp at hi
   ·rw[qJ (λx=>e2 x.symm)]at hi;obtain⟨b',hb'⟩:=ho.alive i cs2 hi;exact⟨b',by simp[updR,e1,e2,hb']⟩
 ·intro i b' hi;rcases hold i b' hi with⟨rfl,rfl⟩ | ⟨e1,e2,hi'⟩
  ·obtain⟨cs2,h1,h2⟩:=ho.blk id b' hb;rw[hH]at h1;simp at h1;subst h1;obtain⟨el,m,h2,h3,h4,h5⟩:=h2.cells hshp;refine⟨cs',by rw[qW (by simpa using hfr)],.inl ⟨el,m,h2,by omega,h4,λj a hj=>?_⟩⟩;obtain⟨v,hv,hv'⟩:=h5 j a (hcs j a hj);exact⟨v,hv,hr _ _ hv'⟩
  ·obtain⟨cs2,h1,h2⟩:=ho.blk i b' hi';exact⟨cs2,by rw[qJ (λx=>e1 x.symm),qJ (λx=>e2 x.symm)];exact h1,h2.mono rfl (λ_ _ _=>hr _ _)⟩
 ·intro g cs2 hg;refine(ho.glob g cs2 hg).weaken (λb' _ hb'=>?_);rcases hb' with hb' | ⟨i,hi⟩
  ·exact .inl hb'
  ·rcases hold i b' hi with⟨_,rfl⟩ | ⟨_,_,hi⟩
   ·exact .inr ⟨id,hb⟩
   ·exact .inr ⟨i,hi⟩
 ·intro i hi;unfold updR;by_cases e1:i=fresh
  ·subst e1;exact absurd hu hi
  ·rw[if_neg e1];by_cases e2:i=id
   ·rw[if_pos e2];exact .inr ⟨by omega,rfl⟩
   ·rw[if_neg e2];exact .inl rfl
 ·intro i b' hi;rcases hold i b' hi with⟨_,rfl⟩ | ⟨_,_,hi⟩
  ·exact .inl ⟨id,hb⟩
  ·exact .inl ⟨i,hi⟩
 ·intro i hi hnot;simp at hnot;unfold updR;rw[if_neg hnot,if_neg]
  ·exact hi
  ·intro e;subst e;rw[hb]at hi;simp at hi
theorem znp{t t2 ty el el2:TypeId}{i:TypeInfo}{z s' x':Value}{tys:Array TypeId}{ad ad2:Option Addr}{n cap m c2:Nat}{olds news:List Value}
  (h0:tys[0]?=some t) (h1:tys[1]?=some t2) (ht:P.underlying t=some (.slice el)) (ht2:P.underlying t2=some (.slice el2)) (hi:P.info? el=some i) (hz:i.zero=some z)
  (es:s'= .slice ad n cap) (ex:x'= .slice ad2 m c2) (ho:∀w':World,w'.heap=w.heap->(Builtin.firstCells i.size n s').run P w'= .ok olds.toArray w')
  (hn:∀w':World,w'.heap=w.heap->(Builtin.firstCells i.size m x').run P w'= .ok news.toArray w') (hg:cap<n+m) (h62:n+m<2^62) (hfit:4*(n+m)*i.bytes<=2^48):
  (Builtin.append_ tys ty #[s',x']).run P w= .ok (.slice (some ⟨w.heap.size,0,none⟩) (n+m) (grownCap w (n+m) cap el))
   (w.drew.alloc (.cells (olds.toArray++news.toArray++Builtin.zeroCells z.cells (grownCap w (n+m) cap el-(n+m))) el)):=by
 subst es ex;have hn1:¬(n+m<=cap):=by omega
 have h63:¬(9223372036854775807<((n:Int)+(m:Int))):=by omega
 have hb:(n+m)*i.bytes<=140737488355328:=by
  have:4*((n+m)*i.bytes)<=2^48:=by rw[<-Nat.mul_assoc];exact hfit
  omega
 have h48:¬(281474976710656<Builtin.nextslicecap (n+m) cap*i.bytes):=by
  have:=growslice_fits hg hb;omega
 have ho':=ho w.drew rfl;have hn':=hn w.drew rfl
 have hask:∀(w:World) (b:Nat),(askRoom b).run P w= .ok () w:=by
  intro w b;unfold askRoom;split<;>simp[mark,Sem.run]
 simp[Builtin.append_,h0,h1,zal ht,zal ht2,sizeOf,typeInfo,zeroValue,hi,hz,Builtin.lenOf,hn1,h63,h48,Question.forced,ho',hn',hask,newRow,grownCap];congr 2;apply Array.ext';simp[List.append_assoc]
theorem ztg{t t2 ty el el2:TypeId}{i:TypeInfo}{s' x':Value}{tys:Array TypeId}{ad:Addr}{ad2:Option Addr}{n cap m c2:Nat}{news:List Value}{w':World}
  (h0:tys[0]?=some t) (h1:tys[1]?=some t2) (ht:P.underlying t=some (.slice el)) (ht2:P.underlying t2=some (.slice el2)) (hi:P.info? el=some i)
  (es:s'= .slice (some ad) n cap) (ex:x'= .slice ad2 m c2)
  (hn:(Builtin.firstCells i.size m x').run P w= .ok news.toArray w) (hg:n+m<=cap) (hst:(storeCells (ad.add (n*i.size)) news).run P w= .ok () w'):
  (Builtin.append_ tys ty #[s',x']).run P w= .ok (.slice (some ad) (n+m) cap) w':=by
 subst es ex;simp[Builtin.append_,h0,h1,zal ht,zal ht2,sizeOf,typeInfo,hi,Builtin.lenOf,hg,hn,hst]
theorem zoq{t t2 ty el el2:TypeId}{i:TypeInfo}{s' x':Value}{tys:Array TypeId}{ad ad2:Option Addr}{n cap c2:Nat}
  (h0:tys[0]?=some t) (h1:tys[1]?=some t2) (ht:P.underlying t=some (.slice el)) (ht2:P.underlying t2=some (.slice el2)) (hi:P.info? el=some i)
  (es:s'= .slice ad n cap) (ex:x'= .slice ad2 0 c2) (hn:(Builtin.firstCells i.size 0 x').run P w= .ok #[] w) (hg:n<=cap):
  (Builtin.append_ tys ty #[s',x']).run P w= .ok s' w:=by
 subst es ex;cases ad<;>simp[Builtin.append_,h0,h1,zal ht,zal ht2,sizeOf,typeInfo,hi,Builtin.lenOf,hg,hn,storeCells]
theorem znx{need old:Nat}{el:TypeId}:need<=grownCap w need old el:=by
 unfold grownCap Question.cut;exact Nat.le_add_right _ _
theorem zie{c:Array Value}{el:TypeId}:(w.alloc (.cells c el)).shape? w.heap.size=some (el,c.size):=by
 simp[World.shape?,World.alloc,-World.alloc_eq]
theorem After.more{ρ':Nat->RS}{w':World}{H':Heap}{l l':List Nat}(h:After Γ F n0 ρ w ρ' w' H' l)(hl:∀x,x∈l->x∈l'):After Γ F n0 ρ w ρ' w' H' l':=
 ⟨h.hok,h.kept,h.ext,h.old,λi hi hn=>h.still i hi (λhx=>hn (hl i hx))⟩
theorem zjt(z:Array Value)(n:Nat):(Builtin.zeroCells z n).size=n*z.size:=by simp[Builtin.zeroCells]
theorem qce{M:Nat->Prop}{cs:List AV}{us:List Value}(h:zaw w M ρ cs us):∀(c:Array Value),(∃rest:Array Value,c=us.toArray++rest)->
  cs.length<=c.size/\∀(j:Nat) (a:AV),cs[j]?=some a->∃v,c[j]?=some v/\Rep w M ρ a v:=by
 rintro c ⟨rest,rfl⟩;refine⟨by simp[h.1],λj x hx=>?_⟩
 have hj:j<us.length:=by
  rw[h.1];rcases qV j cs.length with h' | h'
  ·exact h'
  ·rw[qK h']at hx;simp at hx
 exact⟨us[j],by simp[Array.getElem?_append,hj],h.2 j x _ hx (by simp[hj])⟩
theorem qfc(ho:HOK Γ w F ρ H)(he:∀t,Rep w (Mu F ρ) ρ (E t) (a.tmps.getD t undef)){cl:Call}{t t2 el el2:TypeId}{i:TypeInfo}{z:List AV}{s x:Operand}{s' x':Opd}
  (hfr:fresh<H.length) (hu:ρ fresh= .unborn) (hop:o.op= .call cl) (hc:cl.callee= .builtin .append) (hargs:cl.args.toList=[s,x])
  (h0:cl.argTypes[0]?=some t) (h1:cl.argTypes[1]?=some t2) (ht:P.underlying t=some (.slice el)) (ht2:P.underlying t2=some (.slice el2)) (hi:P.info? el=some i) (hz:zks P el=some z) (hzl:z.length=i.size)
  (hs:cOpd Γ s=some s') (hx:cOpd Γ x=some x') (hv:zcd n0 fresh H i.size i.bytes (val E s') (val E x')=some (v,e,rd)):Snd P Γ o a w F ρ n0 v (zaf e H) [fresh]:=by
 have ha:cl.args= #[s,x]:=by rw[<-Array.toArray_toList (xs:=cl.args),hargs]
 have rs:=zah ho he hs;have rx:=zah ho he hx;obtain⟨zv,i',hi',hiz,hrow⟩:=zjb hz;rw[hi]at hi';simp at hi';subst hi';have hzs:zv.cells.size=i.size:=by have:=(hrow w (Mu F ρ) ρ).1;simp at this;omega
 unfold zcd at hv;simp only[qX]at hv;obtain⟨m,hm,⟨xs,xrd⟩,hxs,hv⟩:=hv;obtain⟨ad2,c2,ex,hmc⟩:=zte hm rx (zjz hxs);obtain⟨news,hnews,hnl,hnrow⟩:=zfw (P:=P) ho hxs rx
 have exec:∀r w',(Builtin.append_ cl.argTypes o.type #[a.eval s,a.eval x]).run P w= .ok r w'->(execOp a.eval o).run P w= .ok (.value r) w':=by
  intro r w' h;simp[execOp,hop,resolve,hc,ha,invoke,builtin,h]
 by_cases hm0:m=0
 ·subst hm0;simp only[if_true]at hv
  have hn0:(Builtin.firstCells i.size 0 (a.eval x)).run P w= .ok #[] w:=by
   have:=hnews w rfl;simp at hnl;subst hnl;exact this
  have fin:∀ad n cap,a.eval s= .slice ad n cap->n<=cap->Snd P Γ o a w F ρ n0 (val E s') H [fresh]:=by
   intro ad n cap es hn;exact⟨_,_,w,ρ,exec _ _ (zoq h0 h1 ht ht2 hi es ex hn0 hn),.inl rfl,(zja n0 ho).more (by simp),rs⟩
  cases hsv:val E s'<;>rw[hsv]at hv rs fin<;>simp at hv
  case vec cs n c=>
   obtain⟨rfl,rfl,rfl⟩:=hv;rcases zfv rs with⟨_,es,_,_,_⟩ | ⟨b,off,cap,vs,es,_,_,_,hn,_⟩
   ·exact fin _ _ _ es (qA _)
   ·exact fin _ _ _ es hn
  case sl id off n sz c=>
   obtain⟨rfl,rfl,rfl⟩:=hv;obtain⟨b,cap,es,hn,_⟩:=zfd rs;exact fin _ _ _ es hn
 ·simp only[if_neg hm0]at hv
  have fin:∀(ad:Option Addr) (n cap:Nat) (cs0:List AV) (olds:List Value),a.eval s= .slice ad n cap->cap<n+m->4*(n+m)*i.bytes<=2^48->n+m<2^62->
    (∀w':World,w'.heap=w.heap->(Builtin.firstCells i.size n (a.eval s)).run P w'= .ok olds.toArray w')->olds.length=n*i.size->zaw w (Mu F ρ) ρ cs0 olds->
    ∃v' w' ρ',(execOp a.eval o).run P w= .ok (.value v') w'/\After Γ F n0 ρ w ρ' w' (H.set fresh (some (cs0++xs))) [fresh]/\Rep w' (Mu F ρ') ρ' (.sl fresh 0 (n+m) i.size none) v':=by
   intro ad n cap cs0 olds es hcap hb h62 hold hol hor;have hrun:=exec _ _ (znp h0 h1 ht ht2 hi hiz es ex hold hnews hcap h62 hb);have hA0:=ziz (w':=w.drew) n0 ho rfl ⟨rfl,rfl⟩;have hrow2:=(hor.append hnrow).mono (λa v hr=>hr.after ho hA0);obtain⟨g1,g2⟩:=qce hrow2 (olds.toArray++news.toArray++Builtin.zeroCells zv.cells (grownCap w (n+m) cap el-(n+m))) ⟨_,by rw[<-xL]⟩;have hA1:=zfu n0 hA0.hok hfr hu (cs0++xs) _ el g1 g2;refine⟨_,_,_,hrun,(hA0.trans hA1).more (by simp),?_⟩;refine .slAt _ _ _ _ _ w.heap.size _ el _ (by simp[updR]) (zie (w:=w.drew)) znx (by simp) ?_;simp only[Array.size_append,xT,zjt,hol,hnl,hzs];have:= @znx w (n+m) cap el;rw[yQ,<-xX,<-xX];exact qC _ (by omega)
  cases hsv:val E s'<;>rw[hsv]at hv rs<;>try (simp at hv;done)
  case vec cs n c=>
   simp only at hv;obtain⟨⟨hcn,hcl,hb,h62⟩,hv⟩:=zac hv;simp at hv;obtain⟨rfl,rfl,rfl⟩:=hv;have hel:zdz H i.size n (.vec cs n c)=some (cs.take (n*i.size),[]):=by simp[zdz,need,hcl]
   obtain⟨olds,hold,hol,hor⟩:=zfw (P:=P) ho hel rs
   have:∃ad,a.eval s= .slice ad n n:=by
    rcases zfv rs with⟨_,es,_,rfl,_⟩ | ⟨b,off,cap,vs,es,_,_,_,_,hcc⟩
    ·exact⟨_,es⟩
    ·have:=hcc n hcn;subst this;exact⟨_,es⟩
   obtain⟨ad,es⟩:=this;obtain⟨v',w',ρ',h2,h3,h4⟩:=fin ad n n _ olds es (by omega) hb h62 hold hol hor;exact⟨_,v',w',ρ',h2,.inl rfl,h3,h4⟩
  case sl id off n sz c=>
   simp only at hv;split at hv
   ·rename_i cs hg;have hv2:=(zac hv).2;have hcond:=(zac hv).1;clear hv;obtain⟨rfl,rfl,hcl,hb,h62⟩:=hcond;have hel:zdz H i.size n (.sl id 0 n i.size c)=some (cs.take (n*i.size),[id]):=by simp[zdz,need,hg,hcl]
    obtain⟨olds,hold,hol,hor⟩:=zfw (P:=P) ho hel rs;obtain⟨b,cap,es,hn,hcc,hbb⟩:=zfd rs;by_cases hcn:c=some n
    ·rw[if_pos hcn]at hv2;simp at hv2;obtain⟨rfl,rfl,rfl⟩:=hv2;have:=hcc n hcn;subst this;obtain⟨v',w',ρ',h2,h3,h4⟩:=fin _ cap cap _ olds es (by omega) hb h62 hold hol hor;exact⟨_,v',w',ρ',h2,.inl rfl,h3,h4⟩
    ·rw[if_neg hcn]at hv2;have hv3:=(zac hv2).2;have hcond:=(zac hv2).1;clear hv2;obtain⟨hn0,hne,hscal⟩:=hcond;simp at hv3;obtain⟨rfl,rfl,rfl⟩:=hv3;obtain⟨b2,el2',mm,hb2,hsh,hlen,hfz,hcells⟩:=ho.at hg (qey rs)
     have hbe:b=b2/\∃el m,w.shape? b=some (el,m)/\0+cap*i.size<=m:=by
      rcases hbb with hd | ⟨hd,hsm⟩
      ·rw[hb2]at hd;simp at hd
      ·rw[hb2]at hd;simp at hd;subst hd;exact⟨rfl,hsm⟩
     obtain⟨rfl,el3,m3,hsh3,hm3⟩:=hbe;rw[hsh]at hsh3;simp at hsh3;obtain⟨rfl,rfl⟩:=hsh3;rcases qV cap (n+m)with hgrow | hroom
     ·
      obtain⟨v',w',ρ',h2,h3,h4⟩:=fin _ n cap _ olds es hgrow hb h62 hold hol hor
      have hρid:ρ' id= .here b\/(0<=id/\ρ' id= .dead):=by
       rcases h3.ext id (by rw[hb2];simp)with h | h
       ·exact .inl (h.trans hb2)
       ·exact .inr h
      have hkill:After Γ F n0 ρ w (updR ρ' id .dead) w' ((H.set id none).set fresh (some (cs.take (n*i.size)++xs))) [fresh]:=by
       have hmono:∀j b',updR ρ' id .dead j= .here b'->j≠id/\ρ' j= .here b':=by
        intro j b' hj;unfold updR at hj;split at hj
        ·simp at hj
        ·exact⟨by assumption,hj⟩
       have hrr:∀a v,Rep w' (Mu F ρ') ρ' a v->Rep w' (Mu F (updR ρ' id .dead)) (updR ρ' id .dead) a v:=by
        intro a v hr;refine hr.kept (Kept.refl (λ_=>False) w') (λ_ x=>x.elim) (λb' _ hb'=>?_) h3.hok.lt (λj hj=>?_)
        ·rcases hb' with hb' | ⟨j,hj⟩
         ·exact .inl hb'
         ·exact .inr ⟨j,(hmono j b' hj).2⟩
        ·unfold updR;by_cases e2:j=id
         ·rw[if_pos e2];exact .inr rfl
         ·rw[if_neg e2];exact .inl rfl
       have hidl:id<H.length:=by
        have:=zch hg;rcases qV id H.length with h' | h'
        ·exact h'
        ·rw[qK h']at this;simp at this
       have hHH:∀j,j≠id->((H.set id none).set fresh (some (cs.take (n*i.size)++xs)))[j]?=(H.set fresh (some (cs.take (n*i.size)++xs)))[j]?:=by
        intro j hj;by_cases e3:j=fresh
        ·subst e3;rw[qW (by simpa using hfr),qW hfr]
        ·rw[qJ (λx=>e3 x.symm),qJ (λx=>hj x.symm),qJ (λx=>e3 x.symm)]
       refine⟨⟨λp q b' hp hq=>h3.hok.inj p q b' (hmono p b' hp).2 (hmono q b' hq).2,λp b' hp=>h3.hok.notF p b' (hmono p b' hp).2,h3.hok.fLt,λp hp=>?_,λp cs2 hp=>?_,λp b' hp=>?_,λg cs2 hg2=>?_⟩,h3.kept,λp hp=>?_,λp b' hp=>h3.old p b' (hmono p b' hp).2,λp hp hnot=>?_⟩
       ·simp at hp;unfold updR;rw[if_neg (by omega)];exact h3.hok.unborn p (by simpa using hp)
       ·by_cases e3:p=id
        ·subst e3;rw[qJ (λx=>hne x.symm),qW hidl]at hp;simp at hp
        ·rw[hHH p e3]at hp;obtain⟨b',hb'⟩:=h3.hok.alive p cs2 hp;exact⟨b',by simp[updR,e3,hb']⟩
       ·obtain⟨e3,hp'⟩:=hmono p b' hp;obtain⟨cs2,g1,g2⟩:=h3.hok.blk p b' hp';exact⟨cs2,by rw[hHH p e3];exact g1,g2.mono rfl (λ_ _ _=>hrr _ _)⟩
       ·exact(h3.hok.glob g cs2 hg2).weaken (λb' _ hb'=>by
         rcases hb' with hb' | ⟨j,hj⟩
         ·exact .inl hb'
         ·exact .inr ⟨j,(hmono j b' hj).2⟩)
       ·unfold updR;by_cases e3:p=id
        ·rw[if_pos e3];exact .inr ⟨by omega,rfl⟩
        ·rw[if_neg e3];exact h3.ext p hp
       ·unfold updR;rw[if_neg]
        ·exact h3.still p hp hnot
        ·intro e3;subst e3;rw[hb2]at hp;simp at hp
      refine⟨_,v',w',updR ρ' id .dead,h2,.inl rfl,hkill,?_⟩;obtain⟨b',cap',ev,hc1,hc2,hc3⟩:=zfd h4;subst ev;rcases hc3 with hc3 | ⟨hc3,el',m',hc4,hc5⟩
      ·exact .slDead _ _ _ _ _ _ _ (by simp[updR,Ne.symm hne,hc3]) hc1 hc2
      ·exact .slAt _ _ _ _ _ _ _ el' m' (by simp[updR,Ne.symm hne,hc3]) hc4 hc1 hc2 hc5
     ·
      have hHid:=zch hg
      have hidl:id<H.length:=by
       rcases qV id H.length with h' | h'
       ·exact h'
       ·rw[qK h']at hHid;simp at hHid
      have hwide:=ho.widen hb2 hHid hsh
      have hmlen:n*i.size+m*i.size<=mm:=by
       have h5:(n+m)*i.size<=cap*i.size:=qC _ hroom;rw[xX]at h5;omega
      have hxsl:=zvr hxs
      have hmc:n*i.size+xs.length<=(cs++List.replicate (mm-cs.length) AV.junk).length:=by
       simp;omega
      obtain⟨w',hst,hA⟩:=zew (P:=P) (n0:=n0) (p:=n*i.size) news xs 0 w _ _ hwide hb2 ⟨_,hsh⟩ (qW hidl) (by rw[hnl,<-hxsl];simpa using hmc) (by rw[hxsl,hnl]) hscal
       (λj x y hx hy=>hnrow.2 j x y hx hy)
      rw[xP]at hA;have hrun:=exec _ _ (ztg h0 h1 ht ht2 hi es ex (hnews w rfl) hroom (by rw[zei,yQ];exact hst))
      have hren:=HOK.rename (n0:=n0) (fresh:=fresh) hA.hok hn0 hb2 ⟨_,(hA.kept.shape _ (zsx hsh)).trans hsh⟩ (qW hidl) (by exact hu) (by simpa using hfr) (cs':=cs.take (n*i.size)++xs)
       (λj x hx=>by
        rw[Nat.add_zero,qta _ _ _ _ hmc];rcases qV j (n*i.size)with hl | hl
        ·rw[qY (by simp;omega),qE,if_pos hl]at hx;rw[if_neg (by omega),qY (by omega)];exact hx
        ·rw[qU (by simp;omega)]at hx;have e4:(cs.take (n*i.size)).length=n*i.size:=by simp;omega
         rw[e4]at hx
         have hlt:j-n*i.size<xs.length:=by
          rcases qV (j-n*i.size) xs.length with h' | h'
          ·exact h'
          ·rw[qK h']at hx;simp at hx
         rw[if_pos (by omega)];exact hx)
       (by rw[qsz];simp;omega)
      rw[xP]at hren;refine⟨_,_,w',_,hrun,.inl rfl,(hA.trans hren).more (by simp),?_⟩;refine .slAt _ _ _ _ _ b cap _ mm (by simp[updR]) (by rw[hA.kept.shape b (zsx hsh)];exact hsh) hroom (by simp) hm3
   ·simp at hv
end
section
variable{P:Program}{Γ:Glob}{E:Env}{a:Act}{w:World}{F:Nat->Prop}{ρ:Nat->RS}{H:Heap}{n0 fresh:Nat}{o:Oper}{v:AV}{e:Eff}{rd:List Nat}
theorem zmm{M:Nat->Prop}:∀(ks:List IntKind) (xs ys:List AV) (us vs:List Value) (r:Bool),zcv ks xs ys=some r->zaw w M ρ xs us->zaw w M ρ ys vs->
  ∃ms ns:List Int,ms.length=ks.length/\ns.length=ks.length/\us=(ks.zip ms).map (λx=>Value.int x.1 x.2)/\vs=(ks.zip ns).map (λx=>Value.int x.1 x.2)/\(r=(ms == ns)):=by
 intro ks
 induction ks with
 |nil=>
  intro xs ys us vs r h hx hy;cases xs with
  |cons _ _=>simp[zcv]at h
  |nil=>
   cases ys with
   |cons _ _=>simp[zcv]at h
   |nil=>
    simp[zcv]at h;have h1:us=[]:=List.length_eq_zero_iff.1 hx.1;have h2:vs=[]:=List.length_eq_zero_iff.1 hy.1;exact⟨[],[],rfl,rfl,by simp[h1],by simp[h2],by simp[<-h]⟩
 |cons k ks ih=>
  intro xs ys us vs r h hx hy;cases xs with
  |nil=>simp[zcv]at h
  |cons x xs=>
   cases ys with
   |nil=>cases x<;>simp[zcv]at h
   |cons y ys=>
    cases x<;>try (simp[zcv]at h;done)
    case int k1 m=>
     cases y<;>try (simp[zcv]at h;done)
     case int k2 n=>
      rw[zcv]at h;have hk:=(zac h).1;replace h:=(zac h).2;obtain⟨e1,e2⟩:=hk;subst e1;subst e2;rw[qX]at h;obtain⟨r',hr',h⟩:=h;simp only[qZ]at h;cases us with
      |nil=>simp[zaw]at hx
      |cons u us=>
       cases vs with
       |nil=>simp[zaw]at hy
       |cons u' vs=>
        have hu:=hx.2 0 (.int _ m) u rfl rfl;have hu':=hy.2 0 (.int _ n) u' rfl rfl;obtain⟨ms,ns,l1,l2,e1,e2,e3⟩:=ih xs ys us vs r' hr' ⟨by simpa using hx.1,λj p q hp hq=>hx.2 (j+1) p q (by simpa using hp) (by simpa using hq)⟩ ⟨by simpa using hy.1,λj p q hp hq=>hy.2 (j+1) p q (by simpa using hp) (by simpa using hq)⟩;refine⟨m::ms,n::ns,by simp[l1],by simp[l2],by simp[zbi hu,e1],by simp[zbi hu',e2],?_⟩;rw[<-h,e3];rfl
theorem zrq{ks:List IntKind}{kk kc:List AV}{b:Bool}(h:zcv ks kk kc=some b):∃b',zcv ks kk kk=some b':=by
 induction ks generalizing kk kc b with
 |nil=>
  cases kk with
  |nil=>exact⟨true,rfl⟩
  |cons _ _=>simp[zcv]at h
 |cons k ks ih=>
  cases kk with
  |nil=>simp[zcv]at h
  |cons x xs=>
   cases kc with
   |nil=>cases x<;>simp[zcv]at h
   |cons y ys=>
    cases x<;>try (simp[zcv]at h;done)
    cases y<;>try (simp[zcv]at h;done)
    rw[zcv]at h;have hk:=(zac h).1;replace h:=(zac h).2;obtain⟨e1,e2⟩:=hk;subst e1;rw[qX]at h;obtain⟨r',hr',h⟩:=h;obtain⟨b',hb'⟩:=ih hr';exact⟨b',by simp[zcv,need,hb']⟩
theorem zdr{ks:List IntKind}{ms:List Int}{i:Nat}{k:IntKind}{m:Int}(hk:ks[i]?=some k)(hm:ms[i]?=some m):
  ((ks.zip ms).map λx=>Value.int x.1 x.2)[i]?=some (.int k m):=by
 have:(ks.zip ms)[i]?=some (k,m):=List.getElem?_zip_eq_some.2 ⟨hk,hm⟩;simp[this]
theorem zds{t:TypeId}{k:IntKind}(ht:P.underlying t=some (.int k)){xs:Array Value}{i:Nat}{u:Value}(hx:xs[i]?=some u)(w:World):(part t xs i).run P w= .ok u w:=by
 have:(isAgg t).run P w= .ok false w:=zoi (by simp[zrj,ht]);simp[part,this,hx]
theorem qcf{ms ns:List Int}{i:Nat}(h1:i<ms.length)(h2:i<ns.length):(ms.drop i == ns.drop i)=(ms[i] == ns[i] && (ms.drop (i+1) == ns.drop (i+1))):=by
 rw[xW h1,xW h2];rfl
theorem znq{w:World}(d:Nat)(ks:List IntKind)(ms ns:List Int)(hm:ms.length=ks.length)(hn:ns.length=ks.length)(xs ys:Array Value)
  (hx:xs.toList=(ks.zip ms).map (λx=>Value.int x.1 x.2)) (hy:ys.toList=(ks.zip ns).map (λx=>Value.int x.1 x.2)):
  ∀(fs:List Field) (i:Nat) (ks':List IntKind),(fs.zipIdx i).mapM (λx=>if x.1.offset=x.2/\x.1.name≠ "_" then(match P.underlying x.1.type with | some (.int k)=>some k | _=>none)else none)=some ks'->
   ks.drop i=ks'->(Op.eqFields (d+1) xs ys fs).run P w= .ok (ms.drop i == ns.drop i) w:=by
 intro fs
 induction fs with
 |nil=>
  intro i ks' h hd;simp at h;subst h
  have hl:ks.length<=i:=by
   rcases qV i ks.length with h' | h'
   ·have:=congrArg List.length hd;simp at this;omega
   ·exact h'
  rw[qD (by omega),qD (by omega)];simp[Op.eqFields]
 |cons f fs ih=>
  intro i ks' h hd;rw[qS,qN]at h;simp only[bind,qX,pure,qZ]at h;obtain⟨k,hk,r,hr,rfl⟩:=h;split at hk
  ·rename_i hc;obtain⟨hoff,hname⟩:=hc;split at hk
   ·rename_i k0 hu;simp at hk;subst hk
    have hi:i<ks.length:=by
     rcases qV i ks.length with h' | h'
     ·exact h'
     ·rw[qD h']at hd;simp at hd
    have hki:ks[i]?=some k0:=by
     have:=congrArg (λl=>l[0]?) hd;simpa using this
    have hdr:ks.drop (i+1)=r:=by
     have:=congrArg List.tail hd;simpa using this
    have hmi:ms[i]?=some (ms[i]'(by omega)):=by simp
    have hni:ns[i]?=some (ns[i]'(by omega)):=by simp
    have hxi:xs[i]?=some (.int k0 (ms[i]'(by omega))):=by rw[<-Array.getElem?_toList,hx];exact zdr hki hmi
    have hyi:ys[i]?=some (.int k0 (ns[i]'(by omega))):=by rw[<-Array.getElem?_toList,hy];exact zdr hki hni
    simp only[Op.eqFields,hname,ne_eq,not_false_eq_true,if_true,Sem.run_bind,hoff,zds hu hxi,zds hu hyi,Result.andThen_ok];rw[run_equalIn_int w d f.type k0 k0 _ _ hu];simp only[Result.andThen_ok];rw[qcf (show i<ms.length by omega) (show i<ns.length by omega)];cases hb:(ms[i]'(by omega) == ns[i]'(by omega))with
    |true=>
     simp only[xU,qB,if_false];rw[ih (i+1) r hr hdr];simp
    |false=>simp
   ·simp at hk
  ·simp at hk
theorem zor{w:World}(d:Nat){el:TypeId}{k:IntKind}(hel:P.underlying el=some (.int k))(n:Nat)(ms ns:List Int)(hm:ms.length=n)(hn:ns.length=n)(xs ys:Array Value)
  (hx:xs.toList=((List.replicate n k).zip ms).map (λx=>Value.int x.1 x.2)) (hy:ys.toList=((List.replicate n k).zip ns).map (λx=>Value.int x.1 x.2)):
  ∀(c i:Nat),i+c=n->(Op.eqItems (d+1) el 1 xs ys (List.range' i c)).run P w= .ok (ms.drop i == ns.drop i) w:=by
 intro c
 induction c with
 |zero=>
  intro i hi;rw[qD (by omega),qD (by omega)];simp[Op.eqItems]
 |succ c ih=>
  intro i hi;have hki:(List.replicate n k)[i]?=some k:=by simp[qL];omega
  have hxi:xs[i]?=some (.int k (ms[i]'(by omega))):=by rw[<-Array.getElem?_toList,hx];exact zdr hki (by simp)
  have hyi:ys[i]?=some (.int k (ns[i]'(by omega))):=by rw[<-Array.getElem?_toList,hy];exact zdr hki (by simp)
  rw[xB];simp only[Op.eqItems,Sem.run_bind,yX,zds hel hxi,zds hel hyi,Result.andThen_ok];rw[run_equalIn_int w d el k k _ _ hel];simp only[Result.andThen_ok];rw[qcf (show i<ms.length by omega) (show i<ns.length by omega)];cases hb:(ms[i]'(by omega) == ns[i]'(by omega))with
  |true=>
   simp only[xU,qB,if_false];rw[ih (i+1) (by omega)];simp
  |false=>simp
theorem zrr{t:TypeId}{s:Nat}(h:szT P t=some s):∃i,P.info? t=some i/\i.size=s:=by
 unfold szT at h;cases hi:P.info? t with
 |none=>simp[hi]at h
 |some i=>simp[hi]at h;exact⟨i,rfl,h⟩
theorem zgl{t:TypeId}{ks:List IntKind}(ht:zmk P t=some ks){xs ys:List AV}{us vs:Array Value}{r:Bool}(h:zcv ks xs ys=some r){M:Nat->Prop}
  (hx:zaw w M ρ xs us.toList) (hy:zaw w M ρ ys vs.toList) (w':World):(Op.equal t (.agg us) (.agg vs)).run P w'= .ok r w'/\(r=true->us=vs):=by
 obtain⟨ms,ns,l1,l2,e1,e2,e3⟩:=zmm ks xs ys us.toList vs.toList r h hx hy
 have hsame:r=true->us=vs:=by
  intro hr;rw[hr]at e3;have e4:ms=ns:=by simpa using e3.symm
  have:us.toList=vs.toList:=by rw[e1,e2,e4]
  exact Array.toList_inj.1 this
 refine⟨?_,hsame⟩;unfold zmk at ht;split at ht
 ·rename_i fields hu;split at ht
  ·simp at ht
  ·rename_i hno;rw[not_or]at hno;have hf:P.fieldsOf t=fields:=by simp[Program.fieldsOf,hu]
   have:=run_equalIn_struct (P:=P) w' 9999 t us vs (by rw[hf];exact hu) (by simpa using hno.1);refine this.trans ?_;rw[hf,znq 9998 ks ms ns l1 l2 us vs e1 e2 fields.toList 0 ks ht rfl,e3];rfl
 ·rename_i n el hu;split at ht
  ·simp at ht
  ·split at ht
   ·rename_i k hel hsz;simp at ht;subst ht;obtain⟨i,hi,hs⟩:=zrr hsz;have:=run_equalIn_array (P:=P) w' 9999 us vs hu hi;refine this.trans ?_;have hc:P.cellsOf el=1:=by simp[Program.cellsOf,hi,hs]
    rw[hc,xH];simp only[xG]at l1 l2;rw[zor 9998 hel n ms ns l1 l2 us vs e1 e2 n 0 (by omega),e3];rfl
   ·simp at ht
 ·simp at ht
theorem qfd{t:TypeId}{ks:List IntKind}(ht:zmk P t=some ks):P.eqGuardType P.depth t=false:=by
 unfold zmk at ht;split at ht
 ·split at ht
  ·simp at ht
  ·rename_i hno;rw[not_or]at hno;simpa using hno.2
 ·split at ht
  ·simp at ht
  ·rename_i hno;simpa using hno
 ·simp at ht
theorem qfe:∀(ks:List IntKind) (xs ys:List AV),zhb (ks.map some) xs ys=zcv ks xs ys:=by
 intro ks
 induction ks with
 |nil=>intro xs ys;cases xs<;>cases ys<;>rfl
 |cons k ks ih=>
  intro xs ys;cases xs with
  |nil=>rfl
  |cons x xs=>
   cases ys with
   |nil=>cases x<;>rfl
   |cons y ys=>
    cases x<;>try rfl
    cases y<;>try rfl
    simp only[xM,zhb,zcv,ih]
theorem zos{M:Nat->Prop}(d:Nat)(w':World)(XS YS:Array Value):∀(fs:List Field) (i:Nat) (ks:List (Option IntKind)) (xs ys:List AV) (us vs:List Value) (r:Bool),
  (fs.zipIdx i).mapM (λx=>if x.1.offset=x.2/\x.1.name≠ "_" then(match P.underlying x.1.type with | some (.int k)=>some (some k) | some .bool=>some none | _=>none)else none)=some ks->
  XS.toList.drop i=us->YS.toList.drop i=vs->zaw w M ρ xs us->zaw w M ρ ys vs->zhb ks xs ys=some r->(Op.eqFields (d+1) XS YS fs).run P w'= .ok r w':=by
 intro fs
 induction fs with
 |nil=>
  intro i ks xs ys us vs r h _ _ _ _ he;simp at h;subst h;cases xs with
  |cons _ _=>simp[zhb]at he
  |nil=>
   cases ys with
   |cons _ _=>simp[zhb]at he
   |nil=>
    simp[zhb]at he;subst he;simp[Op.eqFields]
 |cons f fs ih=>
  intro i ks xs ys us vs r h hX hY hx hy he;rw[qS,qN]at h;simp only[bind,qX,pure,qZ]at h;obtain⟨k,hk,ks,hr,rfl⟩:=h;split at hk
  ·rename_i hc;obtain⟨hoff,hname⟩:=hc
   have take1:∀{Z:Array Value} {z:Value} {zs:List Value},Z.toList.drop i=z::zs->Z[i]?=some z/\Z.toList.drop (i+1)=zs:=by
    intro Z z zs hz;refine⟨?_,?_⟩
    ·rw[<-Array.getElem?_toList];have:=congrArg (λl=>l[0]?) hz;simpa using this
    ·have:=congrArg List.tail hz;simpa using this
   have tl:∀{x:AV} {xs:List AV} {u:Value} {us:List Value},zaw w M ρ (x::xs) (u::us)->Rep w M ρ x u/\zaw w M ρ xs us:=by
    intro x xs u us h;exact⟨h.2 0 x u rfl rfl,by simpa using h.1,λj p q hp hq=>h.2 (j+1) p q (by simpa using hp) (by simpa using hq)⟩
   cases us with
   |nil=>
    have hl:=hx.1;cases xs with
    |nil=>cases k<;>simp[zhb]at he
    |cons _ _=>simp at hl
   |cons u us=>
   cases vs with
   |nil=>
    have hl:=hy.1;cases ys with
    |nil=>cases xs<;>cases k<;>(try rename_i a _;cases a)<;>simp[zhb]at he
    |cons _ _=>simp at hl
   |cons v vs=>
   cases xs with
   |nil=>have hl:=hx.1;simp at hl
   |cons x xs=>
   cases ys with
   |nil=>have hl:=hy.1;simp at hl
   |cons y ys=>
   obtain⟨hX1,hX2⟩:=take1 hX;obtain⟨hY1,hY2⟩:=take1 hY;obtain⟨rx,hx2⟩:=tl hx;obtain⟨ry,hy2⟩:=tl hy;split at hk
   ·rename_i k0 hu;simp at hk;subst hk;cases x<;>try (simp[zhb]at he;done)
    cases y<;>try (simp[zhb]at he;done)
    rename_i k1 m k2 n;rw[zhb]at he;have hk2:=(zac he).1;replace he:=(zac he).2;obtain⟨e1,e2⟩:=hk2;subst e1;subst e2;rw[qX]at he;obtain⟨r',hr',he⟩:=he;simp only[qZ]at he;rw[zbi rx]at hX1;rw[zbi ry]at hY1;have hrec:=ih (i+1) ks xs ys us vs r' hr hX2 hY2 hx2 hy2 hr';simp only[Op.eqFields,hname,ne_eq,not_false_eq_true,if_true,Sem.run_bind,hoff,zds hu hX1,zds hu hY1,Result.andThen_ok];rw[run_equalIn_int w' d f.type _ _ _ _ hu];simp only[Result.andThen_ok];rw[<-he];cases hb:(m == n)with
    |true=>
     simp only[xU,qB,if_false];rw[hrec];simp
    |false=>simp
   ·rename_i hu;simp at hk;subst hk;cases x<;>try (simp[zhb]at he;done)
    cases y<;>try (simp[zhb]at he;done)
    rename_i m n;rw[zhb]at he;rw[qX]at he;obtain⟨r',hr',he⟩:=he;simp only[qZ]at he;rw[zej rx]at hX1;rw[zej ry]at hY1;have hrec:=ih (i+1) ks xs ys us vs r' hr hX2 hY2 hx2 hy2 hr'
    have pb:∀{Z:Array Value} {z:Value},Z[i]?=some z->(part f.type Z i).run P w'= .ok z w':=by
     intro Z z hz;have:(isAgg f.type).run P w'= .ok false w':=zoi (by simp[zrj,hu]);simp[part,this,hz]
    simp only[Op.eqFields,hname,ne_eq,not_false_eq_true,if_true,Sem.run_bind,hoff,pb hX1,pb hY1,Result.andThen_ok];rw[run_equalIn_bool' w' d f.type _ _ hu];simp only[Result.andThen_ok];rw[<-he];cases hb:(m == n)with
    |true=>
     simp only[xU,qB,if_false];rw[hrec];simp
    |false=>simp
   ·simp at hk
  ·simp at hk
theorem zth{t:TypeId}{ks:List (Option IntKind)}(ht:zsy P t=some ks){xs ys:List AV}{us vs:Array Value}{r:Bool}(h:zhb ks xs ys=some r){M:Nat->Prop}
  (hx:zaw w M ρ xs us.toList) (hy:zaw w M ρ ys vs.toList) (w':World):(Op.equal t (.agg us) (.agg vs)).run P w'= .ok r w':=by
 unfold zsy at ht;split at ht
 ·rename_i fields hu;split at ht
  ·simp at ht
  ·rename_i hno;rw[not_or]at hno;have hf:P.fieldsOf t=fields:=by simp[Program.fieldsOf,hu]
   have:=run_equalIn_struct (P:=P) w' 9999 t us vs (by rw[hf];exact hu) (by simpa using hno.1);refine this.trans ?_;rw[hf];exact zos 9998 w' us vs fields.toList 0 ks xs ys us.toList vs.toList r ht rfl rfl hx hy h
 ·simp only[qO]at ht;obtain⟨ks0,ht,rfl⟩:=ht;rw[qfe]at h;exact(zgl ht h hx hy w').1
theorem zyn{t:TypeId}{ks:List (Option IntKind)}(ht:zsy P t=some ks):P.eqGuardType P.depth t=false:=by
 unfold zsy at ht;split at ht
 ·split at ht
  ·simp at ht
  ·rename_i hno;rw[not_or]at hno;simpa using hno.2
 ·simp only[qO]at ht;obtain⟨ks0,ht,rfl⟩:=ht;exact qfd ht
theorem zot{M:Nat->Prop}{cs:List AV}{u:Value}(h:Rep w M ρ (.agg cs) u):∃us:Array Value,u= .agg us/\zaw w M ρ cs us.toList:=by
 obtain⟨vs,rfl,hl,hr⟩:=zjx h;exact⟨vs,rfl,by simpa using hl,λj a v h1 h2=>hr j a v h1 (by simpa using h2)⟩
theorem zti(ho:HOK Γ w F ρ H)(he:∀t,Rep w (Mu F ρ) ρ (E t) (a.tmps.getD t undef)){neg:Bool}{ty ty':TypeId}{ks:List (Option IntKind)}{x y:Operand}{x' y':Opd}{xs ys:List AV}{r:Bool}
  (hty:zsy P ty=some ks) (hx:cOpd Γ x=some x') (hy:cOpd Γ y=some y') (hop:o.op= .binOp (if neg then .neq else .eql) ty x y ty')
  (hs:val E x'= .agg xs) (ht:val E y'= .agg ys) (h:zhb ks xs ys=some r):Snd P Γ o a w F ρ n0 (.bool (if neg then !r else r)) H []:=by
 have h1:=zah ho he hx;have h2:=zah ho he hy;rw[hs]at h1;rw[ht]at h2;obtain⟨us,e1,r1⟩:=zot h1;obtain⟨vs,e2,r2⟩:=zot h2;have hg:=run_eqGuard_agg (P:=P) w (if neg then .neq else .eql) ty x y us vs (zyn hty);have hq:=zth hty h r1 r2 w;unfold Op.equal Op.maxDepth at hq;refine zam ho (v':= .bool (if neg then !r else r)) ?_ (.imm _ _ (.bool _));cases neg
 ·simp[execOp,hop,e1,e2]at hg ⊢;rw[hg];simp[run_eql_struct,hq]
 ·simp[execOp,hop,e1,e2]at hg ⊢;rw[hg];simp[run_neq_struct,hq]
theorem zjc(ho:HOK Γ w F ρ H)(he:∀t,Rep w (Mu F ρ) ρ (E t) (a.tmps.getD t undef)){neg:Bool}{ty ty' el:TypeId}{x:Operand}{x':Opd}{r:Bool}
  (hty:P.underlying ty=some (.pointer el)) (hx:cOpd Γ x=some x') (hop:o.op= .binOp (if neg then .neq else .eql) ty x (.const (.pointer none)) ty')
  (hv:(∃id off,val E x'= .ptr id off/\r=neg)\/(∃cs p,val E x'= .iptr cs p/\r=neg)\/(∃cs,val E x'= .clo 131072 cs/\r=!neg)):Snd P Γ o a w F ρ n0 (.bool r) H []:=by
 have h1:=zah ho he hx
 have hp:∃q,a.eval x= .pointer q/\r=if neg then q.isSome else q.isNone:=by
  rcases hv with⟨id,off,hv,hr⟩ | ⟨cs,p,hv,hr⟩ | ⟨cs,hv,hr⟩
  ·rw[hv]at h1;obtain⟨b,e1,_⟩:=zoj h1;exact⟨_,e1,by rw[hr];cases neg<;>rfl⟩
  ·rw[hv]at h1;obtain⟨b,off,vs,e1,_⟩:=zhd h1;exact⟨_,e1,by rw[hr];cases neg<;>rfl⟩
  ·rw[hv]at h1;exact⟨none,qsp h1,by rw[hr];cases neg<;>rfl⟩
 obtain⟨q,e1,hr⟩:=hp;refine zam ho (v':= .bool r) ?_ (.imm _ _ (.bool _))
 have key:∀d,(Op.equalIn (d+1) ty (.pointer q) (.pointer none)).run P w= .ok q.isNone w:=by
  intro d;simp only[Op.equalIn,Sem.run_bind,zal hty,Result.andThen_ok];cases q<;>rfl
 have key':=key 9999;cases neg
 ·simp at hr;have e0:a.eval (.const (.pointer none))= .pointer none:=rfl;simp[execOp,hop,e1,e0,eqGuard,binOp,Op.equal,Op.maxDepth];rw[key'];simp[hr]
 ·simp at hr;have e0:a.eval (.const (.pointer none))= .pointer none:=rfl;simp[execOp,hop,e1,e0,eqGuard,binOp,Op.equal,Op.maxDepth];rw[key'];simp[hr]
end
section
variable{P:Program}{Γ:Glob}{E:Env}{a:Act}{w:World}{F:Nat->Prop}{ρ:Nat->RS}{H:Heap}{n0 fresh:Nat}{o:Oper}{v:AV}{e:Eff}{rd:List Nat}
theorem zvs{ks:List IntKind}{kk:List AV}{i:Nat}{cs:List AV}{r:Option Nat}(h:zku ks kk i cs=some r):∃b,zcv ks kk kk=some b:=by
 unfold zku at h;split at h
 ·split at h
  ·rename_i h1;exact zrq h1
  ·rename_i h1;exact zrq h1
  ·simp at h
 ·rw[qX]at h;obtain⟨b,hb,_⟩:=h;exact⟨b,hb⟩
 ·simp at h
theorem zrd{kt:TypeId}{ks:List IntKind}(hk:zmk P kt=some ks){kk:List AV}{us:Array Value}{M:Nat->Prop}(hus:zaw w M ρ kk us.toList)(w':World):
  ∀(l:List MapEntry) (cs:List AV) (i:Nat) (r:Option Nat),cs.length=2*l.length->
   (∀(j:Nat) (e:MapEntry),l[j]?=some e->∃k v,cs[2*j]?=some k/\cs[2*j+1]?=some v/\Rep w M ρ k e.key/\Rep w M ρ v e.val)->zku ks kk i cs=some r->
   (r=none->(Instr.findAsking kt (.agg us) l i).run P w'= .ok none w')/\
   (∀j,r=some j->i<=j/\∃e,l[j-i]?=some e/\(Instr.findAsking kt (.agg us) l i).run P w'= .ok (some (j,e.val)) w'/\e.key= .agg us):=by
 intro l
 induction l with
 |nil=>
  intro cs i r hl _ h;have:cs=[]:=List.length_eq_zero_iff.1 (by simpa using hl);subst this;unfold zku at h;rw[qX]at h;obtain⟨b,_,h⟩:=h;simp only[qZ]at h;subst h;exact⟨λ_=>by simp[Instr.findAsking],λj hj=>by simp at hj⟩
 |cons e l ih=>
  intro cs i r hl hrep h;cases cs with
  |nil=>simp at hl
  |cons k0 cs=>
   cases cs with
   |nil=>simp at hl;omega
   |cons v0 cs=>
    obtain⟨k,v,g1,g2,g3,g4⟩:=hrep 0 e rfl;simp at g1 g2;subst g1 g2;cases k0<;>try (simp[zku]at h;done)
    case agg kc=>
     simp only[zku]at h;obtain⟨vs,ev,rv⟩:=zot g3;split at h
     ·rename_i hq;simp only[qZ]at h;subst h;obtain⟨q1,q2⟩:=zgl hk hq hus rv w';refine⟨λhh=>by simp at hh,λj hj=>?_⟩;simp only[qZ]at hj;subst hj;refine⟨qA _,e,by simp,?_,by rw[ev,q2 rfl]⟩;simp[Instr.findAsking,ev,q1]
     ·rename_i hq;obtain⟨q1,_⟩:=zgl hk hq hus rv w'
      obtain⟨z1,z2⟩:=ih cs (i+1) r (by simp at hl;omega) (λj e' he'=>by
       obtain⟨k,v,f1,f2,f3,f4⟩:=hrep (j+1) e' (by simpa using he');exact⟨k,v,by simpa[Nat.mul_add]using f1,by simpa[Nat.mul_add]using f2,f3,f4⟩) h
      have hrun:(Instr.findAsking kt (.agg us) (e::l) i).run P w'=(Instr.findAsking kt (.agg us) l (i+1)).run P w':=by
       simp[Instr.findAsking,ev,q1]
      refine⟨λhh=>by rw[hrun];exact z1 hh,λj hj=>?_⟩;obtain⟨y1,e',y2,y3,y4⟩:=z2 j hj;refine⟨by omega,e',?_,by rw[hrun];exact y3,y4⟩;have:j-i=(j-(i+1))+1:=by omega
      rw[this];simpa using y2
     ·simp at h
theorem zhw{kt el:TypeId}{n:Nat}{ks:List IntKind}(hkt:P.underlying kt=some (.array n el))(hk:zmk P kt=some ks){kk:List AV}{us:Array Value}{M:Nat->Prop}(hus:zaw w M ρ kk us.toList)(w':World)
  (l:List MapEntry) (cs:List AV) (r:Option Nat) (hl:cs.length=2*l.length)
  (hrep:∀(j:Nat) (e:MapEntry),l[j]?=some e->∃k v,cs[2*j]?=some k/\cs[2*j+1]?=some v/\Rep w M ρ k e.key/\Rep w M ρ v e.val) (h:zku ks kk 0 cs=some r):
   (r=none->(Instr.findKey kt (.agg us) l).run P w'= .ok none w')/\
   (∀j,r=some j->∃e,l[j]?=some e/\(Instr.findKey kt (.agg us) l).run P w'= .ok (some (j,e.val)) w'/\e.key= .agg us):=by
 obtain⟨z1,z2⟩:=zrd hk hus w' l cs 0 r hl hrep h
 have hnow:(Instr.findKey kt (.agg us) l).run P w'=(Instr.findAsking kt (.agg us) l).run P w':=by
  cases l with
  |nil=>simp[Instr.findKey,zal hkt,Instr.findNow,Instr.findAsking]
  |cons e l=>simp[Instr.findKey,zal hkt,Instr.findNow,Instr.sameNow]
 refine⟨λhh=>by rw[hnow];exact z1 hh,λj hj=>?_⟩;obtain⟨_,e,y2,y3,y4⟩:=z2 j hj;exact⟨e,by simpa using y2,by rw[hnow];exact y3,y4⟩
theorem zgp{kt el:TypeId}{n:Nat}{ks:List IntKind}(hkt:P.underlying kt=some (.array n el))(hk:zmk P kt=some ks){kk:List AV}{us:Array Value}{M:Nat->Prop}(hus:zaw w M ρ kk us.toList)
  {b:Bool} (hq:zcv ks kk kk=some b) (em:Bool) (w':World):(Instr.checkKey em 10000 kt (.agg us)).run P w'= .ok () w':=by
 obtain⟨ms,_,l1,_,e1,_,_⟩:=zmm ks kk kk us.toList us.toList b hq hus hus;unfold zmk at hk;simp only[hkt]at hk;split at hk
 ·simp at hk
 ·split at hk
  ·rename_i k hel hsz;simp only[qZ]at hk;subst hk;simp only[xG]at l1;obtain⟨inf,hi,hs⟩:=zrr hsz;show(Instr.checkKey em (9999+1) kt (.agg us)).run P w'=_
   unfold Instr.checkKey;simp only[Sem.run_bind,zal hkt,Result.andThen_ok];simp only[Std.Legacy.Range.forIn_eq_forIn_range',Std.Legacy.Range.size,Nat.sub_zero,Nat.add_one_sub_one,Nat.div_one]
   have key:∀(c i:Nat),i+c=n->(forIn (List.range' i c) PUnit.unit (λi (_:PUnit)=>do Instr.checkKey em 9999 el (<-part el us (i*(<-sizeOf el)));pure (ForInStep.yield PUnit.unit)):Sem PUnit).run P w'= .ok PUnit.unit w':=by
    intro c
    induction c with
    |zero=>intro i _;simp
    |succ c ih=>
     intro i hi';have hki:(List.replicate n k)[i]?=some k:=by simp[qL];omega
     have hxi:us[i]?=some (.int k (ms[i]'(by omega))):=by rw[<-Array.getElem?_toList,e1];exact zdr hki (by simp)
     rw[xB]
     have hc:∀u,(Instr.checkKey em 9999 el (.int k u)).run P w'= .ok () w':=by
      intro u;show(Instr.checkKey em (9998+1) el (.int k u)).run P w'=_
      unfold Instr.checkKey;simp[zal hel]
     rw[List.forIn_cons];simp only[Sem.run_bind,zcu hsz,Result.andThen_ok,yX,zds hel hxi,hc,Sem.run_pure];exact ih (i+1) (by omega)
   have:=key n 0 (by omega);rw[this];rfl
  ·simp at hk
theorem qjg(ho:HOK Γ w F ρ H){id:Nat}{u:Value}{cs:List AV}(h:Rep w (Mu F ρ) ρ (.clo 131074 [.ptr id 0]) u)(hg:getB H id=some cs)(hn:zgk cs=true):
  ∃b es,u= .map (some b)/\ρ id= .here b/\w.shape? b=none/\w.heap[b]?=some (.map es es.size)/\cs.length=2*es.size/\
   ∀(i:Nat) (e:MapEntry),es[i]?=some e->e.born=i/\∃k v,cs[2*i]?=some k/\cs[2*i+1]?=some v/\Rep w (Mu F ρ) ρ k e.key/\Rep w (Mu F ρ) ρ v e.val:=by
 obtain⟨b,rfl,hb⟩:=jyf h;obtain⟨b',hb',hblk⟩:=ho.at' hg;rcases hb with⟨hb,hs⟩ | hb
 ·rw[hb]at hb';simp at hb';subst hb';obtain⟨es,h1,h2,h3⟩:=hblk.map hs hn;exact⟨b,es,rfl,hb,hs,h1,h2,h3⟩
 ·rw[hb]at hb';simp at hb'
theorem qjh(ho:HOK Γ w F ρ H)(hfr:fresh<H.length)(hu:ρ fresh= .unborn){t:TypeId}(hop:o.op= .makeMap t none):
  Snd P Γ o a w F ρ n0 (.clo 131074 [.ptr fresh 0]) (zaf [(fresh,some [])] H) [fresh]:=by
 refine⟨.value (.map (some w.heap.size)),_,w.alloc (.map #[] 0),updR ρ fresh (.here w.heap.size),?_,.inl rfl,zog n0 ho hfr hu [] (.map #[] 0) (λ_=> .inr (.inl ⟨#[],by simp[World.alloc,-World.alloc_eq],rfl,by simp⟩)),?_⟩
 ·simp[execOp,hop,Instr.makeMap]
 ·exact .mapAt _ _ (by simp[updR]) (by simp[World.shape?,World.alloc,-World.alloc_eq])
theorem qji(ho:HOK Γ w F ρ H)(he:∀t,Rep w (Mu F ρ) ρ (E t) (a.tmps.getD t undef)){t kt el el':TypeId}{n:Nat}{ks:List IntKind}{x y:Operand}{x' y':Opd}{id:Nat}{kk cs:List AV}{z:AV}{r:Option Nat}
  (ht:P.underlying t=some (.map kt el)) (hkt:P.underlying kt=some (.array n el')) (hk:zmk P kt=some ks) {zi:TypeInfo} {zv:Value} (hzi:P.info? el=some zi) (hzv:zi.zero=some zv) (hz:ofV zv=some z)
  (hx:cOpd Γ x=some x') (hy:cOpd Γ y=some y') (hop:o.op= .lookup t x y false)
  (hv:val E x'= .clo 131074 [.ptr id 0]) (hkk:val E y'= .agg kk) (hg:getB H id=some cs) {u:AV} (hu:u=match r with | some i=>cs.getD (2*i+1) .junk | none=>z) (hr:zku ks kk 0 cs=some r):
  Snd P Γ o a w F ρ n0 u H []:=by
 subst hu;have h1:=zah ho he hx;have h2:=zah ho he hy;rw[hv]at h1;rw[hkk]at h2;obtain⟨us,e2,r2⟩:=zot h2;obtain⟨b,es,e1,hb,hs,hh,hl,hes⟩:=qjg ho h1 hg (qbw hr);obtain⟨bq,hq⟩:=zvs hr
 obtain⟨z1,z2⟩:=zhw hkt hk r2 w es.toList cs r (by simpa using hl) (λj e' he'=>by
  obtain⟨_,rest⟩:=hes j e' (by simpa using he');exact rest) hr
 have hck:=zgp hkt hk r2 hq es.isEmpty w;cases r with
 |none=>
  refine zam ho (v':=zv) ?_ (.imm _ _ (zol w _ hz));simp[execOp,hop,e1,e2,Instr.lookup,zal ht,MapKept.run_getObj_map hh,hck,z1 rfl,zge hzi hzv]
 |some i=>
  obtain⟨e',y1,y2,_⟩:=z2 i rfl;obtain⟨_,k0,v0,g1,g2,g3,g4⟩:=hes i e' (by simpa using y1);refine zam ho (v':=e'.val) ?_ ?_
  ·simp[execOp,hop,e1,e2,Instr.lookup,zal ht,MapKept.run_getObj_map hh,hck,y2]
  ·show Rep w (Mu F ρ) ρ (cs.getD (2*i+1) .junk) e'.val
   rw[List.getD_eq_getElem?_getD,g2];exact g4
theorem zyo{b:Nat}{es es':Array MapEntry}{c c':Nat}(hh:w.heap[b]?=some (.map es c)):Kept (λx=>x=b) w { w with heap:=w.heap.setIfInBounds b (.map es' c') }:=by
 have hlt:b<w.heap.size:=by
  rcases qV b w.heap.size with h' | h'
  ·exact h'
  ·rw[Array.getElem?_eq_none h']at hh;simp at hh
 have hget:∀x,(w.heap.setIfInBounds b (.map es' c'))[x]?=if x=b then some (.map es' c')else w.heap[x]?:=by
  intro x;rw[Array.getElem?_setIfInBounds];by_cases hx:x=b
  ·subst hx;simp[hlt]
  ·rw[if_neg (λh=>hx h.symm),if_neg hx]
 refine⟨by simp,λx _ hx=>?_,λx _=>?_,λx j _=>?_,rfl,rfl⟩
 ·show(w.heap.setIfInBounds b (.map es' c'))[x]?=_
  rw[hget,if_neg hx]
 ·unfold World.shape?;show(match (w.heap.setIfInBounds b (.map es' c'))[x]? with | some (.cells c elem _)=>some (elem,c.size) | _=>none)=_
  rw[hget];by_cases hx:x=b
  ·subst hx;rw[if_pos rfl,hh]
  ·rw[if_neg hx];rfl
 ·unfold World.frozen?;show(match (w.heap.setIfInBounds b (.map es' c'))[x]? with | some (.cells _ _ (lo,hi))=>lo<=j && j<hi | _=>false)=_
  rw[hget];by_cases hx:x=b
  ·subst hx;rw[if_pos rfl,hh]
  ·rw[if_neg hx];rfl
theorem zou(ho:HOK Γ w F ρ H){id b:Nat}{cs cs':List AV}{es es':Array MapEntry}(hb:ρ id= .here b)(hg:getB H id=some cs)(hh:w.heap[b]?=some (.map es es.size))(hl:cs'.length=2*es'.size)
  (hes:∀(i:Nat) (e:MapEntry),es'[i]?=some e->e.born=i/\∃k v,cs'[2*i]?=some k/\cs'[2*i+1]?=some v/\Rep w (Mu F ρ) ρ k e.key/\Rep w (Mu F ρ) ρ v e.val):
  After Γ F n0 ρ w ρ { w with heap:=w.heap.setIfInBounds b (.map es' es'.size) } (zaf [(id,some cs')] H) []:=by
 have hlt:b<w.heap.size:=by
  rcases qV b w.heap.size with h' | h'
  ·exact h'
  ·rw[Array.getElem?_eq_none h']at hh;simp at hh
 refine zoh n0 ho hb (zch hg) (zyo hh) (λhrr=> .inr (.inl ⟨es',by simp[hlt],hl,λi e he=>?_⟩));obtain⟨g0,k,v,g1,g2,g3,g4⟩:=hes i e he;exact⟨g0,k,v,g1,g2,hrr _ _ g3,hrr _ _ g4⟩
theorem ztj:∀(n:Nat) (ks:List IntKind) (ms:List Int),(((ks.zip ms).map (λx=>Value.int x.1 x.2)).zip ((ks.zip ms).map (λx=>Value.int x.1 x.2))).all (λ(x,y)=>Instr.sameBits n x y)=true:=by
 intro n ks ms;generalize ks.zip ms=l
 induction l with
 |nil=>rfl
 |cons p l ih=>simp only[xM,List.zip_cons_cons,List.all_cons,ih];simp[Instr.sameBits]
theorem zvt{ks:List IntKind}{kk:List AV}{us:Array Value}{M:Nat->Prop}(hus:zaw w M ρ kk us.toList){b:Bool}(hq:zcv ks kk kk=some b)(w':World):(Instr.keyThatStays (.agg us) (.agg us)).run P w'= .ok (.agg us) w':=by
 obtain⟨ms,_,l1,_,e1,_,_⟩:=zmm ks kk kk us.toList us.toList b hq hus hus
 have:Instr.sameBits 10000 (.agg us) (.agg us)=true:=by
  show Instr.sameBits (9999+1) (.agg us) (.agg us)=true
  unfold Instr.sameBits;rw[e1];simp only[beq_self_eq_true,Bool.true_and];exact ztj _ _ _
 simp[Instr.keyThatStays,this]
theorem qff(ho:HOK Γ w F ρ H)(he:∀t,Rep w (Mu F ρ) ρ (E t) (a.tmps.getD t undef)){t kt el el':TypeId}{n:Nat}{ks:List IntKind}{x y:Operand}{x' y':Opd}{id:Nat}{kk cs:List AV}{z:AV}{r:Option Nat}
  (ht:P.underlying t=some (.map kt el)) (hkt:P.underlying kt=some (.array n el')) (hk:zmk P kt=some ks) {zi:TypeInfo} {zv:Value} (hzi:P.info? el=some zi) (hzv:zi.zero=some zv) (hz:ofV zv=some z)
  (hx:cOpd Γ x=some x') (hy:cOpd Γ y=some y') (hop:o.op= .mapEntry t x y)
  (hv:val E x'= .clo 131074 [.ptr id 0]) (hkk:val E y'= .agg kk) (hg:getB H id=some cs) (hr:zku ks kk 0 cs=some r):
  (∀i,r=some i->Snd P Γ o a w F ρ n0 (.tup [cs.getD (2*i+1) .junk,.int .i64 i]) (zaf [(id,some cs)] H) [])/\
  (r=none->Snd P Γ o a w F ρ n0 (.tup [z,.int .i64 (cs.length/2:Nat)]) (zaf [(id,some (cs++[.agg kk,z]))] H) []):=by
 have h1:=zah ho he hx;have h2:=zah ho he hy;rw[hv]at h1;rw[hkk]at h2;have h2':=h2;obtain⟨us,e2,r2⟩:=zot h2;obtain⟨b,es,e1,hb,hs,hh,hl,hes⟩:=qjg ho h1 hg (qbw hr);obtain⟨bq,hq⟩:=zvs hr
 obtain⟨z1,z2⟩:=zhw hkt hk r2 w es.toList cs r (by simpa using hl) (λj e' he'=>by
  obtain⟨_,rest⟩:=hes j e' (by simpa using he');exact rest) hr
 have hck:=zgp hkt hk r2 hq false w;refine⟨λi hi=>?_,λhi=>?_⟩
 ·obtain⟨e',y1,y2,y3⟩:=z2 i hi;have y1':es[i]?=some e':=by simpa using y1
  obtain⟨hborn,k0,v0,g1,g2,g3,g4⟩:=hes i e' y1'
  have hmod:es.modify i (λe=>{ e with key:= .agg us })=es:=by
   apply Array.ext_getElem?;intro j;rw[Array.getElem?_modify];split
   ·rename_i hij;subst hij;rw[y1'];simp[<-y3]
   ·rfl
  have hA:=zou (n0:=n0) ho hb hg hh hl hes;refine⟨.value (.tuple #[e'.val,goInt i]),_,_,ρ,?_,.inl rfl,hA,?_⟩
  ·simp[execOp,hop,e1,e2,Instr.mapEntry,zal ht,MapKept.run_getObj_map hh,hck,y2,y1',y3,zvt r2 hq,hmod,MapKept.run_setObj_map _ hh,hborn]
  ·refine(Rep.tup _ _ rfl (λj p q hp hq=>?_):Rep w (Mu F ρ) ρ _ _).after ho hA
   match j with
   |0=>
    simp at hp hq;subst hp hq
    show Rep w (Mu F ρ) ρ (cs[2*i+1]?.getD .junk) e'.val
    rw[g2];exact g4
   |1=>simp at hp hq;subst hp hq;exact .imm _ _ (.int _ _)
   |j+2=>simp at hp
 ·have hrr:After Γ F n0 ρ w ρ { w with heap:=w.heap.setIfInBounds b (.map (es.push { key:= .agg us,val:=zv,born:=es.size }) (es.size+1)) } (zaf [(id,some (cs++[.agg kk,z]))] H) []:=by
   have:=zou (n0:=n0) (es':=es.push { key:= .agg us,val:=zv,born:=es.size }) (cs':=cs++[.agg kk,z]) ho hb hg hh (by simp;omega) (λi e' he'=>by
    rw[Array.getElem?_push]at he';split at he'
    ·rename_i hi;simp at he';subst he';refine⟨hi.symm,.agg kk,z,by rw[hi,<-hl,qU (qA _)];simp,by rw[hi,<-hl,qU (by omega)];simp,by rw[<-e2];exact h2',.imm _ _ (zol w _ hz)⟩
    ·have hlt:i<es.size:=by
      rcases qV i es.size with h' | h'
      ·exact h'
      ·rw[Array.getElem?_eq_none h']at he';simp at he'
     obtain⟨g0,k,v,g1,g2,g3,g4⟩:=hes i e' he';exact⟨g0,k,v,by rw[qY (by omega)];exact g1,by rw[qY (by omega)];exact g2,g3,g4⟩)
   simpa using this
  have hc2:cs.length/2=es.size:=by omega
  refine⟨.value (.tuple #[zv,goInt es.size]),_,_,ρ,?_,.inl rfl,hrr,?_⟩
  ·simp[execOp,hop,e1,e2,Instr.mapEntry,zal ht,MapKept.run_getObj_map hh,hck,z1 hi,zge hzi hzv,MapKept.run_setObj_map _ hh]
  ·rw[hc2];refine(Rep.tup _ _ rfl (λj p q hp hq=>?_):Rep w (Mu F ρ) ρ _ _).after ho hrr
   match j with
   |0=>simp at hp hq;subst hp hq;exact .imm _ _ (zol w _ hz)
   |1=>simp at hp hq;subst hp hq;exact .imm _ _ (.int _ _)
   |j+2=>simp at hp
theorem qfg(ho:HOK Γ w F ρ H)(he:∀t,Rep w (Mu F ρ) ρ (E t) (a.tmps.getD t undef)){t:TypeId}{x s y:Operand}{x' s' y':Opd}{id:Nat}{cs:List AV}{k:IntKind}{n:Int}
  (hx:cOpd Γ x=some x') (hsx:cOpd Γ s=some s') (hy:cOpd Γ y=some y') (hop:o.op= .entryStore t x s y)
  (hv:val E x'= .clo 131074 [.ptr id 0]) (hn:val E s'= .int k n) (hg:getB H id=some cs) (hn0:0<=n) (hlt:2*n.toNat+1<cs.length) (hnl:zgk cs=true):
  Snd P Γ o a w F ρ n0 .junk (zaf [(id,some (cs.set (2*n.toNat+1) (val E y')))] H) []:=by
 have h1:=zah ho he hx;have h2:=zah ho he hsx;have h3:=zah ho he hy;rw[hv]at h1;rw[hn]at h2;have e2:=zbi h2;obtain⟨b,es,e1,hb,hs,hh,hl,hes⟩:=qjg ho h1 hg hnl;have hns:n.toNat<es.size:=by omega
 have hfind:es.findIdx? (λe=>(e.born:Int) == n)=some n.toNat:=by
  rw[Array.findIdx?_eq_some_iff_getElem];refine⟨hns,?_,λj hj=>?_⟩
  ·have:=(hes n.toNat es[n.toNat] (by simp[hns])).1;rw[this];simp;omega
  ·have:=(hes j es[j] (by simp)).1;rw[this];simp;omega
 have hA:=zou (n0:=n0) (es':=es.modify n.toNat λe=>{ e with val:=a.eval y }) (cs':=cs.set (2*n.toNat+1) (val E y')) ho hb hg hh (by simpa using hl) (λi e' he'=>by
  rw[Array.getElem?_modify]at he';split at he'
  ·rename_i hi;subst hi;cases hq:es[n.toNat]? with
   |none=>rw[hq]at he';simp at he'
   |some e0=>
    rw[hq]at he';simp at he';subst he';obtain⟨g0,k,v,g1,g2,g3,g4⟩:=hes _ e0 hq;exact⟨g0,k,val E y',by rw[qJ (by omega)];exact g1,by rw[qW hlt],g3,h3⟩
  ·rename_i hi;obtain⟨g0,k,v,g1,g2,g3,g4⟩:=hes i e' he';exact⟨g0,k,v,by rw[qJ (by omega)];exact g1,by rw[qJ (by omega)];exact g2,g3,g4⟩)
 refine⟨.skip,undef,_,ρ,?_,.inr ⟨rfl,rfl⟩,by simpa using hA,.imm _ _ (.junk _)⟩;simp[execOp,hop,e1,e2,Instr.entryStore,MapKept.run_getObj_map hh,hfind,MapKept.run_setObj_map _ hh,asInt,asIntOf]
end
section
variable{P:Program}{Γ:Glob}{E:Env}{a:Act}{w:World}{F:Nat->Prop}{ρ:Nat->RS}{H:Heap}{n0 fresh:Nat}{o:Oper}{v:AV}{e:Eff}{rd:List Nat}
theorem qtb(ho:HOK Γ w F ρ H)(he:∀t,Rep w (Mu F ρ) ρ (E t) (a.tmps.getD t undef)){cl:Call}{t el:TypeId}{sz id off n m:Nat}{c:Option Nat}{d s:Operand}{d' s':Opd}{cs xs:List AV}
  (hop:o.op= .call cl) (hc:cl.callee= .builtin .copy) (hargs:cl.args.toList=[d,s]) (h0:cl.argTypes[0]?=some t) (ht:P.underlying t=some (.slice el)) (hz:szT P el=some sz)
  (hd:cOpd Γ d=some d') (hs:cOpd Γ s=some s') (hv:val E d'= .sl id off n sz c) (hg:getB H id=some cs) (hm:lenA (val E s')=some m) (hxs:zdz H sz (min m n) (val E s')=some (xs,rd))
  (hl:off+n*sz<=cs.length) (hsc:AV.scalL xs=true):Snd P Γ o a w F ρ n0 (.int .i64 (min m n:Nat)) (zaf [(id,some (setL cs off xs))] H) []:=by
 have ha:cl.args= #[d,s]:=by rw[<-Array.toArray_toList (xs:=cl.args),hargs]
 have rd1:=zah ho he hd;have rs:=zah ho he hs;rw[hv]at rd1;obtain⟨ad2,c2,ex,hmc⟩:=zte hm rs (zjz hxs);obtain⟨news,hnews,hnl,hnrow⟩:=zfw (P:=P) ho hxs rs;obtain⟨b,cap,es,hn,_,hbb⟩:=zfd rd1;obtain⟨b2,el2,mm,hb2,hsh,hlen,hfz,hcells⟩:=ho.at hg (qey rd1)
 have hb:b=b2:=by
  rcases hbb with hd | ⟨hd,_⟩
  ·rw[hb2]at hd;simp at hd
  ·rw[hb2]at hd;simp at hd;exact hd.symm
 subst hb;have hxl:=zvr hxs;have hmul:min m n*sz<=n*sz:=qC _ (Nat.min_le_right _ _);obtain⟨w',hst,hA⟩:=zew (P:=P) (n0:=n0) (p:=off) news xs 0 w H cs ho hb2 ⟨_,hsh⟩ (zch hg) (by omega) (by omega) hsc (λj x y hx hy=>hnrow.2 j x y hx hy);refine⟨_,_,w',ρ,?_,.inl rfl,hA,.imm _ _ (.int _ _)⟩;have hnw:=hnews w rfl;rw[ex]at hnw;have hmin:Nat.min m n=min m n:=rfl;simp[execOp,hop,resolve,hc,ha,invoke,builtin,Builtin.copy_,h0,zal ht,es,ex,Builtin.lenOf,zcu hz,hmin,hnw,hst,goInt]
theorem qtc{fn:Func}(h:fn.name= "math/bits.Add64"):Extern.find fn=some add64Entry:=by
 unfold Extern.find;rw[h];have h1:Extern.allGenericRows.lookup "math/bits.Add64" = none:=by kernel_rfl
 have h2:Extern.allTypedRows.lookup "math/bits.Add64" = none:=by kernel_rfl
 have h3:Extern.allRows.lookup "math/bits.Add64" = some add64Entry:=by kernel_rfl
 simp only[h1,h2,h3];rfl
def zjd:Array Value->Sem Value:=λargs=>do
 let (x,y,b) <-Extern.MathBitsCarry.three "Sub64" args
 pure (Extern.MathBitsCarry.pair ((x+Extern.MathBitsCarry.m64-y-b)%Extern.MathBitsCarry.m64) (if x<y+b then 1 else 0))
theorem qtd{fn:Func}(h:fn.name= "math/bits.Sub64"):Extern.find fn=some zjd:=by
 unfold Extern.find;rw[h];have h1:Extern.allGenericRows.lookup "math/bits.Sub64" = none:=by kernel_rfl
 have h2:Extern.allTypedRows.lookup "math/bits.Sub64" = none:=by kernel_rfl
 have h3:Extern.allRows.lookup "math/bits.Sub64" = some zjd:=by kernel_rfl
 simp only[h1,h2,h3];rfl
theorem qfh(x y c:Nat)(hb:c<=1)(w:World):
  (add64Entry #[.int .u64 x,.int .u64 y,.int .u64 c]).run P w=
   .ok (.tuple #[.int .u64 (((x+y+c)%18446744073709551616:Nat):Int),.int .u64 (((x+y+c)/18446744073709551616:Nat):Int)]) w:=by
 have:c=0\/c=1:=by omega
 rcases this with rfl | rfl<;>rfl
theorem qfi(x y b:Nat)(hb:b<=1)(w:World):
  (zjd #[.int .u64 x,.int .u64 y,.int .u64 b]).run P w=
   .ok (.tuple #[.int .u64 (((x+18446744073709551616-y-b)%18446744073709551616:Nat):Int),.int .u64 ((if x<y+b then 1 else 0:Nat):Int)]) w:=by
 have:b=0\/b=1:=by omega
 rcases this with rfl | rfl<;>rfl
theorem zvu{f:FuncId}{b:Bool}(h:zsz P f=some b):∃fn,P.funcs[f]?=some fn/\fn.body.isNone=true/\Extern.findNext fn=none/\(fn.name == "runtime.NumGoroutine")=false/\Extern.find fn=some (if b then zjd else add64Entry):=by
 unfold zsz at h;split at h
 ·rename_i fn hf;split at h
  ·rename_i hb;simp only[qP]at hb;have h2:Extern.findNext fn=none:=by simpa using hb.2
   split at h
   ·rename_i hn;simp at h;subst h;exact⟨fn,hf,hb.1,h2,by rw[hn];kernel_rfl,qtc hn⟩
   ·split at h
    ·rename_i hn;simp at h;subst h;exact⟨fn,hf,hb.1,h2,by rw[hn];kernel_rfl,qtd hn⟩
    ·simp at h
  ·simp at h
 ·simp at h
theorem qte(ho:HOK Γ w F ρ H)(he:∀t,Rep w (Mu F ρ) ρ (E t) (a.tmps.getD t undef)){cl:Call}{f:FuncId}{b:Bool}{x y z:Operand}{x' y' z':Opd}{m n d:Int}
  (hop:o.op= .call cl) (hc:cl.callee= .value (.func f)) (hargs:cl.args.toList=[x,y,z]) (hf:zsz P f=some b)
  (hx:cOpd Γ x=some x') (hy:cOpd Γ y=some y') (hz:cOpd Γ z=some z') (h1:val E x'= .int .u64 m) (h2:val E y'= .int .u64 n) (h3:val E z'= .int .u64 d) (hm:0<=m/\0<=n/\0<=d/\d<=1):
  Snd P Γ o a w F ρ n0 (.tup (if b then[.int .u64 ((m.toNat+18446744073709551616-n.toNat-d.toNat)%18446744073709551616:Nat),.int .u64 (if m.toNat<n.toNat+d.toNat then 1 else 0:Nat)]
     else[.int .u64 ((m.toNat+n.toNat+d.toNat)%18446744073709551616:Nat),.int .u64 ((m.toNat+n.toNat+d.toNat)/18446744073709551616:Nat)])) H []:=by
 have ha:cl.args= #[x,y,z]:=by rw[<-Array.toArray_toList (xs:=cl.args),hargs]
 have r1:=zah ho he hx;have r2:=zah ho he hy;have r3:=zah ho he hz;rw[h1]at r1;rw[h2]at r2;rw[h3]at r3;obtain⟨m,rfl⟩:=qM hm.1;obtain⟨n,rfl⟩:=qM hm.2.1;obtain⟨d,rfl⟩:=qM hm.2.2.1;have hd:d<=1:=by omega
 obtain⟨fn,g1,g2,g3,g4,g5⟩:=zvu hf;have hfe:a.eval (.func f)= .func (.func f) #[] #[]:=rfl;have hbn:fn.body=none:=by simpa using g2
 have g4':fn.name≠ "runtime.NumGoroutine" := by simpa using g4
 cases b with
 |true=>
  refine zam ho (v':= .tuple #[.int .u64 (((m+18446744073709551616-n-d)%18446744073709551616:Nat):Int),.int .u64 ((if m<n+d then 1 else 0:Nat):Int)]) ?_ (.imm _ _ (.tup _ _ (by simp) (λj x v hx hv=>?_)))
  ·simp[execOp,hop,resolve,hc,ha,hfe,Deferred.ofValue,invoke,callFunc,program,Sem.run,g1,hbn,g3,g4',g5,zbi r1,zbi r2,zbi r3,qfi m n d hd]
  ·match j with
   |0=>simp at hx hv;subst hx hv;exact .int _ _
   |1=>simp at hx hv;subst hx hv;exact .int _ _
   |j+2=>simp at hx
 |false=>
  refine zam ho (v':= .tuple #[.int .u64 (((m+n+d)%18446744073709551616:Nat):Int),.int .u64 (((m+n+d)/18446744073709551616:Nat):Int)]) ?_ (.imm _ _ (.tup _ _ (by simp) (λj x v hx hv=>?_)))
  ·simp[execOp,hop,resolve,hc,ha,hfe,Deferred.ofValue,invoke,callFunc,program,Sem.run,g1,hbn,g3,g4',g5,zbi r1,zbi r2,zbi r3,qfh m n d hd]
  ·match j with
   |0=>simp at hx hv;subst hx hv;exact .int _ _
   |1=>simp at hx hv;subst hx hv;exact .int _ _
   |j+2=>simp at hx
theorem qjj(ho:HOK Γ w F ρ H){H':Heap}{v':Value}(hr:(execOp a.eval o).run P w= .ok (.value v') w)(h:Rep w (Mu F ρ) ρ v v')(hH:H'=H):Snd P Γ o a w F ρ n0 v H' []:=by
 subst hH;exact zam ho hr h
theorem qjk(ho:HOK Γ w F ρ H)(he:∀t,Rep w (Mu F ρ) ρ (E t) (a.tmps.getD t undef)){cl:Call}{t el:TypeId}{sz:Nat}{z:List AV}{x:Operand}{x':Opd}{H':Heap}
  (hop:o.op= .call cl) (hc:cl.callee= .builtin .clear) (hargs:cl.args.toList=[x]) (h0:cl.argTypes[0]?=some t) (ht:P.underlying t=some (.slice el)) (hz:zks P el=some z) (hx:cOpd Γ x=some x')
  (hv:(∃cs c,val E x'= .vec cs 0 c/\H'=H)\/(∃id off n c cs,val E x'= .sl id off n sz c/\getB H id=some cs/\z.length=sz/\0<sz/\off+n*sz<=cs.length/\AV.scalL (zgn n z)=true/\H'=H.set id (some (setL cs off (zgn n z))))):
  Snd P Γ o a w F ρ n0 .junk H' []:=by
 have ha:cl.args= #[x]:=by rw[<-Array.toArray_toList (xs:=cl.args),hargs]
 have r1:=zah ho he hx;rcases hv with⟨cs,c,hv,rfl⟩ | ⟨id,off,n,c,cs,hv,hg,hzl,hsz,hle,hsc,rfl⟩
 ·rw[hv]at r1;obtain⟨ad2,c2,ex,hmc⟩:=zte (m:=0) (x:= .vec cs 0 c) rfl r1 (by intro s h;simp at h);refine zam ho (v':= .tuple #[]) ?_ (.imm _ _ (.junk _));cases ad2<;>simp[execOp,hop,resolve,hc,ha,invoke,builtin,Builtin.clear_,h0,zal ht,ex]
 ·rw[hv]at r1;obtain⟨b,cap,es,hn,_,hbb⟩:=zfd r1;obtain⟨b2,el2,mm,hb2,hsh,hlen,hfz,hcells⟩:=ho.at hg (qey r1)
  have hb:b=b2:=by
   rcases hbb with hd | ⟨hd,_⟩
   ·rw[hb2]at hd;simp at hd
   ·rw[hb2]at hd;simp at hd;exact hd.symm
  subst hb;obtain⟨zv,i,hi,hiz,hrow⟩:=zjb hz;have hrw:=zkz n (by omega) (hrow w (Mu F ρ) ρ);rw[<-zky]at hrw;have hzs:zv.cells.size=z.length:=by have:=(hrow w (Mu F ρ) ρ).1;simpa using this
  have hzc:(Builtin.zeroCells zv.cells n).toList=((Array.range (n*z.length)).map λj=>zv.cells[j%zv.cells.size]!).toList:=by
   simp only[Builtin.zeroCells,hzs]
  rw[<-hzc]at hrw;have hll:(Builtin.zeroCells zv.cells n).toList.length=n*sz:=by rw[hzc,hzl];simp
  obtain⟨w',hst,hA⟩:=zew (P:=P) (n0:=n0) (p:=off) (Builtin.zeroCells zv.cells n).toList (zgn n z) 0 w H cs ho hb2 ⟨_,hsh⟩ (zch hg) (by omega) (by rw[hrw.1]) hsc (λj x y hx hy=>hrw.2 j x y hx hy);cases n with
  |zero=>
   have hz0:zgn 0 z=[]:=by rw[zky];simp
   refine qjj ho (v':= .tuple #[]) ?_ (.imm _ _ (.junk _)) ?_
   ·simp[execOp,hop,resolve,hc,ha,invoke,builtin,Builtin.clear_,h0,zal ht,es]
   ·rw[hz0];simp only[setL];have h1:=zch hg;apply xO;intro j;by_cases e:id=j
    ·subst e
     have hl:id<H.length:=by
      rcases qV id H.length with h' | h'
      ·exact h'
      ·rw[qK h']at h1;simp at h1
     rw[qW hl,h1]
    ·rw[qJ e]
  |succ n=>
   refine⟨_,.tuple #[],w',ρ,?_,.inl rfl,by simpa using hA,.imm _ _ (.junk _)⟩;simp[execOp,hop,resolve,hc,ha,invoke,builtin,Builtin.clear_,h0,zal ht,es,zge hi hiz,hst]
theorem ztk{t t2 ty el:TypeId}{k kk:IntKind}{i:TypeInfo}{z s':Value}{tys:Array TypeId}{ad:Option Addr}{n m:Nat}{olds:List Value}
  (h0:tys[0]?=some t) (h1:tys[1]?=some t2) (ht:P.underlying t=some (.slice el)) (ht2:P.underlying t2=some (.int k)) (hi:P.info? el=some i) (hz:i.zero=some z)
  (es:s'= .slice ad n n) (ho:∀w':World,w'.heap=w.heap->(Builtin.firstCells i.size n s').run P w'= .ok olds.toArray w')
  (hm:0<m) (hs:0<i.size) (h62:n+m<2^62) (hfit:4*(n+m)*i.bytes<=2^48):
  (Builtin.append_ tys ty #[s',.int kk (m:Nat)]).run P w= .ok (.slice (some ⟨w.heap.size,0,none⟩) (n+m) (grownCap w (n+m) n el))
   (w.drew.alloc (.cells (olds.toArray++Builtin.zeroCells z.cells m++Builtin.zeroCells z.cells (grownCap w (n+m) n el-(n+m))) el)):=by
 subst es;have hn1:¬(n+m<=n):=by omega
 have h63:¬(9223372036854775807<((n:Int)+(m:Int))):=by omega
 have hb:(n+m)*i.bytes<=140737488355328:=by
  have:4*((n+m)*i.bytes)<=2^48:=by rw[<-Nat.mul_assoc];exact hfit
  omega
 have hmb:m*i.bytes<=140737488355328:=xJ (qC _ (by omega)) hb
 have h48:¬(281474976710656<Builtin.nextslicecap (n+m) n*i.bytes):=by
  have:=growslice_fits (show n<n+m by omega) hb;omega
 have ho':=ho w.drew rfl
 have hw:IntKind.i64.wrap (m:Int)=m:=by
  unfold IntKind.wrap;simp[IntKind.bits,IntKind.signed];omega
 have hl0:¬((m:Int)<0):=by omega
 have hl1:¬(281474976710656<(m:Int)*(i.bytes:Int)):=by
  rw[<-Int.natCast_mul];omega
 have hz0:¬(m=0\/i.size=0):=by omega
 have hask:∀(w:World) (b:Nat),(askRoom b).run P w= .ok () w:=by
  intro w b;unfold askRoom;split<;>simp[mark,Sem.run]
 simp[Builtin.append_,h0,h1,zal ht,zal ht2,sizeOf,typeInfo,zeroValue,hi,hz,hn1,h63,h48,Question.forced,ho',hask,newRow,grownCap,asInt,asIntOf,hw,hl0,hl1,hz0];intro h;exact absurd (Nat.mul_eq_zero.1 h) hz0
theorem jyo(ho:HOK Γ w F ρ H)(he:∀t,Rep w (Mu F ρ) ρ (E t) (a.tmps.getD t undef)){cl:Call}{t t2 el:TypeId}{k:IntKind}{i:TypeInfo}{z:List AV}{s x:Operand}{s' x':Opd}
  (hfr:fresh<H.length) (hu:ρ fresh= .unborn) (hop:o.op= .call cl) (hc:cl.callee= .builtin .append) (hargs:cl.args.toList=[s,x])
  (h0:cl.argTypes[0]?=some t) (h1:cl.argTypes[1]?=some t2) (ht:P.underlying t=some (.slice el)) (ht2:P.underlying t2=some (.int k)) (hi:P.info? el=some i) (hz:zks P el=some z) (hzl:z.length=i.size)
  (hs:cOpd Γ s=some s') (hx:cOpd Γ x=some x') (hv:apzA fresh H i.size i.bytes z (val E s') (val E x')=some (v,e,rd)):Snd P Γ o a w F ρ n0 v (zaf e H) [fresh]:=by
 have ha:cl.args= #[s,x]:=by rw[<-Array.toArray_toList (xs:=cl.args),hargs]
 have rs:=zah ho he hs;have rx:=zah ho he hx;obtain⟨zv,i',hi',hiz,hrow⟩:=zjb hz;rw[hi]at hi';simp at hi';subst hi';have hzs:zv.cells.size=i.size:=by have:=(hrow w (Mu F ρ) ρ).1;simp at this;omega
 unfold apzA at hv;split at hv
 ·rename_i kk m hxv;obtain⟨⟨hm,_,hsz⟩,hv⟩:=zac hv;rw[hxv]at rx
  have ex:a.eval x= .int kk (m.toNat:Nat):=by
   rw[zbi rx];congr 1;omega
  have hrw:=zkz m.toNat (by omega) (hrow w (Mu F ρ) ρ);rw[<-zky]at hrw
  have hzc:(Builtin.zeroCells zv.cells m.toNat).toList=((Array.range (m.toNat*z.length)).map λj=>zv.cells[j%zv.cells.size]!).toList:=by
   simp only[Builtin.zeroCells,hzs,hzl]
  rw[<-hzc]at hrw;have hll:(Builtin.zeroCells zv.cells m.toNat).toList.length=m.toNat*i.size:=by rw[hzc,hzl];simp
  have exec:∀r w',(Builtin.append_ cl.argTypes o.type #[a.eval s,a.eval x]).run P w= .ok r w'->(execOp a.eval o).run P w= .ok (.value r) w':=by
   intro r w' h;simp[execOp,hop,resolve,hc,ha,invoke,builtin,h]
  have fin:∀(ad:Option Addr) (n:Nat) (cs0:List AV) (olds:List Value),a.eval s= .slice ad n n->4*(n+m.toNat)*i.bytes<=2^48->n+m.toNat<2^62->
    (∀w':World,w'.heap=w.heap->(Builtin.firstCells i.size n (a.eval s)).run P w'= .ok olds.toArray w')->olds.length=n*i.size->zaw w (Mu F ρ) ρ cs0 olds->
    ∃v' w' ρ',(execOp a.eval o).run P w= .ok (.value v') w'/\After Γ F n0 ρ w ρ' w' (H.set fresh (some (cs0++zgn m.toNat z))) [fresh]/\Rep w' (Mu F ρ') ρ' (.sl fresh 0 (n+m.toNat) i.size none) v':=by
   intro ad n cs0 olds es hb h62 hold hol hor;have hrun:=exec _ _ (by rw[ex];exact ztk h0 h1 ht ht2 hi hiz es hold (by omega) hsz h62 hb);have hA0:=ziz (w':=w.drew) n0 ho rfl ⟨rfl,rfl⟩;have hrow2:=(hor.append hrw).mono (λa v hr=>hr.after ho hA0);obtain⟨g1,g2⟩:=qce hrow2 (olds.toArray++Builtin.zeroCells zv.cells m.toNat++Builtin.zeroCells zv.cells (grownCap w (n+m.toNat) n el-(n+m.toNat))) ⟨_,by rw[<-xL,Array.toArray_toList]⟩;have hA1:=zfu n0 hA0.hok hfr hu (cs0++zgn m.toNat z) _ el g1 g2;refine⟨_,_,_,hrun,(hA0.trans hA1).more (by simp),?_⟩;refine .slAt _ _ _ _ _ w.heap.size _ el _ (by simp[updR]) (zie (w:=w.drew)) znx (by simp) ?_;simp only[Array.size_append,xT,zjt,hol,hzs];have:= @znx w (n+m.toNat) n el;rw[yQ,<-xX,<-xX];exact qC _ (by omega)
  cases hsv:val E s'<;>rw[hsv]at hv rs<;>try (simp at hv;done)
  case vec cs n c=>
   simp only at hv;obtain⟨⟨hcn,hcl,hb,h62⟩,hv⟩:=zac hv;simp at hv;obtain⟨rfl,rfl,rfl⟩:=hv;have hel:zdz H i.size n (.vec cs n c)=some (cs.take (n*i.size),[]):=by simp[zdz,need,hcl]
   obtain⟨olds,hold,hol,hor⟩:=zfw (P:=P) ho hel rs
   have:∃ad,a.eval s= .slice ad n n:=by
    rcases zfv rs with⟨_,es,_,rfl,_⟩ | ⟨b,off,cap,vs,es,_,_,_,_,hcc⟩
    ·exact⟨_,es⟩
    ·have:=hcc n hcn;subst this;exact⟨_,es⟩
   obtain⟨ad,es⟩:=this;obtain⟨v',w',ρ',h2,h3,h4⟩:=fin ad n _ olds es hb h62 hold hol hor;exact⟨_,v',w',ρ',h2,.inl rfl,h3,h4⟩
  case sl id off n sz c=>
   simp only at hv;split at hv
   ·rename_i cs hg;have hv2:=(zac hv).2;have hcond:=(zac hv).1;clear hv;obtain⟨rfl,rfl,hcl,hb,h62,hcn⟩:=hcond;have hel:zdz H i.size n (.sl id 0 n i.size c)=some (cs.take (n*i.size),[id]):=by simp[zdz,need,hg,hcl]
    obtain⟨olds,hold,hol,hor⟩:=zfw (P:=P) ho hel rs;obtain⟨b,cap,es,hn,hcc,hbb⟩:=zfd rs;simp at hv2;obtain⟨rfl,rfl,rfl⟩:=hv2;have:=hcc n hcn;subst this;obtain⟨v',w',ρ',h2,h3,h4⟩:=fin _ cap _ olds es hb h62 hold hol hor;exact⟨_,v',w',ρ',h2,.inl rfl,h3,h4⟩
   ·simp at hv
 ·simp at hv
theorem zmn{t:TypeId}{z:AV}(h:qim P t=some z):∃i zv,P.info? t=some i/\i.zero=some zv/\ofV zv=some z:=by
 unfold qim at h;split at h
 ·rename_i i hi;split at h
  ·rename_i zv hz;exact⟨i,zv,hi,hz,h⟩
  ·simp at h
 ·simp at h
theorem zab{α β:Type}{x:Option α}{f:α->Option β}{b:β}(h:(x >>= f)=some b):∃y,x=some y/\f y=some b:=Option.bind_eq_some_iff.1 h
def cntK:CK->Nat
 |.box _ | .bsl .. | .mksl .. | .append .. | .mkmap | .apz .. => 1
 |_=>0
theorem qjl(ho:HOK Γ w F ρ H)(he:∀t,Rep w (Mu F ρ) ρ (E t) (a.tmps.getD t undef)){k:CK}(hfu:cntK k=1->fresh<H.length/\ρ fresh= .unborn)
  (hk:zdy P Γ o.op=some k) (hev:evK n0 fresh k (val E) H=some (v,e,rd)):Snd P Γ o a w F ρ n0 v (zaf e H) (List.range' fresh (cntK k)):=by
 have up:Snd P Γ o a w F ρ n0 v (zaf e H) []->Snd P Γ o a w F ρ n0 v (zaf e H) (List.range' fresh (cntK k)):=by
  rintro⟨x,v',w',ρ',h1,h2,h3,h4⟩;exact⟨x,v',w',ρ',h1,h2,h3.more (by simp),h4⟩
 cases hop:o.op<;>rw[hop]at hk<;>simp only[zdy]at hk<;>try (simp at hk;done)
 case move x=>
  simp at hk;obtain⟨y,hy,rfl⟩:=hk;simp[evK]at hev;obtain⟨rfl,rfl,rfl⟩:=hev;exact up (qit ho he hy (.inl hop))
 case assign x=>
  simp at hk;obtain⟨y,hy,rfl⟩:=hk;simp[evK]at hev;obtain⟨rfl,rfl,rfl⟩:=hev;exact up (qit ho he hy (.inr hop))
 case pick c x y=>
  simp[qX]at hk;obtain⟨c',hc,x',hx,y',hy,rfl⟩:=hk;simp only[evK]at hev;split at hev
  ·rename_i t ht;simp at hev;obtain⟨rfl,rfl,rfl⟩:=hev;exact up (qsr ho he hc hx hy hop ht)
  ·simp at hev
 case alloc t=>
  simp[qX]at hk;obtain⟨z,hz,rfl⟩:=hk;obtain⟨i,zv,hi,hiz,hzv⟩:=zmn hz;simp only[evK]at hev;obtain⟨hf,hev⟩:=zac hev;simp at hev;obtain⟨rfl,rfl,rfl⟩:=hev;obtain⟨hfr,hu⟩:=hfu rfl;refine qja (el:=t) ho hfr hu (.imm _ _ (zol w _ hzv)) hf ?_;simp[execOp,hop,Instr.alloc,zge hi hiz,newVar,zfp]
 case box t x=>
  simp[qX]at hk;obtain⟨y,hy,rfl⟩:=hk;simp only[evK]at hev;obtain⟨hf,hev⟩:=zac hev;simp at hev;obtain⟨rfl,rfl,rfl⟩:=hev;obtain⟨hfr,hu⟩:=hfu rfl;refine qja (el:=t) ho hfr hu (zah ho he hy) hf ?_;simp[execOp,hop,Instr.box,newVar,zfp]
 case build t ps=>
  simp[qX]at hk;obtain⟨z,hz,pl,hpl,ps',hps,rfl⟩:=hk;simp only[evK,qX]at hev;obtain⟨cs,hcs,hev⟩:=hev;simp at hev;obtain⟨rfl,rfl,rfl⟩:=hev;exact up (qjd ho he hz hpl hps hop hcs)
 case buildSlice t n ps=>
  obtain⟨d,hd,hk⟩:=zab hk;cases d<;>simp only at hk<;>try (simp at hk;done)
  rename_i el;obtain⟨s,hs,hk⟩:=zab hk;obtain⟨z,hz,hk⟩:=zab hk;obtain⟨ps',hps,hk⟩:=zab hk;split at hk
  ·rename_i hcond;simp at hk;subst hk;simp only[evK,qX]at hev;obtain⟨cs,hcs,hev⟩:=hev;obtain⟨_,hev⟩:=zac hev;simp at hev;obtain⟨rfl,rfl,rfl⟩:=hev;obtain⟨hfr,hu⟩:=hfu rfl;exact jyl ho he hfr hu hd hs hz hps hcond.1 hcond.2 hop hcs
  ·simp at hk
 case load t x=>
  obtain⟨⟨ag,sz⟩,hs,hk⟩:=zab hk;obtain⟨y,hy,hk⟩:=zab hk;simp only[qZ]at hk;subst hk;simp only[evK]at hev;split at hev
  ·rename_i id off hv;split at hev
   ·rename_i cs hg;obtain⟨⟨h1,_⟩,hev⟩:=zac hev;simp at hev;obtain⟨rfl,rfl,rfl⟩:=hev;exact up (qca ho he hs hy hop (.inl ⟨id,off,cs,hv,hg,h1,rfl⟩))
   ·simp at hev
  ·rename_i cs p hv;obtain⟨⟨h1,_⟩,hev⟩:=zac hev;simp at hev;obtain⟨rfl,rfl,rfl⟩:=hev;exact up (qca ho he hs hy hop (.inr ⟨cs,p,hv,h1,rfl⟩))
  ·simp at hev
 case store t x y=>
  simp[qX]at hk;obtain⟨sz,hs,x',hx,y',hy,rfl⟩:=hk;simp only[evK]at hev;split at hev
  ·rename_i id off hv;split at hev
   ·rename_i cs hg;obtain⟨⟨h1,h2,h3,h4⟩,hev⟩:=zac hev;simp at hev;obtain⟨rfl,rfl,rfl⟩:=hev;exact up (qjb ho he hs hx hy hop hv hg h1 h2 h3 h4)
   ·simp at hev
  ·simp at hev
 case nilCheck x=>
  simp at hk;obtain⟨y,hy,rfl⟩:=hk;simp only[evK]at hev;split at hev
  ·rename_i id off hv;simp at hev;obtain⟨rfl,rfl,rfl⟩:=hev;have:=zvo (P:=P) (n0:=n0) ho he hy hop (.inl ⟨id,off,hv⟩);rw[hv]at this;exact up this
  ·rename_i cs p hv;simp at hev;obtain⟨rfl,rfl,rfl⟩:=hev;have:=zvo (P:=P) (n0:=n0) ho he hy hop (.inr ⟨cs,p,hv⟩);rw[hv]at this;exact up this
  ·simp at hev
 case binOp op t x y t'=>
  split at hk
  ·simp[qX]at hk;obtain⟨x',hx,y',hy,rfl⟩:=hk;simp only[evK,qX]at hev;obtain⟨r,hr,hev⟩:=hev;simp at hev;obtain⟨rfl,rfl,rfl⟩:=hev;exact up (qiu ho he hx hy hop hr)
  ·simp[qX]at hk;obtain⟨x',hx,y',hy,rfl⟩:=hk;simp only[evK,qX]at hev;obtain⟨r,hr,hev⟩:=hev;simp at hev;obtain⟨rfl,rfl,rfl⟩:=hev;exact up (qiu ho he hx hy hop hr)
  ·rename_i hty;simp[qX]at hk;obtain⟨x',hx,y',hy,rfl⟩:=hk;simp only[evK]at hev;split at hev
   ·rename_i s t h1 h2;simp at hev;obtain⟨rfl,rfl,rfl⟩:=hev;exact up (qiv (neg:=false) ho he hty hx hy hop h1 h2)
   ·simp at hev
  ·rename_i hty;simp[qX]at hk;obtain⟨x',hx,y',hy,rfl⟩:=hk;simp only[evK]at hev;split at hev
   ·rename_i s t h1 h2;simp at hev;obtain⟨rfl,rfl,rfl⟩:=hev;exact up (qiv (neg:=true) ho he hty hx hy hop h1 h2)
   ·simp at hev
  ·rename_i el hty;split at hk
   ·simp at hk;obtain⟨x',hx,rfl⟩:=hk;simp only[evK]at hev;split at hev
    ·rename_i cs n c hv;split at hev
     ·rename_i hn0;simp at hev;obtain⟨rfl,rfl,rfl⟩:=hev;exact up (ztf ho he hty hx hop (.inl ⟨cs,n,c,hv,by rw[if_pos hn0]⟩))
     ·rename_i hn0;simp at hev;obtain⟨rfl,rfl,rfl⟩:=hev;exact up (ztf ho he hty hx hop (.inl ⟨cs,n,c,hv,by rw[if_neg hn0]⟩))
    ·rename_i id off n sz c hv;simp at hev;obtain⟨rfl,rfl,rfl⟩:=hev;exact up (ztf ho he hty hx hop (.inr ⟨id,off,n,sz,c,hv,rfl⟩))
    ·simp at hev
   ·simp at hk
  ·obtain⟨ks,hks,hk⟩:=zab hk;obtain⟨x',hx,hk⟩:=zab hk;obtain⟨y',hy,hk⟩:=zab hk;simp only[qZ]at hk;subst hk;simp only[evK]at hev;split at hev
   ·rename_i xs ys h1 h2;rw[qX]at hev;obtain⟨r,hr,hev⟩:=hev;simp only[qZ,Prod.mk.injEq]at hev;obtain⟨rfl,rfl,rfl⟩:=hev;exact up (zti (neg:=false) ho he hks hx hy hop h1 h2 hr)
   ·simp at hev
  ·obtain⟨ks,hks,hk⟩:=zab hk;obtain⟨x',hx,hk⟩:=zab hk;obtain⟨y',hy,hk⟩:=zab hk;simp only[qZ]at hk;subst hk;simp only[evK]at hev;split at hev
   ·rename_i xs ys h1 h2;rw[qX]at hev;obtain⟨r,hr,hev⟩:=hev;simp only[qZ,Prod.mk.injEq]at hev;obtain⟨rfl,rfl,rfl⟩:=hev;exact up (zti (neg:=true) ho he hks hx hy hop h1 h2 hr)
   ·simp at hev
  ·obtain⟨ks,hks,hk⟩:=zab hk;obtain⟨x',hx,hk⟩:=zab hk;obtain⟨y',hy,hk⟩:=zab hk;simp only[qZ]at hk;subst hk;simp only[evK]at hev;split at hev
   ·rename_i xs ys h1 h2;rw[qX]at hev;obtain⟨r,hr,hev⟩:=hev;simp only[qZ,Prod.mk.injEq]at hev;obtain⟨rfl,rfl,rfl⟩:=hev;exact up (zti (neg:=false) ho he hks hx hy hop h1 h2 hr)
   ·simp at hev
  ·obtain⟨ks,hks,hk⟩:=zab hk;obtain⟨x',hx,hk⟩:=zab hk;obtain⟨y',hy,hk⟩:=zab hk;simp only[qZ]at hk;subst hk;simp only[evK]at hev;split at hev
   ·rename_i xs ys h1 h2;rw[qX]at hev;obtain⟨r,hr,hev⟩:=hev;simp only[qZ,Prod.mk.injEq]at hev;obtain⟨rfl,rfl,rfl⟩:=hev;exact up (zti (neg:=true) ho he hks hx hy hop h1 h2 hr)
   ·simp at hev
  ·rename_i el hty;split at hk
   ·simp at hk;obtain⟨x',hx,rfl⟩:=hk;simp only[evK]at hev;split at hev
    ·rename_i id off hv;simp at hev;obtain⟨rfl,rfl,rfl⟩:=hev;exact up (zjc (neg:=false) ho he hty hx hop (.inl ⟨id,off,hv,rfl⟩))
    ·rename_i cs p hv;simp at hev;obtain⟨rfl,rfl,rfl⟩:=hev;exact up (zjc (neg:=false) ho he hty hx hop (.inr (.inl ⟨cs,p,hv,rfl⟩)))
    ·rename_i f cs hv;have hcc:=(zac hev).1;replace hev:=(zac hev).2;subst hcc;simp at hev;obtain⟨rfl,rfl,rfl⟩:=hev;exact up (zjc (neg:=false) ho he hty hx hop (.inr (.inr ⟨cs,hv,rfl⟩)))
    ·simp at hev
   ·simp at hk
  ·rename_i el hty;split at hk
   ·simp at hk;obtain⟨x',hx,rfl⟩:=hk;simp only[evK]at hev;split at hev
    ·rename_i id off hv;simp at hev;obtain⟨rfl,rfl,rfl⟩:=hev;exact up (zjc (neg:=true) ho he hty hx hop (.inl ⟨id,off,hv,rfl⟩))
    ·rename_i cs p hv;simp at hev;obtain⟨rfl,rfl,rfl⟩:=hev;exact up (zjc (neg:=true) ho he hty hx hop (.inr (.inl ⟨cs,p,hv,rfl⟩)))
    ·rename_i f cs hv;have hcc:=(zac hev).1;replace hev:=(zac hev).2;subst hcc;simp at hev;obtain⟨rfl,rfl,rfl⟩:=hev;exact up (zjc (neg:=true) ho he hty hx hop (.inr (.inr ⟨cs,hv,rfl⟩)))
    ·simp at hev
   ·simp at hk
  ·simp at hk
 case unOp op t x=>
  simp at hk;obtain⟨y,hy,rfl⟩:=hk;simp only[evK,qX]at hev;obtain⟨r,hr,hev⟩:=hev;simp at hev;obtain⟨rfl,rfl,rfl⟩:=hev;exact up (xwu ho he hy hop hr)
 case convert src dst x=>
  split at hk
  ·rename_i d kk hs hd;simp at hk;obtain⟨y,hy,rfl⟩:=hk;simp only[evK]at hev;split at hev
   ·rename_i k' n hv;simp at hev;obtain⟨rfl,rfl,rfl⟩:=hev;exact up (qss ho he hs hd hy hop hv)
   ·simp at hev
  ·rename_i el hs hd;split at hk
   ·rename_i hel;simp at hk;obtain⟨y,hy,rfl⟩:=hk;simp only[evK,qX]at hev;obtain⟨n,hn,⟨xs,xr⟩,hxs,l,hl,hev⟩:=hev;simp at hev;obtain⟨rfl,rfl,rfl⟩:=hev;exact up (jyn ho he hs hel hd hy hop hn hxs hl)
   ·simp at hk
  ·simp at hk
 case makeFunc fn first caps=>
  cases fn<;>simp only[zdy]at hk<;>try (simp at hk;done)
  rename_i f;split at hk
  ·rename_i hff;split at hk
   ·rename_i hf;simp[qX]at hk;obtain⟨caps',hc,rfl⟩:=hk;simp[evK]at hev;obtain⟨rfl,rfl,rfl⟩:=hev;exact up (qst ho he (by simpa using hf) (Nat.lt_trans hff (by decide)) hc hop)
   ·split at hk
    ·rename_i hf;simp[qX]at hk;obtain⟨first',hc,rfl⟩:=hk;simp[evK]at hev;obtain⟨rfl,rfl,rfl⟩:=hev;exact up (qiw ho he (by simpa using hf) ⟨Nat.lt_trans hff (by decide),xD hff⟩ hc hop)
    ·simp at hk
  ·simp at hk
 case makeMap t r=>
  cases r<;>simp only[zdy]at hk<;>try (simp at hk;done)
  split at hk
  ·simp only[qZ]at hk;subst hk;simp[evK]at hev;obtain⟨rfl,rfl,rfl⟩:=hev;obtain⟨hfr,hu⟩:=hfu rfl;exact qjh ho hfr hu hop
  ·simp at hk
 case lookup t x y ok=>
  cases ok<;>simp only[zdy]at hk<;>try (simp at hk;done)
  split at hk
  ·rename_i kt el ht;split at hk
   ·rename_i n el' hkt;obtain⟨ks,hks,hk⟩:=zab hk;obtain⟨z,hz,hk⟩:=zab hk;obtain⟨x',hx,hk⟩:=zab hk;obtain⟨y',hy,hk⟩:=zab hk;simp only[qZ]at hk;subst hk;obtain⟨zi,zv,hzi,hzv,hz⟩:=zmn hz;simp only[evK]at hev;split at hev
    ·rename_i f id p kk h1 h2;split at hev
     ·rename_i cs hg;have hcc:=(zac hev).1;replace hev:=(zac hev).2;obtain⟨c1,c2⟩:=hcc;subst c1;subst c2;rw[qX]at hev;obtain⟨r,hr,hev⟩:=hev;simp only[qZ,Prod.mk.injEq]at hev;obtain⟨rfl,rfl,rfl⟩:=hev;exact up (qji ho he ht hkt hks hzi hzv hz hx hy hop h1 h2 hg rfl hr)
     ·simp at hev
    ·simp at hev
   ·simp at hk
  ·simp at hk
 case mapEntry t x y=>
  split at hk
  ·rename_i kt el ht;split at hk
   ·rename_i n el' hkt;obtain⟨ks,hks,hk⟩:=zab hk;obtain⟨z,hz,hk⟩:=zab hk;obtain⟨x',hx,hk⟩:=zab hk;obtain⟨y',hy,hk⟩:=zab hk;simp only[qZ]at hk;subst hk;obtain⟨zi,zv,hzi,hzv,hz⟩:=zmn hz;simp only[evK]at hev;split at hev
    ·rename_i f id p kk h1 h2;split at hev
     ·rename_i cs hg;have hcc:=(zac hev).1;replace hev:=(zac hev).2;obtain⟨c1,c2⟩:=hcc;subst c1;subst c2;rw[qX]at hev;obtain⟨r,hr,hev⟩:=hev;obtain⟨s1,s2⟩:=qff (P:=P) (n0:=n0) ho he ht hkt hks hzi hzv hz hx hy hop h1 h2 hg hr;cases r with
      |some i=>
       simp only[qZ,Prod.mk.injEq]at hev;obtain⟨rfl,rfl,rfl⟩:=hev;exact up (s1 i rfl)
      |none=>
       obtain⟨_,hev⟩:=zac hev;simp only[qZ,Prod.mk.injEq]at hev;obtain⟨rfl,rfl,rfl⟩:=hev;exact up (s2 rfl)
     ·simp at hev
    ·simp at hev
   ·simp at hk
  ·simp at hk
 case entryStore t x s y=>
  obtain⟨x',hx,hk⟩:=zab hk;obtain⟨s',hs,hk⟩:=zab hk;obtain⟨y',hy,hk⟩:=zab hk;simp only[qZ]at hk;subst hk;simp only[evK]at hev;split at hev
  ·rename_i f id p kk n h1 h2;split at hev
   ·rename_i cs hg;have hcc:=(zac hev).1;replace hev:=(zac hev).2;obtain⟨c1,c2,_,h0,hl,hnl⟩:=hcc;subst c1;subst c2;simp only[qZ,Prod.mk.injEq]at hev;obtain⟨rfl,rfl,rfl⟩:=hev;exact up (qfg ho he hx hs hy hop h1 h2 hg h0 hl hnl)
   ·simp at hev
  ·simp at hev
 case makeSlice t x y=>
  obtain⟨d,hd,hk⟩:=zab hk;cases d<;>simp only at hk<;>try (simp at hk;done)
  rename_i el;simp[qX]at hk;obtain⟨i,hi,z,hz,x',hx,y',hy,rfl⟩:=hk;simp only[evK]at hev;split at hev
  ·rename_i k1 n k2 c h1 h2;obtain⟨⟨g1,g2,g3,g4,g5,g6⟩,hev⟩:=zac hev;simp at hev;obtain⟨rfl,rfl,rfl⟩:=hev;obtain⟨hfr,hu⟩:=hfu rfl;exact qsy ho he hfr hu hd hi hz hx hy hop h1 h2 g1 g2 g3 g4 g5 g6
  ·simp at hev
 case slice t x lo hi mx=>
  simp[qX]at hk;obtain⟨x',hx,lo',hlo,hi',hhi,mx',hmx,hk⟩:=hk;split at hk
  ·rename_i el hd;obtain⟨sz,hsz,hk⟩:=zab hk;simp only[qZ]at hk;subst hk;simp only[evK,qX]at hev;obtain⟨r,hr,hev⟩:=hev;simp at hev;obtain⟨rfl,rfl,rfl⟩:=hev;exact up (qjf ho he hd hsz hx (optM hlo) (optM hhi) (optM hmx) hop hr)
  ·rename_i n el hd;obtain⟨sz,hsz,hk⟩:=zab hk;simp only[qZ]at hk;subst hk;have h1:=zah ho he hx;simp only[evK]at hev;split at hev
   ·rename_i id off hv;rw[hv]at h1;split at hev
    ·rename_i cs hg;obtain⟨hl,hev⟩:=zac hev;simp only[qX]at hev;obtain⟨r,hr,hev⟩:=hev;simp at hev;obtain⟨rfl,rfl,rfl⟩:=hev;obtain⟨b,e1,hb,_,_⟩:=znv ho h1 hg;obtain⟨b2,el2,mm,hb2,hsh,hlen,_,_⟩:=ho.at hg (qis h1);rw[hb]at hb2;simp at hb2;subst hb2;exact up (zvq ho he hd hsz (optM hlo) (optM hhi) (optM hmx) hop e1 (.slAt _ _ _ _ _ _ _ el2 mm hb hsh (qA _) (by simp) (by omega)) hr)
    ·simp at hev
   ·rename_i cs p hv;rw[hv]at h1;obtain⟨hl,hev⟩:=zac hev;simp only[qX]at hev;obtain⟨r,hr,hev⟩:=hev;simp at hev;obtain⟨rfl,rfl,rfl⟩:=hev;obtain⟨b,q,vs,e1,hM,hcell,hrep⟩:=zhd h1;exact up (zvq ho he hd hsz (optM hlo) (optM hhi) (optM hmx) hop e1 (.imm _ _ (qje hM hcell hrep (qA _) (by simp))) hr)
   ·simp at hev
  ·simp at hk
 case fieldAddr s x f=>
  split at hk
  ·rename_i fields hd;split at hk
   ·rename_i fd hf;obtain⟨z,hz,hk⟩:=zab hk;split at hk
    ·simp at hk
    ·rename_i hz0;obtain⟨y,hy,hk⟩:=zab hk;simp only[qZ]at hk;subst hk;simp only[evK]at hev;split at hev
     ·rename_i id p hv;simp at hev;obtain⟨rfl,rfl,rfl⟩:=hev;exact up (qiy ho he hd hf hz hz0 hy hop (by rw[hv];rfl))
     ·rename_i cs p hv;simp at hev;obtain⟨rfl,rfl,rfl⟩:=hev;exact up (qiy ho he hd hf hz hz0 hy hop (by rw[hv];rfl))
     ·simp at hev
   ·simp at hk
  ·simp at hk
 case field s x f=>
  split at hk
  ·rename_i fields hd;split at hk
   ·rename_i fd hf;obtain⟨⟨ag,sz⟩,hs,hk⟩:=zab hk;obtain⟨y,hy,hk⟩:=zab hk;simp only[qZ]at hk;subst hk;simp only[evK]at hev;split at hev
    ·rename_i cs hv;obtain⟨⟨h1,_⟩,hev⟩:=zac hev;simp at hev;obtain⟨rfl,rfl,rfl⟩:=hev;exact up (qsu ho he hd hf hs hy hop hv h1)
    ·simp at hev
   ·simp at hk
  ·simp at hk
 case indexAddr t x i=>
  split at hk
  ·rename_i el hd;simp[qX]at hk;obtain⟨sz,hsz,x',hx,i',hi,rfl⟩:=hk;simp only[evK]at hev;split at hev
   ·rename_i id off n s c k j h1 h2;obtain⟨⟨rfl,g1,g2⟩,hev⟩:=zac hev;simp at hev;obtain⟨rfl,rfl,rfl⟩:=hev;exact up (qiz ho he hd hsz hx hi hop h2 (.inl ⟨id,off,n,c,h1,g1,g2,rfl⟩))
   ·rename_i cs n c k j h1 h2;obtain⟨⟨g1,g2⟩,hev⟩:=zac hev;simp at hev;obtain⟨rfl,rfl,rfl⟩:=hev;exact up (qiz ho he hd hsz hx hi hop h2 (.inr ⟨cs,n,c,h1,g1,g2,rfl⟩))
   ·simp at hev
  ·rename_i n el hd;simp[qX]at hk;obtain⟨sz,hsz,x',hx,i',hi,rfl⟩:=hk;simp only[evK]at hev;split at hev
   ·rename_i id off k j h1 h2;obtain⟨⟨g1,g2⟩,hev⟩:=zac hev;simp at hev;obtain⟨rfl,rfl,rfl⟩:=hev;exact up (qbz ho he hd hsz hx hi hop h2 g1 g2 (by rw[h1];rfl))
   ·rename_i cs p k j h1 h2;obtain⟨⟨g1,g2⟩,hev⟩:=zac hev;simp at hev;obtain⟨rfl,rfl,rfl⟩:=hev;exact up (qbz ho he hd hsz hx hi hop h2 g1 g2 (by rw[h1];rfl))
   ·simp at hev
  ·simp at hk
 case index t x i=>
  split at hk
  ·rename_i n el hd;obtain⟨⟨ag,sz⟩,hs,hk⟩:=zab hk;obtain⟨z,hz,hk⟩:=zab hk;obtain⟨x',hx,hk⟩:=zab hk;obtain⟨i',hi,hk⟩:=zab hk;split at hk
   ·rename_i hzs;simp only[qZ]at hk;subst hk;simp only[evK]at hev;split at hev
    ·rename_i cs k j h1 h2;obtain⟨⟨g1,g2,g3,g4⟩,hev⟩:=zac hev;simp at hev;obtain⟨rfl,rfl,rfl⟩:=hev;exact up (qsv ho he hd hs hz hzs hx hi hop h1 h2 g1 g2 g3)
    ·simp at hev
   ·simp at hk
  ·rename_i hd;simp[qX]at hk;obtain⟨x',hx,i',hi,rfl⟩:=hk;simp only[evK]at hev;split at hev
   ·rename_i s k j h1 h2;obtain⟨⟨g1,g2⟩,hev⟩:=zac hev;simp only[qZ,Prod.mk.injEq]at hev;obtain⟨rfl,rfl,rfl⟩:=hev;exact up (qsw ho he hd hx hi hop h1 h2 g1 g2)
   ·simp at hev
  ·simp at hk
 case extract x i=>
  obtain⟨y,hy,hk⟩:=zab hk;simp only[qZ]at hk;subst hk;simp only[evK]at hev;split at hev
  ·rename_i vs hv;split at hev
   ·rename_i u hu';simp at hev;obtain⟨rfl,rfl,rfl⟩:=hev;exact up (jyj ho he hy hop hv hu')
   ·simp at hev
  ·simp at hev
 case call cl=>
  cases hcl:cl.callee with
  |invoke r m=>rw[hcl]at hk;simp at hk
  |value f=>
   rw[hcl]at hk;cases f<;>simp only at hk<;>try (simp at hk;done)
   ·obtain⟨l,hl,hk⟩:=zab hk;simp only[qZ]at hk;subst hk;simp[evK]at hev
   ·split at hk
    ·obtain⟨l,hl,hk⟩:=zab hk;simp only[qZ]at hk;subst hk;simp[evK]at hev
    ·split at hk
     ·rename_i b x y z hcy hargs;obtain⟨x',hx,hk⟩:=zab hk;obtain⟨y',hy,hk⟩:=zab hk;obtain⟨z',hz,hk⟩:=zab hk;simp only[qZ]at hk;subst hk;simp only[evK]at hev;split at hev
      ·rename_i m n d e1 e2 e3;obtain⟨hm,hev⟩:=zac hev;simp only[qZ,Prod.mk.injEq]at hev;obtain⟨rfl,rfl,rfl⟩:=hev;exact up (qte ho he hop hcl hargs hcy hx hy hz e1 e2 e3 hm)
      ·simp at hev
     ·simp at hk
  |builtin b=>
   rw[hcl]at hk;cases b<;>simp only at hk<;>try (simp at hk;done)
   case append=>
    split at hk
    ·rename_i el el2 s x h1 h2 hargs;obtain⟨i,hi,hk⟩:=zab hk;obtain⟨z,hz,hk⟩:=zab hk;split at hk
     ·rename_i hzl;obtain⟨s',hs,hk⟩:=zab hk;obtain⟨x',hx,hk⟩:=zab hk;simp only[qZ]at hk;subst hk;simp only[evK]at hev;obtain⟨t,ht0,ht⟩:=Option.bind_eq_some_iff.1 h1;obtain⟨t2,ht20,ht2⟩:=Option.bind_eq_some_iff.1 h2;obtain⟨hfr,hu⟩:=hfu rfl;exact qfc ho he hfr hu hop hcl hargs ht0 ht20 ht ht2 hi hz hzl hs hx hev
     ·simp at hk
    ·rename_i el k2 s x h1 h2 hargs;obtain⟨i,hi,hk⟩:=zab hk;obtain⟨z,hz,hk⟩:=zab hk;split at hk
     ·rename_i hzl;obtain⟨s',hs,hk⟩:=zab hk;obtain⟨x',hx,hk⟩:=zab hk;simp only[qZ]at hk;subst hk;simp only[evK]at hev;obtain⟨t,ht0,ht⟩:=Option.bind_eq_some_iff.1 h1;obtain⟨t2,ht20,ht2⟩:=Option.bind_eq_some_iff.1 h2;obtain⟨hfr,hu⟩:=hfu rfl;exact jyo ho he hfr hu hop hcl hargs ht0 ht20 ht ht2 hi hz hzl hs hx hev
     ·simp at hk
    ·simp at hk
   case copy=>
    split at hk
    ·rename_i el d s h1 hargs;obtain⟨sz,hsz,hk⟩:=zab hk;obtain⟨d',hd,hk⟩:=zab hk;obtain⟨s',hs,hk⟩:=zab hk;simp only[qZ]at hk;subst hk;obtain⟨t,ht0,ht⟩:=Option.bind_eq_some_iff.1 h1;simp only[evK]at hev;split at hev
     ·rename_i id off n s2 c hv;split at hev
      ·rename_i cs hg;simp only[qX]at hev;obtain⟨m,hm,⟨xs,xr⟩,hxs,hev⟩:=hev;have hev2:=(zac hev).2;have hcond:=(zac hev).1;clear hev;obtain⟨rfl,g1,g2⟩:=hcond;simp only[qZ,Prod.mk.injEq]at hev2;obtain⟨rfl,rfl,rfl⟩:=hev2;exact up (qtb ho he hop hcl hargs ht0 ht hsz hd hs hv hg hm hxs g1 g2)
      ·simp at hev
     ·simp at hev
    ·simp at hk
   case clear=>
    split at hk
    ·rename_i el x h1 hargs;obtain⟨sz,hsz,hk⟩:=zab hk;obtain⟨z,hz,hk⟩:=zab hk;obtain⟨x',hx,hk⟩:=zab hk;simp only[qZ]at hk;subst hk;obtain⟨t,ht0,ht⟩:=Option.bind_eq_some_iff.1 h1;simp only[evK]at hev;split at hev
     ·rename_i cs n c hv;obtain⟨rfl,hev⟩:=zac hev;simp only[qZ,Prod.mk.injEq]at hev;obtain⟨rfl,rfl,rfl⟩:=hev;exact up (qjk (sz:=sz) ho he hop hcl hargs ht0 ht hz hx (.inl ⟨cs,c,hv,rfl⟩))
     ·rename_i id off n s2 c hv;split at hev
      ·rename_i cs hg;have hev2:=(zac hev).2;have hcond:=(zac hev).1;clear hev;obtain⟨rfl,g1,g2,g3,g4⟩:=hcond;simp only[qZ,Prod.mk.injEq]at hev2;obtain⟨rfl,rfl,rfl⟩:=hev2;exact up (qjk ho he hop hcl hargs ht0 ht hz hx (.inr ⟨id,off,n,c,cs,hv,hg,g1,g2,g3,g4,rfl⟩))
      ·simp at hev
     ·simp at hev
    ·simp at hk
   case len=>
    split at hk
    ·rename_i el x h1 hargs;simp at hk;obtain⟨x',hx,rfl⟩:=hk;obtain⟨t,ht0,ht⟩:=Option.bind_eq_some_iff.1 h1;simp only[evK]at hev;split at hev
     ·simp_all
     ·rename_i cs n c _ hv;simp only[qZ,Prod.mk.injEq]at hev;obtain⟨rfl,rfl,rfl⟩:=hev;exact up (zym ho he hx hop hcl hargs ht0 (by rw[hv];rfl) (.inl ⟨el,ht,λs hs=>by rw[hv]at hs;simp at hs⟩))
     ·rename_i id off n sz c _ hv;simp only[qZ,Prod.mk.injEq]at hev;obtain⟨rfl,rfl,rfl⟩:=hev;exact up (zym ho he hx hop hcl hargs ht0 (by rw[hv];rfl) (.inl ⟨el,ht,λs hs=>by rw[hv]at hs;simp at hs⟩))
     ·simp at hev
    ·rename_i x h1 hargs;simp at hk;obtain⟨x',hx,rfl⟩:=hk;obtain⟨t,ht0,ht⟩:=Option.bind_eq_some_iff.1 h1;simp only[evK]at hev;split at hev
     ·rename_i s _ hv;simp only[qZ,Prod.mk.injEq]at hev;obtain⟨rfl,rfl,rfl⟩:=hev;exact up (zym ho he hx hop hcl hargs ht0 (by rw[hv];rfl) (.inr ⟨ht,s,hv⟩))
     ·simp_all
     ·simp_all
     ·simp at hev
    ·rename_i n el x h1 hargs;simp at hk;subst hk;obtain⟨t,ht0,ht⟩:=Option.bind_eq_some_iff.1 h1;simp[evK]at hev;obtain⟨rfl,rfl,rfl⟩:=hev;exact up (qcc ho hop hcl hargs ht0 (.inl ⟨el,ht⟩))
    ·rename_i p x h1 hargs;split at hk
     ·rename_i n el hp;simp at hk;subst hk;obtain⟨t,ht0,ht⟩:=Option.bind_eq_some_iff.1 h1;simp[evK]at hev;obtain⟨rfl,rfl,rfl⟩:=hev;exact up (qcc ho hop hcl hargs ht0 (.inr ⟨p,el,ht,hp⟩))
     ·simp at hk
    ·simp at hk
   case max=>
    split at hk
    ·rename_i x y hargs;obtain⟨x',hx,hk⟩:=zab hk;obtain⟨y',hy,hk⟩:=zab hk;simp only[qZ]at hk;subst hk;simp only[evK]at hev;split at hev
     ·rename_i k1 m k2 n h1 h2;simp only[qZ,Prod.mk.injEq]at hev;obtain⟨rfl,rfl,rfl⟩:=hev;exact up (jyk ho he hx hy hop hcl hargs h1 h2)
     ·simp at hev
    ·simp at hk
