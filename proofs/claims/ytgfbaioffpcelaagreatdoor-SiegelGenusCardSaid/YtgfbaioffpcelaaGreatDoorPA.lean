/- A part of the proof. -/
import Derived.Orders
import Derived.Laws.World
import Derived.Laws.Sem
import Derived.Laws.Append
import Derived.Laws.BytesString
import Derived.IntWalk
import Derived.Laws.Externs
import Derived.KernelRfl
import Derived.RangeFuncIn
import Derived.OrdersIn
import Derived.RangeFuncLeaves
import Derived.RangeFuncRecord
set_option linter.all false
open Option renaming bind_eq_some_iff -> qQ, map_eq_some_iff -> qA, map_some -> qI, getD_some -> yQ
open List renaming getElem?_eq_none -> qX, getElem?_set_ne -> qZ, getElem?_set_self -> qK, getElem?_append_left -> qV, getElem?_append_right -> qY, mem_cons -> qB, getElem?_map -> qC, getElem?_take -> qE, getElem_mem -> qG, map_cons -> qL, replicate_succ -> qN, mem_append -> qO, mem_filter -> qP, getElem?_drop -> qS, getElem?_replicate -> qT, length_cons -> xX, map_congr_left -> xK, flatten_cons -> xY, getElem?_eq_getElem -> xU, foldl_cons -> xB, range_eq_range' -> xD, mapM_cons -> xE, mem_range -> xH, ext_getElem? -> xL, set_set -> xM, append_assoc -> xP, range'_succ -> xS, zipIdx_cons -> xT
open Nat renaming lt_or_ge -> qJ, le_refl -> qD, lt_of_lt_of_le -> qH, mul_le_mul_right -> qM, add_assoc -> xZ, zero_le -> xJ, zero_add -> xW, le_trans -> xA, add_mul -> xG, ne_of_lt -> xI, add_zero -> xN, sub_self -> xO
open Option.some renaming injEq -> qW
open Bool renaming and_eq_true -> qU, not_eq_true' -> xQ, false_eq_true -> xV, or_eq_true -> xC
namespace Go.AL
open Go
inductive AV where
 |bool (b:Bool)
 |int (k:IntKind) (n:Int)
 |str (s:ByteArray)
 |vec (cs:List AV) (n:Nat) (cap:Option Nat)
 |sl (id off n sz:Nat) (cap:Option Nat)
 |ptr (id off:Nat)
 |iptr (cs:List AV) (p:Nat)
 |clo (f:FuncId) (caps:List AV)
 |agg (cs:List AV)
 |tup (vs:List AV)
 |anyb
 |junk
 deriving Inhabited
inductive RS where
 |unborn
 |dead
 |here (b:Nat)
abbrev Heap:=List (Option (List AV))
structure Glob where
 globs:List (Nat×List AV)
 lp:Nat->Nat->Array Tmp->Code->Code->Prop
 lv:Nat->List Nat
inductive IRep(w:World)(M:Nat->Prop):AV->Value->Prop
 |bool (b:Bool):IRep w M (.bool b) (.bool b)
 |int (k:IntKind) (n:Int):IRep w M (.int k n) (.int k n)
 |str (s:ByteArray):IRep w M (.str s) (.string s)
 |anyb (b:Bool):IRep w M .anyb (.bool b)
 |junk (v:Value):IRep w M .junk v
 |nil (p:Option Addr) (c:Option Nat) (hc:∀k,c=some k->k=0):IRep w M (.vec [] 0 c) (.slice p 0 0)
 |vec (cs:List AV) (n:Nat) (c:Option Nat) (b off cap:Nat) (vs:Nat->Value)
   (hM:cs≠[]->¬M b)
   (hcell:∀j,j<cs.length->w.cell? ⟨b,off+j,none⟩=some (vs j))
   (hrep:∀(j:Nat) (a:AV),cs[j]?=some a->IRep w M a (vs j))
   (hn:n<=cap) (hc:∀k,c=some k->cap=k):
   IRep w M (.vec cs n c) (.slice (some ⟨b,off,none⟩) n cap)
 |iptr (cs:List AV) (p b off:Nat) (vs:Nat->Value)
   (hM:cs≠[]->¬M b)
   (hcell:∀j,j<cs.length->w.cell? ⟨b,off+j,none⟩=some (vs j))
   (hrep:∀(j:Nat) (a:AV),cs[j]?=some a->IRep w M a (vs j)):
   IRep w M (.iptr cs p) (.pointer (some ⟨b,off+p,none⟩))
 |agg (cs:List AV) (vs:Array Value) (hl:vs.size=cs.length)
   (hrep:∀(j:Nat) (a:AV) (v:Value),cs[j]?=some a->vs[j]?=some v->IRep w M a v):IRep w M (.agg cs) (.agg vs)
 |tup (cs:List AV) (vs:Array Value) (hl:vs.size=cs.length)
   (hrep:∀(j:Nat) (a:AV) (v:Value),cs[j]?=some a->vs[j]?=some v->IRep w M a v):IRep w M (.tup cs) (.tuple vs)
 |clo (f:FuncId) (cs:List AV) (vs:Array Value) (hf:f<65536) (hl:vs.size=cs.length)
   (hrep:∀(j:Nat) (a:AV) (v:Value),cs[j]?=some a->vs[j]?=some v->IRep w M a v):IRep w M (.clo f cs) (.func (.func f) #[] vs)
inductive Rep(w:World)(M:Nat->Prop)(ρ:Nat->RS):AV->Value->Prop
 |imm (a:AV) (v:Value) (h:IRep w M a v):Rep w M ρ a v
 |slDead (id off n sz:Nat) (c:Option Nat) (b cap:Nat) (h:ρ id= .dead) (hn:n<=cap) (hc:∀k,c=some k->cap=k):
   Rep w M ρ (.sl id off n sz c) (.slice (some ⟨b,off,none⟩) n cap)
 |slAt (id off n sz:Nat) (c:Option Nat) (b cap:Nat) (el:TypeId) (m:Nat) (h:ρ id= .here b) (hs:w.shape? b=some (el,m))
   (hn:n<=cap) (hc:∀k,c=some k->cap=k) (hm:off+cap*sz<=m):
   Rep w M ρ (.sl id off n sz c) (.slice (some ⟨b,off,none⟩) n cap)
 |ptrDead (id off b:Nat) (h:ρ id= .dead):Rep w M ρ (.ptr id off) (.pointer (some ⟨b,off,none⟩))
 |ptrAt (id off b:Nat) (h:ρ id= .here b) (hs:∃x,w.shape? b=some x):Rep w M ρ (.ptr id off) (.pointer (some ⟨b,off,none⟩))
 |agg (cs:List AV) (vs:Array Value) (hl:vs.size=cs.length)
   (hrep:∀(j:Nat) (a:AV) (v:Value),cs[j]?=some a->vs[j]?=some v->Rep w M ρ a v):Rep w M ρ (.agg cs) (.agg vs)
 |tup (cs:List AV) (vs:Array Value) (hl:vs.size=cs.length)
   (hrep:∀(j:Nat) (a:AV) (v:Value),cs[j]?=some a->vs[j]?=some v->Rep w M ρ a v):Rep w M ρ (.tup cs) (.tuple vs)
 |clo (f:FuncId) (cs:List AV) (vs:Array Value) (hf:f<65536) (hl:vs.size=cs.length)
   (hrep:∀(j:Nat) (a:AV) (v:Value),cs[j]?=some a->vs[j]?=some v->Rep w M ρ a v):Rep w M ρ (.clo f cs) (.func (.func f) #[] vs)
def Mu(F:Nat->Prop)(ρ:Nat->RS)(b:Nat):Prop:=F b\/∃i,ρ i= .here b
def zks(Γ:Glob)(w:World)(M:Nat->Prop)(ρ:Nat->RS)(cs:List AV)(b:Nat):Prop:=
 ∃el m,w.shape? b=some (el,m)/\cs.length<=m/\(∀j,w.frozen? ⟨b,j,none⟩=false)/\∀(j:Nat) (a:AV),cs[j]?=some a->∃v,w.cell? ⟨b,j,none⟩=some v/\Rep w M ρ a v
structure HOK(Γ:Glob)(w:World)(F:Nat->Prop)(ρ:Nat->RS)(H:Heap):Prop where
 inj:∀i j b,ρ i= .here b->ρ j= .here b->i=j
 notF:∀i b,ρ i= .here b->¬F b
 fLt:∀b,F b->b<w.heap.size
 unborn:∀i,H.length<=i->ρ i= .unborn
 alive:∀i cs,H[i]?=some (some cs)->∃b,ρ i= .here b
 blk:∀i b,ρ i= .here b->∃cs,H[i]?=some (some cs)/\zks Γ w (Mu F ρ) ρ cs b
 glob:∀g cs,(g,cs)∈Γ.globs->IRep w (Mu F ρ) (.iptr cs 0) (.pointer (some ⟨g,0,none⟩))
structure Kept(V:Nat->Prop)(w w':World):Prop where
 size:w.heap.size<=w'.heap.size
 same:∀b,b<w.heap.size->¬V b->w'.heap[b]?=w.heap[b]?
 shape:∀b,b<w.heap.size->w'.shape? b=w.shape? b
 frozen:∀b j,b<w.heap.size->w'.frozen? ⟨b,j,none⟩=w.frozen? ⟨b,j,none⟩
 rest:w'.os=w.os/\w'.output=w.output
theorem Kept.refl(V:Nat->Prop)(w:World):Kept V w w:=⟨qD _,λ_ _ _=>rfl,λ_ _=>rfl,λ_ _ _=>rfl,rfl,rfl⟩
theorem Kept.trans{V V':Nat->Prop}{w w1 w2:World}(h:Kept V w w1)(h':Kept V' w1 w2)(hv:∀b,b<w.heap.size->V' b->V b):Kept V w w2 where
 size:=xA h.size h'.size
 same b hb hn:=(h'.same b (qH hb h.size) (λx=>hn (hv b hb x))).trans (h.same b hb hn)
 shape b hb:=(h'.shape b (qH hb h.size)).trans (h.shape b hb)
 frozen b j hb:=(h'.frozen b j (qH hb h.size)).trans (h.frozen b j hb)
 rest:=⟨h'.rest.1.trans h.rest.1,h'.rest.2.trans h.rest.2⟩
theorem Kept.mono{V V':Nat->Prop}{w w1:World}(h:Kept V w w1)(hv:∀b,b<w.heap.size->V b->V' b):Kept V' w w1 where
 size:=h.size
 same b hb hn:=h.same b hb (λx=>hn (hv b hb x))
 shape:=h.shape
 frozen:=h.frozen
 rest:=h.rest
theorem zil{w w':World}{b:Nat}(h:w'.heap[b]?=w.heap[b]?)(o:Nat):w'.cell? ⟨b,o,none⟩=w.cell? ⟨b,o,none⟩:=by
 simp[World.cell?,h]
theorem ztm{w:World}{b o:Nat}{v:Value}(h:w.cell? ⟨b,o,none⟩=some v):b<w.heap.size:=
 World.block_lt_of_cell? w _ h
theorem IRep.kept{w w':World}{M M' V:Nat->Prop}{a:AV}{v:Value}(h:IRep w M a v)(hk:Kept V w w')
  (hV:∀b,V b->M b) (hM:∀b,b<w.heap.size->M' b->M b):IRep w' M' a v:=by
 induction h with
 |bool b=>exact .bool b
 |int k n=>exact .int k n
 |str s=>exact .str s
 |anyb b=>exact .anyb b
 |junk v=>exact .junk v
 |nil p c hc=>exact .nil p c hc
 |vec cs n c b off cap vs hMb hcell hrep hn hc ih=>
  refine .vec cs n c b off cap vs (λhne hm=>?_) (λj hj=>?_) ih hn hc
  ·have h0:0<cs.length:=List.length_pos_iff.2 hne;exact hMb hne (hM b (ztm (hcell 0 h0)) hm)
  ·have hlt:=ztm (hcell j hj);have hne:cs≠[]:=by intro e;subst e;simp at hj
   rw[zil (hk.same b hlt (λx=>hMb hne (hV b x)))];exact hcell j hj
 |iptr cs p b off vs hMb hcell hrep ih=>
  refine .iptr cs p b off vs (λhne hm=>?_) (λj hj=>?_) ih
  ·have h0:0<cs.length:=List.length_pos_iff.2 hne;exact hMb hne (hM b (ztm (hcell 0 h0)) hm)
  ·have hlt:=ztm (hcell j hj);have hne:cs≠[]:=by intro e;subst e;simp at hj
   rw[zil (hk.same b hlt (λx=>hMb hne (hV b x)))];exact hcell j hj
 |agg cs vs hl hrep ih=>exact .agg cs vs hl ih
 |tup cs vs hl hrep ih=>exact .tup cs vs hl ih
 |clo f cs vs hf hl hrep ih=>exact .clo f cs vs hf hl ih
theorem IRep.weaken{w:World}{M M':Nat->Prop}{a:AV}{v:Value}(h:IRep w M a v)(hM:∀b,b<w.heap.size->M' b->M b):IRep w M' a v:=
 h.kept (Kept.refl (λ_=>False) w) (λ_ x=>x.elim) hM
theorem Rep.kept{w w':World}{M M' V:Nat->Prop}{ρ ρ':Nat->RS}{a:AV}{v:Value}(h:Rep w M ρ a v)(hk:Kept V w w')
  (hV:∀b,V b->M b) (hM:∀b,b<w.heap.size->M' b->M b) (hlt:∀i b,ρ i= .here b->b<w.heap.size)
  (hρ:∀i,ρ i≠ .unborn->ρ' i=ρ i\/ρ' i= .dead):Rep w' M' ρ' a v:=by
 induction h with
 |imm a v h=>exact .imm a v (h.kept hk hV hM)
 |slDead id off n sz c b cap h hn hc=>
  exact .slDead id off n sz c b cap ((hρ id (by rw[h];simp)).elim (λe=>e.trans h) (λe=>e)) hn hc
 |slAt id off n sz c b cap el m h hs hn hc hm=>
  rcases hρ id (by rw[h];simp)with e | e
  ·exact .slAt id off n sz c b cap el m (e.trans h) (by rw[hk.shape b (hlt id b h)];exact hs) hn hc hm
  ·exact .slDead id off n sz c b cap e hn hc
 |ptrDead id off b h=>exact .ptrDead id off b ((hρ id (by rw[h];simp)).elim (λe=>e.trans h) (λe=>e))
 |ptrAt id off b h hs=>
  rcases hρ id (by rw[h];simp)with e | e
  ·exact .ptrAt id off b (e.trans h) (by rw[hk.shape b (hlt id b h)];exact hs)
  ·exact .ptrDead id off b e
 |agg cs vs hl hrep ih=>exact .agg cs vs hl ih
 |tup cs vs hl hrep ih=>exact .tup cs vs hl ih
 |clo f cs vs hf hl hrep ih=>exact .clo f cs vs hf hl ih
def AV.closed:AV->Bool
 |.sl .. => false
 |.ptr .. => false
 |.agg cs=>closedL cs
 |.tup cs=>closedL cs
 |.clo _ cs=>closedL cs
 |_=>true
 where closedL:List AV->Bool
 | []=>true
 |a::r=>a.closed && closedL r
theorem zfy{cs:List AV}(h:AV.closed.closedL cs=true):∀(j:Nat) (a:AV),cs[j]?=some a->a.closed=true:=by
 induction cs with
 |nil=>intro j a hj;simp at hj
 |cons x r ih=>
  simp only[AV.closed.closedL,qU]at h;intro j a hj;cases j with
  |zero=>simp at hj;subst hj;exact h.1
  |succ j=>exact ih h.2 j a (by simpa using hj)
theorem Rep.toI{w:World}{M:Nat->Prop}{ρ:Nat->RS}{a:AV}{v:Value}(h:Rep w M ρ a v)(hc:a.closed=true):IRep w M a v:=by
 induction h with
 |imm a v h=>exact h
 |slDead id off n sz c b cap h hn hc'=>simp[AV.closed]at hc
 |slAt id off n sz c b cap el m h hs hn hc' hm=>simp[AV.closed]at hc
 |ptrDead id off b h=>simp[AV.closed]at hc
 |ptrAt id off b h hs=>simp[AV.closed]at hc
 |agg cs vs hl hrep ih=>exact .agg cs vs hl (λj a v h1 h2=>ih j a v h1 h2 (zfy (by simpa[AV.closed]using hc) j a h1))
 |tup cs vs hl hrep ih=>exact .tup cs vs hl (λj a v h1 h2=>ih j a v h1 h2 (zfy (by simpa[AV.closed]using hc) j a h1))
 |clo f cs vs hf hl hrep ih=>exact .clo f cs vs hf hl (λj a v h1 h2=>ih j a v h1 h2 (zfy (by simpa[AV.closed]using hc) j a h1))
theorem Rep.unbornI{w:World}{M:Nat->Prop}{ρ:Nat->RS}{a:AV}{v:Value}(h:Rep w M ρ a v)(hu:∀i,ρ i= .unborn):IRep w M a v:=by
 induction h with
 |imm a v h=>exact h
 |slDead id off n sz c b cap h hn hc'=>rw[hu]at h;simp at h
 |slAt id off n sz c b cap el m h hs hn hc' hm=>rw[hu]at h;simp at h
 |ptrDead id off b h=>rw[hu]at h;simp at h
 |ptrAt id off b h hs=>rw[hu]at h;simp at h
 |agg cs vs hl hrep ih=>exact .agg cs vs hl ih
 |tup cs vs hl hrep ih=>exact .tup cs vs hl ih
 |clo f cs vs hf hl hrep ih=>exact .clo f cs vs hf hl ih
theorem ztn{w:World}{b:Nat}{x:TypeId×Nat}(h:w.shape? b=some x):b<w.heap.size:=by
 unfold World.shape? at h;rcases qJ b w.heap.size with h' | h'
 ·exact h'
 ·simp[Array.getElem?_eq_none h']at h
theorem zks.lt{Γ:Glob}{w:World}{M:Nat->Prop}{ρ:Nat->RS}{cs:List AV}{b:Nat}(h:zks Γ w M ρ cs b):b<w.heap.size:=by
 obtain⟨el,m,hs,_⟩:=h;exact ztn hs
theorem zks.mono{Γ:Glob}{w w':World}{M M':Nat->Prop}{ρ ρ':Nat->RS}{cs:List AV}{b:Nat}(h:zks Γ w M ρ cs b)(hw:w'.heap[b]?=w.heap[b]?)
  (hr:∀a v,a∈cs->Rep w M ρ a v->Rep w' M' ρ' a v):zks Γ w' M' ρ' cs b:=by
 obtain⟨el,m,h1,h2,h3,h4⟩:=h;refine⟨el,m,by simpa[World.shape?,hw]using h1,h2,λj=>by simpa[World.frozen?,hw]using h3 j,λj a hj=>?_⟩;obtain⟨v,hv,hv'⟩:=h4 j a hj;exact⟨v,by rw[zil hw];exact hv,hr _ _ (List.mem_of_getElem? hj) hv'⟩
theorem zks.cells{Γ:Glob}{w:World}{M:Nat->Prop}{ρ:Nat->RS}{cs:List AV}{b:Nat}(h:zks Γ w M ρ cs b)(_:∃x,w.shape? b=some x):
  ∃el m,w.shape? b=some (el,m)/\cs.length<=m/\(∀j,w.frozen? ⟨b,j,none⟩=false)/\∀(j:Nat) (a:AV),cs[j]?=some a->∃v,w.cell? ⟨b,j,none⟩=some v/\Rep w M ρ a v:=h
theorem HOK.lt{Γ:Glob}{w:World}{F:Nat->Prop}{ρ:Nat->RS}{H:Heap}(h:HOK Γ w F ρ H):∀i b,ρ i= .here b->b<w.heap.size:=by
 intro i b hb;obtain⟨cs,_,hb⟩:=h.blk i b hb;exact hb.lt
inductive Opd where
 |t (n:Nat)
 |k (a:AV)
 deriving Inhabited
inductive CK where
 |mov (x:Opd)
 |pick (c a b:Opd)
 |box (x:Opd)
 |build (zero:List AV) (parts:List (Nat×Nat×Opd))
 |bsl (n sz:Nat) (zero:List AV) (parts:List (Nat×Nat×Opd))
 |load (ag:Bool) (sz:Nat) (x:Opd)
 |store (sz:Nat) (x v:Opd)
 |nilck (x:Opd)
 |bin (op:BinOp) (x y:Opd)
 |beq (neg:Bool) (x y:Opd)
 |snil (neg:Bool) (x:Opd)
 |un (op:UnOp) (x:Opd)
 |conv (k:IntKind) (x:Opd)
 |b2s (x:Opd)
 |mksl (sz bytes:Nat) (zero:List AV) (len cap:Opd)
 |slice (sz:Nat) (x:Opd) (lo hi mx:Option Opd)
 |slarr (n sz:Nat) (x:Opd) (lo hi mx:Option Opd)
 |fld (off:Nat) (x:Opd)
 |part (ag:Bool) (sz off:Nat) (x:Opd)
 |idx (sz:Nat) (x i:Opd)
 |idxa (n sz:Nat) (x i:Opd)
 |idxv (n:Nat) (ag:Bool) (sz:Nat) (x i:Opd)
 |idxs (x i:Opd)
 |ext (x:Opd) (i:Nat)
 |len (st:Bool) (x:Opd)
 |append (sz bytes:Nat) (s x:Opd)
 |copy (sz:Nat) (d s:Opd)
 |max (x y:Opd)
 |mkfn (f:FuncId) (caps:List Opd)
 |call (f:FuncId) (args:List Opd)
 |callc (x:Opd) (args:List Opd)
 deriving Inhabited
structure COp where
 dst:Option Nat
 g:Option (Nat×Bool)
 k:CK
 deriving Inhabited
def zjl:Value->Option AV
 |.bool b=>some (.bool b)
 |.int k n=>some (.int k n)
 |.string s=>some (.str s)
 |.slice none 0 0=>some (.vec [] 0 (some 0))
 |_=>none
def ofV:Value->Option AV
 |.agg cs=>(cs.toList.mapM zjl).map .agg
 |v=>zjl v
def cOpd(Γ:Glob):Operand->Option Opd
 |.tmp t=>some (.t t)
 |.const v=>(ofV v).map .k
 |.global g=>(Γ.globs.find? (·.1 == g)).map λx=> .k (.iptr x.2 0)
 |.func f=>if f<65536 then some (.k (.clo f []))else none
def zrx(P:Program)(t:TypeId):Option Bool:=
 (P.underlying t).map fun | .struct _ | .array _ _=>true | _=>false
def szT(P:Program)(t:TypeId):Option Nat:=(P.info? t).map (·.size)
def zlf(P:Program)(t:TypeId):Option (List AV):=
 match P.info? t with
 |some i=>match i.zero with
  |some z=>z.cells.toList.mapM zjl
  |none=>none
 |none=>none
def qhs(P:Program)(t:TypeId):Option AV:=
 match P.info? t with
 |some i=>match i.zero with
  |some z=>ofV z
  |none=>none
 |none=>none
def ldSz(P:Program)(t:TypeId):Option (Bool×Nat):=
 match zrx P t,szT P t with
 |some true,some s=>some (true,s)
 |some false,some _=>some (false,1)
 |_,_=>none
def qcg(P:Program)(fields:Array Field):Option (List (Nat×Nat)):=
 fields.toList.mapM λf=>(szT P f.type).map λs=>(f.offset,s)
def zry(P:Program)(t:TypeId):Option (Nat->Option (Nat×Nat)):=
 match P.underlying t with
 |some (.struct fields)=>(qcg P fields).map λl i=>l[i]?
 |some (.array _ elem)=>(szT P elem).map λs i=>some (i*s,s)
 |_=>none
def znh(Γ:Glob)(pl:Nat->Option (Nat×Nat)):List (Nat×Operand)->Option (List (Nat×Nat×Opd))
 | []=>some []
 |(i,x)::r=>(pl i).bind λp=>(cOpd Γ x).bind λy=>(znh Γ pl r).bind λl=>some ((p.1,p.2,y)::l)
def zza(P:Program)(f:FuncId):Bool:=
 match P.funcs[f]? with
 |some fn=>fn.body.isSome && fn.name != "runtime.NumGoroutine"
 |none=>false
def okFn(P:Program)(f:FuncId):Bool:=Nat.beq f 4095 || zza P f
def zfb(P:Program)(Γ:Glob)(o:Op):Option CK:=
 let c:=cOpd Γ
 match o with
 |.move x | .assign x=>(c x).map .mov
 |.pick x a b=>do some (.pick (<-c x) (<-c a) (<-c b))
 |.box _ x=>do some (.box (<-c x))
 |.alloc t=>do
  let z <-qhs P t
  some (.box (.k z))
 |.build t ps=>do
  let z <-zlf P t;let pl <-zry P t;let ps <-znh Γ pl ps.toList
  some (.build z ps)
 |.buildSlice t n ps=>do
  let .slice el <-P.underlying t | none
  let s <-szT P el;let z <-zlf P el;let ps <-znh Γ (λi=>some (i*s,s)) ps.toList
  if s=z.length/\n*s<=2^24 then some (.bsl n s (List.replicate n z).flatten ps)else none
 |.load t a=>do
  let s <-ldSz P t
  some (.load s.1 s.2 (<-c a))
 |.store t a v=>do some (.store (<-szT P t) (<-c a) (<-c v))
 |.nilCheck x=>(c x).map .nilck
 |.binOp op t x y _=>
  match P.underlying t,op with
  |some (.int _),_=>do some (.bin op (<-c x) (<-c y))
  |some .string,_=>do some (.bin op (<-c x) (<-c y))
  |some .bool,.eql=>do some (.beq false (<-c x) (<-c y))
  |some .bool,.neq=>do some (.beq true (<-c x) (<-c y))
  |some (.slice _),.eql=>match y with
   |.const (.slice none 0 0)=>(c x).map (.snil false)
   |_=>none
  |_,_=>none
 |.unOp op _ x=>(c x).map (.un op)
 |.convert src dst x=>
  match P.underlying src,P.underlying dst with
  |some _,some (.int k)=>(c x).map (.conv k)
  |some (.slice e),some .string=>match P.underlying e with
   |some (.int .u8)=>(c x).map .b2s
   |_=>none
  |_,_=>none
 |.makeSlice t l m=>do
  let .slice el <-P.underlying t | none
  let i <-P.info? el
  some (.mksl i.size i.bytes (<-zlf P el) (<-c l) (<-c m))
 |.slice t x lo hi mx=>do
  let x <-c x;let lo <-lo.mapM c;let hi <-hi.mapM c;let mx <-mx.mapM c
  match P.underlying t with
  |some (.slice el)=>some (.slice (<-szT P el) x lo hi mx)
  |some (.array n el)=>some (.slarr n (<-szT P el) x lo hi mx)
  |_=>none
 |.fieldAddr s x f=>
  match P.underlying s with
  |some (.struct fields)=>match fields[f]? with
   |some fd=>do
    let z <-szT P fd.type
    if z=0 then none else some (.fld fd.offset (<-c x))
   |none=>none
  |_=>none
 |.field t x f=>
  match P.underlying t with
  |some (.struct fields)=>match fields[f]? with
   |some fd=>do
    let s <-ldSz P fd.type
    some (.part s.1 s.2 fd.offset (<-c x))
   |none=>none
  |_=>none
 |.indexAddr t x i=>
  match P.underlying t with
  |some (.slice el)=>do some (.idx (<-szT P el) (<-c x) (<-c i))
  |some (.array n el)=>do some (.idxa n (<-szT P el) (<-c x) (<-c i))
  |_=>none
 |.index t x i=>
  match P.underlying t with
  |some (.array n el)=>do
   let s <-ldSz P el;let z <-szT P el;let x <-c x;let i <-c i
   if z=s.2 then some (.idxv n s.1 s.2 x i)else none
  |some .string=>do some (.idxs (<-c x) (<-c i))
  |_=>none
 |.extract x i=>do some (.ext (<-c x) i)
 |.makeFunc (.func f) first caps=>if f<4095 then(if first.isEmpty then do some (.mkfn f (<-caps.toList.mapM c))else none)else none
 |.call cl=>
  match cl.callee with
  |.builtin .len=>
   match (cl.argTypes[0]?).bind P.underlying,cl.args.toList with
   |some (.slice _),[x]=>(c x).map (.len false)
   |some .string,[x]=>(c x).map (.len true)
   |_,_=>none
  |.builtin .append=>
   match (cl.argTypes[0]?).bind P.underlying,(cl.argTypes[1]?).bind P.underlying,cl.args.toList with
   |some (.slice el),some (.slice _),[s,x]=>do
    let i <-P.info? el;let z <-zlf P el
    if z.length=i.size then some (.append i.size i.bytes (<-c s) (<-c x))else none
   |_,_,_=>none
  |.builtin .copy=>
   match (cl.argTypes[0]?).bind P.underlying,cl.args.toList with
   |some (.slice el),[d,s]=>do some (.copy (<-szT P el) (<-c d) (<-c s))
   |_,_=>none
  |.builtin .max=>match cl.args.toList with
   | [x,y]=>do some (.max (<-c x) (<-c y))
   |_=>none
  |.value (.func f)=>if zza P f && !Nat.beq f 4095 then do some (.call f (<-cl.args.toList.mapM c))else none
  |.value (.tmp t)=>do some (.callc (.t t) (<-cl.args.toList.mapM c))
  |_=>none
 |_=>none
inductive CC where
 |skip
 |reg (ops:List COp) (draw:Option (List (Nat×Nat)))
 |seq (a b:CC)
 |cond (c:Opd) (x y:CC)
 |block (id:Nat) (c:CC)
 |loop (c:CC)
 |exit (id:Nat)
 |scope (c:CC)
 |label (l:Nat)
 |goto (l:Nat)
 |ret
 |range (x:Opd) (k:Nat) (ps:List Nat) (a b:CC)
 deriving Inhabited
def CC.flat:CC->Bool
 |.seq a b=>a.flat && b.flat
 |.cond _ a b=>a.flat && b.flat
 |.block _ c=>c.flat
 |.loop c=>c.flat
 |.scope c=>c.flat
 |.range .. => false
 |_=>true
def jid(nt:Nat)(ps:List Nat):Nat:=nt*1024+ps.headD 0
def zko(ops:Array Oper):Option (Nat×Bool)->Option (Option (Nat×Bool))
 |none=>some none
 |some (j,want)=>match (ops[j]?).bind (·.dst)with
  |some d=>some (some (d,want))
  |none=>none
def qqd(nt:Nat):Option Nat->Bool
 |some d=>decide (d<nt)
 |none=>true
def qht(P:Program)(Γ:Glob)(nt:Nat)(ops:Array Oper)(o:Oper):Option COp:=
 match zko ops o.guard,zfb P Γ o.op with
 |some g,some k=>if qqd nt o.dst then some { dst:=o.dst,g:=g,k:=k }else none
 |_,_=>none
def qyj(P:Program)(Γ:Glob)(nt:Nat)(ops:Array Oper):Option (List COp):=ops.toList.mapM (qht P Γ nt ops)
def CK.opds:CK->List Opd
 |.mov x | .box x | .load _ _ x | .nilck x | .snil _ x | .un _ x | .conv _ x | .b2s x | .fld _ x | .part _ _ _ x | .ext x _ | .len _ x=>[x]
 |.pick c a b=>[c,a,b]
 |.build _ ps | .bsl _ _ _ ps=>ps.map (·.2.2)
 |.store _ x y | .bin _ x y | .beq _ x y | .mksl _ _ _ x y | .idx _ x y | .idxa _ _ x y | .idxv _ _ _ x y | .idxs x y | .append _ _ x y | .copy _ x y | .max x y=>[x,y]
 |.slice _ x lo hi mx | .slarr _ _ x lo hi mx=>x::(lo.toList++hi.toList++mx.toList)
 |.mkfn _ l | .call _ l=>l
 |.callc x l=>x::l
def zin:List Opd->List Nat
 | []=>[]
 |.t n::r=>n::zin r
 |.k _::r=>zin r
def COp.reads(o:COp):List Nat:=
 match o.g with
 |some (d,_)=>d::zin o.k.opds
 |none=>zin o.k.opds
def ordB(ops:Array Oper):Nat->Nat->Nat->Bool
 |0,_,_=>false
 |n+1,x,i=>match ops[i]? with
  |some o=>o.after.any λe=>Region.binds .any e && (e.on == x || (Nat.blt x e.on && ordB ops n x e.on))
  |none=>false
def qch(x y:COp):Bool:=
 (match x.dst with
  |some d=>!(y.reads).contains d && y.dst != some d
  |none=>true) &&
 (match y.dst with
  |some d=>!(x.reads).contains d
  |none=>true)
def qci(ops:Array Oper):List (Nat×Nat):=
 (List.range ops.size).flatMap λi=>((List.range i).filter λx=>!ordB ops 5 x i).map λx=>(x,i)
def CK.loud:CK->Bool
 |.box _ | .bsl .. | .load .. | .store .. | .b2s _ | .mksl .. | .slarr .. | .append .. | .copy .. | .call .. | .callc .. => true
 |_=>false
def qhu(ops:Array Oper)(cs:List COp):Bool:=
 (ops.toList.zipIdx.all λ(o,i)=>o.after.all λe=>!Region.binds .any e || decide (e.on<i)) &&
 (qci ops).all λ(x,i)=>match cs[x]?,cs[i]? with
  |some a,some b=>qch a b
  |_,_=>false
def zlg(ops:Array Oper)(cs:List COp):List (Nat×Nat):=
 (qci ops).filter λ(x,i)=>match cs[x]?,cs[i]? with
  |some a,some b=>a.k.loud && b.k.loud
  |_,_=>true
def zdo(P:Program)(Γ:Glob)(nt:Nat):Code->Option CC
 |.skip=>some .skip
 |.region _ ops draw=>match qyj P Γ nt ops with
  |some cs=>if draw then(if qhu ops cs then some (.reg cs (some (zlg ops cs)))else none)else some (.reg cs none)
  |none=>none
 |.seq a b=>match zdo P Γ nt a,zdo P Γ nt b with
  |some a,some b=>some (.seq a b)
  |_,_=>none
 |.cond x a b=>match cOpd Γ x,zdo P Γ nt a,zdo P Γ nt b with
  |some x,some a,some b=>some (.cond x a b)
  |_,_,_=>none
 |.block id c=>match zdo P Γ nt c with
  |some c=>some (.block id c)
  |none=>none
 |.loop c=>match zdo P Γ nt c with
  |some c=>some (.loop c)
  |none=>none
 |.exit id=>some (.exit id)
 |.scope c=>match zdo P Γ nt c with
  |some c=>some (.scope c)
  |none=>none
 |.label l=>some (.label l)
 |.goto l=>some (.goto l)
 |.ret=>some .ret
 |.rangeFunc g ps a b=>match cOpd Γ g,zdo P Γ nt a,zdo P Γ nt b with
  |some x,some a,some b=>some (.range x (jid nt ps.toList) ps.toList a b)
  |_,_,_=>none
 |_=>none
abbrev Env:=Nat->AV
abbrev Eff:=List (Nat×Option (List AV))
def upd(E:Env)(d:Nat)(v:AV):Env:=λt=>if t=d then v else E t
def updO(E:Env)(d:Option Nat)(v:AV):Env:=match d with | some d=>upd E d v | none=>E
def val(E:Env):Opd->AV
 |.t n=>E n
 |.k a=>a
def need(c:Prop)[Decidable c]{α:Type}(x:Option α):Option α:=if c then x else none
def AV.cells:AV->List AV
 |.agg cs=>cs
 |a=>[a]
def AV.scal:AV->Bool
 |.agg _=>false
 |.tup _=>false
 |.junk=>false
 |_=>true
def AV.scalL:List AV->Bool
 | []=>true
 |a::r=>a.scal && scalL r
def AV.firm:AV->Bool
 |.tup _=>false
 |.junk=>false
 |_=>true
def getB(H:Heap)(id:Nat):Option (List AV):=match H[id]? with | some (some cs)=>some cs | _=>none
def setL:List AV->Nat->List AV->List AV
 |l,_,[]=>l
 |l,i,v::vs=>setL (l.set i v) (i+1) vs
def zac:Eff->Heap->Heap
 | [],H=>H
 |(i,c)::r,H=>zac r (H.set i c)
def zeo(c:Nat):List AV->List AV
 | [z]=>List.replicate c z
 |zs=>(List.replicate c zs).flatten
def zfn(V:Opd->AV):List AV->List (Nat×Nat×Opd)->Option (List AV)
 |cs,[]=>some cs
 |cs,(off,s,x)::r=>
  need ((V x).firm=true/\(V x).cells.length=s/\off+s<=cs.length) (zfn V (setL cs off (V x).cells) r)
def ldv(ag:Bool)(sz off:Nat)(cs:List AV):AV:=if ag then .agg ((cs.drop off).take sz)else cs.getD off .junk
def binA(op:BinOp):AV->AV->Option AV
 |.int k a,.int k' b=>
  match op with
  |.shl=>need (0<=b) (some (.int k (k.wrap (a*2^(min b.toNat k.bits)))))
  |.shr=>need (0<=b) (some (.int k (a.fdiv (2^(min b.toNat k.bits)))))
  |.add=>need (k=k') (some (.int k (k.wrap (a+b))))
  |.sub=>need (k=k') (some (.int k (k.wrap (a-b))))
  |.mul=>need (k=k') (some (.int k (k.wrap (a*b))))
  |.quo=>need (k=k'/\b≠0) (some (.int k (k.wrap (a.tdiv b))))
  |.rem=>need (k=k'/\b≠0) (some (.int k (a.tmod b)))
  |.and=>need (k=k') (some (.int k (k.wrap (BitVec.ofInt k.bits a &&& BitVec.ofInt k.bits b).toNat)))
  |.or=>need (k=k') (some (.int k (k.wrap (BitVec.ofInt k.bits a ||| BitVec.ofInt k.bits b).toNat)))
  |.xor=>need (k=k') (some (.int k (k.wrap (BitVec.ofInt k.bits a ^^^ BitVec.ofInt k.bits b).toNat)))
  |.andNot=>need (k=k') (some (.int k (k.wrap (BitVec.ofInt k.bits a &&& ~~~ BitVec.ofInt k.bits b).toNat)))
  |.eql=>need (k=k') (some (.bool (a == b)))
  |.neq=>need (k=k') (some (.bool (a != b)))
  |.lss=>need (k=k') (some (.bool (decide (a<b))))
  |.leq=>need (k=k') (some (.bool (decide (a<=b))))
  |.gtr=>need (k=k') (some (.bool (decide (a>b))))
  |.geq=>need (k=k') (some (.bool (decide (a>=b))))
 |.str a,.str b=>
  match op with
  |.add=>need ((a.size+b.size:Nat)<=IntKind.i64.max) (some (.str (a++b)))
  |.eql=>some (.bool (a.toList == b.toList))
  |.neq=>some (.bool !(a.toList == b.toList))
  |_=>none
 |_,_=>none
def unA(op:UnOp):AV->Option AV
 |.int k n=>match op with
  |.neg=>some (.int k (k.wrap (0-n)))
  |_=>none
 |.bool b=>match op with
  |.not=>some (.bool !b)
  |_=>none
 |_=>none
def zgx:AV->Option Nat
 |.int _ n=>need (0<=n) (some n.toNat)
 |_=>none
def zbw(V:Opd->AV)(d:Nat):Option Opd->Option Nat
 |none=>some d
 |some x=>zgx (V x)
def zdn(l:Nat):Option Nat->Option Nat
 |none=>none
 |some c=>some (c-l)
def zio(id off sz:Nat):Nat->Option Nat->AV
 |0,none=> .sl id off 0 sz none
 |l,c=> .vec [] 0 (zdn l c)
theorem zzb{id off sz l q:Nat}:zio id off sz l (some q)= .vec [] 0 (some (q-l)):=by cases l<;>rfl
def zej(V:Opd->AV)(sz:Nat)(x:AV)(lo hi mx:Option Opd):Option AV:=
 match x with
 |.vec cs n c=>
  (zbw V n hi).bind λh=>(zbw V 0 lo).bind λl=>
  match mx with
  |none=>need (l<=h/\h<=n/\n*sz<=cs.length) (some (.vec ((cs.drop (l*sz)).take ((h-l)*sz)) (h-l) (zdn l c)))
  |some m=>(zgx (V m)).bind λm=>need (hi.isSome=true/\l<=h/\h<=m/\m<=n/\n*sz<=cs.length) (some (.vec ((cs.drop (l*sz)).take ((h-l)*sz)) (h-l) (some (m-l))))
 |.sl id off n s c=>
  (zbw V n hi).bind λh=>(zbw V 0 lo).bind λl=>
  match mx with
  |none=>need (s=sz/\l<=h/\h<=n) (some (if l=h then zio id off sz l c else .sl id (off+l*sz) (h-l) sz (zdn l c)))
  |some m=>(zgx (V m)).bind λm=>need (hi.isSome=true/\s=sz/\l<=h/\h<=m/\m<=n) (some (if l=h then .vec [] 0 (some (m-l))else .sl id (off+l*sz) (h-l) sz (some (m-l))))
 |_=>none
abbrev Res:=AV×Eff×List Nat
def zea(H:Heap)(sz n:Nat):AV->Option (List AV×List Nat)
 |.vec cs m _=>need (n<=m/\n*sz<=cs.length) (some (cs.take (n*sz),[]))
 |.sl id off m s _=>match getB H id with
  |some cs=>need (s=sz/\n<=m/\off+n*sz<=cs.length) (some ((cs.drop off).take (n*sz),[id]))
  |none=>none
 |_=>none
def lenA:AV->Option Nat
 |.vec _ n _=>some n
 |.sl _ _ n _ _=>some n
 |.str s=>some s.size
 |_=>none
def zni:List AV->Option (List UInt8)
 | []=>some []
 |.int .u8 n::r=>(zni r).bind λl=>some (UInt8.ofNat n.toNat::l)
 |_=>none
def zby(n0 fresh:Nat)(H:Heap)(sz bytes:Nat)(s x:AV):Option Res:=
 (lenA x).bind λm=>(zea H sz m x).bind λxs=>
 (if m=0 then(match s with
  |.vec cs n c=>some (.vec cs n c,[],xs.2)
  |.sl id off n s' c=>some (.sl id off n s' c,[],xs.2)
  |_=>none)
 else match s with
  |.vec cs n c=>need (c=some n/\n*sz<=cs.length/\4*(n+m)*bytes<=2^48/\n+m<2^62)
    (some (.sl fresh 0 (n+m) sz none,[(fresh,some (cs.take (n*sz)++xs.1))],xs.2))
  |.sl id off n s' c=>match getB H id with
   |some cs=>need (s'=sz/\off=0/\n*sz<=cs.length/\4*(n+m)*bytes<=2^48/\n+m<2^62) (
     if c=some n then some (.sl fresh 0 (n+m) sz none,[(fresh,some (cs.take (n*sz)++xs.1))],id::xs.2)
     else need (0<=id/\id≠fresh/\AV.scalL xs.1=true) (some (.sl fresh 0 (n+m) sz none,[(id,none),(fresh,some (cs.take (n*sz)++xs.1))],id::xs.2)))
   |none=>none
  |_=>none)
def evK(n0 fresh:Nat)(k:CK)(V:Opd->AV)(H:Heap):Option Res:=
 match k with
 |.mov x=>some (V x,[],[])
 |.pick c a b=>match V c with
  |.bool t=>some (if t then V a else V b,[],[])
  |_=>none
 |.box x=>need ((V x).firm=true) (some (.ptr fresh 0,[(fresh,some (V x).cells)],[]))
 |.build z ps=>(zfn V z ps).bind λcs=>some (.agg cs,[],[])
 |.bsl n sz z ps=>(zfn V z ps).bind λcs=>need (n*sz=z.length) (some (.sl fresh 0 n sz (some n),[(fresh,some cs)],[]))
 |.load ag sz x=>match V x with
  |.ptr id off=>match getB H id with
   |some cs=>need (off+sz<=cs.length/\(ag=false->sz=1)) (some (ldv ag sz off cs,[],[id]))
   |none=>none
  |.iptr cs p=>need (p+sz<=cs.length/\(ag=false->sz=1)) (some (ldv ag sz p cs,[],[]))
  |_=>none
 |.store sz x v=>match V x with
  |.ptr id off=>match getB H id with
   |some cs=>need ((V v).firm=true/\(V v).cells.length=sz/\AV.scalL (V v).cells=true/\off+sz<=cs.length) (some (.junk,[(id,some (setL cs off (V v).cells))],[id]))
   |none=>none
  |_=>none
 |.nilck x=>match V x with
  |.ptr id off=>some (.ptr id off,[],[])
  |.iptr cs p=>some (.iptr cs p,[],[])
  |_=>none
 |.bin op x y=>(binA op (V x) (V y)).bind λv=>some (v,[],[])
 |.beq neg x y=>match V x,V y with
  |.bool a,.bool b=>some (.bool (if neg then !(a == b)else(a == b)),[],[])
  |_,_=>none
 |.snil neg x=>match V x with
  |.vec _ n _=>if n=0 then some (.anyb,[],[])else some (.bool neg,[],[])
  |.sl .. => some (.bool neg,[],[])
  |_=>none
 |.un op x=>(unA op (V x)).bind λv=>some (v,[],[])
 |.conv k x=>match V x with
  |.int _ n=>some (.int k (k.wrap n),[],[])
  |_=>none
 |.b2s x=>(lenA (V x)).bind λn=>(zea H 1 n (V x)).bind λxs=>(zni xs.1).bind λl=>some (.str ⟨l.toArray⟩,[],xs.2)
 |.mksl sz bytes z l c=>match V l,V c with
  |.int _ n,.int _ c=>need (0<=n/\n<=c/\c*bytes<=2^48/\c<2^63/\z.length=sz/\0<sz)
    (some (.sl fresh 0 n.toNat sz (some c.toNat),[(fresh,some (zeo c.toNat z))],[]))
  |_,_=>none
 |.slice sz x lo hi mx=>(zej V sz (V x) lo hi mx).bind λv=>some (v,[],[])
 |.slarr n sz x lo hi mx=>match V x with
  |.ptr id off=>match getB H id with
   |some cs=>need (off+n*sz<=cs.length) ((zej V sz (.sl id off n sz (some n)) lo hi mx).bind λv=>some (v,[],[id]))
   |none=>none
  |.iptr cs p=>need (p+n*sz<=cs.length) ((zej V sz (.vec ((cs.drop p).take (n*sz)) n (some n)) lo hi mx).bind λv=>some (v,[],[]))
  |_=>none
 |.fld off x=>match V x with
  |.ptr id o=>some (.ptr id (o+off),[],[])
  |.iptr cs p=>some (.iptr cs (p+off),[],[])
  |_=>none
 |.part ag sz off x=>match V x with
  |.agg cs=>need (off+sz<=cs.length/\(ag=false->sz=1)) (some (ldv ag sz off cs,[],[]))
  |_=>none
 |.idx sz x i=>match V x,V i with
  |.sl id off n s _,.int _ j=>need (s=sz/\0<=j/\j<n) (some (.ptr id (off+j.toNat*sz),[],[]))
  |.vec cs n _,.int _ j=>need (0<=j/\j<n) (some (.iptr cs (j.toNat*sz),[],[]))
  |_,_=>none
 |.idxa n sz x i=>match V x,V i with
  |.ptr id off,.int _ j=>need (0<=j/\j<n) (some (.ptr id (off+j.toNat*sz),[],[]))
  |.iptr cs p,.int _ j=>need (0<=j/\j<n) (some (.iptr cs (p+j.toNat*sz),[],[]))
  |_,_=>none
 |.idxv n ag sz x i=>match V x,V i with
  |.agg cs,.int _ j=>need (0<=j/\j<n/\j.toNat*sz+sz<=cs.length/\(ag=false->sz=1)) (some (ldv ag sz (j.toNat*sz) cs,[],[]))
  |_,_=>none
 |.idxs x i=>match V x,V i with
  |.str s,.int _ j=>need (0<=j/\j<s.size) (some (.int .u8 (s.data.getD j.toNat 0).toNat,[],[]))
  |_,_=>none
 |.ext x i=>match V x with
  |.tup vs=>match vs[i]? with
   |some v=>some (v,[],[])
   |none=>none
  |_=>none
 |.len st x=>match st,V x with
  |true,.str s=>some (.int .i64 s.size,[],[])
  |false,.vec _ n _=>some (.int .i64 n,[],[])
  |false,.sl _ _ n _ _=>some (.int .i64 n,[],[])
  |_,_=>none
 |.append sz bytes s x=>zby n0 fresh H sz bytes (V s) (V x)
 |.copy sz d s=>match V d with
  |.sl id off n s' _=>match getB H id with
   |some cs=>(lenA (V s)).bind λm=>(zea H sz (min m n) (V s)).bind λxs=>
     need (s'=sz/\off+n*sz<=cs.length/\AV.scalL xs.1=true)
      (some (.int .i64 (min m n:Nat),[(id,some (setL cs off xs.1))],id::xs.2))
   |none=>none
  |_=>none
 |.max x y=>match V x,V y with
  |.int k a,.int _ b=>some (.int k (if b>a then b else a),[],[])
  |_,_=>none
 |.mkfn f caps=>some (.clo f (caps.map V),[],[])
 |.call .. => none
 |.callc .. => none
theorem ztq{n m:Nat}:Nat.blt n m=true↔n<m:=by
 unfold Nat.blt;rw[Nat.ble_eq];exact Iff.rfl
def cloF(f:Nat):Nat:=match Nat.blt f 65536 with
 |true=>f
 |false=>f-65536
def okC(ok:Nat->Bool)(f:Nat):Bool:=ok (cloF f) && Nat.blt f 131072 && !Nat.beq f 4095
theorem ztr{ok ok':Nat->Bool}{f:Nat}(h:∀f,ok f=true->ok' f=true)(hf:okC ok f=true):okC ok' f=true:=by
 simp only[okC,qU]at hf ⊢;exact⟨⟨h _ hf.1.1,hf.1.2⟩,hf.2⟩
def cloA(f:Nat)(args caps:List AV):List AV:=match Nat.blt f 65536 with
 |true=>args++caps
 |false=>caps++args
def updR(ρ:Nat->RS)(i:Nat)(r:RS):Nat->RS:=λj=>if j=i then r else ρ j
structure After(Γ:Glob)(F:Nat->Prop)(n0:Nat)(ρ:Nat->RS)(w:World)(ρ':Nat->RS)(w':World)(H':Heap)(new:List Nat):Prop where
 hok:HOK Γ w' F ρ' H'
 kept:Kept (λb=>∃i,ρ i= .here b) w w'
 ext:∀i,ρ i≠ .unborn->ρ' i=ρ i\/(0<=i/\ρ' i= .dead)
 old:∀i b,ρ' i= .here b->(∃j,ρ j= .here b)\/w.heap.size<=b
 still:∀i,ρ i= .unborn->i∉new->ρ' i= .unborn
theorem Mu.mono{F:Nat->Prop}{ρ ρ':Nat->RS}{w:World}(h:∀i b,ρ' i= .here b->(∃j,ρ j= .here b)\/w.heap.size<=b):
  ∀b,b<w.heap.size->Mu F ρ' b->Mu F ρ b:=by
 rintro b hb (hf | ⟨i,hi⟩)
 ·exact .inl hf
 ·rcases h i b hi with⟨j,hj⟩ | hle
  ·exact .inr ⟨j,hj⟩
  ·omega
theorem Rep.after{Γ:Glob}{F:Nat->Prop}{n0:Nat}{ρ ρ':Nat->RS}{w w':World}{H H':Heap}{new:List Nat}{a:AV}{v:Value}
  (ho:HOK Γ w F ρ H) (ha:After Γ F n0 ρ w ρ' w' H' new) (h:Rep w (Mu F ρ) ρ a v):Rep w' (Mu F ρ') ρ' a v:=
 h.kept ha.kept (λ_ hb=> .inr hb) (Mu.mono ha.old) ho.lt (λi hi=>(ha.ext i hi).imp id (λx=>x.2))
theorem After.trans{Γ:Glob}{F:Nat->Prop}{n0:Nat}{ρ ρ1 ρ2:Nat->RS}{w w1 w2:World}{H1 H2:Heap}{n1 n2:List Nat}
  (h:After Γ F n0 ρ w ρ1 w1 H1 n1) (h':After Γ F n0 ρ1 w1 ρ2 w2 H2 n2):After Γ F n0 ρ w ρ2 w2 H2 (n1++n2) where
 hok:=h'.hok
 kept:=h.kept.trans h'.kept (by
  rintro b hb ⟨i,hi⟩;rcases h.old i b hi with hj | hle
  ·exact hj
  ·omega)
 ext i hi:=by
  rcases h.ext i hi with e | ⟨hn,e⟩
  ·rcases h'.ext i (by rw[e];exact hi)with e' | ⟨hn,e'⟩
   ·exact .inl (e'.trans e)
   ·exact .inr ⟨hn,e'⟩
  ·rcases h'.ext i (by rw[e];simp)with e' | ⟨hn,e'⟩
   ·exact .inr ⟨hn,e'.trans e⟩
   ·exact .inr ⟨hn,e'⟩
 old i b hi:=by
  rcases h'.old i b hi with⟨j,hj⟩ | hle
  ·exact h.old j b hj
  ·exact .inr (xA h.kept.size hle)
 still i hi hn:=by
  simp only[qO,not_or]at hn;exact h'.still i (h.still i hi hn.1) hn.2
theorem HOK.same{Γ:Glob}{w w':World}{F:Nat->Prop}{ρ:Nat->RS}{H:Heap}(h:HOK Γ w F ρ H)(hw:w'.heap=w.heap)(hz:w'.os=w.os/\w'.output=w.output):HOK Γ w' F ρ H:=by
 have hk:Kept (λb=>∃i,ρ i= .here b) w w':=
  ⟨by rw[hw];exact qD _,λb _ _=>by rw[hw],λb _=>by simp[World.shape?,hw],λb j _=>by simp[World.frozen?,hw],hz⟩
 have hr:∀a v,Rep w (Mu F ρ) ρ a v->Rep w' (Mu F ρ) ρ a v:=λa v hr=>hr.kept hk (λ_ hb=> .inr hb) (λ_ _ x=>x) h.lt (λ_ _=> .inl rfl)
 refine⟨h.inj,h.notF,λb hb=>by rw[hw];exact h.fLt b hb,h.unborn,h.alive,λi b hi=>?_,λg cs hg=>?_⟩
 ·obtain⟨cs,h1,h2⟩:=h.blk i b hi;exact⟨cs,h1,h2.mono (by rw[hw]) (λ_ _ _=>hr _ _)⟩
 ·exact(h.glob g cs hg).kept hk (λ_ hb=> .inr hb) (λ_ _ x=>x)
theorem zjm{Γ:Glob}{w w':World}{F:Nat->Prop}{ρ:Nat->RS}{H:Heap}(n0:Nat)(h:HOK Γ w F ρ H)(hw:w'.heap=w.heap)(hr:w'.os=w.os/\w'.output=w.output):
  After Γ F n0 ρ w ρ w' H [] where
 hok:=h.same hw hr
 kept:=⟨by rw[hw];exact qD _,λb _ _=>by rw[hw],λb _=>by simp[World.shape?,hw],λb j _=>by simp[World.frozen?,hw],hr⟩
 ext i hi:= .inl rfl
 old i b hi:= .inl ⟨i,hi⟩
 still i hi _:=hi
theorem zjn{Γ:Glob}{w:World}{F:Nat->Prop}{ρ:Nat->RS}{H:Heap}(n0:Nat)(h:HOK Γ w F ρ H):After Γ F n0 ρ w ρ w H []:=
 zjm n0 h rfl ⟨rfl,rfl⟩
theorem zoo{w:World}{o:Obj}{b:Nat}(h:b<w.heap.size):(w.alloc o).shape? b=w.shape? b:=by
 simp[World.shape?,World.alloc,-World.alloc_eq,Array.getElem?_push,xI h]
theorem zkp{w:World}{o:Obj}{b:Nat}(h:b<w.heap.size):(w.alloc o).heap[b]?=w.heap[b]?:=by
 simp[World.alloc,-World.alloc_eq,Array.getElem?_push,xI h]
theorem zns{w:World}{o:Obj}{b j:Nat}(h:b<w.heap.size):(w.alloc o).frozen? ⟨b,j,none⟩=w.frozen? ⟨b,j,none⟩:=by
 simp[World.frozen?,World.alloc,-World.alloc_eq,Array.getElem?_push,xI h]
theorem qff(V:Nat->Prop)(w:World)(o:Obj):Kept V w (w.alloc o):=
 ⟨by simp,λ_ hb _=>zkp hb,λ_ hb=>zoo hb,λ_ _ hb=>zns hb,rfl,rfl⟩
theorem zwo{Γ:Glob}{w:World}{F:Nat->Prop}{ρ:Nat->RS}{H:Heap}(n0:Nat)(h:HOK Γ w F ρ H){fresh:Nat}(hfr:fresh<H.length)
  (hu:ρ fresh= .unborn) (cs:List AV) (ob:Obj)
  (hnew:(∀a v,Rep w (Mu F ρ) ρ a v->Rep (w.alloc ob) (Mu F (updR ρ fresh (.here w.heap.size))) (updR ρ fresh (.here w.heap.size)) a v)->
   zks Γ (w.alloc ob) (Mu F (updR ρ fresh (.here w.heap.size))) (updR ρ fresh (.here w.heap.size)) cs w.heap.size):
  After Γ F n0 ρ w (updR ρ fresh (.here w.heap.size)) (w.alloc ob) (H.set fresh (some cs)) [fresh]:=by
 have hold:∀i b,updR ρ fresh (.here w.heap.size) i= .here b->(∃j,ρ j= .here b)\/w.heap.size<=b:=by
  intro i b hi;unfold updR at hi;split at hi
  ·simp at hi;exact .inr (by omega)
  ·exact .inl ⟨i,hi⟩
 have hk:=qff (λb=>∃i,ρ i= .here b) w ob
 have hne:∀i b,ρ i= .here b->i≠fresh:=by
  intro i b hi e;subst e;rw[hu]at hi;simp at hi
 have hr:∀a v,Rep w (Mu F ρ) ρ a v->Rep (w.alloc ob) (Mu F (updR ρ fresh (.here w.heap.size))) (updR ρ fresh (.here w.heap.size)) a v:=by
  intro a v hr;refine hr.kept hk (λ_ hb=> .inr hb) (Mu.mono hold) h.lt (λi hi=> .inl ?_);unfold updR;rw[if_neg];intro e;subst e;exact hi hu
 refine⟨⟨?_,?_,?_,?_,?_,?_,?_⟩,hk,?_,hold,?_⟩
 ·intro i j b hi hj;unfold updR at hi hj;split at hi<;>split at hj
  ·omega
  ·simp at hi;subst hi;exact absurd (h.lt j _ hj) (by omega)
  ·simp at hj;subst hj;exact absurd (h.lt i _ hi) (by omega)
  ·exact h.inj i j b hi hj
 ·intro i b hi hF;unfold updR at hi;split at hi
  ·simp at hi;have:=h.fLt b hF;omega
  ·exact h.notF i b hi hF
 ·intro b hF;have:=h.fLt b hF;simp;omega
 ·intro i hi;simp at hi;unfold updR;rw[if_neg (by omega)];exact h.unborn i hi
 ·intro i cs' hi;unfold updR;by_cases e:i=fresh
  ·subst e;exact⟨_,if_pos rfl⟩
  ·rw[if_neg e];rw[qZ (λx=>e x.symm)]at hi;exact h.alive i cs' hi
 ·intro i b hi;by_cases e:i=fresh
  ·subst e;unfold updR at hi;rw[if_pos rfl]at hi;simp at hi;subst hi;exact⟨cs,by simp[hfr],hnew hr⟩
  ·have hi':ρ i= .here b:=by unfold updR at hi;rwa[if_neg e]at hi
   obtain⟨cs',h1,h2⟩:=h.blk i b hi';have hlt:=h.lt i b hi';exact⟨cs',by rw[qZ (λx=>e x.symm)];exact h1,h2.mono (zkp hlt) (λ_ _ _=>hr _ _)⟩
 ·intro g cs' hg;exact(h.glob g cs' hg).kept hk (λ_ hb=> .inr hb) (Mu.mono hold)
 ·intro i hi;refine .inl ?_;unfold updR;rw[if_neg];intro e;subst e;exact hi hu
 ·intro i hi hn;simp at hn;unfold updR;rw[if_neg hn];exact hi
theorem zfz{Γ:Glob}{w:World}{F:Nat->Prop}{ρ:Nat->RS}{H:Heap}(n0:Nat)(h:HOK Γ w F ρ H){fresh:Nat}(hfr:fresh<H.length)
  (hu:ρ fresh= .unborn) (cs:List AV) (c:Array Value) (el:TypeId) (hlen:cs.length<=c.size)
  (hrep:∀(j:Nat) (a:AV),cs[j]?=some a->∃v,c[j]?=some v/\Rep w (Mu F ρ) ρ a v):
  After Γ F n0 ρ w (updR ρ fresh (.here w.heap.size)) (w.alloc (.cells c el)) (H.set fresh (some cs)) [fresh]:=by
 refine zwo n0 h hfr hu cs (.cells c el) (λhr=>?_);refine⟨el,c.size,by simp[World.shape?,World.alloc,-World.alloc_eq],hlen,λj=>by simp[World.frozen?,World.alloc,-World.alloc_eq],λj a hj=>?_⟩;obtain⟨v,hv,hv'⟩:=hrep j a hj;exact⟨v,by simpa[World.cell?,World.alloc,-World.alloc_eq]using hv,hr _ _ hv'⟩
theorem zhl{w:World}{p:Addr}{v:Value}{b:Nat}:(w.setCell p v).shape? b=w.shape? b:=by
 simp only[World.shape?,World.setCell,Array.getElem?_modify];by_cases e:p.block=b
 ·rw[if_pos e];cases hh:w.heap[b]? with
  |none=>simp
  |some o=>
   cases o<;>simp;split<;>simp
 ·rw[if_neg e]
theorem zli{w:World}{p:Addr}{v:Value}{b:Nat}(h:b≠p.block):(w.setCell p v).heap[b]?=w.heap[b]?:=by
 simp only[World.setCell,Array.getElem?_modify];rw[if_neg (λx=>h x.symm)]
theorem zwp{V:Nat->Prop}{w:World}{b j:Nat}{v:Value}(hv:V b):Kept V w (w.setCell ⟨b,j,none⟩ v):=
 ⟨by simp,λb' _ hn=>zli (λe=>hn (e ▸ hv)),λ_ _=>zhl,λ_ _ _=>by simp,rfl,rfl⟩
theorem zwq{Γ:Glob}{w w':World}{F:Nat->Prop}{ρ:Nat->RS}{H:Heap}(n0:Nat)(h:HOK Γ w F ρ H){id b:Nat}{cs cs':List AV}(hb:ρ id= .here b)
  (hH:H[id]?=some (some cs)) (hk:Kept (λx=>x=b) w w')
  (hnew:(∀a x,Rep w (Mu F ρ) ρ a x->Rep w' (Mu F ρ) ρ a x)->zks Γ w' (Mu F ρ) ρ cs' b):
  After Γ F n0 ρ w ρ w' (H.set id (some cs')) []:=by
 have hk':Kept (λb=>∃i,ρ i= .here b) w w':=hk.mono (λx _ hx=>⟨id,hx ▸ hb⟩)
 have hrr:∀a x,Rep w (Mu F ρ) ρ a x->Rep w' (Mu F ρ) ρ a x:=λa x hx=>
  hx.kept hk' (λ_ hb=> .inr hb) (λ_ _ x=>x) h.lt (λ_ _=> .inl rfl)
 have hidl:id<H.length:=by
  rcases qJ id H.length with hl | hl
  ·exact hl
  ·rw[qX hl]at hH;simp at hH
 refine⟨⟨h.inj,h.notF,λb' hF=>qH (h.fLt b' hF) hk.size,?_,?_,?_,?_⟩,hk',λi _=> .inl rfl,λi b hi=> .inl ⟨i,hi⟩,λi hi _=>hi⟩
 ·intro i hi;exact h.unborn i (by simpa using hi)
 ·intro i cs' hi;by_cases e:i=id
  ·subst e;exact⟨b,hb⟩
  ·rw[qZ (λx=>e x.symm)]at hi;exact h.alive i cs' hi
 ·intro i b' hi;by_cases e:i=id
  ·subst e;have hbb:b'=b:=by rw[hb]at hi;simp at hi;exact hi.symm
   subst hbb;exact⟨cs',by simp[hidl],hnew hrr⟩
  ·obtain⟨cs2,h1,h2⟩:=h.blk i b' hi;have hne:b'≠b:=λe2=>e (h.inj i id b' hi (by rw[e2];exact hb))
   exact⟨cs2,by rw[qZ (λx=>e x.symm)];exact h1,h2.mono (hk.same b' (h.lt i b' hi) hne) (λ_ _ _=>hrr _ _)⟩
 ·intro g cs' hg;exact(h.glob g cs' hg).kept hk' (λ_ hb=> .inr hb) (λ_ _ x=>x)
theorem qhw{Γ:Glob}{w:World}{F:Nat->Prop}{ρ:Nat->RS}{H:Heap}(n0:Nat)(h:HOK Γ w F ρ H){id b j:Nat}{cs:List AV}(hb:ρ id= .here b)(hsh:∃x,w.shape? b=some x)
  (hH:H[id]?=some (some cs)) (hj:j<cs.length) {a:AV} {v:Value} (hr:Rep w (Mu F ρ) ρ a v):
  After Γ F n0 ρ w ρ (w.setCell ⟨b,j,none⟩ v) (H.set id (some (cs.set j a))) []:=by
 obtain⟨cs2,h1,h2⟩:=h.blk id b hb;rw[hH]at h1;simp at h1;subst h1;obtain⟨el,m,h2,h3,h4,h5⟩:=h2.cells hsh;refine zwq n0 h hb hH (zwp rfl) (λhrr=>?_);refine⟨el,m,by rw[zhl];exact h2,by simpa using h3,λj'=>by simpa using h4 j',λj' a' hj'=>?_⟩;by_cases ej:j'=j
 ·subst ej;rw[qK hj]at hj';simp at hj';subst hj';obtain⟨u,hu⟩:∃u,cs[j']?=some u:=⟨cs[j'],by simp[hj]⟩
  obtain⟨x,hx,_⟩:=h5 j' u hu;exact⟨v,World.cell?_setCell_same _ _ _ hx,hrr _ _ hr⟩
 ·rw[qZ (λx=>ej x.symm)]at hj';obtain⟨x,hx,hx'⟩:=h5 j' a' hj';refine⟨x,?_,hrr _ _ hx'⟩;rw[World.cell?_setCell_other]
  ·exact hx
  ·intro e2;simp at e2;exact ej e2.symm
section runs
variable{P:Program}{w:World}
theorem zaz{t:TypeId}{d:TypeDesc}(h:P.underlying t=some d):(underlying t).run P w= .ok d w:=by
 simp[underlying,program,Sem.run,h]
theorem znz{t:TypeId}{i:TypeInfo}(h:P.info? t=some i):(typeInfo t).run P w= .ok i w:=by
 simp[typeInfo,program,Sem.run,h]
theorem zdh{t:TypeId}{s:Nat}(h:szT P t=some s):(sizeOf t).run P w= .ok s w:=by
 unfold szT at h;cases hi:P.info? t with
 |none=>simp[hi]at h
 |some i=>simp[hi]at h;simp[sizeOf,znz hi,h]
theorem zop{t:TypeId}{b:Bool}(h:zrx P t=some b):(isAgg t).run P w= .ok b w:=by
 unfold zrx at h;cases hd:P.underlying t with
 |none=>simp[hd]at h
 |some d=>
  simp[hd]at h;subst h;cases d<;>simp[isAgg,zaz hd]
theorem qwm{a:Addr}{v:Value}(h:w.cell? a=some v):(load a).run P w= .ok v w:=by
 simp[load,Sem.run,h]
theorem jef{a:Addr}{v u:Value}(h:w.cell? a=some u)(hf:w.frozen? a=false)(h1:∀cs,v≠ .agg cs)(h2:∀vs,v≠ .tuple vs):
  (store a v).run P w= .ok () (w.setCell a v):=by
 cases v<;>first | exact absurd rfl (h1 _) | exact absurd rfl (h2 _) | simp[store,Sem.run,h,hf]
theorem zew(b off n:Nat):(⟨b,off,none⟩:Addr).add n=⟨b,off+n,none⟩:=by
 unfold Addr.add;split
 ·rename_i h;subst h;rfl
 ·rfl
theorem zmq{b off:Nat}{vs:Nat->Value}:∀(n i:Nat) (acc:Array Value),
  (∀j,i<=j->j<i+n->w.cell? ⟨b,off+j,none⟩=some (vs j))->
  (loadCellsFrom ⟨b,off,none⟩ i n acc).run P w= .ok (acc++((List.range' i n).map vs).toArray) w:=by
 intro n
 induction n with
 |zero=>intro i acc _;simp[loadCellsFrom]
 |succ n ih=>
  intro i acc h;simp only[loadCellsFrom,Sem.run_bind,zew];rw[qwm (h i (qD _) (by omega))];simp only[Result.andThen_ok];rw[ih (i+1) _ (λj h1 h2=>h j (by omega) (by omega))];simp[xS]
theorem zlj{b off n:Nat}{vs:Nat->Value}(h:∀j,j<n->w.cell? ⟨b,off+j,none⟩=some (vs j)):
  (loadCells ⟨b,off,none⟩ n).run P w= .ok ((List.range n).map vs).toArray w:=by
 unfold loadCells;rw[zmq n 0 #[] (λj _ h2=>h j (by omega))];simp[xD]
end runs
section inversions
variable{w:World}{M:Nat->Prop}{ρ:Nat->RS}
theorem zcd{k:IntKind}{n:Int}{v:Value}(h:Rep w M ρ (.int k n) v):v= .int k n:=by
 cases h with | imm _ _ h=>cases h;rfl
theorem zex{b:Bool}{v:Value}(h:Rep w M ρ (.bool b) v):v= .bool b:=by
 cases h with | imm _ _ h=>cases h;rfl
theorem zts{v:Value}(h:Rep w M ρ .anyb v):∃b,v= .bool b:=by
 cases h with | imm _ _ h=>cases h;exact⟨_,rfl⟩
theorem zkt{s:ByteArray}{v:Value}(h:Rep w M ρ (.str s) v):v= .string s:=by
 cases h with | imm _ _ h=>cases h;rfl
theorem ztt{id off:Nat}{v:Value}(h:Rep w M ρ (.ptr id off) v):∃b,v= .pointer (some ⟨b,off,none⟩)/\((ρ id= .here b/\∃x,w.shape? b=some x)\/ρ id= .dead):=by
 cases h with
 |imm _ _ h=>cases h
 |ptrDead _ _ b h=>exact⟨b,rfl,.inr h⟩
 |ptrAt _ _ b h hs=>exact⟨b,rfl,.inl ⟨h,hs⟩⟩
theorem zoq{id off:Nat}{v:Value}(h:Rep w M ρ (.ptr id off) v):∃b,v= .pointer (some ⟨b,off,none⟩)/\(ρ id= .here b\/ρ id= .dead):=by
 obtain⟨b,h1,h2⟩:=ztt h;exact⟨b,h1,h2.imp (λx=>x.1) (λx=>x)⟩
theorem zhm{cs:List AV}{p:Nat}{v:Value}(h:Rep w M ρ (.iptr cs p) v):
  ∃(b off:Nat) (vs:Nat->Value),v= .pointer (some ⟨b,off+p,none⟩)/\(cs≠[]->¬M b)/\(∀j,j<cs.length->w.cell? ⟨b,off+j,none⟩=some (vs j))/\
   ∀(j:Nat) (a:AV),cs[j]?=some a->IRep w M a (vs j):=by
 cases h with
 |imm _ _ h=>cases h with | iptr _ _ b off vs h1 h2 h3=>exact⟨b,off,vs,rfl,h1,h2,h3⟩
theorem zmr{cs:List AV}{v:Value}(h:Rep w M ρ (.agg cs) v):
  ∃vs:Array Value,v= .agg vs/\vs.size=cs.length/\∀(j:Nat) (a:AV) (v:Value),cs[j]?=some a->vs[j]?=some v->Rep w M ρ a v:=by
 cases h with
 |imm _ _ h=>cases h with | agg _ vs hl hr=>exact⟨vs,rfl,hl,λj a v h1 h2=> .imm _ _ (hr j a v h1 h2)⟩
 |agg _ vs hl hr=>exact⟨vs,rfl,hl,hr⟩
theorem ztu{cs:List AV}{v:Value}(h:Rep w M ρ (.tup cs) v):
  ∃vs:Array Value,v= .tuple vs/\vs.size=cs.length/\∀(j:Nat) (a:AV) (v:Value),cs[j]?=some a->vs[j]?=some v->Rep w M ρ a v:=by
 cases h with
 |imm _ _ h=>cases h with | tup _ vs hl hr=>exact⟨vs,rfl,hl,λj a v h1 h2=> .imm _ _ (hr j a v h1 h2)⟩
 |tup _ vs hl hr=>exact⟨vs,rfl,hl,hr⟩
theorem qyl{f:FuncId}{cs:List AV}{v:Value}(h:Rep w M ρ (.clo f cs) v)(hf:f<65536):
  ∃vs:Array Value,v= .func (.func f) #[] vs/\vs.size=cs.length/\∀(j:Nat) (a:AV) (v:Value),cs[j]?=some a->vs[j]?=some v->Rep w M ρ a v:=by
 cases h with
 |imm _ _ h=>
  cases h with
  |clo _ _ vs hf' hl hr=>exact⟨vs,rfl,hl,λj a v h1 h2=> .imm _ _ (hr j a v h1 h2)⟩
 |clo _ _ vs hf' hl hr=>exact⟨vs,rfl,hl,hr⟩
theorem zdj{f:FuncId}{cs:List AV}{v:Value}(h:Rep w M ρ (.clo f cs) v):f<65536:=by
 cases h with
 |imm _ _ h=>cases h with | clo _ _ _ hf=>exact hf
 |clo _ _ _ hf=>exact hf
theorem qck{f:FuncId}{cs:List AV}{v:Value}(h:Rep w M ρ (.clo f cs) v):v.cells= #[v]/\(∀l,v≠ .agg l)/\∀l,v≠ .tuple l:=by
 cases h with
 |imm _ _ h=>cases h<;>exact⟨rfl,by simp,by simp⟩
 |_=>exact⟨rfl,by simp,by simp⟩
theorem zfo{id off n sz:Nat}{c:Option Nat}{v:Value}(h:Rep w M ρ (.sl id off n sz c) v):
  ∃b cap,v= .slice (some ⟨b,off,none⟩) n cap/\n<=cap/\(∀k,c=some k->cap=k)/\
   (ρ id= .dead\/(ρ id= .here b/\∃el m,w.shape? b=some (el,m)/\off+cap*sz<=m)):=by
 cases h with
 |imm _ _ h=>cases h
 |slDead _ _ _ _ _ b cap h hn hc=>exact⟨b,cap,rfl,hn,hc,.inl h⟩
 |slAt _ _ _ _ _ b cap el m h hs hn hc hm=>exact⟨b,cap,rfl,hn,hc,.inr ⟨h,el,m,hs,hm⟩⟩
theorem zga{cs:List AV}{n:Nat}{c:Option Nat}{v:Value}(h:Rep w M ρ (.vec cs n c) v):
  (∃p,v= .slice p 0 0/\cs=[]/\n=0/\(∀k,c=some k->k=0))\/
  ∃(b off cap:Nat) (vs:Nat->Value),v= .slice (some ⟨b,off,none⟩) n cap/\(cs≠[]->¬M b)/\(∀j,j<cs.length->w.cell? ⟨b,off+j,none⟩=some (vs j))/\
   (∀(j:Nat) (a:AV),cs[j]?=some a->IRep w M a (vs j))/\n<=cap/\(∀k,c=some k->cap=k):=by
 cases h with
 |imm _ _ h=>cases h with
  |nil p c hc=>exact .inl ⟨p,rfl,rfl,rfl,hc⟩
  |vec _ _ _ b off cap vs h1 h2 h3 h4 h5=>exact .inr ⟨b,off,cap,vs,rfl,h1,h2,h3,h4,h5⟩
theorem zor{a:AV}{v:Value}(h:Rep w M ρ a v)(hf:a.firm=true):
  v.cells.size=a.cells.length/\∀(j:Nat) (x:AV),a.cells[j]?=some x->∃u,v.cells[j]?=some u/\Rep w M ρ x u:=by
 have one:∀(a:AV) (v:Value),Rep w M ρ a v->a.cells=[a]->v.cells= #[v]->
   v.cells.size=a.cells.length/\∀(j:Nat) (x:AV),a.cells[j]?=some x->∃u,v.cells[j]?=some u/\Rep w M ρ x u:=by
  intro a v h h1 h2;rw[h1,h2];refine⟨rfl,λj x hx=>?_⟩;cases j with
  |zero=>simp at hx;subst hx;exact⟨v,rfl,h⟩
  |succ j=>simp at hx
 cases a with
 |agg cs=>
  obtain⟨vs,rfl,hl,hr⟩:=zmr h;refine⟨hl,λj x hx=>?_⟩
  have hj:j<vs.size:=by
   rw[hl];rcases qJ j cs.length with h' | h'
   ·exact h'
   ·simp[AV.cells,qX h']at hx
  exact⟨vs[j],by simp[Value.cells,hj],hr j x _ hx (by simp[hj])⟩
 |tup vs=>simp[AV.firm]at hf
 |junk=>simp[AV.firm]at hf
 |bool b=>have:=zex h;subst this;exact one _ _ h rfl rfl
 |int k n=>have:=zcd h;subst this;exact one _ _ h rfl rfl
 |str s=>have:=zkt h;subst this;exact one _ _ h rfl rfl
 |anyb=>obtain⟨b,rfl⟩:=zts h;exact one _ _ h rfl rfl
 |ptr id off=>obtain⟨b,rfl,_⟩:=zoq h;exact one _ _ h rfl rfl
 |iptr cs p=>obtain⟨b,off,vs,rfl,_⟩:=zhm h;exact one _ _ h rfl rfl
 |clo f cs=>exact one _ _ h rfl (qck h).1
 |sl id off n sz c=>obtain⟨b,cap,rfl,_⟩:=zfo h;exact one _ _ h rfl rfl
 |vec cs n c=>
  rcases zga h with⟨p,rfl,_⟩ | ⟨b,off,cap,vs,rfl,_⟩
  ·exact one _ _ h rfl rfl
  ·exact one _ _ h rfl rfl
theorem qqf{a:AV}{v:Value}(h:Rep w M ρ a v)(hs:a.scal=true):(∀cs,v≠ .agg cs)/\∀vs,v≠ .tuple vs:=by
 cases a with
 |agg cs=>simp[AV.scal]at hs
 |tup vs=>simp[AV.scal]at hs
 |junk=>simp[AV.scal]at hs
 |bool b=>have:=zex h;subst this;simp
 |int k n=>have:=zcd h;subst this;simp
 |str s=>have:=zkt h;subst this;simp
 |anyb=>obtain⟨b,rfl⟩:=zts h;simp
 |ptr id off=>obtain⟨b,rfl,_⟩:=zoq h;simp
 |iptr cs p=>obtain⟨b,off,vs,rfl,_⟩:=zhm h;simp
 |clo f cs=>exact(qck h).2
 |sl id off n sz c=>obtain⟨b,cap,rfl,_⟩:=zfo h;simp
 |vec cs n c=>
  rcases zga h with⟨p,rfl,_⟩ | ⟨b,off,cap,vs,rfl,_⟩<;>simp
end inversions
theorem zcn{H:Heap}{id:Nat}{cs:List AV}(h:getB H id=some cs):H[id]?=some (some cs):=by
 unfold getB at h;split at h
 ·rename_i cs' h';simp at h;subst h;exact h'
 ·simp at h
theorem HOK.at'{Γ:Glob}{w:World}{F:Nat->Prop}{ρ:Nat->RS}{H:Heap}(h:HOK Γ w F ρ H){id:Nat}{cs:List AV}(hg:getB H id=some cs):∃b,ρ id= .here b/\zks Γ w (Mu F ρ) ρ cs b:=by
 have h1:=zcn hg;obtain⟨b,hb⟩:=h.alive id cs h1;obtain⟨cs',h2,h3⟩:=h.blk id b hb;rw[h1]at h2;simp at h2;subst h2;exact⟨b,hb,h3⟩
theorem HOK.at{Γ:Glob}{w:World}{F:Nat->Prop}{ρ:Nat->RS}{H:Heap}(h:HOK Γ w F ρ H){id:Nat}{cs:List AV}(hg:getB H id=some cs)(hsh:∀b,ρ id= .here b->∃x,w.shape? b=some x):
  ∃b el m,ρ id= .here b/\w.shape? b=some (el,m)/\cs.length<=m/\(∀j,w.frozen? ⟨b,j,none⟩=false)/\
   ∀(j:Nat) (a:AV),cs[j]?=some a->∃v,w.cell? ⟨b,j,none⟩=some v/\Rep w (Mu F ρ) ρ a v:=by
 obtain⟨b,hb,h3⟩:=h.at' hg;obtain⟨el,m,h3,h4,h5,h6⟩:=h3.cells (hsh b hb);exact⟨b,el,m,hb,h3,h4,h5,h6⟩
theorem qhx{w:World}{M:Nat->Prop}{ρ:Nat->RS}{id off:Nat}{v:Value}(h:Rep w M ρ (.ptr id off) v):∀b,ρ id= .here b->∃x,w.shape? b=some x:=by
 intro b hb;obtain⟨b',_,h2⟩:=ztt h;rcases h2 with⟨h2,h3⟩ | h2
 ·rw[hb]at h2;simp at h2;subst h2;exact h3
 ·rw[hb]at h2;simp at h2
theorem qfg{w:World}{M:Nat->Prop}{ρ:Nat->RS}{id off n sz:Nat}{c:Option Nat}{v:Value}(h:Rep w M ρ (.sl id off n sz c) v):∀b,ρ id= .here b->∃x,w.shape? b=some x:=by
 intro b hb;obtain⟨b',cap,_,_,_,h2⟩:=zfo h;rcases h2 with h2 | ⟨h2,el,m,h3,_⟩
 ·rw[hb]at h2;simp at h2
 ·rw[hb]at h2;simp at h2;subst h2;exact⟨_,h3⟩
theorem ziq{v:Value}{a:AV}(w:World)(M:Nat->Prop)(h:zjl v=some a):IRep w M a v:=by
 unfold zjl at h;split at h<;>simp at h<;>subst h
 ·exact .bool _
 ·exact .int _ _
 ·exact .str _
 ·exact .nil none _ (by intro k hk;simp at hk;exact hk.symm)
theorem zhn{α β:Type}{f:α->Option β}:∀{l:List α} {r:List β},l.mapM f=some r->r.length=l.length/\∀(j:Nat) (x:α),l[j]?=some x->∃y,r[j]?=some y/\f x=some y:=by
 intro l
 induction l with
 |nil=>intro r h;simp at h;subst h;simp
 |cons x l ih=>
  intro r h;rw[xE]at h;cases hx:f x with
  |none=>simp[hx]at h
  |some y=>
   cases hl:l.mapM f with
   |none=>simp[hx,hl]at h
   |some r'=>
    simp[hx,hl]at h;subst h;obtain⟨h1,h2⟩:=ih hl;refine⟨by simp[h1],λj z hz=>?_⟩;cases j with
    |zero=>simp at hz;subst hz;exact⟨y,rfl,hx⟩
    |succ j=>exact h2 j z (by simpa using hz)
theorem zos{v:Value}{a:AV}(w:World)(M:Nat->Prop)(h:ofV v=some a):IRep w M a v:=by
 cases v with
 |agg cs=>
  simp only[ofV]at h;cases hm:cs.toList.mapM zjl with
  |none=>simp[hm]at h
  |some l=>
   simp[hm]at h;subst h;obtain⟨h1,h2⟩:=zhn hm;refine .agg l cs (by simp[h1]) (λj a v hj hv=>?_);obtain⟨y,hy,hy'⟩:=h2 j v (by simpa using hv);rw[hj]at hy;simp at hy;subst hy;exact ziq w M hy'
 |_=>exact ziq w M h
theorem zas{Γ:Glob}{w:World}{F:Nat->Prop}{ρ:Nat->RS}{H:Heap}(ho:HOK Γ w F ρ H){E:Env}{a:Act}
  (he:∀t,Rep w (Mu F ρ) ρ (E t) (a.tmps.getD t undef)) {x:Operand} {y:Opd} (h:cOpd Γ x=some y):
  Rep w (Mu F ρ) ρ (val E y) (a.eval x):=by
 cases x with
 |tmp t=>simp[cOpd]at h;subst h;exact he t
 |const v=>
  simp only[cOpd]at h;cases hv:ofV v with
  |none=>simp[hv]at h
  |some b=>simp[hv]at h;subst h;exact .imm _ _ (zos w _ hv)
 |global g=>
  simp only[cOpd]at h;cases hg:Γ.globs.find? (λx=>x.1 == g)with
  |none=>simp[hg]at h
  |some p=>
   simp[hg]at h;subst h;have h1:=List.mem_of_find?_eq_some hg;have h2:=List.find?_some hg;simp at h2;refine .imm _ _ ?_;have:=ho.glob p.1 p.2 h1;rw[h2]at this;exact this
 |func f=>
  simp only[cOpd]at h;split at h
  ·rename_i hf;simp at h;subst h;exact .imm _ _ (.clo f [] #[] hf rfl (by intro j a v hj;simp at hj))
  ·simp at h
def Snd(P:Program)(Γ:Glob)(o:Oper)(a:Act)(w:World)(F:Nat->Prop)(ρ:Nat->RS)(n0:Nat)(v:AV)(H':Heap)(new:List Nat):Prop:=
 ∃x v' w' ρ',(execOp a.eval o).run P w= .ok x w'/\(x= .value v'\/(x= .skip/\v'=undef))/\After Γ F n0 ρ w ρ' w' H' new/\Rep w' (Mu F ρ') ρ' v v'
theorem zad{c:Prop}[Decidable c]{α:Type}{x:Option α}{r:α}(h:need c x=some r):c/\x=some r:=by
 unfold need at h;split at h
 ·exact⟨‹_›,h⟩
 ·simp at h
def movP(off:Nat):AV->Option AV
 |.ptr id p=>some (.ptr id (p+off))
 |.iptr cs p=>some (.iptr cs (p+off))
 |_=>none
theorem zrz{P:Program}{w:World}{t:TypeId}(h:P.underlying t=some .bool)(x y:Bool):(Op.equal t (.bool x) (.bool y)).run P w= .ok (x == y) w:=by
 have key:∀d,(Op.equalIn (d+1) t (.bool x) (.bool y)).run P w= .ok (x == y) w:=by
  intro d;simp only[Op.equalIn,Sem.run_bind,zaz h,Result.andThen_ok];rfl
 exact key 9999
section
variable{P:Program}{Γ:Glob}{E:Env}{a:Act}{w:World}{F:Nat->Prop}{ρ:Nat->RS}{H:Heap}{n0 fresh:Nat}{o:Oper}{v:AV}{e:Eff}{rd:List Nat}
theorem zbb(ho:HOK Γ w F ρ H){v':Value}(hr:(execOp a.eval o).run P w= .ok (.value v') w)(h:Rep w (Mu F ρ) ρ v v'):Snd P Γ o a w F ρ n0 v H []:=
 ⟨_,v',w,ρ,hr,.inl rfl,zjn n0 ho,h⟩
theorem qhy(ho:HOK Γ w F ρ H)(he:∀t,Rep w (Mu F ρ) ρ (E t) (a.tmps.getD t undef)){x:Operand}{y:Opd}(hx:cOpd Γ x=some y)
  (hop:o.op= .move x\/o.op= .assign x):Snd P Γ o a w F ρ n0 (val E y) H []:=by
 refine zbb ho ?_ (zas ho he hx);rcases hop with h | h<;>simp[execOp,h]
theorem qqg(ho:HOK Γ w F ρ H)(he:∀t,Rep w (Mu F ρ) ρ (E t) (a.tmps.getD t undef)){c x y:Operand}{c' x' y':Opd}(hc:cOpd Γ c=some c')
  (hx:cOpd Γ x=some x') (hy:cOpd Γ y=some y') (hop:o.op= .pick c x y) {t:Bool} (ht:val E c'= .bool t):
  Snd P Γ o a w F ρ n0 (if t then val E x' else val E y') H []:=by
 have h1:=zas ho he hc;rw[ht]at h1;have h2:=zex h1;refine zbb ho (v':=if t then a.eval x else a.eval y) ?_ ?_
 ·cases t<;>simp[execOp,hop,h2,asBool]
 ·cases t
  ·exact zas ho he hy
  ·exact zas ho he hx
theorem qyp{op:BinOp}{ty:TypeId}{x y:AV}{x' y':Value}(h1:Rep w (Mu F ρ) ρ x x')(h2:Rep w (Mu F ρ) ρ y y')(h:binA op x y=some v):
  ∃v',(binOp op ty x' y').run P w= .ok v' w/\Rep w (Mu F ρ) ρ v v':=by
 cases x<;>try (simp[binA]at h;done)
 case int k n=>
  cases y<;>try (simp[binA]at h;done)
  case int k' m=>
   have e1:=zcd h1;have e2:=zcd h2;subst e1 e2;cases op<;>simp only[binA]at h<;>obtain⟨hn,hv⟩:=zad h<;>simp at hv<;>subst hv
   case shl=>exact⟨_,by simp[binOp,Op.shift,Int.not_lt.2 hn],.imm _ _ (.int _ _)⟩
   case shr=>exact⟨_,by simp[binOp,Op.shift,Int.not_lt.2 hn],.imm _ _ (.int _ _)⟩
   case quo=>obtain⟨rfl,hn⟩:=hn;exact⟨_,by simp[binOp,Op.intDiv,hn],.imm _ _ (.int _ _)⟩
   case rem=>obtain⟨rfl,hn⟩:=hn;exact⟨_,by simp[binOp,Op.intDiv,hn],.imm _ _ (.int _ _)⟩
   all_goals subst hn
   case add=>exact⟨_,by simp[binOp,Op.intArith],.imm _ _ (.int _ _)⟩
   case sub=>exact⟨_,by simp[binOp,Op.intArith],.imm _ _ (.int _ _)⟩
   case mul=>exact⟨_,by simp[binOp,Op.intArith],.imm _ _ (.int _ _)⟩
   case and=>exact⟨_,by simp[binOp,Op.intBits],.imm _ _ (.int _ _)⟩
   case or=>exact⟨_,by simp[binOp,Op.intBits],.imm _ _ (.int _ _)⟩
   case xor=>exact⟨_,by simp[binOp,Op.intBits],.imm _ _ (.int _ _)⟩
   case andNot=>exact⟨_,by simp[binOp,Op.intBits],.imm _ _ (.int _ _)⟩
   case eql=>exact⟨_,by simp[binOp,Op.intCmp],.imm _ _ (.bool _)⟩
   case neq=>exact⟨_,by simp[binOp,Op.intCmp],.imm _ _ (.bool _)⟩
   case lss=>exact⟨_,by simp[binOp,Op.intCmp],.imm _ _ (.bool _)⟩
   case leq=>exact⟨_,by simp[binOp,Op.intCmp],.imm _ _ (.bool _)⟩
   case gtr=>exact⟨_,by simp[binOp,Op.intCmp],.imm _ _ (.bool _)⟩
   case geq=>exact⟨_,by simp[binOp,Op.intCmp],.imm _ _ (.bool _)⟩
 case str s=>
  cases y<;>try (simp[binA]at h;done)
  case str s'=>
   have e1:=zkt h1;have e2:=zkt h2;subst e1 e2;cases op<;>simp only[binA]at h<;>try (simp at h;done)
   case add=>
    obtain⟨hn,hv⟩:=zad h;simp at hv;subst hv;exact⟨_,by simp[binOp,Op.stringOp];have:IntKind.i64.max=9223372036854775807:=rfl;omega,.imm _ _ (.str _)⟩
   case eql=>simp at h;subst h;exact⟨_,by simp[binOp,Op.stringOp],.imm _ _ (.bool _)⟩
   case neq=>simp at h;subst h;exact⟨_,by simp[binOp,Op.stringOp],.imm _ _ (.bool _)⟩
theorem zwr{op:BinOp}{ty:TypeId}{x y:AV}{x' y':Value}{ox oy:Operand}(h1:Rep w (Mu F ρ) ρ x x')(h2:Rep w (Mu F ρ) ρ y y')
  (hx:(∃k n,x= .int k n)\/(∃s,x= .str s)\/(∃b,x= .bool b)):(eqGuard op ty ox oy x' y').run P w= .ok () w:=by
 have hx':(∃k n,x'= .int k n)\/(∃s,x'= .string s)\/(∃b,x'= .bool b):=by
  rcases hx with⟨k,n,rfl⟩ | ⟨s,rfl⟩ | ⟨b,rfl⟩
  ·exact .inl ⟨k,n,zcd h1⟩
  ·exact .inr (.inl ⟨s,zkt h1⟩)
  ·exact .inr (.inr ⟨b,zex h1⟩)
 rcases hx' with⟨k,n,rfl⟩ | ⟨s,rfl⟩ | ⟨b,rfl⟩<;>(unfold eqGuard;split<;>simp)
theorem qhz(ho:HOK Γ w F ρ H)(he:∀t,Rep w (Mu F ρ) ρ (E t) (a.tmps.getD t undef)){op:BinOp}{ty ty':TypeId}{x y:Operand}{x' y':Opd}
  (hx:cOpd Γ x=some x') (hy:cOpd Γ y=some y') (hop:o.op= .binOp op ty x y ty') (h:binA op (val E x') (val E y')=some v):
  Snd P Γ o a w F ρ n0 v H []:=by
 have h1:=zas ho he hx;have h2:=zas ho he hy;obtain⟨v',hv,hr⟩:=qyp (P:=P) (ty:=ty) h1 h2 h
 have hg:=zwr (P:=P) (op:=op) (ty:=ty) (ox:=x) (oy:=y) h1 h2 (by
  revert h;cases val E x'<;>simp[binA])
 exact zbb ho (by simp[execOp,hop,hg,hv]) hr
theorem qia(ho:HOK Γ w F ρ H)(he:∀t,Rep w (Mu F ρ) ρ (E t) (a.tmps.getD t undef)){neg:Bool}{ty ty':TypeId}{x y:Operand}{x' y':Opd}
  (hty:P.underlying ty=some .bool) (hx:cOpd Γ x=some x') (hy:cOpd Γ y=some y') (hop:o.op= .binOp (if neg then .neq else .eql) ty x y ty')
  {s t:Bool} (hs:val E x'= .bool s) (ht:val E y'= .bool t):Snd P Γ o a w F ρ n0 (.bool (if neg then !(s == t)else(s == t))) H []:=by
 have h1:=zas ho he hx;have h2:=zas ho he hy;rw[hs]at h1;rw[ht]at h2;have hg:=zwr (P:=P) (op:=if neg then .neq else .eql) (ty:=ty) (ox:=x) (oy:=y) h1 h2 (.inr (.inr ⟨s,rfl⟩));have e1:=zex h1;have e2:=zex h2;rw[e1,e2]at hg;refine zbb ho (v':= .bool (if neg then !(s == t)else(s == t))) ?_ (.imm _ _ (.bool _));cases neg
 ·simp only[xV,if_false]at hop hg ⊢;simp[execOp,hop,e1,e2,hg,binOp,zrz hty]
 ·simp only[if_true]at hop hg ⊢;simp[execOp,hop,e1,e2,hg,binOp,zrz hty]
theorem jeh(ho:HOK Γ w F ρ H)(he:∀t,Rep w (Mu F ρ) ρ (E t) (a.tmps.getD t undef)){op:UnOp}{ty:TypeId}{x:Operand}{x':Opd}
  (hx:cOpd Γ x=some x') (hop:o.op= .unOp op ty x) (h:unA op (val E x')=some v):Snd P Γ o a w F ρ n0 v H []:=by
 have h1:=zas ho he hx;cases hv:val E x'<;>rw[hv]at h h1<;>try (simp[unA]at h;done)
 case int k n=>
  cases op<;>simp[unA]at h;subst h;exact zbb ho (by simp[execOp,hop,zcd h1,Op.unary,Op.intArith]) (.imm _ _ (.int _ _))
 case bool b=>
  cases op<;>simp[unA]at h;subst h;exact zbb ho (by simp[execOp,hop,zex h1,Op.unary]) (.imm _ _ (.bool _))
theorem qqh(ho:HOK Γ w F ρ H)(he:∀t,Rep w (Mu F ρ) ρ (E t) (a.tmps.getD t undef)){src dst:TypeId}{d:TypeDesc}{k k':IntKind}{n:Int}{x:Operand}{x':Opd}
  (hs:P.underlying src=some d) (hd:P.underlying dst=some (.int k)) (hx:cOpd Γ x=some x') (hop:o.op= .convert src dst x) (hv:val E x'= .int k' n):
  Snd P Γ o a w F ρ n0 (.int k (k.wrap n)) H []:=by
 have h1:=zas ho he hx;rw[hv]at h1;refine zbb ho (v':= .int k (k.wrap n)) ?_ (.imm _ _ (.int _ _));cases d<;>simp[execOp,hop,zcd h1,convert,zaz hs,zaz hd,Conv.intToInt]
theorem zws(ho:HOK Γ w F ρ H)(he:∀t,Rep w (Mu F ρ) ρ (E t) (a.tmps.getD t undef)){x:Operand}{x':Opd}
  (hx:cOpd Γ x=some x') (hop:o.op= .nilCheck x) (hv:(∃id off,val E x'= .ptr id off)\/∃cs p,val E x'= .iptr cs p):
  Snd P Γ o a w F ρ n0 (val E x') H []:=by
 have h1:=zas ho he hx;rcases hv with⟨id,off,hv⟩ | ⟨cs,p,hv⟩
 ·rw[hv]at h1 ⊢;obtain⟨b,e,_⟩:=zoq h1;exact zbb ho (v':=a.eval x) (by simp[execOp,hop,e]) h1
 ·rw[hv]at h1 ⊢;obtain⟨b,off,vs,e,_⟩:=zhm h1;exact zbb ho (v':=a.eval x) (by simp[execOp,hop,e]) h1
theorem qyq{vs:List AV}{i:Nat}{x:AV}{u:Value}(h:Rep w (Mu F ρ) ρ (.tup vs) u)(hi:vs[i]?=some x):
  ∃us y,u= .tuple us/\us[i]?=some y/\Rep w (Mu F ρ) ρ x y:=by
 obtain⟨us,rfl,hl,hr⟩:=ztu h
 have hlt:i<us.size:=by
  rw[hl];rcases qJ i vs.length with h' | h'
  ·exact h'
  ·rw[qX h']at hi;simp at hi
 exact⟨us,us[i],rfl,by simp[hlt],hr i x _ hi (by simp[hlt])⟩
theorem qyr(ho:HOK Γ w F ρ H)(he:∀t,Rep w (Mu F ρ) ρ (E t) (a.tmps.getD t undef)){x:Operand}{x':Opd}{i:Nat}{vs:List AV}
  (hx:cOpd Γ x=some x') (hop:o.op= .extract x i) (hv:val E x'= .tup vs) (hi:vs[i]?=some v):Snd P Γ o a w F ρ n0 v H []:=by
 have h1:=zas ho he hx;rw[hv]at h1;obtain⟨us,y,e,hy,hr⟩:=qyq h1 hi;exact zbb ho (v':=y) (by simp[execOp,hop,e,Instr.extract,hy]) hr
theorem qys(ho:HOK Γ w F ρ H)(he:∀t,Rep w (Mu F ρ) ρ (E t) (a.tmps.getD t undef)){cl:Call}{x y:Operand}{x' y':Opd}
  (hx:cOpd Γ x=some x') (hy:cOpd Γ y=some y') (hop:o.op= .call cl) (hc:cl.callee= .builtin .max) (hargs:cl.args.toList=[x,y]) {k k':IntKind} {m n:Int}
  (h1:val E x'= .int k m) (h2:val E y'= .int k' n):Snd P Γ o a w F ρ n0 (.int k (if n>m then n else m)) H []:=by
 have r1:=zas ho he hx;have r2:=zas ho he hy;rw[h1]at r1;rw[h2]at r2;have ha:cl.args= #[x,y]:=by rw[<-Array.toArray_toList (xs:=cl.args),hargs]
 refine zbb ho (v':= .int k (if n>m then n else m)) ?_ (.imm _ _ (.int _ _));simp[execOp,hop,resolve,hc,ha,invoke,builtin,Builtin.max_,zcd r1,zcd r2,Builtin.max2]
theorem zoa(ho:HOK Γ w F ρ H)(he:∀t,Rep w (Mu F ρ) ρ (E t) (a.tmps.getD t undef)){l:List Operand}{l':List Opd}(h:l.mapM (cOpd Γ)=some l'):
  (l.map a.eval).length=(l'.map (val E)).length/\∀(j:Nat) (x:AV) (y:Value),(l'.map (val E))[j]?=some x->(l.map a.eval)[j]?=some y->Rep w (Mu F ρ) ρ x y:=by
 obtain⟨h1,h2⟩:=zhn h;refine⟨by simp[h1],λj x y hx hy=>?_⟩;simp only[qC,qA]at hx hy;obtain⟨p,hp,rfl⟩:=hx;obtain⟨q,hq,rfl⟩:=hy;obtain⟨z,hz,hz'⟩:=h2 j q hq;rw[hp]at hz;simp at hz;subst hz;exact zas ho he hz'
theorem qqi(ho:HOK Γ w F ρ H)(he:∀t,Rep w (Mu F ρ) ρ (E t) (a.tmps.getD t undef)){f:FuncId}{first caps:Array Operand}{caps':List Opd}
  (hf:first= #[]) (hf':f<65536) (hx:caps.toList.mapM (cOpd Γ)=some caps') (hop:o.op= .makeFunc (.func f) first caps):Snd P Γ o a w F ρ n0 (.clo f (caps'.map (val E))) H []:=by
 obtain⟨h1,h2⟩:=zoa ho he hx;refine zbb ho (v':= .func (.func f) #[] (caps.map a.eval)) ?_ (.clo f _ _ hf' (by simpa using h1) (λj x y hx hy=>h2 j x y hx (by simpa using hy)));simp[execOp,hop,hf,Instr.makeFunc]
theorem qic{off:Nat}{x:AV}{x':Value}(h:Rep w (Mu F ρ) ρ x x')(hv:movP off x=some v):
  ∃b p,x'= .pointer (some ⟨b,p,none⟩)/\Rep w (Mu F ρ) ρ v (.pointer (some ⟨b,p+off,none⟩)):=by
 cases x<;>simp[movP]at hv<;>subst hv
 case ptr id p=>
  obtain⟨b,rfl,hb⟩:=ztt h;refine⟨b,p,rfl,?_⟩;rcases hb with⟨hb,hs⟩ | hb
  ·exact .ptrAt _ _ _ hb hs
  ·exact .ptrDead _ _ _ hb
 case iptr cs p=>
  obtain⟨b,q,vs,rfl,h1,h2,h3⟩:=zhm h;exact⟨b,q+p,rfl,.imm _ _ (by rw[xZ];exact .iptr cs (p+off) b q vs h1 h2 h3)⟩
theorem qid(ho:HOK Γ w F ρ H)(he:∀t,Rep w (Mu F ρ) ρ (E t) (a.tmps.getD t undef)){s:TypeId}{fields:Array Field}{fd:Field}{f z:Nat}{x:Operand}{x':Opd}
  (hs:P.underlying s=some (.struct fields)) (hf:fields[f]?=some fd) (hz:szT P fd.type=some z) (hz0:z≠0) (hx:cOpd Γ x=some x') (hop:o.op= .fieldAddr s x f)
  (hv:movP fd.offset (val E x')=some v):Snd P Γ o a w F ρ n0 v H []:=by
 obtain⟨b,p,e,hr⟩:=qic (zas ho he hx) hv;refine zbb ho ?_ hr;simp[execOp,hop,e,Instr.fieldAt,zaz hs,hf,Instr.sureAddr,fieldPlace,zdh hz,hz0,zew]
theorem ztv(ho:HOK Γ w F ρ H){v':Value}{t:TypeId}{x i:Operand}(hop:o.op= .indexAddr t x i)
  (hr:(Instr.indexAt t (a.eval x) (a.eval i)).run P w= .ok v' w) (h:Rep w (Mu F ρ) ρ v v'):Snd P Γ o a w F ρ n0 v H []:=
 zbb ho (by simp[execOp,hop,hr]) h
theorem qie(ho:HOK Γ w F ρ H)(he:∀t,Rep w (Mu F ρ) ρ (E t) (a.tmps.getD t undef)){t el:TypeId}{sz:Nat}{x i:Operand}{x' i':Opd}{k:IntKind}{j:Int}
  (ht:P.underlying t=some (.slice el)) (hz:szT P el=some sz) (hx:cOpd Γ x=some x') (hi:cOpd Γ i=some i') (hop:o.op= .indexAddr t x i) (hj:val E i'= .int k j)
  (hv:(∃id off n c,val E x'= .sl id off n sz c/\0<=j/\j<n/\v= .ptr id (off+j.toNat*sz))\/(∃cs n c,val E x'= .vec cs n c/\0<=j/\j<n/\v= .iptr cs (j.toNat*sz))):
  Snd P Γ o a w F ρ n0 v H []:=by
 have h1:=zas ho he hx;have h2:=zas ho he hi;rw[hj]at h2;have e2:=zcd h2;rcases hv with⟨id,off,n,c,hv,hj0,hjn,rfl⟩ | ⟨cs,n,c,hv,hj0,hjn,rfl⟩
 ·rw[hv]at h1;obtain⟨b,cap,e1,hn,hc,hb⟩:=zfo h1;refine ztv ho hop (v':= .pointer (some ⟨b,off+j.toNat*sz,none⟩)) ?_ ?_
  ·simp[e1,e2,Instr.indexAt,asIntOf,zaz ht,hj0,hjn,zdh hz,zew]
  ·rcases hb with hb | ⟨hb,el',m',hs,_⟩
   ·exact .ptrDead _ _ _ hb
   ·exact .ptrAt _ _ _ hb ⟨_,hs⟩
 ·rw[hv]at h1;rcases zga h1 with⟨_,_,_,hn0,_⟩ | ⟨b,off,cap,vs,e1,hM,hcell,hrep,hn,hc⟩
  ·omega
  ·refine ztv ho hop (v':= .pointer (some ⟨b,off+j.toNat*sz,none⟩)) ?_ (.imm _ _ (.iptr cs _ b off vs hM hcell hrep));simp[e1,e2,Instr.indexAt,asIntOf,zaz ht,hj0,hjn,zdh hz,zew]
theorem qcl(ho:HOK Γ w F ρ H)(he:∀t,Rep w (Mu F ρ) ρ (E t) (a.tmps.getD t undef)){t el:TypeId}{n sz:Nat}{x i:Operand}{x' i':Opd}{k:IntKind}{j:Int}
  (ht:P.underlying t=some (.array n el)) (hz:szT P el=some sz) (hx:cOpd Γ x=some x') (hi:cOpd Γ i=some i') (hop:o.op= .indexAddr t x i) (hj:val E i'= .int k j)
  (hj0:0<=j) (hjn:j<n)
  (hv:movP (j.toNat*sz) (val E x')=some v):Snd P Γ o a w F ρ n0 v H []:=by
 have h2:=zas ho he hi;rw[hj]at h2;have e2:=zcd h2;obtain⟨b,p,e,hr⟩:=qic (zas ho he hx) hv;refine ztv ho hop ?_ hr;simp[e,e2,Instr.indexAt,asIntOf,zaz ht,Instr.sureAddr,hj0,hjn,zdh hz,zew]
end
theorem zlk{P:Program}{t:TypeId}{ag:Bool}{sz:Nat}(h:ldSz P t=some (ag,sz)):
  zrx P t=some ag/\(ag=true->szT P t=some sz)/\(ag=false->sz=1):=by
 unfold ldSz at h;split at h
 ·rename_i h1 h2;simp at h;obtain⟨rfl,rfl⟩:=h;exact⟨h1,λ_=>h2,λx=>by simp at x⟩
 ·rename_i h1 h2;simp at h;obtain⟨rfl,rfl⟩:=h;exact⟨h1,λx=>by simp at x,λ_=>rfl⟩
 ·simp at h
theorem zku{P:Program}{w:World}{t:TypeId}{ag:Bool}{sz:Nat}(h:ldSz P t=some (ag,sz)){b p:Nat}{vs:Nat->Value}
  (hc:∀j,j<sz->w.cell? ⟨b,p+j,none⟩=some (vs j)):
  (loadVar t ⟨b,p,none⟩).run P w= .ok (if ag then .agg ((List.range sz).map vs).toArray else vs 0) w:=by
 obtain⟨h1,h2,h3⟩:=zlk h;unfold loadVar;simp only[Sem.run_bind,zop h1,Result.andThen_ok];cases ag with
 |true=>
  simp only[if_true,Sem.run_bind,zdh (h2 rfl),Result.andThen_ok,zlj hc];rfl
 |false=>
  have e:=h3 rfl;subst e;have:=hc 0 (by omega);simp only[xV,if_false];exact qwm this
theorem zzd{w:World}{M:Nat->Prop}{ρ:Nat->RS}{ag:Bool}{sz off:Nat}{cs:List AV}{vs:Nat->Value}(hl:off+sz<=cs.length)(hs:ag=false->sz=1)
  (hr:∀(j:Nat) (a:AV),j<sz->cs[off+j]?=some a->Rep w M ρ a (vs j)):Rep w M ρ (ldv ag sz off cs) (if ag then .agg ((List.range sz).map vs).toArray else vs 0):=by
 unfold ldv;cases ag with
 |true=>
  simp only[if_true];refine .agg _ _ (by simp;omega) (λj a v hj hv=>?_);rw[qE]at hj;split at hj
  ·rename_i hlt;rw[qS]at hj;have:=hr j a hlt hj;simp[hlt]at hv;subst hv;exact this
  ·simp at hj
 |false=>
  have e:=hs rfl;subst e;simp only[xV,if_false];have hlt:off<cs.length:=by omega
  have:=hr 0 cs[off] (by omega) (by simp[hlt]);simpa[hlt]using this
section
variable{P:Program}{Γ:Glob}{E:Env}{a:Act}{w:World}{F:Nat->Prop}{ρ:Nat->RS}{H:Heap}{n0 fresh:Nat}{o:Oper}{v:AV}{e:Eff}{rd:List Nat}
theorem zob(ho:HOK Γ w F ρ H){id off:Nat}{u:Value}{cs:List AV}(h:Rep w (Mu F ρ) ρ (.ptr id off) u)(hg:getB H id=some cs):
  ∃b,u= .pointer (some ⟨b,off,none⟩)/\ρ id= .here b/\(∀j,w.frozen? ⟨b,j,none⟩=false)/\
   ∀(j:Nat) (a:AV),cs[j]?=some a->∃v,w.cell? ⟨b,j,none⟩=some v/\Rep w (Mu F ρ) ρ a v:=by
 have hsh:=qhx h;obtain⟨b,rfl,hb⟩:=zoq h;obtain⟨b',el,m,hb',_,_,hf,hc⟩:=ho.at hg hsh;rcases hb with hb | hb
 ·rw[hb]at hb';simp at hb';subst hb';exact⟨b,rfl,hb,hf,hc⟩
 ·rw[hb]at hb';simp at hb'
theorem zir{b p sz:Nat}{cs:List AV}(hl:p+sz<=cs.length)
  (hc:∀(j:Nat) (a:AV),cs[j]?=some a->∃v,w.cell? ⟨b,j,none⟩=some v/\Rep w (Mu F ρ) ρ a v):
  ∃vs:Nat->Value,(∀j,j<sz->w.cell? ⟨b,p+j,none⟩=some (vs j))/\∀(j:Nat) (a:AV),j<sz->cs[p+j]?=some a->Rep w (Mu F ρ) ρ a (vs j):=by
 refine⟨λj=>(w.cell? ⟨b,p+j,none⟩).getD undef,λj hj=>?_,λj a hj ha=>?_⟩
 ·obtain⟨v,hv,_⟩:=hc (p+j) cs[p+j] (by simp);simp[hv]
 ·obtain⟨v,hv,hr⟩:=hc (p+j) a ha;simpa[hv]using hr
theorem qcm(ho:HOK Γ w F ρ H)(he:∀t,Rep w (Mu F ρ) ρ (E t) (a.tmps.getD t undef)){t:TypeId}{ag:Bool}{sz:Nat}{x:Operand}{x':Opd}
  (ht:ldSz P t=some (ag,sz)) (hx:cOpd Γ x=some x') (hop:o.op= .load t x)
  (hv:(∃id off cs,val E x'= .ptr id off/\getB H id=some cs/\off+sz<=cs.length/\v=ldv ag sz off cs)\/
   (∃cs p,val E x'= .iptr cs p/\p+sz<=cs.length/\v=ldv ag sz p cs)):Snd P Γ o a w F ρ n0 v H []:=by
 have h1:=zas ho he hx;have hs:=(zlk ht).2.2;rcases hv with⟨id,off,cs,hv,hg,hl,rfl⟩ | ⟨cs,p,hv,hl,rfl⟩
 ·rw[hv]at h1;obtain⟨b,e1,hb,hf,hc⟩:=zob ho h1 hg;obtain⟨vs,hvs,hr⟩:=zir hl hc;refine zbb ho ?_ (zzd hl hs hr);simp[execOp,hop,e1,Instr.loadAt,Instr.sureAddr,zku ht hvs]
 ·rw[hv]at h1;obtain⟨b,q,vs,e1,hM,hcell,hrep⟩:=zhm h1
  have hvs:∀j,j<sz->w.cell? ⟨b,(q+p)+j,none⟩=some (vs (p+j)):=λj hj=>by
   rw[xZ];exact hcell (p+j) (by omega)
  refine zbb ho ?_ (zzd (vs:=λj=>vs (p+j)) hl hs (λj a hj ha=> .imm _ _ (hrep (p+j) a ha)));simp[execOp,hop,e1,Instr.loadAt,Instr.sureAddr,zku ht hvs]
theorem qcn{t:TypeId}{ag:Bool}{sz off:Nat}{cs:List AV}{us:Array Value}(ht:ldSz P t=some (ag,sz))(hl:off+sz<=cs.length)(hsz:us.size=cs.length)
  (hr:∀(j:Nat) (a:AV) (v:Value),cs[j]?=some a->us[j]?=some v->Rep w (Mu F ρ) ρ a v):
  ∃v',(part t us off).run P w= .ok v' w/\Rep w (Mu F ρ) ρ (ldv ag sz off cs) v':=by
 obtain⟨h1,h2,h3⟩:=zlk ht;unfold part ldv;cases ag with
 |true=>
  refine⟨.agg (us.extract off (off+sz)),by simp[zop h1,zdh (h2 rfl)],?_⟩;simp only[if_true];refine .agg _ _ (by simp;omega) (λj a v hj hv=>?_);rw[qE]at hj;split at hj
  ·rename_i hlt;rw[qS]at hj;refine hr (off+j) a v hj ?_;rw[Array.getElem?_extract]at hv;split at hv
   ·exact hv
   ·simp at hv
  ·simp at hj
 |false=>
  have e:=h3 rfl;subst e;have hlt:off<cs.length:=by omega
  have hlu:off<us.size:=by omega
  refine⟨us[off],by simp[zop h1,hlu],?_⟩;have:=hr off cs[off] us[off] (by simp[hlt]) (by simp[hlu]);simpa[hlt]using this
theorem qqj(ho:HOK Γ w F ρ H)(he:∀t,Rep w (Mu F ρ) ρ (E t) (a.tmps.getD t undef)){s:TypeId}{fields:Array Field}{fd:Field}{f:Nat}{ag:Bool}{sz:Nat}{x:Operand}{x':Opd}{cs:List AV}
  (hs:P.underlying s=some (.struct fields)) (hf:fields[f]?=some fd) (ht:ldSz P fd.type=some (ag,sz)) (hx:cOpd Γ x=some x') (hop:o.op= .field s x f)
  (hv:val E x'= .agg cs) (hl:fd.offset+sz<=cs.length):Snd P Γ o a w F ρ n0 (ldv ag sz fd.offset cs) H []:=by
 have h1:=zas ho he hx;rw[hv]at h1;obtain⟨us,e1,hsz,hr⟩:=zmr h1;obtain⟨v',hv',hr'⟩:=qcn (P:=P) ht hl hsz hr;exact zbb ho (by simp[execOp,hop,e1,Instr.field,zaz hs,hf,asAgg,hv']) hr'
theorem qqk(ho:HOK Γ w F ρ H)(he:∀t,Rep w (Mu F ρ) ρ (E t) (a.tmps.getD t undef)){t el:TypeId}{n:Nat}{ag:Bool}{sz s:Nat}{x i:Operand}{x' i':Opd}{cs:List AV}{k:IntKind}{j:Int}
  (ht:P.underlying t=some (.array n el)) (hel:ldSz P el=some (ag,sz)) (hz:szT P el=some s) (hss:s=sz) (hx:cOpd Γ x=some x') (hi:cOpd Γ i=some i') (hop:o.op= .index t x i)
  (hv:val E x'= .agg cs) (hj:val E i'= .int k j) (hj0:0<=j) (hjn:j<n) (hl:j.toNat*sz+sz<=cs.length):Snd P Γ o a w F ρ n0 (ldv ag sz (j.toNat*sz) cs) H []:=by
 have h1:=zas ho he hx;have h2:=zas ho he hi;rw[hv]at h1;rw[hj]at h2;obtain⟨us,e1,hsz,hr⟩:=zmr h1;obtain⟨v',hv',hr'⟩:=qcn (P:=P) hel hl hsz hr;subst hss;exact zbb ho (by simp[execOp,hop,e1,zcd h2,Instr.index,asIntOf,zaz ht,hj0,hjn,zdh hz,hv']) hr'
theorem qql(ho:HOK Γ w F ρ H)(he:∀t,Rep w (Mu F ρ) ρ (E t) (a.tmps.getD t undef)){t:TypeId}{x i:Operand}{x' i':Opd}{s:ByteArray}{k:IntKind}{j:Int}
  (ht:P.underlying t=some .string) (hx:cOpd Γ x=some x') (hi:cOpd Γ i=some i') (hop:o.op= .index t x i)
  (hv:val E x'= .str s) (hj:val E i'= .int k j) (hj0:0<=j) (hjn:j<s.size):Snd P Γ o a w F ρ n0 (.int .u8 (s.data.getD j.toNat 0).toNat) H []:=by
 have h1:=zas ho he hx;have h2:=zas ho he hi;rw[hv]at h1;rw[hj]at h2;have hlt:j.toNat<s.size:=by omega
 have hlt':j.toNat<s.data.size:=hlt;refine zbb ho (v':= .int .u8 (s.data.getD j.toNat 0).toNat) ?_ (.imm _ _ (.int _ _))
 have hg:s[j.toNat]?=some (s.data.getD j.toNat 0):=by
  simp[getElem?_pos s j.toNat hlt,Array.getElem?_eq_getElem hlt',ByteArray.getElem_eq_getElem_data]
 simp[execOp,hop,zkt h1,zcd h2,Instr.index,asIntOf,zaz ht,hj0,hg]
theorem zze(ho:HOK Γ w F ρ H)(he:∀t,Rep w (Mu F ρ) ρ (E t) (a.tmps.getD t undef)){cl:Call}{x:Operand}{x':Opd}{n:Nat}{t:TypeId}
  (hx:cOpd Γ x=some x') (hop:o.op= .call cl) (hc:cl.callee= .builtin .len) (hargs:cl.args.toList=[x]) (ht:cl.argTypes[0]?=some t)
  (hv:lenA (val E x')=some n) (hty:(∃el,P.underlying t=some (.slice el)/\∀s,val E x'≠ .str s)\/(P.underlying t=some .string/\∃s,val E x'= .str s)):
  Snd P Γ o a w F ρ n0 (.int .i64 n) H []:=by
 have h1:=zas ho he hx;have ha:cl.args= #[x]:=by rw[<-Array.toArray_toList (xs:=cl.args),hargs]
 refine zbb ho (v':= .int .i64 n) ?_ (.imm _ _ (.int _ _));rcases hty with⟨el,hty,hns⟩ | ⟨hty,s,hs⟩
 ·cases hx':val E x'<;>rw[hx']at hv h1 hns<;>simp[lenA]at hv
  case vec cs m c=>
   subst hv;rcases zga h1 with⟨_,e1,_,hn,_⟩ | ⟨b,off,cap,vs,e1,_⟩
   ·subst hn;simp[execOp,hop,resolve,hc,ha,invoke,builtin,Builtin.len_,ht,e1,zaz hty,goInt]
   ·simp[execOp,hop,resolve,hc,ha,invoke,builtin,Builtin.len_,ht,e1,zaz hty,goInt]
  case sl id off m sz c=>
   subst hv;obtain⟨b,cap,e1,_⟩:=zfo h1;simp[execOp,hop,resolve,hc,ha,invoke,builtin,Builtin.len_,ht,e1,zaz hty,goInt]
  case str s=>exact absurd rfl (hns s)
 ·rw[hs]at hv h1;simp[lenA]at hv;subst hv;simp[execOp,hop,resolve,hc,ha,invoke,builtin,Builtin.len_,ht,zkt h1,zaz hty,goInt]
theorem zfw{el:TypeId}{c:Array Value}:(newRow el c).run P w= .ok ⟨w.heap.size,0,none⟩ (w.alloc (.cells c el)):=by
 simp[newRow,newObj,Sem.run]
theorem qif(ho:HOK Γ w F ρ H){u:AV}{u':Value}{el:TypeId}(hfr:fresh<H.length)(hu:ρ fresh= .unborn)(hr:Rep w (Mu F ρ) ρ u u')(hf:u.firm=true)
  (hrun:(execOp a.eval o).run P w= .ok (.value (.pointer (some ⟨w.heap.size,0,none⟩))) (w.alloc (.cells u'.cells el))):
  Snd P Γ o a w F ρ n0 (.ptr fresh 0) (zac [(fresh,some u.cells)] H) [fresh]:=by
 obtain⟨h1,h2⟩:=zor hr hf;exact⟨_,_,_,_,hrun,.inl rfl,zfz n0 ho hfr hu u.cells u'.cells el (by omega) h2,.ptrAt _ _ _ (by simp[updR]) ⟨(el,u'.cells.size),by simp[World.shape?,World.alloc,-World.alloc_eq]⟩⟩
theorem zff{id b p:Nat}:∀(us:List Value) (as:List AV) (i:Nat) (w:World) (H:Heap) (cs:List AV),HOK Γ w F ρ H->ρ id= .here b->(∃x,w.shape? b=some x)->H[id]?=some (some cs)->
  p+i+us.length<=cs.length->as.length=us.length->AV.scalL as=true->(∀(j:Nat) (x:AV) (y:Value),as[j]?=some x->us[j]?=some y->Rep w (Mu F ρ) ρ x y)->
  ∃w',(storeCells ⟨b,p,none⟩ us i).run P w= .ok () w'/\After Γ F n0 ρ w ρ w' (H.set id (some (setL cs (p+i) as))) []:=by
 intro us
 induction us with
 |nil=>
  intro as i w H cs ho hb hshp hH hl hlen hsc hr;have:as=[]:=List.length_eq_zero_iff.1 hlen;subst this;refine⟨w,by simp[storeCells],?_⟩
  have hid:id<H.length:=by
   rcases qJ id H.length with h' | h'
   ·exact h'
   ·rw[qX h']at hH;simp at hH
  have e:H.set id (some (setL cs (p+i) []))=H:=by
   apply xL;intro j;by_cases ej:id=j
   ·subst ej;rw[qK hid,hH];rfl
   ·simp[ej]
  rw[e];exact zjn n0 ho
 |cons u us ih=>
  intro as i w H cs ho hb hshp hH hl hlen hsc hr;cases as with
  |nil=>simp at hlen
  |cons x as=>
   simp only[AV.scalL,qU]at hsc;simp only[xX]at hl hlen;have hx:=hr 0 x u rfl rfl;obtain⟨hn1,hn2⟩:=qqf hx hsc.1;obtain⟨cs',h1,h2⟩:=ho.blk id b hb;rw[hH]at h1;simp at h1;subst h1;obtain⟨el,m,h2,h3,h4,h5⟩:=h2.cells hshp;have hlt:p+i<cs.length:=by omega
   obtain⟨y,hy,_⟩:=h5 (p+i) cs[p+i] (by simp[hlt]);have hA:=qhw n0 ho hb hshp hH hlt hx
   have hid:id<H.length:=by
    rcases qJ id H.length with h' | h'
    ·exact h'
    ·rw[qX h']at hH;simp at hH
   obtain⟨w',hw',hA'⟩:=ih as (i+1) (w.setCell ⟨b,p+i,none⟩ u) (H.set id (some (cs.set (p+i) x))) (cs.set (p+i) x) hA.hok hb (by rw[zhl];exact hshp) (by simp[hid]) (by simp;omega) (by omega) hsc.2
    (λj x' y' hx' hy'=>(hr (j+1) x' y' (by simpa using hx') (by simpa using hy')).after ho hA)
   refine⟨w',?_,?_⟩
   ·simp only[storeCells,Sem.run_bind,zew];rw[jef hy (h4 _) hn1 hn2];simpa using hw'
   ·have:=hA.trans hA';rw[xM]at this;simpa[setL,xZ]using this
theorem qig(ho:HOK Γ w F ρ H)(he:∀t,Rep w (Mu F ρ) ρ (E t) (a.tmps.getD t undef)){t:TypeId}{sz id off:Nat}{x y:Operand}{x' y':Opd}{cs:List AV}
  (ht:szT P t=some sz) (hx:cOpd Γ x=some x') (hy:cOpd Γ y=some y') (hop:o.op= .store t x y) (hv:val E x'= .ptr id off) (hg:getB H id=some cs)
  (hf:(val E y').firm=true) (hl:(val E y').cells.length=sz) (hsc:AV.scalL (val E y').cells=true) (hlen:off+sz<=cs.length):
  Snd P Γ o a w F ρ n0 .junk (zac [(id,some (setL cs off (val E y').cells))] H) []:=by
 have h1:=zas ho he hx;have h2:=zas ho he hy;rw[hv]at h1;have hsh:=qhx h1;obtain⟨b,e1,hb,_,_⟩:=zob ho h1 hg;obtain⟨h3,h4⟩:=zor h2 hf
 obtain⟨w',hw',hA⟩:=zff (P:=P) (n0:=n0) (p:=off) (a.eval y).cells.toList (val E y').cells 0 w H cs ho hb (hsh b hb) (zcn hg) (by simp;omega) (by simp;omega) hsc
  (λj p q hp hq=>by
   obtain⟨r,hr,hr'⟩:=h4 j p hp
   have:q=r:=by
    have hq':(a.eval y).cells[j]?=some q:=by simpa using hq
    rw[hq']at hr;simpa using hr
   subst this;exact hr')
 refine⟨.skip,undef,w',ρ,?_,.inr ⟨rfl,rfl⟩,hA,.imm _ _ (.junk _)⟩;simp[execOp,hop,e1,Instr.storeAt,Instr.sureAddr,storeVar,zdh ht,h3,hl,hw']
end
def zbr(w:World)(M:Nat->Prop)(ρ:Nat->RS)(cs:List AV)(us:List Value):Prop:=
 us.length=cs.length/\∀(j:Nat) (a:AV) (v:Value),cs[j]?=some a->us[j]?=some v->Rep w M ρ a v
theorem zbr.set{w:World}{M:Nat->Prop}{ρ:Nat->RS}{cs:List AV}{us:List Value}(h:zbr w M ρ cs us){i:Nat}{a:AV}{v:Value}(hr:Rep w M ρ a v):
  zbr w M ρ (cs.set i a) (us.set i v):=by
 refine⟨by simp[h.1],λj x y hx hy=>?_⟩;by_cases e:i=j
 ·subst e;by_cases hl:i<cs.length
  ·rw[qK hl]at hx;rw[qK (by rw[h.1];exact hl)]at hy;simp at hx hy;subst hx hy;exact hr
  ·rw[qX (by simp;omega)]at hx;simp at hx
 ·rw[qZ e]at hx hy;exact h.2 j x y hx hy
theorem zbr.mono{w w':World}{M M':Nat->Prop}{ρ ρ':Nat->RS}{cs:List AV}{us:List Value}(h:zbr w M ρ cs us)(hr:∀a v,Rep w M ρ a v->Rep w' M' ρ' a v):zbr w' M' ρ' cs us:=
 ⟨h.1,λj a v h1 h2=>hr _ _ (h.2 j a v h1 h2)⟩
theorem zbr.append{w:World}{M:Nat->Prop}{ρ:Nat->RS}{cs cs':List AV}{us us':List Value}(h:zbr w M ρ cs us)(h':zbr w M ρ cs' us'):zbr w M ρ (cs++cs') (us++us'):=by
 refine⟨by simp[h.1,h'.1],λj x y hx hy=>?_⟩;rcases qJ j cs.length with hl | hl
 ·rw[qV hl]at hx;rw[qV (by rw[h.1];exact hl)]at hy;exact h.2 j x y hx hy
 ·rw[qY hl]at hx;rw[qY (by rw[h.1];exact hl),h.1]at hy;exact h'.2 _ x y hx hy
theorem zbr.setL{w:World}{M:Nat->Prop}{ρ:Nat->RS}:∀(as:List AV) (vs:List Value) (cs:List AV) (us:List Value) (i:Nat),zbr w M ρ cs us->zbr w M ρ as vs->
  zbr w M ρ (setL cs i as) ((vs.zipIdx i).foldl (λus p=>us.set p.2 p.1) us):=by
 intro as
 induction as with
 |nil=>
  intro vs cs us i h h';have:vs=[]:=List.length_eq_zero_iff.1 h'.1;subst this;simpa[AL.setL]using h
 |cons a as ih=>
  intro vs cs us i h h';cases vs with
  |nil=>have:=h'.1;simp at this
  |cons v vs=>
   simp only[AL.setL,xT,xB];refine ih vs _ _ (i+1) (h.set (h'.2 0 a v rfl rfl)) ⟨by have:=h'.1;simpa using this,λj x y hx hy=>h'.2 (j+1) x y (by simpa using hx) (by simpa using hy)⟩
theorem zot(off:Nat):∀(vs:List Value) (k:Nat) (c:Array Value),
  ((vs.zipIdx k).foldl (λ(cs:Array Value) p=>cs.setIfInBounds (off+p.2) p.1) c).toList=(vs.zipIdx (off+k)).foldl (λus p=>us.set p.2 p.1) c.toList:=by
 intro vs
 induction vs with
 |nil=>intro k c;simp
 |cons v vs ih=>
  intro k c;simp only[xT,xB];rw[ih];simp[xZ]
theorem qih{w:World}{M:Nat->Prop}{ρ:Nat->RS}{a:AV}{v:Value}(h:Rep w M ρ a v)(hf:a.firm=true):zbr w M ρ a.cells v.cells.toList:=by
 obtain⟨h1,h2⟩:=zor h hf;refine⟨by simpa using h1,λj x y hx hy=>?_⟩;obtain⟨u,hu,hr⟩:=h2 j x hx;have hy':v.cells[j]?=some y:=by simpa using hy
 rw[hy']at hu;simp at hu;subst hu;exact hr
section
variable{P:Program}{Γ:Glob}{E:Env}{a:Act}{w:World}{F:Nat->Prop}{ρ:Nat->RS}{H:Heap}{n0 fresh:Nat}{o:Oper}{v:AV}{e:Eff}{rd:List Nat}
theorem qcp(ho:HOK Γ w F ρ H)(he:∀t,Rep w (Mu F ρ) ρ (E t) (a.tmps.getD t undef))(pl:Nat->Option (Nat×Nat)):
  ∀(ps:List (Nat×Operand)) (ps':List (Nat×Nat×Opd)) (cells:Array Value) (cs r:List AV),znh Γ pl ps=some ps'->zbr w (Mu F ρ) ρ cs cells.toList->
   zfn (val E) cs ps'=some r->∃cells':Array Value,Instr.fill pl cells (ps.map λp=>(p.1,a.eval p.2))=some cells'/\zbr w (Mu F ρ) ρ r cells'.toList:=by
 intro ps
 induction ps with
 |nil=>
  intro ps' cells cs r h hr hf;simp[znh]at h;subst h;simp[zfn]at hf;subst hf;exact⟨cells,rfl,hr⟩
 |cons p ps ih=>
  obtain⟨i,x⟩:=p;intro ps' cells cs r h hr hf;simp only[znh,qQ]at h;obtain⟨⟨off,s⟩,hp,y,hy,l,hl,h⟩:=h;simp at h;subst h;simp only[zfn]at hf;obtain⟨⟨hfirm,hlen,hle⟩,hf⟩:=zad hf;have hx:=qih (zas ho he hy) hfirm;have hsz:(a.eval x).cells.size=s:=by rw[<-hlen];simpa using hx.1
  have hcs:cells.size=cs.length:=by simpa using hr.1
  have hrow:=zbr.setL _ _ _ _ off hr hx;have hfold:=zot off (a.eval x).cells.toList 0 cells;simp only[xN]at hfold;obtain⟨cells',h1,h2⟩:=ih l (((a.eval x).cells.toList.zipIdx 0).foldl (λ(cs:Array Value) p=>cs.setIfInBounds (off+p.2) p.1) cells) _ r hl (by rw[hfold];exact hrow) hf;refine⟨cells',?_,h2⟩;simp only[qL,Instr.fill,hp];rw[if_neg (by simp[hsz];omega)];rw[<-h1];congr 1;rw[<-Array.foldl_toList];simp[Array.toList_zipIdx]
theorem zjo{t:TypeId}{zl:List AV}(h:zlf P t=some zl):∃z i,P.info? t=some i/\i.zero=some z/\∀(w:World) (M:Nat->Prop) (ρ:Nat->RS),zbr w M ρ zl z.cells.toList:=by
 unfold zlf at h;split at h
 ·rename_i i hi;split at h
  ·rename_i z hz;obtain⟨h1,h2⟩:=zhn h;refine⟨z,i,hi,hz,λw M ρ=>⟨h1.symm,λj a v ha hv=>?_⟩⟩;obtain⟨y,hy,hy'⟩:=h2 j v hv;rw[ha]at hy;simp at hy;subst hy;exact .imm _ _ (ziq w M hy')
  ·simp at h
 ·simp at h
theorem zgj{t:TypeId}{z:Value}{i:TypeInfo}(hi:P.info? t=some i)(hz:i.zero=some z):(zeroValue t).run P w= .ok z w:=by
 simp[zeroValue,znz hi,hz]
theorem zou{w:World}:∀(l:List Field) (r:List (Nat×Nat)),(l.mapM λf=>(szT P f.type).map λs=>(f.offset,s))=some r->
  (l.mapM (m:=Sem) λf=>do pure (f.offset,<-sizeOf f.type)).run P w= .ok r w:=by
 intro l
 induction l with
 |nil=>intro r h;simp at h;subst h;simp
 |cons f l ih=>
  intro r h;rw[xE]at h;cases hs:szT P f.type with
  |none=>simp[hs]at h
  |some s=>
   simp only[hs,qI]at h;cases hl:l.mapM λf=>(szT P f.type).map λs=>(f.offset,s)with
   |none=>simp[hl]at h
   |some r'=>
    simp[hl]at h;subst h;have hih:=ih r' hl;rw[xE];simp only[Sem.run_bind,zdh hs,Result.andThen_ok,Sem.run_pure,hih]
theorem qii(ho:HOK Γ w F ρ H)(he:∀t,Rep w (Mu F ρ) ρ (E t) (a.tmps.getD t undef)){t:TypeId}{ps:Array (Nat×Operand)}{z cs:List AV}{pl:Nat->Option (Nat×Nat)}{ps':List (Nat×Nat×Opd)}
  (hz:zlf P t=some z) (hpl:zry P t=some pl) (hps:znh Γ pl ps.toList=some ps') (hop:o.op= .build t ps) (hf:zfn (val E) z ps'=some cs):
  Snd P Γ o a w F ρ n0 (.agg cs) H []:=by
 obtain⟨zv,i,hi,hiz,hrow⟩:=zjo hz;obtain⟨cells',h1,h2⟩:=qcp ho he pl ps.toList ps' zv.cells z cs hps (hrow _ _ _) hf;refine zbb ho (v':= .agg cells') ?_ (.agg cs cells' (by simpa using h2.1) (λj a v hj hv=>h2.2 j a v hj (by simpa using hv)));have hm:(ps.map λ(x:Nat×Operand)=>(x.1,a.eval x.2)).toList=ps.toList.map λp=>(p.1,a.eval p.2):=by simp
 unfold zry at hpl;split at hpl
 ·rename_i fields hd;cases hl:qcg P fields with
  |none=>simp[hl]at hpl
  |some l=>
   simp[hl]at hpl;subst hpl;have hrun:=zou (w:=w) fields.toList l hl
   have hrun':(fields.mapM (m:=Sem) λf=>do pure (f.offset,<-sizeOf f.type)).run P w= .ok l.toArray w:=by
    rw[Array.mapM_eq_mapM_toList,Sem.run_map,hrun];rfl
   have h1':Instr.fill (λi=>l.toArray[i]?) zv.cells (ps.toList.map λp=>(p.1,a.eval p.2))=some cells':=by simpa using h1
   simp only[execOp,hop,Instr.build,Sem.run_bind,zgj hi hiz,Result.andThen_ok,zaz hd,hrun',hm,h1',Sem.run_pure]
 ·rename_i n el hd;cases hs:szT P el with
  |none=>simp[hs]at hpl
  |some s=>
   simp[hs]at hpl;subst hpl;simp only[execOp,hop,Instr.build,Sem.run_bind,zgj hi hiz,Result.andThen_ok,zaz hd,zdh hs,hm,h1,Sem.run_pure]
 ·simp at hpl
theorem flat_get:∀(n:Nat) (z:List AV) (j:Nat),j<n*z.length->((List.replicate n z).flatten)[j]?=z[j%z.length]?:=by
 intro n z
 induction n with
 |zero=>intro j h;simp at h
 |succ n ih=>
  intro j h;rw[qN,xY];rcases qJ j z.length with hl | hl
  ·rw[qV hl,Nat.mod_eq_of_lt hl]
  ·rw[qY hl,ih (j-z.length) (by rw[Nat.succ_mul]at h;omega),Nat.mod_eq_sub_mod hl]
theorem flat_len(n:Nat)(z:List AV):((List.replicate n z).flatten).length=n*z.length:=by
 induction n with
 |zero=>simp
 |succ n ih=>rw[qN,xY,List.length_append,ih,Nat.succ_mul];omega
theorem zoc(n:Nat)(z:List AV):zeo n z=(List.replicate n z).flatten:=by
 unfold zeo;split
 ·rename_i x
  induction n with
  |zero=>simp
  |succ n ih=>rw[qN,qN,xY,<-ih];rfl
 ·rfl
theorem zll{w:World}{M:Nat->Prop}{ρ:Nat->RS}{z:List AV}{zv:Array Value}(n:Nat)(hz:0<z.length)(h:zbr w M ρ z zv.toList):
  zbr w M ρ ((List.replicate n z).flatten) (((Array.range (n*z.length)).map λj=>zv[j%zv.size]!)).toList:=by
 have hs:zv.size=z.length:=by simpa using h.1
 refine⟨by rw[flat_len];simp,λj a v ha hv=>?_⟩
 have hj:j<n*z.length:=by
  rcases qJ j (n*z.length)with h' | h'
  ·exact h'
  ·rw[qX (by rw[flat_len];exact h')]at ha;simp at ha
 rw[flat_get n z j hj]at ha;have hlt:j%z.length<z.length:=Nat.mod_lt _ hz;simp[hj,hs]at hv;refine h.2 (j%z.length) a v ha ?_;have:j%z.length<zv.size:=by omega
 rw[<-hv];simp[this]
theorem qyt(ho:HOK Γ w F ρ H)(he:∀t,Rep w (Mu F ρ) ρ (E t) (a.tmps.getD t undef)){t el:TypeId}{n s:Nat}{ps:Array (Nat×Operand)}{z cs:List AV}{ps':List (Nat×Nat×Opd)}
  (hfr:fresh<H.length) (hu:ρ fresh= .unborn)
  (ht:P.underlying t=some (.slice el)) (hs:szT P el=some s) (hz:zlf P el=some z) (hps:znh Γ (λi=>some (i*s,s)) ps.toList=some ps') (hsz:s=z.length) (hmax:n*s<=2^24)
  (hop:o.op= .buildSlice t n ps) (hf:zfn (val E) (List.replicate n z).flatten ps'=some cs):
  Snd P Γ o a w F ρ n0 (.sl fresh 0 n s (some n)) (zac [(fresh,some cs)] H) [fresh]:=by
 obtain⟨zv,i,hi,hiz,hrow⟩:=zjo hz;have hm:(ps.map λ(x:Nat×Operand)=>(x.1,a.eval x.2)).toList=ps.toList.map λp=>(p.1,a.eval p.2):=by simp
 have key:∀cells0:Array Value,zbr w (Mu F ρ) ρ (List.replicate n z).flatten cells0.toList->
   (execOp a.eval o).run P w=(match Instr.fill (λi=>some (i*s,s)) cells0 (ps.toList.map λp=>(p.1,a.eval p.2))with
    |some cells=> .ok (.value (.slice (some ⟨w.heap.size,0,none⟩) n n)) (w.alloc (.cells cells el))
    |none=> .halt (.stuck "buildSlice: a part of the wrong size") w)->Snd P Γ o a w F ρ n0 (.sl fresh 0 n s (some n)) (zac [(fresh,some cs)] H) [fresh]:=by
  intro cells0 hr0 hrun;obtain⟨cells',h1,h2⟩:=qcp ho he (λi=>some (i*s,s)) ps.toList ps' cells0 _ cs hps hr0 hf;rw[h1]at hrun;have hcl:cells'.size=cs.length:=by simpa using h2.1
  have hcn:cs.length=n*s:=by
   have hfl:∀(ps':List (Nat×Nat×Opd)) (z r:List AV),zfn (val E) z ps'=some r->r.length=z.length:=by
    intro ps'
    induction ps' with
    |nil=>intro z r h;simp[zfn]at h;subst h;rfl
    |cons p ps' ih=>
     intro z r h;simp only[zfn]at h;obtain⟨_,h⟩:=zad h
     have hsl:∀(vs cs:List AV) (i:Nat),(setL cs i vs).length=cs.length:=by
      intro vs
      induction vs with
      |nil=>intro cs i;rfl
      |cons v vs ih2=>intro cs i;simp[setL,ih2]
     rw[ih _ _ h,hsl]
   rw[hfl _ _ _ hf,flat_len,hsz]
  refine⟨_,_,_,_,hrun,.inl rfl,zfz n0 ho hfr hu cs cells' el (by omega) (λj x hx=>?_),?_⟩
  ·have hj:j<cells'.size:=by
    rcases qJ j cs.length with h' | h'
    ·omega
    ·rw[qX h']at hx;simp at hx
   exact⟨cells'[j],by simp[hj],h2.2 j x _ hx (by simp[hj])⟩
  ·exact .slAt _ _ _ _ _ w.heap.size n el cells'.size (by simp[updR]) (by simp[World.shape?,World.alloc,-World.alloc_eq]) (qD _) (by intro k hk;simpa using hk) (by omega)
 by_cases h0:n*s=0
 ·refine key ((Array.range (n*s)).map λj=>(#[]:Array Value)[j%(#[]:Array Value).size]!) ?_ ?_
  ·have:(List.replicate n z).flatten=[]:=by apply List.length_eq_zero_iff.1;rw[flat_len,<-hsz];exact h0
   rw[this,h0];exact⟨by simp,λj a v ha=>by simp at ha⟩
  ·simp only[execOp,hop,Instr.buildSlice,Sem.run_bind,zaz ht,Result.andThen_ok,zdh hs];rw[if_neg (by omega)];simp only[if_pos h0,Sem.run_bind,Sem.run_pure,Result.andThen_ok,hm];cases Instr.fill (λi=>some (i*s,s)) ((Array.range (n*s)).map λj=>(#[]:Array Value)[j%(#[]:Array Value).size]!) (ps.toList.map λp=>(p.1,a.eval p.2))<;>simp[zfw,stuck,Sem.run]
 ·have hzl:0<z.length:=by rw[<-hsz];exact Nat.pos_of_ne_zero (λe=>h0 (by simp[e]))
  have hrw:=zll n hzl (hrow w (Mu F ρ) ρ);rw[<-hsz]at hrw;refine key _ hrw ?_;simp only[execOp,hop,Instr.buildSlice,Sem.run_bind,zaz ht,Result.andThen_ok,zdh hs];rw[if_neg (by omega)];simp only[if_neg h0,Sem.run_bind,Sem.run_pure,Result.andThen_ok,hm,zgj hi hiz];cases Instr.fill (λi=>some (i*s,s)) ((Array.range (n*s)).map λj=>zv.cells[j%zv.cells.size]!) (ps.toList.map λp=>(p.1,a.eval p.2))<;>simp[zfw,stuck,Sem.run]
end
section
variable{P:Program}{Γ:Glob}{E:Env}{a:Act}{w:World}{F:Nat->Prop}{ρ:Nat->RS}{H:Heap}{n0 fresh:Nat}{o:Oper}{v:AV}{e:Eff}{rd:List Nat}
theorem qyu{w:World}{M:Nat->Prop}{ρ:Nat->RS}{cs:List AV}{c:Array Value}(h:zbr w M ρ cs c.toList):
  ∀(j:Nat) (a:AV),cs[j]?=some a->∃v,c[j]?=some v/\Rep w M ρ a v:=by
 intro j x hx;have hl:c.size=cs.length:=by simpa using h.1
 have hj:j<c.size:=by
  rcases qJ j cs.length with h' | h'
  ·omega
  ·rw[qX h']at hx;simp at hx
 exact⟨c[j],by simp[hj],h.2 j x _ hx (by simp[hj])⟩
theorem qqm(ho:HOK Γ w F ρ H)(he:∀t,Rep w (Mu F ρ) ρ (E t) (a.tmps.getD t undef)){t el:TypeId}{i:TypeInfo}{x y:Operand}{x' y':Opd}{z:List AV}{k k':IntKind}{n c:Int}
  (hfr:fresh<H.length) (hu:ρ fresh= .unborn) (ht:P.underlying t=some (.slice el)) (hi:P.info? el=some i) (hz:zlf P el=some z)
  (hx:cOpd Γ x=some x') (hy:cOpd Γ y=some y') (hop:o.op= .makeSlice t x y) (hn:val E x'= .int k n) (hc:val E y'= .int k' c)
  (h0:0<=n) (h1:n<=c) (h2:c*i.bytes<=2^48) (h3:c<2^63) (h4:z.length=i.size) (h5:0<i.size):
  Snd P Γ o a w F ρ n0 (.sl fresh 0 n.toNat i.size (some c.toNat)) (zac [(fresh,some (zeo c.toNat z))] H) [fresh]:=by
 have hx':=zas ho he hx;have hy':=zas ho he hy;rw[hn]at hx';rw[hc]at hy';obtain⟨zv,i',hi',hiz,hrow⟩:=zjo hz;rw[hi]at hi';simp at hi';subst hi';have hzl:0<z.length:=by omega
 have hrw:=zll c.toNat hzl (hrow w (Mu F ρ) ρ);rw[h4,<-zoc]at hrw;have wn:IntKind.i64.wrap n=n:=IntWalk.i64_in _ (by omega);have wc:IntKind.i64.wrap c=c:=IntWalk.i64_in _ (by omega);have hb:(i.bytes:Int)*c=c*i.bytes:=Int.mul_comm _ _;have hbig:¬((i.bytes:Int)*c>2^48):=by rw[hb];omega
 have hrun:(execOp a.eval o).run P w= .ok (.value (.slice (some ⟨w.heap.size,0,none⟩) n.toNat c.toNat))
   (w.alloc (.cells ((Array.range (c.toNat*i.size)).map λj=>zv.cells[j%zv.cells.size]!) el)):=by
  simp only[execOp,hop,zcd hx',zcd hy',Instr.makeSlice,Sem.run_bind,zaz ht,Result.andThen_ok,asInt,asIntOf,Sem.run_pure,znz hi,wn,wc];rw[if_neg (by simp[hbig];omega)];simp only[Sem.run_bind,Sem.run_pure,Result.andThen_ok,askRoom]
  have hask:∀(w:World) (b:Nat),((if b>roomBytes then mark .noRoom else pure ():Sem Unit)).run P w= .ok () w:=by
   intro w b;split<;>simp[mark,Sem.run]
  rw[hask];simp only[Result.andThen_ok,sizeOf,Sem.run_bind,znz hi,Sem.run_pure];by_cases hz0:c.toNat*i.size=0
  ·have hr0:Array.range 0= #[]:=rfl;simp[hz0,zfw,hr0]
  ·simp only[if_neg hz0,Sem.run_bind,zgj hi hiz,Sem.run_pure,Result.andThen_ok,zfw]
 have hsz:((Array.range (c.toNat*i.size)).map λj=>zv.cells[j%zv.cells.size]!).size=c.toNat*i.size:=by simp
 refine⟨_,_,_,_,hrun,.inl rfl,zfz n0 ho hfr hu (zeo c.toNat z) _ el (Nat.le_of_eq (by simpa using hrw.1.symm)) (qyu hrw),?_⟩;exact .slAt _ _ _ _ _ w.heap.size c.toNat el _ (by simp[updR]) (by simp[World.shape?,World.alloc,-World.alloc_eq];rfl) (by omega) (by intro k hk;simpa using hk) (by omega)
theorem qfh{x:AV}{n:Nat}(h:zgx x=some n):∃k i,x= .int k i/\0<=i/\n=i.toNat:=by
 cases x<;>simp[zgx]at h;rename_i k i;obtain⟨h1,h2⟩:=zad h;simp at h2;exact⟨k,i,rfl,h1,h2.symm⟩
theorem zov{x:AV}{x':Value}{n y:Nat}(h:Rep w (Mu F ρ) ρ x x')(hn:zgx x=some n)(hy:n<=y)(code:BoundsCode):(Instr.sliceBound x' y code).run P w= .ok n w:=by
 obtain⟨k,i,rfl,h0,rfl⟩:=qfh hn;have:=zcd h;subst this;simp[Instr.sliceBound,asIntOf,h0];omega
def cOpt(Γ:Glob):Option Operand->Option (Option Opd)
 |none=>some none
 |some x=>(cOpd Γ x).map some
theorem optM{x:Option Operand}{y:Option Opd}(h:x.mapM (cOpd Γ)=some y):cOpt Γ x=some y:=by
 cases x with
 |none=>simpa[cOpt]using h
 |some x=>simp[cOpt]at h ⊢;exact h
theorem zsa(ho:HOK Γ w F ρ H)(he:∀t,Rep w (Mu F ρ) ρ (E t) (a.tmps.getD t undef)){lo hi mx:Option Operand}{lo' hi' mx':Option Opd}(hlo:cOpt Γ lo=some lo')(hhi:cOpt Γ hi=some hi')(hmx:cOpt Γ mx=some mx')
  {isS:Bool} {n cap l h m:Nat} (hl:zbw (val E) 0 lo'=some l) (hh:zbw (val E) n hi'=some h)
  (hm:(mx'=none/\m=cap)\/(∃y,mx'=some y/\zgx (val E y)=some m/\hi'.isSome=true)) (h1:l<=h) (h2:h<=m) (h3:m<=cap):
  (Instr.sliceBounds isS n cap (lo.map a.eval) (hi.map a.eval) (mx.map a.eval)).run P w= .ok (l,h,m) w:=by
 have low:∀x y,lo=some x->lo'=some y->∀code,(Instr.sliceBound (a.eval x) h code).run P w= .ok l w:=by
  intro x y e1 e2 code;subst e1 e2;simp[cOpt]at hlo;exact zov (zas ho he hlo) (by simpa[zbw]using hl) h1 code
 have high:∀x y,hi=some x->hi'=some y->∀code,(Instr.sliceBound (a.eval x) m code).run P w= .ok h w:=by
  intro x y e1 e2 code;subst e1 e2;simp[cOpt]at hhi;exact zov (zas ho he hhi) (by simpa[zbw]using hh) h2 code
 have lowN:lo'=none->l=0:=by intro e1;subst e1;simpa[zbw]using hl.symm
 have highN:hi'=none->h=n:=by intro e1;subst e1;simpa[zbw]using hh.symm
 have cN:∀(x:Option Operand) (y:Option Opd),cOpt Γ x=some y->(x=none/\y=none)\/∃u z,x=some u/\y=some z:=by
  intro x y hxy;cases x with
  |none=>simp[cOpt]at hxy;exact .inl ⟨rfl,hxy.symm⟩
  |some u=>simp[cOpt]at hxy;obtain⟨z,_,rfl⟩:=hxy;exact .inr ⟨u,z,rfl,rfl⟩
 rcases cN mx mx' hmx with⟨rfl,rfl⟩ | ⟨xm,ym,rfl,rfl⟩
 ·rcases hm with⟨_,rfl⟩ | ⟨y,hy,_⟩
  ·rcases cN lo lo' hlo with⟨rfl,rfl⟩ | ⟨xl,yl,rfl,rfl⟩<;>rcases cN hi hi' hhi with⟨rfl,rfl⟩ | ⟨xh,yh,rfl,rfl⟩
   ·have:=lowN rfl;have:=highN rfl;subst_vars;simp[Instr.sliceBounds]
   ·have:=lowN rfl;subst this;simp[Instr.sliceBounds,high xh yh rfl rfl]
   ·have:=highN rfl;subst this;simp[Instr.sliceBounds,low xl yl rfl rfl]
   ·simp[Instr.sliceBounds,low xl yl rfl rfl,high xh yh rfl rfl]
  ·simp at hy
 ·rcases hm with⟨hm,_⟩ | ⟨y',hy',hn,hs⟩
  ·simp at hm
  ·simp at hy';subst hy';simp[cOpt]at hmx;have hM:=λcode=>zov (P:=P) (zas ho he hmx) hn h3 code
   rcases cN hi hi' hhi with⟨rfl,rfl⟩ | ⟨xh,yh,rfl,rfl⟩
   ·simp at hs
   ·rcases cN lo lo' hlo with⟨rfl,rfl⟩ | ⟨xl,yl,rfl,rfl⟩
    ·have:=lowN rfl;subst this;simp[Instr.sliceBounds,high xh yh rfl rfl,hM]
    ·simp[Instr.sliceBounds,low xl yl rfl rfl,high xh yh rfl rfl,hM]
theorem qij{w:World}{M:Nat->Prop}{cs:List AV}{b off l k:Nat}{vs:Nat->Value}(hM:cs≠[]->¬M b)(hcell:∀j,j<cs.length->w.cell? ⟨b,off+j,none⟩=some (vs j))
  (hrep:∀(j:Nat) (a:AV),cs[j]?=some a->IRep w M a (vs j)) {n cap:Nat} {c:Option Nat} (hn:n<=cap) (hc:∀k,c=some k->cap=k):
  IRep w M (.vec ((cs.drop l).take k) n c) (.slice (some ⟨b,off+l,none⟩) n cap):=by
 refine .vec _ n c b (off+l) cap (λj=>vs (l+j)) (λhne=>hM (λe=>hne (by simp[e]))) (λj hj=>?_) (λj a ha=>?_) hn hc
 ·simp at hj;rw[xZ];exact hcell (l+j) (by omega)
 ·rw[qE]at ha;split at ha
  ·rw[qS]at ha;exact hrep (l+j) a ha
  ·simp at ha
theorem zow{l:Nat}{c:Option Nat}{cap k:Nat}(hc:∀k,c=some k->cap=k)(h:zdn l c=some k):cap-l=k:=by
 cases c with
 |none=>simp[zdn]at h
 |some c'=>simp[zdn]at h;have:=hc c' rfl;omega
theorem zwt{sz:Nat}{x:AV}{lo' hi' mx':Option Opd}(h:zej (val E) sz x lo' hi' mx'=some v):
  (∀{u:Value},Rep w (Mu F ρ) ρ x u->∃(ad:Option Addr) (n cap l h m:Nat),u= .slice ad n cap/\zbw (val E) 0 lo'=some l/\zbw (val E) n hi'=some h/\
   ((mx'=none/\m=cap)\/(∃y,mx'=some y/\zgx (val E y)=some m/\hi'.isSome=true))/\l<=h/\h<=m/\m<=cap/\
   Rep w (Mu F ρ) ρ v (.slice (if m=l then ad else ad.map (·.add (l*sz))) (h-l) (m-l))):=by
 intro u hr;cases x<;>simp only[zej]at h<;>try (simp at h;done)
 case vec cs n c=>
  simp only[qQ]at h;obtain⟨hh,hhe,l,hle,h⟩:=h
  have emp:∀(ad:Option Addr) (c':Option Nat) (k:Nat),(∀b o s,ad=some ⟨b,o,s⟩->s=none)->(ad=none->k=0)->(∀q,c'=some q->k=q)->IRep w (Mu F ρ) (.vec [] 0 c') (.slice ad 0 k):=by
   intro ad c' k h1 h2 h3;cases ad with
   |none=>have:=h2 rfl;subst this;exact .nil none _ (λq hq=>(h3 q hq).symm)
   |some ad=>
    obtain⟨b,o,s⟩:=ad;have:=h1 b o s rfl;subst this;exact .vec [] 0 c' b o k (λ_=>undef) (by simp) (by simp) (by simp) (xJ _) h3
  have body:∀(mf:Nat->Nat) (c':Option Nat),l<=hh->hh<=n->n*sz<=cs.length->(∀cap,n<=cap->(∀k,c=some k->cap=k)->hh<=mf cap/\mf cap<=cap/\∀q,c'=some q->mf cap-l=q)->
    (∀cap,(mx'=none/\mf cap=cap)\/(∃y,mx'=some y/\zgx (val E y)=some (mf cap)/\hi'.isSome=true))->
    ∃(ad:Option Addr) (n' cap l2 k2 m:Nat),u= .slice ad n' cap/\zbw (val E) 0 lo'=some l2/\zbw (val E) n' hi'=some k2/\
     ((mx'=none/\m=cap)\/(∃y,mx'=some y/\zgx (val E y)=some m/\hi'.isSome=true))/\l2<=k2/\k2<=m/\m<=cap/\
     Rep w (Mu F ρ) ρ (.vec ((cs.drop (l*sz)).take ((hh-l)*sz)) (hh-l) c') (.slice (if m=l2 then ad else ad.map (·.add (l2*sz))) (k2-l2) (m-l2)):=by
   intro mf c' h1 h2 h3 h4 h5;rcases zga hr with⟨p,rfl,rfl,rfl,hc⟩ | ⟨b,off,cap,vs,rfl,hM,hcell,hrep,hn,hc⟩
   ·obtain⟨g1,g2,g3⟩:=h4 0 (qD _) (λk hk=>(hc k hk).symm);refine⟨p,0,0,l,hh,mf 0,rfl,hle,hhe,h5 0,h1,g1,g2,.imm _ _ ?_⟩;have e1:l=0:=by omega
    have e2:hh=0:=by omega
    have e3:mf 0=0:=by omega
    subst e1 e2;simp only[e3,if_true,List.drop_nil,List.take_nil,xO];exact .nil _ _ (λq hq=>by have:=g3 q hq;omega)
   ·obtain⟨g1,g2,g3⟩:=h4 cap hn hc;refine⟨some ⟨b,off,none⟩,n,cap,l,hh,mf cap,rfl,hle,hhe,h5 cap,h1,g1,g2,.imm _ _ ?_⟩;by_cases e:mf cap=l
    ·have e2:hh=l:=by omega
     subst e2;simp only[e,if_true,xO,Nat.zero_mul,List.take_zero];exact emp _ _ _ (by intro b o s h;simp at h;exact h.2.2.symm) (by simp) (λq hq=>by have:=g3 q hq;omega)
    ·simp only[e,if_false,qI,zew];exact qij hM hcell hrep (by omega) g3
  cases mx' with
  |none=>
   simp only at h;obtain⟨⟨h1,h2,h3⟩,hv⟩:=zad h;simp at hv;subst hv;exact body (λcap=>cap) _ h1 h2 h3 (λcap hcap hcc=>⟨by omega,qD _,λq hq=>zow hcc hq⟩) (λcap=> .inl ⟨rfl,rfl⟩)
  |some y=>
   simp only[qQ]at h;obtain⟨m,hm,h⟩:=h;obtain⟨⟨h0,h1,h2,h3,h4⟩,hv⟩:=zad h;simp at hv;subst hv;exact body (λ_=>m) (some (m-l)) h1 (by omega) h4 (λcap hcap hcc=>⟨h2,by omega,λq hq=>by simpa using hq⟩) (λcap=> .inr ⟨y,rfl,hm,h0⟩)
 case sl id off n s c=>
  simp only[qQ]at h;obtain⟨hh,hhe,l,hle,h⟩:=h;obtain⟨b,cap,rfl,hn,hc,hb⟩:=zfo hr
  have body:∀(m:Nat) (c':Option Nat) (z:AV),(l=hh->Rep w (Mu F ρ) ρ z (.slice (if m=l then some ⟨b,off,none⟩else(some ⟨b,off,none⟩:Option Addr).map (·.add (l*sz))) 0 (m-l)))->s=sz->l<=hh->hh<=n->hh<=m->m<=cap->(∀q,c'=some q->m-l=q)->
    ((mx'=none/\m=cap)\/(∃y,mx'=some y/\zgx (val E y)=some m/\hi'.isSome=true))->
    ∃(ad:Option Addr) (n' cap' l2 k2 m:Nat),(Value.slice (some ⟨b,off,none⟩) n cap)= .slice ad n' cap'/\zbw (val E) 0 lo'=some l2/\zbw (val E) n' hi'=some k2/\
     ((mx'=none/\m=cap')\/(∃y,mx'=some y/\zgx (val E y)=some m/\hi'.isSome=true))/\l2<=k2/\k2<=m/\m<=cap'/\
     Rep w (Mu F ρ) ρ (if l=hh then z else .sl id (off+l*sz) (hh-l) sz c') (.slice (if m=l2 then ad else ad.map (·.add (l2*sz))) (k2-l2) (m-l2)):=by
   intro m c' z hz h0 h1 h2 h3 h4 h5 h6;refine⟨some ⟨b,off,none⟩,n,cap,l,hh,m,rfl,hle,hhe,h6,h1,h3,h4,?_⟩;by_cases e:l=hh
   ·subst e;simp only[if_true,xO];exact hz rfl
   ·have e2:¬m=l:=by omega
    simp only[e,e2,if_false,qI,zew];subst h0;rcases hb with hb | ⟨hb,el,mm,hs,hm⟩
    ·exact .slDead _ _ _ _ _ _ _ hb (by omega) h5
    ·refine .slAt _ _ _ _ _ _ _ el mm hb hs (by omega) h5 ?_;have:l*s+(m-l)*s=m*s:=by rw[<-xG];congr 1;omega
     have h7:m*s<=cap*s:=qM _ h4;omega
  have vec0:∀(m:Nat) (c':Option Nat),(∀q,c'=some q->m-l=q)->Rep w (Mu F ρ) ρ (.vec [] 0 c') (.slice (if m=l then some ⟨b,off,none⟩else(some ⟨b,off,none⟩:Option Addr).map (·.add (l*sz))) 0 (m-l)):=by
   intro m c' h5;refine .imm _ _ ?_;split
   ·exact .vec [] 0 c' b off _ (λ_=>undef) (by simp) (by simp) (by simp) (xJ _) h5
   ·simp only[qI,zew];exact .vec [] 0 c' b _ _ (λ_=>undef) (by simp) (by simp) (by simp) (xJ _) h5
  cases mx' with
  |none=>
   simp only at h;obtain⟨⟨h0,h1,h2⟩,hv⟩:=zad h;simp only[qW]at hv;subst hv;refine body cap _ _ (λ_=>?_) h0 h1 h2 (by omega) (qD _) (λq hq=>zow hc hq) (.inl ⟨rfl,rfl⟩);cases c with
   |some q=>rw[zzb];exact vec0 cap _ (λq' hq=>by have:=hc q rfl;simp at hq;omega)
   |none=>
    cases l with
    |succ l=>exact vec0 cap _ (λq hq=>by simp[zdn]at hq)
    |zero=>
     have e1:(if cap=0 then some ⟨b,off,none⟩else(some ⟨b,off,none⟩:Option Addr).map (·.add (0*sz)))=some (⟨b,off,none⟩:Addr):=by
      split
      ·rfl
      ·simp[zew]
     rw[e1]
     show Rep w (Mu F ρ) ρ (.sl id off 0 sz none) _
     subst h0;rcases hb with hb | ⟨hb,el,mm,hs,hm⟩
     ·exact .slDead _ _ _ _ _ _ _ hb (xJ _) (λq hq=>by simp at hq)
     ·exact .slAt _ _ _ _ _ _ _ el mm hb hs (xJ _) (λq hq=>by simp at hq) (by simpa using hm)
  |some y=>
   simp only[qQ]at h;obtain⟨m,hm,h⟩:=h;obtain⟨⟨hs,h0,h1,h2,h3⟩,hv⟩:=zad h;simp only[qW]at hv;subst hv;exact body m (some (m-l)) _ (λ_=>vec0 m _ (λq hq=>by simpa using hq)) h0 h1 (by omega) h2 (by omega) (λq hq=>by simpa using hq) (.inr ⟨y,rfl,hm,hs⟩)
theorem qik(ho:HOK Γ w F ρ H)(he:∀t,Rep w (Mu F ρ) ρ (E t) (a.tmps.getD t undef)){t el:TypeId}{sz:Nat}{x:Operand}{x':Opd}{lo hi mx:Option Operand}{lo' hi' mx':Option Opd}
  (ht:P.underlying t=some (.slice el)) (hz:szT P el=some sz) (hx:cOpd Γ x=some x') (hlo:cOpt Γ lo=some lo') (hhi:cOpt Γ hi=some hi') (hmx:cOpt Γ mx=some mx')
  (hop:o.op= .slice t x lo hi mx) (hv:zej (val E) sz (val E x') lo' hi' mx'=some v):Snd P Γ o a w F ρ n0 v H []:=by
 obtain⟨ad,n,cap,l,h,m,e1,h1,h2,h3,h4,h5,h6,h7⟩:=zwt hv (zas ho he hx);refine zbb ho ?_ h7;have hb:=zsa (P:=P) (isS:=true) ho he hlo hhi hmx h1 h2 h3 h4 h5 h6;simp only[execOp,hop,e1,Instr.sliceAt,Instr.slice,Sem.run_bind,zaz ht,Result.andThen_ok,hb,zdh hz,Sem.run_pure]
theorem zwu(ho:HOK Γ w F ρ H)(he:∀t,Rep w (Mu F ρ) ρ (E t) (a.tmps.getD t undef)){t el:TypeId}{n sz:Nat}{x:Operand}{lo hi mx:Option Operand}{lo' hi' mx':Option Opd}{y:AV}{b p:Nat}
  (ht:P.underlying t=some (.array n el)) (hz:szT P el=some sz) (hlo:cOpt Γ lo=some lo') (hhi:cOpt Γ hi=some hi') (hmx:cOpt Γ mx=some mx')
  (hop:o.op= .slice t x lo hi mx) (hx:a.eval x= .pointer (some ⟨b,p,none⟩)) (hy:Rep w (Mu F ρ) ρ y (.slice (some ⟨b,p,none⟩) n n))
  (hv:zej (val E) sz y lo' hi' mx'=some v):Snd P Γ o a w F ρ n0 v H []:=by
 obtain⟨ad,n',cap,l,h,m,e1,h1,h2,h3,h4,h5,h6,h7⟩:=zwt hv hy;simp at e1;obtain⟨rfl,rfl,rfl⟩:=e1;refine zbb ho (v':= .slice (some (if m=l then⟨b,p,none⟩else(⟨b,p,none⟩:Addr).add (l*sz))) (h-l) (m-l)) ?_ ?_
 ·have hb:=zsa (P:=P) (isS:=false) ho he hlo hhi hmx h1 h2 h3 h4 h5 h6;simp only[execOp,hop,hx,Instr.sliceAt,Sem.run_bind,zaz ht,Result.andThen_ok,Instr.sureAddr,hb,zdh hz,Sem.run_pure]
 ·by_cases e:m=l
  ·simpa[e]using h7
  ·simpa[e]using h7
end
section
variable{P:Program}{Γ:Glob}{E:Env}{a:Act}{w:World}{F:Nat->Prop}{ρ:Nat->RS}{H:Heap}{n0 fresh:Nat}{o:Oper}{v:AV}{e:Eff}{rd:List Nat}
theorem zsb{sz n b off len cap:Nat}{vs:Nat->Value}(h:∀j,j<n*sz->w.cell? ⟨b,off+j,none⟩=some (vs j))(w':World)(hw:w'.heap=w.heap):
  (Builtin.firstCells sz n (.slice (some ⟨b,off,none⟩) len cap)).run P w'= .ok ((List.range (n*sz)).map vs).toArray w':=by
 unfold Builtin.firstCells;exact zlj (λj hj=>by have:=h j hj;simpa[World.cell?,hw]using this)
theorem zgb(ho:HOK Γ w F ρ H){sz n:Nat}{x:AV}{x':Value}{cs:List AV}{rd:List Nat}(h:zea H sz n x=some (cs,rd))(hr:Rep w (Mu F ρ) ρ x x'):
  ∃us:List Value,(∀w':World,w'.heap=w.heap->(Builtin.firstCells sz n x').run P w'= .ok us.toArray w')/\us.length=n*sz/\zbr w (Mu F ρ) ρ cs us:=by
 cases x<;>simp only[zea]at h<;>try (simp at h;done)
 case vec cs' m c=>
  obtain⟨⟨h1,h2⟩,h3⟩:=zad h;simp at h3;obtain⟨rfl,rfl⟩:=h3;rcases zga hr with⟨p,rfl,rfl,rfl,_⟩ | ⟨b,off,cap,vs,rfl,_,hcell,hrep,_⟩
  ·have e0:n=0:=by omega
   subst e0;exact⟨[],λw' _=>by cases p<;>simp[Builtin.firstCells,loadCells,loadCellsFrom]<;>rfl,by simp,by simp,λj a v ha=>by simp at ha⟩
  ·refine⟨(List.range (n*sz)).map vs,λw' hw=>zsb (λj hj=>hcell j (by omega)) w' hw,by simp,by simp;omega,λj a v ha hv=>?_⟩;rw[qE]at ha;split at ha
   ·rename_i hlt;simp[hlt]at hv;subst hv;exact .imm _ _ (hrep j a ha)
   ·simp at ha
 case sl id off m s c=>
  split at h
  ·rename_i cs' hg;obtain⟨⟨rfl,h1,h2⟩,h3⟩:=zad h;simp at h3;obtain⟨rfl,rfl⟩:=h3;obtain⟨b,el,mm,hb,hs,hlen,hf,hc⟩:=ho.at hg (qfg hr);obtain⟨b',cap,rfl,_,_,hb'⟩:=zfo hr
   have hbb:b'=b:=by
    rcases hb' with hb' | ⟨hb',_⟩
    ·rw[hb]at hb';simp at hb'
    ·rw[hb]at hb';simp at hb';exact hb'.symm
   subst hbb;obtain⟨vs,hvs,hr'⟩:=zir h2 hc;refine⟨(List.range (n*s)).map vs,λw' hw=>zsb hvs w' hw,by simp,by simp;omega,λj a v ha hv=>?_⟩;rw[qE]at ha;split at ha
   ·rename_i hlt;rw[qS]at ha;simp[hlt]at hv;subst hv;exact hr' j a hlt ha
   ·simp at ha
  ·simp at h
theorem zwv{sz n:Nat}{x:AV}{cs:List AV}{rd:List Nat}(h:zea H sz n x=some (cs,rd)):cs.length=n*sz:=by
 cases x<;>simp only[zea]at h<;>try (simp at h;done)
 case vec cs' m c=>
  obtain⟨⟨h1,h2⟩,h3⟩:=zad h;simp at h3;obtain⟨rfl,rfl⟩:=h3;simp;omega
 case sl id off m s c=>
  split at h
  ·obtain⟨⟨rfl,h1,h2⟩,h3⟩:=zad h;simp at h3;obtain⟨rfl,rfl⟩:=h3;simp;omega
  ·simp at h
theorem ztw{x:AV}{x':Value}{m:Nat}(h:lenA x=some m)(hr:Rep w (Mu F ρ) ρ x x')(hs:∀s,x≠ .str s):∃ad cap,x'= .slice ad m cap/\m<=cap:=by
 cases x<;>simp[lenA]at h
 case vec cs n c=>
  subst h;rcases zga hr with⟨p,rfl,_,rfl,_⟩ | ⟨b,off,cap,vs,rfl,_,_,_,hn,_⟩
  ·exact⟨p,0,rfl,qD _⟩
  ·exact⟨_,cap,rfl,hn⟩
 case sl id off n sz c=>
  subst h;obtain⟨b,cap,rfl,hn,_⟩:=zfo hr;exact⟨_,cap,rfl,hn⟩
 case str s=>exact absurd rfl (hs s)
theorem zkv{sz n:Nat}{x:AV}{r:List AV×List Nat}(h:zea H sz n x=some r):∀s,x≠ .str s:=by
 intro s e;subst e;simp[zea]at h
theorem ztx(ho:HOK Γ w F ρ H)(he:∀t,Rep w (Mu F ρ) ρ (E t) (a.tmps.getD t undef)){ty ty' el:TypeId}{x:Operand}{x':Opd}
  (hty:P.underlying ty=some (.slice el)) (hx:cOpd Γ x=some x') (hop:o.op= .binOp .eql ty x (.const (.slice none 0 0)) ty')
  (hv:(∃cs n c,val E x'= .vec cs n c/\v=if n=0 then .anyb else .bool false)\/(∃id off n sz c,val E x'= .sl id off n sz c/\v= .bool false)):Snd P Γ o a w F ρ n0 v H []:=by
 have h1:=zas ho he hx
 have hsome:∀ad n c,a.eval x= .slice (some ad) n c->(execOp a.eval o).run P w= .ok (.value (.bool false)) w:=by
  intro ad n c h
  have key:∀d,(Op.equalIn (d+1) ty (.slice (some ad) n c) (.slice none 0 0)).run P w= .ok false w:=by
   intro d;simp only[Op.equalIn,Sem.run_bind,zaz hty,Result.andThen_ok];rfl
  have key':(Op.equal ty (.slice (some ad) n c) (.slice none 0 0)).run P w= .ok false w:=key 9999;have hk:a.eval (.const (.slice none 0 0))= .slice none 0 0:=rfl;simp[execOp,hop,h,hk,eqGuard,binOp,key']
 have hnil:a.eval x= .slice none 0 0->(execOp a.eval o).run P w= .ok (.value (.bool true)) w:=by
  intro h
  have key:∀d,(Op.equalIn (d+1) ty (.slice none 0 0) (.slice none 0 0)).run P w= .ok true w:=by
   intro d;simp only[Op.equalIn,Sem.run_bind,zaz hty,Result.andThen_ok];rfl
  have key':(Op.equal ty (.slice none 0 0) (.slice none 0 0)).run P w= .ok true w:=key 9999;have hk:a.eval (.const (.slice none 0 0))= .slice none 0 0:=rfl;simp[execOp,hop,h,hk,eqGuard,binOp,key']
 rcases hv with⟨cs,n,c,hv,rfl⟩ | ⟨id,off,n,sz,c,hv,rfl⟩
 ·rw[hv]at h1;rcases zga h1 with⟨p,e1,_,rfl,_⟩ | ⟨b,off,cap,vs,e1,_⟩
  ·cases p with
   |none=>exact zbb ho (hnil e1) (by simp;exact .imm _ _ (.anyb _))
   |some p=>exact zbb ho (hsome _ _ _ e1) (by simp;exact .imm _ _ (.anyb _))
  ·refine zbb ho (hsome _ _ _ e1) ?_;split
   ·exact .imm _ _ (.anyb _)
   ·exact .imm _ _ (.bool _)
 ·rw[hv]at h1;obtain⟨b,cap,e1,_⟩:=zfo h1;exact zbb ho (hsome _ _ _ e1) (.imm _ _ (.bool _))
theorem qfi:∀(cs:List AV) (us:List Value) (l:List UInt8),zni cs=some l->zbr w (Mu F ρ) ρ cs us->∃ns:List Int,us=ns.map (Value.int .u8)/\l=ns.map λn=>UInt8.ofNat n.toNat:=by
 intro cs
 induction cs with
 |nil=>
  intro us l h hr;simp[zni]at h;subst h;have:us=[]:=List.length_eq_zero_iff.1 hr.1;subst this;exact⟨[],rfl,rfl⟩
 |cons c cs ih=>
  intro us l h hr;cases c<;>try (simp[zni]at h;done)
  rename_i k n;cases k<;>try (simp[zni]at h;done)
  simp only[zni,qQ]at h;obtain⟨l',hl',h⟩:=h;simp at h;subst h;cases us with
  |nil=>have:=hr.1;simp at this
  |cons u us=>
   have hu:=zcd (hr.2 0 _ u rfl rfl);subst hu;obtain⟨ns,rfl,rfl⟩:=ih us l' hl' ⟨by have:=hr.1;simpa using this,λj x y hx hy=>hr.2 (j+1) x y (by simpa using hx) (by simpa using hy)⟩;exact⟨n::ns,rfl,rfl⟩
theorem qyv(ho:HOK Γ w F ρ H)(he:∀t,Rep w (Mu F ρ) ρ (E t) (a.tmps.getD t undef)){src dst el:TypeId}{x:Operand}{x':Opd}{n:Nat}{cs:List AV}{l:List UInt8}
  (hs:P.underlying src=some (.slice el)) (hel:P.underlying el=some (.int .u8)) (hd:P.underlying dst=some .string) (hx:cOpd Γ x=some x') (hop:o.op= .convert src dst x)
  (hn:lenA (val E x')=some n) (hc:zea H 1 n (val E x')=some (cs,rd)) (hb:zni cs=some l):Snd P Γ o a w F ρ n0 (.str ⟨l.toArray⟩) H []:=by
 have h1:=zas ho he hx;obtain⟨ad,cap,e1,_⟩:=ztw hn h1 (zkv hc);obtain⟨us,h2,h3,h4⟩:=zgb (P:=P) ho hc h1;obtain⟨ns,rfl,rfl⟩:=qfi cs us l hb h4
 have hpush:∀(ns:List Int) (s:ByteArray),ns.foldl (λr n=>r.push (UInt8.ofNat n.toNat)) s=⟨s.data++(ns.map λn=>UInt8.ofNat n.toNat).toArray⟩:=by
  intro ns
  induction ns with
  |nil=>intro s;simp
  |cons n ns ih=>
   intro s;rw[xB,ih];simp[ByteArray.push]
 refine zbb ho (v':= .string ⟨(ns.map λn=>UInt8.ofNat n.toNat).toArray⟩) ?_ (.imm _ _ (.str _))
 have hrun:(convert src dst (a.eval x)).run P w= .ok (.string ⟨(ns.map λn=>UInt8.ofNat n.toNat).toArray⟩) w:=by
  rw[e1,run_convert_bytes_string w src dst el ad n cap hs hel hd];cases ad with
  |none=>
   have h5:=h2 w rfl;rw[e1]at h5;simp[Builtin.firstCells]at h5;subst h5;simp[Conv.bytesToString];rfl
  |some ad=>
   have h5:=h2 w rfl;rw[e1]at h5;simp only[Builtin.firstCells,Nat.mul_one]at h5;rw[run_bytesToString w ad n cap ns h5,hpush];simp
 simp[execOp,hop,hrun]
end
theorem qqn:∀(vs cs:List AV) (i:Nat),(setL cs i vs).length=cs.length:=by
 intro vs
 induction vs with
 |nil=>intro cs i;rfl
 |cons v vs ih=>intro cs i;simp[setL,ih]
theorem qcq:∀(vs cs:List AV) (i j:Nat),i+vs.length<=cs.length->(setL cs i vs)[j]?=if i<=j/\j<i+vs.length then vs[j-i]? else cs[j]?:=by
 intro vs
 induction vs with
 |nil=>intro cs i j h;simp[setL];omega
 |cons v vs ih=>
  intro cs i j h;simp only[xX]at h;rw[setL,ih _ _ _ (by simp;omega)];by_cases h1:i+1<=j/\j<i+1+vs.length
  ·rw[if_pos h1,if_pos (by simp;omega)];have:j-i=(j-(i+1))+1:=by omega
   rw[this,List.getElem?_cons_succ]
  ·rw[if_neg h1];by_cases h2:j=i
   ·subst h2;rw[if_pos (by simp),qK (by omega)];simp
   ·rw[if_neg (by simp;omega),qZ (λe=>h2 e.symm)]
section
variable{P:Program}{Γ:Glob}{E:Env}{a:Act}{w:World}{F:Nat->Prop}{ρ:Nat->RS}{H:Heap}{n0 fresh:Nat}{o:Oper}{v:AV}{e:Eff}{rd:List Nat}
theorem qfj{b m:Nat}{el:TypeId}(h:w.shape? b=some (el,m)){j:Nat}(hj:j<m):∃v,w.cell? ⟨b,j,none⟩=some v:=by
 unfold World.shape? at h;unfold World.cell?;split at h
 ·rename_i c el' fr hh;simp at h;simp only[hh];exact⟨c[j]'(by omega),by simp⟩
 ·simp at h
theorem HOK.widen(ho:HOK Γ w F ρ H){id b m:Nat}{el:TypeId}{cs:List AV}(hb:ρ id= .here b)(hH:H[id]?=some (some cs))(hs:w.shape? b=some (el,m)):
  HOK Γ w F ρ (H.set id (some (cs++List.replicate (m-cs.length) .junk))):=by
 have hid:id<H.length:=by
  rcases qJ id H.length with h' | h'
  ·exact h'
  ·rw[qX h']at hH;simp at hH
 refine⟨ho.inj,ho.notF,ho.fLt,λi hi=>ho.unborn i (by simpa using hi),λi cs' hi=>?_,λi b' hi=>?_,ho.glob⟩
 ·by_cases e:i=id
  ·subst e;exact⟨b,hb⟩
  ·rw[qZ (λx=>e x.symm)]at hi;exact ho.alive i cs' hi
 ·obtain⟨cs',h1,h2⟩:=ho.blk i b' hi;by_cases e:i=id
  ·subst e;have:b'=b:=by rw[hb]at hi;simp at hi;exact hi.symm
   subst this;rw[hH]at h1;simp at h1;subst h1;obtain⟨el',m',h2,h3,h4,h5⟩:=h2.cells ⟨_,hs⟩;rw[hs]at h2;simp at h2;obtain⟨rfl,rfl⟩:=h2;refine⟨_,by rw[qK hid],⟨el,m,hs,by simp;omega,h4,λj a hj=>?_⟩⟩;rcases qJ j cs.length with hl | hl
   ·rw[qV hl]at hj;exact h5 j a hj
   ·rw[qY hl,qT]at hj;split at hj
    ·simp at hj;subst hj;obtain⟨v,hv⟩:=qfj hs (j:=j) (by omega);exact⟨v,hv,.imm _ _ (.junk _)⟩
    ·simp at hj
  ·exact⟨cs',by rw[qZ (λx=>e x.symm)];exact h1,h2⟩
theorem HOK.rename(ho:HOK Γ w F ρ H){id b:Nat}{cs cs':List AV}(hn:0<=id)(hb:ρ id= .here b)(hshp:∃x,w.shape? b=some x)(hH:H[id]?=some (some cs))(hu:ρ fresh= .unborn)(hfr:fresh<H.length)
  (hcs:∀(j:Nat) (a:AV),cs'[j]?=some a->cs[j]?=some a) (hl:cs'.length<=cs.length):
  After Γ F n0 ρ w (updR (updR ρ id .dead) fresh (.here b)) w ((H.set id none).set fresh (some cs')) [fresh]:=by
 have hne:fresh≠id:=by intro e;subst e;rw[hb]at hu;simp at hu
 have hold:∀i b',updR (updR ρ id .dead) fresh (.here b) i= .here b'->(i=fresh/\b'=b)\/(i≠fresh/\i≠id/\ρ i= .here b'):=by
  intro i b' hi;unfold updR at hi;split at hi
  ·simp at hi;exact .inl ⟨by assumption,hi.symm⟩
  ·split at hi
   ·simp at hi
   ·exact .inr ⟨by assumption,by assumption,hi⟩
 have hr:∀a v,Rep w (Mu F ρ) ρ a v->Rep w (Mu F (updR (updR ρ id .dead) fresh (.here b))) (updR (updR ρ id .dead) fresh (.here b)) a v:=by
  intro a v hr;refine hr.kept (Kept.refl (λ_=>False) w) (λ_ x=>x.elim) (λb' _ hb'=>?_) ho.lt (λi hi=>?_)
  ·rcases hb' with hb' | ⟨i,hi⟩
   ·exact .inl hb'
   ·rcases hold i b' hi with⟨_,rfl⟩ | ⟨_,_,hi⟩
    ·exact .inr ⟨id,hb⟩
    ·exact .inr ⟨i,hi⟩
  ·unfold updR;by_cases e1:i=fresh
   ·subst e1;exact absurd hu hi
   ·rw[if_neg e1];by_cases e2:i=id
    ·rw[if_pos e2];exact .inr rfl
    ·rw[if_neg e2];exact .inl rfl
 have hidl:id<H.length:=by
  rcases qJ id H.length with h' | h'
  ·exact h'
  ·rw[qX h']at hH;simp at hH
 refine⟨⟨?_,?_,ho.fLt,?_,?_,?_,?_⟩,Kept.refl _ w,?_,?_,?_⟩
 ·intro i j b' hi hj;rcases hold i b' hi with⟨e1,e2⟩ | ⟨e1,e2,hi'⟩<;>rcases hold j b' hj with⟨e3,e4⟩ | ⟨e3,e4,hj'⟩
  ·omega
  ·subst e2;exact absurd (ho.inj j id _ hj' hb) e4
  ·subst e4;exact absurd (ho.inj i id _ hi' hb) e2
  ·exact ho.inj i j b' hi' hj'
 ·intro i b' hi;rcases hold i b' hi with⟨_,rfl⟩ | ⟨_,_,hi'⟩
  ·exact ho.notF id _ hb
  ·exact ho.notF i _ hi'
 ·intro i hi;simp at hi;unfold updR;rw[if_neg (by omega),if_neg (by omega)];exact ho.unborn i hi
 ·intro i cs2 hi;by_cases e1:i=fresh
  ·subst e1;exact⟨b,by simp[updR]⟩
  ·rw[qZ (λx=>e1 x.symm)]at hi;by_cases e2:i=id
   ·subst e2;rw[qK hidl]at hi;simp at hi
   ·rw[qZ (λx=>e2 x.symm)]at hi;obtain⟨b',hb'⟩:=ho.alive i cs2 hi;exact⟨b',by simp[updR,e1,e2,hb']⟩
 ·intro i b' hi;rcases hold i b' hi with⟨rfl,rfl⟩ | ⟨e1,e2,hi'⟩
  ·obtain⟨cs2,h1,h2⟩:=ho.blk id b' hb;rw[hH]at h1;simp at h1;subst h1;obtain⟨el,m,h2,h3,h4,h5⟩:=h2.cells hshp;refine⟨cs',by rw[qK (by simpa using hfr)],⟨el,m,h2,by omega,h4,λj a hj=>?_⟩⟩;obtain⟨v,hv,hv'⟩:=h5 j a (hcs j a hj);exact⟨v,hv,hr _ _ hv'⟩
  ·obtain⟨cs2,h1,h2⟩:=ho.blk i b' hi';exact⟨cs2,by rw[qZ (λx=>e1 x.symm),qZ (λx=>e2 x.symm)];exact h1,h2.mono rfl (λ_ _ _=>hr _ _)⟩
 ·intro g cs2 hg;refine(ho.glob g cs2 hg).weaken (λb' _ hb'=>?_);rcases hb' with hb' | ⟨i,hi⟩
  ·exact .inl hb'
  ·rcases hold i b' hi with⟨_,rfl⟩ | ⟨_,_,hi⟩
   ·exact .inr ⟨id,hb⟩
   ·exact .inr ⟨i,hi⟩
 ·intro i hi;unfold updR;by_cases e1:i=fresh
  ·subst e1;exact absurd hu hi
  ·rw[if_neg e1];by_cases e2:i=id
   ·rw[if_pos e2];exact .inr ⟨by omega,rfl⟩
   ·rw[if_neg e2];exact .inl rfl
 ·intro i b' hi;rcases hold i b' hi with⟨_,rfl⟩ | ⟨_,_,hi⟩
  ·exact .inl ⟨id,hb⟩
  ·exact .inl ⟨i,hi⟩
 ·intro i hi hnot;simp at hnot;unfold updR;rw[if_neg hnot,if_neg]
  ·exact hi
  ·intro e;subst e;rw[hb]at hi;simp at hi
theorem znt{t t2 ty el el2:TypeId}{i:TypeInfo}{z s' x':Value}{tys:Array TypeId}{ad ad2:Option Addr}{n cap m c2:Nat}{olds news:List Value}
  (h0:tys[0]?=some t) (h1:tys[1]?=some t2) (ht:P.underlying t=some (.slice el)) (ht2:P.underlying t2=some (.slice el2)) (hi:P.info? el=some i) (hz:i.zero=some z)
  (es:s'= .slice ad n cap) (ex:x'= .slice ad2 m c2) (ho:∀w':World,w'.heap=w.heap->(Builtin.firstCells i.size n s').run P w'= .ok olds.toArray w')
  (hn:∀w':World,w'.heap=w.heap->(Builtin.firstCells i.size m x').run P w'= .ok news.toArray w') (hg:cap<n+m) (h62:n+m<2^62) (hfit:4*(n+m)*i.bytes<=2^48):
  (Builtin.append_ tys ty #[s',x']).run P w= .ok (.slice (some ⟨w.heap.size,0,none⟩) (n+m) (grownCap w (n+m) cap el))
   (w.drew.alloc (.cells (olds.toArray++news.toArray++Builtin.zeroCells z.cells (grownCap w (n+m) cap el-(n+m))) el)):=by
 subst es ex;have hn1:¬(n+m<=cap):=by omega
 have h63:¬(9223372036854775807<((n:Int)+(m:Int))):=by omega
 have hb:(n+m)*i.bytes<=140737488355328:=by
  have:4*((n+m)*i.bytes)<=2^48:=by rw[<-Nat.mul_assoc];exact hfit
  omega
 have h48:¬(281474976710656<Builtin.nextslicecap (n+m) cap*i.bytes):=by
  have:=growslice_fits hg hb;omega
 have ho':=ho w.drew rfl;have hn':=hn w.drew rfl
 have hask:∀(w:World) (b:Nat),(askRoom b).run P w= .ok () w:=by
  intro w b;unfold askRoom;split<;>simp[mark,Sem.run]
 simp[Builtin.append_,h0,h1,zaz ht,zaz ht2,sizeOf,typeInfo,zeroValue,hi,hz,Builtin.lenOf,hn1,h63,h48,Question.forced,ho',hn',hask,newRow,grownCap];congr 2;apply Array.ext';simp[xP]
theorem zty{t t2 ty el el2:TypeId}{i:TypeInfo}{s' x':Value}{tys:Array TypeId}{ad:Addr}{ad2:Option Addr}{n cap m c2:Nat}{news:List Value}{w':World}
  (h0:tys[0]?=some t) (h1:tys[1]?=some t2) (ht:P.underlying t=some (.slice el)) (ht2:P.underlying t2=some (.slice el2)) (hi:P.info? el=some i)
  (es:s'= .slice (some ad) n cap) (ex:x'= .slice ad2 m c2)
  (hn:(Builtin.firstCells i.size m x').run P w= .ok news.toArray w) (hg:n+m<=cap) (hst:(storeCells (ad.add (n*i.size)) news).run P w= .ok () w'):
  (Builtin.append_ tys ty #[s',x']).run P w= .ok (.slice (some ad) (n+m) cap) w':=by
 subst es ex;simp[Builtin.append_,h0,h1,zaz ht,zaz ht2,sizeOf,typeInfo,hi,Builtin.lenOf,hg,hn,hst]
theorem zox{t t2 ty el el2:TypeId}{i:TypeInfo}{s' x':Value}{tys:Array TypeId}{ad ad2:Option Addr}{n cap c2:Nat}
  (h0:tys[0]?=some t) (h1:tys[1]?=some t2) (ht:P.underlying t=some (.slice el)) (ht2:P.underlying t2=some (.slice el2)) (hi:P.info? el=some i)
  (es:s'= .slice ad n cap) (ex:x'= .slice ad2 0 c2) (hn:(Builtin.firstCells i.size 0 x').run P w= .ok #[] w) (hg:n<=cap):
  (Builtin.append_ tys ty #[s',x']).run P w= .ok s' w:=by
 subst es ex;cases ad<;>simp[Builtin.append_,h0,h1,zaz ht,zaz ht2,sizeOf,typeInfo,hi,Builtin.lenOf,hg,hn,storeCells]
theorem zod{need old:Nat}{el:TypeId}:need<=grownCap w need old el:=by
 unfold grownCap Question.cut;exact Nat.le_add_right _ _
theorem zis{c:Array Value}{el:TypeId}:(w.alloc (.cells c el)).shape? w.heap.size=some (el,c.size):=by
 simp[World.shape?,World.alloc,-World.alloc_eq]
theorem After.more{ρ':Nat->RS}{w':World}{H':Heap}{l l':List Nat}(h:After Γ F n0 ρ w ρ' w' H' l)(hl:∀x,x∈l->x∈l'):After Γ F n0 ρ w ρ' w' H' l':=
 ⟨h.hok,h.kept,h.ext,h.old,λi hi hn=>h.still i hi (λhx=>hn (hl i hx))⟩
theorem zkq(z:Array Value)(n:Nat):(Builtin.zeroCells z n).size=n*z.size:=by simp[Builtin.zeroCells]
theorem qcr{M:Nat->Prop}{cs:List AV}{us:List Value}(h:zbr w M ρ cs us):∀(c:Array Value),(∃rest:Array Value,c=us.toArray++rest)->
  cs.length<=c.size/\∀(j:Nat) (a:AV),cs[j]?=some a->∃v,c[j]?=some v/\Rep w M ρ a v:=by
 rintro c ⟨rest,rfl⟩;refine⟨by simp[h.1],λj x hx=>?_⟩
 have hj:j<us.length:=by
  rw[h.1];rcases qJ j cs.length with h' | h'
  ·exact h'
  ·rw[qX h']at hx;simp at hx
 exact⟨us[j],by simp[Array.getElem?_append,hj],h.2 j x _ hx (by simp[hj])⟩
theorem qfk(ho:HOK Γ w F ρ H)(he:∀t,Rep w (Mu F ρ) ρ (E t) (a.tmps.getD t undef)){cl:Call}{t t2 el el2:TypeId}{i:TypeInfo}{z:List AV}{s x:Operand}{s' x':Opd}
  (hfr:fresh<H.length) (hu:ρ fresh= .unborn) (hop:o.op= .call cl) (hc:cl.callee= .builtin .append) (hargs:cl.args.toList=[s,x])
  (h0:cl.argTypes[0]?=some t) (h1:cl.argTypes[1]?=some t2) (ht:P.underlying t=some (.slice el)) (ht2:P.underlying t2=some (.slice el2)) (hi:P.info? el=some i) (hz:zlf P el=some z) (hzl:z.length=i.size)
  (hs:cOpd Γ s=some s') (hx:cOpd Γ x=some x') (hv:zby n0 fresh H i.size i.bytes (val E s') (val E x')=some (v,e,rd)):Snd P Γ o a w F ρ n0 v (zac e H) [fresh]:=by
 have ha:cl.args= #[s,x]:=by rw[<-Array.toArray_toList (xs:=cl.args),hargs]
 have rs:=zas ho he hs;have rx:=zas ho he hx;obtain⟨zv,i',hi',hiz,hrow⟩:=zjo hz;rw[hi]at hi';simp at hi';subst hi';have hzs:zv.cells.size=i.size:=by have:=(hrow w (Mu F ρ) ρ).1;simp at this;omega
 unfold zby at hv;simp only[qQ]at hv;obtain⟨m,hm,⟨xs,xrd⟩,hxs,hv⟩:=hv;obtain⟨ad2,c2,ex,hmc⟩:=ztw hm rx (zkv hxs);obtain⟨news,hnews,hnl,hnrow⟩:=zgb (P:=P) ho hxs rx
 have exec:∀r w',(Builtin.append_ cl.argTypes o.type #[a.eval s,a.eval x]).run P w= .ok r w'->(execOp a.eval o).run P w= .ok (.value r) w':=by
  intro r w' h;simp[execOp,hop,resolve,hc,ha,invoke,builtin,h]
 by_cases hm0:m=0
 ·subst hm0;simp only[if_true]at hv
  have hn0:(Builtin.firstCells i.size 0 (a.eval x)).run P w= .ok #[] w:=by
   have:=hnews w rfl;simp at hnl;subst hnl;exact this
  have fin:∀ad n cap,a.eval s= .slice ad n cap->n<=cap->Snd P Γ o a w F ρ n0 (val E s') H [fresh]:=by
   intro ad n cap es hn;exact⟨_,_,w,ρ,exec _ _ (zox h0 h1 ht ht2 hi es ex hn0 hn),.inl rfl,(zjn n0 ho).more (by simp),rs⟩
  cases hsv:val E s'<;>rw[hsv]at hv rs fin<;>simp at hv
  case vec cs n c=>
   obtain⟨rfl,rfl,rfl⟩:=hv;rcases zga rs with⟨_,es,_,_,_⟩ | ⟨b,off,cap,vs,es,_,_,_,hn,_⟩
   ·exact fin _ _ _ es (qD _)
   ·exact fin _ _ _ es hn
  case sl id off n sz c=>
   obtain⟨rfl,rfl,rfl⟩:=hv;obtain⟨b,cap,es,hn,_⟩:=zfo rs;exact fin _ _ _ es hn
 ·simp only[if_neg hm0]at hv
  have fin:∀(ad:Option Addr) (n cap:Nat) (cs0:List AV) (olds:List Value),a.eval s= .slice ad n cap->cap<n+m->4*(n+m)*i.bytes<=2^48->n+m<2^62->
    (∀w':World,w'.heap=w.heap->(Builtin.firstCells i.size n (a.eval s)).run P w'= .ok olds.toArray w')->olds.length=n*i.size->zbr w (Mu F ρ) ρ cs0 olds->
    ∃v' w' ρ',(execOp a.eval o).run P w= .ok (.value v') w'/\After Γ F n0 ρ w ρ' w' (H.set fresh (some (cs0++xs))) [fresh]/\Rep w' (Mu F ρ') ρ' (.sl fresh 0 (n+m) i.size none) v':=by
   intro ad n cap cs0 olds es hcap hb h62 hold hol hor;have hrun:=exec _ _ (znt h0 h1 ht ht2 hi hiz es ex hold hnews hcap h62 hb);have hA0:=zjm (w':=w.drew) n0 ho rfl ⟨rfl,rfl⟩;have hrow2:=(hor.append hnrow).mono (λa v hr=>hr.after ho hA0);obtain⟨g1,g2⟩:=qcr hrow2 (olds.toArray++news.toArray++Builtin.zeroCells zv.cells (grownCap w (n+m) cap el-(n+m))) ⟨_,by rw[<-List.append_toArray]⟩;have hA1:=zfz n0 hA0.hok hfr hu (cs0++xs) _ el g1 g2;refine⟨_,_,_,hrun,(hA0.trans hA1).more (by simp),?_⟩;refine .slAt _ _ _ _ _ w.heap.size _ el _ (by simp[updR]) (zis (w:=w.drew)) zod (by simp) ?_;simp only[Array.size_append,List.size_toArray,zkq,hol,hnl,hzs];have:= @zod w (n+m) cap el;rw[xW,<-xG,<-xG];exact qM _ (by omega)
  cases hsv:val E s'<;>rw[hsv]at hv rs<;>try (simp at hv;done)
  case vec cs n c=>
   simp only at hv;obtain⟨⟨hcn,hcl,hb,h62⟩,hv⟩:=zad hv;simp at hv;obtain⟨rfl,rfl,rfl⟩:=hv;have hel:zea H i.size n (.vec cs n c)=some (cs.take (n*i.size),[]):=by simp[zea,need,hcl]
   obtain⟨olds,hold,hol,hor⟩:=zgb (P:=P) ho hel rs
   have:∃ad,a.eval s= .slice ad n n:=by
    rcases zga rs with⟨_,es,_,rfl,_⟩ | ⟨b,off,cap,vs,es,_,_,_,_,hcc⟩
    ·exact⟨_,es⟩
    ·have:=hcc n hcn;subst this;exact⟨_,es⟩
   obtain⟨ad,es⟩:=this;obtain⟨v',w',ρ',h2,h3,h4⟩:=fin ad n n _ olds es (by omega) hb h62 hold hol hor;exact⟨_,v',w',ρ',h2,.inl rfl,h3,h4⟩
  case sl id off n sz c=>
   simp only at hv;split at hv
   ·rename_i cs hg;have hv2:=(zad hv).2;have hcond:=(zad hv).1;clear hv;obtain⟨rfl,rfl,hcl,hb,h62⟩:=hcond;have hel:zea H i.size n (.sl id 0 n i.size c)=some (cs.take (n*i.size),[id]):=by simp[zea,need,hg,hcl]
    obtain⟨olds,hold,hol,hor⟩:=zgb (P:=P) ho hel rs;obtain⟨b,cap,es,hn,hcc,hbb⟩:=zfo rs;by_cases hcn:c=some n
    ·rw[if_pos hcn]at hv2;simp at hv2;obtain⟨rfl,rfl,rfl⟩:=hv2;have:=hcc n hcn;subst this;obtain⟨v',w',ρ',h2,h3,h4⟩:=fin _ cap cap _ olds es (by omega) hb h62 hold hol hor;exact⟨_,v',w',ρ',h2,.inl rfl,h3,h4⟩
    ·rw[if_neg hcn]at hv2;have hv3:=(zad hv2).2;have hcond:=(zad hv2).1;clear hv2;obtain⟨hn0,hne,hscal⟩:=hcond;simp at hv3;obtain⟨rfl,rfl,rfl⟩:=hv3;obtain⟨b2,el2',mm,hb2,hsh,hlen,hfz,hcells⟩:=ho.at hg (qfg rs)
     have hbe:b=b2/\∃el m,w.shape? b=some (el,m)/\0+cap*i.size<=m:=by
      rcases hbb with hd | ⟨hd,hsm⟩
      ·rw[hb2]at hd;simp at hd
      ·rw[hb2]at hd;simp at hd;subst hd;exact⟨rfl,hsm⟩
     obtain⟨rfl,el3,m3,hsh3,hm3⟩:=hbe;rw[hsh]at hsh3;simp at hsh3;obtain⟨rfl,rfl⟩:=hsh3;rcases qJ cap (n+m)with hgrow | hroom
     ·
      obtain⟨v',w',ρ',h2,h3,h4⟩:=fin _ n cap _ olds es hgrow hb h62 hold hol hor
      have hρid:ρ' id= .here b\/(0<=id/\ρ' id= .dead):=by
       rcases h3.ext id (by rw[hb2];simp)with h | h
       ·exact .inl (h.trans hb2)
       ·exact .inr h
      have hkill:After Γ F n0 ρ w (updR ρ' id .dead) w' ((H.set id none).set fresh (some (cs.take (n*i.size)++xs))) [fresh]:=by
       have hmono:∀j b',updR ρ' id .dead j= .here b'->j≠id/\ρ' j= .here b':=by
        intro j b' hj;unfold updR at hj;split at hj
        ·simp at hj
        ·exact⟨by assumption,hj⟩
       have hrr:∀a v,Rep w' (Mu F ρ') ρ' a v->Rep w' (Mu F (updR ρ' id .dead)) (updR ρ' id .dead) a v:=by
        intro a v hr;refine hr.kept (Kept.refl (λ_=>False) w') (λ_ x=>x.elim) (λb' _ hb'=>?_) h3.hok.lt (λj hj=>?_)
        ·rcases hb' with hb' | ⟨j,hj⟩
         ·exact .inl hb'
         ·exact .inr ⟨j,(hmono j b' hj).2⟩
        ·unfold updR;by_cases e2:j=id
         ·rw[if_pos e2];exact .inr rfl
         ·rw[if_neg e2];exact .inl rfl
       have hidl:id<H.length:=by
        have:=zcn hg;rcases qJ id H.length with h' | h'
        ·exact h'
        ·rw[qX h']at this;simp at this
       have hHH:∀j,j≠id->((H.set id none).set fresh (some (cs.take (n*i.size)++xs)))[j]?=(H.set fresh (some (cs.take (n*i.size)++xs)))[j]?:=by
        intro j hj;by_cases e3:j=fresh
        ·subst e3;rw[qK (by simpa using hfr),qK hfr]
        ·rw[qZ (λx=>e3 x.symm),qZ (λx=>hj x.symm),qZ (λx=>e3 x.symm)]
       refine⟨⟨λp q b' hp hq=>h3.hok.inj p q b' (hmono p b' hp).2 (hmono q b' hq).2,λp b' hp=>h3.hok.notF p b' (hmono p b' hp).2,h3.hok.fLt,λp hp=>?_,λp cs2 hp=>?_,λp b' hp=>?_,λg cs2 hg2=>?_⟩,h3.kept,λp hp=>?_,λp b' hp=>h3.old p b' (hmono p b' hp).2,λp hp hnot=>?_⟩
       ·simp at hp;unfold updR;rw[if_neg (by omega)];exact h3.hok.unborn p (by simpa using hp)
       ·by_cases e3:p=id
        ·subst e3;rw[qZ (λx=>hne x.symm),qK hidl]at hp;simp at hp
        ·rw[hHH p e3]at hp;obtain⟨b',hb'⟩:=h3.hok.alive p cs2 hp;exact⟨b',by simp[updR,e3,hb']⟩
       ·obtain⟨e3,hp'⟩:=hmono p b' hp;obtain⟨cs2,g1,g2⟩:=h3.hok.blk p b' hp';exact⟨cs2,by rw[hHH p e3];exact g1,g2.mono rfl (λ_ _ _=>hrr _ _)⟩
       ·exact(h3.hok.glob g cs2 hg2).weaken (λb' _ hb'=>by
         rcases hb' with hb' | ⟨j,hj⟩
         ·exact .inl hb'
         ·exact .inr ⟨j,(hmono j b' hj).2⟩)
       ·unfold updR;by_cases e3:p=id
        ·rw[if_pos e3];exact .inr ⟨by omega,rfl⟩
        ·rw[if_neg e3];exact h3.ext p hp
       ·unfold updR;rw[if_neg]
        ·exact h3.still p hp hnot
        ·intro e3;subst e3;rw[hb2]at hp;simp at hp
      refine⟨_,v',w',updR ρ' id .dead,h2,.inl rfl,hkill,?_⟩;obtain⟨b',cap',ev,hc1,hc2,hc3⟩:=zfo h4;subst ev;rcases hc3 with hc3 | ⟨hc3,el',m',hc4,hc5⟩
      ·exact .slDead _ _ _ _ _ _ _ (by simp[updR,Ne.symm hne,hc3]) hc1 hc2
      ·exact .slAt _ _ _ _ _ _ _ el' m' (by simp[updR,Ne.symm hne,hc3]) hc4 hc1 hc2 hc5
     ·
      have hHid:=zcn hg
      have hidl:id<H.length:=by
       rcases qJ id H.length with h' | h'
       ·exact h'
       ·rw[qX h']at hHid;simp at hHid
      have hwide:=ho.widen hb2 hHid hsh
      have hmlen:n*i.size+m*i.size<=mm:=by
       have h5:(n+m)*i.size<=cap*i.size:=qM _ hroom;rw[xG]at h5;omega
      have hxsl:=zwv hxs
      have hmc:n*i.size+xs.length<=(cs++List.replicate (mm-cs.length) AV.junk).length:=by
       simp;omega
      obtain⟨w',hst,hA⟩:=zff (P:=P) (n0:=n0) (p:=n*i.size) news xs 0 w _ _ hwide hb2 ⟨_,hsh⟩ (qK hidl) (by rw[hnl,<-hxsl];simpa using hmc) (by rw[hxsl,hnl]) hscal
       (λj x y hx hy=>hnrow.2 j x y hx hy)
      rw[xM]at hA;have hrun:=exec _ _ (zty h0 h1 ht ht2 hi es ex (hnews w rfl) hroom (by rw[zew,xW];exact hst))
      have hren:=HOK.rename (n0:=n0) (fresh:=fresh) hA.hok hn0 hb2 ⟨_,(hA.kept.shape _ (ztn hsh)).trans hsh⟩ (qK hidl) (by exact hu) (by simpa using hfr) (cs':=cs.take (n*i.size)++xs)
       (λj x hx=>by
        rw[xN,qcq _ _ _ _ hmc];rcases qJ j (n*i.size)with hl | hl
        ·rw[qV (by simp;omega),qE,if_pos hl]at hx;rw[if_neg (by omega),qV (by omega)];exact hx
        ·rw[qY (by simp;omega)]at hx;have e4:(cs.take (n*i.size)).length=n*i.size:=by simp;omega
         rw[e4]at hx
         have hlt:j-n*i.size<xs.length:=by
          rcases qJ (j-n*i.size) xs.length with h' | h'
          ·exact h'
          ·rw[qX h']at hx;simp at hx
         rw[if_pos (by omega)];exact hx)
       (by rw[qqn];simp;omega)
      rw[xM]at hren;refine⟨_,_,w',_,hrun,.inl rfl,(hA.trans hren).more (by simp),?_⟩;refine .slAt _ _ _ _ _ b cap _ mm (by simp[updR]) (by rw[hA.kept.shape b (ztn hsh)];exact hsh) hroom (by simp) hm3
   ·simp at hv
end
section
variable{P:Program}{Γ:Glob}{E:Env}{a:Act}{w:World}{F:Nat->Prop}{ρ:Nat->RS}{H:Heap}{n0 fresh:Nat}{o:Oper}{v:AV}{e:Eff}{rd:List Nat}
theorem qqo(ho:HOK Γ w F ρ H)(he:∀t,Rep w (Mu F ρ) ρ (E t) (a.tmps.getD t undef)){cl:Call}{t el:TypeId}{sz id off n m:Nat}{c:Option Nat}{d s:Operand}{d' s':Opd}{cs xs:List AV}
  (hop:o.op= .call cl) (hc:cl.callee= .builtin .copy) (hargs:cl.args.toList=[d,s]) (h0:cl.argTypes[0]?=some t) (ht:P.underlying t=some (.slice el)) (hz:szT P el=some sz)
  (hd:cOpd Γ d=some d') (hs:cOpd Γ s=some s') (hv:val E d'= .sl id off n sz c) (hg:getB H id=some cs) (hm:lenA (val E s')=some m) (hxs:zea H sz (min m n) (val E s')=some (xs,rd))
  (hl:off+n*sz<=cs.length) (hsc:AV.scalL xs=true):Snd P Γ o a w F ρ n0 (.int .i64 (min m n:Nat)) (zac [(id,some (setL cs off xs))] H) []:=by
 have ha:cl.args= #[d,s]:=by rw[<-Array.toArray_toList (xs:=cl.args),hargs]
 have rd1:=zas ho he hd;have rs:=zas ho he hs;rw[hv]at rd1;obtain⟨ad2,c2,ex,hmc⟩:=ztw hm rs (zkv hxs);obtain⟨news,hnews,hnl,hnrow⟩:=zgb (P:=P) ho hxs rs;obtain⟨b,cap,es,hn,_,hbb⟩:=zfo rd1;obtain⟨b2,el2,mm,hb2,hsh,hlen,hfz,hcells⟩:=ho.at hg (qfg rd1)
 have hb:b=b2:=by
  rcases hbb with hd | ⟨hd,_⟩
  ·rw[hb2]at hd;simp at hd
  ·rw[hb2]at hd;simp at hd;exact hd.symm
 subst hb;have hxl:=zwv hxs;have hmul:min m n*sz<=n*sz:=qM _ (Nat.min_le_right _ _);obtain⟨w',hst,hA⟩:=zff (P:=P) (n0:=n0) (p:=off) news xs 0 w H cs ho hb2 ⟨_,hsh⟩ (zcn hg) (by omega) (by omega) hsc (λj x y hx hy=>hnrow.2 j x y hx hy);refine⟨_,_,w',ρ,?_,.inl rfl,hA,.imm _ _ (.int _ _)⟩;have hnw:=hnews w rfl;rw[ex]at hnw;have hmin:Nat.min m n=min m n:=rfl;simp[execOp,hop,resolve,hc,ha,invoke,builtin,Builtin.copy_,h0,zaz ht,es,ex,Builtin.lenOf,zdh hz,hmin,hnw,hst,goInt]
theorem zmt{t:TypeId}{z:AV}(h:qhs P t=some z):∃i zv,P.info? t=some i/\i.zero=some zv/\ofV zv=some z:=by
 unfold qhs at h;split at h
 ·rename_i i hi;split at h
  ·rename_i zv hz;exact⟨i,zv,hi,hz,h⟩
  ·simp at h
 ·simp at h
theorem zab{α β:Type}{x:Option α}{f:α->Option β}{b:β}(h:(x >>= f)=some b):∃y,x=some y/\f y=some b:=Option.bind_eq_some_iff.1 h
def cntK:CK->Nat
 |.box _ | .bsl .. | .mksl .. | .append .. => 1
 |_=>0
theorem qiq(ho:HOK Γ w F ρ H)(he:∀t,Rep w (Mu F ρ) ρ (E t) (a.tmps.getD t undef)){k:CK}(hfu:cntK k=1->fresh<H.length/\ρ fresh= .unborn)
  (hk:zfb P Γ o.op=some k) (hev:evK n0 fresh k (val E) H=some (v,e,rd)):Snd P Γ o a w F ρ n0 v (zac e H) (List.range' fresh (cntK k)):=by
 have up:Snd P Γ o a w F ρ n0 v (zac e H) []->Snd P Γ o a w F ρ n0 v (zac e H) (List.range' fresh (cntK k)):=by
  rintro⟨x,v',w',ρ',h1,h2,h3,h4⟩;exact⟨x,v',w',ρ',h1,h2,h3.more (by simp),h4⟩
 cases hop:o.op<;>rw[hop]at hk<;>simp only[zfb]at hk<;>try (simp at hk;done)
 case move x=>
  simp at hk;obtain⟨y,hy,rfl⟩:=hk;simp[evK]at hev;obtain⟨rfl,rfl,rfl⟩:=hev;exact up (qhy ho he hy (.inl hop))
 case assign x=>
  simp at hk;obtain⟨y,hy,rfl⟩:=hk;simp[evK]at hev;obtain⟨rfl,rfl,rfl⟩:=hev;exact up (qhy ho he hy (.inr hop))
 case pick c x y=>
  simp[qQ]at hk;obtain⟨c',hc,x',hx,y',hy,rfl⟩:=hk;simp only[evK]at hev;split at hev
  ·rename_i t ht;simp at hev;obtain⟨rfl,rfl,rfl⟩:=hev;exact up (qqg ho he hc hx hy hop ht)
  ·simp at hev
 case alloc t=>
  simp[qQ]at hk;obtain⟨z,hz,rfl⟩:=hk;obtain⟨i,zv,hi,hiz,hzv⟩:=zmt hz;simp only[evK]at hev;obtain⟨hf,hev⟩:=zad hev;simp at hev;obtain⟨rfl,rfl,rfl⟩:=hev;obtain⟨hfr,hu⟩:=hfu rfl;refine qif (el:=t) ho hfr hu (.imm _ _ (zos w _ hzv)) hf ?_;simp[execOp,hop,Instr.alloc,zgj hi hiz,newVar,zfw]
 case box t x=>
  simp[qQ]at hk;obtain⟨y,hy,rfl⟩:=hk;simp only[evK]at hev;obtain⟨hf,hev⟩:=zad hev;simp at hev;obtain⟨rfl,rfl,rfl⟩:=hev;obtain⟨hfr,hu⟩:=hfu rfl;refine qif (el:=t) ho hfr hu (zas ho he hy) hf ?_;simp[execOp,hop,Instr.box,newVar,zfw]
 case build t ps=>
  simp[qQ]at hk;obtain⟨z,hz,pl,hpl,ps',hps,rfl⟩:=hk;simp only[evK,qQ]at hev;obtain⟨cs,hcs,hev⟩:=hev;simp at hev;obtain⟨rfl,rfl,rfl⟩:=hev;exact up (qii ho he hz hpl hps hop hcs)
 case buildSlice t n ps=>
  obtain⟨d,hd,hk⟩:=zab hk;cases d<;>simp only at hk<;>try (simp at hk;done)
  rename_i el;obtain⟨s,hs,hk⟩:=zab hk;obtain⟨z,hz,hk⟩:=zab hk;obtain⟨ps',hps,hk⟩:=zab hk;split at hk
  ·rename_i hcond;simp at hk;subst hk;simp only[evK,qQ]at hev;obtain⟨cs,hcs,hev⟩:=hev;obtain⟨_,hev⟩:=zad hev;simp at hev;obtain⟨rfl,rfl,rfl⟩:=hev;obtain⟨hfr,hu⟩:=hfu rfl;exact qyt ho he hfr hu hd hs hz hps hcond.1 hcond.2 hop hcs
  ·simp at hk
 case load t x=>
  obtain⟨⟨ag,sz⟩,hs,hk⟩:=zab hk;obtain⟨y,hy,hk⟩:=zab hk;simp only[qW]at hk;subst hk;simp only[evK]at hev;split at hev
  ·rename_i id off hv;split at hev
   ·rename_i cs hg;obtain⟨⟨h1,_⟩,hev⟩:=zad hev;simp at hev;obtain⟨rfl,rfl,rfl⟩:=hev;exact up (qcm ho he hs hy hop (.inl ⟨id,off,cs,hv,hg,h1,rfl⟩))
   ·simp at hev
  ·rename_i cs p hv;obtain⟨⟨h1,_⟩,hev⟩:=zad hev;simp at hev;obtain⟨rfl,rfl,rfl⟩:=hev;exact up (qcm ho he hs hy hop (.inr ⟨cs,p,hv,h1,rfl⟩))
  ·simp at hev
 case store t x y=>
  simp[qQ]at hk;obtain⟨sz,hs,x',hx,y',hy,rfl⟩:=hk;simp only[evK]at hev;split at hev
  ·rename_i id off hv;split at hev
   ·rename_i cs hg;obtain⟨⟨h1,h2,h3,h4⟩,hev⟩:=zad hev;simp at hev;obtain⟨rfl,rfl,rfl⟩:=hev;exact up (qig ho he hs hx hy hop hv hg h1 h2 h3 h4)
   ·simp at hev
  ·simp at hev
 case nilCheck x=>
  simp at hk;obtain⟨y,hy,rfl⟩:=hk;simp only[evK]at hev;split at hev
  ·rename_i id off hv;simp at hev;obtain⟨rfl,rfl,rfl⟩:=hev;have:=zws (P:=P) (n0:=n0) ho he hy hop (.inl ⟨id,off,hv⟩);rw[hv]at this;exact up this
  ·rename_i cs p hv;simp at hev;obtain⟨rfl,rfl,rfl⟩:=hev;have:=zws (P:=P) (n0:=n0) ho he hy hop (.inr ⟨cs,p,hv⟩);rw[hv]at this;exact up this
  ·simp at hev
 case binOp op t x y t'=>
  split at hk
  ·simp[qQ]at hk;obtain⟨x',hx,y',hy,rfl⟩:=hk;simp only[evK,qQ]at hev;obtain⟨r,hr,hev⟩:=hev;simp at hev;obtain⟨rfl,rfl,rfl⟩:=hev;exact up (qhz ho he hx hy hop hr)
  ·simp[qQ]at hk;obtain⟨x',hx,y',hy,rfl⟩:=hk;simp only[evK,qQ]at hev;obtain⟨r,hr,hev⟩:=hev;simp at hev;obtain⟨rfl,rfl,rfl⟩:=hev;exact up (qhz ho he hx hy hop hr)
  ·rename_i hty;simp[qQ]at hk;obtain⟨x',hx,y',hy,rfl⟩:=hk;simp only[evK]at hev;split at hev
   ·rename_i s t h1 h2;simp at hev;obtain⟨rfl,rfl,rfl⟩:=hev;exact up (qia (neg:=false) ho he hty hx hy hop h1 h2)
   ·simp at hev
  ·rename_i hty;simp[qQ]at hk;obtain⟨x',hx,y',hy,rfl⟩:=hk;simp only[evK]at hev;split at hev
   ·rename_i s t h1 h2;simp at hev;obtain⟨rfl,rfl,rfl⟩:=hev;exact up (qia (neg:=true) ho he hty hx hy hop h1 h2)
   ·simp at hev
  ·rename_i el hty;split at hk
   ·simp at hk;obtain⟨x',hx,rfl⟩:=hk;simp only[evK]at hev;split at hev
    ·rename_i cs n c hv;split at hev
     ·rename_i hn0;simp at hev;obtain⟨rfl,rfl,rfl⟩:=hev;exact up (ztx ho he hty hx hop (.inl ⟨cs,n,c,hv,by rw[if_pos hn0]⟩))
     ·rename_i hn0;simp at hev;obtain⟨rfl,rfl,rfl⟩:=hev;exact up (ztx ho he hty hx hop (.inl ⟨cs,n,c,hv,by rw[if_neg hn0]⟩))
    ·rename_i id off n sz c hv;simp at hev;obtain⟨rfl,rfl,rfl⟩:=hev;exact up (ztx ho he hty hx hop (.inr ⟨id,off,n,sz,c,hv,rfl⟩))
    ·simp at hev
   ·simp at hk
  ·simp at hk
 case unOp op t x=>
  simp at hk;obtain⟨y,hy,rfl⟩:=hk;simp only[evK,qQ]at hev;obtain⟨r,hr,hev⟩:=hev;simp at hev;obtain⟨rfl,rfl,rfl⟩:=hev;exact up (jeh ho he hy hop hr)
 case convert src dst x=>
  split at hk
  ·rename_i d kk hs hd;simp at hk;obtain⟨y,hy,rfl⟩:=hk;simp only[evK]at hev;split at hev
   ·rename_i k' n hv;simp at hev;obtain⟨rfl,rfl,rfl⟩:=hev;exact up (qqh ho he hs hd hy hop hv)
   ·simp at hev
  ·rename_i el hs hd;split at hk
   ·rename_i hel;simp at hk;obtain⟨y,hy,rfl⟩:=hk;simp only[evK,qQ]at hev;obtain⟨n,hn,⟨xs,xr⟩,hxs,l,hl,hev⟩:=hev;simp at hev;obtain⟨rfl,rfl,rfl⟩:=hev;exact up (qyv ho he hs hel hd hy hop hn hxs hl)
   ·simp at hk
  ·simp at hk
 case makeFunc fn first caps=>
  cases fn<;>simp only[zfb]at hk<;>try (simp at hk;done)
  rename_i f;split at hk
  ·rename_i hff;split at hk
   ·rename_i hf;simp[qQ]at hk;obtain⟨caps',hc,rfl⟩:=hk;simp[evK]at hev;obtain⟨rfl,rfl,rfl⟩:=hev;exact up (qqi ho he (by simpa using hf) (Nat.lt_trans hff (by decide)) hc hop)
   ·simp at hk
  ·simp at hk
 case makeSlice t x y=>
  obtain⟨d,hd,hk⟩:=zab hk;cases d<;>simp only at hk<;>try (simp at hk;done)
  rename_i el;simp[qQ]at hk;obtain⟨i,hi,z,hz,x',hx,y',hy,rfl⟩:=hk;simp only[evK]at hev;split at hev
  ·rename_i k1 n k2 c h1 h2;obtain⟨⟨g1,g2,g3,g4,g5,g6⟩,hev⟩:=zad hev;simp at hev;obtain⟨rfl,rfl,rfl⟩:=hev;obtain⟨hfr,hu⟩:=hfu rfl;exact qqm ho he hfr hu hd hi hz hx hy hop h1 h2 g1 g2 g3 g4 g5 g6
  ·simp at hev
 case slice t x lo hi mx=>
  simp[qQ]at hk;obtain⟨x',hx,lo',hlo,hi',hhi,mx',hmx,hk⟩:=hk;split at hk
  ·rename_i el hd;obtain⟨sz,hsz,hk⟩:=zab hk;simp only[qW]at hk;subst hk;simp only[evK,qQ]at hev;obtain⟨r,hr,hev⟩:=hev;simp at hev;obtain⟨rfl,rfl,rfl⟩:=hev;exact up (qik ho he hd hsz hx (optM hlo) (optM hhi) (optM hmx) hop hr)
  ·rename_i n el hd;obtain⟨sz,hsz,hk⟩:=zab hk;simp only[qW]at hk;subst hk;have h1:=zas ho he hx;simp only[evK]at hev;split at hev
   ·rename_i id off hv;rw[hv]at h1;split at hev
    ·rename_i cs hg;obtain⟨hl,hev⟩:=zad hev;simp only[qQ]at hev;obtain⟨r,hr,hev⟩:=hev;simp at hev;obtain⟨rfl,rfl,rfl⟩:=hev;obtain⟨b,e1,hb,_,_⟩:=zob ho h1 hg;obtain⟨b2,el2,mm,hb2,hsh,hlen,_,_⟩:=ho.at hg (qhx h1);rw[hb]at hb2;simp at hb2;subst hb2;exact up (zwu ho he hd hsz (optM hlo) (optM hhi) (optM hmx) hop e1 (.slAt _ _ _ _ _ _ _ el2 mm hb hsh (qD _) (by simp) (by omega)) hr)
    ·simp at hev
   ·rename_i cs p hv;rw[hv]at h1;obtain⟨hl,hev⟩:=zad hev;simp only[qQ]at hev;obtain⟨r,hr,hev⟩:=hev;simp at hev;obtain⟨rfl,rfl,rfl⟩:=hev;obtain⟨b,q,vs,e1,hM,hcell,hrep⟩:=zhm h1;exact up (zwu ho he hd hsz (optM hlo) (optM hhi) (optM hmx) hop e1 (.imm _ _ (qij hM hcell hrep (qD _) (by simp))) hr)
   ·simp at hev
  ·simp at hk
 case fieldAddr s x f=>
  split at hk
  ·rename_i fields hd;split at hk
   ·rename_i fd hf;obtain⟨z,hz,hk⟩:=zab hk;split at hk
    ·simp at hk
    ·rename_i hz0;obtain⟨y,hy,hk⟩:=zab hk;simp only[qW]at hk;subst hk;simp only[evK]at hev;split at hev
     ·rename_i id p hv;simp at hev;obtain⟨rfl,rfl,rfl⟩:=hev;exact up (qid ho he hd hf hz hz0 hy hop (by rw[hv];rfl))
     ·rename_i cs p hv;simp at hev;obtain⟨rfl,rfl,rfl⟩:=hev;exact up (qid ho he hd hf hz hz0 hy hop (by rw[hv];rfl))
     ·simp at hev
   ·simp at hk
  ·simp at hk
 case field s x f=>
  split at hk
  ·rename_i fields hd;split at hk
   ·rename_i fd hf;obtain⟨⟨ag,sz⟩,hs,hk⟩:=zab hk;obtain⟨y,hy,hk⟩:=zab hk;simp only[qW]at hk;subst hk;simp only[evK]at hev;split at hev
    ·rename_i cs hv;obtain⟨⟨h1,_⟩,hev⟩:=zad hev;simp at hev;obtain⟨rfl,rfl,rfl⟩:=hev;exact up (qqj ho he hd hf hs hy hop hv h1)
    ·simp at hev
   ·simp at hk
  ·simp at hk
 case indexAddr t x i=>
  split at hk
  ·rename_i el hd;simp[qQ]at hk;obtain⟨sz,hsz,x',hx,i',hi,rfl⟩:=hk;simp only[evK]at hev;split at hev
   ·rename_i id off n s c k j h1 h2;obtain⟨⟨rfl,g1,g2⟩,hev⟩:=zad hev;simp at hev;obtain⟨rfl,rfl,rfl⟩:=hev;exact up (qie ho he hd hsz hx hi hop h2 (.inl ⟨id,off,n,c,h1,g1,g2,rfl⟩))
   ·rename_i cs n c k j h1 h2;obtain⟨⟨g1,g2⟩,hev⟩:=zad hev;simp at hev;obtain⟨rfl,rfl,rfl⟩:=hev;exact up (qie ho he hd hsz hx hi hop h2 (.inr ⟨cs,n,c,h1,g1,g2,rfl⟩))
   ·simp at hev
  ·rename_i n el hd;simp[qQ]at hk;obtain⟨sz,hsz,x',hx,i',hi,rfl⟩:=hk;simp only[evK]at hev;split at hev
   ·rename_i id off k j h1 h2;obtain⟨⟨g1,g2⟩,hev⟩:=zad hev;simp at hev;obtain⟨rfl,rfl,rfl⟩:=hev;exact up (qcl ho he hd hsz hx hi hop h2 g1 g2 (by rw[h1];rfl))
   ·rename_i cs p k j h1 h2;obtain⟨⟨g1,g2⟩,hev⟩:=zad hev;simp at hev;obtain⟨rfl,rfl,rfl⟩:=hev;exact up (qcl ho he hd hsz hx hi hop h2 g1 g2 (by rw[h1];rfl))
   ·simp at hev
  ·simp at hk
 case index t x i=>
  split at hk
  ·rename_i n el hd;obtain⟨⟨ag,sz⟩,hs,hk⟩:=zab hk;obtain⟨z,hz,hk⟩:=zab hk;obtain⟨x',hx,hk⟩:=zab hk;obtain⟨i',hi,hk⟩:=zab hk;split at hk
   ·rename_i hzs;simp only[qW]at hk;subst hk;simp only[evK]at hev;split at hev
    ·rename_i cs k j h1 h2;obtain⟨⟨g1,g2,g3,g4⟩,hev⟩:=zad hev;simp at hev;obtain⟨rfl,rfl,rfl⟩:=hev;exact up (qqk ho he hd hs hz hzs hx hi hop h1 h2 g1 g2 g3)
    ·simp at hev
   ·simp at hk
  ·rename_i hd;simp[qQ]at hk;obtain⟨x',hx,i',hi,rfl⟩:=hk;simp only[evK]at hev;split at hev
   ·rename_i s k j h1 h2;obtain⟨⟨g1,g2⟩,hev⟩:=zad hev;simp only[qW,Prod.mk.injEq]at hev;obtain⟨rfl,rfl,rfl⟩:=hev;exact up (qql ho he hd hx hi hop h1 h2 g1 g2)
   ·simp at hev
  ·simp at hk
 case extract x i=>
  obtain⟨y,hy,hk⟩:=zab hk;simp only[qW]at hk;subst hk;simp only[evK]at hev;split at hev
  ·rename_i vs hv;split at hev
   ·rename_i u hu';simp at hev;obtain⟨rfl,rfl,rfl⟩:=hev;exact up (qyr ho he hy hop hv hu')
   ·simp at hev
  ·simp at hev
 case call cl=>
  cases hcl:cl.callee with
  |invoke r m=>rw[hcl]at hk;simp at hk
  |value f=>
   rw[hcl]at hk;cases f<;>simp only at hk<;>try (simp at hk;done)
   ·obtain⟨l,hl,hk⟩:=zab hk;simp only[qW]at hk;subst hk;simp[evK]at hev
   ·split at hk
    ·obtain⟨l,hl,hk⟩:=zab hk;simp only[qW]at hk;subst hk;simp[evK]at hev
    ·simp at hk
  |builtin b=>
   rw[hcl]at hk;cases b<;>simp only at hk<;>try (simp at hk;done)
   case append=>
    split at hk
    ·rename_i el el2 s x h1 h2 hargs;obtain⟨i,hi,hk⟩:=zab hk;obtain⟨z,hz,hk⟩:=zab hk;split at hk
     ·rename_i hzl;obtain⟨s',hs,hk⟩:=zab hk;obtain⟨x',hx,hk⟩:=zab hk;simp only[qW]at hk;subst hk;simp only[evK]at hev;obtain⟨t,ht0,ht⟩:=Option.bind_eq_some_iff.1 h1;obtain⟨t2,ht20,ht2⟩:=Option.bind_eq_some_iff.1 h2;obtain⟨hfr,hu⟩:=hfu rfl;exact qfk ho he hfr hu hop hcl hargs ht0 ht20 ht ht2 hi hz hzl hs hx hev
     ·simp at hk
    ·simp at hk
   case copy=>
    split at hk
    ·rename_i el d s h1 hargs;obtain⟨sz,hsz,hk⟩:=zab hk;obtain⟨d',hd,hk⟩:=zab hk;obtain⟨s',hs,hk⟩:=zab hk;simp only[qW]at hk;subst hk;obtain⟨t,ht0,ht⟩:=Option.bind_eq_some_iff.1 h1;simp only[evK]at hev;split at hev
     ·rename_i id off n s2 c hv;split at hev
      ·rename_i cs hg;simp only[qQ]at hev;obtain⟨m,hm,⟨xs,xr⟩,hxs,hev⟩:=hev;have hev2:=(zad hev).2;have hcond:=(zad hev).1;clear hev;obtain⟨rfl,g1,g2⟩:=hcond;simp only[qW,Prod.mk.injEq]at hev2;obtain⟨rfl,rfl,rfl⟩:=hev2;exact up (qqo ho he hop hcl hargs ht0 ht hsz hd hs hv hg hm hxs g1 g2)
      ·simp at hev
     ·simp at hev
    ·simp at hk
   case len=>
    split at hk
    ·rename_i el x h1 hargs;simp at hk;obtain⟨x',hx,rfl⟩:=hk;obtain⟨t,ht0,ht⟩:=Option.bind_eq_some_iff.1 h1;simp only[evK]at hev;split at hev
     ·simp_all
     ·rename_i cs n c _ hv;simp only[qW,Prod.mk.injEq]at hev;obtain⟨rfl,rfl,rfl⟩:=hev;exact up (zze ho he hx hop hcl hargs ht0 (by rw[hv];rfl) (.inl ⟨el,ht,λs hs=>by rw[hv]at hs;simp at hs⟩))
     ·rename_i id off n sz c _ hv;simp only[qW,Prod.mk.injEq]at hev;obtain⟨rfl,rfl,rfl⟩:=hev;exact up (zze ho he hx hop hcl hargs ht0 (by rw[hv];rfl) (.inl ⟨el,ht,λs hs=>by rw[hv]at hs;simp at hs⟩))
     ·simp at hev
    ·rename_i x h1 hargs;simp at hk;obtain⟨x',hx,rfl⟩:=hk;obtain⟨t,ht0,ht⟩:=Option.bind_eq_some_iff.1 h1;simp only[evK]at hev;split at hev
     ·rename_i s _ hv;simp only[qW,Prod.mk.injEq]at hev;obtain⟨rfl,rfl,rfl⟩:=hev;exact up (zze ho he hx hop hcl hargs ht0 (by rw[hv];rfl) (.inr ⟨ht,s,hv⟩))
     ·simp_all
     ·simp_all
     ·simp at hev
    ·simp at hk
   case max=>
    split at hk
    ·rename_i x y hargs;obtain⟨x',hx,hk⟩:=zab hk;obtain⟨y',hy,hk⟩:=zab hk;simp only[qW]at hk;subst hk;simp only[evK]at hev;split at hev
     ·rename_i k1 m k2 n h1 h2;simp only[qW,Prod.mk.injEq]at hev;obtain⟨rfl,rfl,rfl⟩:=hev;exact up (qys ho he hx hy hop hcl hargs h1 h2)
     ·simp at hev
    ·simp at hk
end
def zgz(n c:Nat):List Nat:=List.range' n c
def zpc(P:Program)(f:FuncId)(vs:Array Value)(w:World)(R:Ending->World->Prop):Prop:=f≠4095/\Calls P f vs w R
theorem zpc.mono{P:Program}{f:FuncId}{vs:Array Value}{w:World}{R R':Ending->World->Prop}(h:zpc P f vs w R)(hr:∀e w',R e w'->R' e w'):zpc P f vs w R':=⟨h.1,h.2.mono hr⟩
def Ret(P:Program)(Γ:Glob)(f:FuncId)(args:List AV)(H:Heap)(v:AV)(H':Heap):Prop:=
 H.length<=H'.length/\
 ∀(w:World) (F:Nat->Prop) (ρ:Nat->RS) (vs:Array Value),HOK Γ w F ρ H->vs.size=args.length->
  (∀(j:Nat) (a:AV) (u:Value),args[j]?=some a->vs[j]?=some u->Rep w (Mu F ρ) ρ a u)->
  zpc P f vs w λe w'=>∃u ρ',e= .returned u/\After Γ F H.length ρ w ρ' w' H' (zgz H.length (H'.length-H.length))/\Rep w' (Mu F ρ') ρ' v u
def AV.ren(σ:Nat->Nat):AV->AV
 |.sl id off n sz c=> .sl (σ id) off n sz c
 |.ptr id off=> .ptr (σ id) off
 |.agg cs=> .agg (renL σ cs)
 |.tup cs=> .tup (renL σ cs)
 |.clo f cs=> .clo f (renL σ cs)
 |a=>a
 where renL (σ:Nat->Nat):List AV->List AV
 | []=>[]
 |a::r=>a.ren σ::renL σ r
theorem zbs(σ:Nat->Nat)(l:List AV):AV.ren.renL σ l=l.map (AV.ren σ):=by
 induction l with
 |nil=>rfl
 |cons a r ih=>simp[AV.ren.renL,ih]
def AV.under(n:Nat):AV->Bool
 |.sl id _ _ _ _=>decide (id<n)
 |.ptr id _=>decide (id<n)
 |.agg cs=>underL n cs
 |.tup cs=>underL n cs
 |.clo _ cs=>underL n cs
 |_=>true
 where underL (n:Nat):List AV->Bool
 | []=>true
 |a::r=>a.under n && underL n r
theorem zcr{n:Nat}{cs:List AV}(h:AV.under.underL n cs=true):∀(j:Nat) (a:AV),cs[j]?=some a->a.under n=true:=by
 induction cs with
 |nil=>intro j a hj;simp at hj
 |cons x r ih=>
  simp only[AV.under.underL,qU]at h;intro j a hj;cases j with
  |zero=>simp at hj;subst hj;exact h.1
  |succ j=>exact ih h.2 j a (by simpa using hj)
theorem IRep.unren{w:World}{M:Nat->Prop}{σ:Nat->Nat}{x:AV}{v:Value}(h:IRep w M x v):∀a,a.ren σ=x->IRep w M a v:=by
 induction h with
 |bool b=>intro a e;cases a<;>simp[AV.ren]at e;subst e;exact .bool _
 |int k n=>intro a e;cases a<;>simp[AV.ren]at e;obtain⟨rfl,rfl⟩:=e;exact .int _ _
 |str s=>intro a e;cases a<;>simp[AV.ren]at e;subst e;exact .str _
 |anyb b=>intro a e;cases a<;>simp[AV.ren]at e;exact .anyb _
 |junk v=>intro a e;cases a<;>simp[AV.ren]at e;exact .junk _
 |nil p c hc=>intro a e;cases a<;>simp[AV.ren]at e;obtain⟨rfl,rfl,rfl⟩:=e;exact .nil _ _ hc
 |vec cs n c b off cap vs hM hcell hrep hn hc ih=>
  intro a e;cases a<;>simp[AV.ren]at e;obtain⟨rfl,rfl,rfl⟩:=e;exact .vec _ _ _ b off cap vs hM hcell hrep hn hc
 |iptr cs p b off vs hM hcell hrep ih=>
  intro a e;cases a<;>simp[AV.ren]at e;obtain⟨rfl,rfl⟩:=e;exact .iptr _ _ b off vs hM hcell hrep
 |agg cs vs hl hrep ih=>
  intro a e;cases a<;>simp[AV.ren]at e;rename_i l;rw[zbs]at e;subst e;exact .agg l vs (by simpa using hl) (λj a v ha hv=>ih j (a.ren σ) v (by simp[ha]) hv a rfl)
 |tup cs vs hl hrep ih=>
  intro a e;cases a<;>simp[AV.ren]at e;rename_i l;rw[zbs]at e;subst e;exact .tup l vs (by simpa using hl) (λj a v ha hv=>ih j (a.ren σ) v (by simp[ha]) hv a rfl)
 |clo f cs vs hf hl hrep ih=>
  intro a e;cases a<;>simp[AV.ren]at e;rename_i f' l;obtain⟨rfl,e⟩:=e;rw[zbs]at e;subst e;exact .clo _ l vs hf (by simpa using hl) (λj a v ha hv=>ih j (a.ren σ) v (by simp[ha]) hv a rfl)
theorem Rep.unren{w:World}{M:Nat->Prop}{ρ ρ0:Nat->RS}{σ:Nat->Nat}{n:Nat}(hσ:∀i,i<n->ρ0 i=ρ (σ i)){x:AV}{v:Value}(h:Rep w M ρ x v):
  ∀a,a.ren σ=x->a.under n=true->Rep w M ρ0 a v:=by
 induction h with
 |imm x v h=>intro a e _;exact .imm _ _ (h.unren a e)
 |slDead id off m sz c b cap h hn hc=>
  intro a e hb;cases a<;>simp[AV.ren]at e;obtain⟨rfl,rfl,rfl,rfl,rfl⟩:=e;simp[AV.under]at hb;exact .slDead _ _ _ _ _ b cap ((hσ _ hb).trans h) hn hc
 |slAt id off m sz c b cap el mm h hs hn hc hm=>
  intro a e hb;cases a<;>simp[AV.ren]at e;obtain⟨rfl,rfl,rfl,rfl,rfl⟩:=e;simp[AV.under]at hb;exact .slAt _ _ _ _ _ b cap el mm ((hσ _ hb).trans h) hs hn hc hm
 |ptrDead id off b h=>
  intro a e hb;cases a<;>simp[AV.ren]at e;obtain⟨rfl,rfl⟩:=e;simp[AV.under]at hb;exact .ptrDead _ _ b ((hσ _ hb).trans h)
 |ptrAt id off b h hs=>
  intro a e hb;cases a<;>simp[AV.ren]at e;obtain⟨rfl,rfl⟩:=e;simp[AV.under]at hb;exact .ptrAt _ _ b ((hσ _ hb).trans h) hs
 |agg cs vs hl hrep ih=>
  intro a e hb;cases a<;>simp[AV.ren]at e;rename_i l;rw[zbs]at e;subst e;exact .agg l vs (by simpa using hl) (λj a v ha hv=>ih j (a.ren σ) v (by simp[ha]) hv a rfl (zcr (by simpa[AV.under]using hb) j a ha))
 |tup cs vs hl hrep ih=>
  intro a e hb;cases a<;>simp[AV.ren]at e;rename_i l;rw[zbs]at e;subst e;exact .tup l vs (by simpa using hl) (λj a v ha hv=>ih j (a.ren σ) v (by simp[ha]) hv a rfl (zcr (by simpa[AV.under]using hb) j a ha))
 |clo f cs vs hf hl hrep ih=>
  intro a e hb;cases a<;>simp[AV.ren]at e;rename_i f' l;obtain⟨rfl,e⟩:=e;rw[zbs]at e;subst e;exact .clo _ l vs hf (by simpa using hl) (λj a v ha hv=>ih j (a.ren σ) v (by simp[ha]) hv a rfl (zcr (by simpa[AV.under]using hb) j a ha))
theorem IRep.ren{w:World}{M:Nat->Prop}(σ:Nat->Nat){a:AV}{v:Value}(h:IRep w M a v):IRep w M (a.ren σ) v:=by
 induction h with
 |bool b=>exact .bool _
 |int k n=>exact .int _ _
 |str s=>exact .str _
 |anyb b=>exact .anyb _
 |junk v=>exact .junk _
 |nil p c hc=>exact .nil _ _ hc
 |vec cs n c b off cap vs hM hcell hrep hn hc ih=>exact .vec _ _ _ b off cap vs hM hcell hrep hn hc
 |iptr cs p b off vs hM hcell hrep ih=>exact .iptr _ _ b off vs hM hcell hrep
 |agg cs vs hl hrep ih=>
  simp only[AV.ren,zbs]
  exact .agg _ vs (by simpa using hl) (λj a v ha hv=>by
   simp only[qC,qA]at ha;obtain⟨x,hx,rfl⟩:=ha;exact ih j x v hx hv)
 |tup cs vs hl hrep ih=>
  simp only[AV.ren,zbs]
  exact .tup _ vs (by simpa using hl) (λj a v ha hv=>by
   simp only[qC,qA]at ha;obtain⟨x,hx,rfl⟩:=ha;exact ih j x v hx hv)
 |clo f cs vs hf hl hrep ih=>
  simp only[AV.ren,zbs]
  exact .clo _ _ vs hf (by simpa using hl) (λj a v ha hv=>by
   simp only[qC,qA]at ha;obtain⟨x,hx,rfl⟩:=ha;exact ih j x v hx hv)
theorem Rep.ren{w:World}{M:Nat->Prop}{ρ ρ0:Nat->RS}{σ:Nat->Nat}(hσ:∀i,ρ0 i≠ .unborn->ρ (σ i)=ρ0 i){a:AV}{v:Value}(h:Rep w M ρ0 a v):Rep w M ρ (a.ren σ) v:=by
 induction h with
 |imm x v h=>exact .imm _ _ (h.ren σ)
 |slDead id off m sz c b cap h hn hc=>exact .slDead _ _ _ _ _ b cap ((hσ id (by rw[h];simp)).trans h) hn hc
 |slAt id off m sz c b cap el mm h hs hn hc hm=>exact .slAt _ _ _ _ _ b cap el mm ((hσ id (by rw[h];simp)).trans h) hs hn hc hm
 |ptrDead id off b h=>exact .ptrDead _ _ b ((hσ id (by rw[h];simp)).trans h)
 |ptrAt id off b h hs=>exact .ptrAt _ _ b ((hσ id (by rw[h];simp)).trans h) hs
 |agg cs vs hl hrep ih=>
  simp only[AV.ren,zbs]
  exact .agg _ vs (by simpa using hl) (λj a v ha hv=>by
   simp only[qC,qA]at ha;obtain⟨x,hx,rfl⟩:=ha;exact ih j x v hx hv)
 |tup cs vs hl hrep ih=>
  simp only[AV.ren,zbs]
  exact .tup _ vs (by simpa using hl) (λj a v ha hv=>by
   simp only[qC,qA]at ha;obtain⟨x,hx,rfl⟩:=ha;exact ih j x v hx hv)
 |clo f cs vs hf hl hrep ih=>
  simp only[AV.ren,zbs]
  exact .clo _ _ vs hf (by simpa using hl) (λj a v ha hv=>by
   simp only[qC,qA]at ha;obtain⟨x,hx,rfl⟩:=ha;exact ih j x v hx hv)
def zan(ids:List Nat)(k:Nat)(i:Nat):Nat:=if h:i<ids.length then ids[i]else k+(i-ids.length)
def renB(σ:Nat->Nat):Option (List AV)->Option (List AV)
 |none=>none
 |some cs=>some (cs.map (AV.ren σ))
def effs(σ:Nat->Nat):Nat->Heap->Eff
 |_,[]=>[]
 |i,c::r=>(σ i,renB σ c)::effs σ (i+1) r
inductive CallR0(P:Program)(Γ:Glob)(f:FuncId)(args:List AV)(k:Nat)(H:Heap):AV->Eff->List Nat->Nat->Prop
 |mk (ids:List Nat) (args0:List AV) (H0:Heap) (v0:AV) (H0':Heap) (hret:Ret P Γ f args0 H0 v0 H0')
   (hids:ids.length=H0.length) (hnd:ids.Nodup) (hlt:∀i∈ids,i<k) (hargs:args=args0.map (AV.ren (zan ids k)))
   (hbel:AV.under.underL ids.length args0=true)
   (hH:∀(i:Nat) (c:Option (List AV)),H0[i]?=some c->∃cs,c=some cs/\AV.under.underL ids.length cs=true/\H[zan ids k i]?=some (renB (zan ids k) c)):
   CallR0 P Γ f args k H (v0.ren (zan ids k)) (effs (zan ids k) 0 H0') ids (H0'.length-H0.length)
theorem zwz{ids:List Nat}{k:Nat}(hnd:ids.Nodup)(hlt:∀i∈ids,i<k){i j:Nat}(h:zan ids k i=zan ids k j):i=j:=by
 unfold zan at h;split at h<;>split at h
 ·rename_i h1 h2;have hp:=List.pairwise_iff_getElem.1 hnd;rcases Nat.lt_trichotomy i j with h3 | h3 | h3
  ·exact absurd h (hp i j h1 h2 h3)
  ·exact h3
  ·exact absurd h.symm (hp j i h2 h1 h3)
 ·rename_i h1 h2;have:=hlt _ (qG h1);omega
 ·rename_i h1 h2;have:=hlt _ (qG h2);omega
 ·omega
theorem zjr:∀(e:Eff) (H:Heap),(zac e H).length=H.length:=by
 intro e
 induction e with
 |nil=>intro H;rfl
 |cons p e ih=>intro H;obtain⟨i,c⟩:=p;simp[zac,ih]
theorem zpd(σ:Nat->Nat):∀(L:Heap) (i0:Nat) (H:Heap) (j:Nat),(∀i,i<L.length->σ (i0+i)≠j)->(zac (effs σ i0 L) H)[j]?=H[j]?:=by
 intro L
 induction L with
 |nil=>intro i0 H j _;rfl
 |cons c L ih=>
  intro i0 H j h;simp only[effs,zac];rw[ih (i0+1) _ j (λi hi=>by have:=h (i+1) (by simp;omega);rwa[show i0+(i+1)=i0+1+i from by omega]at this)];rw[qZ];exact h 0 (by simp)
theorem qct(σ:Nat->Nat)(hinj:∀i j,σ i=σ j->i=j):∀(L:Heap) (i0:Nat) (H:Heap) (i:Nat),(hi:i<L.length)->σ (i0+i)<H.length->
  (zac (effs σ i0 L) H)[σ (i0+i)]?=some (renB σ L[i]):=by
 intro L
 induction L with
 |nil=>intro i0 H i hi;simp at hi
 |cons c L ih=>
  intro i0 H i hi hlt;simp only[effs,zac];cases i with
  |zero=>
   rw[zpd σ L (i0+1) _ _ (λi _ h=>by have:=hinj _ _ h;omega)];simp only[xN]at hlt ⊢;rw[qK hlt];rfl
  |succ i=>
   have e1:i0+(i+1)=i0+1+i:=by omega
   rw[e1]at hlt ⊢;rw[ih (i0+1) _ i (by simpa using hi) (by simpa using hlt)];rfl
theorem zzh{P:Program}{Γ:Glob}{w:World}{F:Nat->Prop}{ρ:Nat->RS}{H:Heap}{n0 k c:Nat}{f:FuncId}{args:List AV}{v:AV}{e:Eff}{rd:List Nat}{vs:Array Value}
  (ho:HOK Γ w F ρ H) (hk:k+c<=H.length) (hub:∀j,k<=j->j<k+c->ρ j= .unborn) (hcr:CallR0 P Γ f args k H v e rd c) (hsz:vs.size=args.length)
  (hrep:∀(j:Nat) (a:AV) (u:Value),args[j]?=some a->vs[j]?=some u->Rep w (Mu F ρ) ρ a u):
  zpc P f vs w λen w'=>∃u ρ',en= .returned u/\After Γ F n0 ρ w ρ' w' (zac e H) (zgz k c)/\Rep w' (Mu F ρ') ρ' v u:=by
 obtain⟨ids,args0,H0,v0,H0',hret,hids,hnd,hlt,rfl,hbel,hH⟩:=hcr
 rename List Nat=>ids
 generalize hσ:zan ids k=σ at*;have hinj:∀i j,σ i=σ j->i=j:=by intro i j h;subst hσ;exact zwz hnd hlt h
 have hin:∀i,i<ids.length->σ i<k/\σ i∈ids:=by
  intro i hi;subst hσ;simp only[zan,hi,dif_pos];exact⟨hlt _ (qG hi),qG hi⟩
 have hout:∀i,ids.length<=i->σ i=k+(i-ids.length):=by
  intro i hi;subst hσ;simp only[zan];rw[dif_neg (by omega)]
 have hmem:∀j,j∈ids->∃i,i<ids.length/\σ i=j:=by
  intro j hj;obtain⟨i,hi,e⟩:=List.getElem_of_mem hj;refine⟨i,hi,?_⟩;subst hσ;simp only[zan,hi,dif_pos,e]
 obtain⟨hlen,hret⟩:=hret;let F0:Nat->Prop:=λb=>F b\/∃i,i∉ids/\ρ i= .here b
 let ρ0:Nat->RS:=λi=>if i<ids.length then ρ (σ i)else .unborn
 have hρ0:∀i,i<ids.length->ρ0 i=ρ (σ i):=λi hi=>by simp[ρ0,hi]
 have hρ0':∀i b,ρ0 i= .here b->i<ids.length/\ρ (σ i)= .here b:=by
  intro i b hi;simp only[ρ0]at hi;split at hi
  ·exact⟨by assumption,hi⟩
  ·simp at hi
 have hMu:∀b,Mu F0 ρ0 b↔Mu F ρ b:=by
  intro b;constructor
  ·rintro((h | ⟨i,_,h⟩) | ⟨i,h⟩)
   ·exact .inl h
   ·exact .inr ⟨i,h⟩
   ·exact .inr ⟨σ i,(hρ0' i b h).2⟩
  ·rintro(h | ⟨i,h⟩)
   ·exact .inl (.inl h)
   ·by_cases hi:i∈ids
    ·obtain⟨j,hj,rfl⟩:=hmem i hi;exact .inr ⟨j,(hρ0 j hj).trans h⟩
    ·exact .inl (.inr ⟨i,hi,h⟩)
 have hback:∀(a:AV) (u:Value),a.under ids.length=true->Rep w (Mu F ρ) ρ (a.ren σ) u->Rep w (Mu F0 ρ0) ρ0 a u:=by
  intro a u hb hr;have h1:Rep w (Mu F ρ) ρ0 a u:=hr.unren hρ0 a rfl hb;exact h1.kept (Kept.refl (λ_=>False) w) (λ_ x=>x.elim) (λb _ hb=>(hMu b).1 hb) (λi b hi=>ho.lt _ b (hρ0' i b hi).2) (λ_ _=> .inl rfl)
 have ho0:HOK Γ w F0 ρ0 H0:=by
  refine⟨?_,?_,?_,?_,?_,?_,?_⟩
  ·intro i j b hi hj;exact hinj _ _ (ho.inj _ _ b (hρ0' i b hi).2 (hρ0' j b hj).2)
  ·intro i b hi hF;obtain⟨h1,h2⟩:=hρ0' i b hi;rcases hF with hF | ⟨j,hj,hjb⟩
   ·exact ho.notF _ b h2 hF
   ·have:=ho.inj _ _ b h2 hjb;exact hj (this ▸ (hin i h1).2)
  ·rintro b (hF | ⟨j,hj,hjb⟩)
   ·exact ho.fLt b hF
   ·exact ho.lt j b hjb
  ·intro i hi;simp only[ρ0];rw[if_neg (by omega)]
  ·intro i cs hi
   have hil:i<ids.length:=by
    rw[hids];rcases qJ i H0.length with h' | h'
    ·exact h'
    ·rw[qX h']at hi;simp at hi
   obtain⟨cs',_,_,hc⟩:=hH i _ hi;obtain⟨b,hb⟩:=ho.alive (σ i) _ hc;exact⟨b,(hρ0 i hil).trans hb⟩
  ·intro i b hi;obtain⟨h1,h2⟩:=hρ0' i b hi;obtain⟨cs,g1,g2⟩:=ho.blk (σ i) b h2;have hil:i<H0.length:=by omega
   obtain⟨cs0,hcs0,hu0,hc⟩:=hH i H0[i] (by simp[hil]);rw[hc,hcs0]at g1;simp[renB]at g1;subst g1;refine⟨cs0,by simp[hil,hcs0],?_⟩;obtain⟨el,m,g2,g3,g4,g5⟩:=g2;refine⟨el,m,g2,by simpa using g3,g4,λj a ha=>?_⟩;obtain⟨u,hu,hr⟩:=g5 j (a.ren σ) (by simp[ha]);exact⟨u,hu,hback a u (zcr hu0 j a ha) hr⟩
  ·intro g cs hg;exact(ho.glob g cs hg).weaken (λb _ hb=>(hMu b).1 hb)
 have hcall:=hret w F0 ρ0 vs ho0 (by simpa using hsz) (λj a u ha hu=>hback a u (zcr hbel j a ha) (hrep j (a.ren σ) u (by simp[ha]) hu));refine hcall.mono ?_;rintro en w' ⟨u,ρ1,rfl,hA,hr⟩;let ρ':Nat->RS:=λj=>if k<=j/\j<k+(H0'.length-H0.length)then ρ1 (ids.length+(j-k))else open Classical in if h:∃i,i<ids.length/\σ i=j then ρ1 (Classical.choose h)else ρ j
 have hold1:∀i,i<ids.length->ρ1 i=ρ (σ i)\/(ρ (σ i)≠ .unborn/\ρ1 i= .dead):=by
  intro i hi;by_cases hu:ρ0 i= .unborn
  ·exact .inl (by rw[hA.still i hu (by simp[zgz];omega),<-hρ0 i hi,hu])
  ·rcases hA.ext i hu with h | ⟨_,h⟩
   ·exact .inl (by rw[h,hρ0 i hi])
   ·exact .inr ⟨by rw[<-hρ0 i hi];exact hu,h⟩
 have hin1:∀i,i<ids.length->ρ' (σ i)=ρ1 i:=by
  intro i hi;simp only[ρ'];rw[if_neg (by have:=(hin i hi).1;omega)];have hex:∃i',i'<ids.length/\σ i'=σ i:=⟨i,hi,rfl⟩
  rw[dif_pos hex];exact congrArg ρ1 (hinj _ _ (Classical.choose_spec hex).2)
 have hnew1:∀i,ids.length<=i->i<H0'.length->ρ' (σ i)=ρ1 i:=by
  intro i h1 h2;rw[hout i h1];simp only[ρ'];rw[if_pos (by omega)];congr 1;omega
 have hkeep:∀j,¬(k<=j/\j<k+(H0'.length-H0.length))->j∉ids->ρ' j=ρ j:=λj hj hji=>by
  simp only[ρ'];rw[if_neg hj,dif_neg];rintro⟨i,hi,rfl⟩;exact hji (hin i hi).2
 have hids:∀j,j∈ids->ρ' j=ρ j\/(ρ j≠ .unborn/\ρ' j= .dead):=by
  intro j hj;obtain⟨i,hi,rfl⟩:=hmem j hj;rw[hin1 i hi];exact hold1 i hi
 have hσ1:∀i,ρ1 i≠ .unborn->ρ' (σ i)=ρ1 i:=by
  intro i hi;rcases qJ i ids.length with h | h
  ·exact hin1 i h
  ·rcases qJ i H0'.length with h' | h'
   ·exact hnew1 i h h'
   ·exact absurd (hA.hok.unborn i h') hi
 have hinv:∀j b,ρ' j= .here b->(∃i,σ i=j/\ρ1 i= .here b)\/(j∉ids/\ρ j= .here b/\¬(k<=j/\j<k+(H0'.length-H0.length))):=by
  intro j b hj;by_cases hkj:k<=j/\j<k+(H0'.length-H0.length)
  ·simp only[ρ']at hj;rw[if_pos hkj]at hj;exact .inl ⟨ids.length+(j-k),by rw[hout _ (by omega)];omega,hj⟩
  ·by_cases hji:j∈ids
   ·obtain⟨i,hi,rfl⟩:=hmem j hji;exact .inl ⟨i,rfl,(hin1 i hi).symm.trans hj⟩
   ·rw[hkeep j hkj hji]at hj;exact .inr ⟨hji,hj,hkj⟩
 have hMu':∀b,Mu F0 ρ1 b↔Mu F ρ' b:=by
  intro b;constructor
  ·rintro((h | ⟨i,hi,h⟩) | ⟨i,h⟩)
   ·exact .inl h
   ·refine .inr ⟨i,?_⟩;rw[hkeep i ?_ hi]
    ·exact h
    ·intro hki;rw[hub i hki.1 hki.2]at h;simp at h
   ·exact .inr ⟨σ i,(hσ1 i (by rw[h];simp)).trans h⟩
  ·rintro(h | ⟨j,h⟩)
   ·exact .inl (.inl h)
   ·rcases hinv j b h with⟨i,_,hi⟩ | ⟨hji,hj,_⟩
    ·exact .inr ⟨i,hi⟩
    ·exact .inl (.inr ⟨j,hji,hj⟩)
 have hfwd:∀(a:AV) (u:Value),Rep w' (Mu F0 ρ1) ρ1 a u->Rep w' (Mu F ρ') ρ' (a.ren σ) u:=by
  intro a u hr;have h1:=hr.kept (M':=Mu F ρ') (ρ':=ρ1) (Kept.refl (λ_=>False) w') (λ_ x=>x.elim) (λb _ hb=>(hMu' b).2 hb) hA.hok.lt (λ_ _=> .inl rfl);exact h1.ren hσ1
 have hkept:Kept (λb=>∃i,ρ i= .here b) w w':=hA.kept.mono (λb _ ⟨i,hi⟩=>⟨σ i,(hρ0' i b hi).2⟩)
 have hold':∀i b,ρ' i= .here b->(∃j,ρ j= .here b)\/w.heap.size<=b:=by
  intro i b hi;rcases hinv i b hi with⟨j,_,hj⟩ | ⟨_,hj,_⟩
  ·rcases hA.old j b hj with⟨l,hl⟩ | h
   ·exact .inl ⟨σ l,(hρ0' l b hl).2⟩
   ·exact .inr h
  ·exact .inl ⟨i,hj⟩
 have hrest:∀(a:AV) (u:Value),Rep w (Mu F ρ) ρ a u->Rep w' (Mu F ρ') ρ' a u:=by
  intro a u hr;refine hr.kept hkept (λ_ hb=> .inr hb) (Mu.mono hold') ho.lt (λi hi=>?_);by_cases hji:i∈ids
  ·exact(hids i hji).imp id (λx=>x.2)
  ·exact .inl (hkeep i (λhki=>hi (hub i hki.1 hki.2)) hji)
 have hσlt:∀i,i<H0'.length->σ i<H.length:=by
  intro i hi;rcases qJ i ids.length with h | h
  ·have:=(hin i h).1;omega
  ·rw[hout i h];omega
 refine⟨u,ρ',rfl,⟨⟨?_,?_,?_,?_,?_,?_,?_⟩,hkept,?_,hold',?_⟩,hfwd _ _ hr⟩
 ·intro i j b hi hj;rcases hinv i b hi with⟨p,rfl,hp⟩ | ⟨h1,h2,h3⟩<;>rcases hinv j b hj with⟨q,rfl,hq⟩ | ⟨h4,h5,h6⟩
  ·rw[hA.hok.inj p q b hp hq]
  ·exact absurd (Or.inr ⟨j,h4,h5⟩) (hA.hok.notF p b hp)
  ·exact absurd (Or.inr ⟨i,h1,h2⟩) (hA.hok.notF q b hq)
  ·exact ho.inj i j b h2 h5
 ·intro i b hi hF;rcases hinv i b hi with⟨p,rfl,hp⟩ | ⟨h1,h2,h3⟩
  ·exact hA.hok.notF p b hp (.inl hF)
  ·exact ho.notF i b h2 hF
 ·intro b hF;exact qH (ho.fLt b hF) hkept.size
 ·intro i hi;rw[zjr]at hi;rw[hkeep i (by omega) (λhji=>by have:=hlt i hji;omega)];exact ho.unborn i hi
 ·intro j cs hj;by_cases hex:∃i,i<H0'.length/\σ i=j
  ·obtain⟨i,hi,rfl⟩:=hex;have hh:=qct σ hinj H0' 0 H i hi (by simpa using hσlt i hi);simp only[xW]at hh;rw[hh]at hj;cases hc:H0'[i]with
   |none=>rw[hc]at hj;simp[renB]at hj
   |some cs1=>
    obtain⟨b,hb⟩:=hA.hok.alive i cs1 (by simp[hi,hc]);exact⟨b,(hσ1 i (by rw[hb];simp)).trans hb⟩
  ·rw[zpd σ H0' 0 H j (λi hi h=>hex ⟨i,hi,by simpa using h⟩)]at hj;obtain⟨b,hb⟩:=ho.alive j cs hj;refine⟨b,?_⟩;rw[hkeep j ?_ ?_]
   ·exact hb
   ·intro hki;rw[hub j hki.1 hki.2]at hb;simp at hb
   ·intro hji;obtain⟨i,hi,e⟩:=hmem j hji;exact hex ⟨i,by omega,e⟩
 ·intro j b hj;rcases hinv j b hj with⟨i,rfl,hi⟩ | ⟨h1,h2,h3⟩
  ·obtain⟨cs,g1,g2⟩:=hA.hok.blk i b hi
   have hil:i<H0'.length:=by
    rcases qJ i H0'.length with h' | h'
    ·exact h'
    ·rw[qX h']at g1;simp at g1
   have hh:=qct σ hinj H0' 0 H i hil (by simpa using hσlt i hil);simp only[xW]at hh;have hcc:H0'[i]=some cs:=by rw[xU hil]at g1;simpa using g1
   refine⟨cs.map (AV.ren σ),by rw[hh,hcc];rfl,?_⟩;obtain⟨el,m,g2,g3,g4,g5⟩:=g2;refine⟨el,m,g2,by simpa using g3,g4,λj a ha=>?_⟩;simp only[qC,qA]at ha;obtain⟨x,hx,rfl⟩:=ha;obtain⟨y,hy,hyr⟩:=g5 j x hx;exact⟨y,hy,hfwd _ _ hyr⟩
  ·obtain⟨cs,g1,g2⟩:=ho.blk j b h2
   have hmiss:∀i,i<H0'.length->σ (0+i)≠j:=by
    intro i hi h;rw[xW]at h;rcases qJ i ids.length with h' | h'
    ·exact h1 (h ▸ (hin i h').2)
    ·rw[hout i h']at h;omega
   have hsame:=hA.kept.same b (ho.lt j b h2) (by
    rintro⟨i,hi⟩;obtain⟨h4,h5⟩:=hρ0' i b hi;have:=ho.inj _ _ b h5 h2;exact h1 (this ▸ (hin i h4).2))
   exact⟨cs,by rw[zpd σ H0' 0 H j hmiss];exact g1,g2.mono hsame (λ_ _ _=>hrest _ _)⟩
 ·intro g cs hg;exact(ho.glob g cs hg).kept hkept (λ_ hb=> .inr hb) (Mu.mono hold')
 ·intro i hi;by_cases hji:i∈ids
  ·exact(hids i hji).imp id (λx=>⟨xJ _,x.2⟩)
  ·exact .inl (hkeep i (λhki=>hi (hub i hki.1 hki.2)) hji)
 ·intro i hi hn;by_cases hji:i∈ids
  ·rcases hids i hji with h | ⟨h,_⟩
   ·rw[h];exact hi
   ·exact absurd hi h
  ·rw[hkeep i ?_ hji]
   ·exact hi
   ·intro hki;exact hn (by simp[zgz];omega)
inductive CallR(P:Program)(Γ:Glob)(f:FuncId)(args:List AV)(k:Nat)(H:Heap):AV->Eff->List Nat->Nat->Prop
 |base {v:AV} {e:Eff} {rd:List Nat} {c:Nat} (h:CallR0 P Γ f args k H v e rd c):CallR P Γ f args k H v e rd c
 |thin {v:AV} {e:Eff} {rd:List Nat} {c:Nat} (p:Nat->Bool) (h:CallR P Γ f args k H v e rd c) (hp:∀x∈e,p x.1=false->x.1∈rd/\∃cs,x.2=some cs/\getB H x.1=some cs):
   CallR P Γ f args k H v (e.filter λx=>p x.1) rd c
theorem qqs{H:Heap}{i:Nat}{cs:List AV}(h:getB H i=some cs):H.set i (some cs)=H:=by
 have h1:=zcn h;apply xL;intro j;by_cases e:i=j
 ·subst e
  have hl:i<H.length:=by
   rcases qJ i H.length with h' | h'
   ·exact h'
   ·rw[qX h']at h1;simp at h1
  rw[qK hl,h1]
 ·rw[qZ e]
theorem zud(p:Nat->Bool):∀(e:Eff) (H:Heap),(∀x∈e,p x.1=false->∃cs,x.2=some cs/\getB H x.1=some cs)->zac (e.filter λx=>p x.1) H=zac e H:=by
 intro e
 induction e with
 |nil=>intro H _;rfl
 |cons x e ih=>
  intro H h;obtain⟨i,c⟩:=x;cases hpi:p i with
  |true=>
   rw[List.filter_cons_of_pos (by simpa using hpi)];simp only[zac];refine ih _ (λy hy hpy=>?_);obtain⟨cs,h1,h2⟩:=h y (by simp[hy]) hpy;refine⟨cs,h1,?_⟩;have hne:i≠y.1:=by intro e2;rw[e2,hpy]at hpi;simp at hpi
   unfold getB at h2 ⊢;rw[qZ hne];exact h2
  |false=>
   rw[List.filter_cons_of_neg (by simp[hpi])];obtain⟨cs,h1,h2⟩:=h (i,c) (by simp) hpi;simp only at h1;subst h1;simp only[zac];rw[qqs h2];exact ih H (λy hy hpy=>h y (by simp[hy]) hpy)
theorem qfs{P:Program}{Γ:Glob}{w:World}{F:Nat->Prop}{ρ:Nat->RS}{H:Heap}{n0 k c:Nat}{f:FuncId}{args:List AV}{v:AV}{e:Eff}{rd:List Nat}{vs:Array Value}
  (ho:HOK Γ w F ρ H) (hk:k+c<=H.length) (hub:∀j,k<=j->j<k+c->ρ j= .unborn) (hcr:CallR P Γ f args k H v e rd c) (hsz:vs.size=args.length)
  (hrep:∀(j:Nat) (a:AV) (u:Value),args[j]?=some a->vs[j]?=some u->Rep w (Mu F ρ) ρ a u):
  zpc P f vs w λen w'=>∃u ρ',en= .returned u/\After Γ F n0 ρ w ρ' w' (zac e H) (zgz k c)/\Rep w' (Mu F ρ') ρ' v u:=by
 induction hcr with
 |base h=>exact zzh ho hk hub h hsz hrep
 |thin p h hp ih=>
  rw[zud p _ _ (λx hx hpx=>(hp x hx hpx).2)];exact ih hk hub
structure It where
 v:AV
 e:Eff
 rd:List Nat
 k:Nat
 c:Nat
def Body(P:Program)(Γ:Glob)(n0:Nat)(ck:CK)(E:Env)(H:Heap)(it:It):Prop:=
 match ck with
 |.call f args=>CallR P Γ f (args.map (val E)) it.k H it.v it.e it.rd it.c
 |.callc x args=>∃f caps,val E x= .clo f caps/\okC (okFn P) f=true/\CallR P Γ (cloF f) (cloA f (args.map (val E)) caps) it.k H it.v it.e it.rd it.c
 |ck=>evK n0 it.k ck (val E) H=some (it.v,it.e,it.rd)/\it.c=cntK ck
def gdB:AV->Bool->Option Bool
 |.bool b,want=>some (b == want)
 |.tup [],_=>some false
 |_,_=>none
def Stp(P:Program)(Γ:Glob)(n0:Nat)(o:COp)(E:Env)(H:Heap)(it:It):Prop:=
 match o.g with
 |none=>Body P Γ n0 o.k E H it
 |some (d,want)=>∃b,gdB (E d) want=some b/\if b=true then Body P Γ n0 o.k E H it else(it.v= .junk\/it.v= .tup [])/\it.e=[]/\it.rd=[]/\it.c=0
def keys(e:Eff):List Nat:=e.map (·.1)
theorem zpe:∀(e:Eff) (H:Heap) (j:Nat),j∉keys e->(zac e H)[j]?=H[j]?:=by
 intro e
 induction e with
 |nil=>intro H j _;rfl
 |cons p e ih=>
  obtain⟨i,c⟩:=p;intro H j hj;simp only[keys,qL,qB,not_or]at hj;simp only[zac];rw[ih _ j hj.2,qZ (λx=>hj.1 x.symm)]
theorem qft(e:Eff):∀(H:Heap) (i:Nat) (c:Option (List AV)),i∉keys e->zac e (H.set i c)=(zac e H).set i c:=by
 induction e with
 |nil=>intro H i c _;rfl
 |cons p e ih=>
  obtain⟨j,d⟩:=p;intro H i c hi;simp only[keys,qL,qB,not_or]at hi;simp only[zac];rw[List.set_comm _ _ hi.1,ih _ i c hi.2]
theorem zzi:∀(e1 e2:Eff) (H:Heap),(∀i,i∈keys e1->i∉keys e2)->zac e2 (zac e1 H)=zac e1 (zac e2 H):=by
 intro e1
 induction e1 with
 |nil=>intro e2 H _;rfl
 |cons p e1 ih=>
  obtain⟨j,d⟩:=p;intro e2 H h;simp only[zac];rw[ih e2 _ (λi hi=>h i (by simp only[keys,qL,qB];exact .inr hi))];rw[qft e2 H j d (h j (by simp[keys]))]
def zzj(l:List Nat)(H H2:Heap):Prop:= ∀j∈l,getB H2 j=getB H j
theorem zse{H H2:Heap}{j:Nat}(h:H2[j]?=H[j]?):getB H2 j=getB H j:=by unfold getB;rw[h]
theorem zkw{H H2:Heap}{sz n:Nat}{x:AV}{cs:List AV}{rd:List Nat}(h:zea H sz n x=some (cs,rd))(ha:zzj rd H H2):zea H2 sz n x=some (cs,rd):=by
 cases x<;>simp only[zea]at h ⊢ <;> try (exact h)
 case sl id off m s c=>
  split at h
  ·rename_i cs' hg;have h3:=(zad h).2;simp at h3;obtain⟨rfl,rfl⟩:=h3;rw[ha id (by simp),hg];exact h
  ·simp at h
theorem zue{n0 fresh sz bytes:Nat}{H H2:Heap}{s x:AV}{r:Res}(h:zby n0 fresh H sz bytes s x=some r)(ha:zzj r.2.2 H H2):zby n0 fresh H2 sz bytes s x=some r:=by
 unfold zby at h ⊢;simp only[qQ]at h ⊢;obtain⟨m,hm,⟨xs,xr⟩,hxs,h⟩:=h;obtain⟨v,e,rd⟩:=r;simp only at ha
 have hsub:∀j,j∈xr->j∈rd:=by
  by_cases hm0:m=0
  ·simp only[if_pos hm0]at h;cases s<;>simp at h
   ·obtain⟨_,_,rfl⟩:=h;exact λj hj=>hj
   ·obtain⟨_,_,rfl⟩:=h;exact λj hj=>hj
  ·simp only[if_neg hm0]at h;cases s<;>simp only at h<;>try (simp at h;done)
   ·have:=(zad h).2;simp at this;obtain⟨_,_,rfl⟩:=this;exact λj hj=>hj
   ·split at h
    ·have h2:=(zad h).2;split at h2
     ·simp at h2;obtain⟨_,_,rfl⟩:=h2;exact λj hj=>by simp[hj]
     ·have h3:=(zad h2).2;simp at h3;obtain⟨_,_,rfl⟩:=h3;exact λj hj=>by simp[hj]
    ·simp at h
 refine⟨m,hm,(xs,xr),zkw hxs (λj hj=>ha j (hsub j hj)),?_⟩;by_cases hm0:m=0
 ·simp only[if_pos hm0]at h ⊢;exact h
 ·simp only[if_neg hm0]at h ⊢;cases s<;>simp only at h ⊢ <;> try (exact h)
  rename_i id off n s' c;split at h
  ·rename_i cs hg
   have hid:id∈rd:=by
    have h2:=(zad h).2;split at h2
    ·simp at h2;obtain⟨_,_,rfl⟩:=h2;simp
    ·have h3:=(zad h2).2;simp at h3;obtain⟨_,_,rfl⟩:=h3;simp
   rw[ha id hid,hg];exact h
  ·simp at h
theorem zpf{V V2:Opd->AV}:∀(ps:List (Nat×Nat×Opd)) (cs:List AV),(∀x∈ps.map (·.2.2),V x=V2 x)->zfn V cs ps=zfn V2 cs ps:=by
 intro ps
 induction ps with
 |nil=>intro cs _;rfl
 |cons p ps ih=>
  obtain⟨off,s,x⟩:=p;intro cs h;simp only[zfn];rw[h x (by simp),ih _ (λy hy=>h y (by simp only[qL,qB];exact .inr hy))]
theorem znk{V V2:Opd->AV}{d:Nat}{x:Option Opd}(h:∀y∈x.toList,V y=V2 y):zbw V d x=zbw V2 d x:=by
 cases x with
 |none=>rfl
 |some y=>simp only[zbw];rw[h y (by simp)]
theorem zit{V V2:Opd->AV}{sz:Nat}{x:AV}{lo hi mx:Option Opd}(h:∀y∈lo.toList++hi.toList++mx.toList,V y=V2 y):zej V sz x lo hi mx=zej V2 sz x lo hi mx:=by
 have h1:∀d,zbw V d lo=zbw V2 d lo:=λd=>znk (λy hy=>h y (by simp;exact .inl (by simpa using hy)))
 have h2:∀d,zbw V d hi=zbw V2 d hi:=λd=>znk (λy hy=>h y (by simp;exact .inr (.inl (by simpa using hy))))
 cases x<;>simp only[zej]<;>(simp only[h1,h2];cases mx with
  |none=>rfl
  |some m=>simp only[h m (by simp)])
theorem zxa{n0 fresh:Nat}{k:CK}{V V2:Opd->AV}{H H2:Heap}{r:Res}(h:evK n0 fresh k V H=some r)(hV:∀x∈k.opds,V x=V2 x)(ha:zzj r.2.2 H H2):
  evK n0 fresh k V2 H2=some r:=by
 obtain⟨v,e,rd⟩:=r;simp only at ha;cases k<;>simp only[CK.opds,qB,List.not_mem_nil,or_false,forall_eq_or_imp,forall_eq]at hV<;>simp only[evK]at h ⊢ <;> try (exact h)
 case mov x=>rw[<-hV];exact h
 case pick c a b=>rw[<-hV.1,<-hV.2.1,<-hV.2.2];exact h
 case box x=>rw[<-hV];exact h
 case build z ps=>rw[<-zpf ps z hV];exact h
 case bsl n sz z ps=>rw[<-zpf ps z hV];exact h
 case load ag sz x=>
  rw[<-hV];split at h
  ·rename_i id off hv;split at h
   ·rename_i cs hg;have h3:=(zad h).2;simp at h3;obtain⟨rfl,rfl,rfl⟩:=h3;rw[ha id (by simp),hg];exact h
   ·simp at h
  ·exact h
  ·simp at h
 case store sz x y=>
  rw[<-hV.1,<-hV.2];split at h
  ·rename_i id off hv;split at h
   ·rename_i cs hg;have h3:=(zad h).2;simp at h3;obtain⟨rfl,rfl,rfl⟩:=h3;rw[ha id (by simp),hg];exact h
   ·simp at h
  ·simp at h
 case nilck x=>rw[<-hV];exact h
 case bin op x y=>rw[<-hV.1,<-hV.2];exact h
 case beq neg x y=>rw[<-hV.1,<-hV.2];exact h
 case snil neg x=>rw[<-hV];exact h
 case un op x=>rw[<-hV];exact h
 case conv k x=>rw[<-hV];exact h
 case b2s x=>
  rw[<-hV];simp only[qQ]at h ⊢;obtain⟨n,hn,⟨xs,xr⟩,hxs,l,hl,h⟩:=h;simp at h;obtain⟨rfl,rfl,rfl⟩:=h;exact⟨n,hn,(xs,xr),zkw hxs ha,l,hl,rfl⟩
 case mksl sz bytes z x y=>rw[<-hV.1,<-hV.2];exact h
 case slice sz x lo hi mx=>rw[<-hV.1,<-zit hV.2];exact h
 case slarr n sz x lo hi mx=>
  rw[<-hV.1];split at h
  ·rename_i id off hv;split at h
   ·rename_i cs hg;have h3:=(zad h).2;simp only[qQ]at h3;obtain⟨u,_,h3⟩:=h3;simp at h3;obtain⟨rfl,rfl,rfl⟩:=h3;rw[ha id (by simp),hg,<-zit hV.2];exact h
   ·simp at h
  ·rw[<-zit hV.2];exact h
  ·simp at h
 case fld off x=>rw[<-hV];exact h
 case part ag sz off x=>rw[<-hV];exact h
 case idx sz x y=>rw[<-hV.1,<-hV.2];exact h
 case idxa n sz x y=>rw[<-hV.1,<-hV.2];exact h
 case idxv n ag sz x y=>rw[<-hV.1,<-hV.2];exact h
 case idxs x y=>rw[<-hV.1,<-hV.2];exact h
 case ext x i=>rw[<-hV];exact h
 case len st x=>rw[<-hV];exact h
 case append sz bytes s x=>rw[<-hV.1,<-hV.2];exact zue h ha
 case copy sz d s=>
  rw[<-hV.1,<-hV.2];split at h
  ·rename_i id off n s' c hv;split at h
   ·rename_i cs hg;simp only[qQ]at h;obtain⟨m,hm,⟨xs,xr⟩,hxs,h⟩:=h;have h3:=(zad h).2;simp at h3;obtain⟨rfl,rfl,rfl⟩:=h3;rw[ha id (by simp),hg];simp only[qQ];exact⟨m,hm,(xs,xr),zkw hxs (λj hj=>ha j (by simp[hj])),h⟩
   ·simp at h
  ·simp at h
 case max x y=>rw[<-hV.1,<-hV.2];exact h
 case mkfn f caps=>rw[<-xK hV];exact h
theorem CallR0.local{P:Program}{Γ:Glob}{f:FuncId}{args:List AV}{k c:Nat}{H H2:Heap}{v:AV}{e:Eff}{rd:List Nat}(h:CallR0 P Γ f args k H v e rd c)(ha:zzj rd H H2):
  CallR0 P Γ f args k H2 v e rd c:=by
 obtain⟨ids,args0,H0,v0,H0',hret,hids,hnd,hlt,rfl,hbel,hH⟩:=h
 rename List Nat=>ids
 refine .mk ids args0 H0 v0 H0' hret hids hnd hlt rfl hbel (λi c hc=>?_);obtain⟨cs,h1,h2,h3⟩:=hH i c hc;refine⟨cs,h1,h2,?_⟩
 have hi:i<ids.length:=by
  rw[hids];rcases qJ i H0.length with h' | h'
  ·exact h'
  ·rw[qX h']at hc;simp at hc
 have hm:zan ids k i∈ids:=by simp only[zan,hi,dif_pos];exact qG hi
 have h4:=ha _ hm;have h5:getB H (zan ids k i)=some (cs.map (AV.ren (zan ids k))):=by simp[getB,h3,h1,renB]
 rw[h5]at h4;have h6:=zcn h4;rw[h6,h1];rfl
theorem CallR.local{P:Program}{Γ:Glob}{f:FuncId}{args:List AV}{k c:Nat}{H H2:Heap}{v:AV}{e:Eff}{rd:List Nat}(h:CallR P Γ f args k H v e rd c)(ha:zzj rd H H2):
  CallR P Γ f args k H2 v e rd c:=by
 induction h with
 |base h=>exact .base (h.local ha)
 |thin p h hp ih=>
  refine .thin p (ih ha) (λx hx hpx=>?_);obtain⟨h1,cs,h2,h3⟩:=hp x hx hpx;exact⟨h1,cs,h2,by rw[ha _ h1];exact h3⟩
theorem Body.local{P:Program}{Γ:Glob}{n0:Nat}{ck:CK}{E E2:Env}{H H2:Heap}{it:It}(h:Body P Γ n0 ck E H it)(hE:∀t,t∈zin ck.opds->E2 t=E t)(ha:zzj it.rd H H2):
  Body P Γ n0 ck E2 H2 it:=by
 have hV:∀x∈ck.opds,val E x=val E2 x:=by
  intro x hx;cases x with
  |t n=>
   have:n∈zin ck.opds:=by
    generalize ck.opds=l at hx
    induction l with
    |nil=>simp at hx
    |cons y l ih=>
     cases hx with
     |head=>simp[zin]
     |tail _ hx=>cases y<;>simp[zin,ih hx]
   exact(hE n this).symm
  |k a=>rfl
 cases ck<;>simp only[Body]at h ⊢ <;> try (exact⟨zxa h.1 hV ha,h.2⟩)
 case call f args=>
  have h4:args.map (val E2)=args.map (val E):=(xK (λy hy=>hV y (by simpa[CK.opds]using hy))).symm;rw[h4];exact h.local ha
 case callc x args=>
  obtain⟨f,caps,h1,h2,h3⟩:=h;have h4:args.map (val E2)=args.map (val E):=(xK (λy hy=>hV y (by simp[CK.opds,hy]))).symm;refine⟨f,caps,by rw[<-hV x (by simp[CK.opds])];exact h1,h2,?_⟩;rw[h4];exact h3.local ha
theorem Stp.local{P:Program}{Γ:Glob}{n0:Nat}{o:COp}{E E2:Env}{H H2:Heap}{it:It}(h:Stp P Γ n0 o E H it)(hE:∀t,t∈o.reads->E2 t=E t)(ha:zzj it.rd H H2):Stp P Γ n0 o E2 H2 it:=by
 unfold Stp at h ⊢;unfold COp.reads at hE;cases hg:o.g with
 |none=>rw[hg]at h hE;exact h.local hE ha
 |some p=>
  obtain⟨d,want⟩:=p;rw[hg]at h hE;obtain⟨b,hb,h⟩:=h;refine⟨b,by rw[hE d (by simp)];exact hb,?_⟩;split at h
  ·rename_i e1;rw[if_pos e1];exact h.local (λt ht=>hE t (by simp[ht])) ha
  ·rename_i e1;rw[if_neg e1];exact h
def Run(P:Program)(Γ:Glob)(n0:Nat):List (Nat×COp×It)->Env->Heap->Env->Heap->Prop
 | [],E,H,E',H'=>E'=E/\H'=H
 |(_,o,it)::r,E,H,E',H'=>Stp P Γ n0 o E H it/\Run P Γ n0 r (updO E o.dst it.v) (zac it.e H) E' H'
def qqt(x y:COp×It):Prop:=
 qch x.1 y.1=true/\(∀i,i∈keys x.2.e->i∉y.2.rd/\i∉keys y.2.e)/\(∀i,i∈keys y.2.e->i∉x.2.rd)
theorem zsf{E:Env}{d:Option Nat}{v:AV}{t:Nat}(h:d≠some t):updO E d v t=E t:=by
 cases d with
 |none=>rfl
 |some d=>simp only[updO,upd];rw[if_neg (λe=>h (by rw[e]))]
theorem qir{E:Env}{d d2:Option Nat}{v v2:AV}(h:∀x,d=some x->d2≠some x):updO (updO E d v) d2 v2=updO (updO E d2 v2) d v:=by
 cases d with
 |none=>rfl
 |some d=>
  cases d2 with
  |none=>rfl
  |some d2=>
   have hne:d≠d2:=λe=>h d rfl (by rw[e])
   funext t;simp only[updO,upd];by_cases e1:t=d2
   ·subst e1;simp[Ne.symm hne]
   ·simp[e1]
theorem zzk{x y:COp}(h:qch x y=true):(∀d,x.dst=some d->d∉y.reads/\y.dst≠some d)/\(∀d,y.dst=some d->d∉x.reads):=by
 unfold qch at h;simp only[qU]at h;obtain⟨h1,h2⟩:=h;refine⟨λd hd=>?_,λd hd=>?_⟩
 ·rw[hd]at h1;simp at h1;exact⟨h1.1,h1.2⟩
 ·rw[hd]at h2;simp at h2;exact h2
theorem Run.swap{P:Program}{Γ:Glob}{n0:Nat}{x y:Nat×COp×It}{r:List (Nat×COp×It)}{E E':Env}{H H':Heap}(hi:qqt x.2 y.2)
  (h:Run P Γ n0 (x::y::r) E H E' H'):Run P Γ n0 (y::x::r) E H E' H':=by
 obtain⟨nx,ox,ix⟩:=x;obtain⟨ny,oy,iy⟩:=y;obtain⟨h1,h2,h3⟩:=h;obtain⟨hs,hk1,hk2⟩:=hi;simp only at hs hk1 hk2;obtain⟨s1,s2⟩:=zzk hs
 have g2:Stp P Γ n0 oy E H iy:=h2.local
  (λt ht=>by
   rw[zsf];intro e;exact(s1 t e).1 ht)
  (λj hj=>by
   refine(zse (zpe _ _ _ ?_)).symm;intro hx;exact(hk1 j hx).1 hj)
 have g1:Stp P Γ n0 ox (updO E oy.dst iy.v) (zac iy.e H) ix:=h1.local
  (λt ht=>by
   rw[zsf];intro e;exact s2 t e ht)
  (λj hj=>by
   refine zse (zpe _ _ _ ?_);intro hy;exact hk2 j hy hj)
 refine⟨g2,g1,?_⟩;rw[<-qir (λd hd=>(s1 d hd).2),<-zzi _ _ _ (λi hi=>(hk1 i hi).2)];exact h3
theorem Run.front{P:Program}{Γ:Glob}{n0:Nat}{y:Nat×COp×It}{r:List (Nat×COp×It)}{E':Env}{H':Heap}:∀(l:List (Nat×COp×It)) (E:Env) (H:Heap),(∀x∈l,qqt x.2 y.2)->
  Run P Γ n0 (l++y::r) E H E' H'->Run P Γ n0 (y::(l++r)) E H E' H':=by
 intro l
 induction l with
 |nil=>intro E H _ h;exact h
 |cons x l ih=>
  intro E H hi h;refine Run.swap (hi x (by simp)) ?_;obtain⟨nx,ox,ix⟩:=x;exact⟨h.1,ih _ _ (λz hz=>hi z (by simp[hz])) h.2⟩
structure Ctx where
 F:Nat->Prop
 w0:World
 ρ0:Nat->RS
 n0:Nat
 nt:Nat
 ro:Option Nat:=none
def zey(ro:Option Nat):Fence:={ Fence.wide with round:=ro }
def znl(r:Nat):Deferred:={ target:= .collected r,args:= #[] }
def qqu(w0:World)(ρ:Nat->RS)(a:Act)(w:World):Prop:=
 ∃ms:List Nat,a.defers=ms.map znl/\ms.Nodup/\∀D∈ms,w0.heap.size<=D/\w.heap[D]?=some (.deferred (some []))/\∀i,ρ i≠ .here D
structure Sim(Γ:Glob)(C:Ctx)(ρ:Nat->RS)(E:Env)(H:Heap)(a:Act)(w:World):Prop where
 hok:HOK Γ w C.F ρ H
 env:∀t,Rep w (Mu C.F ρ) ρ (E t) (a.tmps.getD t undef)
 defers:qqu C.w0 ρ a w
 size:a.tmps.size=C.nt
 kept:Kept (λb=>∃i,C.ρ0 i= .here b) C.w0 w
 ext:∀i,i<C.n0->ρ i=C.ρ0 i\/(C.ρ0 i≠ .unborn/\ρ i= .dead)
 old:∀i b,ρ i= .here b->(∃j,C.ρ0 j= .here b)\/C.w0.heap.size<=b
 len:C.n0<=H.length
theorem zgk{w:World}{b:Nat}{o:Obj}(h:w.heap[b]?=some o):b<w.heap.size:=by
 rcases qJ b w.heap.size with h' | h'
 ·exact h'
 ·rw[Array.getElem?_eq_none h']at h;simp at h
theorem qqu.after{Γ:Glob}{F:Nat->Prop}{n0:Nat}{ρ ρ':Nat->RS}{w0 w w':World}{H':Heap}{new:List Nat}{a a':Act}(h:qqu w0 ρ a w)(hA:After Γ F n0 ρ w ρ' w' H' new)(ha:a'.defers=a.defers):qqu w0 ρ' a' w':=by
 obtain⟨ms,h1,h2,h3⟩:=h;refine⟨ms,ha.trans h1,h2,λD hD=>?_⟩;obtain⟨g1,g2,g3⟩:=h3 D hD;have hlt:=zgk g2;refine⟨g1,?_,λi hi=>?_⟩
 ·rw[hA.kept.same D hlt (λ⟨i,hi⟩=>g3 i hi)];exact g2
 ·rcases hA.old i D hi with⟨j,hj⟩ | hle
  ·exact g3 j hj
  ·omega
theorem zzl(a:Act)(d:Option Nat)(v:Value):(a.put d v).defers=a.defers:=by cases d<;>rfl
theorem qyx{a:Act}{d:Nat}{v:Value}(hd:d<a.tmps.size)(t:Nat):(a.put (some d) v).tmps.getD t undef=if t=d then v else a.tmps.getD t undef:=by
 simp only[Act.put,Array.getD_eq_getD_getElem?];by_cases e:t=d
 ·subst e;simp[hd]
 ·rw[if_neg e,Array.getElem?_setIfInBounds_ne (λx=>e x.symm)]
theorem Sim.step{Γ:Glob}{C:Ctx}{ρ ρ':Nat->RS}{E:Env}{H H':Heap}{a:Act}{w w':World}{new:List Nat}{d:Option Nat}{v:AV}{v':Value}(hs:Sim Γ C ρ E H a w)
  (hA:After Γ C.F C.n0 ρ w ρ' w' H' new) (hnew:∀i∈new,C.n0<=i) (hlen:C.n0<=H'.length) (hr:Rep w' (Mu C.F ρ') ρ' v v') (hd:qqd C.nt d=true):
  Sim Γ C ρ' (updO E d v) H' (a.put d v') w':=by
 refine⟨hA.hok,λt=>?_,?_,?_,?_,?_,?_,hlen⟩
 ·cases d with
  |none=>exact(hs.env t).after hs.hok hA
  |some d=>
   have hd':d<a.tmps.size:=by rw[hs.size];simpa[qqd]using hd
   rw[qyx hd'];simp only[updO,upd];split
   ·exact hr
   ·exact(hs.env t).after hs.hok hA
 ·exact hs.defers.after hA (zzl a d v')
 ·cases d with
  |none=>exact hs.size
  |some d=>simpa[Act.put]using hs.size
 ·exact hs.kept.trans hA.kept (by
   rintro b hb ⟨i,hi⟩;rcases hs.old i b hi with h | h
   ·exact h
   ·omega)
 ·intro i hi;by_cases hu:ρ i= .unborn
  ·have h1:=hA.still i hu (λhn=>by have:=hnew i hn;omega);rcases hs.ext i hi with h2 | ⟨_,h2⟩
   ·exact .inl (by rw[h1,<-h2,hu])
   ·rw[hu]at h2;simp at h2
  ·rcases hA.ext i hu with h | ⟨_,h⟩
   ·rw[h];exact hs.ext i hi
   ·refine .inr ⟨?_,h⟩;rcases hs.ext i hi with h2 | ⟨h2,_⟩
    ·rw[<-h2];exact hu
    ·exact h2
 ·intro i b hi;rcases hA.old i b hi with⟨j,hj⟩ | h
  ·exact hs.old j b hj
  ·exact .inr (xA hs.kept.size h)
theorem Sim.drew{Γ:Glob}{C:Ctx}{ρ:Nat->RS}{E:Env}{H:Heap}{a:Act}{w:World}(hs:Sim Γ C ρ E H a w)(w':World)(hw:w'.heap=w.heap)(hr:w'.os=w.os/\w'.output=w.output):Sim Γ C ρ E H a w':=by
 have hA:=zjm C.n0 hs.hok hw hr;refine⟨hA.hok,λt=>(hs.env t).after hs.hok hA,hs.defers.after hA rfl,hs.size,?_,hs.ext,hs.old,hs.len⟩
 exact hs.kept.trans hA.kept (by
  rintro b hb ⟨i,hi⟩;rcases hs.old i b hi with h | h
  ·exact h
  ·omega)
theorem HOK.pad{Γ:Glob}{w:World}{F:Nat->Prop}{ρ:Nat->RS}{H:Heap}(h:HOK Γ w F ρ H)(m:Nat):HOK Γ w F ρ (H++List.replicate m none):=by
 refine⟨h.inj,h.notF,h.fLt,λi hi=>h.unborn i (by simp at hi;omega),λi cs hi=>?_,λi b hi=>?_,h.glob⟩
 ·rcases qJ i H.length with hl | hl
  ·rw[qV hl]at hi;exact h.alive i cs hi
  ·rw[qY hl,qT]at hi;split at hi<;>simp at hi
 ·obtain⟨cs,h1,h2⟩:=h.blk i b hi
  have hl:i<H.length:=by
   rcases qJ i H.length with h' | h'
   ·exact h'
   ·rw[qX h']at h1;simp at h1
  exact⟨cs,by rw[qV hl];exact h1,h2⟩
theorem Sim.pad{Γ:Glob}{C:Ctx}{ρ:Nat->RS}{E:Env}{H:Heap}{a:Act}{w:World}(hs:Sim Γ C ρ E H a w)(m:Nat):Sim Γ C ρ E (H++List.replicate m none) a w:=
 ⟨hs.hok.pad m,hs.env,hs.defers,hs.size,hs.kept,hs.ext,hs.old,by have:=hs.len;simp;omega⟩
def CK.isC:CK->Bool
 |.call .. | .callc .. => true
 |_=>false
theorem zee{P:Program}{Γ:Glob}{op:Op}{k:CK}(h:zfb P Γ op=some k)(hk:k.isC=true):∃cl f,op= .call cl/\cl.callee= .value f:=by
 cases op with
 |call cl=>
  cases hcl:cl.callee with
  |value g=>exact⟨cl,g,rfl,hcl⟩
  |_=>
   simp only[zfb,hcl]at h
   (repeat' first | (obtain⟨_,_,h⟩:=zab h) | split at h)<;>first | contradiction | (simp at h;done) | (simp at h;subst h;cases hk) | (simp at h;obtain⟨_,_,rfl⟩:=h;cases hk)
 |_=>
  simp only[zfb]at h
  (repeat' first | (obtain⟨_,_,h⟩:=zab h) | split at h)<;>first | contradiction | (simp at h;done) | (simp at h;subst h;cases hk) | (simp at h;obtain⟨_,_,rfl⟩:=h;cases hk)
theorem zzm{P:Program}{Γ:Glob}{op:Op}{f:FuncId}{l:List Opd}(h:zfb P Γ op=some (.call f l)):
  ∃cl,op= .call cl/\cl.callee= .value (.func f)/\(zza P f=true/\f≠4095)/\cl.args.toList.mapM (cOpd Γ)=some l:=by
 obtain⟨cl,g,rfl,hcl⟩:=zee h rfl;simp only[zfb]at h;rw[hcl]at h;cases g<;>simp only at h<;>try (simp[qQ]at h;done)
 split at h
 ·rename_i hok;obtain⟨l',hl,h⟩:=zab h;simp at h;obtain⟨rfl,rfl⟩:=h
  exact⟨cl,rfl,hcl,by
   simp only[qU,xQ]at hok;exact⟨hok.1,λe=>by rw[e]at hok;exact absurd hok.2 (by decide)⟩,hl⟩
 ·simp at h
theorem zxb{P:Program}{Γ:Glob}{op:Op}{x:Opd}{l:List Opd}(h:zfb P Γ op=some (.callc x l)):
  ∃cl t,op= .call cl/\cl.callee= .value (.tmp t)/\x= .t t/\cl.args.toList.mapM (cOpd Γ)=some l:=by
 obtain⟨cl,g,rfl,hcl⟩:=zee h rfl;simp only[zfb]at h;rw[hcl]at h;cases g<;>simp only at h<;>try (simp at h;done)
 ·obtain⟨l',hl,h⟩:=zab h;simp at h;obtain⟨rfl,rfl⟩:=h;exact⟨cl,_,rfl,hcl,rfl,hl⟩
 ·split at h<;>simp[qQ]at h
theorem qis{P:Program}{f:FuncId}(h:zza P f=true):∃fn,P.funcs[f]?=some fn/\fn.body.isNone=false/\(fn.name == "runtime.NumGoroutine")=false:=by
 unfold zza at h;split at h
 ·rename_i fn hf;simp at h;refine⟨fn,hf,?_,by simpa using h.2⟩;cases hb:fn.body<;>simp[hb]at h ⊢
 ·simp at h
theorem zuf{P:Program}{w:World}{f:FuncId}{args:Array Value}(h:zza P f=true):(callFunc f args).run P w= .ok (.enter f args) w:=by
 obtain⟨fn,h1,h2,h3⟩:=qis h;have h4:fn.name≠ "runtime.NumGoroutine" := by simpa using h3
 have h5:fn.body≠none:=by intro e;rw[e]at h2;simp at h2
 simp only[callFunc,Sem.run_bind,program,Sem.run];simp[h1,h4,h5]
theorem qfu{ops:Array Oper}{a:Act}{o:Oper}{d:Nat}{want b:Bool}(hg:zko ops o.guard=some (some (d,want)))(hb:a.tmps.getD d undef= .bool b):
  Region.wanted o (yielded ops a.tmps)=(b == want):=by
 cases hgu:o.guard with
 |none=>rw[hgu]at hg;simp[zko]at hg
 |some p=>
  obtain⟨j,wt⟩:=p;rw[hgu]at hg;simp only[zko]at hg;split at hg
  ·rename_i d' hd;simp at hg;obtain⟨rfl,rfl⟩:=hg
   have hlt:a.tmps[d']?=some (.bool b):=by
    rw[Array.getD_eq_getD_getElem?]at hb;cases h:a.tmps[d']? with
    |none=>rw[h]at hb;simp[undef]at hb
    |some x=>rw[h]at hb;simp at hb;rw[hb]
   simp only[Region.wanted,hgu,yielded,hd,Option.bind_some,hlt];cases b<;>cases wt<;>rfl
  ·simp at hg
theorem qit{w:World}{M:Nat->Prop}{ρ:Nat->RS}:Rep w M ρ (.tup []) undef:= .imm _ _ (.tup [] #[] rfl (λj a v h=>by simp at h))
theorem qqv{w:World}{M:Nat->Prop}{ρ:Nat->RS}{v:Value}(h:Rep w M ρ (.tup []) v):v= .tuple #[]:=by
 obtain⟨vs,rfl,hl,_⟩:=ztu h;simp at hl;rw[hl]
theorem zzn{ops:Array Oper}{a:Act}{o:Oper}{d:Nat}{want:Bool}(hg:zko ops o.guard=some (some (d,want)))(hb:a.tmps.getD d undef= .tuple #[]):
  Region.wanted o (yielded ops a.tmps)=false:=by
 cases hgu:o.guard with
 |none=>rw[hgu]at hg;simp[zko]at hg
 |some p=>
  obtain⟨j,wt⟩:=p;rw[hgu]at hg;simp only[zko]at hg;split at hg
  ·rename_i d' hd;simp at hg;obtain⟨rfl,rfl⟩:=hg;rw[Array.getD_eq_getD_getElem?]at hb;cases h:a.tmps[d']? with
   |none=>simp[Region.wanted,hgu,yielded,hd,h]
   |some x=>
    rw[h]at hb;simp at hb;subst hb;simp[Region.wanted,hgu,yielded,hd,h]
  ·simp at hg
theorem qqw{ops:Array Oper}{a:Act}{o:Oper}{d:Nat}{want b:Bool}{w:World}{M:Nat->Prop}{ρ:Nat->RS}{x:AV}(hg:zko ops o.guard=some (some (d,want)))(hx:gdB x want=some b)(hr:Rep w M ρ x (a.tmps.getD d undef)):
  Region.wanted o (yielded ops a.tmps)=b:=by
 unfold gdB at hx;split at hx
 ·rename_i b' _;simp at hx;rw[qfu hg (zex hr),hx]
 ·simp at hx;subst hx;exact zzn hg (qqv hr)
 ·simp at hx
theorem qfv{ops:Array Oper}{a:Act}{o:Oper}(hg:zko ops o.guard=some none):Region.wanted o (yielded ops a.tmps)=true:=by
 cases hgu:o.guard with
 |none=>simp[Region.wanted,hgu]
 |some p=>
  obtain⟨j,wt⟩:=p;rw[hgu]at hg;simp only[zko]at hg;split at hg<;>simp at hg
section
variable{P:Program}{Γ:Glob}{C:Ctx}{ρ:Nat->RS}{E:Env}{H:Heap}{a:Act}{w:World}{ops:Array Oper}{o:Oper}{co:COp}{it:It}{Q:Exit->Act->World->Prop}{K:Act->World->Prop}
def Then(Γ:Glob)(C:Ctx)(ρ:Nat->RS)(E:Env)(H:Heap)(a:Act)(co:COp)(it:It)(K:Act->World->Prop):Prop:=
 ∀(ρ':Nat->RS) (v':Value) (w':World),Sim Γ C ρ' (updO E co.dst it.v) (zac it.e H) (a.put co.dst v') w'->(∀j,ρ j= .unborn->j∉zgz it.k it.c->ρ' j= .unborn)->K (a.put co.dst v') w'
theorem qiu(hs:Sim Γ C ρ E H a w)(hk:zfb P Γ o.op=some co.k)(hd:o.dst=co.dst)(hok:qqd C.nt co.dst=true)(hb:Body P Γ C.n0 co.k E H it)(h0:C.n0<=it.k)(hlen:it.k+it.c<=H.length)
  (hu:∀j,it.k<=j->j<it.k+it.c->ρ j= .unborn) (hK:Then Γ C ρ E H a co it K):o.wpIn (zey C.ro) 0 P a w K Q:=by
 have hnew:∀i∈zgz it.k it.c,C.n0<=i:=by intro i hi;simp[zgz]at hi;omega
 have hl:C.n0<=(zac it.e H).length:=by rw[zjr];exact hs.len
 have hdef:∀c,o.op≠ .defer c:=by intro c e;rw[e]at hk;simp[zfb]at hk
 have callsX:∀(f:FuncId) (args:List AV) (vs:Array Value),CallR P Γ f args it.k H it.v it.e it.rd it.c->vs.size=args.length->
   (∀(j:Nat) (x:AV) (u:Value),args[j]?=some x->vs[j]?=some u->Rep w (Mu C.F ρ) ρ x u)->zpc P f vs w λen w'=>∃u,en= .returned u/\K (a.put o.dst u) w':=by
  intro f args vs hcr hsz hrep;refine(qfs (n0:=C.n0) hs.hok hlen hu hcr hsz hrep).mono ?_;rintro e w' ⟨u,ρ',rfl,hA,hr⟩;refine⟨u,rfl,?_⟩;rw[hd];exact hK ρ' u w' (hs.step hA hnew hl hr hok) (λj hj hn=>hA.still j hj hn)
 have calls:∀(f:FuncId) (args:List AV) (vs:Array Value),f≠4095->CallR P Γ f args it.k H it.v it.e it.rd it.c->vs.size=args.length->
   (∀(j:Nat) (x:AV) (u:Value),args[j]?=some x->vs[j]?=some u->Rep w (Mu C.F ρ) ρ x u)->(execOp a.eval o).run P w= .ok (.enter f vs) w->o.wpIn (zey C.ro) 0 P a w K Q:=by
  intro f args vs hne hcr hsz hrep hrun;refine⟨λ_ _=>trivial,?_⟩;rw[Oper.semAt_eq _ _ _ hdef,hrun,Oper.uponIn_enter];refine⟨λh=>by simp[zey,Fence.wide]at h,?_⟩
  have h2:CallsIn Fence.wide 0 P f vs w (fun
    |.returned v,w''=>K (a.put o.dst v) w''
    |.panicked chain,w''=>Q (.panic chain) a w''
    |.outgrown,_=>LetsOut Q):=(callsIn_wide.2 (callsX f args vs hcr hsz hrep).2).mono (by rintro e w' ⟨u,rfl,h⟩;exact h)
  exact h2
 have plain:∀ck,co.k=ck->evK C.n0 it.k ck (val E) H=some (it.v,it.e,it.rd)->it.c=cntK ck->o.wpIn (zey C.ro) 0 P a w K Q:=by
  intro ck hck hev hc;obtain⟨x,v',w',ρ',h1,h2,h3,h4⟩:=qiq (P:=P) (o:=o) (a:=a) hs.hok hs.env (λh=>⟨by omega,hu it.k (qD _) (by omega)⟩) (hck ▸ hk) hev;rw[<-hc]at h3;have hK':=hK ρ' v' w' (hs.step h3 hnew hl h4 hok) (λj hj hn=>h3.still j hj hn);refine⟨λ_ _=>trivial,?_⟩;rw[Oper.semAt_eq _ _ _ hdef,h1];rcases h2 with rfl | ⟨rfl,rfl⟩
  ·rw[Oper.uponIn_value,hd];exact hK'
  ·rw[Oper.uponIn_skip,hd];exact hK'
 cases hck:co.k<;>rw[hck]at hb<;>simp only[Body]at hb<;>try (exact plain _ hck hb.1 hb.2)
 case call f args=>
  rw[hck]at hk;obtain⟨cl,hop,hcl,hof,hm⟩:=zzm hk;obtain⟨m1,m2⟩:=zoa hs.hok hs.env hm;refine calls f _ (cl.args.map a.eval) hof.2 hb (by simpa using m1) (λj x u hx hu=>m2 j x u hx (by simpa using hu)) ?_;have hf:a.eval (.func f)= .func (.func f) #[] #[]:=rfl;simp[execOp,hop,resolve,hcl,hf,Deferred.ofValue,invoke,zuf hof.1]
 case callc x args=>
  rw[hck]at hk;obtain⟨cl,t,hop,hcl,rfl,hm⟩:=zxb hk;obtain⟨f,caps,h1,h2,h3⟩:=hb;obtain⟨m1,m2⟩:=zoa hs.hok hs.env hm;have hx:=hs.env t;simp only[val]at h1;rw[h1]at hx;simp only[okC,qU,xQ]at h2;obtain⟨⟨h2,h2'⟩,hne⟩:=h2;rw[ztq]at h2';have hne:f≠4095:=λe=>by rw[e]at hne;exact absurd hne (by decide)
  have hf:=zdj hx
  have h2:zza P (cloF f)=true:=by
   unfold okFn at h2;simp only[xC]at h2;rcases h2 with h2 | h2
   ·have h4:=Nat.eq_of_beq_eq_true h2;unfold cloF at h4;rw[ztq.2 hf]at h4;exact absurd h4 hne
   ·exact h2
  have hb1:Nat.blt f 65536=true:=ztq.2 hf;simp only[cloF,cloA,hb1]at h2 h3;obtain⟨us,e1,hl1,hr1⟩:=qyl hx hf;have e2:a.eval (.tmp t)= .func (.func f) #[] us:=e1;refine calls f _ (cl.args.map a.eval++us) hne h3 (by simp at m1;simp[hl1,m1]) (λj x u hx hu=>?_) ?_
  ·simp only[List.length_map]at m1;rcases qJ j args.length with hj | hj
   ·rw[qV (by simpa using hj)]at hx;rw[Array.getElem?_append_left (by simp;simp at m1;omega)]at hu;exact m2 j x u hx (by simpa using hu)
   ·rw[qY (by simpa using hj)]at hx;rw[Array.getElem?_append_right (by simp;simp at m1;omega)]at hu;refine hr1 (j-args.length) x u (by simpa using hx) ?_;have:(cl.args.map a.eval).size=args.length:=by simp at m1 ⊢;omega
    rw[this]at hu;exact hu
  ·simp[execOp,hop,resolve,hcl,e2,Deferred.ofValue,invoke,zuf h2]
theorem qwp{i:Nat}(hi:ops[i]?=some o)(hs:Sim Γ C ρ E H a w)(hc:qht P Γ C.nt ops o=some co)(hb:Stp P Γ C.n0 co E H it)(h0:C.n0<=it.k)(hlen:it.k+it.c<=H.length)
  (hu:∀j,it.k<=j->j<it.k+it.c->ρ j= .unborn) (hK:Then Γ C ρ E H a co it K):wpOpIn (zey C.ro) 0 P ops Q i K a w:=by
 unfold qht at hc;split at hc
 ·rename_i g k hg hk;split at hc
  ·rename_i hok;simp at hc;subst hc;unfold wpOpIn;simp only[hi];unfold Stp at hb;simp only at hb;cases g with
   |none=>
    rw[qfv hg];simp only at hb;rw[if_pos rfl];exact qiu hs hk rfl hok hb h0 hlen hu hK
   |some p=>
    obtain⟨d,want⟩:=p;simp only at hb;obtain⟨b,hE,hb⟩:=hb;have hx:=hs.env d;rw[qqw hg hE hx];by_cases e:b=true
    ·rw[if_pos e]at hb;rw[if_pos e];exact qiu hs hk rfl hok hb h0 hlen hu hK
    ·rw[if_neg e]at hb;rw[if_neg e];obtain⟨h1,h2,h3,h4⟩:=hb;have hA:=zjn C.n0 hs.hok
     have:=hK ρ undef w (by
      rw[h2];rcases h1 with h1 | h1
      ·rw[h1];exact hs.step hA (by simp) hs.len (.imm _ _ (.junk _)) hok
      ·rw[h1];exact hs.step hA (by simp) hs.len qit hok) (λj hj _=>hj)
     exact⟨λ_ _=>trivial,this⟩
  ·simp at hc
 ·simp at hc
end
def RunS(P:Program)(Γ:Glob)(n0:Nat):List COp->List It->Env->Heap->Env->Heap->Prop
 | [],[],E,H,E',H'=>E'=E/\H'=H
 |o::os,it::its,E,H,E',H'=>it.k=H.length/\Stp P Γ n0 o E (H++List.replicate it.c none) it/\
   RunS P Γ n0 os its (updO E o.dst it.v) (zac it.e (H++List.replicate it.c none)) E' H'
 |_,_,_,_,_,_=>False
theorem ziu{H:Heap}{id:Nat}{cs:List AV}(h:getB H id=some cs):id<H.length:=by
 have:=zcn h;rcases qJ id H.length with h' | h'
 ·exact h'
 ·rw[qX h']at this;simp at this
theorem qqx{n0 fresh:Nat}{k:CK}{V:Opd->AV}{X:Heap}{v:AV}{e:Eff}{rd:List Nat}(h:evK n0 fresh k V X=some (v,e,rd))(hf:cntK k=1->fresh<X.length):∀i∈keys e,i<X.length:=by
 cases k<;>simp only[evK]at h
 case mov x=>simp at h;obtain⟨_,rfl,_⟩:=h;simp[keys]
 case pick c a b=>split at h<;>simp at h;obtain⟨_,rfl,_⟩:=h;simp[keys]
 case box x=>have:=(zad h).2;simp at this;obtain⟨_,rfl,_⟩:=this;simp[keys];exact hf rfl
 case build z ps=>simp only[qQ]at h;obtain⟨_,_,h⟩:=h;simp at h;obtain⟨_,rfl,_⟩:=h;simp[keys]
 case bsl n sz z ps=>simp only[qQ]at h;obtain⟨_,_,h⟩:=h;have:=(zad h).2;simp at this;obtain⟨_,rfl,_⟩:=this;simp[keys];exact hf rfl
 case load ag sz x=>
  split at h
  ·split at h
   ·have:=(zad h).2;simp at this;obtain⟨_,rfl,_⟩:=this;simp[keys]
   ·simp at h
  ·have:=(zad h).2;simp at this;obtain⟨_,rfl,_⟩:=this;simp[keys]
  ·simp at h
 case store sz x y=>
  split at h
  ·split at h
   ·rename_i cs hg;have:=(zad h).2;simp at this;obtain⟨_,rfl,_⟩:=this;simp[keys];exact ziu hg
   ·simp at h
  ·simp at h
 case nilck x=>split at h<;>simp at h<;>(obtain⟨_,rfl,_⟩:=h;simp[keys])
 case bin op x y=>simp only[qQ]at h;obtain⟨_,_,h⟩:=h;simp at h;obtain⟨_,rfl,_⟩:=h;simp[keys]
 case beq neg x y=>split at h<;>simp at h;obtain⟨_,rfl,_⟩:=h;simp[keys]
 case snil neg x=>
  split at h
  ·split at h<;>simp at h<;>(obtain⟨_,rfl,_⟩:=h;simp[keys])
  ·simp at h;obtain⟨_,rfl,_⟩:=h;simp[keys]
  ·simp at h
 case un op x=>simp only[qQ]at h;obtain⟨_,_,h⟩:=h;simp at h;obtain⟨_,rfl,_⟩:=h;simp[keys]
 case conv kk x=>split at h<;>simp at h;obtain⟨_,rfl,_⟩:=h;simp[keys]
 case b2s x=>simp only[qQ]at h;obtain⟨_,_,_,_,_,_,h⟩:=h;simp at h;obtain⟨_,rfl,_⟩:=h;simp[keys]
 case mksl sz bytes z x y=>
  split at h
  ·have:=(zad h).2;simp at this;obtain⟨_,rfl,_⟩:=this;simp[keys];exact hf rfl
  ·simp at h
 case slice sz x lo hi mx=>simp only[qQ]at h;obtain⟨_,_,h⟩:=h;simp at h;obtain⟨_,rfl,_⟩:=h;simp[keys]
 case slarr n sz x lo hi mx=>
  split at h
  ·split at h
   ·have:=(zad h).2;simp only[qQ]at this;obtain⟨_,_,this⟩:=this;simp at this;obtain⟨_,rfl,_⟩:=this;simp[keys]
   ·simp at h
  ·have:=(zad h).2;simp only[qQ]at this;obtain⟨_,_,this⟩:=this;simp at this;obtain⟨_,rfl,_⟩:=this;simp[keys]
  ·simp at h
 case fld off x=>split at h<;>simp at h<;>(obtain⟨_,rfl,_⟩:=h;simp[keys])
 case part ag sz off x=>
  split at h<;>try (simp at h;done)
  have:=(zad h).2;simp at this;obtain⟨_,rfl,_⟩:=this;simp[keys]
 case idx sz x y=>
  split at h<;>try (simp at h;done)
  all_goals (have:=(zad h).2;simp at this;obtain⟨_,rfl,_⟩:=this;simp[keys])
 case idxa n sz x y=>
  split at h<;>try (simp at h;done)
  all_goals (have:=(zad h).2;simp at this;obtain⟨_,rfl,_⟩:=this;simp[keys])
 case idxv n ag sz x y=>
  split at h<;>try (simp at h;done)
  all_goals (have:=(zad h).2;simp at this;obtain⟨_,rfl,_⟩:=this;simp[keys])
 case idxs x y=>
  split at h<;>try (simp at h;done)
  all_goals (have:=(zad h).2;simp at this;obtain⟨_,rfl,_⟩:=this;simp[keys])
 case ext x i=>
  split at h
  ·split at h<;>simp at h;obtain⟨_,rfl,_⟩:=h;simp[keys]
  ·simp at h
 case len st x=>split at h<;>simp at h<;>(obtain⟨_,rfl,_⟩:=h;simp[keys])
 case append sz bytes s x=>
  unfold zby at h;simp only[qQ]at h;obtain⟨m,hm,⟨xs,xr⟩,hxs,h⟩:=h;split at h
  ·split at h<;>simp at h<;>(obtain⟨_,rfl,_⟩:=h;simp[keys])
  ·split at h
   ·have:=(zad h).2;simp at this;obtain⟨_,rfl,_⟩:=this;simp[keys];exact hf rfl
   ·split at h
    ·rename_i cs hg;have h2:=(zad h).2;split at h2
     ·simp at h2;obtain⟨_,rfl,_⟩:=h2;simp[keys];exact hf rfl
     ·have h3:=(zad h2).2;simp at h3;obtain⟨_,rfl,_⟩:=h3;simp[keys];exact⟨ziu hg,hf rfl⟩
    ·simp at h
   ·simp at h
 case copy sz d s=>
  split at h
  ·split at h
   ·rename_i cs hg;simp only[qQ]at h;obtain⟨_,_,_,_,h⟩:=h;have:=(zad h).2;simp at this;obtain⟨_,rfl,_⟩:=this;simp[keys];exact ziu hg
   ·simp at h
  ·simp at h
 case max x y=>split at h<;>simp at h;obtain⟨_,rfl,_⟩:=h;simp[keys]
 case mkfn f caps=>simp at h;obtain⟨_,rfl,_⟩:=h;simp[keys]
 case call=>simp at h
 case callc=>simp at h
theorem qiv{σ:Nat->Nat}:∀(L:Heap) (i0 j:Nat),j∈keys (effs σ i0 L)->∃i,i<L.length/\j=σ (i0+i):=by
 intro L
 induction L with
 |nil=>intro i0 j h;simp[effs,keys]at h
 |cons c L ih=>
  intro i0 j h;simp only[effs,keys,qL,qB]at h;rcases h with rfl | h
  ·exact⟨0,by simp,rfl⟩
  ·obtain⟨i,hi,rfl⟩:=ih (i0+1) j h;exact⟨i+1,by simp;omega,by congr 1;omega⟩
theorem CallR0.keys{P:Program}{Γ:Glob}{f:FuncId}{args:List AV}{k c:Nat}{H:Heap}{v:AV}{e:Eff}{rd:List Nat}(h:CallR0 P Γ f args k H v e rd c):∀i∈keys e,i<k+c:=by
 obtain⟨ids,args0,H0,v0,H0',hret,hids,hnd,hlt,rfl,hbel,hH⟩:=h
 rename List Nat=>ids
 intro j hj;obtain⟨i,hi,rfl⟩:=qiv _ _ _ hj;unfold zan;split
 ·rename_i h;have:=hlt _ (qG h);omega
 ·omega
theorem CallR.keys{P:Program}{Γ:Glob}{f:FuncId}{args:List AV}{k c:Nat}{H:Heap}{v:AV}{e:Eff}{rd:List Nat}(h:CallR P Γ f args k H v e rd c):∀i∈keys e,i<k+c:=by
 induction h with
 |base h=>exact h.keys
 |thin p h hp ih=>
  intro i hi;refine ih i ?_;simp only[AL.keys,List.mem_map,qP]at hi ⊢;obtain⟨x,⟨hx,_⟩,rfl⟩:=hi;exact⟨x,hx,rfl⟩
theorem Stp.keys{P:Program}{Γ:Glob}{n0:Nat}{o:COp}{E:Env}{X:Heap}{it:It}(h:Stp P Γ n0 o E X it)(hl:it.k+it.c=X.length):∀i∈keys it.e,i<X.length:=by
 have body:Body P Γ n0 o.k E X it->∀i∈AL.keys it.e,i<X.length:=by
  intro hb;cases hck:o.k<;>rw[hck]at hb<;>simp only[Body]at hb<;>try (exact qqx hb.1 (λhc=>by rw[<-hb.2]at hc;omega))
  case call f args=>intro i hi;have:=CallR.keys hb i hi;omega
  case callc x args=>obtain⟨f,caps,_,_,hb⟩:=hb;intro i hi;have:=CallR.keys hb i hi;omega
 unfold Stp at h;split at h
 ·exact body h
 ·obtain⟨b,hb,h⟩:=h;split at h
  ·exact body h
  ·rw[h.2.1];simp[AL.keys]
theorem zug:∀(e:Eff) (X Y:Heap),(∀i∈keys e,i<X.length)->zac e (X++Y)=zac e X++Y:=by
 intro e
 induction e with
 |nil=>intro X Y _;rfl
 |cons p e ih=>
  obtain⟨i,c⟩:=p;intro X Y h;simp only[zac];rw[List.set_append_left _ _ (h i (by simp[keys]))];exact ih _ _ (λj hj=>by simpa using h j (by simp only[keys,qL,qB];exact .inr hj))
def zgi:List It->Nat
 | []=>0
 |it::r=>it.c+zgi r
def zip3:Nat->List COp->List It->List (Nat×COp×It)
 |i,o::os,it::its=>(i,o,it)::zip3 (i+1) os its
 |_,_,_=>[]
theorem RunS.len{P:Program}{Γ:Glob}{n0:Nat}:∀(os:List COp) (its:List It) (E:Env) (H:Heap) (E':Env) (H':Heap),RunS P Γ n0 os its E H E' H'->os.length=its.length:=by
 intro os
 induction os with
 |nil=>intro its E H E' H' h;cases its with | nil=>rfl | cons it its=>exact h.elim
 |cons o os ih=>
  intro its E H E' H' h;cases its with
  |nil=>exact h.elim
  |cons it its=>simp only[xX];rw[ih its _ _ _ _ h.2.2]
theorem zuh(H:Heap)(m j:Nat):getB (H++List.replicate m none) j=getB H j:=by
 unfold getB;rcases qJ j H.length with hl | hl
 ·rw[qV hl]
 ·rw[qY hl,qX hl,qT];by_cases h:j-H.length<m
  ·rw[if_pos h]
  ·rw[if_neg h]
theorem RunS.run{P:Program}{Γ:Glob}{n0:Nat}:∀(os:List COp) (its:List It) (i:Nat) (E:Env) (H:Heap) (E':Env) (H':Heap),RunS P Γ n0 os its E H E' H'->
  Run P Γ n0 (zip3 i os its) E (H++List.replicate (zgi its) none) E' H'/\(zip3 i os its).Pairwise (λx y=>x.2.2.k+x.2.2.c<=y.2.2.k)/\
  (∀x∈zip3 i os its,H.length<=x.2.2.k/\x.2.2.k+x.2.2.c<=H.length+zgi its):=by
 intro os
 induction os with
 |nil=>
  intro its i E H E' H' h;cases its with
  |nil=>obtain⟨rfl,rfl⟩:=h;exact⟨⟨rfl,by simp[zgi]⟩,.nil,by simp[zip3]⟩
  |cons it its=>exact h.elim
 |cons o os ih=>
  intro its i E H E' H' h;cases its with
  |nil=>exact h.elim
  |cons it its=>
   obtain⟨h1,h2,h3⟩:=h;have hk:=h2.keys (by simp;omega);obtain⟨g1,g2,g3⟩:=ih its (i+1) _ _ _ _ h3;have hlen:(zac it.e (H++List.replicate it.c none)).length=H.length+it.c:=by rw[zjr];simp
   refine⟨⟨?_,?_⟩,?_,?_⟩
   ·exact h2.local (λ_ _=>rfl) (λj _=>by rw[zuh,zuh])
   ·have e1:H++List.replicate (zgi (it::its)) none=(H++List.replicate it.c none)++List.replicate (zgi its) (none:Option (List AV)):=by
     simp only[zgi];rw[<-List.replicate_append_replicate,xP]
    rw[e1,zug _ _ _ hk];exact g1
   ·refine List.pairwise_cons.2 ⟨λx hx=>?_,g2⟩;have:=(g3 x hx).1;simp only;omega
   ·intro x hx;simp only[zip3,qB]at hx;rcases hx with rfl | hx
    ·simp only[zgi];omega
    ·have:=g3 x hx;simp only[zgi];omega
theorem qcu:∀(os:List COp) (its:List It) (i:Nat) (x:Nat×COp×It),x∈zip3 i os its->i<=x.1/\os[x.1-i]?=some x.2.1/\its[x.1-i]?=some x.2.2:=by
 intro os
 induction os with
 |nil=>intro its i x h;simp[zip3]at h
 |cons o os ih=>
  intro its i x h;cases its with
  |nil=>simp[zip3]at h
  |cons it its=>
   simp only[zip3,qB]at h;rcases h with rfl | h
   ·simp
   ·obtain⟨h1,h2,h3⟩:=ih its (i+1) x h;have:x.1-i=(x.1-(i+1))+1:=by omega
    rw[this];exact⟨by omega,by simpa using h2,by simpa using h3⟩
theorem zzo:∀(os:List COp) (its:List It) (i:Nat),(zip3 i os its).Pairwise (λx y=>x.1<y.1):=by
 intro os
 induction os with
 |nil=>intro its i;simp[zip3]
 |cons o os ih=>
  intro its i;cases its with
  |nil=>simp[zip3]
  |cons it its=>
   simp only[zip3];refine List.pairwise_cons.2 ⟨λx hx=>?_,ih its (i+1)⟩;have:=(qcu os its (i+1) x hx).1;simp only;omega
theorem qqy:∀(os:List COp) (its:List It) (i:Nat),os.length=its.length->(zip3 i os its).length=os.length:=by
 intro os
 induction os with
 |nil=>intro its i h;simp[zip3]
 |cons o os ih=>
  intro its i h;cases its with
  |nil=>simp at h
  |cons it its=>simp only[zip3,xX];rw[ih its (i+1) (by simpa using h)]
theorem qqz:∀(os:List COp) (its:List It) (i j:Nat) (o:COp) (it:It),os[j]?=some o->its[j]?=some it->(i+j,o,it)∈zip3 i os its:=by
 intro os
 induction os with
 |nil=>intro its i j o it h;simp at h
 |cons o' os ih=>
  intro its i j o it h1 h2;cases its with
  |nil=>simp at h2
  |cons it' its=>
   cases j with
   |zero=>simp at h1 h2;subst h1 h2;simp[zip3]
   |succ j=>
    have:=ih its (i+1) j o it (by simpa using h1) (by simpa using h2);simp only[zip3,qB];right
    rwa[show i+(j+1)=i+1+j from by omega]
theorem zzp{ops:Array Oper}{listed:Array Bool}(hdc:∀y o,ops[y]?=some o->listed.getD y false=true->∀e∈o.after,Region.binds .any e=true->listed.getD e.on false=true):
  ∀(n x i:Nat) (o:Oper),ops[i]?=some o->(∀e∈o.after,Region.binds .any e=true->listed.getD e.on false=true)->ordB ops n x i=true->listed.getD x false=true:=by
 intro n
 induction n with
 |zero=>intro x i o _ _ h;simp[ordB]at h
 |succ n ih=>
  intro x i o ho he h;simp only[ordB,ho,Array.any_eq_true',qU,xC]at h;obtain⟨e,hm,hb,h⟩:=h;have hl:=he e hm hb;rcases h with h | h
  ·have:e.on=x:=by simpa using h
   rw[<-this];exact hl
  ·replace h:=h.2;cases hoe:ops[e.on]? with
   |none=>
    cases n with
    |zero=>simp[ordB]at h
    |succ n=>simp[ordB,hoe]at h
   |some o2=>exact ih x e.on o2 hoe (hdc e.on o2 hoe hl) h
theorem Stp.quiet{P:Program}{Γ:Glob}{n0:Nat}{o:COp}{E:Env}{X:Heap}{it:It}(h:Stp P Γ n0 o E X it)(hq:o.k.loud=false):it.e=[]/\it.rd=[]:=by
 have body:Body P Γ n0 o.k E X it->it.e=[]/\it.rd=[]:=by
  intro hb;cases hck:o.k<;>rw[hck]at hb hq<;>simp only[CK.loud]at hq<;>try (simp at hq;done)
  all_goals
   simp only[Body]at hb;obtain⟨hb,_⟩:=hb;simp only[evK]at hb
  case mov x=>simp at hb;exact⟨hb.2.1,hb.2.2⟩
  case pick c a b=>split at hb<;>simp at hb;exact⟨hb.2.1,hb.2.2⟩
  case build z ps=>simp only[qQ]at hb;obtain⟨_,_,hb⟩:=hb;simp at hb;exact⟨hb.2.1,hb.2.2⟩
  case nilck x=>split at hb<;>simp at hb<;>exact⟨hb.2.1,hb.2.2⟩
  case bin op x y=>simp only[qQ]at hb;obtain⟨_,_,hb⟩:=hb;simp at hb;exact⟨hb.2.1,hb.2.2⟩
  case beq neg x y=>split at hb<;>simp at hb;exact⟨hb.2.1,hb.2.2⟩
  case snil neg x=>
   split at hb
   ·split at hb<;>simp at hb<;>exact⟨hb.2.1,hb.2.2⟩
   ·simp at hb;exact⟨hb.2.1,hb.2.2⟩
   ·simp at hb
  case un op x=>simp only[qQ]at hb;obtain⟨_,_,hb⟩:=hb;simp at hb;exact⟨hb.2.1,hb.2.2⟩
  case conv kk x=>split at hb<;>simp at hb;exact⟨hb.2.1,hb.2.2⟩
  case slice sz x lo hi mx=>simp only[qQ]at hb;obtain⟨_,_,hb⟩:=hb;simp at hb;exact⟨hb.2.1,hb.2.2⟩
  case fld off x=>split at hb<;>simp at hb<;>exact⟨hb.2.1,hb.2.2⟩
  case part ag sz off x=>
   split at hb<;>try (simp at hb;done)
   have hb:=(zad hb).2;simp at hb;exact⟨hb.2.1,hb.2.2⟩
  case idx sz x y=>
   split at hb<;>try (simp at hb;done)
   all_goals (have hb:=(zad hb).2;simp at hb;exact⟨hb.2.1,hb.2.2⟩)
  case idxa n sz x y=>
   split at hb<;>try (simp at hb;done)
   all_goals (have hb:=(zad hb).2;simp at hb;exact⟨hb.2.1,hb.2.2⟩)
  case idxv n ag sz x y=>
   split at hb<;>try (simp at hb;done)
   all_goals (have hb:=(zad hb).2;simp at hb;exact⟨hb.2.1,hb.2.2⟩)
  case idxs x y=>
   split at hb<;>try (simp at hb;done)
   all_goals (have hb:=(zad hb).2;simp at hb;exact⟨hb.2.1,hb.2.2⟩)
  case ext x i=>
   split at hb
   ·split at hb<;>simp at hb;exact⟨hb.2.1,hb.2.2⟩
   ·simp at hb
  case len st x=>split at hb<;>simp at hb<;>exact⟨hb.2.1,hb.2.2⟩
  case max x y=>split at hb<;>simp at hb;exact⟨hb.2.1,hb.2.2⟩
  case mkfn f caps=>simp at hb;exact⟨hb.2.1,hb.2.2⟩
 unfold Stp at h;split at h
 ·exact body h
 ·obtain⟨b,hb,h⟩:=h;split at h
  ·exact body h
  ·exact⟨h.2.1,h.2.2.1⟩
def qwq(x y:It):Prop:=(∀i,i∈keys x.e->i∉y.rd/\i∉keys y.e)/\(∀i,i∈keys y.e->i∉x.rd)
theorem RunS.quiet{P:Program}{Γ:Glob}{n0:Nat}:∀(os:List COp) (its:List It) (E:Env) (H:Heap) (E':Env) (H':Heap),RunS P Γ n0 os its E H E' H'->
  ∀(j:Nat) (o:COp) (it:It),os[j]?=some o->its[j]?=some it->o.k.loud=false->it.e=[]/\it.rd=[]:=by
 intro os
 induction os with
 |nil=>intro its E H E' H' _ j o it h;simp at h
 |cons o os ih=>
  intro its E H E' H' h j o' it' h1 h2 hq;cases its with
  |nil=>exact h.elim
  |cons it its=>
   cases j with
   |zero=>simp at h1 h2;subst h1 h2;exact h.2.1.quiet hq
   |succ j=>exact ih its _ _ _ _ h.2.2 j o' it' (by simpa using h1) (by simpa using h2) hq
theorem zxc{P:Program}{Γ:Glob}{nt:Nat}{ops:Array Oper}{cs:List COp}(h:qyj P Γ nt ops=some cs):
  cs.length=ops.size/\∀(j:Nat) (o:Oper),ops[j]?=some o->∃c,cs[j]?=some c/\qht P Γ nt ops o=some c:=by
 obtain⟨h1,h2⟩:=zhn h;exact⟨by simpa using h1,λj o ho=>h2 j o (by simpa using ho)⟩
theorem zzq{P:Program}{Γ:Glob}{C:Ctx}{ρ:Nat->RS}{E E':Env}{H H':Heap}{a:Act}{w:World}{ops:Array Oper}{cs:List COp}{its:List It}{Q:Exit->Act->World->Prop}{id:Nat}
  (hm:P.follows .mixedOrders=true) (hc:qyj P Γ C.nt ops=some cs) (hst:qhu ops cs=true) (hrun:RunS P Γ C.n0 cs its E H E' H')
  (hdyn:∀p∈zlg ops cs,∀x y,its[p.1]?=some x->its[p.2]?=some y->qwq x y) (hs:Sim Γ C ρ E H a w) (hQ:∀ρ' a' w',Sim Γ C ρ' E' H' a' w'->Q .normal a' w'):
  (Code.region id ops true).wpIn (zey C.ro) 0 P Q a w:=by
 refine wpIn_region_any hm ?_;obtain⟨hlen,hget⟩:=zxc hc;have hlen2:=RunS.len _ _ _ _ _ _ hrun;obtain⟨r1,r2,r3⟩:=RunS.run cs its 0 E H E' H' hrun;have hs0:=(hs.drew { w with drawn:=w.drawn+1 } rfl ⟨rfl,rfl⟩).pad (zgi its);unfold qhu at hst;simp only[qU,List.all_eq_true]at hst;obtain⟨hback,happ⟩:=hst
 have hedge:∀(i:Nat) (o:Oper),ops[i]?=some o->∀e∈o.after,Region.binds .any e=true->e.on<i:=by
  intro i o ho e he hb
  have hmem:(o,i)∈ops.toList.zipIdx:=by
   rw[List.mem_zipIdx_iff_getElem?];simpa using ho
  have:=hback (o,i) hmem;simp only[Array.all_eq_true',xC,xQ,decide_eq_true_eq]at this;rcases this e he with h | h
  ·rw[hb]at h;simp at h
  ·exact h
 have hindep:∀(x i:Nat) (ox oi:COp) (ix ii:It),x<i->i<ops.size->cs[x]?=some ox->cs[i]?=some oi->its[x]?=some ix->its[i]?=some ii->ordB ops 5 x i=false->qqt (ox,ix) (oi,ii):=by
  intro x i ox oi ix ii hxi hi h1 h2 h3 h4 hord
  have hup:(x,i)∈qci ops:=by
   unfold qci;simp only[List.mem_flatMap,xH,List.mem_map,qP];exact⟨i,hi,x,⟨hxi,by simp[hord]⟩,rfl⟩
  have ha:=happ (x,i) hup;simp only[h1,h2]at ha;refine⟨ha,?_⟩;by_cases hl:ox.k.loud=true/\oi.k.loud=true
  ·have:(x,i)∈zlg ops cs:=by
    unfold zlg;simp only[qP,h1,h2];exact⟨hup,by simp[hl.1,hl.2]⟩
   exact hdyn (x,i) this ix ii h3 h4
  ·by_cases hx:ox.k.loud=true
   ·have hi':oi.k.loud=false:=by
     cases h:oi.k.loud
     ·rfl
     ·exact absurd ⟨hx,h⟩ hl
    obtain⟨e1,e2⟩:=RunS.quiet _ _ _ _ _ _ hrun i oi ii h2 h4 hi';simp only[e1,e2,keys];exact⟨λ_ _=>⟨by simp,by simp⟩,by simp⟩
   ·have hx':ox.k.loud=false:=by simpa using hx
    obtain⟨e1,e2⟩:=RunS.quiet _ _ _ _ _ _ hrun x ox ix h1 h3 hx';simp only[e1,e2,keys];exact⟨by simp,by simp⟩
 have main:∀(fuel:Nat) (listed:Array Bool) (rem:List (Nat×COp×It)) (ρ:Nat->RS) (E:Env) (X:Heap) (a:Act) (w:World),rem.length=fuel->listed.size=ops.size->
   rem.Pairwise (λx y=>x.1<y.1)->(∀x∈rem,x.1<ops.size/\cs[x.1]?=some x.2.1/\its[x.1]?=some x.2.2)->(∀i,i<ops.size->(listed.getD i true=false↔∃x∈rem,x.1=i))->
   (∀y o,ops[y]?=some o->listed.getD y false=true->∀e∈o.after,Region.binds .any e=true->listed.getD e.on false=true)->
   Run P Γ C.n0 rem E X E' H'->Sim Γ C ρ E X a w->(∀x∈rem,C.n0<=x.2.2.k/\x.2.2.k+x.2.2.c<=X.length/\∀j,x.2.2.k<=j->j<x.2.2.k+x.2.2.c->ρ j= .unborn)->
   rem.Pairwise (λx y=>x.2.2.k+x.2.2.c<=y.2.2.k)->wpAnyIn (zey C.ro) 0 P .any ops Q fuel listed a w:=by
  intro fuel
  induction fuel with
  |zero=>
   intro listed rem ρ E X a w hf hsz hsort hmem hlist hdc hrun hs hub hpw;have:rem=[]:=List.length_eq_zero_iff.1 hf;subst this;obtain⟨rfl,rfl⟩:=hrun;refine⟨?_,hQ _ _ _ hs⟩;unfold Region.ready;rw[List.filter_eq_nil_iff];intro i hi;simp only[xH]at hi
   have:listed.getD i true=true:=by
    cases h:listed.getD i true
    ·obtain⟨x,hx,_⟩:=(hlist i hi).1 h;simp at hx
    ·rfl
   simp[this]
  |succ fuel ih=>
   intro listed rem ρ E X a w hf hsz hsort hmem hlist hdc hrun hs hub hpw
   have lsame:∀i,i<ops.size->listed.getD i true=listed.getD i false:=by
    intro i hi;have:i<listed.size:=by omega
    simp[Array.getD_eq_getD_getElem?,this]
   refine⟨λhr=>?_,λi hi=>?_⟩
   ·exfalso;cases hrem:rem with
    |nil=>rw[hrem]at hf;simp at hf
    |cons x rest=>
     have hx:x∈rem:=by rw[hrem];simp
     obtain⟨hx1,hx2,hx3⟩:=hmem x hx;have hxo:∃o,ops[x.1]?=some o:=⟨ops[x.1],by simp[hx1]⟩
     obtain⟨o,ho⟩:=hxo
     have hin:x.1∈Region.ready .any ops listed:=by
      unfold Region.ready;rw[qP];refine⟨by simpa using hx1,?_⟩;rw[(hlist x.1 hx1).2 ⟨x,hx,rfl⟩,ho];simp only[Bool.not_false,Bool.true_and,qI,yQ,Array.all_eq_true'];intro e he;cases hb:Region.binds .any e
      ·simp
      ·simp only[Bool.not_true,Bool.false_or];have hlt:=hedge x.1 o ho e he hb;rw[<-lsame e.on (by omega)];cases hl:listed.getD e.on true
       ·obtain⟨y,hy,hy1⟩:=(hlist e.on (by omega)).1 hl;rw[hrem]at hy hsort;simp only[qB]at hy;rcases hy with rfl | hy
        ·omega
        ·have:=(List.pairwise_cons.1 hsort).1 y hy;omega
       ·rfl
     rw[hr]at hin;simp at hin
   ·unfold Region.ready at hi;rw[qP]at hi;obtain⟨hi1,hi2⟩:=hi;simp only[xH]at hi1;simp only[qU,xQ]at hi2;obtain⟨hi2,hi3⟩:=hi2;obtain⟨o,ho⟩:∃o,ops[i]?=some o:=⟨ops[i],by simp[hi1]⟩
    rw[ho]at hi3;simp only[qI,yQ,Array.all_eq_true']at hi3
    have hedges:∀e∈o.after,Region.binds .any e=true->listed.getD e.on false=true:=by
     intro e he hb;have:=hi3 e he;rw[hb]at this;simpa using this
    obtain⟨x,hx,hxi⟩:=(hlist i hi1).1 hi2;obtain⟨l1,l2,hsplit⟩:=List.append_of_mem hx;obtain⟨xi,co,it⟩:=x;simp only at hxi;subst hxi;obtain⟨_,hco,hit⟩:=hmem _ hx;simp only at hco hit;obtain⟨co',hco',hcop⟩:=hget xi o ho;rw[hco]at hco';simp at hco';subst hco'
    have hl1:∀y∈l1,qqt y.2 (co,it):=by
     intro y hy;obtain⟨yi,oy,iy⟩:=y;have hyr:(yi,oy,iy)∈rem:=by rw[hsplit];simp[hy]
     obtain⟨g1,g2,g3⟩:=hmem _ hyr;simp only at g1 g2 g3
     have hlt:yi<xi:=by
      rw[hsplit]at hsort;exact(List.pairwise_append.1 hsort).2.2 _ hy (xi,co,it) (by simp)
     refine hindep yi xi oy co iy it hlt hi1 g2 hco g3 hit ?_;cases hord:ordB ops 5 yi xi
     ·rfl
     ·exfalso;have h1:=zzp hdc 5 yi xi o ho hedges hord;rw[<-lsame yi g1,(hlist yi g1).2 ⟨_,hyr,rfl⟩]at h1;simp at h1
    rw[hsplit]at hrun;have hrun':=Run.front l1 E X hl1 hrun;obtain⟨hstp,hrest⟩:=hrun';obtain⟨hb1,hb2,hb3⟩:=hub _ hx;simp only at hb1 hb2 hb3;refine qwp ho hs hcop hstp hb1 hb2 hb3 ?_;intro ρ' v' w' hs' hstill
    have hsub:∀y,y∈l1++l2->y∈rem:=by
     intro y hy;rw[hsplit];simp only[qO,qB]at hy ⊢;rcases hy with h | h
     ·exact .inl h
     ·exact .inr (.inr h)
    have hsubl:(l1++l2).Sublist rem:=by rw[hsplit];exact List.Sublist.append_left (List.sublist_cons_self _ _) _
    have hne:∀y∈l1++l2,y.1≠xi:=by
     intro y hy e;rw[hsplit]at hsort;obtain⟨s1,s2,s3⟩:=List.pairwise_append.1 hsort;simp only[qO]at hy;rcases hy with hy | hy
     ·have:=s3 y hy (xi,co,it) (by simp);simp only at this;omega
     ·have:=(List.pairwise_cons.1 s2).1 y hy;simp only at this;omega
    have hgd:∀j (d:Bool),(listed.setIfInBounds xi true).getD j d=if j=xi then true else listed.getD j d:=by
     intro j d;have hxl:xi<listed.size:=by omega
     simp only[Array.getD_eq_getD_getElem?];by_cases e:j=xi
     ·subst e;simp[hxl]
     ·rw[if_neg e,Array.getElem?_setIfInBounds_ne (λh=>e h.symm)]
    refine ih (listed.setIfInBounds xi true) (l1++l2) ρ' _ _ _ w' ?_ (by simpa using hsz) (hsort.sublist hsubl) (λy hy=>hmem y (hsub y hy)) (λj hj=>?_) (λy oy hoy hly e he hb=>?_) hrest hs' (λy hy=>?_) (hpw.sublist hsubl)
    ·rw[hsplit]at hf;simp at hf ⊢;omega
    ·rw[hgd];by_cases e:j=xi
     ·subst e;simp only[if_true];constructor
      ·intro h;simp at h
      ·rintro⟨y,hy,rfl⟩;exact absurd rfl (hne y hy)
     ·rw[if_neg e,hlist j hj];constructor
      ·rintro⟨y,hy,rfl⟩;rw[hsplit]at hy;simp only[qO,qB]at hy;rcases hy with hy | rfl | hy
       ·exact⟨y,by simp[hy],rfl⟩
       ·exact absurd rfl e
       ·exact⟨y,by simp[hy],rfl⟩
      ·rintro⟨y,hy,rfl⟩;exact⟨y,hsub y hy,rfl⟩
    ·rw[hgd]at hly ⊢;by_cases e2:e.on=xi
     ·rw[if_pos e2]
     ·rw[if_neg e2];by_cases e3:y=xi
      ·subst e3;rw[ho]at hoy;simp at hoy;subst hoy;exact hedges e he hb
      ·rw[if_neg e3]at hly;exact hdc y oy hoy hly e he hb
    ·obtain⟨k1,k2,k3⟩:=hub y (hsub y hy);refine⟨k1,by rw[zjr];exact k2,λj hj1 hj2=>hstill j (k3 j hj1 hj2) ?_⟩;simp only[zgz,List.mem_range'_1];intro hj3
     have hdis:it.k+it.c<=y.2.2.k\/y.2.2.k+y.2.2.c<=it.k:=by
      rw[hsplit]at hpw;obtain⟨s1,s2,s3⟩:=List.pairwise_append.1 hpw;simp only[qO]at hy;rcases hy with hy | hy
      ·exact .inr (s3 y hy (xi,co,it) (by simp))
      ·exact .inl ((List.pairwise_cons.1 s2).1 y hy)
     omega
 refine main ops.size (Array.replicate ops.size false) (zip3 0 cs its) ρ E _ a _ (by rw[qqy _ _ _ hlen2,hlen]) (by simp) (zzo _ _ _) (λx hx=>?_) (λi hi=>?_) (λy o ho hl=>?_) r1 hs0 (λx hx=>?_) r2
 ·obtain⟨_,h2,h3⟩:=qcu cs its 0 x hx;simp only[Nat.sub_zero]at h2 h3;refine⟨?_,h2,h3⟩;rw[<-hlen];rcases qJ x.1 cs.length with h' | h'
  ·exact h'
  ·rw[qX h']at h2;simp at h2
 ·constructor
  ·intro _;have h1:i<cs.length:=by omega
   have h2:i<its.length:=by omega
   exact⟨_,qqz cs its 0 i cs[i] its[i] (by simp[h1]) (by simp[h2]),by simp⟩
  ·intro _;simp[Array.getD_eq_getD_getElem?,hi]
 ·exfalso;simp only[Array.getD_eq_getD_getElem?,Array.getElem?_replicate]at hl;split at hl<;>simp at hl
 ·obtain⟨h1,h2⟩:=r3 x hx;refine⟨xA hs.len h1,by simpa using h2,λj hj1 _=>hs.hok.unborn j (by omega)⟩
abbrev Post:=Exit->Env->Heap->Prop
def W(P:Program)(Γ:Glob)(n0 nt:Nat)(c:CC)(E:Env)(H:Heap)(Q:Post):Prop:=
 ∀code,zdo P Γ nt code=some c->∀(C:Ctx) (ρ:Nat->RS) (a:Act) (w:World),C.n0=n0->C.nt=nt->(C.ro=none\/c.flat=true)->Sim Γ C ρ E H a w->
  code.wpIn (zey C.ro) 0 P (λx a' w'=>∃E' H' ρ',Q x E' H'/\Sim Γ C ρ' E' H' a' w') a w
theorem qyy{x:Option Nat}{a b:Bool}(h:x=none\/(a && b)=true):x=none\/a=true:=h.imp id (λh=>(qU _ _ ▸ h).1)
theorem qyz{x:Option Nat}{a b:Bool}(h:x=none\/(a && b)=true):x=none\/b=true:=h.imp id (λh=>(qU _ _ ▸ h).2)
section
variable{P:Program}{Γ:Glob}{n0 nt:Nat}{c d:CC}{E:Env}{H:Heap}{Q R:Post}
theorem W.mono(h:W P Γ n0 nt c E H Q)(hq:∀x E' H',Q x E' H'->R x E' H'):W P Γ n0 nt c E H R:=
 λcode hc C ρ a w h1 h2 hfl hs=>wpIn_mono (h code hc C ρ a w h1 h2 hfl hs) (λ_ _ _ ⟨E',H',ρ',q,s⟩=>⟨E',H',ρ',hq _ _ _ q,s⟩)
theorem qiw(h:Q .normal E H):W P Γ n0 nt .skip E H Q:=by
 intro code hc C ρ a w _ _ _ hs;cases code<;>simp only[zdo]at hc<;>try (simp at hc;done)
 case skip=>exact wpIn_skip ⟨E,H,ρ,h,hs⟩
 all_goals (split at hc<;>try (simp at hc;done))
 all_goals (split at hc<;>try (simp at hc;done))
 all_goals (split at hc<;>simp at hc)
theorem jei(h:Q .ret E H):W P Γ n0 nt .ret E H Q:=by
 intro code hc C ρ a w _ _ _ hs;cases code<;>simp only[zdo]at hc<;>try (simp at hc;done)
 case ret=>exact wpIn_ret ⟨E,H,ρ,h,hs⟩
 all_goals (split at hc<;>try (simp at hc;done))
 all_goals (split at hc<;>try (simp at hc;done))
 all_goals (split at hc<;>simp at hc)
theorem qwr{id:Nat}(h:Q (.exit id) E H):W P Γ n0 nt (.exit id) E H Q:=by
 intro code hc C ρ a w _ _ _ hs;cases code<;>simp only[zdo]at hc<;>try (simp at hc;done)
 case exit id'=>simp at hc;subst hc;exact wpIn_exit ⟨E,H,ρ,h,hs⟩
 all_goals (split at hc<;>try (simp at hc;done))
 all_goals (split at hc<;>try (simp at hc;done))
 all_goals (split at hc<;>simp at hc)
theorem qix{l:Nat}(h:Q .normal E H):W P Γ n0 nt (.label l) E H Q:=by
 intro code hc C ρ a w _ _ _ hs;cases code<;>simp only[zdo]at hc<;>try (simp at hc;done)
 case label id'=>simp at hc;subst hc;exact wpIn_label ⟨E,H,ρ,h,hs⟩
 all_goals (split at hc<;>try (simp at hc;done))
 all_goals (split at hc<;>try (simp at hc;done))
 all_goals (split at hc<;>simp at hc)
theorem qws{l:Nat}(h:Q (.goto l) E H):W P Γ n0 nt (.goto l) E H Q:=by
 intro code hc C ρ a w _ _ _ hs;cases code<;>simp only[zdo]at hc<;>try (simp at hc;done)
 case goto id'=>simp at hc;subst hc;exact wpIn_goto ⟨E,H,ρ,h,hs⟩
 all_goals (split at hc<;>try (simp at hc;done))
 all_goals (split at hc<;>try (simp at hc;done))
 all_goals (split at hc<;>simp at hc)
def zep(k:Env->Heap->Prop)(Q:Post):Post:=λx E H=>match x with
 |.normal=>k E H
 |x=>Q x E H
theorem zki(h:W P Γ n0 nt c E H (zep (λE' H'=>W P Γ n0 nt d E' H' Q) Q)):W P Γ n0 nt (.seq c d) E H Q:=by
 intro code hc C ρ a w h1 h2 hfl hs;cases code<;>simp only[zdo]at hc<;>try (simp at hc;done)
 case seq x y=>
  split at hc
  ·rename_i cx cy hx hy;simp at hc;obtain⟨rfl,rfl⟩:=hc;refine wpIn_seq (wpIn_mono (h x hx C ρ a w h1 h2 (qyy hfl) hs) ?_);rintro e a' w' ⟨E',H',ρ',q,s⟩;cases e with
   |normal=>exact q y hy C ρ' a' w' h1 h2 (qyz hfl) s
   |_=>exact⟨E',H',ρ',q,s⟩
  ·simp at hc
 all_goals (split at hc<;>try (simp at hc;done))
 all_goals (split at hc<;>try (simp at hc;done))
 all_goals (split at hc<;>simp at hc)
theorem qiy{x:Opd}{t:Bool}(hx:val E x= .bool t)(ht:t=true->W P Γ n0 nt c E H Q)(hf:t=false->W P Γ n0 nt d E H Q):W P Γ n0 nt (.cond x c d) E H Q:=by
 intro code hc C ρ a w h1 h2 hfl hs;cases code<;>simp only[zdo]at hc<;>try (simp at hc;done)
 case cond x' y z=>
  split at hc
  ·rename_i cx cy cz hxx hy hz;simp at hc;obtain⟨rfl,rfl,rfl⟩:=hc;have hr:=zas hs.hok hs.env hxx;rw[hx]at hr;exact wpIn_cond_split (zex hr) (λe=>ht e y hy C ρ a w h1 h2 (qyy hfl) hs) (λe=>hf e z hz C ρ a w h1 h2 (qyz hfl) hs)
  ·simp at hc
 all_goals (split at hc<;>try (simp at hc;done))
 all_goals (split at hc<;>try (simp at hc;done))
 all_goals (split at hc<;>simp at hc)
theorem qfw{x:Opd}(hx:val E x= .anyb)(ht:W P Γ n0 nt c E H Q)(hf:W P Γ n0 nt d E H Q):W P Γ n0 nt (.cond x c d) E H Q:=by
 intro code hc C ρ a w h1 h2 hfl hs;cases code<;>simp only[zdo]at hc<;>try (simp at hc;done)
 case cond x' y z=>
  split at hc
  ·rename_i cx cy cz hxx hy hz;simp at hc;obtain⟨rfl,rfl,rfl⟩:=hc;have hr:=zas hs.hok hs.env hxx;rw[hx]at hr;obtain⟨b,hb⟩:=zts hr;exact wpIn_cond_split hb (λ_=>ht y hy C ρ a w h1 h2 (qyy hfl) hs) (λ_=>hf z hz C ρ a w h1 h2 (qyz hfl) hs)
  ·simp at hc
 all_goals (split at hc<;>try (simp at hc;done))
 all_goals (split at hc<;>try (simp at hc;done))
 all_goals (split at hc<;>simp at hc)
def znv(id:Nat)(Q:Post):Post:=λx E H=>match x with
 |.exit i=>if i=id then Q .normal E H else Q (.exit i) E H
 |x=>Q x E H
theorem zmu{id:Nat}(h:W P Γ n0 nt c E H (znv id Q)):W P Γ n0 nt (.block id c) E H Q:=by
 intro code hc C ρ a w h1 h2 hfl hs;cases code<;>simp only[zdo]at hc<;>try (simp at hc;done)
 case block id' x=>
  split at hc
  ·rename_i cx hx;simp at hc;obtain⟨rfl,rfl⟩:=hc;refine wpIn_block (wpIn_mono (h x hx C ρ a w h1 h2 hfl hs) ?_);rintro e a' w' ⟨E',H',ρ',q,s⟩;cases e with
   |exit i=>
    simp only[znv]at q;simp only[Exit.inBlock];split at q
    ·rename_i e1;rw[if_pos e1];exact⟨E',H',ρ',q,s⟩
    ·rename_i e1;rw[if_neg e1];exact⟨E',H',ρ',q,s⟩
   |_=>exact⟨E',H',ρ',q,s⟩
  ·simp at hc
 all_goals (split at hc<;>try (simp at hc;done))
 all_goals (split at hc<;>try (simp at hc;done))
 all_goals (split at hc<;>simp at hc)
def Weak(Γ:Glob)(n0:Nat)(E:Env)(H:Heap)(E':Env)(H':Heap):Prop:=
 ∀(C:Ctx) (ρ:Nat->RS) (a:Act) (w:World),C.n0=n0->Sim Γ C ρ E H a w->∃ρ',Sim Γ C ρ' E' H' a w
theorem Weak.refl:Weak Γ n0 E H E H:=λ_ ρ _ _ _ h=>⟨ρ,h⟩
theorem W.weak{E':Env}{H':Heap}(hw:Weak Γ n0 E H E' H')(h:W P Γ n0 nt c E' H' Q):W P Γ n0 nt c E H Q:=by
 intro code hc C ρ a w h1 h2 hfl hs;obtain⟨ρ',hs'⟩:=hw C ρ a w h1 hs;exact h code hc C ρ' a w h1 h2 hfl hs'
theorem zaj(I:Nat->Env->Heap->Prop){n:Nat}(h0:I n E H)
  (round:∀n E H,I n E H->W P Γ n0 nt c E H (zep (λE' H'=>∃m E2 H2,m<n/\I m E2 H2/\Weak Γ n0 E' H' E2 H2) Q)):W P Γ n0 nt (.loop c) E H Q:=by
 intro code hc C ρ a w h1 h2 hfl hs;cases code<;>simp only[zdo]at hc<;>try (simp at hc;done)
 case loop x=>
  split at hc
  ·rename_i cx hx;simp at hc;subst hc;intro b k cs hro hb hr
   have key:∀n E H ρ a w,I n E H->Sim Γ C ρ E H a w->
     ∃e a' w',(∃E' H' ρ',Q e E' H'/\Sim Γ C ρ' E' H' a' w')/\ArrivesIn (Machine.fenced P (zey C.ro)) P (lone (b.atR a (.code x:: .inLoop x::k)) cs w) b k cs e a' w':=by
    intro n
    induction n using Nat.strongRecOn with
    |_ n ih=>
     intro E H ρ a w hI hs;obtain⟨e,a₁,w₁,⟨E1,H1,ρ1,hq,hs1⟩,harr⟩:=round n E H hI x hx C ρ a w h1 h2 hfl hs b (.inLoop x::k) cs hro hb hr;cases e with
     |normal=>
      obtain⟨m,E2,H2,hlt,hI2,hw⟩:=hq;obtain⟨ρ2,hs2⟩:=hw C ρ1 a₁ w₁ h1 hs1;obtain⟨e₂,a₂,w₂,hq₂,harr₂⟩:=ih m hlt E2 H2 ρ2 a₁ w₁ hI2 hs2;exact⟨e₂,a₂,w₂,hq₂,.of_steps (StepsIn.trans harr (.one (fenced_calm hb hr rfl) stepR_inLoop)) harr₂⟩
     |exit id=>exact⟨_,a₁,w₁,⟨E1,H1,ρ1,hq,hs1⟩,.pass (x:= .inLoop x) rfl (λ_ _=> .inl (by simp)) harr⟩
     |goto l=>exact⟨_,a₁,w₁,⟨E1,H1,ρ1,hq,hs1⟩,.pass (x:= .inLoop x) rfl (λ_ _=> .inl (by simp)) harr⟩
     |ret=>exact⟨_,a₁,w₁,⟨E1,H1,ρ1,hq,hs1⟩,.pass (x:= .inLoop x) rfl (λ_ _=> .inl (by simp)) harr⟩
     |panic ch=>exact⟨_,a₁,w₁,⟨E1,H1,ρ1,hq,hs1⟩,.pass (x:= .inLoop x) rfl (λ_ _=> .inl (by simp)) harr⟩
     |outgrown=>exact⟨_,a₁,w₁,⟨E1,H1,ρ1,hq,hs1⟩,.pass (x:= .inLoop x) rfl (λ_ _=> .inl (by simp)) harr⟩
   obtain⟨e,a',w',hq,harr⟩:=key n E H ρ a w h0 hs;exact⟨e,a',w',hq,.of_steps (.one (fenced_calm hb hr rfl) stepR_loop) harr⟩
  ·simp at hc
 all_goals (split at hc<;>try (simp at hc;done))
 all_goals (split at hc<;>try (simp at hc;done))
 all_goals (split at hc<;>simp at hc)
theorem zzr{C:Ctx}{ops:Array Oper}{cs:List COp}{Q:Exit->Act->World->Prop}(hget:∀(j:Nat) (o:Oper),ops[j]?=some o->∃c,cs[j]?=some c/\qht P Γ C.nt ops o=some c)(hlen:cs.length=ops.size):
  ∀(n i:Nat) (its:List It) (ρ:Nat->RS) (E:Env) (H:Heap) (E':Env) (H':Heap) (a:Act) (w:World),i+n=ops.size->RunS P Γ C.n0 (cs.drop i) its E H E' H'->Sim Γ C ρ E H a w->
   (∀ρ' a' w',Sim Γ C ρ' E' H' a' w'->Q .normal a' w')->wpOpsIn (zey C.ro) 0 P ops Q (List.range' i n) a w:=by
 intro n
 induction n with
 |zero=>
  intro i its ρ E H E' H' a w hn hr hs hQ;have:cs.drop i=[]:=List.drop_eq_nil_of_le (by omega);rw[this]at hr;cases its with
  |nil=>obtain⟨rfl,rfl⟩:=hr;exact hQ ρ a w hs
  |cons it its=>exact hr.elim
 |succ n ih=>
  intro i its ρ E H E' H' a w hn hr hs hQ;have hi:i<cs.length:=by omega
  rw[List.drop_eq_getElem_cons hi]at hr;cases its with
  |nil=>exact hr.elim
  |cons it its=>
   obtain⟨h1,h2,h3⟩:=hr;have hio:i<ops.size:=by omega
   obtain⟨c',hc',hco⟩:=hget i ops[i] (by simp[hio]);rw[xU hi]at hc';simp at hc';subst hc';rw[xS,wpOpsIn_cons];have hsp:=hs.pad it.c;refine qwp (o:=ops[i]) (by simp[hio]) hsp hco h2 (by rw[h1];exact hs.len) (by simp;omega) (λj hj1 _=>hs.hok.unborn j (by omega)) ?_;intro ρ' v' w' hs' _;exact ih (i+1) its ρ' _ _ E' H' _ w' (by omega) h3 hs' hQ
theorem jej{cs:List COp}{dr:Option (List (Nat×Nat))}{its:List It}{E':Env}{H':Heap}(hm:P.follows .mixedOrders=true)(hrun:RunS P Γ n0 cs its E H E' H')
  (hd:∀l,dr=some l->∀p∈l,∀x y,its[p.1]?=some x->its[p.2]?=some y->qwq x y) (hQ:Q .normal E' H'):W P Γ n0 nt (.reg cs dr) E H Q:=by
 intro code hc C ρ a w h1 h2 hfl hs;cases code<;>simp only[zdo]at hc<;>try (simp at hc;done)
 case region id ops draw=>
  split at hc
  ·rename_i cs' hcs;subst h1 h2;split at hc
   ·rename_i hdraw;subst hdraw;split at hc
    ·rename_i hst;simp at hc;obtain⟨rfl,rfl⟩:=hc;exact zzq hm hcs hst hrun (hd _ rfl) hs (λρ' a' w' hs'=>⟨E',H',ρ',hQ,hs'⟩)
    ·simp at hc
   ·rename_i hdraw;have:draw=false:=by simpa using hdraw
    subst this;simp at hc;obtain⟨rfl,rfl⟩:=hc;obtain⟨hlen,hget⟩:=zxc hcs;refine wpIn_region ?_;rw[xD];exact zzr hget hlen ops.size 0 its ρ E H E' H' a w (by omega) (by simpa using hrun) hs (λρ' a' w' hs'=>⟨E',H',ρ',hQ,hs'⟩)
  ·simp at hc
 all_goals (split at hc<;>try (simp at hc;done))
