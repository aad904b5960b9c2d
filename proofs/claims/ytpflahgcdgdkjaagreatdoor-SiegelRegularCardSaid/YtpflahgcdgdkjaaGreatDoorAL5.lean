/- A part of the proof. -/
import Derived.Test.YtpflahgcdgdkjaaGreatDoorAL4
set_option linter.all false
namespace Go.AL
open Nat renaming le_of_add_le_add_left -> qQ, add_sub_cancel_left -> qX, add_left_cancel -> qZ
open Go
section runs
variable{P:Program}{w:World}
theorem zas{t:TypeId}{d:TypeDesc}(h:P.underlying t=some d):(underlying t).run P w= .ok d w:=by
 simp[underlying,program,Sem.run,h]
theorem znb{t:TypeId}{i:TypeInfo}(h:P.info? t=some i):(typeInfo t).run P w= .ok i w:=by
 simp[typeInfo,program,Sem.run,h]
theorem zcy{t:TypeId}{s:Nat}(h:szT P t=some s):(sizeOf t).run P w= .ok s w:=by
 unfold szT at h;cases hi:P.info? t with
 |none=>simp[hi]at h
 |some i=>simp[hi]at h;simp[sizeOf,znb hi,h]
theorem znr{t:TypeId}{b:Bool}(h:zqr P t=some b):(isAgg t).run P w= .ok b w:=by
 unfold zqr at h;cases hd:P.underlying t with
 |none=>simp[hd]at h
 |some d=>
  simp[hd]at h;subst h;cases d<;>simp[isAgg,zas hd]
theorem qui{a:Addr}{v:Value}(h:w.cell? a=some v):(load a).run P w= .ok v w:=by
 simp[load,Sem.run,h]
theorem jbu{a:Addr}{v u:Value}(h:w.cell? a=some u)(hf:w.frozen? a=false)(h1:∀cs,v≠ .agg cs)(h2:∀vs,v≠ .tuple vs):
  (store a v).run P w= .ok () (w.setCell a v):=by
 cases v<;>first | exact absurd rfl (h1 _) | exact absurd rfl (h2 _) | simp[store,Sem.run,h,hf]
theorem zei(b off n:Nat):(⟨b,off,none⟩:Addr).add n=⟨b,off+n,none⟩:=by
 unfold Addr.add;split
 ·rename_i h;subst h;rfl
 ·rfl
theorem zln{b off:Nat}{vs:Nat->Value}:∀(n i:Nat) (acc:Array Value),
  (∀j,i<=j->j<i+n->w.cell? ⟨b,off+j,none⟩=some (vs j))->
  (loadCellsFrom ⟨b,off,none⟩ i n acc).run P w= .ok (acc++((List.range' i n).map vs).toArray) w:=by
 intro n
 induction n with
 |zero=>intro i acc _;simp[loadCellsFrom]
 |succ n ih=>
  intro i acc h;simp only[loadCellsFrom,Sem.run_bind,zei];rw[qui (h i (Nat.le_refl _) (by omega))];simp only[Result.andThen_ok];rw[ih (i+1) _ (λj h1 h2=>h j (by omega) (by omega))];simp[List.range'_succ]
theorem zkc{b off n:Nat}{vs:Nat->Value}(h:∀j,j<n->w.cell? ⟨b,off+j,none⟩=some (vs j)):
  (loadCells ⟨b,off,none⟩ n).run P w= .ok ((List.range n).map vs).toArray w:=by
 unfold loadCells;rw[zln n 0 #[] (λj _ h2=>h j (by omega))];simp[List.range_eq_range']
end runs
section inversions
variable{w:World}{M:Nat->Prop}{ρ:Nat->RS}
theorem zbt{k:IntKind}{n:Int}{v:Value}(h:Rep w M ρ (.int k n) v):v= .int k n:=by
 cases h with | imm _ _ h=>cases h;rfl
theorem zej{b:Bool}{v:Value}(h:Rep w M ρ (.bool b) v):v= .bool b:=by
 cases h with | imm _ _ h=>cases h;rfl
theorem zsk{v:Value}(h:Rep w M ρ .anyb v):∃b,v= .bool b:=by
 cases h with | imm _ _ h=>cases h;exact⟨_,rfl⟩
theorem zjj{s:ByteArray}{v:Value}(h:Rep w M ρ (.str s) v):v= .string s:=by
 cases h with | imm _ _ h=>cases h;rfl
theorem zsl{id off:Nat}{v:Value}(h:Rep w M ρ (.ptr id off) v):∃b,v= .pointer (some ⟨b,off,none⟩)/\((ρ id= .here b/\∃x,w.shape? b=some x)\/ρ id= .dead):=by
 cases h with
 |imm _ _ h=>cases h
 |ptrDead _ _ b h=>exact⟨b,rfl,.inr h⟩
 |ptrAt _ _ b h hs=>exact⟨b,rfl,.inl ⟨h,hs⟩⟩
theorem zns{id off:Nat}{v:Value}(h:Rep w M ρ (.ptr id off) v):∃b,v= .pointer (some ⟨b,off,none⟩)/\(ρ id= .here b\/ρ id= .dead):=by
 obtain⟨b,h1,h2⟩:=zsl h;exact⟨b,h1,h2.imp (λx=>x.1) (λx=>x)⟩
theorem zgu{cs:List AV}{p:Nat}{v:Value}(h:Rep w M ρ (.iptr cs p) v):
  ∃(b off:Nat) (vs:Nat->Value),v= .pointer (some ⟨b,off+p,none⟩)/\(cs≠[]->¬M b)/\(∀j,j<cs.length->w.cell? ⟨b,off+j,none⟩=some (vs j))/\
   ∀(j:Nat) (a:AV),cs[j]?=some a->IRep w M a (vs j):=by
 cases h with
 |imm _ _ h=>cases h with | iptr _ _ b off vs h1 h2 h3=>exact⟨b,off,vs,rfl,h1,h2,h3⟩
theorem zlo{cs:List AV}{v:Value}(h:Rep w M ρ (.agg cs) v):
  ∃vs:Array Value,v= .agg vs/\vs.size=cs.length/\∀(j:Nat) (a:AV) (v:Value),cs[j]?=some a->vs[j]?=some v->Rep w M ρ a v:=by
 cases h with
 |imm _ _ h=>cases h with | agg _ vs hl hr=>exact⟨vs,rfl,hl,λj a v h1 h2=> .imm _ _ (hr j a v h1 h2)⟩
 |agg _ vs hl hr=>exact⟨vs,rfl,hl,hr⟩
theorem zsm{cs:List AV}{v:Value}(h:Rep w M ρ (.tup cs) v):
  ∃vs:Array Value,v= .tuple vs/\vs.size=cs.length/\∀(j:Nat) (a:AV) (v:Value),cs[j]?=some a->vs[j]?=some v->Rep w M ρ a v:=by
 cases h with
 |imm _ _ h=>cases h with | tup _ vs hl hr=>exact⟨vs,rfl,hl,λj a v h1 h2=> .imm _ _ (hr j a v h1 h2)⟩
 |tup _ vs hl hr=>exact⟨vs,rfl,hl,hr⟩
theorem noF1{a:Nat}{p:Prop}(h:65536+a<65536):p:=absurd h (by omega)
theorem noF2{p:Prop}(h:131072<65536):p:=absurd h (by omega)
theorem noF3{p:Prop}(h:131073<65536):p:=absurd h (by omega)
theorem noF4{p:Prop}(h:131074<65536):p:=absurd h (by omega)
theorem noF9{p:Prop}(h:131075<65536):p:=absurd h (by omega)
theorem qwa{p:Prop}(h:69631<65536):p:=absurd h (by omega)
theorem jey{p:Prop}(h:131072<=69631):p:=absurd h (by omega)
theorem jbv{p:Prop}(h:131075<131072):p:=absurd h (by omega)
theorem noF5{a:Nat}{p:Prop}(h:a<65536)(h':65536<=a):p:=absurd h (by omega)
theorem noF6{a:Nat}{p:Prop}(h:131072<131072):p:=absurd h (by omega)
theorem noF7{a:Nat}{p:Prop}(h:131073<131072):p:=absurd h (by omega)
theorem noF8{a:Nat}{p:Prop}(h:131074<131072):p:=absurd h (by omega)
theorem qwb{f:FuncId}{cs:List AV}{v:Value}(h:Rep w M ρ (.clo f cs) v)(hf:f<65536):
  ∃vs:Array Value,v= .func (.func f) #[] vs/\vs.size=cs.length/\∀(j:Nat) (a:AV) (v:Value),cs[j]?=some a->vs[j]?=some v->Rep w M ρ a v:=by
 cases h with
 |imm _ _ h=>
  cases h with
  |clo _ _ vs hf' hl hr=>exact⟨vs,rfl,hl,λj a v h1 h2=> .imm _ _ (hr j a v h1 h2)⟩
  |bnd f' _ vs hf' hl hr=>exact noF1 hf
  |nilp=>exact noF2 hf
  |nilf=>exact noF3 hf
 |clo _ _ vs hf' hl hr=>exact⟨vs,rfl,hl,hr⟩
 |bnd f' _ vs hf' hl hr=>exact noF1 hf
 |mapDead=>exact noF4 hf
 |mapAt=>exact noF4 hf
 |ydDead=>exact noF9 hf
 |ydAt=>exact noF9 hf
 |ydF=>exact qwa hf
theorem qwc{f:FuncId}{cs:List AV}{v:Value}(h:Rep w M ρ (.clo f cs) v)(hf:65536<=f)(hf':f<131072)(hne:f≠69631):
  ∃vs:Array Value,v= .func (.func (f-65536)) vs #[]/\vs.size=cs.length/\∀(j:Nat) (a:AV) (v:Value),cs[j]?=some a->vs[j]?=some v->Rep w M ρ a v:=by
 cases h with
 |imm _ _ h=>
  cases h with
  |clo _ _ vs hf2 hl hr=>exact noF5 hf2 hf
  |bnd f' _ vs hf2 hl hr=>exact⟨vs,by rw[qX],hl,λj a v h1 h2=> .imm _ _ (hr j a v h1 h2)⟩
  |nilp=>exact noF6 (a:=0) hf'
  |nilf=>exact noF7 (a:=0) hf'
 |clo _ _ vs hf2 hl hr=>exact noF5 hf2 hf
 |bnd f' _ vs hf2 hl hr=>exact⟨vs,by rw[qX],hl,hr⟩
 |mapDead=>exact noF8 (a:=0) hf'
 |mapAt=>exact noF8 (a:=0) hf'
 |ydDead=>exact jbv hf'
 |ydAt=>exact jbv hf'
 |ydF=>exact absurd rfl hne
theorem zya{f:FuncId}{cs:List AV}{v:Value}(h:Rep w M ρ (.clo f cs) v)(hf:131072<=f):
  (f=131072/\v= .pointer none)\/(f=131073/\v= .nilFunc)\/(f=131074/\∃id b,cs=[.ptr id 0]/\v= .map (some b)/\((ρ id= .here b/\w.shape? b=none)\/ρ id= .dead))\/
  (f=131075/\∃id b,cs=[.ptr id 0]/\v= .func (.yield b) #[] #[]/\((ρ id= .here b/\w.shape? b=none)\/ρ id= .dead)):=by
 cases h with
 |imm _ _ h=>
  cases h with
  |clo _ _ vs hf2 hl hr=>exact noF5 hf2 (Nat.le_trans (by decide) hf)
  |bnd f' _ vs hf2 hl hr=>exact noF5 hf2.1 (qQ (a:=65536) hf)
  |nilp=>exact .inl ⟨rfl,rfl⟩
  |nilf=>exact .inr (.inl ⟨rfl,rfl⟩)
 |clo _ _ vs hf2 hl hr=>exact noF5 hf2 (Nat.le_trans (by decide) hf)
 |bnd f' _ vs hf2 hl hr=>exact noF5 hf2.1 (qQ (a:=65536) hf)
 |mapDead id b h=>exact .inr (.inr (.inl ⟨rfl,id,b,rfl,rfl,.inr h⟩))
 |mapAt id b h hs=>exact .inr (.inr (.inl ⟨rfl,id,b,rfl,rfl,.inl ⟨h,hs⟩⟩))
 |ydDead id b h=>exact .inr (.inr (.inr ⟨rfl,id,b,rfl,rfl,.inr h⟩))
 |ydAt id b h hs=>exact .inr (.inr (.inr ⟨rfl,id,b,rfl,rfl,.inl ⟨h,hs⟩⟩))
 |ydF=>exact jey hf
theorem qol{cs:List AV}{v:Value}(h:Rep w M ρ (.clo 131072 cs) v):v= .pointer none:=by
 rcases zya h (Nat.le_refl _)with⟨_,h⟩ | ⟨h,_⟩ | ⟨h,_⟩ | ⟨h,_⟩
 ·exact h
 ·exact absurd h (by decide)
 ·exact absurd h (by decide)
 ·exact absurd h (by decide)
theorem qwd{id:Nat}{v:Value}(h:Rep w M ρ (.clo 131074 [.ptr id 0]) v):∃b,v= .map (some b)/\((ρ id= .here b/\w.shape? b=none)\/ρ id= .dead):=by
 rcases zya h (by decide)with⟨h,_⟩ | ⟨h,_⟩ | ⟨_,i,b,e,h1,h2⟩ | ⟨h,_⟩
 ·exact absurd h (by decide)
 ·exact absurd h (by decide)
 ·simp at e;subst e;exact⟨b,h1,h2⟩
 ·exact absurd h (by decide)
theorem quj{id:Nat}{v:Value}(h:Rep w M ρ (.clo 131075 [.ptr id 0]) v):∃b,v= .func (.yield b) #[] #[]/\((ρ id= .here b/\w.shape? b=none)\/ρ id= .dead):=by
 rcases zya h (by decide)with⟨h,_⟩ | ⟨h,_⟩ | ⟨h,_⟩ | ⟨_,i,b,e,h1,h2⟩
 ·exact absurd h (by decide)
 ·exact absurd h (by decide)
 ·exact absurd h (by decide)
 ·simp at e;subst e;exact⟨b,h1,h2⟩
theorem qwe{cs:List AV}{v:Value}(h:Rep w M ρ (.clo 69631 cs) v):∃id,cs=[.clo 131075 [.ptr id 0]]/\Rep w M ρ (.clo 131075 [.ptr id 0]) v:=by
 generalize ha:AV.clo 69631 cs=a at h;cases h with
 |imm _ _ h=>
  cases h with
  |clo f _ vs hf=>exact qwa (by rw[(AV.clo.inj ha).1];exact hf)
  |bnd f _ vs hf=>exact absurd (qZ (show 65536+4095=65536+f from(AV.clo.inj ha).1)).symm hf.2
  |_=>simp at ha
 |clo f _ vs hf=>exact qwa (by rw[(AV.clo.inj ha).1];exact hf)
 |bnd f _ vs hf=>exact absurd (qZ (show 65536+4095=65536+f from(AV.clo.inj ha).1)).symm hf.2
 |ydF id _ h=>exact⟨id,(AV.clo.inj ha).2,h⟩
 |_=>simp at ha
theorem qba{f:FuncId}{cs:List AV}{v:Value}(h:Rep w M ρ (.clo f cs) v):v.cells= #[v]/\(∀l,v≠ .agg l)/\∀l,v≠ .tuple l:=by
 cases h with
 |imm _ _ h=>cases h<;>exact⟨rfl,by simp,by simp⟩
 |ydF id _ h=>
  obtain⟨b,rfl,_⟩:=quj h;exact⟨rfl,by simp,by simp⟩
 |_=>exact⟨rfl,by simp,by simp⟩
theorem zez{id off n sz:Nat}{c:Option Nat}{v:Value}(h:Rep w M ρ (.sl id off n sz c) v):
  ∃b cap,v= .slice (some ⟨b,off,none⟩) n cap/\n<=cap/\(∀k,c=some k->cap=k)/\
   (ρ id= .dead\/(ρ id= .here b/\∃el m,w.shape? b=some (el,m)/\off+cap*sz<=m)):=by
 cases h with
 |imm _ _ h=>cases h
 |slDead _ _ _ _ _ b cap h hn hc=>exact⟨b,cap,rfl,hn,hc,.inl h⟩
 |slAt _ _ _ _ _ b cap el m h hs hn hc hm=>exact⟨b,cap,rfl,hn,hc,.inr ⟨h,el,m,hs,hm⟩⟩
theorem zfi{cs:List AV}{n:Nat}{c:Option Nat}{v:Value}(h:Rep w M ρ (.vec cs n c) v):
  (∃p,v= .slice p 0 0/\cs=[]/\n=0/\(∀k,c=some k->k=0))\/
  ∃(b off cap:Nat) (vs:Nat->Value),v= .slice (some ⟨b,off,none⟩) n cap/\(cs≠[]->¬M b)/\(∀j,j<cs.length->w.cell? ⟨b,off+j,none⟩=some (vs j))/\
   (∀(j:Nat) (a:AV),cs[j]?=some a->IRep w M a (vs j))/\n<=cap/\(∀k,c=some k->cap=k):=by
 cases h with
 |imm _ _ h=>cases h with
  |nil p c hc=>exact .inl ⟨p,rfl,rfl,rfl,hc⟩
  |vec _ _ _ b off cap vs h1 h2 h3 h4 h5=>exact .inr ⟨b,off,cap,vs,rfl,h1,h2,h3,h4,h5⟩
theorem znt{a:AV}{v:Value}(h:Rep w M ρ a v)(hf:a.firm=true):
  v.cells.size=a.cells.length/\∀(j:Nat) (x:AV),a.cells[j]?=some x->∃u,v.cells[j]?=some u/\Rep w M ρ x u:=by
 have one:∀(a:AV) (v:Value),Rep w M ρ a v->a.cells=[a]->v.cells= #[v]->
   v.cells.size=a.cells.length/\∀(j:Nat) (x:AV),a.cells[j]?=some x->∃u,v.cells[j]?=some u/\Rep w M ρ x u:=by
  intro a v h h1 h2;rw[h1,h2];refine⟨rfl,λj x hx=>?_⟩;cases j with
  |zero=>simp at hx;subst hx;exact⟨v,rfl,h⟩
  |succ j=>simp at hx
 cases a with
 |agg cs=>
  obtain⟨vs,rfl,hl,hr⟩:=zlo h;refine⟨hl,λj x hx=>?_⟩
  have hj:j<vs.size:=by
   rw[hl];rcases Nat.lt_or_ge j cs.length with h' | h'
   ·exact h'
   ·simp[AV.cells,List.getElem?_eq_none h']at hx
  exact⟨vs[j],by simp[Value.cells,hj],hr j x _ hx (by simp[hj])⟩
 |tup vs=>simp[AV.firm]at hf
 |junk=>simp[AV.firm]at hf
 |bool b=>have:=zej h;subst this;exact one _ _ h rfl rfl
 |int k n=>have:=zbt h;subst this;exact one _ _ h rfl rfl
 |str s=>have:=zjj h;subst this;exact one _ _ h rfl rfl
 |anyb=>obtain⟨b,rfl⟩:=zsk h;exact one _ _ h rfl rfl
 |ptr id off=>obtain⟨b,rfl,_⟩:=zns h;exact one _ _ h rfl rfl
 |iptr cs p=>obtain⟨b,off,vs,rfl,_⟩:=zgu h;exact one _ _ h rfl rfl
 |clo f cs=>exact one _ _ h rfl (qba h).1
 |sl id off n sz c=>obtain⟨b,cap,rfl,_⟩:=zez h;exact one _ _ h rfl rfl
 |vec cs n c=>
  rcases zfi h with⟨p,rfl,_⟩ | ⟨b,off,cap,vs,rfl,_⟩
  ·exact one _ _ h rfl rfl
  ·exact one _ _ h rfl rfl
theorem qom{a:AV}{v:Value}(h:Rep w M ρ a v)(hs:a.scal=true):(∀cs,v≠ .agg cs)/\∀vs,v≠ .tuple vs:=by
 cases a with
 |agg cs=>simp[AV.scal]at hs
 |tup vs=>simp[AV.scal]at hs
 |junk=>simp[AV.scal]at hs
 |bool b=>have:=zej h;subst this;simp
 |int k n=>have:=zbt h;subst this;simp
 |str s=>have:=zjj h;subst this;simp
 |anyb=>obtain⟨b,rfl⟩:=zsk h;simp
 |ptr id off=>obtain⟨b,rfl,_⟩:=zns h;simp
 |iptr cs p=>obtain⟨b,off,vs,rfl,_⟩:=zgu h;simp
 |clo f cs=>exact(qba h).2
 |sl id off n sz c=>obtain⟨b,cap,rfl,_⟩:=zez h;simp
 |vec cs n c=>
  rcases zfi h with⟨p,rfl,_⟩ | ⟨b,off,cap,vs,rfl,_⟩<;>simp
end inversions
theorem zce{H:Heap}{id:Nat}{cs:List AV}(h:getB H id=some cs):H[id]?=some (some cs):=by
 unfold getB at h;split at h
 ·rename_i cs' h';simp at h;subst h;exact h'
 ·simp at h
theorem HOK.at'{Γ:Glob}{w:World}{F:Nat->Prop}{ρ:Nat->RS}{H:Heap}(h:HOK Γ w F ρ H){id:Nat}{cs:List AV}(hg:getB H id=some cs):∃b,ρ id= .here b/\zll Γ w (Mu F ρ) ρ cs b:=by
 have h1:=zce hg;obtain⟨b,hb⟩:=h.alive id cs h1;obtain⟨cs',h2,h3⟩:=h.blk id b hb;rw[h1]at h2;simp at h2;subst h2;exact⟨b,hb,h3⟩
theorem HOK.at{Γ:Glob}{w:World}{F:Nat->Prop}{ρ:Nat->RS}{H:Heap}(h:HOK Γ w F ρ H){id:Nat}{cs:List AV}(hg:getB H id=some cs)(hsh:∀b,ρ id= .here b->∃x,w.shape? b=some x):
  ∃b el m,ρ id= .here b/\w.shape? b=some (el,m)/\cs.length<=m/\(∀j,w.frozen? ⟨b,j,none⟩=false)/\
   ∀(j:Nat) (a:AV),cs[j]?=some a->∃v,w.cell? ⟨b,j,none⟩=some v/\Rep w (Mu F ρ) ρ a v:=by
 obtain⟨b,hb,h3⟩:=h.at' hg;obtain⟨el,m,h3,h4,h5,h6⟩:=h3.cells (hsh b hb);exact⟨b,el,m,hb,h3,h4,h5,h6⟩
theorem qgy{w:World}{M:Nat->Prop}{ρ:Nat->RS}{id off:Nat}{v:Value}(h:Rep w M ρ (.ptr id off) v):∀b,ρ id= .here b->∃x,w.shape? b=some x:=by
 intro b hb;obtain⟨b',_,h2⟩:=zsl h;rcases h2 with⟨h2,h3⟩ | h2
 ·rw[hb]at h2;simp at h2;subst h2;exact h3
 ·rw[hb]at h2;simp at h2
theorem qdz{w:World}{M:Nat->Prop}{ρ:Nat->RS}{id off n sz:Nat}{c:Option Nat}{v:Value}(h:Rep w M ρ (.sl id off n sz c) v):∀b,ρ id= .here b->∃x,w.shape? b=some x:=by
 intro b hb;obtain⟨b',cap,_,_,_,h2⟩:=zez h;rcases h2 with h2 | ⟨h2,el,m,h3,_⟩
 ·rw[hb]at h2;simp at h2
 ·rw[hb]at h2;simp at h2;subst h2;exact⟨_,h3⟩
theorem zhp{v:Value}{a:AV}(w:World)(M:Nat->Prop)(h:zim v=some a):IRep w M a v:=by
 unfold zim at h;split at h<;>simp at h<;>subst h
 ·exact .bool _
 ·exact .int _ _
 ·exact .str _
 ·exact .nil none _ (by intro k hk;simp at hk;exact hk.symm)
 ·exact .nilp
 ·exact .nilf
theorem zgv{α β:Type}{f:α->Option β}:∀{l:List α} {r:List β},l.mapM f=some r->r.length=l.length/\∀(j:Nat) (x:α),l[j]?=some x->∃y,r[j]?=some y/\f x=some y:=by
 intro l
 induction l with
 |nil=>intro r h;simp at h;subst h;simp
 |cons x l ih=>
  intro r h;rw[List.mapM_cons]at h;cases hx:f x with
  |none=>simp[hx]at h
  |some y=>
   cases hl:l.mapM f with
   |none=>simp[hx,hl]at h
   |some r'=>
    simp[hx,hl]at h;subst h;obtain⟨h1,h2⟩:=ih hl;refine⟨by simp[h1],λj z hz=>?_⟩;cases j with
    |zero=>simp at hz;subst hz;exact⟨y,rfl,hx⟩
    |succ j=>exact h2 j z (by simpa using hz)
theorem znu{v:Value}{a:AV}(w:World)(M:Nat->Prop)(h:ofV v=some a):IRep w M a v:=by
 cases v with
 |agg cs=>
  simp only[ofV]at h;cases hm:cs.toList.mapM zim with
  |none=>simp[hm]at h
  |some l=>
   simp[hm]at h;subst h;obtain⟨h1,h2⟩:=zgv hm;refine .agg l cs (by simp[h1]) (λj a v hj hv=>?_);obtain⟨y,hy,hy'⟩:=h2 j v (by simpa using hv);rw[hj]at hy;simp at hy;subst hy;exact zhp w M hy'
 |_=>exact zhp w M h
theorem zaj{Γ:Glob}{w:World}{F:Nat->Prop}{ρ:Nat->RS}{H:Heap}(ho:HOK Γ w F ρ H){E:Env}{a:Act}
  (he:∀t,Rep w (Mu F ρ) ρ (E t) (a.tmps.getD t undef)) {x:Operand} {y:Opd} (h:cOpd Γ x=some y):
  Rep w (Mu F ρ) ρ (val E y) (a.eval x):=by
 cases x with
 |tmp t=>simp[cOpd]at h;subst h;exact he t
 |const v=>
  simp only[cOpd]at h;cases hv:ofV v with
  |none=>simp[hv]at h
  |some b=>simp[hv]at h;subst h;exact .imm _ _ (znu w _ hv)
 |global g=>
  simp only[cOpd]at h;cases hg:Γ.globs.find? (λx=>x.1 == g)with
  |none=>simp[hg]at h
  |some p=>
   simp[hg]at h;subst h;have h1:=List.mem_of_find?_eq_some hg;have h2:=List.find?_some hg;simp at h2;refine .imm _ _ ?_;have:=ho.glob p.1 p.2 h1;rw[h2]at this;exact this
 |func f=>
  simp only[cOpd]at h;split at h
  ·rename_i hf;simp at h;subst h;exact .imm _ _ (.clo f [] #[] hf rfl (by intro j a v hj;simp at hj))
  ·simp at h
