/- A part of the proof. -/
import Derived.Test.YtbjdfanphdfkdaaGreatDoorPC
import Derived.KernelRfl
set_option linter.all false
open Nat renaming eq_of_beq_eq_true -> qX, lt_or_ge -> qV, ble_eq -> qU, zero_add -> qM, beq_refl -> qN, succ_eq_add_one -> qP, le_refl -> qT, le_of_not_lt -> xC, zero_le -> xD
open Bool renaming and_eq_true -> qZ, not_eq_true' -> qC, false_eq_true -> qS, eq_iff_iff -> xJ, or_eq_true -> xE
open List renaming getElem?_eq_none -> qJ, getD_eq_getElem?_getD -> qW, getElem?_map -> qA, all_eq_true -> qE, mapM_cons -> qG, getElem?_append_left -> qH, all_cons -> qI, mem_cons_of_mem -> qO, map_cons -> xQ, getElem?_toArray -> xW, mem_of_getElem? -> xV, getElem?_take -> xY, map_map -> xU, length_cons -> xA, length_take -> xB, foldl_cons -> xG
open Option.some renaming injEq -> qK
open Option renaming map_eq_some_iff -> qY, bind_eq_some_iff -> qL, getD_none -> xX, map_some -> xK
open Int renaming negSucc_eq -> qB, ofNat_eq_natCast -> qD, natCast_mul -> xZ
namespace Go.AL
open Go
inductive BT(α:Type) where
 |lf
 |nd (v:α) (l r:BT α)
section
variable{α:Type}
def BT.get(d:α):BT α->Nat->α
 |.lf,_=>d
 |.nd v l r,n=>match n with
  |0=>v
  |n+1=>match n%2 with
   |0=>l.get d (n/2)
   |_+1=>r.get d (n/2)
def BT.one(d:α)(x:α):Nat->Nat->BT α
 |0,_=> .lf
 |f+1,n=>match n with
  |0=> .nd x .lf .lf
  |n+1=>match n%2 with
   |0=> .nd d (one d x f (n/2)) .lf
   |_+1=> .nd d .lf (one d x f (n/2))
def BT.set(d:α)(x:α):BT α->Nat->BT α
 |.lf,n=>BT.one d x (n+1) n
 |.nd v l r,n=>match n with
  |0=> .nd x l r
  |n+1=>match n%2 with
   |0=> .nd v (l.set d x (n/2)) r
   |_+1=> .nd v l (r.set d x (n/2))
theorem BT.get_one(d x:α):∀(f n m:Nat),n<f->(BT.one d x f n).get d m=if m=n then x else d:=by
 intro f
 induction f with
 |zero=>intro n m h;omega
 |succ f ih=>
  intro n m h;cases n with
  |zero=>cases m with
   |zero=>simp[BT.one,BT.get]
   |succ m=>simp only[BT.one,BT.get];split<;>simp[BT.get]
  |succ n=>
   cases m with
   |zero=>simp only[BT.one];split<;>simp[BT.get]
   |succ m=>
    simp only[BT.one];split
    ·rename_i h1;simp only[BT.get];split
     ·rename_i h2;rw[ih _ _ (by omega)];congr 1;apply propext;omega
     ·rename_i h2;rw[if_neg (by omega)]
    ·rename_i k h1;simp only[BT.get];split
     ·rename_i h2;rw[if_neg (by omega)]
     ·rename_i h2;rw[ih _ _ (by omega)];congr 1;apply propext;omega
theorem BT.get_set(d x:α):∀(t:BT α) (n m:Nat),(t.set d x n).get d m=if m=n then x else t.get d m:=by
 intro t
 induction t with
 |lf=>intro n m;simp only[BT.set];rw[BT.get_one _ _ _ _ _ (by omega)];simp[BT.get]
 |nd v l r ihl ihr=>
  intro n m;cases n with
  |zero=>cases m with
   |zero=>simp[BT.set,BT.get]
   |succ m=>simp[BT.set,BT.get]
  |succ n=>
   cases m with
   |zero=>simp only[BT.set];split<;>simp[BT.get]
   |succ m=>
    simp only[BT.set];split
    ·rename_i h1;simp only[BT.get];split
     ·rename_i h2;rw[ihl];congr 1;apply propext;omega
     ·rename_i h2;rw[if_neg (by omega)]
    ·rename_i k h1;simp only[BT.get];split
     ·rename_i h2;rw[if_neg (by omega)]
     ·rename_i h2;rw[ihr];congr 1;apply propext;omega
def BT.all(p:Nat->α->Prop):BT α->Prop
 |.lf=>True
 |.nd v l r=>p 0 v/\l.all (λn=>p (2*n+1))/\r.all (λn=>p (2*n+2))
end
abbrev ET:=BT AV
def BT.env(E:ET):Env:=λn=>E.get .junk n
def ET.setO(E:ET):Option Nat->AV->ET
 |none,_=>E
 |some d,v=>E.set .junk v d
theorem env_setO(E:ET)(d:Option Nat)(v:AV):(ET.setO E d v).env=updO E.env d v:=by
 cases d with
 |none=>rfl
 |some d=>funext t;simp only[ET.setO,BT.env,BT.get_set,updO,upd]
abbrev CRes:=AV×Eff×List Nat×Nat
abbrev qlg:=FuncId->List AV->Heap->Option CRes
def padH(H:Heap):Nat->Heap
 |0=>H
 |c+1=>H++List.replicate (c+1) none
theorem ztr(H:Heap)(c:Nat):padH H c=H++List.replicate c none:=by cases c<;>simp[padH]
def AV.ids:AV->List Nat
 |.sl id _ _ _ _=>[id]
 |.ptr id _=>[id]
 |.agg cs=>idsL cs
 |.tup cs=>idsL cs
 |.clo _ cs=>idsL cs
 |_=>[]
 where idsL:List AV->List Nat
 | []=>[]
 |a::r=>a.ids++idsL r
def hasN:List Nat->Nat->Bool
 | [],_=>false
 |x::r,i=>match Nat.beq x i with
  |true=>true
  |false=>hasN r i
theorem zts:∀(l:List Nat) (i:Nat),hasN l i=true->i∈l:=by
 intro l i
 induction l with
 |nil=>intro h;simp[hasN]at h
 |cons x r ih=>
  intro h;simp only[hasN]at h;split at h
  ·rename_i e;have:=qX e;subst this;simp
  ·exact qO _ (ih h)
def AV.inn(l:List Nat):AV->Bool
 |.sl id _ _ _ _=>hasN l id
 |.ptr id _=>hasN l id
 |.agg cs=>innL l cs
 |.tup cs=>innL l cs
 |.clo _ cs=>innL l cs
 |_=>true
 where innL (l:List Nat):List AV->Bool
 | []=>true
 |a::r=>a.inn l && innL l r
def pos:List Nat->Nat->Nat
 | [],_=>0
 |x::r,i=>if x=i then 0 else pos r i+1
theorem ztt:∀(l:List Nat) (i:Nat),i∈l->∃h:pos l i<l.length,l[pos l i]=i:=by
 intro l i
 induction l with
 |nil=>intro h;simp at h
 |cons x r ih=>
  intro h;by_cases e:x=i
  ·refine⟨by simp[pos,e],?_⟩;simp[pos,e]
  ·have hr:i∈r:=by
    rcases List.mem_cons.1 h with h | h
    ·exact absurd h.symm e
    ·exact h
   obtain⟨h1,h2⟩:=ih hr;refine⟨by simp[pos,e];omega,?_⟩;simp[pos,e,h2]
theorem zwh{l:List Nat}{k i:Nat}(h:i∈l):zag l k (pos l i)=i:=by
 obtain⟨h1,h2⟩:=ztt l i h;simp[zag,h1,h2]
theorem qcl(l:List Nat)(k:Nat)(a:AV):a.inn l=true->(a.ren (pos l)).ren (zag l k)=a/\(a.ren (pos l)).under l.length=true:=by
 induction a using AV.rec (motive_2:=λcs=>AV.inn.innL l cs=true->AV.ren.renL (zag l k) (AV.ren.renL (pos l) cs)=cs/\AV.under.underL l.length (AV.ren.renL (pos l) cs)=true)with
 |sl id off n sz c=>
  intro h;simp only[AV.inn]at h;have hm:=zts _ _ h;obtain⟨h1,h2⟩:=ztt l id hm;simp[AV.ren,AV.under,zwh hm,h1]
 |ptr id off=>
  intro h;simp only[AV.inn]at h;have hm:=zts _ _ h;obtain⟨h1,h2⟩:=ztt l id hm;simp[AV.ren,AV.under,zwh hm,h1]
 |agg cs ih=>intro h;simp only[AV.inn]at h;obtain⟨h1,h2⟩:=ih h;simp[AV.ren,AV.under,h1,h2]
 |tup cs ih=>intro h;simp only[AV.inn]at h;obtain⟨h1,h2⟩:=ih h;simp[AV.ren,AV.under,h1,h2]
 |clo f cs ih=>intro h;simp only[AV.inn]at h;obtain⟨h1,h2⟩:=ih h;simp[AV.ren,AV.under,h1,h2]
 |nil=>exact⟨rfl,rfl⟩
 |cons x r hx hr=>
  rename_i h;simp only[AV.inn.innL,qZ]at h;obtain⟨h1,h2⟩:=hx h.1;obtain⟨h3,h4⟩:=hr h.2;simp[AV.ren.renL,AV.under.underL,h1,h2,h3,h4]
 |_=>intro _;exact⟨rfl,rfl⟩
theorem zpi(l:List Nat)(k:Nat):∀(cs:List AV),AV.inn.innL l cs=true->(cs.map (AV.ren (pos l))).map (AV.ren (zag l k))=cs/\AV.under.underL l.length (cs.map (AV.ren (pos l)))=true:=by
 intro cs
 induction cs with
 |nil=>intro _;exact⟨rfl,rfl⟩
 |cons x r ih=>
  intro h;simp only[AV.inn.innL,qZ]at h;obtain⟨h1,h2⟩:=qcl l k x h.1;obtain⟨h3,h4⟩:=ih h.2;simp only[xQ,AV.under.underL,h1,h2,h3,h4];simp
def qlh:Nat->Heap->List Nat->List Nat->List Nat
 |0,_,done,_=>done
 |_+1,_,done,[]=>done
 |n+1,H,done,i::todo=>match hasN done i with
  |true=>qlh n H done todo
  |false=>match getB H i with
   |some cs=>qlh n H (done++[i]) (AV.ids.idsL cs++todo)
   |none=>qlh n H done todo
def zeq:List Nat->Bool
 | []=>true
 |x::r=>!hasN r x && zeq r
theorem zkb:∀(l:List Nat) (i:Nat),i∈l->hasN l i=true:=by
 intro l i
 induction l with
 |nil=>intro h;simp at h
 |cons x r ih=>
  intro h;simp only[hasN];split
  ·rfl
  ·rename_i e;rcases List.mem_cons.1 h with h | h
   ·subst h;simp at e
   ·exact ih h
theorem zpj:∀l:List Nat,zeq l=true->l.Nodup:=by
 intro l
 induction l with
 |nil=>intro _;exact .nil
 |cons x r ih=>
  intro h;simp only[zeq,qZ,qC]at h;refine List.nodup_cons.2 ⟨λhm=>?_,ih h.2⟩;rw[zkb _ _ hm]at h;simp at h
abbrev FRun:=FuncId->List AV->Heap->Option (AV×Heap)
def subH(ids:List Nat)(H:Heap):Heap:=ids.map λi=>renB (pos ids) (getB H i)
def qli(ids:List Nat)(H:Heap):Bool:=
 zeq ids && ids.all λi=>match getB H i with
  |some cs=>AV.inn.innL ids cs
  |none=>false
def qlj(f0:FRun):qlg:=λf args H=>
 match AV.closed.closedL args with
 |true=>match f0 f args []with
  |some (v,[])=>if v.closed=true then some (v,[],[],0)else none
  |some (v,c::r)=>some (v.ren (zag [] H.length),effs (zag [] H.length) 0 (c::r),[],r.length+1)
  |none=>none
 |false=>
  let ids:=qlh 200 H [] (AV.ids.idsL args)
  if AV.inn.innL ids args=true/\qli ids H=true then
   match f0 f (args.map (AV.ren (pos ids))) (subH ids H)with
   |some (v,H')=>some (v.ren (zag ids H.length),effs (zag ids H.length) 0 H',ids,H'.length-ids.length)
   |none=>none
  else none
theorem ztu{H:Heap}{i:Nat}{cs:List AV}(h:getB H i=some cs):i<H.length/\H[i]?=some (some cs):=by
 unfold getB at h;split at h
 ·rename_i c e;simp at h;subst h;refine⟨?_,e⟩;rcases qV i H.length with h' | h'
  ·exact h'
  ·rw[qJ h']at e;simp at e
 ·simp at h
inductive RV where
 |t (n:Nat)
 |c (a:Nat) (ag:Bool) (sz:Nat)
def zij(E:Env)(H:Heap):RV->Option AV
 |.t n=>some (E n)
 |.c a ag sz=>match E a with
  |.ptr id off=>match getB H id with
   |some cs=>need (off+sz<=cs.length) (some (ldv ag sz off cs))
   |none=>none
  |_=>none
def resB(rs:List RV)(E:Env)(H:Heap):Option AV:=
 match rs.mapM (zij E H)with
 |some [v]=>some v
 |some vs=>some (.tup vs)
 |none=>none
def cRes(P:Program):ResultVar->Option RV
 |.tmp t=>some (.t t)
 |.cell a t=>(ldSz P t).map λx=> .c a x.1 x.2
theorem qlk{P:Program}{E:Env}{H:Heap}:∀(l:List ResultVar) (rs:List RV),l.mapM (cRes P)=some rs->l.mapM (zgs P E H)=rs.mapM (zij E H):=by
 intro l
 induction l with
 |nil=>intro rs h;simp at h;subst h;rfl
 |cons x l ih=>
  intro rs h;rw[qG]at h;cases hx:cRes P x with
  |none=>simp[hx]at h
  |some y=>
   cases hl:l.mapM (cRes P)with
   |none=>simp[hx,hl]at h
   |some rs'=>
    simp[hx,hl]at h;subst h;rw[qG,qG,ih rs' hl]
    have:zgs P E H x=zij E H y:=by
     cases x with
     |tmp t=>simp[cRes]at hx;subst hx;rfl
     |cell a t=>
      simp only[cRes,qY]at hx;obtain⟨z,hz,rfl⟩:=hx;simp only[zgs,zij,hz];cases E a<;>rfl
    rw[this]
def qgg(n0:Nat)(H:Heap):Bool:=match n0 with
 |0=>true
 |n+1=>Nat.ble (n+1) H.length && (H.take (n+1)).all λc=>match c with
  |some cs=>AV.under.underL (n+1) cs
  |none=>true
theorem qgh{n0:Nat}{H:Heap}(h:qgg n0 H=true):n0<=H.length/\∀(i:Nat) (cs:List AV),i<n0->H[i]?=some (some cs)->AV.under.underL n0 cs=true:=by
 cases n0 with
 |zero=>exact⟨by omega,λi cs hi=>by omega⟩
 |succ n=>
  simp only[qgg,qZ,qE]at h;refine⟨Nat.le_of_ble_eq_true h.1,λi cs hi e=>?_⟩
  have hm:some cs∈H.take (n+1):=by
   apply xV (i:=i);rw[xY,if_pos hi];exact e
  exact h.2 _ hm
def finX(n0:Nat)(keep:Bool)(v:Option AV)(H:Heap):Option (AV×Heap):=
 match v with
 |none=>none
 |some v=>match keep with
  |true=>if n0<=H.length then some (v,H)else none
  |false=>match qgg n0 H with
   |true=>match frzI n0 H 8 v with
    |some v'=>some (v',H.take n0)
    |none=>if v.under n0=true then some (v,H.take n0)else none
   |false=>none
theorem qgi{n0:Nat}{keep:Bool}{v:AV}{H:Heap}{v':AV}{H':Heap}(h:finX n0 keep (some v) H=some (v',H')):Fin n0 v H v' H'/\n0<=H'.length:=by
 simp only[finX]at h;split at h
 ·split at h
  ·rename_i hl;simp only[qK,Prod.mk.injEq]at h;obtain⟨rfl,rfl⟩:=h;exact⟨.keep _ _,hl⟩
  ·simp at h
 ·split at h
  ·rename_i ho;obtain⟨hl,hH⟩:=qgh ho;split at h
   ·rename_i x hx;simp only[qK,Prod.mk.injEq]at h;obtain⟨rfl,rfl⟩:=h;exact⟨.freeze 8 _ _ _ hx hH,by simp;omega⟩
   ·split at h
    ·rename_i hu;simp only[qK,Prod.mk.injEq]at h;obtain⟨rfl,rfl⟩:=h;exact⟨.drop _ _ hu hH,by simp;omega⟩
    ·simp at h
  ·simp at h
theorem zpk{n m:Nat}:Nat.blt n m=true↔n<m:=by
 unfold Nat.blt;rw[qU];exact Iff.rfl
structure N16(α:Type) where
 a0:α
 a1:α
 a2:α
 a3:α
 a4:α
 a5:α
 a6:α
 a7:α
 a8:α
 a9:α
 a10:α
 a11:α
 a12:α
 a13:α
 a14:α
 a15:α
section
variable{α:Type}
def N16.toL(t:N16 α):List α:=[t.a0,t.a1,t.a2,t.a3,t.a4,t.a5,t.a6,t.a7,t.a8,t.a9,t.a10,t.a11,t.a12,t.a13,t.a14,t.a15]
noncomputable def N16.nth(t:N16 α)(n:Nat):α:=(Nat.rec (motive:=λ_=>α) t.a0 (λn _=>(Nat.rec (motive:=λ_=>α) t.a1 (λn _=>(Nat.rec (motive:=λ_=>α) t.a2 (λn _=>(Nat.rec (motive:=λ_=>α) t.a3 (λn _=>(Nat.rec (motive:=λ_=>α) t.a4 (λn _=>(Nat.rec (motive:=λ_=>α) t.a5 (λn _=>(Nat.rec (motive:=λ_=>α) t.a6 (λn _=>(Nat.rec (motive:=λ_=>α) t.a7 (λn _=>(Nat.rec (motive:=λ_=>α) t.a8 (λn _=>(Nat.rec (motive:=λ_=>α) t.a9 (λn _=>(Nat.rec (motive:=λ_=>α) t.a10 (λn _=>(Nat.rec (motive:=λ_=>α) t.a11 (λn _=>(Nat.rec (motive:=λ_=>α) t.a12 (λn _=>(Nat.rec (motive:=λ_=>α) t.a13 (λn _=>(Nat.rec (motive:=λ_=>α) t.a14 (λn _=>t.a15) n)) n)) n)) n)) n)) n)) n)) n)) n)) n)) n)) n)) n)) n)) n)
def N16.put(t:N16 α)(x:α):Nat->N16 α
 |0=>⟨x,t.a1,t.a2,t.a3,t.a4,t.a5,t.a6,t.a7,t.a8,t.a9,t.a10,t.a11,t.a12,t.a13,t.a14,t.a15⟩
 |1=>⟨t.a0,x,t.a2,t.a3,t.a4,t.a5,t.a6,t.a7,t.a8,t.a9,t.a10,t.a11,t.a12,t.a13,t.a14,t.a15⟩
 |2=>⟨t.a0,t.a1,x,t.a3,t.a4,t.a5,t.a6,t.a7,t.a8,t.a9,t.a10,t.a11,t.a12,t.a13,t.a14,t.a15⟩
 |3=>⟨t.a0,t.a1,t.a2,x,t.a4,t.a5,t.a6,t.a7,t.a8,t.a9,t.a10,t.a11,t.a12,t.a13,t.a14,t.a15⟩
 |4=>⟨t.a0,t.a1,t.a2,t.a3,x,t.a5,t.a6,t.a7,t.a8,t.a9,t.a10,t.a11,t.a12,t.a13,t.a14,t.a15⟩
 |5=>⟨t.a0,t.a1,t.a2,t.a3,t.a4,x,t.a6,t.a7,t.a8,t.a9,t.a10,t.a11,t.a12,t.a13,t.a14,t.a15⟩
 |6=>⟨t.a0,t.a1,t.a2,t.a3,t.a4,t.a5,x,t.a7,t.a8,t.a9,t.a10,t.a11,t.a12,t.a13,t.a14,t.a15⟩
 |7=>⟨t.a0,t.a1,t.a2,t.a3,t.a4,t.a5,t.a6,x,t.a8,t.a9,t.a10,t.a11,t.a12,t.a13,t.a14,t.a15⟩
 |8=>⟨t.a0,t.a1,t.a2,t.a3,t.a4,t.a5,t.a6,t.a7,x,t.a9,t.a10,t.a11,t.a12,t.a13,t.a14,t.a15⟩
 |9=>⟨t.a0,t.a1,t.a2,t.a3,t.a4,t.a5,t.a6,t.a7,t.a8,x,t.a10,t.a11,t.a12,t.a13,t.a14,t.a15⟩
 |10=>⟨t.a0,t.a1,t.a2,t.a3,t.a4,t.a5,t.a6,t.a7,t.a8,t.a9,x,t.a11,t.a12,t.a13,t.a14,t.a15⟩
 |11=>⟨t.a0,t.a1,t.a2,t.a3,t.a4,t.a5,t.a6,t.a7,t.a8,t.a9,t.a10,x,t.a12,t.a13,t.a14,t.a15⟩
 |12=>⟨t.a0,t.a1,t.a2,t.a3,t.a4,t.a5,t.a6,t.a7,t.a8,t.a9,t.a10,t.a11,x,t.a13,t.a14,t.a15⟩
 |13=>⟨t.a0,t.a1,t.a2,t.a3,t.a4,t.a5,t.a6,t.a7,t.a8,t.a9,t.a10,t.a11,t.a12,x,t.a14,t.a15⟩
 |14=>⟨t.a0,t.a1,t.a2,t.a3,t.a4,t.a5,t.a6,t.a7,t.a8,t.a9,t.a10,t.a11,t.a12,t.a13,x,t.a15⟩
 |_=>⟨t.a0,t.a1,t.a2,t.a3,t.a4,t.a5,t.a6,t.a7,t.a8,t.a9,t.a10,t.a11,t.a12,t.a13,t.a14,x⟩
theorem N16.toL_put(t:N16 α)(x:α):∀i,i<16->(t.put x i).toL=t.toL.set i x
 |0,_=>rfl
 |1,_=>rfl
 |2,_=>rfl
 |3,_=>rfl
 |4,_=>rfl
 |5,_=>rfl
 |6,_=>rfl
 |7,_=>rfl
 |8,_=>rfl
 |9,_=>rfl
 |10,_=>rfl
 |11,_=>rfl
 |12,_=>rfl
 |13,_=>rfl
 |14,_=>rfl
 |15,_=>rfl
 |n+16,h=>absurd h (by omega)
theorem N16.nth_toL(t:N16 α):∀i,i<16->t.toL[i]?=some (t.nth i)
 |0,_=>rfl
 |1,_=>rfl
 |2,_=>rfl
 |3,_=>rfl
 |4,_=>rfl
 |5,_=>rfl
 |6,_=>rfl
 |7,_=>rfl
 |8,_=>rfl
 |9,_=>rfl
 |10,_=>rfl
 |11,_=>rfl
 |12,_=>rfl
 |13,_=>rfl
 |14,_=>rfl
 |15,_=>rfl
 |n+16,h=>absurd h (by omega)
theorem N16.nth_put(t:N16 α)(x:α){i j:Nat}(hi:i<16)(hj:j<16):(t.put x i).nth j=if j=i then x else t.nth j:=by
 have h1:=(t.put x i).nth_toL j hj;rw[N16.toL_put t x i hi,List.getElem?_set]at h1;have h2:=t.nth_toL j hj;have hl:i<t.toL.length:=hi;by_cases h:i=j
 ·subst h;rw[if_pos rfl,if_pos hl]at h1;rw[if_pos rfl];exact(Option.some.inj h1).symm
 ·rw[if_neg h,h2]at h1;rw[if_neg (λe=>h e.symm)];exact(Option.some.inj h1).symm
end
abbrev O:=Option (AV×Heap)
abbrev E16:=N16 (N16 AV)
abbrev Row:=N16 AV
abbrev GT:=E16->AV
abbrev RT:=Row->AV
abbrev ST:=E16->AV->(E16->O)->O
abbrev UT:=Row->AV->(Row->O)->O
noncomputable def E16.env(E:E16):Env:=λn=>match Nat.blt n 256 with
 |true=>(E.nth (n/16)).nth (n%16)
 |false=> .junk
noncomputable def E16.setN(E:E16)(n:Nat)(v:AV):E16:=E.put ((E.nth (n/16)).put v (n%16)) (n/16)
noncomputable def E16.setO(E:E16)(d:Option Nat)(v:AV):E16:=match d with
 |none=>E
 |some d=>E.setN d v
theorem E16.env_eq(E:E16){n:Nat}(h:n<256):E.env n=(E.nth (n/16)).nth (n%16):=by
 have:Nat.blt n 256=true:=zpk.2 h;simp only[E16.env,this]
theorem E16.env_big(E:E16){n:Nat}(h:¬n<256):E.env n= .junk:=by
 have:Nat.blt n 256=false:=by
  cases hb:Nat.blt n 256 with
  |false=>rfl
  |true=>exact absurd (zpk.1 hb) h
 simp only[E16.env,this]
theorem E16.env_setN(E:E16){n:Nat}(v:AV)(h:n<256):(E.setN n v).env=upd E.env n v:=by
 funext m;unfold upd;by_cases hm:m<256
 ·rw[E16.env_eq _ hm,E16.env_eq _ hm];unfold E16.setN;rw[N16.nth_put _ _ (by omega) (by omega)];by_cases h1:m/16=n/16
  ·rw[if_pos h1,N16.nth_put _ _ (by omega) (by omega),h1];by_cases h2:m%16=n%16
   ·rw[if_pos h2,if_pos (by omega)]
   ·rw[if_neg h2,if_neg (by omega)]
  ·rw[if_neg h1,if_neg (by omega)]
 ·rw[if_neg (by omega),E16.env_big _ hm,E16.env_big _ hm]
def okD(d:Option Nat):Bool:=match d with
 |none=>true
 |some d=>Nat.blt d 256
theorem E16.env_setO(E:E16){d:Option Nat}(v:AV)(h:okD d=true):(E.setO d v).env=updO E.env d v:=by
 cases d with
 |none=>rfl
 |some d=>exact E16.env_setN E v (zpk.1 h)
def h0(r:Row):AV:=r.a0
def h1(r:Row):AV:=r.a1
def h2(r:Row):AV:=r.a2
def h3(r:Row):AV:=r.a3
def h4(r:Row):AV:=r.a4
def h5(r:Row):AV:=r.a5
def h6(r:Row):AV:=r.a6
def h7(r:Row):AV:=r.a7
def h8(r:Row):AV:=r.a8
def h9(r:Row):AV:=r.a9
def h10(r:Row):AV:=r.a10
def h11(r:Row):AV:=r.a11
def h12(r:Row):AV:=r.a12
def h13(r:Row):AV:=r.a13
def h14(r:Row):AV:=r.a14
def h15(r:Row):AV:=r.a15
def g0(h:RT)(E:E16):AV:=h E.a0
def g1(h:RT)(E:E16):AV:=h E.a1
def g2(h:RT)(E:E16):AV:=h E.a2
def g3(h:RT)(E:E16):AV:=h E.a3
def g4(h:RT)(E:E16):AV:=h E.a4
def g5(h:RT)(E:E16):AV:=h E.a5
def g6(h:RT)(E:E16):AV:=h E.a6
def g7(h:RT)(E:E16):AV:=h E.a7
def g8(h:RT)(E:E16):AV:=h E.a8
def g9(h:RT)(E:E16):AV:=h E.a9
def g10(h:RT)(E:E16):AV:=h E.a10
def g11(h:RT)(E:E16):AV:=h E.a11
def g12(h:RT)(E:E16):AV:=h E.a12
def g13(h:RT)(E:E16):AV:=h E.a13
def g14(h:RT)(E:E16):AV:=h E.a14
def g15(h:RT)(E:E16):AV:=h E.a15
noncomputable def u0(r:Row)(v:AV)(k:Row->O):O:=N16.rec (motive:=λ_=>AV->(Row->O)->O) (λ_ a1 a2 a3 a4 a5 a6 a7 a8 a9 a10 a11 a12 a13 a14 a15 v k=>k ⟨v,a1,a2,a3,a4,a5,a6,a7,a8,a9,a10,a11,a12,a13,a14,a15⟩) r v k
noncomputable def u1(r:Row)(v:AV)(k:Row->O):O:=N16.rec (motive:=λ_=>AV->(Row->O)->O) (λa0 _ a2 a3 a4 a5 a6 a7 a8 a9 a10 a11 a12 a13 a14 a15 v k=>k ⟨a0,v,a2,a3,a4,a5,a6,a7,a8,a9,a10,a11,a12,a13,a14,a15⟩) r v k
noncomputable def u2(r:Row)(v:AV)(k:Row->O):O:=N16.rec (motive:=λ_=>AV->(Row->O)->O) (λa0 a1 _ a3 a4 a5 a6 a7 a8 a9 a10 a11 a12 a13 a14 a15 v k=>k ⟨a0,a1,v,a3,a4,a5,a6,a7,a8,a9,a10,a11,a12,a13,a14,a15⟩) r v k
noncomputable def u3(r:Row)(v:AV)(k:Row->O):O:=N16.rec (motive:=λ_=>AV->(Row->O)->O) (λa0 a1 a2 _ a4 a5 a6 a7 a8 a9 a10 a11 a12 a13 a14 a15 v k=>k ⟨a0,a1,a2,v,a4,a5,a6,a7,a8,a9,a10,a11,a12,a13,a14,a15⟩) r v k
noncomputable def u4(r:Row)(v:AV)(k:Row->O):O:=N16.rec (motive:=λ_=>AV->(Row->O)->O) (λa0 a1 a2 a3 _ a5 a6 a7 a8 a9 a10 a11 a12 a13 a14 a15 v k=>k ⟨a0,a1,a2,a3,v,a5,a6,a7,a8,a9,a10,a11,a12,a13,a14,a15⟩) r v k
noncomputable def u5(r:Row)(v:AV)(k:Row->O):O:=N16.rec (motive:=λ_=>AV->(Row->O)->O) (λa0 a1 a2 a3 a4 _ a6 a7 a8 a9 a10 a11 a12 a13 a14 a15 v k=>k ⟨a0,a1,a2,a3,a4,v,a6,a7,a8,a9,a10,a11,a12,a13,a14,a15⟩) r v k
noncomputable def u6(r:Row)(v:AV)(k:Row->O):O:=N16.rec (motive:=λ_=>AV->(Row->O)->O) (λa0 a1 a2 a3 a4 a5 _ a7 a8 a9 a10 a11 a12 a13 a14 a15 v k=>k ⟨a0,a1,a2,a3,a4,a5,v,a7,a8,a9,a10,a11,a12,a13,a14,a15⟩) r v k
noncomputable def u7(r:Row)(v:AV)(k:Row->O):O:=N16.rec (motive:=λ_=>AV->(Row->O)->O) (λa0 a1 a2 a3 a4 a5 a6 _ a8 a9 a10 a11 a12 a13 a14 a15 v k=>k ⟨a0,a1,a2,a3,a4,a5,a6,v,a8,a9,a10,a11,a12,a13,a14,a15⟩) r v k
noncomputable def u8(r:Row)(v:AV)(k:Row->O):O:=N16.rec (motive:=λ_=>AV->(Row->O)->O) (λa0 a1 a2 a3 a4 a5 a6 a7 _ a9 a10 a11 a12 a13 a14 a15 v k=>k ⟨a0,a1,a2,a3,a4,a5,a6,a7,v,a9,a10,a11,a12,a13,a14,a15⟩) r v k
noncomputable def u9(r:Row)(v:AV)(k:Row->O):O:=N16.rec (motive:=λ_=>AV->(Row->O)->O) (λa0 a1 a2 a3 a4 a5 a6 a7 a8 _ a10 a11 a12 a13 a14 a15 v k=>k ⟨a0,a1,a2,a3,a4,a5,a6,a7,a8,v,a10,a11,a12,a13,a14,a15⟩) r v k
noncomputable def u10(r:Row)(v:AV)(k:Row->O):O:=N16.rec (motive:=λ_=>AV->(Row->O)->O) (λa0 a1 a2 a3 a4 a5 a6 a7 a8 a9 _ a11 a12 a13 a14 a15 v k=>k ⟨a0,a1,a2,a3,a4,a5,a6,a7,a8,a9,v,a11,a12,a13,a14,a15⟩) r v k
noncomputable def u11(r:Row)(v:AV)(k:Row->O):O:=N16.rec (motive:=λ_=>AV->(Row->O)->O) (λa0 a1 a2 a3 a4 a5 a6 a7 a8 a9 a10 _ a12 a13 a14 a15 v k=>k ⟨a0,a1,a2,a3,a4,a5,a6,a7,a8,a9,a10,v,a12,a13,a14,a15⟩) r v k
noncomputable def u12(r:Row)(v:AV)(k:Row->O):O:=N16.rec (motive:=λ_=>AV->(Row->O)->O) (λa0 a1 a2 a3 a4 a5 a6 a7 a8 a9 a10 a11 _ a13 a14 a15 v k=>k ⟨a0,a1,a2,a3,a4,a5,a6,a7,a8,a9,a10,a11,v,a13,a14,a15⟩) r v k
noncomputable def u13(r:Row)(v:AV)(k:Row->O):O:=N16.rec (motive:=λ_=>AV->(Row->O)->O) (λa0 a1 a2 a3 a4 a5 a6 a7 a8 a9 a10 a11 a12 _ a14 a15 v k=>k ⟨a0,a1,a2,a3,a4,a5,a6,a7,a8,a9,a10,a11,a12,v,a14,a15⟩) r v k
noncomputable def u14(r:Row)(v:AV)(k:Row->O):O:=N16.rec (motive:=λ_=>AV->(Row->O)->O) (λa0 a1 a2 a3 a4 a5 a6 a7 a8 a9 a10 a11 a12 a13 _ a15 v k=>k ⟨a0,a1,a2,a3,a4,a5,a6,a7,a8,a9,a10,a11,a12,a13,v,a15⟩) r v k
noncomputable def u15(r:Row)(v:AV)(k:Row->O):O:=N16.rec (motive:=λ_=>AV->(Row->O)->O) (λa0 a1 a2 a3 a4 a5 a6 a7 a8 a9 a10 a11 a12 a13 a14 _ v k=>k ⟨a0,a1,a2,a3,a4,a5,a6,a7,a8,a9,a10,a11,a12,a13,a14,v⟩) r v k
noncomputable def o0(E:E16)(v:Row)(k:E16->O):O:=N16.rec (motive:=λ_=>Row->(E16->O)->O) (λ_ a1 a2 a3 a4 a5 a6 a7 a8 a9 a10 a11 a12 a13 a14 a15 v k=>k ⟨v,a1,a2,a3,a4,a5,a6,a7,a8,a9,a10,a11,a12,a13,a14,a15⟩) E v k
noncomputable def o1(E:E16)(v:Row)(k:E16->O):O:=N16.rec (motive:=λ_=>Row->(E16->O)->O) (λa0 _ a2 a3 a4 a5 a6 a7 a8 a9 a10 a11 a12 a13 a14 a15 v k=>k ⟨a0,v,a2,a3,a4,a5,a6,a7,a8,a9,a10,a11,a12,a13,a14,a15⟩) E v k
noncomputable def o2(E:E16)(v:Row)(k:E16->O):O:=N16.rec (motive:=λ_=>Row->(E16->O)->O) (λa0 a1 _ a3 a4 a5 a6 a7 a8 a9 a10 a11 a12 a13 a14 a15 v k=>k ⟨a0,a1,v,a3,a4,a5,a6,a7,a8,a9,a10,a11,a12,a13,a14,a15⟩) E v k
noncomputable def o3(E:E16)(v:Row)(k:E16->O):O:=N16.rec (motive:=λ_=>Row->(E16->O)->O) (λa0 a1 a2 _ a4 a5 a6 a7 a8 a9 a10 a11 a12 a13 a14 a15 v k=>k ⟨a0,a1,a2,v,a4,a5,a6,a7,a8,a9,a10,a11,a12,a13,a14,a15⟩) E v k
noncomputable def o4(E:E16)(v:Row)(k:E16->O):O:=N16.rec (motive:=λ_=>Row->(E16->O)->O) (λa0 a1 a2 a3 _ a5 a6 a7 a8 a9 a10 a11 a12 a13 a14 a15 v k=>k ⟨a0,a1,a2,a3,v,a5,a6,a7,a8,a9,a10,a11,a12,a13,a14,a15⟩) E v k
noncomputable def o5(E:E16)(v:Row)(k:E16->O):O:=N16.rec (motive:=λ_=>Row->(E16->O)->O) (λa0 a1 a2 a3 a4 _ a6 a7 a8 a9 a10 a11 a12 a13 a14 a15 v k=>k ⟨a0,a1,a2,a3,a4,v,a6,a7,a8,a9,a10,a11,a12,a13,a14,a15⟩) E v k
noncomputable def o6(E:E16)(v:Row)(k:E16->O):O:=N16.rec (motive:=λ_=>Row->(E16->O)->O) (λa0 a1 a2 a3 a4 a5 _ a7 a8 a9 a10 a11 a12 a13 a14 a15 v k=>k ⟨a0,a1,a2,a3,a4,a5,v,a7,a8,a9,a10,a11,a12,a13,a14,a15⟩) E v k
noncomputable def o7(E:E16)(v:Row)(k:E16->O):O:=N16.rec (motive:=λ_=>Row->(E16->O)->O) (λa0 a1 a2 a3 a4 a5 a6 _ a8 a9 a10 a11 a12 a13 a14 a15 v k=>k ⟨a0,a1,a2,a3,a4,a5,a6,v,a8,a9,a10,a11,a12,a13,a14,a15⟩) E v k
noncomputable def o8(E:E16)(v:Row)(k:E16->O):O:=N16.rec (motive:=λ_=>Row->(E16->O)->O) (λa0 a1 a2 a3 a4 a5 a6 a7 _ a9 a10 a11 a12 a13 a14 a15 v k=>k ⟨a0,a1,a2,a3,a4,a5,a6,a7,v,a9,a10,a11,a12,a13,a14,a15⟩) E v k
noncomputable def o9(E:E16)(v:Row)(k:E16->O):O:=N16.rec (motive:=λ_=>Row->(E16->O)->O) (λa0 a1 a2 a3 a4 a5 a6 a7 a8 _ a10 a11 a12 a13 a14 a15 v k=>k ⟨a0,a1,a2,a3,a4,a5,a6,a7,a8,v,a10,a11,a12,a13,a14,a15⟩) E v k
noncomputable def o10(E:E16)(v:Row)(k:E16->O):O:=N16.rec (motive:=λ_=>Row->(E16->O)->O) (λa0 a1 a2 a3 a4 a5 a6 a7 a8 a9 _ a11 a12 a13 a14 a15 v k=>k ⟨a0,a1,a2,a3,a4,a5,a6,a7,a8,a9,v,a11,a12,a13,a14,a15⟩) E v k
noncomputable def o11(E:E16)(v:Row)(k:E16->O):O:=N16.rec (motive:=λ_=>Row->(E16->O)->O) (λa0 a1 a2 a3 a4 a5 a6 a7 a8 a9 a10 _ a12 a13 a14 a15 v k=>k ⟨a0,a1,a2,a3,a4,a5,a6,a7,a8,a9,a10,v,a12,a13,a14,a15⟩) E v k
noncomputable def o12(E:E16)(v:Row)(k:E16->O):O:=N16.rec (motive:=λ_=>Row->(E16->O)->O) (λa0 a1 a2 a3 a4 a5 a6 a7 a8 a9 a10 a11 _ a13 a14 a15 v k=>k ⟨a0,a1,a2,a3,a4,a5,a6,a7,a8,a9,a10,a11,v,a13,a14,a15⟩) E v k
noncomputable def o13(E:E16)(v:Row)(k:E16->O):O:=N16.rec (motive:=λ_=>Row->(E16->O)->O) (λa0 a1 a2 a3 a4 a5 a6 a7 a8 a9 a10 a11 a12 _ a14 a15 v k=>k ⟨a0,a1,a2,a3,a4,a5,a6,a7,a8,a9,a10,a11,a12,v,a14,a15⟩) E v k
noncomputable def o14(E:E16)(v:Row)(k:E16->O):O:=N16.rec (motive:=λ_=>Row->(E16->O)->O) (λa0 a1 a2 a3 a4 a5 a6 a7 a8 a9 a10 a11 a12 a13 _ a15 v k=>k ⟨a0,a1,a2,a3,a4,a5,a6,a7,a8,a9,a10,a11,a12,a13,v,a15⟩) E v k
noncomputable def o15(E:E16)(v:Row)(k:E16->O):O:=N16.rec (motive:=λ_=>Row->(E16->O)->O) (λa0 a1 a2 a3 a4 a5 a6 a7 a8 a9 a10 a11 a12 a13 a14 _ v k=>k ⟨a0,a1,a2,a3,a4,a5,a6,a7,a8,a9,a10,a11,a12,a13,a14,v⟩) E v k
noncomputable def s0(u:UT)(E:E16)(v:AV)(k:E16->O):O:=u E.a0 v λr=>o0 E r k
noncomputable def s1(u:UT)(E:E16)(v:AV)(k:E16->O):O:=u E.a1 v λr=>o1 E r k
noncomputable def s2(u:UT)(E:E16)(v:AV)(k:E16->O):O:=u E.a2 v λr=>o2 E r k
noncomputable def s3(u:UT)(E:E16)(v:AV)(k:E16->O):O:=u E.a3 v λr=>o3 E r k
noncomputable def s4(u:UT)(E:E16)(v:AV)(k:E16->O):O:=u E.a4 v λr=>o4 E r k
noncomputable def s5(u:UT)(E:E16)(v:AV)(k:E16->O):O:=u E.a5 v λr=>o5 E r k
noncomputable def s6(u:UT)(E:E16)(v:AV)(k:E16->O):O:=u E.a6 v λr=>o6 E r k
noncomputable def s7(u:UT)(E:E16)(v:AV)(k:E16->O):O:=u E.a7 v λr=>o7 E r k
noncomputable def s8(u:UT)(E:E16)(v:AV)(k:E16->O):O:=u E.a8 v λr=>o8 E r k
noncomputable def s9(u:UT)(E:E16)(v:AV)(k:E16->O):O:=u E.a9 v λr=>o9 E r k
noncomputable def s10(u:UT)(E:E16)(v:AV)(k:E16->O):O:=u E.a10 v λr=>o10 E r k
noncomputable def s11(u:UT)(E:E16)(v:AV)(k:E16->O):O:=u E.a11 v λr=>o11 E r k
noncomputable def s12(u:UT)(E:E16)(v:AV)(k:E16->O):O:=u E.a12 v λr=>o12 E r k
noncomputable def s13(u:UT)(E:E16)(v:AV)(k:E16->O):O:=u E.a13 v λr=>o13 E r k
noncomputable def s14(u:UT)(E:E16)(v:AV)(k:E16->O):O:=u E.a14 v λr=>o14 E r k
noncomputable def s15(u:UT)(E:E16)(v:AV)(k:E16->O):O:=u E.a15 v λr=>o15 E r k
noncomputable def sx(E:E16)(_:AV)(k:E16->O):O:=k E
def gk(a:AV)(_:E16):AV:=a
def hN:Nat->RT
 |0=>h0
 |1=>h1
 |2=>h2
 |3=>h3
 |4=>h4
 |5=>h5
 |6=>h6
 |7=>h7
 |8=>h8
 |9=>h9
 |10=>h10
 |11=>h11
 |12=>h12
 |13=>h13
 |14=>h14
 |_=>h15
def gN:Nat->RT->GT
 |0=>g0
 |1=>g1
 |2=>g2
 |3=>g3
 |4=>g4
 |5=>g5
 |6=>g6
 |7=>g7
 |8=>g8
 |9=>g9
 |10=>g10
 |11=>g11
 |12=>g12
 |13=>g13
 |14=>g14
 |_=>g15
noncomputable def uN:Nat->UT
 |0=>u0
 |1=>u1
 |2=>u2
 |3=>u3
 |4=>u4
 |5=>u5
 |6=>u6
 |7=>u7
 |8=>u8
 |9=>u9
 |10=>u10
 |11=>u11
 |12=>u12
 |13=>u13
 |14=>u14
 |_=>u15
noncomputable def sN:Nat->UT->ST
 |0=>s0
 |1=>s1
 |2=>s2
 |3=>s3
 |4=>s4
 |5=>s5
 |6=>s6
 |7=>s7
 |8=>s8
 |9=>s9
 |10=>s10
 |11=>s11
 |12=>s12
 |13=>s13
 |14=>s14
 |_=>s15
theorem kqg(r:Row):∀i,i<16->hN i r=r.nth i
 |0,_=>rfl
 |1,_=>rfl
 |2,_=>rfl
 |3,_=>rfl
 |4,_=>rfl
 |5,_=>rfl
 |6,_=>rfl
 |7,_=>rfl
 |8,_=>rfl
 |9,_=>rfl
 |10,_=>rfl
 |11,_=>rfl
 |12,_=>rfl
 |13,_=>rfl
 |14,_=>rfl
 |15,_=>rfl
 |n+16,h=>absurd h (by omega)
theorem kqh(h:RT)(E:E16):∀i,i<16->gN i h E=h (E.nth i)
 |0,_=>rfl
 |1,_=>rfl
 |2,_=>rfl
 |3,_=>rfl
 |4,_=>rfl
 |5,_=>rfl
 |6,_=>rfl
 |7,_=>rfl
 |8,_=>rfl
 |9,_=>rfl
 |10,_=>rfl
 |11,_=>rfl
 |12,_=>rfl
 |13,_=>rfl
 |14,_=>rfl
 |15,_=>rfl
 |n+16,h=>absurd h (by omega)
theorem kqi(r:Row)(v:AV)(k:Row->O):∀i,i<16->uN i r v k=k (r.put v i)
 |0,_=>rfl
 |1,_=>rfl
 |2,_=>rfl
 |3,_=>rfl
 |4,_=>rfl
 |5,_=>rfl
 |6,_=>rfl
 |7,_=>rfl
 |8,_=>rfl
 |9,_=>rfl
 |10,_=>rfl
 |11,_=>rfl
 |12,_=>rfl
 |13,_=>rfl
 |14,_=>rfl
 |15,_=>rfl
 |n+16,h=>absurd h (by omega)
theorem kqj(u:UT)(E:E16)(v:AV)(k:E16->O):∀i,i<16->sN i u E v k=u (E.nth i) v λr=>k (E.put r i)
 |0,_=>rfl
 |1,_=>rfl
 |2,_=>rfl
 |3,_=>rfl
 |4,_=>rfl
 |5,_=>rfl
 |6,_=>rfl
 |7,_=>rfl
 |8,_=>rfl
 |9,_=>rfl
 |10,_=>rfl
 |11,_=>rfl
 |12,_=>rfl
 |13,_=>rfl
 |14,_=>rfl
 |15,_=>rfl
 |n+16,h=>absurd h (by omega)
def gS(n:Nat):GT:=match Nat.blt n 256 with
 |true=>gN (n/16) (hN (n%16))
 |false=>gk .junk
noncomputable def sS(n:Nat):ST:=sN (n/16) (uN (n%16))
theorem ztv(n:Nat)(E:E16):gS n E=E.env n:=by
 by_cases h:n<256
 ·have hb:Nat.blt n 256=true:=zpk.2 h;rw[E16.env_eq _ h];unfold gS;rw[hb]
  show gN (n/16) (hN (n%16)) E=_
  rw[kqh _ _ _ (by omega),kqg _ _ (by omega)]
 ·have hb:Nat.blt n 256=false:=by
   cases hb:Nat.blt n 256 with
   |false=>rfl
   |true=>exact absurd (zpk.1 hb) h
  rw[E16.env_big _ h];unfold gS;rw[hb];rfl
theorem xxl{n:Nat}(h:n<256)(E:E16)(v:AV)(k:E16->O):sS n E v k=k (E.setN n v):=by
 unfold sS E16.setN;rw[kqj _ _ _ _ _ (by omega),kqi _ _ _ _ (by omega)]
def trG:Opd->GT
 |.t n=>gS n
 |.k a=>gk a
theorem zay(x:Opd)(E:E16):trG x E=val E.env x:=by
 cases x with
 |t n=>exact ztv n E
 |k a=>rfl
noncomputable def trD(d:Option Nat):ST:=match d with
 |none=>sx
 |some d=>sS d
theorem zbe{d:Option Nat}(h:okD d=true)(E:E16)(v:AV)(k:E16->O):trD d E v k=k (E.setO d v):=by
 cases d with
 |none=>rfl
 |some d=>exact xxl (zpk.1 h) E v k
noncomputable def natK(n:Nat)(k:Nat->O):O:=Nat.rec (motive:=λ_=>(Nat->O)->O) (λk=>k 0) (λp _ k=>k (Nat.succ p)) n k
theorem zbf(n:Nat)(k:Nat->O):natK n k=k n:=by cases n<;>rfl
noncomputable def intK(n:Int)(k:Int->O):O:=Int.rec (motive:=λ_=>(Int->O)->O) (λm k=>natK m λm=>k (.ofNat m)) (λm k=>natK m λm=>k (.negSucc m)) n k
theorem zpl(n:Int)(k:Int->O):intK n k=k n:=by
 cases n with
 |ofNat m=>exact zbf m _
 |negSucc m=>exact zbf m _
noncomputable def boK(b:Bool)(k:Bool->O):O:=Bool.rec (motive:=λ_=>(Bool->O)->O) (λk=>k false) (λk=>k true) b k
theorem zlh(b:Bool)(k:Bool->O):boK b k=k b:=by cases b<;>rfl
noncomputable def ifK(b:Bool)(x:O):O:=Bool.rec (motive:=λ_=>O->O) (λ_=>none) (λx=>x) b x
theorem jvd(b:Bool)(x:O):ifK b x=if b=true then x else none:=by cases b<;>rfl
noncomputable def onK(c:Option Nat)(k:Option Nat->O):O:=Option.rec (motive:=λ_=>(Option Nat->O)->O) (λk=>k none) (λn k=>natK n λn=>k (some n)) c k
theorem qcm(c:Option Nat)(k:Option Nat->O):onK c k=k c:=by
 cases c with
 |none=>rfl
 |some n=>exact zbf n _
section
variable{α:Type}
noncomputable def nthK(l:List α)(i:Nat)(k:α->O):O:=
 List.rec (motive:=λ_=>Nat->(α->O)->O) (λ_ _=>none)
  (λa _ ih i k=>Nat.rec (motive:=λ_=>α->(Nat->(α->O)->O)->(α->O)->O) (λa _ k=>k a) (λp _ _ ih k=>ih p k) i a ih k) l i k
theorem qll:∀(l:List α) (i:Nat) (k:α->O),nthK l i k=match l[i]? with | some a=>k a | none=>none:=by
 intro l
 induction l with
 |nil=>intro i k;rfl
 |cons a l ih=>
  intro i k;cases i with
  |zero=>rfl
  |succ i=>exact(ih i k).trans (by simp)
noncomputable def putK(l:List α)(i:Nat)(x:α)(k:List α->O):O:=
 List.rec (motive:=λ_=>Nat->α->(List α->O)->O) (λ_ _ k=>k [])
  (λa r ih i x k=>Nat.rec (motive:=λ_=>α->List α->(Nat->α->(List α->O)->O)->α->(List α->O)->O) (λ_ r _ x k=>k (x::r))
   (λp _ a _ ih x k=>ih p x λr=>k (a::r)) i a r ih x k) l i x k
theorem zff(x:α):∀(l:List α) (i:Nat) (k:List α->O),putK l i x k=k (l.set i x):=by
 intro l
 induction l with
 |nil=>intro i k;rfl
 |cons a l ih=>
  intro i k;cases i with
  |zero=>rfl
  |succ i=>exact ih i _
noncomputable def spK(l:List α)(k:List α->O):O:=
 List.rec (motive:=λ_=>(List α->O)->O) (λk=>k []) (λa _ ih k=>ih λr=>k (a::r)) l k
theorem zgu:∀(l:List α) (k:List α->O),spK l k=k l:=by
 intro l
 induction l with
 |nil=>intro k;rfl
 |cons a l ih=>intro k;exact ih _
noncomputable def qgj(l:List α)(x:α)(k:List α->O):O:=
 List.rec (motive:=λ_=>α->(List α->O)->O) (λx k=>k [x]) (λa _ ih x k=>ih x λr=>k (a::r)) l x k
theorem znz(x:α):∀(l:List α) (k:List α->O),qgj l x k=k (l++[x]):=by
 intro l
 induction l with
 |nil=>intro k;rfl
 |cons a l ih=>intro k;exact ih _
noncomputable def lenK(l:List α)(k:Nat->O):O:=
 List.rec (motive:=λ_=>Nat->(Nat->O)->O) (λn k=>natK n k) (λ_ _ ih n k=>ih (Nat.succ n) k) l 0 k
theorem zet(l:List α)(k:Nat->O):lenK l k=k l.length:=by
 have:∀(l:List α) (n:Nat),List.rec (motive:=λ_=>Nat->(Nat->O)->O) (λn k=>natK n k) (λ_ _ ih n k=>ih (Nat.succ n) k) l n k=k (n+l.length):=by
  intro l
  induction l with
  |nil=>intro n;exact zbf _ _
  |cons a l ih=>intro n;exact(ih (n+1)).trans (by rw[xA];congr 1;omega)
 exact(this l 0).trans (by rw[qM])
end
noncomputable def optK(b:Option (List AV))(k:List AV->O):O:=Option.rec (motive:=λ_=>(List AV->O)->O) (λ_=>none) (λcs k=>k cs) b k
noncomputable def blkK(H:Heap)(i:Nat)(k:List AV->O):O:=nthK H i λb=>optK b k
theorem jzx(H:Heap)(i:Nat)(k:List AV->O):blkK H i k=match getB H i with | some cs=>k cs | none=>none:=by
 unfold blkK;rw[qll];unfold getB;cases H[i]? with
 |none=>rfl
 |some b=>cases b<;>rfl
noncomputable def zli(v:AV)(k0:IntKind->Int->O):O:=AV.rec (motive_1:=λ_=>(IntKind->Int->O)->O) (motive_2:=λ_=>Unit) (λ_ _=>none) (λa b k=>k a b) (λ_ _=>none) (λ_ _ _ _ _=>none) (λ_ _ _ _ _ _=>none) (λ_ _ _=>none) (λ_ _ _ _=>none) (λ_ _ _ _=>none) (λ_ _ _=>none) (λ_ _ _=>none) (λ_=>none) (λ_=>none) () (λ_ _ _ _=>()) v k0
noncomputable def zik(v:AV)(k0:Bool->O):O:=AV.rec (motive_1:=λ_=>(Bool->O)->O) (motive_2:=λ_=>Unit) (λb k=>k b) (λ_ _ _=>none) (λ_ _=>none) (λ_ _ _ _ _=>none) (λ_ _ _ _ _ _=>none) (λ_ _ _=>none) (λ_ _ _ _=>none) (λ_ _ _ _=>none) (λ_ _ _=>none) (λ_ _ _=>none) (λ_=>none) (λ_=>none) () (λ_ _ _ _=>()) v k0
noncomputable def qln(v:AV)(k0:List AV->O):O:=AV.rec (motive_1:=λ_=>(List AV->O)->O) (motive_2:=λ_=>Unit) (λ_ _=>none) (λ_ _ _=>none) (λ_ _=>none) (λ_ _ _ _ _=>none) (λ_ _ _ _ _ _=>none) (λ_ _ _=>none) (λ_ _ _ _=>none) (λ_ _ _ _=>none) (λ_ _ _=>none) (λvs _ k=>k vs) (λ_=>none) (λ_=>none) () (λ_ _ _ _=>()) v k0
noncomputable def zwi(v:AV)(k0:List AV->O):O:=AV.rec (motive_1:=λ_=>(List AV->O)->O) (motive_2:=λ_=>Unit) (λ_ _=>none) (λ_ _ _=>none) (λ_ _=>none) (λ_ _ _ _ _=>none) (λ_ _ _ _ _ _=>none) (λ_ _ _=>none) (λ_ _ _ _=>none) (λ_ _ _ _=>none) (λvs _ k=>k vs) (λ_ _ _=>none) (λ_=>none) (λ_=>none) () (λ_ _ _ _=>()) v k0
noncomputable def zfg(v:AV)(k0:Nat->Nat->O)(k1:List AV->Nat->O):O:=AV.rec (motive_1:=λ_=>(Nat->Nat->O)->(List AV->Nat->O)->O) (motive_2:=λ_=>Unit) (λ_ _ _=>none) (λ_ _ _ _=>none) (λ_ _ _=>none) (λ_ _ _ _ _ _=>none) (λ_ _ _ _ _ _ _=>none) (λa b k _=>k a b) (λcs p _ _ k=>k cs p) (λ_ _ _ _ _=>none) (λ_ _ _ _=>none) (λ_ _ _ _=>none) (λ_ _=>none) (λ_ _=>none) () (λ_ _ _ _=>()) v k0 k1
noncomputable def onSl(v:AV)(k0:Nat->Nat->Nat->Nat->Option Nat->O)(k1:List AV->Nat->Option Nat->O):O:=AV.rec (motive_1:=λ_=>(Nat->Nat->Nat->Nat->Option Nat->O)->(List AV->Nat->Option Nat->O)->O) (motive_2:=λ_=>Unit) (λ_ _ _=>none) (λ_ _ _ _=>none) (λ_ _ _=>none) (λcs n c _ _ k=>k cs n c) (λa b c d e k _=>k a b c d e) (λ_ _ _ _=>none) (λ_ _ _ _ _=>none) (λ_ _ _ _ _=>none) (λ_ _ _ _=>none) (λ_ _ _ _=>none) (λ_ _=>none) (λ_ _=>none) () (λ_ _ _ _=>()) v k0 k1
noncomputable def fv(v:AV)(k:AV->O):O:=AV.rec (motive_1:=λ_=>(AV->O)->O) (motive_2:=λ_=>Unit) (λb k=>k (.bool b)) (λa b k=>k (.int a b)) (λs k=>k (.str s)) (λcs n c _ k=>k (.vec cs n c)) (λa b c d e k=>k (.sl a b c d e)) (λa b k=>k (.ptr a b)) (λcs p _ k=>k (.iptr cs p)) (λf cs _ k=>k (.clo f cs)) (λcs _ k=>k (.agg cs)) (λcs _ k=>k (.tup cs)) (λk=>k .anyb) (λk=>k .junk) () (λ_ _ _ _=>()) v k
theorem qlo(v:AV)(k:AV->O):fv v k=k v:=by cases v<;>rfl
noncomputable def nfK(v:AV)(k:AV->O):O:=AV.rec (motive_1:=λ_=>(AV->O)->O) (motive_2:=λ_=>Unit) (λb k=>boK b λb=>k (.bool b)) (λa b k=>intK b λb=>k (.int a b)) (λs k=>k (.str s)) (λcs n c _ k=>spK cs λcs=>natK n λn=>onK c λc=>k (.vec cs n c)) (λa b c d e k=>natK a λa=>natK b λb=>natK c λc=>natK d λd=>onK e λe=>k (.sl a b c d e)) (λa b k=>natK a λa=>natK b λb=>k (.ptr a b)) (λcs p _ k=>spK cs λcs=>natK p λp=>k (.iptr cs p)) (λf cs _ k=>spK cs λcs=>k (.clo f cs)) (λcs _ k=>spK cs λcs=>k (.agg cs)) (λcs _ k=>spK cs λcs=>k (.tup cs)) (λk=>k .anyb) (λk=>k .junk) () (λ_ _ _ _=>()) v k
theorem jve(v:AV)(k:AV->O):nfK v k=k v:=by
 cases v
 case bool b=>exact zlh b _
 case int a b=>exact zpl b _
 case vec cs n c=>show(spK cs λcs=>natK n λn=>onK c λc=>k (.vec cs n c))=_;simp only[zgu,zbf,qcm]
 case sl a b c d e=>show(natK a λa=>natK b λb=>natK c λc=>natK d λd=>onK e λe=>k (.sl a b c d e))=_;simp only[zbf,qcm]
 case ptr a b=>show(natK a λa=>natK b λb=>k (.ptr a b))=_;simp only[zbf]
 case iptr cs p=>show(spK cs λcs=>natK p λp=>k (.iptr cs p))=_;simp only[zgu,zbf]
 case clo f cs=>exact zgu cs _
 case agg cs=>exact zgu cs _
 case tup cs=>exact zgu cs _
 all_goals rfl
noncomputable def hpK(H:Heap)(k:Heap->O):O:=
 List.rec (motive:=λ_=>(Heap->O)->O) (λk=>k []) (λb _ ih k=>Option.rec (motive:=λ_=>((Heap->O)->O)->(Heap->O)->O) (λih k=>ih λr=>k (none::r)) (λcs ih k=>spK cs λcs=>ih λr=>k (some cs::r)) b ih k) H k
theorem zrx:∀(H:Heap) (k:Heap->O),hpK H k=k H:=by
 intro H
 induction H with
 |nil=>intro k;rfl
 |cons b H ih=>
  intro k;cases b with
  |none=>exact ih _
  |some cs=>exact(zgu cs _).trans (ih _)
noncomputable def okP(k:IntKind)(m:Nat):Bool:=IntKind.rec (motive:=λ_=>Nat->Bool) (λm=>Nat.ble m (nat_lit 127)) (λm=>Nat.ble m (nat_lit 32767)) (λm=>Nat.ble m (nat_lit 2147483647)) (λm=>Nat.ble m (nat_lit 9223372036854775807)) (λm=>Nat.ble m (nat_lit 255)) (λm=>Nat.ble m (nat_lit 65535)) (λm=>Nat.ble m (nat_lit 4294967295)) (λm=>Nat.ble m (nat_lit 18446744073709551615)) k m
noncomputable def okM(k:IntKind)(m:Nat):Bool:=IntKind.rec (motive:=λ_=>Nat->Bool) (λm=>Nat.ble m (nat_lit 127)) (λm=>Nat.ble m (nat_lit 32767)) (λm=>Nat.ble m (nat_lit 2147483647)) (λm=>Nat.ble m (nat_lit 9223372036854775807)) (λ_=>false) (λ_=>false) (λ_=>false) (λ_=>false) k m
theorem qvg{k:IntKind}{m:Nat}(h:okP k m=true):k.wrap (.ofNat m)= .ofNat m:=by
 cases k<;>simp only[okP,qU]at h<;>simp[IntKind.wrap,IntKind.bits,IntKind.signed]<;>omega
theorem qvh{k:IntKind}{m:Nat}(h:okM k m=true):k.wrap (.negSucc m)= .negSucc m:=by
 cases k<;>simp only[okM,qU]at h<;>first | (simp at h;done) | skip
 all_goals simp only[IntKind.wrap,IntKind.bits,IntKind.signed,qB]
 all_goals simp
 all_goals omega
noncomputable def wrK(k:IntKind)(n:Int)(c:Int->O):O:=
 Int.rec (motive:=λ_=>IntKind->(Int->O)->O)
  (λm k c=>Bool.rec (motive:=λ_=>Nat->IntKind->(Int->O)->O) (λm k c=>intK (k.wrap (.ofNat m)) c) (λm _ c=>natK m λm=>c (.ofNat m)) (okP k m) m k c)
  (λm k c=>Bool.rec (motive:=λ_=>Nat->IntKind->(Int->O)->O) (λm k c=>intK (k.wrap (.negSucc m)) c) (λm _ c=>natK m λm=>c (.negSucc m)) (okM k m) m k c) n k c
theorem zry(k:IntKind)(n:Int)(c:Int->O):wrK k n c=c (k.wrap n):=by
 cases n with
 |ofNat m=>
  show Bool.rec (motive:=λ_=>Nat->IntKind->(Int->O)->O) (λm k c=>intK (k.wrap (.ofNat m)) c) (λm _ c=>natK m λm=>c (.ofNat m)) (okP k m) m k c=_
  cases h:okP k m with
  |false=>exact zpl _ _
  |true=>rw[qvg h];exact zbf _ _
 |negSucc m=>
  show Bool.rec (motive:=λ_=>Nat->IntKind->(Int->O)->O) (λm k c=>intK (k.wrap (.negSucc m)) c) (λm _ c=>natK m λm=>c (.negSucc m)) (okM k m) m k c=_
  cases h:okM k m with
  |false=>exact zpl _ _
  |true=>rw[qvh h];exact zbf _ _
noncomputable def qgk(m n:Nat):Int:=Nat.rec (motive:=λ_=>Nat->Nat->Int) (λm n=> .ofNat (Nat.sub m n)) (λp _ _ _=> .negSucc p) (Nat.sub n m) m n
theorem qcn(m n:Nat):qgk m n=(m:Int)-n:=by
 unfold qgk
 show Nat.rec (motive:=λ_=>Nat->Nat->Int) (λm n=> .ofNat (Nat.sub m n)) (λp _ _ _=> .negSucc p) (n-m) m n=_
 cases h:n-m with
 |zero=>show((m-n:Nat):Int)=_;omega
 |succ p=>show Int.negSucc p=_;rw[qB];omega
noncomputable def negN(m:Nat):Int:=Nat.rec (motive:=λ_=>Int) (.ofNat 0) (λp _=> .negSucc p) m
theorem zzo(m:Nat):negN m= -(m:Int):=by
 cases m with
 |zero=>rfl
 |succ p=>show Int.negSucc p=_;rw[qB];omega
noncomputable def int2{β:Type}(pp pn np nn:Nat->Nat->β)(a b:Int):β:=
 Int.rec (motive:=λ_=>(Nat->Nat->β)->(Nat->Nat->β)->(Nat->Nat->β)->(Nat->Nat->β)->Int->β)
  (λm pp pn _ _ b=>Int.rec (motive:=λ_=>(Nat->Nat->β)->(Nat->Nat->β)->Nat->β) (λn pp _ m=>pp m n) (λn _ pn m=>pn m n) b pp pn m)
  (λm _ _ np nn b=>Int.rec (motive:=λ_=>(Nat->Nat->β)->(Nat->Nat->β)->Nat->β) (λn np _ m=>np m n) (λn _ nn m=>nn m n) b np nn m) a pp pn np nn b
noncomputable def addI(a b:Int):Int:=int2 (λm n=> .ofNat (Nat.add m n)) (λm n=>qgk m (Nat.succ n)) (λm n=>qgk n (Nat.succ m)) (λm n=> .negSucc (Nat.succ (Nat.add m n))) a b
theorem jzy(a b:Int):addI a b=a+b:=by
 cases a<;>cases b<;>simp only[addI,int2,qcn,qB,qP,qD]<;>(try simp only[Nat.add_eq])<;>omega
noncomputable def subI(a b:Int):Int:=int2 (λm n=>qgk m n) (λm n=> .ofNat (Nat.succ (Nat.add m n))) (λm n=> .negSucc (Nat.add m n)) (λm n=>qgk n m) a b
theorem jzz(a b:Int):subI a b=a-b:=by
 cases a<;>cases b<;>simp only[subI,int2,qcn,qB,qP,qD]<;>(try simp only[Nat.add_eq])<;>omega
noncomputable def mulI(a b:Int):Int:=int2 (λm n=> .ofNat (Nat.mul m n)) (λm n=>negN (Nat.mul m (Nat.succ n))) (λm n=>negN (Nat.mul (Nat.succ m) n)) (λm n=> .ofNat (Nat.mul (Nat.succ m) (Nat.succ n))) a b
theorem xaa(a b:Int):mulI a b=a*b:=by
 cases a<;>cases b<;>simp only[mulI,int2,zzo]
 ·rfl
 ·show -((_*(_+1):Nat):Int)=_
  rw[xZ,qB,Int.mul_neg];rfl
 ·show -(((_+1)*_:Nat):Int)=_
  rw[xZ,qB,Int.neg_mul];rfl
 ·rfl
noncomputable def quoI(a b:Int):Int:=int2 (λm n=> .ofNat (Nat.div m n)) (λm n=>negN (Nat.div m (Nat.succ n))) (λm n=>negN (Nat.div (Nat.succ m) n)) (λm n=> .ofNat (Nat.div (Nat.succ m) (Nat.succ n))) a b
theorem xab(a b:Int):quoI a b=a.tdiv b:=by
 cases a<;>cases b<;>simp only[quoI,int2,zzo]<;>rfl
noncomputable def remI(a b:Int):Int:=int2 (λm n=> .ofNat (Nat.mod m n)) (λm n=> .ofNat (Nat.mod m (Nat.succ n))) (λm n=>negN (Nat.mod (Nat.succ m) n)) (λm n=>negN (Nat.mod (Nat.succ m) (Nat.succ n))) a b
theorem xac(a b:Int):remI a b=a.tmod b:=by
 cases a<;>cases b<;>simp only[remI,int2,zzo]<;>rfl
noncomputable def ltI(a b:Int):Bool:=int2 (λm n=>Nat.ble (Nat.succ m) n) (λ_ _=>false) (λ_ _=>true) (λm n=>Nat.ble (Nat.succ n) m) a b
theorem jvf(a b:Int):ltI a b=decide (a<b):=by
 rw[xJ,decide_eq_true_eq];cases a<;>cases b<;>simp only[ltI,int2,qU,qB,qD,qP,qS,false_iff,true_iff]<;>omega
noncomputable def leI(a b:Int):Bool:=int2 (λm n=>Nat.ble m n) (λ_ _=>false) (λ_ _=>true) (λm n=>Nat.ble n m) a b
theorem jvg(a b:Int):leI a b=decide (a<=b):=by
 rw[xJ,decide_eq_true_eq];cases a<;>cases b<;>simp only[leI,int2,qU,qB,qD,qS,false_iff,true_iff]<;>omega
noncomputable def eqI(a b:Int):Bool:=int2 (λm n=>Nat.beq m n) (λ_ _=>false) (λ_ _=>false) (λm n=>Nat.beq m n) a b
theorem jvh(a b:Int):eqI a b=(a == b):=by
 rw[xJ,beq_iff_eq];cases a<;>cases b<;>simp only[eqI,int2,Nat.beq_eq,qB,qD,qS,false_iff,true_iff]<;>omega
def qvi:IntKind->IntKind->Bool
 |.i8,.i8=>true | .i16,.i16=>true | .i32,.i32=>true | .i64,.i64=>true | .u8,.u8=>true | .u16,.u16=>true | .u32,.u32=>true | .u64,.u64=>true
 |_,_=>false
noncomputable def kN(k:IntKind):Nat:=IntKind.rec (motive:=λ_=>Nat) (nat_lit 0) (nat_lit 1) (nat_lit 2) (nat_lit 3) (nat_lit 4) (nat_lit 5) (nat_lit 6) (nat_lit 7) k
noncomputable def zwj(k k':IntKind)(t:O):O:=ifK (Nat.beq (kN k) (kN k')) t
theorem zba{k k':IntKind}{t:O}{R:AV×Heap}(h:zwj k k' t=some R):k=k'/\t=some R:=by
 unfold zwj at h;rw[jvd]at h;split at h
 ·rename_i e;refine⟨?_,h⟩;cases k<;>cases k'<;>first | rfl | (simp[kN]at e)
 ·simp at h
theorem zan{b:Bool}{t:O}{R:AV×Heap}(h:ifK b t=some R):b=true/\t=some R:=by
 rw[jvd]at h;split at h
 ·rename_i e;exact⟨e,h⟩
 ·simp at h
theorem zfz{v:AV}{k:IntKind->Int->O}{R:AV×Heap}(h:zli v k=some R):∃a b,v= .int a b/\k a b=some R:=by
 cases v<;>first | exact⟨_,_,rfl,h⟩ | (simp[zli]at h)
theorem zms{v:AV}{k:Bool->O}{R:AV×Heap}(h:zik v k=some R):∃b,v= .bool b/\k b=some R:=by
 cases v<;>first | exact⟨_,rfl,h⟩ | (simp[zik]at h)
theorem qlp{v:AV}{k:List AV->O}{R:AV×Heap}(h:qln v k=some R):∃b,v= .tup b/\k b=some R:=by
 cases v<;>first | exact⟨_,rfl,h⟩ | (simp[qln]at h)
theorem zlj{v:AV}{k:List AV->O}{R:AV×Heap}(h:zwi v k=some R):∃b,v= .agg b/\k b=some R:=by
 cases v<;>first | exact⟨_,rfl,h⟩ | (simp[zwi]at h)
theorem zdg{v:AV}{k:Nat->Nat->O}{k':List AV->Nat->O}{R:AV×Heap}(h:zfg v k k'=some R):(∃a b,v= .ptr a b/\k a b=some R)\/(∃a b,v= .iptr a b/\k' a b=some R):=by
 cases v<;>first | exact .inl ⟨_,_,rfl,h⟩ | exact .inr ⟨_,_,rfl,h⟩ | (simp[zfg]at h)
theorem qco{v:AV}{k:Nat->Nat->Nat->Nat->Option Nat->O}{k':List AV->Nat->Option Nat->O}{R:AV×Heap}(h:onSl v k k'=some R):
  (∃a b c d e,v= .sl a b c d e/\k a b c d e=some R)\/(∃a b c,v= .vec a b c/\k' a b c=some R):=by
 cases v<;>first | exact .inl ⟨_,_,_,_,_,rfl,h⟩ | exact .inr ⟨_,_,_,rfl,h⟩ | (simp[onSl]at h)
theorem zcz{H:Heap}{i:Nat}{k:List AV->O}{R:AV×Heap}(h:blkK H i k=some R):∃cs,getB H i=some cs/\k cs=some R:=by
 rw[jzx]at h;cases hg:getB H i with
 |none=>rw[hg]at h;simp at h
 |some cs=>rw[hg]at h;exact⟨cs,rfl,h⟩
theorem zdv{α:Type}{l:List α}{i:Nat}{k:α->O}{R:AV×Heap}(h:nthK l i k=some R):∃a,l[i]?=some a/\k a=some R:=by
 rw[qll]at h;cases hg:l[i]? with
 |none=>rw[hg]at h;simp at h
 |some a=>rw[hg]at h;exact⟨a,rfl,h⟩
abbrev BinI:=IntKind->IntKind->Int->Int->(AV->O)->O
def zkc(op:BinOp)(f:BinI):Prop:= ∀k k' a b c R,f k k' a b c=some R->∃v,binA op (.int k a) (.int k' b)=some v/\c v=some R
noncomputable def vK(r:Option AV)(k:AV->O):O:=Option.rec (motive:=λ_=>(AV->O)->O) (λ_=>none) (λv k=>nfK v k) r k
theorem qlq{r:Option AV}{k:AV->O}{R:AV×Heap}(h:vK r k=some R):∃v,r=some v/\k v=some R:=by
 cases r with
 |none=>simp[vK]at h
 |some v=>exact⟨v,rfl,by rw[<-h];exact(jve v k).symm⟩
noncomputable def zkd(op:BinOp):BinI:=λk k' a b c=>vK (binA op (.int k a) (.int k' b)) c
theorem zhi(op:BinOp):zkc op (zkd op):=λ_ _ _ _ _ _ h=>qlq h
noncomputable def qvj:BinI:=λk k' a b c=>zwj k k' (wrK k (addI a b) λr=>c (.int k r))
theorem qvk:zkc .add qvj:=by
 intro k k' a b c R h;have e:=(zba h).1;replace h:=(zba h).2;subst e;rw[zry,jzy]at h;exact⟨_,by simp[binA,need],h⟩
noncomputable def xad:BinI:=λk k' a b c=>zwj k k' (wrK k (subI a b) λr=>c (.int k r))
theorem qvl:zkc .sub xad:=by
 intro k k' a b c R h;have e:=(zba h).1;replace h:=(zba h).2;subst e;rw[zry,jzz]at h;exact⟨_,by simp[binA,need],h⟩
noncomputable def xae:BinI:=λk k' a b c=>zwj k k' (wrK k (mulI a b) λr=>c (.int k r))
theorem qvm:zkc .mul xae:=by
 intro k k' a b c R h;have e:=(zba h).1;replace h:=(zba h).2;subst e;rw[zry,xaa]at h;exact⟨_,by simp[binA,need],h⟩
noncomputable def nzI(b:Int):Bool:=Int.rec (motive:=λ_=>Bool) (λm=>Nat.rec (motive:=λ_=>Bool) false (λ_ _=>true) m) (λ_=>true) b
theorem qlr{b:Int}(h:nzI b=true):b≠0:=by
 cases b with
 |ofNat m=>cases m with
  |zero=>simp[nzI]at h
  |succ m=>intro e;simp at e;omega
 |negSucc m=>intro e;simp at e
noncomputable def xaf:BinI:=λk k' a b c=>zwj k k' (ifK (nzI b) (wrK k (quoI a b) λr=>c (.int k r)))
theorem qvn:zkc .quo xaf:=by
 intro k k' a b c R h;have e:=(zba h).1;replace h:=(zba h).2;subst e;obtain⟨hb,h⟩:=zan h;rw[zry,xab]at h;exact⟨_,by simp[binA,need,qlr hb],h⟩
noncomputable def xag:BinI:=λk k' a b c=>zwj k k' (ifK (nzI b) (intK (remI a b) λr=>c (.int k r)))
theorem qvo:zkc .rem xag:=by
 intro k k' a b c R h;have e:=(zba h).1;replace h:=(zba h).2;subst e;obtain⟨hb,h⟩:=zan h;rw[zpl,xac]at h;exact⟨_,by simp[binA,need,qlr hb],h⟩
noncomputable def zeo(f:Int->Int->Bool):BinI:=λk k' a b c=>zwj k k' (boK (f a b) λr=>c (.bool r))
theorem qvp:zkc .eql (zeo eqI):=by
 intro k k' a b c R h;have e:=(zba h).1;replace h:=(zba h).2;subst e;rw[zlh,jvh]at h;exact⟨_,by simp[binA,need],h⟩
noncomputable def neI(a b:Int):Bool:=Bool.rec (motive:=λ_=>Bool) true false (eqI a b)
theorem xxm(a b:Int):neI a b=(a != b):=by
 unfold neI;rw[jvh];cases h:(a == b)<;>simp[bne,h]
theorem qvq:zkc .neq (zeo neI):=by
 intro k k' a b c R h;have e:=(zba h).1;replace h:=(zba h).2;subst e;rw[zlh,xxm]at h;exact⟨_,by simp[binA,need],h⟩
theorem qvr:zkc .lss (zeo ltI):=by
 intro k k' a b c R h;have e:=(zba h).1;replace h:=(zba h).2;subst e;rw[zlh,jvf]at h;exact⟨_,by simp[binA,need],h⟩
theorem qvs:zkc .leq (zeo leI):=by
 intro k k' a b c R h;have e:=(zba h).1;replace h:=(zba h).2;subst e;rw[zlh,jvg]at h;exact⟨_,by simp[binA,need],h⟩
noncomputable def gtI(a b:Int):Bool:=ltI b a
theorem qvt:zkc .gtr (zeo gtI):=by
 intro k k' a b c R h;have e:=(zba h).1;replace h:=(zba h).2;subst e;rw[zlh,gtI,jvf]at h;exact⟨_,by simp[binA,need],h⟩
noncomputable def geI(a b:Int):Bool:=leI b a
theorem qvu:zkc .geq (zeo geI):=by
 intro k k' a b c R h;have e:=(zba h).1;replace h:=(zba h).2;subst e;rw[zlh,geI,jvg]at h;exact⟨_,by simp[binA,need],h⟩
noncomputable def bitN(k:IntKind):Nat:=IntKind.rec (motive:=λ_=>Nat) (nat_lit 8) (nat_lit 16) (nat_lit 32) (nat_lit 64) (nat_lit 8) (nat_lit 16) (nat_lit 32) (nat_lit 64) k
theorem qls(k:IntKind):bitN k=k.bits:=by cases k<;>rfl
noncomputable def bsel(b:Bool)(x y:O):O:=Bool.rec (motive:=λ_=>O->O->O) (λ_ y=>y) (λx _=>x) b x y
theorem zdw{b:Bool}{x y:O}{R:AV×Heap}(h:bsel b x y=some R):(b=true/\x=some R)\/y=some R:=by
 cases b
 ·exact .inr h
 ·exact .inl ⟨rfl,h⟩
noncomputable def xah:BinI:=λk k' a b c=>int2 (λm n=>bsel (Nat.ble n (bitN k)) (natK (Nat.div m (Nat.pow (nat_lit 2) n)) λr=>c (.int k (.ofNat r))) (zkd .shr k k' a b c)) (λ_ _=>zkd .shr k k' a b c) (λ_ _=>zkd .shr k k' a b c) (λ_ _=>zkd .shr k k' a b c) a b
theorem qvv:zkc .shr xah:=by
 intro k k' a b c R h;cases a with
 |negSucc m=>cases b<;>exact zhi .shr _ _ _ _ _ _ h
 |ofNat m=>
  cases b with
  |negSucc n=>exact zhi .shr _ _ _ _ _ _ h
  |ofNat n=>
   rcases zdw (show bsel (Nat.ble n (bitN k)) (natK (Nat.div m (Nat.pow 2 n)) λr=>c (.int k (.ofNat r))) (zkd .shr k k' (.ofNat m) (.ofNat n) c)=some R from h)with⟨hb,h⟩ | h
   ·rw[zbf]at h;rw[qU,qls]at hb;refine⟨_,?_,h⟩;simp only[binA,need];rw[if_pos (by simp),Int.fdiv_eq_ediv_of_nonneg _ (Int.pow_nonneg (by decide))];have:min (Int.ofNat n).toNat k.bits=n:=by show min n k.bits=n;omega
    rw[this]
    have e:Int.ofNat (m.div (Nat.pow 2 n))=Int.ofNat m/2^n:=by
     show((m/2^n:Nat):Int)=(m:Int)/2^n
     simp
    rw[e]
   ·exact zhi .shr _ _ _ _ _ _ h
noncomputable def xai:BinI:=λk k' a b c=>int2 (λm n=>bsel (Nat.ble n (bitN k)) (wrK k (.ofNat (Nat.mul m (Nat.pow (nat_lit 2) n))) λr=>c (.int k r)) (zkd .shl k k' a b c)) (λ_ _=>zkd .shl k k' a b c) (λ_ _=>zkd .shl k k' a b c) (λ_ _=>zkd .shl k k' a b c) a b
theorem qvw:zkc .shl xai:=by
 intro k k' a b c R h;cases a with
 |negSucc m=>cases b<;>exact zhi .shl _ _ _ _ _ _ h
 |ofNat m=>
  cases b with
  |negSucc n=>exact zhi .shl _ _ _ _ _ _ h
  |ofNat n=>
   rcases zdw (show bsel (Nat.ble n (bitN k)) (wrK k (.ofNat (Nat.mul m (Nat.pow 2 n))) λr=>c (.int k r)) (zkd .shl k k' (.ofNat m) (.ofNat n) c)=some R from h)with⟨hb,h⟩ | h
   ·rw[zry]at h;rw[qU,qls]at hb;refine⟨_,?_,h⟩;simp only[binA,need];rw[if_pos (by simp)];have:min (Int.ofNat n).toNat k.bits=n:=by show min n k.bits=n;omega
    rw[this]
    have e:Int.ofNat (m.mul (Nat.pow 2 n))=Int.ofNat m*2^n:=by
     show((m*2^n:Nat):Int)=(m:Int)*2^n
     simp
    rw[e]
   ·exact zhi .shl _ _ _ _ _ _ h
noncomputable def trB:BinOp->BinI
 |.add=>qvj | .sub=>xad | .mul=>xae | .quo=>xaf | .rem=>xag | .eql=>zeo eqI | .neq=>zeo neI | .lss=>zeo ltI | .leq=>zeo leI | .gtr=>zeo gtI | .geq=>zeo geI
 |.shr=>xah | .shl=>xai | op=>zkd op
theorem xxn(op:BinOp):zkc op (trB op):=by
 cases op
 case add=>exact qvk
 case sub=>exact qvl
 case mul=>exact qvm
 case quo=>exact qvn
 case rem=>exact qvo
 case eql=>exact qvp
 case neq=>exact qvq
 case lss=>exact qvr
 case leq=>exact qvs
 case gtr=>exact qvt
 case geq=>exact qvu
 case shr=>exact qvv
 case shl=>exact qvw
 all_goals exact zhi _
inductive Dg where
 |d0
 |d1
 |d2
 |d3
 |d4
 |d5
 |d6
 |d7
 |d8
 |d9
 |d10
 |d11
 |d12
 |d13
 |d14
 |d15
def dg:Nat->Dg
 |0=> .d0
 |1=> .d1
 |2=> .d2
 |3=> .d3
 |4=> .d4
 |5=> .d5
 |6=> .d6
 |7=> .d7
 |8=> .d8
 |9=> .d9
 |10=> .d10
 |11=> .d11
 |12=> .d12
 |13=> .d13
 |14=> .d14
 |_=> .d15
section
variable{α:Type}
noncomputable def N16.sel(t:N16 α)(d:Dg):α:=Dg.rec (motive:=λ_=>N16 α->α) (λt=>t.a0) (λt=>t.a1) (λt=>t.a2) (λt=>t.a3) (λt=>t.a4) (λt=>t.a5) (λt=>t.a6) (λt=>t.a7) (λt=>t.a8) (λt=>t.a9) (λt=>t.a10) (λt=>t.a11) (λt=>t.a12) (λt=>t.a13) (λt=>t.a14) (λt=>t.a15) d t
theorem N16.sel_dg(t:N16 α):∀i,i<16->t.sel (dg i)=t.nth i
 |0,_=>rfl
 |1,_=>rfl
 |2,_=>rfl
 |3,_=>rfl
 |4,_=>rfl
 |5,_=>rfl
 |6,_=>rfl
 |7,_=>rfl
 |8,_=>rfl
 |9,_=>rfl
 |10,_=>rfl
 |11,_=>rfl
 |12,_=>rfl
 |13,_=>rfl
 |14,_=>rfl
 |15,_=>rfl
 |n+16,h=>absurd h (by omega)
end
abbrev FR:=Dg->Dg->Dg->List AV->Heap->O
abbrev Kn:=E16->Heap->O
abbrev Kx:=Exit->E16->Heap->O
abbrev OR:=FR->Nat->Kn->E16->Heap->O
abbrev RunT:=FR->Nat->Kn->Kx->E16->Heap->O
def frun(c:FR):FRun:=λf args H=>match Nat.blt f 4096 with
 |true=>c (dg (f/256)) (dg (f/16%16)) (dg (f%16)) args H
 |false=>none
def opBE(ok:FuncId->Bool)(call:qlg)(n0:Nat)(k:CK)(E:Env)(H:Heap):Option CRes:=
 match k with
 |.call f args=>call f (args.map (val E)) H
 |.callc x args=>match val E x with
  |.clo f caps=>if okC ok f=true then call (cloF f) (cloA f (args.map (val E)) caps) H else none
  |_=>none
 |k=>match evK n0 H.length k (val E) H with
  |some (v,e,rd)=>some (v,e,rd,cntK k)
  |none=>none
inductive CallS(f0:FRun)(f:FuncId)(args:List AV)(H:Heap):AV->Eff->List Nat->Nat->Prop
 |pure (v:AV) (h1:AV.closed.closedL args=true) (h2:f0 f args []=some (v,[])) (h3:v.closed=true):CallS f0 f args H v [] [] 0
 |gen (ids:List Nat) (v:AV) (H':Heap) (h1:AV.inn.innL ids args=true) (h2:qli ids H=true) (h3:f0 f (args.map (AV.ren (pos ids))) (subH ids H)=some (v,H')):
   CallS f0 f args H (v.ren (zag ids H.length)) (effs (zag ids H.length) 0 H') ids (H'.length-ids.length)
 |thin {v:AV} {e:Eff} {rd:List Nat} {c:Nat} (p:Nat->Bool) (h:CallS f0 f args H v e rd c) (hp:∀x∈e,p x.1=false->x.1∈rd/\∃cs,x.2=some cs/\getB H x.1=some cs):CallS f0 f args H v (e.filter λx=>p x.1) rd c
theorem CallS.sound{P:Program}{Γ:Glob}{f0:FRun}(h0:∀f args H v H',f0 f args H=some (v,H')->Ret P Γ f args H v H'){f:FuncId}{args:List AV}{H:Heap}{v:AV}{e:Eff}{rd:List Nat}{c:Nat}(h:CallS f0 f args H v e rd c):
  CallR P Γ f args H.length (H++List.replicate c none) v e rd c:=by
 induction h with
 |thin p h hp ih=>exact .thin p ih (λx hx hpx=>by obtain⟨h1,cs,h2,h3⟩:=hp x hx hpx;exact⟨h1,cs,h2,by rw[zlc];exact h3⟩)
 |pure v h1 h2 h3=>exact CallR.pure (h0 _ _ _ _ _ h2) h1 h3
 |gen rd v H' h1 h2 hr=>
  simp only[qli,qZ,qE]at h2;obtain⟨h2,h3⟩:=h2
  have hblk:∀i∈rd,∃cs,getB H i=some cs/\AV.inn.innL rd cs=true:=by
   intro i hi;have:=h3 i hi;split at this
   ·rename_i cs e;exact⟨cs,e,this⟩
   ·simp at this
  obtain⟨g1,g2⟩:=zpi rd H.length args h1;have hl:(subH rd H).length=rd.length:=by simp[subH]
  have:=CallR0.mk (P:=P) (Γ:=Γ) (f:=f) (args:=args) (k:=H.length) (H:=H++List.replicate (H'.length-rd.length) none) rd (args.map (AV.ren (pos rd))) (subH rd H) v H' (h0 _ _ _ _ _ hr) hl.symm (zpj _ h2)
   (λi hi=>by obtain⟨cs,e,_⟩:=hblk i hi;exact(ztu e).1) g1.symm g2 (by
    intro i c hi;simp only[subH,qA,qY]at hi;obtain⟨j,hj,rfl⟩:=hi
    have hil:i<rd.length:=by
     rcases qV i rd.length with h' | h'
     ·exact h'
     ·rw[qJ h']at hj;simp at hj
    have hjm:j∈rd:=xV hj;obtain⟨cs,e,hin⟩:=hblk j hjm;obtain⟨b1,b2⟩:=zpi rd H.length cs hin;refine⟨cs.map (AV.ren (pos rd)),by rw[e];rfl,b2,?_⟩
    have hn:zag rd H.length i=j:=by
     rw[List.getElem?_eq_getElem hil]at hj;simp at hj;simp[zag,hil,hj]
    rw[hn,qH (ztu e).1,(ztu e).2,e];simp only[renB,b1])
  rw[hl]at this;exact .base this
theorem qlt{f0:FRun}{f:FuncId}{args:List AV}{H:Heap}{v:AV}{e:Eff}{rd:List Nat}{c:Nat}(h:qlj f0 f args H=some (v,e,rd,c)):CallS f0 f args H v e rd c:=by
 unfold qlj at h;split at h
 ·rename_i ha;split at h
  ·rename_i v' hr;split at h
   ·rename_i hcl;simp only[qK,Prod.mk.injEq]at h;obtain⟨rfl,rfl,rfl,rfl⟩:=h;exact .pure _ ha hr hcl
   ·simp at h
  ·rename_i v' b r hr;simp only[qK,Prod.mk.injEq]at h;obtain⟨rfl,rfl,rfl,rfl⟩:=h
   have inn0:∀l:List AV,AV.closed.closedL l=true->AV.inn.innL [] l=true:=by
    have one:∀a:AV,a.closed=true->a.inn []=true:=by
     intro a
     induction a using AV.rec (motive_2:=λl=>AV.closed.closedL l=true->AV.inn.innL [] l=true)with
     |sl id off n sz c=>intro h;simp[AV.closed]at h
     |ptr id off=>intro h;simp[AV.closed]at h
     |clo f cs ih=>intro h;simp only[AV.closed]at h;simp only[AV.inn];exact ih h
     |agg cs ih=>intro h;simp only[AV.closed]at h;simp only[AV.inn];exact ih h
     |tup cs ih=>intro h;simp only[AV.closed]at h;simp only[AV.inn];exact ih h
     |nil=>rfl
     |cons a l ha hl=>
      rename_i h;simp only[AV.closed.closedL,qZ]at h;simp only[AV.inn.innL,qZ];exact⟨ha h.1,hl h.2⟩
     |_=>intro _;rfl
    intro l
    induction l with
    |nil=>intro _;rfl
    |cons a l ih=>
     intro h;simp only[AV.closed.closedL,qZ]at h;simp only[AV.inn.innL,qZ];exact⟨one a h.1,ih h.2⟩
   exact .gen [] v' (b::r) (inn0 _ ha) rfl (by rw[zaq _ _ ha];exact hr)
  ·simp at h
 ·simp only at h;generalize hids:qlh 200 H [] (AV.ids.idsL args)=ids at h;split at h
  ·rename_i hok;split at h
   ·rename_i v' H' hr;simp only[qK,Prod.mk.injEq]at h;obtain⟨rfl,rfl,rfl,rfl⟩:=h;exact .gen ids v' H' hok.1 hok.2 hr
   ·simp at h
  ·simp at h
def opBP(ok:FuncId->Bool)(f0:FRun)(n0:Nat)(k:CK)(E:Env)(H:Heap)(v:AV)(e:Eff)(rd:List Nat)(c:Nat):Prop:=
 match k with
 |.call f args=>CallS f0 f (args.map (val E)) H v e rd c
 |.callc x args=>∃f caps,val E x= .clo f caps/\okC ok f=true/\CallS f0 (cloF f) (cloA f (args.map (val E)) caps) H v e rd c
 |k=>evK n0 H.length k (val E) H=some (v,e,rd)/\c=cntK k
def opSP(ok:FuncId->Bool)(f0:FRun)(n0:Nat)(o:COp)(E:Env)(H:Heap)(v:AV)(e:Eff)(rd:List Nat)(c:Nat):Prop:=
 match o.g with
 |none=>opBP ok f0 n0 o.k E H v e rd c
 |some (d,want)=>∃b,gdB (E d) want=some b/\(b=true->opBP ok f0 n0 o.k E H v e rd c)/\(b=false->v= .tup []/\e=[]/\rd=[]/\c=0)
theorem jvi{ok:FuncId->Bool}{f0:FRun}{n0:Nat}{k:CK}{E:Env}{H:Heap}{v:AV}{e:Eff}{rd:List Nat}{c:Nat}(h:opBE ok (qlj f0) n0 k E H=some (v,e,rd,c)):opBP ok f0 n0 k E H v e rd c:=by
 cases k<;>simp only[opBE]at h
 case call f args=>exact qlt h
 case callc x args=>
  split at h
  ·rename_i f caps hx;split at h
   ·rename_i ho;exact⟨f,caps,hx,ho,qlt h⟩
   ·simp at h
  ·simp at h
 all_goals
  split at h
  ·rename_i v' e' rd' hev;simp only[qK,Prod.mk.injEq]at h;obtain⟨rfl,rfl,rfl,rfl⟩:=h;exact⟨hev,rfl⟩
  ·simp at h
def Good(ok:FuncId->Bool)(o:COp)(f:OR->OR):Prop:= ∀next c n kn E H R,f next c n kn E H=some R->
 ∃v e rd cc,opSP ok (frun c) n o (E16.env E) H v e rd cc/\next c n kn (E16.setO E o.dst v) (zaf e (padH H cc))=some R
section
variable{ok:FuncId->Bool}{dd:Option Nat}
theorem zpm{k:CK}{c:FR}{n:Nat}{kn:Kn}{E:E16}{H:Heap}{R:AV×Heap}{next:OR}{v:AV}{e:Eff}{rd:List Nat}(hev:evK n H.length k (val E.env) H=some (v,e,rd))(h:next c n kn (E.setO dd v) (zaf e (padH H (cntK k)))=some R):
  ∃v e rd cc,opSP ok (frun c) n ⟨dd,none,k⟩ E.env H v e rd cc/\next c n kn (E.setO dd v) (zaf e (padH H cc))=some R:=by
 refine⟨v,e,rd,cntK k,?_,h⟩;simp only[opSP];cases k<;>first | (simp[evK]at hev;done) | exact⟨hev,rfl⟩
theorem zbb{k:CK}{c:FR}{n:Nat}{kn:Kn}{E:E16}{H:Heap}{R:AV×Heap}{next:OR}{v:AV}{rd:List Nat}(hc:cntK k=0)(hev:evK n H.length k (val E.env) H=some (v,[],rd))(h:next c n kn (E.setO dd v) H=some R):
  ∃v e rd cc,opSP ok (frun c) n ⟨dd,none,k⟩ E.env H v e rd cc/\next c n kn (E.setO dd v) (zaf e (padH H cc))=some R:=
 zpm hev (by rw[hc];exact h)
noncomputable def zdh(d:ST)(x:GT)(next:OR):OR:=λc n kn E H=>fv (x E) λv=>d E v λE=>next c n kn E H
theorem qvx(hd:okD dd=true)(x:Opd):Good ok ⟨dd,none,.mov x⟩ (zdh (trD dd) (trG x)):=by
 intro next c n kn E H R h
 simp only[zdh,qlo,zbe hd,zay]at h;exact zbb rfl (by simp only[evK];rfl) h
noncomputable def qvy(t:Bool)(a b:AV):AV:=Bool.rec (motive:=λ_=>AV->AV->AV) (λ_ b=>b) (λa _=>a) t a b
theorem qvz(t:Bool)(a b:AV):qvy t a b=if t then a else b:=by cases t<;>rfl
noncomputable def zhx(d:ST)(x a b:GT)(next:OR):OR:=λc n kn E H=>zik (x E) λt=>fv (qvy t (a E) (b E)) λv=>d E v λE=>next c n kn E H
theorem qlu(hd:okD dd=true)(x a b:Opd):Good ok ⟨dd,none,.pick x a b⟩ (zhx (trD dd) (trG x) (trG a) (trG b)):=by
 intro next c n kn E H R h
 obtain⟨t,ht,h⟩:=zms h;rw[zay]at ht;simp only[qlo,zbe hd,zay,qvz]at h;exact zbb rfl (by simp only[evK,ht];rfl) h
noncomputable def boxK(v:AV)(k:List AV->O):O:=AV.rec (motive_1:=λ_=>(List AV->O)->O) (motive_2:=λ_=>Unit) (λb k=>k [.bool b]) (λa b k=>k [.int a b]) (λs k=>k [.str s]) (λcs n c _ k=>k [.vec cs n c]) (λa b c d e k=>k [.sl a b c d e]) (λa b k=>k [.ptr a b]) (λcs p _ k=>k [.iptr cs p]) (λf cs _ k=>k [.clo f cs]) (λcs _ k=>k cs) (λ_ _ _=>none) (λk=>k [.anyb]) (λ_=>none) () (λ_ _ _ _=>()) v k
theorem qcp{v:AV}{k:List AV->O}{R:AV×Heap}(h:boxK v k=some R):v.firm=true/\k v.cells=some R:=by
 cases v<;>first | exact⟨rfl,h⟩ | (simp[boxK]at h)
theorem set_snoc(H:Heap)(x:Option (List AV)):(padH H 1).set H.length x=H++[x]:=by
 simp[padH]
noncomputable def zke(d:ST)(x:GT)(next:OR):OR:=λc n kn E H=>boxK (x E) λcs=>lenK H λm=>qgj H (some cs) λH'=>d E (.ptr m 0) λE=>next c n kn E H'
theorem qwa(hd:okD dd=true)(x:Opd):Good ok ⟨dd,none,.box x⟩ (zke (trD dd) (trG x)):=by
 intro next c n kn E H R h
 obtain⟨hf,h⟩:=qcp h;simp only[zay]at hf h;simp only[zet,znz,zbe hd]at h;exact zpm (v:= .ptr H.length 0) (e:=[(H.length,some (val E.env x).cells)]) (rd:=[]) (by simp only[evK,hf,need,if_true]) (by simp only[cntK,zaf,set_snoc];exact h)
noncomputable def zdi(d:ST)(x:GT)(next:OR):OR:=λc n kn E H=>zfg (x E) (λid off=>blkK H id λcs=>nthK cs off λv=>d E v λE=>next c n kn E H) (λcs p=>nthK cs p λv=>d E v λE=>next c n kn E H)
theorem qlv(hd:okD dd=true)(x:Opd):Good ok ⟨dd,none,.load false 1 x⟩ (zdi (trD dd) (trG x)):=by
 intro next c n kn E H R h
 have key:∀(cs:List AV) (p:Nat) (v:AV),cs[p]?=some v->p+1<=cs.length/\ldv false 1 p cs=v:=by
  intro cs p v hv
  have hl:p<cs.length:=by
   rcases qV p cs.length with h' | h'
   ·exact h'
   ·rw[qJ h']at hv;simp at hv
  exact⟨hl,by simp[ldv,qW,hv]⟩
 rcases zdg h with⟨id,off,hx,h⟩ | ⟨cs,p,hx,h⟩
 ·obtain⟨cs,hg,h⟩:=zcz h;obtain⟨v,hv,h⟩:=zdv h;rw[zay]at hx;rw[zbe hd]at h;obtain⟨h1,h2⟩:=key _ _ _ hv;exact zbb rfl (by simp only[evK,hx,hg,need,h1,h2];simp;rfl) h
 ·obtain⟨v,hv,h⟩:=zdv h;rw[zay]at hx;rw[zbe hd]at h;obtain⟨h1,h2⟩:=key _ _ _ hv;exact zbb rfl (by simp only[evK,hx,need,h1,h2];simp;rfl) h
noncomputable def zwk(l:List AV)(n:Nat)(k:List AV->O):O:=
 List.rec (motive:=λ_=>Nat->(List AV->O)->O) (λn k=>Nat.rec (motive:=λ_=>(List AV->O)->O) (λk=>k []) (λ_ _ _=>none) n k)
  (λa _ ih n k=>Nat.rec (motive:=λ_=>AV->(Nat->(List AV->O)->O)->(List AV->O)->O) (λ_ _ k=>k []) (λp _ a ih k=>ih p λr=>k (a::r)) n a ih k) l n k
theorem zwl:∀{l:List AV} {n:Nat} {k:List AV->O} {R:AV×Heap},zwk l n k=some R->n<=l.length/\k (l.take n)=some R:=by
 intro l
 induction l with
 |nil=>
  intro n k R h;cases n with
  |zero=>exact⟨qT _,h⟩
  |succ n=>simp[zwk]at h
 |cons a l ih=>
  intro n k R h;cases n with
  |zero=>exact⟨xD _,h⟩
  |succ n=>
   obtain⟨h1,h2⟩:=ih (show zwk l n (λr=>k (a::r))=some R from h);exact⟨by simp;omega,by simpa using h2⟩
noncomputable def cutK(l:List AV)(off n:Nat)(k:List AV->O):O:=
 List.rec (motive:=λ_=>Nat->Nat->(List AV->O)->O) (λoff n k=>Nat.rec (motive:=λ_=>Nat->(List AV->O)->O) (λn k=>zwk [] n k) (λ_ _ _ _=>none) off n k)
  (λa r ih off n k=>Nat.rec (motive:=λ_=>AV->List AV->(Nat->Nat->(List AV->O)->O)->Nat->(List AV->O)->O) (λa r _ n k=>zwk (a::r) n k) (λp _ _ _ ih n k=>ih p n k) off a r ih n k) l off n k
theorem zhj:∀{l:List AV} {off n:Nat} {k:List AV->O} {R:AV×Heap},cutK l off n k=some R->off+n<=l.length/\k ((l.drop off).take n)=some R:=by
 intro l
 induction l with
 |nil=>
  intro off n k R h;cases off with
  |zero=>
   obtain⟨h1,h2⟩:=zwl (show zwk [] n k=some R from h);exact⟨by simpa using h1,by simpa using h2⟩
  |succ off=>simp[cutK]at h
 |cons a l ih=>
  intro off n k R h;cases off with
  |zero=>
   obtain⟨h1,h2⟩:=zwl (show zwk (a::l) n k=some R from h);exact⟨by omega,by simpa using h2⟩
  |succ off=>
   obtain⟨h1,h2⟩:=ih (show cutK l off n k=some R from h);exact⟨by simp;omega,by simpa using h2⟩
noncomputable def zfh(sz:Nat)(d:ST)(x:GT)(next:OR):OR:=λc n kn E H=>zfg (x E) (λid off=>blkK H id λcs=>cutK cs off sz λv=>d E (.agg v) λE=>next c n kn E H) (λcs p=>cutK cs p sz λv=>d E (.agg v) λE=>next c n kn E H)
theorem qgl(hd:okD dd=true)(sz:Nat)(x:Opd):Good ok ⟨dd,none,.load true sz x⟩ (zfh sz (trD dd) (trG x)):=by
 intro next c n kn E H R h
 rcases zdg h with⟨id,off,hx,h⟩ | ⟨cs,p,hx,h⟩
 ·obtain⟨cs,hg,h⟩:=zcz h;obtain⟨h1,h⟩:=zhj h;rw[zay]at hx;rw[zbe hd]at h;exact zbb rfl (by simp only[evK,hx,hg,need,h1,ldv];simp;rfl) h
 ·obtain⟨h1,h⟩:=zhj h;rw[zay]at hx;rw[zbe hd]at h;exact zbb rfl (by simp only[evK,hx,need,h1,ldv];simp;rfl) h
noncomputable def scK(v:AV)(k:AV->O):O:=AV.rec (motive_1:=λ_=>(AV->O)->O) (motive_2:=λ_=>Unit) (λb k=>k (.bool b)) (λa b k=>k (.int a b)) (λs k=>k (.str s)) (λcs n c _ k=>k (.vec cs n c)) (λa b c d e k=>k (.sl a b c d e)) (λa b k=>k (.ptr a b)) (λcs p _ k=>k (.iptr cs p)) (λf cs _ k=>k (.clo f cs)) (λ_ _ _=>none) (λ_ _ _=>none) (λk=>k .anyb) (λ_=>none) () (λ_ _ _ _=>()) v k
theorem qlw{v:AV}{k:AV->O}{R:AV×Heap}(h:scK v k=some R):v.firm=true/\v.cells=[v]/\v.scal=true/\k v=some R:=by
 cases v<;>first | exact⟨rfl,rfl,rfl,h⟩ | (simp[scK]at h)
noncomputable def sc2K(v:AV)(k:AV->O):O:=AV.rec (motive_1:=λ_=>(AV->O)->O) (motive_2:=λ_=>Unit) (λb k=>k (.bool b)) (λa b k=>k (.int a b)) (λs k=>k (.str s)) (λcs n c _ k=>k (.vec cs n c)) (λa b c d e k=>k (.sl a b c d e)) (λa b k=>k (.ptr a b)) (λcs p _ k=>k (.iptr cs p)) (λf cs _ k=>k (.clo f cs)) (λcs _ k=>List.rec (motive:=λ_=>(AV->O)->O) (λ_=>none) (λx r _ k=>List.rec (motive:=λ_=>AV->(AV->O)->O) (λx k=>scK x k) (λ_ _ _ _ _=>none) r x k) cs k) (λ_ _ _=>none) (λk=>k .anyb) (λ_=>none) () (λ_ _ _ _=>()) v k
theorem qcq{v:AV}{k:AV->O}{R:AV×Heap}(h:sc2K v k=some R):∃x,v.firm=true/\v.cells=[x]/\x.scal=true/\k x=some R:=by
 cases v<;>first | exact⟨_,rfl,rfl,rfl,h⟩ | skip
 case agg cs=>
  cases cs with
  |nil=>exact absurd (show(none:O)=some R from h) (by simp)
  |cons x r=>
   cases r with
   |cons y r=>exact absurd (show(none:O)=some R from h) (by simp)
   |nil=>
    obtain⟨_,_,h3,h4⟩:=qlw (show scK x k=some R from h);exact⟨x,rfl,rfl,h3,h4⟩
 all_goals exact absurd (show(none:O)=some R from h) (by simp)
noncomputable def zfi(x y:GT)(next:OR):OR:=λc n kn E H=>zfg (x E) (λid off=>blkK H id λcs=>sc2K (y E) λw=>nthK cs off λ_=>putK cs off w λcs=>putK H id (some cs) λH=>next c n kn E H) (λ_ _=>none)
theorem qgm(x y:Opd):Good ok ⟨none,none,.store 1 x y⟩ (zfi (trG x) (trG y)):=by
 intro next c n kn E H R h
 rcases zdg h with⟨id,off,hx,h⟩ | ⟨cs,p,hx,h⟩
 ·obtain⟨cs,hg,h⟩:=zcz h;obtain⟨z,h1,h2,h3,h⟩:=qcq h;obtain⟨v,hv,h⟩:=zdv h;rw[zay]at hx;rw[zay]at h1 h2;simp only[zff]at h
  have hl:off<cs.length:=by
   rcases qV off cs.length with h' | h'
   ·exact h'
   ·rw[qJ h']at hv;simp at hv
  refine zpm (v:= .junk) (e:=[(id,some (cs.set off z))]) (rd:=[id]) ?_ (by simp only[cntK,padH,zaf,E16.setO];exact h);simp only[evK,hx,hg,need,h1,h2,AV.scalL,h3,setL];simp;omega
 ·simp at h
noncomputable def zpn(d:ST)(x:GT)(next:OR):OR:=λc n kn E H=>zfg (x E) (λa b=>d E (.ptr a b) λE=>next c n kn E H) (λa b=>d E (.iptr a b) λE=>next c n kn E H)
theorem qgn(hd:okD dd=true)(x:Opd):Good ok ⟨dd,none,.nilck x⟩ (zpn (trD dd) (trG x)):=by
 intro next c n kn E H R h
 rcases zdg h with⟨id,off,hx,h⟩ | ⟨cs,p,hx,h⟩<;>rw[zay]at hx<;>rw[zbe hd]at h<;>exact zbb rfl (by simp only[evK,hx];rfl) h
noncomputable def qlx(v:AV)(k:IntKind->Int->O)(z:O):O:=AV.rec (motive_1:=λ_=>(IntKind->Int->O)->O->O) (motive_2:=λ_=>Unit) (λ_ _ z=>z) (λa b k _=>k a b) (λ_ _ z=>z) (λ_ _ _ _ _ z=>z) (λ_ _ _ _ _ _ z=>z) (λ_ _ _ z=>z) (λ_ _ _ _ z=>z) (λ_ _ _ _ z=>z) (λ_ _ _ z=>z) (λ_ _ _ z=>z) (λ_ z=>z) (λ_ z=>z) () (λ_ _ _ _=>()) v k z
theorem qgo{v:AV}{k:IntKind->Int->O}{z:O}{R:AV×Heap}(h:qlx v k z=some R):(∃a b,v= .int a b/\k a b=some R)\/z=some R:=by
 cases v<;>first | exact .inl ⟨_,_,rfl,h⟩ | exact .inr h
noncomputable def zjr(op:BinOp)(f:BinI)(d:ST)(x y:GT)(next:OR):OR:=λc n kn E H=>qlx (x E) (λk a=>zli (y E) λk' b=>f k k' a b λv=>d E v λE=>next c n kn E H) (vK (binA op (x E) (y E)) λv=>d E v λE=>next c n kn E H)
theorem qwb(hd:okD dd=true)(op:BinOp)(x y:Opd):Good ok ⟨dd,none,.bin op x y⟩ (zjr op (trB op) (trD dd) (trG x) (trG y)):=by
 intro next c n kn E H R h
 rcases qgo h with⟨k,a,hx,h⟩ | h
 ·obtain⟨k',b,hy,h⟩:=zfz h;obtain⟨v,hv,h⟩:=xxn op _ _ _ _ _ _ h;rw[zay]at hx hy;rw[zbe hd]at h;exact zbb rfl (by simp only[evK,hx,hy,hv];rfl) h
 ·obtain⟨v,hv,h⟩:=qlq h;rw[zay,zay]at hv;rw[zbe hd]at h;exact zbb rfl (by simp only[evK,hv];rfl) h
noncomputable def beqB(neg a b:Bool):Bool:=Bool.rec (motive:=λ_=>Bool->Bool->Bool) (λa b=>Bool.rec (motive:=λ_=>Bool->Bool) (λb=>Bool.rec (motive:=λ_=>Bool) true false b) (λb=>b) a b) (λa b=>Bool.rec (motive:=λ_=>Bool->Bool) (λb=>b) (λb=>Bool.rec (motive:=λ_=>Bool) true false b) a b) neg a b
theorem xaj(neg a b:Bool):beqB neg a b=if neg then !(a == b)else(a == b):=by cases neg<;>cases a<;>cases b<;>rfl
noncomputable def qly(neg:Bool)(d:ST)(x y:GT)(next:OR):OR:=λc n kn E H=>zik (x E) λa=>zik (y E) λb=>boK (beqB neg a b) λr=>d E (.bool r) λE=>next c n kn E H
theorem qwc(hd:okD dd=true)(neg:Bool)(x y:Opd):Good ok ⟨dd,none,.beq neg x y⟩ (qly neg (trD dd) (trG x) (trG y)):=by
 intro next c n kn E H R h
 obtain⟨a,hx,h⟩:=zms h;obtain⟨b,hy,h⟩:=zms h;rw[zay]at hx hy;rw[zlh,xaj,zbe hd]at h;exact zbb rfl (by simp only[evK,hx,hy];rfl) h
noncomputable def o_un(op:UnOp)(d:ST)(x:GT)(next:OR):OR:=λc n kn E H=>vK (unA op (x E)) λv=>d E v λE=>next c n kn E H
theorem xak(hd:okD dd=true)(op:UnOp)(x:Opd):Good ok ⟨dd,none,.un op x⟩ (o_un op (trD dd) (trG x)):=by
 intro next c n kn E H R h
 obtain⟨v,hv,h⟩:=qlq h;rw[zay]at hv;rw[zbe hd]at h;exact zbb rfl (by simp only[evK,hv];rfl) h
noncomputable def zwm(k:IntKind)(d:ST)(x:GT)(next:OR):OR:=λc n kn E H=>zli (x E) λ_ a=>wrK k a λr=>d E (.int k r) λE=>next c n kn E H
theorem qlz(hd:okD dd=true)(k:IntKind)(x:Opd):Good ok ⟨dd,none,.conv k x⟩ (zwm k (trD dd) (trG x)):=by
 intro next c n kn E H R h
 obtain⟨k',a,hx,h⟩:=zfz h;rw[zay]at hx;rw[zry,zbe hd]at h;exact zbb rfl (by simp only[evK,hx];rfl) h
noncomputable def zil(off:Nat)(d:ST)(x:GT)(next:OR):OR:=λc n kn E H=>zfg (x E) (λa b=>natK (Nat.add b off) λb=>d E (.ptr a b) λE=>next c n kn E H) (λa b=>natK (Nat.add b off) λb=>d E (.iptr a b) λE=>next c n kn E H)
theorem qwd(hd:okD dd=true)(off:Nat)(x:Opd):Good ok ⟨dd,none,.fld off x⟩ (zil off (trD dd) (trG x)):=by
 intro next c n kn E H R h
 rcases zdg h with⟨id,o,hx,h⟩ | ⟨cs,p,hx,h⟩<;>rw[zay]at hx<;>rw[zbf,zbe hd]at h<;>exact zbb rfl (by simp only[evK,hx];rfl) h
noncomputable def zwn(off:Nat)(d:ST)(x:GT)(next:OR):OR:=λc n kn E H=>zwi (x E) λcs=>nthK cs off λv=>d E v λE=>next c n kn E H
theorem qma(hd:okD dd=true)(off:Nat)(x:Opd):Good ok ⟨dd,none,.part false 1 off x⟩ (zwn off (trD dd) (trG x)):=by
 intro next c n kn E H R h
 obtain⟨cs,hx,h⟩:=zlj h;obtain⟨v,hv,h⟩:=zdv h;rw[zay]at hx;rw[zbe hd]at h
 have hl:off<cs.length:=by
  rcases qV off cs.length with h' | h'
  ·exact h'
  ·rw[qJ h']at hv;simp at hv
 exact zbb (v:=v) rfl (by simp only[evK,hx,need,ldv,qW,hv];simp;exact⟨hl,rfl⟩) h
noncomputable def zpo(sz off:Nat)(d:ST)(x:GT)(next:OR):OR:=λc n kn E H=>zwi (x E) λcs=>cutK cs off sz λv=>d E (.agg v) λE=>next c n kn E H
theorem qgp(hd:okD dd=true)(sz off:Nat)(x:Opd):Good ok ⟨dd,none,.part true sz off x⟩ (zpo sz off (trD dd) (trG x)):=by
 intro next c n kn E H R h
 obtain⟨cs,hx,h⟩:=zlj h;obtain⟨h1,h⟩:=zhj h;rw[zay]at hx;rw[zbe hd]at h;exact zbb (rd:=[]) rfl (by simp only[evK,hx,need,ldv];simp;exact h1) h
noncomputable def inxK(j:Int)(n:Nat)(k:Nat->O):O:=Int.rec (motive:=λ_=>Nat->(Nat->O)->O) (λm n k=>ifK (Nat.ble (Nat.succ m) n) (k m)) (λ_ _ _=>none) j n k
theorem qcr{j:Int}{n:Nat}{k:Nat->O}{R:AV×Heap}(h:inxK j n k=some R):(0<=j/\j<n)/\k j.toNat=some R:=by
 cases j with
 |ofNat m=>
  obtain⟨h1,h2⟩:=zan (show ifK (Nat.ble (Nat.succ m) n) (k m)=some R from h);rw[qU]at h1;exact⟨⟨by simp,by simp;omega⟩,h2⟩
 |negSucc m=>simp[inxK]at h
noncomputable def qgq(sz:Nat)(d:ST)(x i:GT)(next:OR):OR:=λc n kn E H=>onSl (x E)
 (λid off m s _=>zli (i E) λ_ j=>inxK j m λj=>ifK (Nat.beq s sz) (natK (Nat.add off (Nat.mul j sz)) λo=>d E (.ptr id o) λE=>next c n kn E H))
 (λcs m _=>zli (i E) λ_ j=>inxK j m λj=>natK (Nat.mul j sz) λo=>d E (.iptr cs o) λE=>next c n kn E H)
theorem qwe(hd:okD dd=true)(sz:Nat)(x i:Opd):Good ok ⟨dd,none,.idx sz x i⟩ (qgq sz (trD dd) (trG x) (trG i)):=by
 intro next c n kn E H R h
 rcases qco h with⟨id,off,m,s,q,hx,h⟩ | ⟨cs,m,q,hx,h⟩
 ·obtain⟨k,j,hj,h⟩:=zfz h;obtain⟨h1,h⟩:=qcr h;obtain⟨h2,h⟩:=zan h;have h2:=qX h2;rw[zay]at hx hj;rw[zbf,zbe hd]at h;exact zbb rfl (by simp only[evK,hx,hj,need,h2,h1,and_self,if_true];rfl) h
 ·obtain⟨k,j,hj,h⟩:=zfz h;obtain⟨h1,h⟩:=qcr h;rw[zay]at hx hj;rw[zbf,zbe hd]at h;exact zbb rfl (by simp only[evK,hx,hj,need,h1,and_self,if_true];rfl) h
noncomputable def zkf(i:Nat)(d:ST)(x:GT)(next:OR):OR:=λc n kn E H=>qln (x E) λvs=>nthK vs i λv=>fv v λv=>d E v λE=>next c n kn E H
theorem qwf(hd:okD dd=true)(i:Nat)(x:Opd):Good ok ⟨dd,none,.ext x i⟩ (zkf i (trD dd) (trG x)):=by
 intro next c n kn E H R h
 obtain⟨vs,hx,h⟩:=qlp h;obtain⟨v,hv,h⟩:=zdv h;rw[zay]at hx;rw[qlo,zbe hd]at h;exact zbb rfl (by simp only[evK,hx,hv];rfl) h
noncomputable def zwo(d:ST)(x:GT)(next:OR):OR:=λc n kn E H=>onSl (x E) (λ_ _ m _ _=>d E (.int .i64 (.ofNat m)) λE=>next c n kn E H) (λ_ m _=>d E (.int .i64 (.ofNat m)) λE=>next c n kn E H)
theorem qwg(hd:okD dd=true)(x:Opd):Good ok ⟨dd,none,.len false x⟩ (zwo (trD dd) (trG x)):=by
 intro next c n kn E H R h
 rcases qco h with⟨id,off,m,s,q,hx,h⟩ | ⟨cs,m,q,hx,h⟩<;>rw[zay]at hx<;>rw[zbe hd]at h<;>exact zbb rfl (by simp only[evK,hx];rfl) h
noncomputable def bsK(b:Option (List AV))(k:Option (List AV)->O):O:=Option.rec (motive:=λ_=>(Option (List AV)->O)->O) (λk=>k none) (λcs k=>spK cs λcs=>k (some cs)) b k
theorem xxo(b:Option (List AV))(k:Option (List AV)->O):bsK b k=k b:=by
 cases b with
 |none=>rfl
 |some cs=>exact zgu cs _
noncomputable def effK(e:Eff)(H:Heap)(k:Heap->O):O:=
 List.rec (motive:=λ_=>Heap->(Heap->O)->O) (λH k=>k H) (λp _ ih H k=>Prod.rec (motive:=λ_=>(Heap->(Heap->O)->O)->Heap->(Heap->O)->O) (λi b ih H k=>bsK b λb=>putK H i b λH=>ih H k) p ih H k) e H k
theorem xal:∀(e:Eff) (H:Heap) (k:Heap->O),effK e H k=k (zaf e H):=by
 intro e
 induction e with
 |nil=>intro H k;rfl
 |cons p e ih=>
  intro H k;obtain⟨i,b⟩:=p
  show bsK b (λb=>putK H i b λH=>effK e H k)=_
  rw[xxo,zff,ih];rfl
noncomputable def resK(r:Option CRes)(k:AV->Eff->List Nat->Nat->O):O:=
 Option.rec (motive:=λ_=>(AV->Eff->List Nat->Nat->O)->O) (λ_=>none) (λp k=>Prod.rec (motive:=λ_=>(AV->Eff->List Nat->Nat->O)->O) (λv q k=>Prod.rec (motive:=λ_=>AV->(AV->Eff->List Nat->Nat->O)->O) (λe q v k=>Prod.rec (motive:=λ_=>Eff->AV->(AV->Eff->List Nat->Nat->O)->O) (λrd cc e v k=>k v e rd cc) q e v k) q v k) p k) r k
theorem qcs{r:Option CRes}{k:AV->Eff->List Nat->Nat->O}{R:AV×Heap}(h:resK r k=some R):∃v e rd cc,r=some (v,e,rd,cc)/\k v e rd cc=some R:=by
 cases r with
 |none=>simp[resK]at h
 |some p=>obtain⟨v,e,rd,cc⟩:=p;exact⟨v,e,rd,cc,rfl,h⟩
noncomputable def nxt(d:ST)(next:OR)(c:FR)(n:Nat)(kn:Kn)(E:E16)(H:Heap)(r:Option CRes):O:=
 resK r λv e _ cc=>nfK v λv=>hpK (padH H cc) λH=>effK e H λH=>d E v λE=>next c n kn E H
theorem xam(hd:okD dd=true){next:OR}{c:FR}{n:Nat}{kn:Kn}{E:E16}{H:Heap}{r:Option CRes}{R:AV×Heap}(h:nxt (trD dd) next c n kn E H r=some R):
  ∃v e rd cc,r=some (v,e,rd,cc)/\next c n kn (E.setO dd v) (zaf e (padH H cc))=some R:=by
 obtain⟨v,e,rd,cc,h1,h⟩:=qcs h;rw[jve,zrx,xal,zbe hd]at h;exact⟨v,e,rd,cc,h1,h⟩
def CK.sub(V:Opd->Opd):CK->CK
 |.mov x=> .mov (V x)
 |.pick c a b=> .pick (V c) (V a) (V b)
 |.box x=> .box (V x)
 |.build z ps=> .build z (ps.map λp=>(p.1,p.2.1,V p.2.2))
 |.bsl n sz z ps=> .bsl n sz z (ps.map λp=>(p.1,p.2.1,V p.2.2))
 |.load ag sz x=> .load ag sz (V x)
 |.store sz x v=> .store sz (V x) (V v)
 |.nilck x=> .nilck (V x)
 |.bin op x y=> .bin op (V x) (V y)
 |.beq neg x y=> .beq neg (V x) (V y)
 |.snil neg x=> .snil neg (V x)
 |.un op x=> .un op (V x)
 |.conv k x=> .conv k (V x)
 |.b2s x=> .b2s (V x)
 |.mksl sz bytes z l c=> .mksl sz bytes z (V l) (V c)
 |.slice sz x lo hi mx=> .slice sz (V x) (lo.map V) (hi.map V) (mx.map V)
 |.slarr n sz x lo hi mx=> .slarr n sz (V x) (lo.map V) (hi.map V) (mx.map V)
 |.fld off x=> .fld off (V x)
 |.part ag sz off x=> .part ag sz off (V x)
 |.idx sz x i=> .idx sz (V x) (V i)
 |.idxa n sz x i=> .idxa n sz (V x) (V i)
 |.idxv n ag sz x i=> .idxv n ag sz (V x) (V i)
 |.idxs x i=> .idxs (V x) (V i)
 |.ext x i=> .ext (V x) i
 |.len st x=> .len st (V x)
 |.lenk n=> .lenk n
 |.append sz bytes s x=> .append sz bytes (V s) (V x)
 |.copy sz d s=> .copy sz (V d) (V s)
 |.max x y=> .max (V x) (V y)
 |.mkfn f caps=> .mkfn f (caps.map V)
 |.call f args=> .call f (args.map V)
 |.callc x args=> .callc (V x) (args.map V)
 |.aeq neg ks x y=> .aeq neg ks (V x) (V y)
 |.pnil neg x=> .pnil neg (V x)
 |.mkbnd f l=> .mkbnd f (l.map V)
 |.mkmap=> .mkmap
 |.mlook ks z x k=> .mlook ks z (V x) (V k)
 |.mentry ks z x k=> .mentry ks z (V x) (V k)
 |.mstore x s v=> .mstore (V x) (V s) (V v)
 |.bits64 b x y z=> .bits64 b (V x) (V y) (V z)
 |.clr sz z x=> .clr sz z (V x)
 |.apz sz bytes z s x=> .apz sz bytes z (V s) (V x)
theorem qmb(W:Opd->Opd)(V V':Opd->AV)(h:∀x,V' (W x)=V x):∀(ps:List (Nat×Nat×Opd)) (cs:List AV),zfm V' cs (ps.map λp=>(p.1,p.2.1,W p.2.2))=zfm V cs ps:=by
 intro ps
 induction ps with
 |nil=>intro cs;rfl
 |cons p ps ih=>
  intro cs;obtain⟨off,sz,x⟩:=p;simp only[xQ,zfm,h,ih]
theorem qgr(W:Opd->Opd)(V V':Opd->AV)(h:∀x,V' (W x)=V x)(sz:Nat)(x:AV)(lo hi mx:Option Opd):zeh V' sz x (lo.map W) (hi.map W) (mx.map W)=zeh V sz x lo hi mx:=by
 have ho:∀(d:Nat) (o:Option Opd),zbq V' d (o.map W)=zbq V d o:=by
  intro d o;cases o with
  |none=>rfl
  |some y=>simp only[xK,zbq,h]
 unfold zeh;cases x<;>simp only[ho]<;>cases mx<;>simp only[Option.map_none,xK,h,Option.isSome_map]
theorem xan(W:Opd->Opd)(V V':Opd->AV)(h:∀x,V' (W x)=V x)(n0 fresh:Nat)(H:Heap)(k:CK):evK n0 fresh (k.sub W) V' H=evK n0 fresh k V H:=by
 cases k<;>simp only[CK.sub,evK,h,qmb W V V' h,qgr W V V' h,xU]
 case mkfn f caps=>
  have:V' ∘ W=V:=funext h;rw[this]
 case mkbnd f l=>
  have:V' ∘ W=V:=funext h;rw[this]
theorem qct(call:qlg)(n0:Nat)(k:CK)(E E':Env)(H:Heap)(W:Opd->Opd)(h:∀x,val E' (W x)=val E x):opBE ok call n0 (k.sub W) E' H=opBE ok call n0 k E H:=by
 have hc:cntK (k.sub W)=cntK k:=by cases k<;>rfl
 have hm:∀l:List Opd,(l.map W).map (val E')=l.map (val E):=by
  intro l;rw[xU];congr 1;funext x;exact h x
 have he:=xan W (val E) (val E') h n0 H.length H k;cases k<;>simp only[CK.sub]at he hc ⊢ <;> simp only[opBE,hm,h,he,hc]
def env0:Env:=λ_=> .junk
noncomputable def zkg(ok:FuncId->Bool)(k:E16->CK)(d:ST)(next:OR):OR:=λc n kn E H=>nxt d next c n kn E H (opBE ok (qlj (frun c)) n (k E) env0 H)
theorem zlk(hd:okD dd=true)(k:CK):Good ok ⟨dd,none,k⟩ (zkg ok (λE=>k.sub λx=> .k (trG x E)) (trD dd)):=by
 intro next c n kn E H R h
 obtain⟨v,e,rd,cc,h1,h2⟩:=xam hd h;rw[qct (E:=E.env)]at h1
 ·exact⟨v,e,rd,cc,jvi h1,h2⟩
 ·intro x;exact zay x E
noncomputable def zhk(l:List GT)(E:E16)(k:List AV->O):O:=
 List.rec (motive:=λ_=>E16->(List AV->O)->O) (λ_ k=>k []) (λg _ ih E k=>fv (g E) λa=>ih E λr=>k (a::r)) l E k
theorem zhl(E:E16):∀(l:List Opd) (k:List AV->O),zhk (l.map trG) E k=k (l.map (val E.env)):=by
 intro l
 induction l with
 |nil=>intro k;rfl
 |cons x l ih=>
  intro k
  show fv (trG x E) (λa=>zhk (l.map trG) E λr=>k (a::r))=_
  rw[qlo,ih,zay];rfl
noncomputable def clV(v:AV):Bool:=AV.rec (motive_1:=λ_=>Bool) (motive_2:=λ_=>Bool) (λ_=>true) (λ_ _=>true) (λ_=>true) (λ_ _ _ _=>true) (λ_ _ _ _ _=>false) (λ_ _=>false) (λ_ _ _=>true) (λ_ _ ih=>ih) (λ_ ih=>ih) (λ_ ih=>ih) true true true (λ_ _ a b=>Bool.rec (motive:=λ_=>Bool->Bool) (λ_=>false) (λb=>b) a b) v
noncomputable def clL(l:List AV):Bool:=List.rec (motive:=λ_=>Bool) true (λa _ ih=>Bool.rec (motive:=λ_=>Bool->Bool) (λ_=>false) (λb=>b) (clV a) ih) l
theorem zpp(v:AV):clV v=v.closed:=by
 induction v using AV.rec (motive_2:=λl=>(AV.rec_1 (motive_1:=λ_=>Bool) (motive_2:=λ_=>Bool) (λ_=>true) (λ_ _=>true) (λ_=>true) (λ_ _ _ _=>true) (λ_ _ _ _ _=>false) (λ_ _=>false) (λ_ _ _=>true) (λ_ _ ih=>ih) (λ_ ih=>ih) (λ_ ih=>ih) true true true (λ_ _ a b=>Bool.rec (motive:=λ_=>Bool->Bool) (λ_=>false) (λb=>b) a b) l:Bool)=AV.closed.closedL l)with
 |clo f cs ih=>exact ih.trans (by simp only[AV.closed])
 |agg cs ih=>exact ih.trans (by simp only[AV.closed])
 |tup cs ih=>exact ih.trans (by simp only[AV.closed])
 |nil=>rfl
 |cons a l iha ihl=>
  show Bool.rec (motive:=λ_=>Bool->Bool) (λ_=>false) (λb=>b) (clV a) _=_
  rw[iha];simp only[AV.closed.closedL];cases a.closed with
  |false=>rfl
  |true=>exact ihl
 |_=>rfl
theorem znj:∀l:List AV,clL l=AV.closed.closedL l:=by
 intro l
 induction l with
 |nil=>rfl
 |cons a l ih=>
  show Bool.rec (motive:=λ_=>Bool->Bool) (λ_=>false) (λb=>b) (clV a) (clL l)=_
  rw[ih,zpp];simp only[AV.closed.closedL];cases a.closed<;>rfl
noncomputable def rtK(r:O)(k:AV->Heap->O):O:=Option.rec (motive:=λ_=>(AV->Heap->O)->O) (λ_=>none) (λp k=>Prod.rec (motive:=λ_=>(AV->Heap->O)->O) (λv h k=>k v h) p k) r k
theorem zmt{r:O}{k:AV->Heap->O}{R:AV×Heap}(h:rtK r k=some R):∃v H,r=some (v,H)/\k v H=some R:=by
 cases r with
 |none=>simp[rtK]at h
 |some p=>obtain⟨v,H⟩:=p;exact⟨v,H,rfl,h⟩
noncomputable def dnK(v:AV)(k:AV->O):O:=AV.rec (motive_1:=λ_=>(AV->O)->O) (motive_2:=λ_=>(List AV->O)->O) (λb k=>boK b λb=>k (.bool b)) (λa b k=>intK b λb=>k (.int a b)) (λs k=>k (.str s)) (λcs n c _ k=>spK cs λcs=>natK n λn=>onK c λc=>k (.vec cs n c)) (λa b c d e k=>natK a λa=>natK b λb=>natK c λc=>natK d λd=>onK e λe=>k (.sl a b c d e)) (λa b k=>natK a λa=>natK b λb=>k (.ptr a b)) (λcs p _ k=>spK cs λcs=>natK p λp=>k (.iptr cs p)) (λf _ ih k=>ih λcs=>k (.clo f cs)) (λ_ ih k=>ih λcs=>k (.agg cs)) (λ_ ih k=>ih λcs=>k (.tup cs)) (λk=>k .anyb) (λk=>k .junk) (λk=>k []) (λ_ _ a b k=>a λa=>b λb=>k (a::b)) v k
noncomputable def dnL(l:List AV)(k:List AV->O):O:=List.rec (motive:=λ_=>(List AV->O)->O) (λk=>k []) (λa _ ih k=>dnK a λa=>ih λr=>k (a::r)) l k
theorem jvj(v:AV):∀k:AV->O,dnK v k=k v:=by
 induction v using AV.rec (motive_2:=λl=>∀k:List AV->O,(AV.rec_1 (motive_1:=λ_=>(AV->O)->O) (motive_2:=λ_=>(List AV->O)->O) (λb k=>boK b λb=>k (.bool b)) (λa b k=>intK b λb=>k (.int a b)) (λs k=>k (.str s)) (λcs n c _ k=>spK cs λcs=>natK n λn=>onK c λc=>k (.vec cs n c)) (λa b c d e k=>natK a λa=>natK b λb=>natK c λc=>natK d λd=>onK e λe=>k (.sl a b c d e)) (λa b k=>natK a λa=>natK b λb=>k (.ptr a b)) (λcs p _ k=>spK cs λcs=>natK p λp=>k (.iptr cs p)) (λf _ ih k=>ih λcs=>k (.clo f cs)) (λ_ ih k=>ih λcs=>k (.agg cs)) (λ_ ih k=>ih λcs=>k (.tup cs)) (λk=>k .anyb) (λk=>k .junk) (λk=>k []) (λ_ _ a b k=>a λa=>b λb=>k (a::b)) l k:O)=k l)with
 |bool b=>intro k;exact zlh b _
 |int a b=>intro k;exact zpl b _
 |str s=>intro k;rfl
 |vec cs n c=>intro k;show(spK cs λcs=>natK n λn=>onK c λc=>k (.vec cs n c))=_;simp only[zgu,zbf,qcm]
 |sl a b c d e=>intro k;show(natK a λa=>natK b λb=>natK c λc=>natK d λd=>onK e λe=>k (.sl a b c d e))=_;simp only[zbf,qcm]
 |ptr a b=>intro k;show(natK a λa=>natK b λb=>k (.ptr a b))=_;simp only[zbf]
 |iptr cs p=>intro k;show(spK cs λcs=>natK p λp=>k (.iptr cs p))=_;simp only[zgu,zbf]
 |clo f cs ih=>intro k;exact ih _
 |agg cs ih=>intro k;exact ih _
 |tup cs ih=>intro k;exact ih _
 |anyb=>intro k;rfl
 |junk=>intro k;rfl
 |nil=>rename_i k;rfl
 |cons a l iha ihl=>rename_i k;exact(iha _).trans (ihl _)
theorem xxp:∀(l:List AV) (k:List AV->O),dnL l k=k l:=by
 intro l
 induction l with
 |nil=>intro k;rfl
 |cons a l ih=>intro k;exact(jvj a _).trans (ih _)
noncomputable def dbK(b:Option (List AV))(k:Option (List AV)->O):O:=Option.rec (motive:=λ_=>(Option (List AV)->O)->O) (λk=>k none) (λcs k=>dnL cs λcs=>k (some cs)) b k
theorem xxq(b:Option (List AV))(k:Option (List AV)->O):dbK b k=k b:=by
 cases b with
 |none=>rfl
 |some cs=>exact xxp cs _
noncomputable def effD(e:Eff)(H:Heap)(k:Heap->O):O:=
 List.rec (motive:=λ_=>Heap->(Heap->O)->O) (λH k=>k H) (λp _ ih H k=>Prod.rec (motive:=λ_=>(Heap->(Heap->O)->O)->Heap->(Heap->O)->O) (λi b ih H k=>dbK b λb=>putK H i b λH=>ih H k) p ih H k) e H k
theorem xao:∀(e:Eff) (H:Heap) (k:Heap->O),effD e H k=k (zaf e H):=by
 intro e
 induction e with
 |nil=>intro H k;rfl
 |cons p e ih=>
  intro H k;obtain⟨i,b⟩:=p
  show dbK b (λb=>putK H i b λH=>effD e H k)=_
  rw[xxq,zff,ih];rfl
noncomputable def memN(l:List Nat)(x:Nat):Bool:=List.rec (motive:=λ_=>Nat->Bool) (λ_=>false) (λy _ ih x=>Bool.rec (motive:=λ_=>(Nat->Bool)->Nat->Bool) (λih x=>ih x) (λ_ _=>true) (Nat.beq y x) ih x) l x
theorem zpq:∀(l:List Nat) (x:Nat),memN l x=hasN l x:=by
 intro l
 induction l with
 |nil=>intro x;rfl
 |cons y l ih=>
  intro x
  show Bool.rec (motive:=λ_=>(Nat->Bool)->Nat->Bool) (λih x=>ih x) (λ_ _=>true) (Nat.beq y x) (memN l) x=_
  simp only[hasN];cases Nat.beq y x with
  |true=>rfl
  |false=>exact ih x
noncomputable def insN(x:Nat)(l:List Nat):List Nat:=Bool.rec (motive:=λ_=>Nat->List Nat->List Nat) (λx l=>x::l) (λ_ l=>l) (memN l x) x l
noncomputable def idsV(v:AV)(a:List Nat):List Nat:=AV.rec (motive_1:=λ_=>List Nat->List Nat) (motive_2:=λ_=>List Nat->List Nat) (λ_ a=>a) (λ_ _ a=>a) (λ_ a=>a) (λ_ _ _ _ a=>a) (λid _ _ _ _ a=>insN id a) (λid _ a=>insN id a) (λ_ _ _ a=>a) (λ_ _ ih a=>ih a) (λ_ ih a=>ih a) (λ_ ih a=>ih a) (λa=>a) (λa=>a) (λa=>a) (λ_ _ x y a=>y (x a)) v a
noncomputable def idsA(l:List AV)(a:List Nat):List Nat:=List.rec (motive:=λ_=>List Nat->List Nat) (λa=>a) (λv _ ih a=>ih (idsV v a)) l a
noncomputable def innV(l:List Nat)(v:AV):Bool:=AV.rec (motive_1:=λ_=>Bool) (motive_2:=λ_=>Bool) (λ_=>true) (λ_ _=>true) (λ_=>true) (λ_ _ _ _=>true) (λid _ _ _ _=>memN l id) (λid _=>memN l id) (λ_ _ _=>true) (λ_ _ ih=>ih) (λ_ ih=>ih) (λ_ ih=>ih) true true true (λ_ _ a b=>Bool.rec (motive:=λ_=>Bool->Bool) (λ_=>false) (λb=>b) a b) v
noncomputable def innA(l:List Nat)(cs:List AV):Bool:=List.rec (motive:=λ_=>Bool) true (λa _ ih=>Bool.rec (motive:=λ_=>Bool->Bool) (λ_=>false) (λb=>b) (innV l a) ih) cs
theorem qmc(l:List Nat)(v:AV):innV l v=v.inn l:=by
 induction v using AV.rec (motive_2:=λcs=>(AV.rec_1 (motive_1:=λ_=>Bool) (motive_2:=λ_=>Bool) (λ_=>true) (λ_ _=>true) (λ_=>true) (λ_ _ _ _=>true) (λid _ _ _ _=>memN l id) (λid _=>memN l id) (λ_ _ _=>true) (λ_ _ ih=>ih) (λ_ ih=>ih) (λ_ ih=>ih) true true true (λ_ _ a b=>Bool.rec (motive:=λ_=>Bool->Bool) (λ_=>false) (λb=>b) a b) cs:Bool)=AV.inn.innL l cs)with
 |sl id off n sz c=>exact zpq l id
 |ptr id off=>exact zpq l id
 |clo f cs ih=>exact ih.trans (by simp only[AV.inn])
 |agg cs ih=>exact ih.trans (by simp only[AV.inn])
 |tup cs ih=>exact ih.trans (by simp only[AV.inn])
 |nil=>rfl
 |cons a cs iha ihl=>
  show Bool.rec (motive:=λ_=>Bool->Bool) (λ_=>false) (λb=>b) (innV l a) _=_
  rw[iha];simp only[AV.inn.innL];cases a.inn l with
  |false=>rfl
  |true=>exact ihl
 |_=>rfl
theorem qgs(l:List Nat):∀a:AV,a.closed=true->a.inn l=true:=by
 intro a
 induction a using AV.rec (motive_2:=λcs=>AV.closed.closedL cs=true->AV.inn.innL l cs=true)with
 |bool b=>intro _;rfl
 |int k n=>intro _;rfl
 |str s=>intro _;rfl
 |vec cs n c=>intro _;rfl
 |sl id off n sz c=>intro h;simp[AV.closed]at h
 |ptr id off=>intro h;simp[AV.closed]at h
 |iptr cs p=>intro _;rfl
 |clo f cs ih=>intro h;simp only[AV.inn];exact ih (by simpa[AV.closed]using h)
 |agg cs ih=>intro h;simp only[AV.inn];exact ih (by simpa[AV.closed]using h)
 |tup cs ih=>intro h;simp only[AV.inn];exact ih (by simpa[AV.closed]using h)
 |anyb=>intro _;rfl
 |junk=>intro _;rfl
 |nil=>rfl
 |cons x cs hx hl=>
  rename_i h;simp only[AV.closed.closedL,qZ]at h;simp only[AV.inn.innL,qZ];exact⟨hx h.1,hl h.2⟩
theorem zzp(l:List Nat):∀cs:List AV,AV.closed.closedL cs=true->AV.inn.innL l cs=true:=by
 intro cs
 induction cs with
 |nil=>intro _;rfl
 |cons x cs ih=>
  intro h;simp only[AV.closed.closedL,qZ]at h;simp only[AV.inn.innL,qZ];exact⟨qgs l x h.1,ih h.2⟩
theorem ztw(l:List Nat):∀cs:List AV,innA l cs=AV.inn.innL l cs:=by
 intro cs
 induction cs with
 |nil=>rfl
 |cons a cs ih=>
  show Bool.rec (motive:=λ_=>Bool->Bool) (λ_=>false) (λb=>b) (innV l a) (innA l cs)=_
  rw[ih,qmc];simp only[AV.inn.innL];cases a.inn l<;>rfl
noncomputable def posN(l:List Nat)(x:Nat):Nat:=List.rec (motive:=λ_=>Nat->Nat) (λ_=>0) (λy _ ih x=>Bool.rec (motive:=λ_=>(Nat->Nat)->Nat->Nat) (λih x=>Nat.succ (ih x)) (λ_ _=>0) (Nat.beq y x) ih x) l x
theorem zpr:∀(l:List Nat) (x:Nat),posN l x=pos l x:=by
 intro l
 induction l with
 |nil=>intro x;rfl
 |cons y l ih=>
  intro x
  show Bool.rec (motive:=λ_=>(Nat->Nat)->Nat->Nat) (λih x=>Nat.succ (ih x)) (λ_ _=>0) (Nat.beq y x) (posN l) x=_
  simp only[pos];cases h:Nat.beq y x with
  |true=>rw[if_pos (qX h)]
  |false=>
   rw[if_neg (λe=>by subst e;rw[qN]at h;simp at h)]
   show Nat.succ (posN l x)=_
   rw[ih]
noncomputable def namN(l:List Nat)(k:Nat)(i:Nat):Nat:=List.rec (motive:=λ_=>Nat->Nat->Nat) (λk i=>Nat.add k i) (λy _ ih k i=>Nat.rec (motive:=λ_=>Nat->(Nat->Nat->Nat)->Nat->Nat) (λy _ _=>y) (λp _ _ ih k=>ih k p) i y ih k) l k i
theorem qmd:∀(l:List Nat) (k i:Nat),namN l k i=zag l k i:=by
 intro l
 induction l with
 |nil=>intro k i;show k+i=_;simp[zag]
 |cons y l ih=>
  intro k i;cases i with
  |zero=>simp[zag];rfl
  |succ i=>
   refine(show namN (y::l) k (i+1)=namN l k i from rfl).trans ((ih k i).trans ?_);unfold zag;by_cases h:i<l.length
   ·rw[dif_pos h,dif_pos (by simp;omega)];simp
   ·rw[dif_neg h,dif_neg (by simp;omega)];simp
noncomputable def rnK(σ:Nat->Nat)(v:AV)(k:AV->O):O:=AV.rec (motive_1:=λ_=>(AV->O)->O) (motive_2:=λ_=>(List AV->O)->O) (λb k=>k (.bool b)) (λa b k=>k (.int a b)) (λs k=>k (.str s)) (λcs n c _ k=>k (.vec cs n c)) (λa b c d e k=>natK (σ a) λa=>k (.sl a b c d e)) (λa b k=>natK (σ a) λa=>k (.ptr a b)) (λcs p _ k=>k (.iptr cs p)) (λf _ ih k=>ih λcs=>k (.clo f cs)) (λ_ ih k=>ih λcs=>k (.agg cs)) (λ_ ih k=>ih λcs=>k (.tup cs)) (λk=>k .anyb) (λk=>k .junk) (λk=>k []) (λ_ _ a b k=>a λa=>b λb=>k (a::b)) v k
theorem qcu(σ:Nat->Nat)(v:AV):∀k:AV->O,rnK σ v k=k (v.ren σ):=by
 induction v using AV.rec (motive_2:=λl=>∀k:List AV->O,(AV.rec_1 (motive_1:=λ_=>(AV->O)->O) (motive_2:=λ_=>(List AV->O)->O) (λb k=>k (.bool b)) (λa b k=>k (.int a b)) (λs k=>k (.str s)) (λcs n c _ k=>k (.vec cs n c)) (λa b c d e k=>natK (σ a) λa=>k (.sl a b c d e)) (λa b k=>natK (σ a) λa=>k (.ptr a b)) (λcs p _ k=>k (.iptr cs p)) (λf _ ih k=>ih λcs=>k (.clo f cs)) (λ_ ih k=>ih λcs=>k (.agg cs)) (λ_ ih k=>ih λcs=>k (.tup cs)) (λk=>k .anyb) (λk=>k .junk) (λk=>k []) (λ_ _ a b k=>a λa=>b λb=>k (a::b)) l k:O)=k (AV.ren.renL σ l))with
 |sl a b c d e=>intro k;exact zbf _ _
 |ptr a b=>intro k;exact zbf _ _
 |clo f cs ih=>intro k;exact ih _
 |agg cs ih=>intro k;exact ih _
 |tup cs ih=>intro k;exact ih _
 |nil=>rename_i k;rfl
 |cons a l iha ihl=>rename_i k;exact(iha _).trans (ihl _)
 |_=>intro k;rfl
noncomputable def rnL(σ:Nat->Nat)(l:List AV)(k:List AV->O):O:=List.rec (motive:=λ_=>(List AV->O)->O) (λk=>k []) (λa _ ih k=>rnK σ a λa=>ih λr=>k (a::r)) l k
theorem zwp(σ:Nat->Nat):∀(l:List AV) (k:List AV->O),rnL σ l k=k (l.map (AV.ren σ)):=by
 intro l
 induction l with
 |nil=>intro k;rfl
 |cons a l ih=>intro k;exact(qcu σ a _).trans (ih _)
noncomputable def rcK(σ:Nat->Nat)(cs:List AV)(k:List AV->O):O:=Bool.rec (motive:=λ_=>(Nat->Nat)->List AV->(List AV->O)->O) (λσ cs k=>rnL σ cs k) (λ_ cs k=>k cs) (clL cs) σ cs k
theorem xxr(σ:Nat->Nat)(cs:List AV)(k:List AV->O):rcK σ cs k=k (cs.map (AV.ren σ)):=by
 unfold rcK;cases h:clL cs with
 |false=>exact zwp σ cs k
 |true=>
  rw[znj]at h;rw[zaq σ cs h]
noncomputable def icK(all:List Nat)(cs:List AV)(k:List AV->O):O:=bsel (clL cs) (k cs) (ifK (innA all cs) (rnL (posN all) cs k))
theorem xap{all:List Nat}{cs:List AV}{k:List AV->O}{R:AV×Heap}(h:icK all cs k=some R):AV.inn.innL all cs=true/\k (cs.map (AV.ren (pos all)))=some R:=by
 have hp:posN all=pos all:=funext (zpr all);unfold icK at h;cases hc:clL cs with
 |true=>
  rw[hc]at h;have h:k cs=some R:=h;rw[znj]at hc;rw[zaq _ cs hc];exact⟨zzp all cs hc,h⟩
 |false=>
  rw[hc]at h;obtain⟨h1,h⟩:=zan (show ifK (innA all cs) (rnL (posN all) cs k)=some R from h);rw[zwp,hp]at h;rw[ztw]at h1;exact⟨h1,h⟩
noncomputable def subK(ids all:List Nat)(H:Heap)(k:Heap->O):O:=
 List.rec (motive:=λ_=>List Nat->Heap->(Heap->O)->O) (λ_ _ k=>k []) (λi _ ih all H k=>blkK H i λcs=>icK all cs λcs=>ih all H λr=>k (some cs::r)) ids all H k
theorem qcv(all:List Nat)(H:Heap){R:AV×Heap}:∀(ids:List Nat) {k:Heap->O},subK ids all H k=some R->(ids.all λi=>match getB H i with | some cs=>AV.inn.innL all cs | none=>false)=true/\k (ids.map λi=>renB (pos all) (getB H i))=some R:=by
 intro ids
 induction ids with
 |nil=>intro k h;exact⟨rfl,h⟩
 |cons i ids ih=>
  intro k h;obtain⟨cs,hg,h⟩:=zcz (show blkK H i (λcs=>icK all cs λcs=>subK ids all H λr=>k (some cs::r))=some R from h);obtain⟨h1,h⟩:=xap h;obtain⟨h2,h⟩:=ih h;refine⟨?_,?_⟩
  ·rw[qI,h2,hg];simp[h1]
  ·simp only[xQ,hg];exact h
noncomputable def rbK(σ:Nat->Nat)(b:Option (List AV))(k:Option (List AV)->O):O:=Option.rec (motive:=λ_=>(Nat->Nat)->(Option (List AV)->O)->O) (λ_ k=>k none) (λcs σ k=>rcK σ cs λcs=>k (some cs)) b σ k
theorem xxs(σ:Nat->Nat)(b:Option (List AV))(k:Option (List AV)->O):rbK σ b k=k (renB σ b):=by
 cases b with
 |none=>rfl
 |some cs=>exact xxr σ cs _
noncomputable def wbK(σ:Nat->Nat)(H':Heap)(i:Nat)(H:Heap)(k:Heap->O):O:=
 List.rec (motive:=λ_=>(Nat->Nat)->Nat->Heap->(Heap->O)->O) (λ_ _ H k=>k H) (λb _ ih σ i H k=>rbK σ b λb=>putK H (σ i) b λH=>ih σ (Nat.succ i) H k) H' σ i H k
theorem jvk(σ:Nat->Nat):∀(H':Heap) (i:Nat) (H:Heap) (k:Heap->O),wbK σ H' i H k=k (zaf (effs σ i H') H):=by
 intro H'
 induction H' with
 |nil=>intro i H k;rfl
 |cons b H' ih=>
  intro i H k
  show rbK σ b (λb=>putK H (σ i) b λH=>wbK σ H' (Nat.succ i) H k)=_
  rw[xxs,zff,ih];rfl
noncomputable def genK(f0:List AV->Heap->O)(args:List AV)(ids:List Nat)(H:Heap)(k:AV->Heap->O):O:=
 ifK (innA ids args) (subK ids ids H λH0=>rnL (posN ids) args λargs0=>rtK (f0 args0 H0) λv H'=>lenK H λm=>rnK (namN ids m) v λv=>hpK (padH H (Nat.sub H'.length ids.length)) λHp=>wbK (namN ids m) H' 0 Hp λH2=>k v H2)
theorem ztx{f0:FRun}{f:FuncId}{args:List AV}{ids:List Nat}{H:Heap}{k:AV->Heap->O}{R:AV×Heap}(h1:zeq ids=true)(h:genK (f0 f) args ids H k=some R):∃v e rd cc,CallS f0 f args H v e rd cc/\k v (zaf e (padH H cc))=some R:=by
 obtain⟨h2,h⟩:=zan h;obtain⟨h3,h⟩:=qcv ids H ids h;rw[zwp]at h;obtain⟨v,H',hr,h⟩:=zmt h;have hn:namN ids H.length=zag ids H.length:=funext (qmd ids H.length);have hp:posN ids=pos ids:=funext (zpr ids);rw[zet,qcu,zrx,jvk,hn]at h;rw[hp]at hr;rw[ztw]at h2;exact⟨_,_,_,_,.gen ids v H' h2 (by unfold qli;rw[h1,Bool.true_and];exact h3) hr,h⟩
noncomputable def idcV(v:AV)(a:List Nat):List Nat:=AV.rec (motive_1:=λ_=>List Nat->List Nat) (motive_2:=λ_=>List Nat->List Nat) (λ_ a=>a) (λ_ _ a=>a) (λ_ a=>a) (λ_ _ _ _ a=>a) (λid _ _ _ _ a=>(id::a)) (λid _ a=>(id::a)) (λ_ _ _ a=>a) (λ_ _ ih a=>ih a) (λ_ ih a=>ih a) (λ_ ih a=>ih a) (λa=>a) (λa=>a) (λa=>a) (λ_ _ x y a=>y (x a)) v a
noncomputable def idcA(l:List AV)(a:List Nat):List Nat:=List.rec (motive:=λ_=>List Nat->List Nat) (λa=>a) (λv _ ih a=>ih (idcV v a)) l a
noncomputable def wlK(n:Nat)(todo done:List Nat)(H:Heap)(k:List Nat->O):O:=
 Nat.rec (motive:=λ_=>List Nat->List Nat->Heap->(List Nat->O)->O) (λ_ _ _ _=>none)
  (λ_ ih todo done H k=>List.rec (motive:=λ_=>(List Nat->List Nat->Heap->(List Nat->O)->O)->List Nat->Heap->(List Nat->O)->O) (λ_ done _ k=>k done)
   (λi rest _ ih done H k=>natK i λi=>bsel (memN done i) (ih rest done H k) (nthK H i λb=>Option.rec (motive:=λ_=>(List Nat->List Nat->Heap->(List Nat->O)->O)->List Nat->List Nat->Heap->(List Nat->O)->O) (λih rest done H k=>ih rest done H k) (λcs ih rest done H k=>ih (idcA cs rest) done H k) b ih rest (i::done) H k)) todo ih done H k) n todo done H k
theorem xaq{H:Heap}{k:List Nat->O}{R:AV×Heap}:∀{n:Nat} {todo done:List Nat},zeq done=true->wlK n todo done H k=some R->∃ids,zeq ids=true/\k ids=some R:=by
 intro n
 induction n with
 |zero=>intro todo done _ h;exact absurd (show(none:O)=some R from h) (by simp)
 |succ n ih=>
  intro todo done hd h;cases todo with
  |nil=>exact⟨done,hd,h⟩
  |cons i rest=>
   have h:=(show natK i (λi=>bsel (memN done i) (wlK n rest done H k) (nthK H i λb=>Option.rec (motive:=λ_=>(List Nat->List Nat->Heap->(List Nat->O)->O)->List Nat->List Nat->Heap->(List Nat->O)->O) (λih rest done H k=>ih rest done H k) (λcs ih rest done H k=>ih (idcA cs rest) done H k) b (λtodo done H k=>wlK n todo done H k) rest (i::done) H k))=some R from h)
   rw[zbf]at h;cases hm:memN done i with
   |true=>rw[hm]at h;exact ih hd h
   |false=>
    rw[hm]at h
    have hd':zeq (i::done)=true:=by
     rw[zpq]at hm;simp only[zeq,hm,hd];rfl
    obtain⟨b,_,h⟩:=zdv (show nthK H i (λb=>Option.rec (motive:=λ_=>(List Nat->List Nat->Heap->(List Nat->O)->O)->List Nat->List Nat->Heap->(List Nat->O)->O) (λih rest done H k=>ih rest done H k) (λcs ih rest done H k=>ih (idcA cs rest) done H k) b (λtodo done H k=>wlK n todo done H k) rest (i::done) H k)=some R from h);cases b with
    |none=>exact ih hd' h
    |some cs=>exact ih hd' h
noncomputable def zpt(ids:List Nat)(H:Heap)(k:List Nat->O):O:=wlK (nat_lit 100000) ids [] H k
theorem zmu{H:Heap}{k:List Nat->O}{R:AV×Heap}{ids:List Nat}(h:zpt ids H k=some R):∃ids,zeq ids=true/\k ids=some R:=xaq rfl h
noncomputable def zfe(f1 f2 f3:Dg)(d:ST)(args:List GT)(next:OR):OR:=λc n kn E H=>zhk args E λl=>bsel (clL l)
 (rtK (c f1 f2 f3 l []) λv h=>List.rec (motive:=λ_=>O->O->O) (λx _=>x) (λ_ _ _ _ y=>y) h (ifK (clV v) (d E v λE=>next c n kn E H)) (genK (c f1 f2 f3) l [] H λv H=>d E v λE=>next c n kn E H))
 (spK (idsA l []) λids=>zpt ids H λids=>genK (c f1 f2 f3) l ids H λv H=>d E v λE=>next c n kn E H)
theorem qme(hd:okD dd=true)(f:FuncId)(hf:Nat.blt f 4096=true)(args:List Opd):Good ok ⟨dd,none,.call f args⟩ (zfe (dg (f/256)) (dg (f/16%16)) (dg (f%16)) (trD dd) (args.map trG)):=by
 intro next c n kn E H R h
 simp only[zfe,zhl]at h;have hfr:frun c f=c (dg (f/256)) (dg (f/16%16)) (dg (f%16)):=by funext a h;simp only[frun,hf]
 rw[<-hfr]at h
 have gen:∀ids,zeq ids=true->genK (frun c f) (args.map (val E.env)) ids H (λv H=>trD dd E v λE=>next c n kn E H)=some R->∃v e rd cc,opSP ok (frun c) n ⟨dd,none,.call f args⟩ E.env H v e rd cc/\next c n kn (E.setO dd v) (zaf e (padH H cc))=some R:=by
  intro ids hn h;obtain⟨v,e,rd,cc,h1,h2⟩:=ztx hn h;rw[zbe hd]at h2;exact⟨v,e,rd,cc,h1,h2⟩
 rcases zdw h with⟨hc,h⟩ | h
 ·obtain⟨v,H',hr,h⟩:=zmt h;cases H' with
  |nil=>
   obtain⟨hv,h⟩:=zan (show ifK (clV v) (trD dd E v λE=>next c n kn E H)=some R from h);rw[zbe hd]at h;rw[zpp]at hv;rw[znj]at hc;exact⟨v,[],[],0,.pure v hc hr hv,h⟩
  |cons b r=>exact gen _ rfl h
 ·rw[zgu]at h;obtain⟨ids,hn,h⟩:=zmu h;exact gen _ hn h
noncomputable def nB1(b:Bool):Bool:=Bool.rec (motive:=λ_=>Bool) true false b
theorem qcw(b:Bool):nB1 b=!b:=by cases b<;>rfl
noncomputable def stL(ws:List AV)(cs:List AV)(off:Nat)(k:List AV->O):O:=
 List.rec (motive:=λ_=>List AV->Nat->(List AV->O)->O) (λcs _ k=>k cs) (λw _ ih cs off k=>scK w λw=>nthK cs off λ_=>putK cs off w λcs=>ih cs (Nat.succ off) k) ws cs off k
theorem qmf{R:AV×Heap}:∀(ws:List AV) {cs:List AV} {off:Nat} {k:List AV->O},stL ws cs off k=some R->AV.scalL ws=true/\(ws≠[]->off+ws.length<=cs.length)/\k (setL cs off ws)=some R:=by
 intro ws
 induction ws with
 |nil=>intro cs off k h;exact⟨rfl,λh=>absurd rfl h,h⟩
 |cons w ws ih=>
  intro cs off k h;obtain⟨h1,h2,h3,h⟩:=qlw (show scK w (λw=>nthK cs off λ_=>putK cs off w λcs=>stL ws cs (Nat.succ off) k)=some R from h);obtain⟨u,hu,h⟩:=zdv h;rw[zff]at h;obtain⟨h4,h5,h6⟩:=ih h
  have hl:off<cs.length:=by
   rcases qV off cs.length with h' | h'
   ·exact h'
   ·rw[qJ h']at hu;simp at hu
  refine⟨by simp[AV.scalL,h3,h4],λ_=>?_,h6⟩;by_cases e:ws=[]
  ·subst e;simp;omega
  ·have:=h5 e;simp at this ⊢;omega
noncomputable def zey(sz:Nat)(x y:GT)(next:OR):OR:=λc n kn E H=>zfg (x E) (λid off=>blkK H id λcs=>zwi (y E) λws=>lenK ws λm=>ifK (Nat.beq m sz) (stL ws cs off λcs=>putK H id (some cs) λH=>next c n kn E H)) (λ_ _=>none)
theorem zzq(sz:Nat)(x y:Opd):Good ok ⟨none,none,.store (sz+1) x y⟩ (zey (sz+1) (trG x) (trG y)):=by
 intro next c n kn E H R h
 rcases zdg h with⟨id,off,hx,h⟩ | ⟨cs,p,hx,h⟩
 ·obtain⟨cs,hg,h⟩:=zcz h;obtain⟨ws,hy,h⟩:=zlj h;rw[zet]at h;obtain⟨hl,h⟩:=zan h;have hl:ws.length=sz+1:=qX hl;obtain⟨h1,h2,h⟩:=qmf ws h;rw[zff]at h;have h2:=h2 (by intro e;rw[e]at hl;simp at hl);rw[zay]at hx hy;refine zpm (v:= .junk) (e:=[(id,some (setL cs off ws))]) (rd:=[id]) ?_ (by simp only[cntK,padH,zaf,E16.setO];exact h);simp only[evK,hx,hg,hy,need,AV.firm,AV.cells,hl,h1];rw[if_pos ⟨trivial,trivial,trivial,by omega⟩]
 ·simp at h
noncomputable def qmg(v:AV)(k:FuncId->List AV->O):O:=AV.rec (motive_1:=λ_=>(FuncId->List AV->O)->O) (motive_2:=λ_=>Unit) (λ_ _=>none) (λ_ _ _=>none) (λ_ _=>none) (λ_ _ _ _ _=>none) (λ_ _ _ _ _ _=>none) (λ_ _ _=>none) (λ_ _ _ _=>none) (λf cs _ k=>k f cs) (λ_ _ _=>none) (λ_ _ _=>none) (λ_=>none) (λ_=>none) () (λ_ _ _ _=>()) v k
theorem zpu{v:AV}{k:FuncId->List AV->O}{R:AV×Heap}(h:qmg v k=some R):∃f cs,v= .clo f cs/\k f cs=some R:=by
 cases v<;>first | exact⟨_,_,rfl,h⟩ | (simp[qmg]at h)
noncomputable def appK(a b:List AV)(k:List AV->O):O:=List.rec (motive:=λ_=>List AV->(List AV->O)->O) (λb k=>k b) (λx _ ih b k=>ih b λr=>k (x::r)) a b k
theorem zkh:∀(a b:List AV) (k:List AV->O),appK a b k=k (a++b):=by
 intro a
 induction a with
 |nil=>intro b k;rfl
 |cons x a ih=>intro b k;exact ih b _
noncomputable def qgt(c:FR)(f:Nat)(l:List AV)(H:Heap)(k:AV->Heap->O):O:=bsel (clL l)
 (rtK (c (dg (Nat.div f (nat_lit 256))) (dg (Nat.mod (Nat.div f (nat_lit 16)) (nat_lit 16))) (dg (Nat.mod f (nat_lit 16))) l []) λv h=>List.rec (motive:=λ_=>O->O->O) (λx _=>x) (λ_ _ _ _ y=>y) h (ifK (clV v) (k v H)) (genK (c (dg (Nat.div f (nat_lit 256))) (dg (Nat.mod (Nat.div f (nat_lit 16)) (nat_lit 16))) (dg (Nat.mod f (nat_lit 16)))) l [] H k))
 (spK (idsA l []) λids=>zpt ids H λids=>genK (c (dg (Nat.div f (nat_lit 256))) (dg (Nat.mod (Nat.div f (nat_lit 16)) (nat_lit 16))) (dg (Nat.mod f (nat_lit 16)))) l ids H k)
theorem zpv{c:FR}{f:Nat}{l:List AV}{H:Heap}{k:AV->Heap->O}{R:AV×Heap}(hf:Nat.blt f 4096=true)(h:qgt c f l H k=some R):∃v e rd cc,CallS (frun c) f l H v e rd cc/\k v (zaf e (padH H cc))=some R:=by
 have hfr:frun c f=c (dg (f/256)) (dg (f/16%16)) (dg (f%16)):=by funext a h;simp only[frun,hf]
 have h:bsel (clL l) (rtK (c (dg (f/256)) (dg (f/16%16)) (dg (f%16)) l []) λv h=>List.rec (motive:=λ_=>O->O->O) (λx _=>x) (λ_ _ _ _ y=>y) h (ifK (clV v) (k v H)) (genK (c (dg (f/256)) (dg (f/16%16)) (dg (f%16))) l [] H k))
  (spK (idsA l []) λids=>zpt ids H λids=>genK (c (dg (f/256)) (dg (f/16%16)) (dg (f%16))) l ids H k)=some R:=h
 rw[<-hfr]at h;rcases zdw h with⟨hc,h⟩ | h
 ·obtain⟨v,H',hr,h⟩:=zmt h;cases H' with
  |nil=>
   obtain⟨hv,h⟩:=zan (show ifK (clV v) (k v H)=some R from h);rw[zpp]at hv;rw[znj]at hc;exact⟨v,[],[],0,.pure v hc hr hv,h⟩
  |cons b r=>exact ztx rfl h
 ·rw[zgu]at h;obtain⟨ids,hn,h⟩:=zmu h;exact ztx hn h
noncomputable def zki(ok:FuncId->Bool)(d:ST)(x:GT)(args:List GT)(next:OR):OR:=λc n kn E H=>qmg (x E) λf caps=>ifK (okC ok f) (zhk args E λl=>
 bsel (Nat.blt f (nat_lit 65536)) (ifK (Nat.blt f (nat_lit 4096)) (appK l caps λl=>qgt c f l H λv H=>d E v λE=>next c n kn E H))
  (ifK (nB1 (Nat.blt f (nat_lit 65536))) (natK (Nat.sub f (nat_lit 65536)) λf=>ifK (Nat.blt f (nat_lit 4096)) (appK caps l λl=>qgt c f l H λv H=>d E v λE=>next c n kn E H))))
theorem qgu(hd:okD dd=true)(x:Opd)(args:List Opd):Good ok ⟨dd,none,.callc x args⟩ (zki ok (trD dd) (trG x) (args.map trG)):=by
 intro next c n kn E H R h
 obtain⟨f,caps,hx,h⟩:=zpu h;rw[zay]at hx;obtain⟨ho,h⟩:=zan h;rw[zhl]at h;rcases zdw h with⟨hb,h⟩ | h
 ·obtain⟨hf,h⟩:=zan h;rw[zkh]at h;obtain⟨v,e,rd,cc,h1,h2⟩:=zpv hf h;rw[zbe hd]at h2;have hb:Nat.blt f 65536=true:=hb;exact⟨v,e,rd,cc,⟨f,caps,hx,ho,by simp only[cloF,cloA,hb];exact h1⟩,h2⟩
 ·obtain⟨hb,h⟩:=zan h;rw[qcw]at hb;rw[zbf]at h;obtain⟨hf,h⟩:=zan h;rw[zkh]at h;obtain⟨v,e,rd,cc,h1,h2⟩:=zpv hf h;rw[zbe hd]at h2;have hb:Nat.blt f 65536=false:=by simpa using hb
  exact⟨v,e,rd,cc,⟨f,caps,hx,ho,by simp only[cloF,cloA,hb];exact h1⟩,h2⟩
noncomputable def zpw(m sz:Nat)(d:ST)(x i:GT)(next:OR):OR:=λc n kn E H=>zli (i E) λ_ j=>Int.rec (motive:=λ_=>O) (λj=>ifK (Nat.blt j m) (zfg (x E) (λid off=>natK (Nat.add off (Nat.mul j sz)) λp=>d E (.ptr id p) λE=>next c n kn E H) (λcs p=>natK (Nat.add p (Nat.mul j sz)) λp=>d E (.iptr cs p) λE=>next c n kn E H))) (λ_=>none) j
theorem qmh(hd:okD dd=true)(m sz:Nat)(x i:Opd):Good ok ⟨dd,none,.idxa m sz x i⟩ (zpw m sz (trD dd) (trG x) (trG i)):=by
 intro next c n kn E H R h
 obtain⟨k,j,hj,h⟩:=zfz h;rw[zay]at hj;cases j with
 |negSucc j=>simp at h
 |ofNat j=>
  obtain⟨h1,h⟩:=zan h;have h1:j<m:=zpk.1 h1;have hc:((0:Int)<=Int.ofNat j/\Int.ofNat j<(m:Int))=True:=eq_true ⟨by simp,by simp;exact h1⟩;rcases zdg h with⟨id,off,hx,h⟩ | ⟨cs,p,hx,h⟩<;>rw[zay]at hx<;>rw[zbf,zbe hd]at h<;>exact zbb rfl (by simp only[evK,hx,hj,need,hc,if_true];rfl) h
noncomputable def zrz(m:Nat)(d:ST)(next:OR):OR:=λc n kn E H=>d E (.int .i64 (.ofNat m)) λE=>next c n kn E H
theorem qmi(hd:okD dd=true)(m:Nat):Good ok ⟨dd,none,.lenk m⟩ (zrz m (trD dd)):=by
 intro next c n kn E H R h
 simp only[zrz,zbe hd]at h;exact zbb rfl (by simp only[evK];rfl) h
noncomputable def zpx(f:FuncId)(d:ST)(args:List GT)(next:OR):OR:=λc n kn E H=>zhk args E λl=>d E (.clo f l) λE=>next c n kn E H
theorem qmj(hd:okD dd=true)(f:FuncId)(args:List Opd):Good ok ⟨dd,none,.mkfn f args⟩ (zpx f (trD dd) (args.map trG)):=by
 intro next c n kn E H R h
 simp only[zpx,zhl,zbe hd]at h;exact zbb rfl (by simp only[evK];rfl) h
noncomputable def repK(m:Nat)(z:List AV)(k:List AV->O):O:=Nat.rec (motive:=λ_=>(List AV->O)->O) (λk=>k []) (λ_ ih k=>ih λr=>appK z r k) m k
theorem xar(z:List AV):∀(m:Nat) (k:List AV->O),repK m z k=k ((List.replicate m z).flatten):=by
 intro m
 induction m with
 |zero=>intro k;rfl
 |succ m ih=>
  intro k;refine(ih _).trans ?_;rw[zkh,List.replicate_succ,List.flatten_cons]
noncomputable def zpy(sz bytes:Nat)(z:List AV)(d:ST)(x y:GT)(next:OR):OR:=λc n kn E H=>zli (x E) λ_ a=>zli (y E) λ_ b=>int2 (λa b=>ifK (Nat.ble a b) (ifK (Nat.ble (Nat.mul b bytes) (nat_lit 281474976710656)) (ifK (Nat.ble b (nat_lit 9223372036854775807)) (repK b z λcs=>lenK H λm=>qgj H (some cs) λH=>natK a λa=>natK b λb=>d E (.sl m 0 a sz (some b)) λE=>next c n kn E H)))) (λ_ _=>none) (λ_ _=>none) (λ_ _=>none) a b
theorem qmk(hd:okD dd=true)(sz bytes:Nat)(z:List AV)(hz:z.length=sz)(hs:0<sz)(x y:Opd):Good ok ⟨dd,none,.mksl sz bytes z x y⟩ (zpy sz bytes z (trD dd) (trG x) (trG y)):=by
 intro next c n kn E H R h
 obtain⟨k,a,hx,h⟩:=zfz h;obtain⟨k',b,hy,h⟩:=zfz h;rw[zay]at hx hy;cases a with
 |negSucc a=>cases b<;>simp[int2]at h
 |ofNat a=>
  cases b with
  |negSucc b=>simp[int2]at h
  |ofNat b=>
   obtain⟨h1,h⟩:=zan (show ifK (Nat.ble a b) _=some R from h);obtain⟨h2,h⟩:=zan h;obtain⟨h3,h⟩:=zan h;rw[qU]at h1 h2 h3;have h2:b*bytes<=281474976710656:=h2;have h3:b<=9223372036854775807:=h3;rw[xar]at h;simp only[zet,znz,zbf,zbe hd]at h;refine zpm (v:= .sl H.length 0 a sz (some b)) (e:=[(H.length,some (zgn b z))]) (rd:=[]) ?_ ?_
   ·have hcond:(0:Int)<=Int.ofNat a/\Int.ofNat a<=Int.ofNat b/\Int.ofNat b*(bytes:Int)<=2^48/\Int.ofNat b<2^63/\z.length=sz/\0<sz:=by
     have e1:Int.ofNat b*(bytes:Int)=((b*bytes:Nat):Int):=by rw[xZ];rfl
     refine⟨by simp,by simpa using h1,by rw[e1];omega,by simp;omega,hz,hs⟩
    simp only[evK,hx,hy,need];rw[if_pos hcond];rfl
   ·simp only[cntK,zaf,set_snoc];rw[zky];exact h
noncomputable def grK(v:AV)(want:Bool)(x y:O):O:=AV.rec (motive_1:=λ_=>O->O->O) (motive_2:=λ_=>O->O) (λb x y=>bsel (beqB false b want) x y) (λ_ _ _ _=>none) (λ_ _ _=>none) (λ_ _ _ _ _ _=>none) (λ_ _ _ _ _ _ _=>none) (λ_ _ _ _=>none) (λ_ _ _ _ _=>none) (λ_ _ _ _ _=>none) (λ_ _ _ _=>none) (λ_ ih _ y=>ih y) (λ_ _=>none) (λ_ _=>none) (λy=>y) (λ_ _ _ _ _=>none) v x y
theorem zzr{v:AV}{want:Bool}{x y:O}{R:AV×Heap}(h:grK v want x y=some R):(gdB v want=some true/\x=some R)\/(gdB v want=some false/\y=some R):=by
 cases v<;>first | (simp[grK]at h;done) | skip
 ·rename_i b;have h:bsel (beqB false b want) x y=some R:=h;cases b<;>cases want<;>first | exact .inl ⟨rfl,h⟩ | exact .inr ⟨rfl,h⟩
 ·rename_i cs;cases cs with
  |nil=>exact .inr ⟨rfl,h⟩
  |cons a r=>exact absurd (show(none:O)=some R from h) (by simp)
noncomputable def zbv(x:GT)(want:Bool)(d:ST)(f:OR->OR)(next:OR):OR:=λc n kn E H=>grK (x E) want (f next c n kn E H) (d E (.tup []) λE=>next c n kn E H)
theorem qwh(hd:okD dd=true){k:CK}{f:OR->OR}(g:Nat)(want:Bool)(hf:Good ok ⟨dd,none,k⟩ f):Good ok ⟨dd,some (g,want),k⟩ (zbv (gS g) want (trD dd) f):=by
 intro next c n kn E H R h
 rcases zzr h with⟨hb,h⟩ | ⟨hb,h⟩
 ·rw[ztv]at hb;obtain⟨v,e',rd,cc,h2,h3⟩:=hf _ _ _ _ _ _ _ h;exact⟨v,e',rd,cc,⟨true,hb,λ_=>h2,λh=>by simp at h⟩,h3⟩
 ·rw[ztv]at hb;rw[zbe hd]at h;exact⟨.tup [],[],[],0,⟨false,hb,λh=>by simp at h,λ_=>⟨rfl,rfl,rfl,rfl⟩⟩,h⟩
noncomputable def trK(ok:FuncId->Bool)(d:Option Nat)(k:CK):OR->OR:=match k with
 |.mov x=>zdh (trD d) (trG x)
 |.pick x a b=>zhx (trD d) (trG x) (trG a) (trG b)
 |.box x=>zke (trD d) (trG x)
 |.load false 1 x=>zdi (trD d) (trG x)
 |.load true sz x=>zfh sz (trD d) (trG x)
 |.store 1 x y=>match d with
  |none=>zfi (trG x) (trG y)
  |some d=>zkg ok (λE=>CK.sub (λx=> .k (trG x E)) (.store 1 x y)) (trD (some d))
 |.store (sz+2) x y=>match d with
  |none=>zey (sz+2) (trG x) (trG y)
  |some d=>zkg ok (λE=>CK.sub (λx=> .k (trG x E)) (.store (sz+2) x y)) (trD (some d))
 |.callc x args=>zki ok (trD d) (trG x) (args.map trG)
 |.idxa m sz x i=>zpw m sz (trD d) (trG x) (trG i)
 |.lenk m=>zrz m (trD d)
 |.mkfn f args=>zpx f (trD d) (args.map trG)
 |.mksl sz bytes z x y=>match Nat.beq z.length sz,Nat.blt 0 sz with
  |true,true=>zpy sz bytes z (trD d) (trG x) (trG y)
  |_,_=>zkg ok (λE=>CK.sub (λx=> .k (trG x E)) (.mksl sz bytes z x y)) (trD d)
 |.nilck x=>zpn (trD d) (trG x)
 |.bin op x y=>zjr op (trB op) (trD d) (trG x) (trG y)
 |.beq neg x y=>qly neg (trD d) (trG x) (trG y)
 |.un op x=>o_un op (trD d) (trG x)
 |.conv k x=>zwm k (trD d) (trG x)
 |.fld off x=>zil off (trD d) (trG x)
 |.part false 1 off x=>zwn off (trD d) (trG x)
 |.part true sz off x=>zpo sz off (trD d) (trG x)
 |.idx sz x i=>qgq sz (trD d) (trG x) (trG i)
 |.ext x i=>zkf i (trD d) (trG x)
 |.len false x=>zwo (trD d) (trG x)
 |.call f args=>match Nat.blt f 4096 with
  |true=>zfe (dg (f/256)) (dg (f/16%16)) (dg (f%16)) (trD d) (args.map trG)
  |false=>zkg ok (λE=>CK.sub (λx=> .k (trG x E)) (.call f args)) (trD d)
 |k=>zkg ok (λE=>k.sub λx=> .k (trG x E)) (trD d)
theorem qcx{d:Option Nat}(hd:okD d=true)(k:CK):Good ok ⟨d,none,k⟩ (trK ok d k):=by
 unfold trK;split
 ·exact qvx hd _
 ·exact qlu hd _ _ _
 ·exact qwa hd _
 ·exact qlv hd _
 ·exact qgl hd _ _
 ·split
  ·exact qgm _ _
  ·exact zlk hd _
 ·split
  ·exact zzq _ _ _
  ·exact zlk hd _
 ·exact qgu hd _ _
 ·exact qmh hd _ _ _ _
 ·exact qmi hd _
 ·exact qmj hd _ _
 ·split
  ·rename_i h1 h2;exact qmk hd _ _ _ (qX h1) (zpk.1 h2) _ _
  ·exact zlk hd _
 ·exact qgn hd _
 ·exact qwb hd _ _ _
 ·exact qwc hd _ _ _
 ·exact xak hd _ _
 ·exact qlz hd _ _
 ·exact qwd hd _ _
 ·exact qma hd _ _
 ·exact qgp hd _ _ _
 ·exact qwe hd _ _ _
 ·exact qwf hd _ _
 ·exact qwg hd _
 ·split
  ·rename_i hf;exact qme hd _ hf _
  ·exact zlk hd _
 ·exact zlk hd _
noncomputable def trO(ok:FuncId->Bool)(o:COp):OR->OR:=match o.g with
 |none=>trK ok o.dst o.k
 |some (g,want)=>zbv (gS g) want (trD o.dst) (trK ok o.dst o.k)
theorem xxt{o:COp}(hd:okD o.dst=true):Good ok o (trO ok o):=by
 obtain⟨d,g,k⟩:=o;unfold trO;cases g with
 |none=>exact qcx hd k
 |some p=>obtain⟨g,want⟩:=p;exact qwh hd g want (qcx hd k)
end
noncomputable def zdl:OR:=λ_ _ kn E H=>kn E H
noncomputable def trL(ok:FuncId->Bool)(os:List COp):OR:=List.rec (motive:=λ_=>OR) zdl (λo _ ih=>trO ok o ih) os
def okL:List COp->Bool
 | []=>true
 |o::os=>match okD o.dst with
  |true=>okL os
  |false=>false
inductive RR(ok:FuncId->Bool)(call:FRun)(n0:Nat):List COp->E16->Heap->List FP->E16->Heap->Prop
 |nil (E:E16) (H:Heap):RR ok call n0 [] E H [] E H
 |cons {o:COp} {os:List COp} {E:E16} {H:Heap} {v:AV} {e:Eff} {rd:List Nat} {c:Nat} {l:List FP} {E':E16} {H':Heap} (h1:opSP ok call n0 o E.env H v e rd c) (h2:okD o.dst=true)
   (h3:RR ok call n0 os (E.setO o.dst v) (zaf e (padH H c)) l E' H'):RR ok call n0 (o::os) E H ((rd,keys e)::l) E' H'
section
variable{P:Program}{ok:FuncId->Bool}{Γ:Glob}{n0 nt:Nat}
theorem qml:∀(os:List COp),okL os=true->∀{c n kn E H R},trL ok os c n kn E H=some R->∃l E' H',RR ok (frun c) n os E H l E' H'/\kn E' H'=some R:=by
 intro os
 induction os with
 |nil=>intro _ c n kn E H R h;exact⟨[],E,H,.nil E H,h⟩
 |cons o os ih=>
  intro ho c n kn E H R h;simp only[okL]at ho;split at ho
  ·rename_i hd;obtain⟨v,e,rd,cc,h1,h2⟩:=xxt hd _ _ _ _ _ _ _ (show trO ok o (trL ok os) c n kn E H=some R from h);obtain⟨l,E',H',h3,h4⟩:=ih ho h2;exact⟨_,E',H',.cons h1 hd h3,h4⟩
  ·simp at ho
def zzs(P:Program)(Γ:Glob)(f0:FRun):Prop:= ∀f args H v H',f0 f args H=some (v,H')->Ret P Γ f args H v H'
theorem zsa{f0:FRun}(hok:∀f,ok f=true->okFn P f=true)(hc:zzs P Γ f0){k:CK}{E:Env}{H:Heap}{v:AV}{e:Eff}{rd:List Nat}{c:Nat}(h:opBP ok f0 n0 k E H v e rd c){K:It->Prop}(hK:K ⟨v,e,rd,H.length,c⟩):
  zvz P Γ n0 k E H K:=by
 cases k<;>simp only[opBP]at h
 case call f args=>exact⟨v,e,rd,c,h.sound hc,hK⟩
 case callc x args=>
  obtain⟨f,caps,hx,ho,h⟩:=h;exact⟨f,caps,hx,qbx hok ho,v,e,rd,c,h.sound hc,hK⟩
 all_goals
  obtain⟨hev,rfl⟩:=h;exact⟨_,_,_,hev,hK⟩
theorem zty{f0:FRun}(hok:∀f,ok f=true->okFn P f=true)(hc:zzs P Γ f0){os:List COp}{E:E16}{H:Heap}{l:List FP}{E':E16}{H':Heap}(h:RR ok f0 n0 os E H l E' H'):
  ∀Q:List FP->Env->Heap->Prop,Q l E'.env H'->regB P Γ n0 os E.env H Q:=by
 induction h with
 |nil E H=>intro Q hQ;exact hQ
 | @cons o os E H v e rd c l E' H' h1 h2 h3 ih=>
  intro Q hQ;have hrest:=ih (λl=>Q ((rd,keys e)::l)) hQ;rw[E16.env_setO _ _ h2,ztr]at hrest;simp only[regB,jyu];unfold opSP at h1;split at h1
  ·rename_i hg;rw[hg];exact zsa hok hc h1 hrest
  ·rename_i d want hg;rw[hg];obtain⟨b,hb,g1,g2⟩:=h1;refine⟨b,hb,λe1=>zsa hok hc (g1 e1) hrest,λe1=>?_⟩;obtain⟨rfl,rfl,rfl,rfl⟩:=g2 e1;exact hrest
noncomputable def zll:RunT:=λ_ _ kn _ E H=>kn E H
noncomputable def ztz:RunT:=λ_ _ _ kx E H=>kx .ret E H
noncomputable def jvl(i:Nat):RunT:=λ_ _ _ kx E H=>kx (.exit i) E H
noncomputable def jvm(i:Nat):RunT:=λ_ _ _ kx E H=>kx (.goto i) E H
noncomputable def t_no:RunT:=λ_ _ _ _ _ _=>none
noncomputable def zdp(a b:RunT):RunT:=λc n kn kx E H=>a c n (λE H=>b c n kn kx E H) kx E H
noncomputable def cndK(v:AV)(x y:O):O:=AV.rec (motive_1:=λ_=>O->O->O) (motive_2:=λ_=>Unit) (λb x y=>bsel b x y) (λ_ _ _ _=>none) (λ_ _ _=>none) (λ_ _ _ _ _ _=>none) (λ_ _ _ _ _ _ _=>none) (λ_ _ _ _=>none) (λ_ _ _ _ _=>none) (λ_ _ _ _ _=>none) (λ_ _ _ _=>none) (λ_ _ _ _=>none) (λ_ _=>none) (λ_ _=>none) () (λ_ _ _ _=>()) v x y
noncomputable def zlm(x:GT)(a b:RunT):RunT:=λc n kn kx E H=>cndK (x E) (a c n kn kx E H) (b c n kn kx E H)
noncomputable def blkX(id:Nat)(kn:Kn)(kx:Kx)(x:Exit)(E:E16)(H:Heap):O:=match x with
 |.exit i=>bsel (Nat.beq i id) (kn E H) (kx (.exit i) E H)
 |x=>kx x E H
noncomputable def zzt(id:Nat)(a:RunT):RunT:=λc n kn kx E H=>a c n kn (blkX id kn kx) E H
noncomputable def qwi(f:Kn->Kn)(n:Nat):Kn:=Nat.rec (motive:=λ_=>(Kn->Kn)->Kn) (λ_ _ _=>none) (λ_ ih f E H=>f (ih f) E H) n f
noncomputable def jvn(a:RunT):RunT:=λc n _ kx E H=>qwi (λih E H=>a c n ih kx E H) (nat_lit 1000000) E H
noncomputable def scpX(kx:Kx)(x:Exit)(E:E16)(H:Heap):O:=match x with
 |.goto _=>none
 |x=>kx x E H
noncomputable def qmm(a:RunT):RunT:=λc n kn kx E H=>a c n kn (scpX kx) E H
noncomputable def zcr(r:OR):RunT:=λc n kn _ E H=>r c n kn E H
def CK.quiet:CK->Bool
 |.load .. => true
 |.slarr .. => true
 |.b2s _=>true
 |_=>false
theorem qmn{fresh:Nat}{k:CK}{V:Opd->AV}{H:Heap}{v:AV}{e:Eff}{rd:List Nat}(hk:k.quiet=true)(h:evK n0 fresh k V H=some (v,e,rd)):e=[]:=by
 cases k<;>simp only[CK.quiet]at hk<;>try (simp at hk;done)
 case load ag sz x=>
  simp only[evK]at h;split at h
  ·split at h
   ·obtain⟨_,h⟩:=zac h;simp at h;exact h.2.1
   ·simp at h
  ·obtain⟨_,h⟩:=zac h;simp at h;exact h.2.1
  ·simp at h
 case slarr n sz x lo hi mx=>
  simp only[evK]at h;split at h
  ·split at h
   ·obtain⟨_,h⟩:=zac h;simp only[qL]at h;obtain⟨w,_,h⟩:=h;simp at h;exact h.2.1
   ·simp at h
  ·obtain⟨_,h⟩:=zac h;simp only[qL]at h;obtain⟨w,_,h⟩:=h;simp at h;exact h.2.1
  ·simp at h
 case b2s x=>
  simp only[evK,qL]at h;obtain⟨_,_,_,_,_,_,h⟩:=h;simp at h;exact h.2.1
theorem qgv{f0:FRun}{o:COp}{E:Env}{H:Heap}{v:AV}{e:Eff}{rd:List Nat}{c:Nat}(hk:o.k.quiet=true)(h:opSP ok f0 n0 o E H v e rd c):e=[]:=by
 have body:opBP ok f0 n0 o.k E H v e rd c->e=[]:=by
  intro h;cases hck:o.k<;>rw[hck]at h hk<;>simp only[CK.quiet]at hk<;>first | (simp at hk;done) | skip
  all_goals
   simp only[opBP]at h;exact qmn rfl h.1
 unfold opSP at h;split at h
 ·exact body h
 ·rename_i d want hg;obtain⟨b,_,g1,g2⟩:=h;cases b with
  |true=>exact body (g1 rfl)
  |false=>exact(g2 rfl).2.1
theorem zoa{call:FRun}{os:List COp}{E:E16}{H:Heap}{l:List FP}{E':E16}{H':Heap}(h:RR ok call n0 os E H l E' H'):∀(i:Nat) (o:COp) (p:FP),os[i]?=some o->l[i]?=some p->o.k.quiet=true->p.2=[]:=by
 induction h with
 |nil E H=>intro i o p h;simp at h
 |cons h1 h2 h3 ih=>
  intro i o p ho hp hq;cases i with
  |zero=>
   simp at ho hp;subst ho hp;rw[qgv hq h1];rfl
  |succ i=>exact ih i o p (by simpa using ho) (by simpa using hp) hq
def zwq(os:List COp)(l:List (Nat×Nat)):Bool:=l.all λp=>match os[p.1]?,os[p.2]? with
 |some a,some b=>a.k.quiet && b.k.quiet
 |_,_=>false
theorem xxu{call:FRun}{os:List COp}{E:E16}{H:Heap}{fps:List FP}{E':E16}{H':Heap}(h:RR ok call n0 os E H fps E' H'){l:List (Nat×Nat)}(hq:zwq os l=true):dynB l fps=true:=by
 simp only[zwq,qE]at hq;simp only[dynB,qE];intro p hp;have:=hq p hp;split
 ·rename_i x y hx hy;split at this
  ·rename_i a b ha hb;simp only[qZ]at this;have e1:=zoa h _ _ _ ha hx this.1;have e2:=zoa h _ _ _ hb hy this.2;simp[e1,e2,zhg]
  ·simp at this
 ·rfl
noncomputable def zmv(f1 f2 f3:Dg)(d:ST)(args:List GT)(next:OR):OR:=λc n kn E H=>zhk args E λl=>ifK (clL l)
 (rtK (c f1 f2 f3 l []) λv h=>List.rec (motive:=λ_=>O->O) (λx=>x) (λ_ _ _ _=>none) h (ifK (clV v) (d E v λE=>next c n kn E H)))
def CK.isC:CK->Bool
 |.call f _=>Nat.blt f 4096
 |_=>false
noncomputable def trKP(ok:FuncId->Bool)(d:Option Nat)(k:CK):OR->OR:=match k.isC with
 |true=>match k with
  |.call f args=>zmv (dg (f/256)) (dg (f/16%16)) (dg (f%16)) (trD d) (args.map trG)
  |k=>trK ok d k
 |false=>trK ok d k
noncomputable def trOP(ok:FuncId->Bool)(o:COp):OR->OR:=match o.g with
 |none=>trKP ok o.dst o.k
 |some (g,want)=>zbv (gS g) want (trD o.dst) (trKP ok o.dst o.k)
noncomputable def trLP(ok:FuncId->Bool)(os:List COp):OR:=List.rec (motive:=λ_=>OR) zdl (λo _ ih=>trOP ok o ih) os
def xxv(ok:FuncId->Bool)(o:COp)(f:OR->OR):Prop:= ∀next c n kn E H R,f next c n kn E H=some R->
 ∃v e rd cc,opSP ok (frun c) n o (E16.env E) H v e rd cc/\(o.k.isC=true->e=[]/\rd=[])/\next c n kn (E16.setO E o.dst v) (zaf e (padH H cc))=some R
theorem qmo{d:Option Nat}(hd:okD d=true)(k:CK):xxv ok ⟨d,none,k⟩ (trKP ok d k):=by
 intro next c n kn E H R h
 cases hk:k.isC with
 |false=>
  have e:trKP ok d k=trK ok d k:=by simp only[trKP,hk]
  rw[e]at h;obtain⟨v,e,rd,cc,h1,h2⟩:=qcx hd k _ _ _ _ _ _ _ h;exact⟨v,e,rd,cc,h1,λh=>by simp at h,h2⟩
 |true=>
  cases k<;>first | (simp[CK.isC]at hk;done) | skip
  rename_i f args;have hf:Nat.blt f 4096=true:=hk;have e:trKP ok d (.call f args)=zmv (dg (f/256)) (dg (f/16%16)) (dg (f%16)) (trD d) (args.map trG):=by simp only[trKP,hk]
  rw[e]at h;simp only[zmv,zhl]at h;have hfr:frun c f=c (dg (f/256)) (dg (f/16%16)) (dg (f%16)):=by funext a h;simp only[frun,hf]
  rw[<-hfr]at h;obtain⟨hc,h⟩:=zan h;obtain⟨v,H',hr,h⟩:=zmt h;cases H' with
  |nil=>
   obtain⟨hv,h⟩:=zan (show ifK (clV v) (trD d E v λE=>next c n kn E H)=some R from h);rw[zbe hd]at h;rw[zpp]at hv;rw[znj]at hc;exact⟨v,[],[],0,.pure v hc hr hv,λ_=>⟨rfl,rfl⟩,h⟩
  |cons b r=>exact absurd (show(none:O)=some R from h) (by simp)
theorem xas{o:COp}(hd:okD o.dst=true):xxv ok o (trOP ok o):=by
 obtain⟨d,g,k⟩:=o;unfold trOP;cases g with
 |none=>exact qmo hd k
 |some p=>
  obtain⟨g,want⟩:=p;intro next c n kn E H R h
  rcases zzr h with⟨hb,h⟩ | ⟨hb,h⟩
  ·rw[ztv]at hb;obtain⟨v,e',rd,cc,h2,h4,h3⟩:=qmo hd k _ _ _ _ _ _ _ h;exact⟨v,e',rd,cc,⟨true,hb,λ_=>h2,λh=>by simp at h⟩,h4,h3⟩
  ·rw[ztv]at hb;rw[zbe hd]at h;exact⟨.tup [],[],[],0,⟨false,hb,λh=>by simp at h,λ_=>⟨rfl,rfl,rfl,rfl⟩⟩,λ_=>⟨rfl,rfl⟩,h⟩
theorem qwj:∀(os:List COp),okL os=true->∀{c n kn E H R},trLP ok os c n kn E H=some R->∃l E' H',RR ok (frun c) n os E H l E' H'/\kn E' H'=some R/\
  ∀(i:Nat) (o:COp) (p:FP),os[i]?=some o->l[i]?=some p->o.k.isC=true->p.1=[]/\p.2=[]:=by
 intro os
 induction os with
 |nil=>intro _ c n kn E H R h;exact⟨[],E,H,.nil E H,h,λi o p h=>by simp at h⟩
 |cons o os ih=>
  intro ho c n kn E H R h;simp only[okL]at ho;split at ho
  ·rename_i hd;obtain⟨v,e,rd,cc,h1,h5,h2⟩:=xas hd _ _ _ _ _ _ _ (show trOP ok o (trLP ok os) c n kn E H=some R from h);obtain⟨l,E',H',h3,h4,h6⟩:=ih ho h2;refine⟨_,E',H',.cons h1 hd h3,h4,λi o' p h7 h8 h9=>?_⟩;cases i with
   |zero=>
    simp at h7 h8;subst h7 h8;obtain⟨rfl,rfl⟩:=h5 h9;exact⟨rfl,rfl⟩
   |succ i=>exact h6 i o' p (by simpa using h7) (by simpa using h8) h9
  ·simp at ho
def qgw(os:List COp)(l:List (Nat×Nat)):Bool:=l.all λp=>match os[p.1]?,os[p.2]? with
 |some a,some b=>(a.k.isC || b.k.isC) || (a.k.quiet && b.k.quiet)
 |_,_=>false
theorem xat{call:FRun}{os:List COp}{E:E16}{H:Heap}{fps:List FP}{E':E16}{H':Heap}(h:RR ok call n0 os E H fps E' H')(hp:∀(i:Nat) (o:COp) (p:FP),os[i]?=some o->fps[i]?=some p->o.k.isC=true->p.1=[]/\p.2=[])
  {l:List (Nat×Nat)} (hq:qgw os l=true):dynB l fps=true:=by
 simp only[qgw,qE]at hq;simp only[dynB,qE];intro p hpm;have:=hq p hpm;split
 ·rename_i x y hx hy;split at this
  ·rename_i a b ha hb;simp only[xE,qZ]at this;rcases this with(h1 | h1) | h1
   ·obtain⟨e1,e2⟩:=hp _ _ _ ha hx h1;simp[e1,e2,zhg]
   ·obtain⟨e1,e2⟩:=hp _ _ _ hb hy h1;simp[e1,e2,zhg]
   ·have e1:=zoa h _ _ _ ha hx h1.1;have e2:=zoa h _ _ _ hb hy h1.2;simp[e1,e2,zhg]
  ·simp at this
 ·rfl
def eqL2(f:AV->AV->Bool):List AV->List AV->Bool
 | [],[]=>true
 |a::l,b::r=>match f a b with
  |true=>eqL2 f l r
  |false=>false
 |_,_=>false
def eqO2:Option Nat->Option Nat->Bool
 |none,none=>true
 |some a,some b=>Nat.beq a b
 |_,_=>false
def eqA2:Nat->AV->AV->Bool
 |0,_,_=>false
 |d+1,a,b=>match a,b with
  |.bool x,.bool y=>(x == y)
  |.int k x,.int k' y=>(qvi k k' && (x == y))
  |.vec cs n c,.vec cs' n' c'=>Nat.beq n n' && (eqO2 c c' && eqL2 (eqA2 d) cs cs')
  |.sl a b c d e,.sl a' b' c' d' e'=>Nat.beq a a' && (Nat.beq b b' && (Nat.beq c c' && (Nat.beq d d' && eqO2 e e')))
  |.ptr a b,.ptr a' b'=>Nat.beq a a' && Nat.beq b b'
  |.iptr cs p,.iptr cs' p'=>Nat.beq p p' && eqL2 (eqA2 d) cs cs'
  |.clo f cs,.clo f' cs'=>Nat.beq f f' && eqL2 (eqA2 d) cs cs'
  |.agg cs,.agg cs'=>eqL2 (eqA2 d) cs cs'
  |.tup cs,.tup cs'=>eqL2 (eqA2 d) cs cs'
  |.anyb,.anyb=>true
  |.junk,.junk=>true
  |_,_=>false
theorem zzu{f:AV->AV->Bool}(hf:∀a b,f a b=true->a=b):∀(l r:List AV),eqL2 f l r=true->l=r:=by
 intro l
 induction l with
 |nil=>intro r h;cases r with | nil=>rfl | cons b r=>simp[eqL2]at h
 |cons a l ih=>
  intro r h;cases r with
  |nil=>simp[eqL2]at h
  |cons b r=>
   simp only[eqL2]at h;split at h
   ·rename_i hab;rw[hf a b hab,ih r h]
   ·simp at h
theorem qmp{a b:Option Nat}(h:eqO2 a b=true):a=b:=by
 cases a<;>cases b<;>simp[eqO2]at h<;>first | rfl | (rw[h])
theorem qcy{k k':IntKind}(h:qvi k k'=true):k=k':=by cases k<;>cases k'<;>first | rfl | (simp[qvi]at h)
theorem zpz:∀(d:Nat) (a b:AV),eqA2 d a b=true->a=b:=by
 intro d
 induction d with
 |zero=>intro a b h;simp[eqA2]at h
 |succ d ih=>
  intro a b h;have hl:=zzu (f:=eqA2 d) ih;cases a<;>cases b<;>simp only[eqA2,qZ]at h<;>try (simp at h;done)
  case bool x y=>rw[eq_of_beq h]
  case int k x k' y=>rw[qcy h.1,eq_of_beq h.2]
  case vec cs n c cs' n' c'=>rw[qX h.1,qmp h.2.1,hl _ _ h.2.2]
  case sl=>rw[qX h.1,qX h.2.1,qX h.2.2.1,qX h.2.2.2.1,qmp h.2.2.2.2]
  case ptr=>rw[qX h.1,qX h.2]
  case iptr=>rw[qX h.1,hl _ _ h.2]
  case clo f cs f' cs'=>rw[qX h.1,hl _ _ h.2]
  case agg=>rw[hl _ _ h]
  case tup=>rw[hl _ _ h]
  case anyb=>rfl
  case junk=>rfl
def eqB2(H H2:Heap)(j:Nat):Bool:=match getB H j,getB H2 j with
 |some a,some b=>eqL2 (eqA2 6) a b
 |_,_=>false
theorem xau{H H2:Heap}{j:Nat}(h:eqB2 H H2 j=true):∃cs,getB H j=some cs/\getB H2 j=some cs:=by
 unfold eqB2 at h;split at h
 ·rename_i a b h1 h2;exact⟨a,h1,by rw[h2,zzu (zpz 6) a b h]⟩
 ·simp at h
theorem qwk{σ:Nat->Nat}:∀(L:Heap) (i0:Nat) (x:Nat×Option (List AV)),x∈effs σ i0 L->∃i,∃hi:i<L.length,x=(σ (i0+i),renB σ L[i]):=by
 intro L
 induction L with
 |nil=>intro i0 x h;simp[effs]at h
 |cons c L ih=>
  intro i0 x h;simp only[effs,List.mem_cons]at h;rcases h with rfl | h
  ·exact⟨0,by simp,rfl⟩
  ·obtain⟨i,hi,rfl⟩:=ih (i0+1) x h;refine⟨i+1,by simpa using hi,?_⟩;have:i0+1+i=i0+(i+1):=by omega
   rw[this];rfl
noncomputable def genF(f0:List AV->Heap->O)(args:List AV)(ids:List Nat)(H:Heap)(k:FP->AV->Heap->O):O:=
 ifK (innA ids args) (subK ids ids H λH0=>rnL (posN ids) args λargs0=>rtK (f0 args0 H0) λv H'=>lenK H λm=>rnK (namN ids m) v λv=>hpK (padH H (Nat.sub H'.length ids.length)) λHp=>wbK (namN ids m) H' 0 Hp λH2=>k (ids,keys ((effs (namN ids m) 0 H').filter λx=>!(eqB2 H H2 x.1))) v H2)
theorem qcz{f0:FRun}{f:FuncId}{args:List AV}{ids:List Nat}{H:Heap}{k:FP->AV->Heap->O}{R:AV×Heap}(h1:zeq ids=true)(h:genF (f0 f) args ids H k=some R):∃v e rd cc,CallS f0 f args H v e rd cc/\k (rd,keys e) v (zaf e (padH H cc))=some R:=by
 obtain⟨h2,h⟩:=zan h;obtain⟨h3,h⟩:=qcv ids H ids h;rw[zwp]at h;obtain⟨v,H',hr,h⟩:=zmt h;have hn:namN ids H.length=zag ids H.length:=funext (qmd ids H.length);have hp:posN ids=pos ids:=funext (zpr ids);rw[zet,qcu,zrx,jvk,hn]at h;rw[hp]at hr;rw[ztw]at h2;have hS:CallS f0 f args H (v.ren (zag ids H.length)) (effs (zag ids H.length) 0 H') ids (H'.length-ids.length):= .gen ids v H' h2 (by unfold qli;rw[h1,Bool.true_and];exact h3) hr
 have hlt:∀i∈ids,i<H.length:=by
  intro i hi;have:=List.all_eq_true.1 h3 i hi;split at this
  ·rename_i cs e;exact zfy e
  ·simp at this
 have hnd:=zpj _ h1
 have hcond:∀x∈effs (zag ids H.length) 0 H',(!(eqB2 H (zaf (effs (zag ids H.length) 0 H') (padH H (H'.length-ids.length))) x.1))=false->x.1∈ids/\∃cs,x.2=some cs/\getB H x.1=some cs:=by
  intro x hx hpx;obtain⟨i,hi,rfl⟩:=qwk _ _ _ hx;simp only[Bool.not_eq_false']at hpx;obtain⟨cs,g1,g2⟩:=xau hpx;simp only[qM]at g1 g2 ⊢;have hl:=zfy g1
  have hil:i<ids.length:=by
   rcases qV i ids.length with h' | h'
   ·exact h'
   ·unfold zag at hl;rw[dif_neg (by omega)]at hl;omega
  have hm:zag ids H.length i∈ids:=by simp only[zag,hil,dif_pos];exact List.getElem_mem hil
  have hh:=ztl (zag ids H.length) (λa b=>zow hnd hlt) H' 0 (padH H (H'.length-ids.length)) i hi (by rw[ztr];simp only[qM,List.length_append];omega);simp only[qM]at hh;unfold getB at g2;rw[hh]at g2;refine⟨hm,cs,?_,g1⟩;cases hr2:renB (zag ids H.length) H'[i]with
  |none=>rw[hr2]at g2;simp at g2
  |some z=>rw[hr2]at g2;simpa using g2
 have hT:=CallS.thin (λj=>!(eqB2 H (zaf (effs (zag ids H.length) 0 H') (padH H (H'.length-ids.length))) j)) hS hcond;refine⟨_,_,_,_,hT,?_⟩
 rw[zla (λj=>!(eqB2 H (zaf (effs (zag ids H.length) 0 H') (padH H (H'.length-ids.length))) j)) _ _ (λx hx hpx=>by
  obtain⟨_,cs,q1,q2⟩:=hcond x hx hpx;exact⟨cs,q1,by rw[ztr,zlc];exact q2⟩)]
 exact h
noncomputable def qmq(c:FR)(f:Nat)(l:List AV)(H:Heap)(k:FP->AV->Heap->O):O:=bsel (clL l)
 (rtK (c (dg (Nat.div f (nat_lit 256))) (dg (Nat.mod (Nat.div f (nat_lit 16)) (nat_lit 16))) (dg (Nat.mod f (nat_lit 16))) l []) λv h=>List.rec (motive:=λ_=>O->O->O) (λx _=>x) (λ_ _ _ _ y=>y) h (ifK (clV v) (k ([],[]) v H)) (genF (c (dg (Nat.div f (nat_lit 256))) (dg (Nat.mod (Nat.div f (nat_lit 16)) (nat_lit 16))) (dg (Nat.mod f (nat_lit 16)))) l [] H k))
 (spK (idsA l []) λids=>zpt ids H λids=>genF (c (dg (Nat.div f (nat_lit 256))) (dg (Nat.mod (Nat.div f (nat_lit 16)) (nat_lit 16))) (dg (Nat.mod f (nat_lit 16)))) l ids H k)
theorem zqa{c:FR}{f:Nat}{l:List AV}{H:Heap}{k:FP->AV->Heap->O}{R:AV×Heap}(hf:Nat.blt f 4096=true)(h:qmq c f l H k=some R):∃v e rd cc,CallS (frun c) f l H v e rd cc/\k (rd,keys e) v (zaf e (padH H cc))=some R:=by
 have hfr:frun c f=c (dg (f/256)) (dg (f/16%16)) (dg (f%16)):=by funext a h;simp only[frun,hf]
 have h:bsel (clL l) (rtK (c (dg (f/256)) (dg (f/16%16)) (dg (f%16)) l []) λv h=>List.rec (motive:=λ_=>O->O->O) (λx _=>x) (λ_ _ _ _ y=>y) h (ifK (clV v) (k ([],[]) v H)) (genF (c (dg (f/256)) (dg (f/16%16)) (dg (f%16))) l [] H k))
  (spK (idsA l []) λids=>zpt ids H λids=>genF (c (dg (f/256)) (dg (f/16%16)) (dg (f%16))) l ids H k)=some R:=h
 rw[<-hfr]at h;rcases zdw h with⟨hc,h⟩ | h
 ·obtain⟨v,H',hr,h⟩:=zmt h;cases H' with
  |nil=>
   obtain⟨hv,h⟩:=zan (show ifK (clV v) (k ([],[]) v H)=some R from h);rw[zpp]at hv;rw[znj]at hc;exact⟨v,[],[],0,.pure v hc hr hv,h⟩
  |cons b r=>exact qcz rfl h
 ·rw[zgu]at h;obtain⟨ids,hn,h⟩:=zmu h;exact qcz hn h
abbrev OF:=(FP->OR)->OR
def zqb(ok:FuncId->Bool)(o:COp)(f:OF):Prop:= ∀next c n kn E H R,f next c n kn E H=some R->
 ∃v e rd cc,opSP ok (frun c) n o (E16.env E) H v e rd cc/\next (rd,keys e) c n kn (E16.setO E o.dst v) (zaf e (padH H cc))=some R
theorem qmr{f0:FRun}{k:CK}{E:Env}{H:Heap}{v:AV}{e:Eff}{rd:List Nat}{c:Nat}(hk:k.loud=false)(h:opBP ok f0 n0 k E H v e rd c):e=[]/\rd=[]:=by
 have hs:Stp (default:Program) ⟨[],λ_ _ _ _ _=>False,λ_=>[]⟩ n0 ⟨none,none,k⟩ E H ⟨v,e,rd,H.length,c⟩:=by
  show Body (default:Program) ⟨[],λ_ _ _ _ _=>False,λ_=>[]⟩ n0 k E H ⟨v,e,rd,H.length,c⟩
  cases k<;>first | (simp[CK.loud]at hk;done) | exact h
 exact hs.quiet hk
noncomputable def zsb(ok:FuncId->Bool)(d:Option Nat)(k:CK):OF:=λnext=>trK ok d k (next ([],[]))
theorem qms{d:Option Nat}(hd:okD d=true)(k:CK)(hk:k.loud=false):zqb ok ⟨d,none,k⟩ (zsb ok d k):=by
 intro next c n kn E H R h
 obtain⟨v,e,rd,cc,h1,h2⟩:=qcx hd k _ _ _ _ _ _ _ h;obtain⟨rfl,rfl⟩:=qmr hk (show opBP ok (frun c) n k E.env H v e rd cc from h1);exact⟨v,[],[],cc,h1,h2⟩
noncomputable def qmt(d:ST)(x:GT):OF:=λnext c n kn E H=>zfg (x E) (λid off=>blkK H id λcs=>nthK cs off λv=>d E v λE=>next ([id],[]) c n kn E H) (λcs p=>nthK cs p λv=>d E v λE=>next ([],[]) c n kn E H)
theorem qgx{dd:Option Nat}(hd:okD dd=true)(x:Opd):zqb ok ⟨dd,none,.load false 1 x⟩ (qmt (trD dd) (trG x)):=by
 intro next c n kn E H R h
 have key:∀(cs:List AV) (p:Nat) (v:AV),cs[p]?=some v->p+1<=cs.length/\ldv false 1 p cs=v:=by
  intro cs p v hv
  have hl:p<cs.length:=by
   rcases qV p cs.length with h' | h'
   ·exact h'
   ·rw[qJ h']at hv;simp at hv
  exact⟨hl,by simp[ldv,qW,hv]⟩
 rcases zdg h with⟨id,off,hx,h⟩ | ⟨cs,p,hx,h⟩
 ·obtain⟨cs,hg,h⟩:=zcz h;obtain⟨v,hv,h⟩:=zdv h;rw[zay]at hx;rw[zbe hd]at h;obtain⟨h1,h2⟩:=key _ _ _ hv;exact⟨v,[],[id],0,⟨by simp only[evK,hx,hg,need,h1,h2];simp,rfl⟩,h⟩
 ·obtain⟨v,hv,h⟩:=zdv h;rw[zay]at hx;rw[zbe hd]at h;obtain⟨h1,h2⟩:=key _ _ _ hv;exact⟨v,[],[],0,⟨by simp only[evK,hx,need,h1,h2];simp,rfl⟩,h⟩
noncomputable def zzv(sz:Nat)(d:ST)(x:GT):OF:=λnext c n kn E H=>zfg (x E) (λid off=>blkK H id λcs=>cutK cs off sz λv=>d E (.agg v) λE=>next ([id],[]) c n kn E H) (λcs p=>cutK cs p sz λv=>d E (.agg v) λE=>next ([],[]) c n kn E H)
theorem zzw{dd:Option Nat}(hd:okD dd=true)(sz:Nat)(x:Opd):zqb ok ⟨dd,none,.load true sz x⟩ (zzv sz (trD dd) (trG x)):=by
 intro next c n kn E H R h
 rcases zdg h with⟨id,off,hx,h⟩ | ⟨cs,p,hx,h⟩
 ·obtain⟨cs,hg,h⟩:=zcz h;obtain⟨h1,h⟩:=zhj h;rw[zay]at hx;rw[zbe hd]at h;exact⟨_,[],[id],0,⟨by simp only[evK,hx,hg,need,h1,ldv];simp,rfl⟩,h⟩
 ·obtain⟨h1,h⟩:=zhj h;rw[zay]at hx;rw[zbe hd]at h;exact⟨_,[],[],0,⟨by simp only[evK,hx,need,h1,ldv];simp,rfl⟩,h⟩
noncomputable def qwl(d:ST)(x:GT):OF:=λnext c n kn E H=>boxK (x E) λcs=>lenK H λm=>qgj H (some cs) λH'=>d E (.ptr m 0) λE=>next ([],[m]) c n kn E H'
theorem qmu{dd:Option Nat}(hd:okD dd=true)(x:Opd):zqb ok ⟨dd,none,.box x⟩ (qwl (trD dd) (trG x)):=by
 intro next c n kn E H R h
 obtain⟨hf,h⟩:=qcp h;simp only[zay]at hf h;simp only[zet,znz,zbe hd]at h;exact⟨.ptr H.length 0,[(H.length,some (val E.env x).cells)],[],1,⟨by simp only[evK,hf,need,if_true],rfl⟩,by simp only[zaf,set_snoc];exact h⟩
noncomputable def zzx(x y:GT):OF:=λnext c n kn E H=>zfg (x E) (λid off=>blkK H id λcs=>sc2K (y E) λw=>nthK cs off λ_=>putK cs off w λcs=>putK H id (some cs) λH=>next ([id],[id]) c n kn E H) (λ_ _=>none)
theorem zzy(x y:Opd):zqb ok ⟨none,none,.store 1 x y⟩ (zzx (trG x) (trG y)):=by
 intro next c n kn E H R h
 rcases zdg h with⟨id,off,hx,h⟩ | ⟨cs,p,hx,h⟩
 ·obtain⟨cs,hg,h⟩:=zcz h;obtain⟨z,h1,h2,h3,h⟩:=qcq h;obtain⟨v,hv,h⟩:=zdv h;rw[zay]at hx;rw[zay]at h1 h2;simp only[zff]at h
  have hl:off<cs.length:=by
   rcases qV off cs.length with h' | h'
   ·exact h'
   ·rw[qJ h']at hv;simp at hv
  refine⟨.junk,[(id,some (cs.set off z))],[id],0,⟨?_,rfl⟩,h⟩;simp only[evK,hx,hg,need,h1,h2,AV.scalL,h3,setL];simp;omega
 ·simp at h
noncomputable def zob(sz:Nat)(x y:GT):OF:=λnext c n kn E H=>zfg (x E) (λid off=>blkK H id λcs=>zwi (y E) λws=>lenK ws λm=>ifK (Nat.beq m sz) (stL ws cs off λcs=>putK H id (some cs) λH=>next ([id],[id]) c n kn E H)) (λ_ _=>none)
theorem zwr(sz:Nat)(x y:Opd):zqb ok ⟨none,none,.store (sz+1) x y⟩ (zob (sz+1) (trG x) (trG y)):=by
 intro next c n kn E H R h
 rcases zdg h with⟨id,off,hx,h⟩ | ⟨cs,p,hx,h⟩
 ·obtain⟨cs,hg,h⟩:=zcz h;obtain⟨ws,hy,h⟩:=zlj h;rw[zet]at h;obtain⟨hl,h⟩:=zan h;have hl:ws.length=sz+1:=qX hl;obtain⟨h1,h2,h⟩:=qmf ws h;rw[zff]at h;have h2:=h2 (by intro e;rw[e]at hl;simp at hl);rw[zay]at hx hy;refine⟨.junk,[(id,some (setL cs off ws))],[id],0,⟨?_,rfl⟩,h⟩;simp only[evK,hx,hg,hy,need,AV.firm,AV.cells,hl,h1];rw[if_pos ⟨trivial,trivial,trivial,by omega⟩]
 ·simp at h
noncomputable def zsc(f:Nat)(d:ST)(args:List GT):OF:=λnext c n kn E H=>zhk args E λl=>qmq c f l H λfp v H=>d E v λE=>next fp c n kn E H
theorem qgy{dd:Option Nat}(hd:okD dd=true)(f:FuncId)(hf:Nat.blt f 4096=true)(args:List Opd):zqb ok ⟨dd,none,.call f args⟩ (zsc f (trD dd) (args.map trG)):=by
 intro next c n kn E H R h
 simp only[zsc,zhl]at h;obtain⟨v,e,rd,cc,h1,h2⟩:=zqa hf h;rw[zbe hd]at h2;exact⟨v,e,rd,cc,h1,h2⟩
noncomputable def zua(ok:FuncId->Bool)(d:ST)(x:GT)(args:List GT):OF:=λnext c n kn E H=>qmg (x E) λf caps=>ifK (okC ok f) (zhk args E λl=>
 bsel (Nat.blt f (nat_lit 65536)) (ifK (Nat.blt f (nat_lit 4096)) (appK l caps λl=>qmq c f l H λfp v H=>d E v λE=>next fp c n kn E H))
  (ifK (nB1 (Nat.blt f (nat_lit 65536))) (natK (Nat.sub f (nat_lit 65536)) λf=>ifK (Nat.blt f (nat_lit 4096)) (appK caps l λl=>qmq c f l H λfp v H=>d E v λE=>next fp c n kn E H))))
theorem zzz{dd:Option Nat}(hd:okD dd=true)(x:Opd)(args:List Opd):zqb ok ⟨dd,none,.callc x args⟩ (zua ok (trD dd) (trG x) (args.map trG)):=by
 intro next c n kn E H R h
 obtain⟨f,caps,hx,h⟩:=zpu h;rw[zay]at hx;obtain⟨ho,h⟩:=zan h;rw[zhl]at h;rcases zdw h with⟨hb,h⟩ | h
 ·obtain⟨hf,h⟩:=zan h;rw[zkh]at h;obtain⟨v,e,rd,cc,h1,h2⟩:=zqa hf h;rw[zbe hd]at h2;have hb:Nat.blt f 65536=true:=hb;exact⟨v,e,rd,cc,⟨f,caps,hx,ho,by simp only[cloF,cloA,hb];exact h1⟩,h2⟩
 ·obtain⟨hb,h⟩:=zan h;rw[qcw]at hb;rw[zbf]at h;obtain⟨hf,h⟩:=zan h;rw[zkh]at h;obtain⟨v,e,rd,cc,h1,h2⟩:=zqa hf h;rw[zbe hd]at h2;have hb:Nat.blt f 65536=false:=by simpa using hb
  exact⟨v,e,rd,cc,⟨f,caps,hx,ho,by simp only[cloF,cloA,hb];exact h1⟩,h2⟩
noncomputable def zqc(ok:FuncId->Bool)(k:E16->CK)(d:ST):OF:=λnext c n kn E H=>resK (opBE ok (qlj (frun c)) n (k E) env0 H) λv e rd cc=>dnK v λv=>hpK (padH H cc) λH=>effD e H λH=>d E v λE=>next (rd,keys e) c n kn E H
theorem zjh{dd:Option Nat}(hd:okD dd=true)(k:CK):zqb ok ⟨dd,none,k⟩ (zqc ok (λE=>k.sub λx=> .k (trG x E)) (trD dd)):=by
 intro next c n kn E H R h
 obtain⟨v,e,rd,cc,h1,h⟩:=qcs h;rw[jvj,zrx,xao,zbe hd]at h;rw[qct (E:=E.env)]at h1
 ·exact⟨v,e,rd,cc,jvi h1,h⟩
 ·intro x;exact zay x E
noncomputable def trKF(ok:FuncId->Bool)(d:Option Nat)(k:CK):OF:=match k.loud with
 |false=>zsb ok d k
 |true=>match k with
  |.load false 1 x=>qmt (trD d) (trG x)
  |.load true sz x=>zzv sz (trD d) (trG x)
  |.box x=>qwl (trD d) (trG x)
  |.store 1 x y=>match d with
   |none=>zzx (trG x) (trG y)
   |some d=>zqc ok (λE=>CK.sub (λx=> .k (trG x E)) (.store 1 x y)) (trD (some d))
  |.store (sz+2) x y=>match d with
   |none=>zob (sz+2) (trG x) (trG y)
   |some d=>zqc ok (λE=>CK.sub (λx=> .k (trG x E)) (.store (sz+2) x y)) (trD (some d))
  |.call f args=>match Nat.blt f 4096 with
   |true=>zsc f (trD d) (args.map trG)
   |false=>zqc ok (λE=>CK.sub (λx=> .k (trG x E)) (.call f args)) (trD d)
  |.callc x args=>zua ok (trD d) (trG x) (args.map trG)
  |k=>zqc ok (λE=>k.sub λx=> .k (trG x E)) (trD d)
theorem qmv{d:Option Nat}(hd:okD d=true)(k:CK):zqb ok ⟨d,none,k⟩ (trKF ok d k):=by
 unfold trKF;split
 ·rename_i hk;exact qms hd k hk
 ·split
  ·exact qgx hd _
  ·exact zzw hd _ _
  ·exact qmu hd _
  ·split
   ·exact zzy _ _
   ·exact zjh hd _
  ·split
   ·exact zwr _ _ _
   ·exact zjh hd _
  ·split
   ·rename_i hf;exact qgy hd _ hf _
   ·exact zjh hd _
  ·exact zzz hd _ _
  ·exact zjh hd _
noncomputable def xxw(x:GT)(want:Bool)(d:ST)(f:OF):OF:=λnext c n kn E H=>grK (x E) want (f next c n kn E H) (d E (.tup []) λE=>next ([],[]) c n kn E H)
noncomputable def trOF(ok:FuncId->Bool)(o:COp):OF:=match o.g with
 |none=>trKF ok o.dst o.k
 |some (g,want)=>xxw (gS g) want (trD o.dst) (trKF ok o.dst o.k)
theorem xav{o:COp}(hd:okD o.dst=true):zqb ok o (trOF ok o):=by
 obtain⟨d,g,k⟩:=o;unfold trOF;cases g with
 |none=>exact qmv hd k
 |some p=>
  obtain⟨g,want⟩:=p;intro next c n kn E H R h
  rcases zzr h with⟨hb,h⟩ | ⟨hb,h⟩
  ·rw[ztv]at hb;obtain⟨v,e',rd,cc,h2,h3⟩:=qmv hd k _ _ _ _ _ _ _ h;exact⟨v,e',rd,cc,⟨true,hb,λ_=>h2,λh=>by simp at h⟩,h3⟩
  ·rw[ztv]at hb;rw[zbe hd]at h;exact⟨.tup [],[],[],0,⟨false,hb,λh=>by simp at h,λ_=>⟨rfl,rfl,rfl,rfl⟩⟩,h⟩
noncomputable def kqk(l:List (Nat×Nat))(fps:List FP):OR:=λ_ _ kn E H=>ifK (dynB l fps) (kn E H)
noncomputable def f_op(o:OF)(rest:List FP->OR)(fps:List FP):OR:=o λfp=>rest (fps++[fp])
noncomputable def trLF(ok:FuncId->Bool)(l:List (Nat×Nat))(os:List COp):List FP->OR:=List.rec (motive:=λ_=>List FP->OR) (kqk l) (λo _ ih=>f_op (trOF ok o) ih) os
theorem qwm{l:List (Nat×Nat)}:∀(os:List COp),okL os=true->∀{fps c n kn E H R},trLF ok l os fps c n kn E H=some R->∃l' E' H',RR ok (frun c) n os E H l' E' H'/\dynB l (fps++l')=true/\kn E' H'=some R:=by
 intro os
 induction os with
 |nil=>
  intro _ fps c n kn E H R h;obtain⟨h1,h2⟩:=zan (show ifK (dynB l fps) (kn E H)=some R from h);exact⟨[],E,H,.nil E H,by simpa using h1,h2⟩
 |cons o os ih=>
  intro ho fps c n kn E H R h;simp only[okL]at ho;split at ho
  ·rename_i hd;obtain⟨v,e,rd,cc,h1,h2⟩:=xav hd _ _ _ _ _ _ _ (show trOF ok o (λfp=>trLF ok l os (fps++[fp])) c n kn E H=some R from h);obtain⟨l',E',H',h3,h4,h5⟩:=ih ho h2;exact⟨_,E',H',.cons h1 hd h3,by simpa using h4,h5⟩
  ·simp at ho
noncomputable def zws(r:List FP->OR):RunT:=λc n kn _ E H=>r [] c n kn E H
noncomputable def zfj(ok:FuncId->Bool)(m:Bool)(os:List COp)(d:Option (List (Nat×Nat))):RunT:=match okL os with
 |false=>t_no
 |true=>match d with
  |none=>zcr (trL ok os)
  |some l=>match zwq os l with
   |true=>zcr (trL ok os)
   |false=>match m with
    |true=>match qgw os l with
     |true=>zcr (trLP ok os)
     |false=>zws (trLF ok l os)
    |false=>zws (trLF ok l os)
noncomputable def tr(ok:FuncId->Bool)(m:Bool)(c:CC):RunT:=
 CC.rec (motive:=λ_=>RunT) zll (λos d=>zfj ok m os d) (λ_ _ a b=>zdp a b) (λx _ _ a b=>zlm (trG x) a b) (λid _ a=>zzt id a) (λ_ a=>jvn a) (λi=>jvl i) (λ_ a=>qmm a) (λ_=>zll) (λl=>jvm l) ztz (λ_ _ _ _ _ _ _=>t_no) c
def fin(kn:Kn)(kx:Kx)(x:Exit)(E:E16)(H:Heap):O:=match x with
 |.normal=>kn E H
 |x=>kx x E H
def SndC(P:Program)(Γ:Glob)(cc:CC)(r:RunT):Prop:= ∀c n kn kx E H R,zzs P Γ (frun c)->r c n kn kx E H=some R->
 ∃x E' H',fin kn kx x E' H'=some R/\∀nt Q,Q x (E16.env E') H'->W P Γ n nt cc (E16.env E) H Q
theorem qda{v:AV}{x y:O}{R:AV×Heap}(h:cndK v x y=some R):(v= .bool true/\x=some R)\/(v= .bool false/\y=some R):=by
 cases v<;>first | (simp[cndK]at h;done) | skip
 rename_i b;cases b
 ·exact .inr ⟨rfl,h⟩
 ·exact .inl ⟨rfl,h⟩
inductive Chain(P:Program)(Γ:Glob)(n:Nat)(a:CC)(x:Exit)(E':E16)(H':Heap):Nat->E16->Heap->Prop
 |stop {m:Nat} {E:E16} {H:Heap} (hx:x≠ .normal) (h:∀nt (Q:Post),Q x E'.env H'->W P Γ n nt a E.env H Q):Chain P Γ n a x E' H' m E H
 |step {m:Nat} {E:E16} {H:Heap} {E1:E16} {H1:Heap} (h:∀nt (Q:Post),Q .normal E1.env H1->W P Γ n nt a E.env H Q) (h':Chain P Γ n a x E' H' m E1 H1):Chain P Γ n a x E' H' (m+1) E H
theorem Chain.W{n:Nat}{a:CC}{x:Exit}{E':E16}{H':Heap}{m:Nat}{E:E16}{H:Heap}(h:Chain P Γ n a x E' H' m E H)(nt:Nat)(Q:Post)(hQ:Q x E'.env H'):W P Γ n nt (.loop a) E.env H Q:=by
 refine zax (λm E2 H2=>∃T:E16,E2=T.env/\Chain P Γ n a x E' H' m T H2) ⟨E,rfl,h⟩ ?_;rintro m E2 H2 ⟨T,rfl,ht⟩;cases ht with
 |stop hx h=>
  refine h nt _ ?_;cases x with
  |normal=>exact absurd rfl hx
  |_=>exact hQ
 |step h h'=>exact h nt _ ⟨_,_,_,Nat.lt_succ_self _,⟨_,rfl,h'⟩,.refl⟩
theorem zoc(hok:∀f,ok f=true->okFn P f=true)(hm:P.follows .mixedOrders=true):∀(m:Bool) (cc:CC),SndC P Γ cc (tr ok m cc):=by
 intro md cc
 induction cc with
 |skip=>intro c n kn kx E H R _ h;exact⟨.normal,E,H,h,λnt Q hQ=>jva hQ⟩
 |ret=>intro c n kn kx E H R _ h;exact⟨.ret,E,H,h,λnt Q hQ=>xwv hQ⟩
 |exit i=>intro c n kn kx E H R _ h;exact⟨.exit i,E,H,h,λnt Q hQ=>jvb hQ⟩
 |goto i=>intro c n kn kx E H R _ h;exact⟨.goto i,E,H,h,λnt Q hQ=>jvc hQ⟩
 |label i=>intro c n kn kx E H R _ h;exact⟨.normal,E,H,h,λnt Q hQ=>qjr hQ⟩
 |reg os d=>
  intro c n kn kx E H R hc h;have h:zfj ok md os d c n kn kx E H=some R:=h;cases ho:okL os with
  |false=>
   have e:zfj ok md os d=t_no:=by simp only[zfj,ho]
   rw[e]at h;exact absurd (show(none:O)=some R from h) (by simp)
  |true=>
   cases d with
   |none=>
    have e:zfj ok md os none=zcr (trL ok os):=by simp only[zfj,ho]
    rw[e]at h;obtain⟨l,E',H',h1,h2⟩:=qml os ho (show trL ok os c n kn E H=some R from h);exact⟨.normal,E',H',h2,λnt Q hQ=>jyv hm (zty hok hc h1 _ hQ)⟩
   |some l=>
    cases hq:zwq os l with
    |true=>
     have e:zfj ok md os (some l)=zcr (trL ok os):=by simp only[zfj,ho,hq]
     rw[e]at h;obtain⟨fps,E',H',h1,h2⟩:=qml os ho (show trL ok os c n kn E H=some R from h);exact⟨.normal,E',H',h2,λnt Q hQ=>zzb hm (zty hok hc h1 _ ⟨xxu h1 hq,hQ⟩)⟩
    |false=>
     have dyn:zws (trLF ok l os) c n kn kx E H=some R->∃x E' H',fin kn kx x E' H'=some R/\∀nt Q,Q x (E16.env E') H'->W P Γ n nt (.reg os (some l)) (E16.env E) H Q:=by
      intro h;obtain⟨fps,E',H',h1,h3,h2⟩:=qwm os ho (show trLF ok l os [] c n kn E H=some R from h);exact⟨.normal,E',H',h2,λnt Q hQ=>zzb hm (zty hok hc h1 _ ⟨by simpa using h3,hQ⟩)⟩
     cases md with
     |false=>
      have e:zfj ok false os (some l)=zws (trLF ok l os):=by simp only[zfj,ho,hq]
      rw[e]at h;exact dyn h
     |true=>
      cases hp:qgw os l with
      |false=>
       have e:zfj ok true os (some l)=zws (trLF ok l os):=by simp only[zfj,ho,hq,hp]
       rw[e]at h;exact dyn h
      |true=>
       have e:zfj ok true os (some l)=zcr (trLP ok os):=by simp only[zfj,ho,hq,hp]
       rw[e]at h;obtain⟨fps,E',H',h1,h2,h3⟩:=qwj os ho (show trLP ok os c n kn E H=some R from h);exact⟨.normal,E',H',h2,λnt Q hQ=>zzb hm (zty hok hc h1 _ ⟨xat h1 h3 hp,hQ⟩)⟩
 |seq a b iha ihb=>
  intro c n kn kx E H R hc h;obtain⟨x,E1,H1,h1,h2⟩:=iha c n (λE H=>tr ok md b c n kn kx E H) kx E H R hc h;cases x with
  |normal=>
   obtain⟨x,E2,H2,h3,h4⟩:=ihb c n kn kx E1 H1 R hc h1;exact⟨x,E2,H2,h3,λnt Q hQ=>zgr (h2 nt _ (h4 nt Q hQ))⟩
  |exit i=>exact⟨.exit i,E1,H1,h1,λnt Q hQ=>zgr (h2 nt _ hQ)⟩
  |goto l=>exact⟨.goto l,E1,H1,h1,λnt Q hQ=>zgr (h2 nt _ hQ)⟩
  |ret=>exact⟨.ret,E1,H1,h1,λnt Q hQ=>zgr (h2 nt _ hQ)⟩
  |panic ch=>exact⟨.panic ch,E1,H1,h1,λnt Q hQ=>zgr (h2 nt _ hQ)⟩
  |outgrown=>exact⟨.outgrown,E1,H1,h1,λnt Q hQ=>zgr (h2 nt _ hQ)⟩
 |cond x a b iha ihb=>
  intro c n kn kx E H R hc h;rcases qda (show cndK (trG x E) (tr ok md a c n kn kx E H) (tr ok md b c n kn kx E H)=some R from h)with⟨hv,h⟩ | ⟨hv,h⟩
  ·rw[zay]at hv;obtain⟨x,E1,H1,h1,h2⟩:=iha c n kn kx E H R hc h;exact⟨x,E1,H1,h1,λnt Q hQ=>zvy hv (λ_=>h2 nt Q hQ) (λe=>by simp at e)⟩
  ·rw[zay]at hv;obtain⟨x,E1,H1,h1,h2⟩:=ihb c n kn kx E H R hc h;exact⟨x,E1,H1,h1,λnt Q hQ=>zvy hv (λe=>by simp at e) (λ_=>h2 nt Q hQ)⟩
 |block id a ih=>
  intro c n kn kx E H R hc h;obtain⟨x,E1,H1,h1,h2⟩:=ih c n kn (blkX id kn kx) E H R hc h;cases x with
  |normal=>exact⟨.normal,E1,H1,h1,λnt Q hQ=>zdk (h2 nt _ hQ)⟩
  |exit i=>
   by_cases e:i=id
   ·subst e;rcases zdw (show bsel (Nat.beq i i) (kn E1 H1) (kx (.exit i) E1 H1)=some R from h1)with⟨_,h1⟩ | h1
    ·exact⟨.normal,E1,H1,h1,λnt Q hQ=>zdk (h2 nt _ (by simp only[zmo,if_true];exact hQ))⟩
    ·have hb:bsel (Nat.beq i i) (kn E1 H1) (kx (.exit i) E1 H1)=some R:=by assumption
     rw[qN]at hb;exact⟨.normal,E1,H1,hb,λnt Q hQ=>zdk (h2 nt _ (by simp only[zmo,if_true];exact hQ))⟩
   ·have hb:Nat.beq i id=false:=by
     cases hh:Nat.beq i id with
     |false=>rfl
     |true=>exact absurd (qX hh) e
    have h1':bsel (Nat.beq i id) (kn E1 H1) (kx (.exit i) E1 H1)=some R:=h1;rw[hb]at h1';exact⟨.exit i,E1,H1,h1',λnt Q hQ=>zdk (h2 nt _ (by simp only[zmo,if_neg e];exact hQ))⟩
  |goto l=>exact⟨.goto l,E1,H1,h1,λnt Q hQ=>zdk (h2 nt _ hQ)⟩
  |ret=>exact⟨.ret,E1,H1,h1,λnt Q hQ=>zdk (h2 nt _ hQ)⟩
  |panic ch=>exact⟨.panic ch,E1,H1,h1,λnt Q hQ=>zdk (h2 nt _ hQ)⟩
  |outgrown=>exact⟨.outgrown,E1,H1,h1,λnt Q hQ=>zdk (h2 nt _ hQ)⟩
 |loop a ih=>
  intro c n kn kx E H R hc h
  have key:∀(m:Nat) (E:E16) (H:Heap),qwi (λih E H=>tr ok md a c n ih kx E H) m E H=some R->∃x E' H',x≠ .normal/\kx x E' H'=some R/\Chain P Γ n a x E' H' m E H:=by
   intro m
   induction m with
   |zero=>intro E H h;exact absurd (show(none:O)=some R from h) (by simp)
   |succ m ihm=>
    intro E H h;obtain⟨x,E1,H1,h1,h2⟩:=ih c n (qwi (λih E H=>tr ok md a c n ih kx E H) m) kx E H R hc h;cases x with
    |normal=>
     obtain⟨x,E2,H2,hx,h3,h4⟩:=ihm E1 H1 h1;exact⟨x,E2,H2,hx,h3,.step h2 h4⟩
    |exit i=>exact⟨.exit i,E1,H1,by simp,h1,.stop (by simp) h2⟩
    |goto l=>exact⟨.goto l,E1,H1,by simp,h1,.stop (by simp) h2⟩
    |ret=>exact⟨.ret,E1,H1,by simp,h1,.stop (by simp) h2⟩
    |panic ch=>exact⟨.panic ch,E1,H1,by simp,h1,.stop (by simp) h2⟩
    |outgrown=>exact⟨.outgrown,E1,H1,by simp,h1,.stop (by simp) h2⟩
  obtain⟨x,E',H',hx,h1,h2⟩:=key 1000000 E H (show qwi (λih E H=>tr ok md a c n ih kx E H) 1000000 E H=some R from h);refine⟨x,E',H',?_,h2.W⟩;cases x with
  |normal=>exact absurd rfl hx
  |_=>exact h1
 |scope a ih=>
  intro c n kn kx E H R hc h;obtain⟨x,E1,H1,h1,h2⟩:=ih c n kn (scpX kx) E H R hc h;cases x with
  |goto l=>exact absurd (show(none:O)=some R from h1) (by simp)
  |normal=>exact⟨.normal,E1,H1,h1,λnt Q hQ=>zle (h2 nt _ ⟨λl=>by simp,hQ⟩)⟩
  |exit i=>exact⟨.exit i,E1,H1,h1,λnt Q hQ=>zle (h2 nt _ ⟨λl=>by simp,hQ⟩)⟩
  |ret=>exact⟨.ret,E1,H1,h1,λnt Q hQ=>zle (h2 nt _ ⟨λl=>by simp,hQ⟩)⟩
  |panic ch=>exact⟨.panic ch,E1,H1,h1,λnt Q hQ=>zle (h2 nt _ ⟨λl=>by simp,hQ⟩)⟩
  |outgrown=>exact⟨.outgrown,E1,H1,h1,λnt Q hQ=>zle (h2 nt _ ⟨λl=>by simp,hQ⟩)⟩
 |range x k ps a b=>intro c n kn kx E H R _ h;exact absurd (show(none:O)=some R from h) (by simp)
inductive RG where
 |t (g:GT)
 |c (g:GT) (ag:Bool) (sz:Nat)
def trR:RV->RG
 |.t n=> .t (gS n)
 |.c a ag sz=> .c (gS a) ag sz
noncomputable def ldK(ag:Bool)(sz off:Nat)(cs:List AV)(k:AV->O):O:=
 Bool.rec (motive:=λ_=>Nat->Nat->List AV->(AV->O)->O) (λsz off cs k=>ifK (Nat.beq sz 1) (nthK cs off k)) (λsz off cs k=>cutK cs off sz λl=>k (.agg l)) ag sz off cs k
theorem xaw{ag:Bool}{sz off:Nat}{cs:List AV}{k:AV->O}{R:AV×Heap}(h:ldK ag sz off cs k=some R):off+sz<=cs.length/\k (ldv ag sz off cs)=some R:=by
 cases ag with
 |true=>exact zhj (show cutK cs off sz (λl=>k (.agg l))=some R from h)
 |false=>
  obtain⟨h1,h⟩:=zan (show ifK (Nat.beq sz 1) (nthK cs off k)=some R from h);have h1:=qX h1;obtain⟨v,hv,h⟩:=zdv h
  have hl:off<cs.length:=by
   rcases qV off cs.length with h' | h'
   ·exact h'
   ·rw[qJ h']at hv;simp at hv
  exact⟨by omega,by simpa[ldv,qW,hv]using h⟩
noncomputable def r1K(r:RG)(E:E16)(H:Heap)(k:AV->O):O:=
 RG.rec (motive:=λ_=>E16->Heap->(AV->O)->O) (λg E _ k=>fv (g E) k) (λg ag sz E H k=>zfg (g E) (λid off=>blkK H id λcs=>ldK ag sz off cs k) (λ_ _=>none)) r E H k
theorem r1K_inv{r:RV}{E:E16}{H:Heap}{k:AV->O}{R:AV×Heap}(h:r1K (trR r) E H k=some R):∃v,zij E.env H r=some v/\k v=some R:=by
 cases r with
 |t n=>
  have h:fv (gS n E) k=some R:=h;rw[qlo,ztv]at h;exact⟨_,rfl,h⟩
 |c a ag sz=>
  have h:zfg (gS a E) (λid off=>blkK H id λcs=>ldK ag sz off cs k) (λ_ _=>none)=some R:=h;rcases zdg h with⟨id,off,hx,h⟩ | ⟨cs,p,hx,h⟩
  ·rw[ztv]at hx;obtain⟨cs,hg,h⟩:=zcz h;obtain⟨h1,h⟩:=xaw h;exact⟨_,by simp only[zij,hx,hg,need,h1,if_true],h⟩
  ·simp at h
noncomputable def rsK(rs:List RG)(E:E16)(H:Heap)(k:List AV->O):O:=
 List.rec (motive:=λ_=>E16->Heap->(List AV->O)->O) (λ_ _ k=>k []) (λr _ ih E H k=>r1K r E H λv=>ih E H λl=>k (v::l)) rs E H k
theorem xax{E:E16}{H:Heap}{R:AV×Heap}:∀{rs:List RV} {k:List AV->O},rsK (rs.map trR) E H k=some R->∃l,rs.mapM (zij E.env H)=some l/\k l=some R:=by
 intro rs
 induction rs with
 |nil=>intro k h;exact⟨[],rfl,h⟩
 |cons r rs ih=>
  intro k h;obtain⟨v,hv,h⟩:=r1K_inv (show r1K (trR r) E H (λv=>rsK (rs.map trR) E H λl=>k (v::l))=some R from h);obtain⟨l,hl,h⟩:=ih h;exact⟨v::l,by rw[qG,hv,hl];rfl,h⟩
noncomputable def oneK(l:List AV)(k:AV->O):O:=
 List.rec (motive:=λ_=>(AV->O)->O) (λk=>k (.tup [])) (λa r _ k=>List.rec (motive:=λ_=>AV->(AV->O)->O) (λa k=>k a) (λb r _ a k=>k (.tup (a::b::r))) r a k) l k
theorem qwn{E:Env}{H:Heap}{rs:List RV}{l:List AV}{k:AV->O}(hl:rs.mapM (zij E H)=some l):∃v,resB rs E H=some v/\oneK l k=k v:=by
 unfold resB;rw[hl]
 match l with
 | []=>exact⟨_,rfl,rfl⟩
 | [a]=>exact⟨_,rfl,rfl⟩
 |a::b::r=>exact⟨_,rfl,rfl⟩
noncomputable def blkZ(H:Heap)(i:Nat)(k:List AV->O)(z:O):O:=
 List.rec (motive:=λ_=>Nat->(List AV->O)->O->O) (λ_ _ z=>z)
  (λb _ ih i k z=>Nat.rec (motive:=λ_=>Option (List AV)->(Nat->(List AV->O)->O->O)->(List AV->O)->O->O) (λb _ k z=>Option.rec (motive:=λ_=>(List AV->O)->O->O) (λ_ z=>z) (λcs k _=>k cs) b k z) (λp _ _ ih k z=>ih p k z) i b ih k z) H i k z
theorem xay:∀(H:Heap) (i:Nat) (k:List AV->O) (z:O),blkZ H i k z=match getB H i with | some cs=>k cs | none=>z:=by
 intro H
 induction H with
 |nil=>intro i k z;rfl
 |cons b H ih=>
  intro i k z;cases i with
  |zero=>cases b<;>rfl
  |succ i=>exact(ih i k z).trans (by simp[getB])
noncomputable def mapZ(f:AV->(AV->O)->O->O)(l:List AV)(k:List AV->O)(z:O):O:=
 List.rec (motive:=λ_=>(AV->(AV->O)->O->O)->(List AV->O)->O->O) (λ_ k _=>k []) (λa _ ih f k z=>f a (λa=>ih f (λr=>k (a::r)) z) z) l f k z
theorem qaa{f:AV->(AV->O)->O->O}{g:AV->Option AV}(hf:∀a k z,f a k z=match g a with | some b=>k b | none=>z):∀(l:List AV) (k:List AV->O) (z:O),mapZ f l k z=match l.mapM g with | some r=>k r | none=>z:=by
 intro l
 induction l with
 |nil=>intro k z;rfl
 |cons a l ih=>
  intro k z
  show f a (λa=>mapZ f l (λr=>k (a::r)) z) z=_
  rw[hf,qG];cases hg:g a with
  |none=>rfl
  |some b=>
   simp only[ih];cases l.mapM g<;>rfl
noncomputable def frzK(n0:Nat)(H:Heap)(d:Nat):AV->(AV->O)->O->O:=
 Nat.rec (motive:=λ_=>AV->(AV->O)->O->O) (λ_ _ z=>z)
  (λ_ ih v k z=>AV.rec (motive_1:=λ_=>(AV->(AV->O)->O->O)->(AV->O)->O->O) (motive_2:=λ_=>Unit) (λb _ k _=>k (.bool b)) (λa b _ k _=>k (.int a b)) (λs _ k _=>k (.str s)) (λcs n c _ _ k _=>k (.vec cs n c))
   (λid off n sz c ih k z=>bsel (Nat.ble (Nat.succ id) n0) z (blkZ H id (λcs=>bsel (Nat.ble (Nat.add off (Nat.mul n sz)) cs.length) (cutK cs off (Nat.mul n sz) λl=>mapZ ih l (λl=>k (.vec l n c)) z) z) z))
   (λ_ _ _ _ z=>z) (λcs p _ _ k _=>k (.iptr cs p)) (λ_ _ _ _ _ z=>z) (λcs _ ih k z=>mapZ ih cs (λl=>k (.agg l)) z) (λcs _ ih k z=>mapZ ih cs (λl=>k (.tup l)) z) (λ_ k _=>k .anyb) (λ_ k _=>k .junk) () (λ_ _ _ _=>()) v ih k z) d
theorem xaz:∀(l:List AV) (off n:Nat) (k:List AV->O),off+n<=l.length->cutK l off n k=k ((l.drop off).take n):=by
 have tk:∀(l:List AV) (n:Nat) (k:List AV->O),n<=l.length->zwk l n k=k (l.take n):=by
  intro l
  induction l with
  |nil=>intro n k h;simp at h;subst h;rfl
  |cons a l ih=>
   intro n k h;cases n with
   |zero=>rfl
   |succ n=>exact ih n _ (by simpa using h)
 intro l
 induction l with
 |nil=>intro off n k h;simp at h;obtain⟨rfl,rfl⟩:=h;rfl
 |cons a l ih=>
  intro off n k h;cases off with
  |zero=>exact tk (a::l) n k (by omega)
  |succ off=>exact ih off n k (by simp at h;omega)
theorem xba(n0:Nat)(H:Heap):∀(d:Nat) (v:AV) (k:AV->O) (z:O),frzK n0 H d v k z=match frzI n0 H d v with | some v=>k v | none=>z:=by
 intro d
 induction d with
 |zero=>intro v k z;rfl
 |succ d ih=>
  intro v k z;cases v with
  |sl id off n sz c=>
   show bsel (Nat.ble (Nat.succ id) n0) z (blkZ H id (λcs=>bsel (Nat.ble (Nat.add off (Nat.mul n sz)) cs.length) (cutK cs off (Nat.mul n sz) λl=>mapZ (frzK n0 H d) l (λl=>k (.vec l n c)) z) z) z)=_
   simp only[frzI];by_cases h:id<n0
   ·have hb:Nat.ble (Nat.succ id) n0=true:=by rw[qU];exact h
    rw[hb,if_pos h];rfl
   ·have hb:Nat.ble (Nat.succ id) n0=false:=by
     cases hh:Nat.ble (Nat.succ id) n0 with
     |false=>rfl
     |true=>rw[qU]at hh;exact absurd hh h
    rw[hb,if_neg h]
    show blkZ _ _ _ _=_
    rw[xay];cases getB H id with
    |none=>rfl
    |some cs=>
     simp only;by_cases hl:off+n*sz<=cs.length
     ·have hb:Nat.ble (Nat.add off (Nat.mul n sz)) cs.length=true:=by rw[qU];exact hl
      rw[hb]
      show cutK cs off (n*sz) _=_
      rw[xaz _ _ _ _ hl,qaa ih];simp only[need,if_pos hl];show(match List.mapM (frzI n0 H d) ((cs.drop off).take (n*sz))with | some r=>k (.vec r n c) | none=>z)=_
      cases List.mapM (frzI n0 H d) ((cs.drop off).take (n*sz))<;>rfl
     ·have hb:Nat.ble (Nat.add off (Nat.mul n sz)) cs.length=false:=by
       cases hh:Nat.ble (Nat.add off (Nat.mul n sz)) cs.length with
       |false=>rfl
       |true=>rw[qU]at hh;exact absurd hh hl
      rw[hb];simp only[need,if_neg hl];rfl
  |agg cs=>
   show mapZ (frzK n0 H d) cs (λl=>k (.agg l)) z=_
   rw[qaa ih];simp only[frzI];cases List.mapM (frzI n0 H d) cs<;>rfl
  |tup cs=>
   show mapZ (frzK n0 H d) cs (λl=>k (.tup l)) z=_
   rw[qaa ih];simp only[frzI];cases List.mapM (frzI n0 H d) cs<;>rfl
  |_=>rfl
noncomputable def rngN(n:Nat)(acc:List Nat):List Nat:=Nat.rec (motive:=λ_=>List Nat->List Nat) (λacc=>acc) (λp ih acc=>ih (p::acc)) n acc
theorem xbb:∀(n:Nat) (acc:List Nat),rngN n acc=List.range n++acc:=by
 intro n
 induction n with
 |zero=>intro acc;rfl
 |succ n ih=>intro acc;refine(show rngN (n+1) acc=rngN n (n::acc)from rfl).trans ?_;rw[ih,List.range_succ];simp
noncomputable def newN(n0:Nat)(l:List Nat):List Nat:=List.rec (motive:=λ_=>List Nat) [] (λx _ ih=>Bool.rec (motive:=λ_=>Nat->List Nat->List Nat) (λ_ ih=>ih) (λx ih=>x::ih) (Nat.ble n0 x) x ih) l
theorem qmw:∀(n0:Nat) (l:List Nat),zeq l=true->(newN n0 l).Nodup/\∀x∈newN n0 l,n0<=x/\x∈l:=by
 intro n0 l
 induction l with
 |nil=>intro _;exact⟨.nil,λx hx=>by simp[newN]at hx⟩
 |cons y l ih=>
  intro h;simp only[zeq,qZ,qC]at h;obtain⟨h1,h2⟩:=ih h.2;have hc:newN n0 (y::l)=(Bool.rec (motive:=λ_=>Nat->List Nat->List Nat) (λ_ ih=>ih) (λx ih=>x::ih) (Nat.ble n0 y) y (newN n0 l):List Nat):=rfl;cases hb:Nat.ble n0 y with
  |false=>
   rw[hb]at hc;have hc:newN n0 (y::l)=newN n0 l:=hc;rw[hc];exact⟨h1,λx hx=>⟨(h2 x hx).1,qO _ (h2 x hx).2⟩⟩
  |true=>
   rw[hb]at hc;have hc:newN n0 (y::l)=y::newN n0 l:=hc;rw[hc];rw[qU]at hb;refine⟨List.nodup_cons.2 ⟨λhm=>?_,h1⟩,λx hx=>?_⟩
   ·have:=zkb _ _ (h2 y hm).2;rw[this]at h;simp at h
   ·rcases List.mem_cons.1 hx with e | hx
    ·subst e;exact⟨hb,List.mem_cons_self⟩
    ·exact⟨(h2 x hx).1,qO _ (h2 x hx).2⟩
noncomputable def mapC(f:AV->(AV->O)->O)(l:List AV)(k:List AV->O):O:=List.rec (motive:=λ_=>(List AV->O)->O) (λk=>k []) (λa _ ih k=>f a λa=>ih λr=>k (a::r)) l k
theorem zod{f:AV->(AV->O)->O}{Q:AV->AV->Prop}{R:AV×Heap}(hf:∀(a:AV) (k:AV->O),f a k=some R->∃a',Q a a'/\k a'=some R):∀(l:List AV) (k:List AV->O),mapC f l k=some R->
  ∃l':List AV,l'.length=l.length/\(∀(j:Nat) (x y:AV),l[j]?=some x->l'[j]?=some y->Q x y)/\k l'=some R:=by
 intro l
 induction l with
 |nil=>intro k h;exact⟨[],rfl,λj x y hx=>by simp at hx,h⟩
 |cons a l ih=>
  intro k h;obtain⟨a',q,h⟩:=hf a _ (show f a (λa=>mapC f l λr=>k (a::r))=some R from h);obtain⟨l',h1,h2,h3⟩:=ih _ h;refine⟨a'::l',by simp[h1],λj x y hx hy=>?_,h3⟩;cases j with
  |zero=>simp at hx hy;subst hx hy;exact q
  |succ j=>exact h2 j x y (by simpa using hx) (by simpa using hy)
noncomputable def frcK(ids:List Nat)(H:Heap)(d:Nat)(v:AV)(k:AV->O):O:=
 Nat.rec (motive:=λ_=>AV->(AV->O)->O) (λ_ _=>none)
  (λ_ ih v k=>bsel (innV ids v) (rnK (posN ids) v k)
   (AV.rec (motive_1:=λ_=>(AV->(AV->O)->O)->(AV->O)->O) (motive_2:=λ_=>Unit) (λ_ _ _=>none) (λ_ _ _ _=>none) (λ_ _ _=>none) (λ_ _ _ _ _ _=>none)
    (λid off n sz c ih k=>Bool.rec (motive:=λ_=>O) (blkK H id λcs=>cutK cs off (Nat.mul n sz) λl=>mapC ih l λl=>ifK (clL l) (k (.vec l n c))) none (memN ids id))
    (λ_ _ _ _=>none) (λ_ _ _ _ _=>none) (λ_ _ _ _ _=>none) (λcs _ ih k=>mapC ih cs λcs=>k (.agg cs)) (λcs _ ih k=>mapC ih cs λcs=>k (.tup cs)) (λ_ _=>none) (λ_ _=>none) () (λ_ _ _ _=>()) v ih k)) d v k
theorem qdb{ids:List Nat}{H:Heap}{R:AV×Heap}:∀(d:Nat) (v:AV) (k:AV->O),frcK ids H d v k=some R->∃v',Frc ids H v v'/\k v'=some R:=by
 intro d
 induction d with
 |zero=>intro v k h;exact absurd (show(none:O)=some R from h) (by simp)
 |succ d ih=>
  intro v k h;have hp:posN ids=pos ids:=funext (zpr ids);cases hi:innV ids v with
  |true=>
   replace h:bsel (innV ids v) (rnK (posN ids) v k) _=some R:=h;rw[hi]at h;replace h:rnK (posN ids) v k=some R:=h;rw[qcu,hp]at h;rw[qmc]at hi;obtain⟨e1,e2⟩:=qcl ids H.length v hi;exact⟨_,.ren _ _ e1 e2,h⟩
  |false=>
   replace h:bsel (innV ids v) (rnK (posN ids) v k) _=some R:=h;rw[hi]at h;cases v<;>first | (exact absurd (show(none:O)=some R from h) (by simp);done) | skip
   case sl id off n sz c=>
    replace h:(Bool.rec (motive:=λ_=>O) (blkK H id λcs=>cutK cs off (Nat.mul n sz) λl=>mapC (λv k=>frcK ids H d v k) l λl=>ifK (clL l) (k (.vec l n c))) none (memN ids id):O)=some R:=h;cases hm:memN ids id with
    |true=>rw[hm]at h;exact absurd (show(none:O)=some R from h) (by simp)
    |false=>
     rw[hm]at h;obtain⟨cs,hg,h⟩:=zcz (show blkK H id (λcs=>cutK cs off (Nat.mul n sz) λl=>mapC (λv k=>frcK ids H d v k) l λl=>ifK (clL l) (k (.vec l n c)))=some R from h);obtain⟨hle,h⟩:=zhj h;obtain⟨l',h1,h2,h⟩:=zod (λa k h=>ih a k h) _ _ h;obtain⟨hc,h⟩:=zan h;rw[znj]at hc;rw[zpq]at hm
     have hlen:l'.length=n*sz:=by
      rw[h1];simp only[xB,List.length_drop];have:Nat.mul n sz=n*sz:=rfl;omega
     refine⟨_,.frz id off n sz c cs l' (λhx=>by rw[zkb _ _ hx]at hm;simp at hm) hg hle hlen hc (λj x y hx hy=>?_),h⟩;refine h2 j x y ?_ hy
     have hj:j<n*sz:=by
      rcases qV j l'.length with h' | h'
      ·omega
      ·rw[qJ h']at hy;simp at hy
     rw[xY,if_pos (show j<Nat.mul n sz from hj),List.getElem?_drop];exact hx
   case agg cs=>
    obtain⟨l',h1,h2,h⟩:=zod (λa k h=>ih a k h) _ _ (show mapC (λv k=>frcK ids H d v k) cs (λcs=>k (.agg cs))=some R from h);exact⟨_,.agg cs l' h1 h2,h⟩
   case tup cs=>
    obtain⟨l',h1,h2,h⟩:=zod (λa k h=>ih a k h) _ _ (show mapC (λv k=>frcK ids H d v k) cs (λcs=>k (.tup cs))=some R from h);exact⟨_,.tup cs l' h1 h2,h⟩
noncomputable def bkC(ids:List Nat)(H:Heap)(cs:List AV)(k:List AV->O):O:=bsel (clL cs) (k cs) (bsel (innA ids cs) (rnL (posN ids) cs k) (ifK (zgk cs) (mapC (λv k=>frcK ids H 8 v k) cs k)))
theorem xbc{ids:List Nat}{H:Heap}{cs:List AV}{k:List AV->O}{R:AV×Heap}(h:bkC ids H cs k=some R):∃cs',BlkC ids H (some (some cs)) (some cs')/\k cs'=some R:=by
 have hp:posN ids=pos ids:=funext (zpr ids);unfold bkC at h;cases hc:clL cs with
 |true=>
  rw[hc]at h;have h:k cs=some R:=h;rw[znj]at hc;exact⟨cs,.ren _ _ (zaq _ cs hc) (zbs _ _ hc),h⟩
 |false=>
  rw[hc]at h;cases hi:innA ids cs with
  |true=>
   rw[hi]at h;have h:rnL (posN ids) cs k=some R:=h;rw[zwp,hp]at h;rw[ztw]at hi;obtain⟨e1,e2⟩:=zpi ids H.length cs hi;exact⟨_,.ren _ _ e1 e2,h⟩
  |false=>
   rw[hi]at h;obtain⟨hn,h⟩:=zan (show ifK (zgk cs) (mapC (λv k=>frcK ids H 8 v k) cs k)=some R from h);obtain⟨l',h1,h2,h⟩:=zod (λa k h=>qdb 8 a k h) _ _ h;exact⟨l',.frz cs l' hn h1 h2,h⟩
noncomputable def subE(ids all:List Nat)(H:Heap)(k:Heap->O):O:=
 List.rec (motive:=λ_=>List Nat->Heap->(Heap->O)->O) (λ_ _ k=>k []) (λi _ ih all H k=>nthK H i λb=>Option.rec (motive:=λ_=>(List Nat->Heap->(Heap->O)->O)->List Nat->Heap->(Heap->O)->O) (λih all H k=>ih all H λr=>k (none::r))
  (λcs ih all H k=>bkC all H cs λcs=>ih all H λr=>k (some cs::r)) b ih all H k) ids all H k
theorem qwo(all:List Nat)(H:Heap){R:AV×Heap}:∀(ids:List Nat) {k:Heap->O},subE ids all H k=some R->∃H',k H'=some R/\H'.length=ids.length/\
  ∀(i:Nat) (x:Nat),ids[i]?=some x->∃c,H'[i]?=some c/\BlkC all H (H[x]?) c:=by
 intro ids
 induction ids with
 |nil=>intro k h;exact⟨[],h,rfl,λi x hx=>by simp at hx⟩
 |cons i ids ih=>
  intro k h
  obtain⟨b,hb,h⟩:=zdv (show nthK H i (λb=>Option.rec (motive:=λ_=>(List Nat->Heap->(Heap->O)->O)->List Nat->Heap->(Heap->O)->O) (λih all H k=>ih all H λr=>k (none::r))
   (λcs ih all H k=>bkC all H cs λcs=>ih all H λr=>k (some cs::r)) b (λall H k=>subE ids all H k) all H k)=some R from h)
  cases b with
  |none=>
   obtain⟨H',h1,h2,h3⟩:=ih (k:=λr=>k (none::r)) h;refine⟨_,h1,by simp[h2],λj x hx=>?_⟩;cases j with
   |zero=>simp at hx;subst hx;exact⟨none,rfl,by rw[hb];exact .dead⟩
   |succ j=>exact h3 j x (by simpa using hx)
  |some cs=>
   obtain⟨cs',hc,h⟩:=xbc (show bkC all H cs (λcs=>subE ids all H λr=>k (some cs::r))=some R from h);obtain⟨H',h1,h2,h3⟩:=ih h;refine⟨_,h1,by simp[h2],λj x hx=>?_⟩;cases j with
   |zero=>simp at hx;subst hx;exact⟨some cs',rfl,by rw[hb];exact hc⟩
   |succ j=>exact h3 j x (by simpa using hx)
noncomputable def refV(f:Bool)(v:AV)(a:List AV):List AV:=AV.rec (motive_1:=λ_=>List AV->List AV) (motive_2:=λ_=>List AV->List AV) (λ_ a=>a) (λ_ _ a=>a) (λ_ a=>a) (λ_ _ _ _ a=>a) (λid off n sz c a=>Bool.rec (motive:=λ_=>List AV) a (.sl id off n sz c::a) f) (λid off a=> .ptr id off::a) (λ_ _ _ a=>a) (λ_ _ ih a=>ih a) (λ_ ih a=>ih a) (λ_ ih a=>ih a) (λa=>a) (λa=>a) (λa=>a) (λ_ _ x y a=>y (x a)) v a
noncomputable def refA(f:Bool)(l:List AV)(a:List AV):List AV:=List.rec (motive:=λ_=>List AV->List AV) (λa=>a) (λv _ ih a=>ih (refV f v a)) l a
noncomputable def oldR(H:Heap)(n:Nat)(a:List AV):List AV:=
 List.rec (motive:=λ_=>Nat->List AV->List AV) (λ_ a=>a) (λb _ ih n a=>Nat.rec (motive:=λ_=>List AV) a (λp _=>ih p (Option.rec (motive:=λ_=>List AV) a (λcs=>refA true cs a) b)) n) H n a
noncomputable def idSz(v:AV)(k:Nat->Nat->O):O:=AV.rec (motive_1:=λ_=>(Nat->Nat->O)->O) (motive_2:=λ_=>Unit) (λ_ _=>none) (λ_ _ _=>none) (λ_ _=>none) (λ_ _ _ _ _=>none) (λid _ _ sz _ k=>k id sz) (λid _ k=>k id (nat_lit 1)) (λ_ _ _ _=>none) (λ_ _ _ _=>none) (λ_ _ _=>none) (λ_ _ _=>none) (λ_=>none) (λ_=>none) () (λ_ _ _ _=>()) v k
theorem qwp{v:AV}{k:Nat->Nat->O}{R:AV×Heap}(h:idSz v k=some R):∃a b,k a b=some R:=by
 cases v<;>first | exact⟨_,_,h⟩ | exact absurd (show(none:O)=some R from h) (by simp)
noncomputable def wlP(n0 n:Nat)(todo:List AV)(done:List Nat)(H:Heap)(k:List Nat->O):O:=
 Nat.rec (motive:=λ_=>List AV->List Nat->Heap->(List Nat->O)->O) (λ_ _ _ _=>none)
  (λ_ ih todo done H k=>List.rec (motive:=λ_=>(List AV->List Nat->Heap->(List Nat->O)->O)->List Nat->Heap->(List Nat->O)->O) (λ_ done _ k=>k done)
   (λv rest _ ih done H k=>idSz v λi sz=>natK i λi=>bsel (memN done i) (ih rest done H k) (nthK H i λb=>Option.rec (motive:=λ_=>(List AV->List Nat->Heap->(List Nat->O)->O)->List AV->List Nat->Heap->(List Nat->O)->O) (λih rest done H k=>ih rest done H k)
    (λcs ih rest done H k=>ih (refA (bsel2 (Nat.ble n0 i) (Nat.ble sz (nat_lit 1)) true) cs rest) done H k) b ih rest (i::done) H k)) todo ih done H k) n todo done H k
 where bsel2 (b x y:Bool):Bool:=Bool.rec (motive:=λ_=>Bool) y x b
theorem xbd{n0:Nat}{H:Heap}{k:List Nat->O}{R:AV×Heap}:∀{n:Nat} {todo:List AV} {done:List Nat},zeq done=true->wlP n0 n todo done H k=some R->∃ids,zeq ids=true/\k ids=some R:=by
 intro n
 induction n with
 |zero=>intro todo done _ h;exact absurd (show(none:O)=some R from h) (by simp)
 |succ n ih=>
  intro todo done hd h;cases todo with
  |nil=>exact⟨done,hd,h⟩
  |cons v rest=>
   obtain⟨i,sz,h⟩:=qwp (show idSz v (λi sz=>natK i λi=>bsel (memN done i) (wlP n0 n rest done H k) (nthK H i λb=>Option.rec (motive:=λ_=>(List AV->List Nat->Heap->(List Nat->O)->O)->List AV->List Nat->Heap->(List Nat->O)->O) (λih rest done H k=>ih rest done H k)
    (λcs ih rest done H k=>ih (refA (wlP.bsel2 (Nat.ble n0 i) (Nat.ble sz (nat_lit 1)) true) cs rest) done H k) b (λtodo done H k=>wlP n0 n todo done H k) rest (i::done) H k))=some R from h)
   rw[zbf]at h;cases hm:memN done i with
   |true=>rw[hm]at h;exact ih hd h
   |false=>
    rw[hm]at h
    have hd':zeq (i::done)=true:=by
     rw[zpq]at hm;simp only[zeq,hm,hd];rfl
    obtain⟨b,_,h⟩:=zdv (show nthK H i (λb=>Option.rec (motive:=λ_=>(List AV->List Nat->Heap->(List Nat->O)->O)->List AV->List Nat->Heap->(List Nat->O)->O) (λih rest done H k=>ih rest done H k)
     (λcs ih rest done H k=>ih (refA (wlP.bsel2 (Nat.ble n0 i) (Nat.ble sz (nat_lit 1)) true) cs rest) done H k) b (λtodo done H k=>wlP n0 n todo done H k) rest (i::done) H k)=some R from h)
    cases b with
    |none=>exact ih hd' h
    |some cs=>exact ih hd' h
noncomputable def xbe(n0:Nat)(v:AV)(H:Heap):O:=
 wlP n0 (nat_lit 100000) (refV true v (oldR H n0 [])) [] H λl=>spK (rngN n0 (newN n0 l)) λids=>subE ids ids H λH'=>frcK ids H 8 v λv'=>some (v',H')
theorem qmx{n0:Nat}{v:AV}{H:Heap}{R:AV×Heap}(h:xbe n0 v H=some R):Fin n0 v H R.1 R.2/\n0<=R.2.length:=by
 unfold xbe at h;obtain⟨l,hl0,h⟩:=xbd rfl h;rw[zgu,xbb]at h
 have h1:(List.range n0++newN n0 l).Nodup:=by
  obtain⟨a1,a2⟩:=qmw n0 l hl0;refine List.nodup_append.2 ⟨List.nodup_range,a1,λx hx y hy e=>?_⟩;subst e;have:=(a2 x hy).1;have:=List.mem_range.1 hx;omega
 generalize hids:List.range n0++newN n0 l=ids at h h1;obtain⟨H',h,hl,hH⟩:=qwo ids H ids h;obtain⟨v',hv,h⟩:=qdb 8 v _ h;simp only[qK]at h;subst h;have hn:n0<=ids.length:=by rw[<-hids];simp
 have hget:∀i,i<ids.length->ids[i]?=some (zag ids H.length i):=by
  intro i hi;simp[zag,hi]
 refine⟨.comp ids v _ H H' h1 (λi hi=>?_) hn (λi hi=>?_) hv hl (λi c hc=>?_),by show n0<=H'.length;omega⟩
 ·obtain⟨j,hj,e⟩:=List.getElem_of_mem hi;obtain⟨c,_,hb⟩:=hH j i (by rw[<-e];simp[hj]);rcases qV i H.length with h' | h'
  ·exact h'
  ·rw[qJ h']at hb;cases hb
 ·have hx:=hget i (by omega);rw[<-hids,qH (by simpa using hi),List.getElem?_range hi]at hx;rw[<-hids];exact(Option.some.inj hx).symm
 ·have hi:i<ids.length:=by
   rw[<-hl];rcases qV i H'.length with h' | h'
   ·exact h'
   ·rw[qJ h']at hc;simp at hc
  obtain⟨c',hc',hb⟩:=hH i _ (hget i hi);rw[hc]at hc';simp only[qK]at hc';subst hc';exact hb
noncomputable def qwq(n0:Nat)(v:AV)(H:Heap):O:=lenK H λm=>bsel (Nat.beq m n0) (some (v,H)) (xbe n0 v H)
theorem qmy{n0:Nat}{v:AV}{H:Heap}{R:AV×Heap}(h:qwq n0 v H=some R):Fin n0 v H R.1 R.2/\n0<=R.2.length:=by
 unfold qwq at h;rw[zet]at h;rcases zdw h with⟨h1,h⟩ | h
 ·simp only[qK]at h;subst h;have:=qX h1;exact⟨.keep _ _,by show n0<=H.length;omega⟩
 ·exact qmx h
def FinP(n0:Nat)(v:Option AV)(H:Heap)(R:AV×Heap):Prop:= ∃v0,v=some v0/\Fin n0 v0 H R.1 R.2/\n0<=R.2.length
theorem zsd{n0:Nat}{v:AV}{H:Heap}{v':AV}{H':Heap}(h:FinP n0 (some v) H (v',H')):Fin n0 v H v' H'/\n0<=H'.length:=by
 obtain⟨v0,e,h⟩:=h;simp only[qK]at e;subst e;exact h
noncomputable def finK(n0:Nat)(keep:Bool)(rs:List RG)(E:E16)(H:Heap):O:=
 rsK rs E H λl=>oneK l λv=>lenK H λm=>bsel (Nat.beq m n0) (some (v,H)) (Bool.rec (motive:=λ_=>Nat->AV->Heap->O) (λn0 v H=>ifK (qgg n0 H) (frzK n0 H 8 v (λv=>hpK (H.take n0) λh=>some (v,h)) (ifK (v.under n0) (hpK (H.take n0) λh=>some (v,h)))))
  (λn0 v H=>qwq n0 v H) keep n0 v H)
theorem qdc{n0:Nat}{keep:Bool}{rs:List RV}{E:E16}{H:Heap}{R:AV×Heap}(h:finK n0 keep (rs.map trR) E H=some R):FinP n0 (resB rs E.env H) H R:=by
 obtain⟨l,hl,h⟩:=xax h
 obtain⟨v,hv,he⟩:=qwn (k:=λv=>lenK H λm=>bsel (Nat.beq m n0) (some (v,H)) (Bool.rec (motive:=λ_=>Nat->AV->Heap->O) (λn0 v H=>ifK (qgg n0 H) (frzK n0 H 8 v (λv=>hpK (H.take n0) λh=>some (v,h)) (ifK (v.under n0) (hpK (H.take n0) λh=>some (v,h)))))
  (λn0 v H=>qwq n0 v H) keep n0 v H)) hl
 rw[he,zet]at h;rw[hv];rcases zdw h with⟨hb,h⟩ | h
 ·have e:=qX hb;rw[qK]at h;subst h;exact⟨v,rfl,.keep _ _,by rw[<-e];exact qT _⟩
 cases keep with
 |true=>exact⟨v,rfl,qmy h⟩
 |false=>
  have hx:finX n0 false (some v) H=some R:=by
   simp only[finX];obtain⟨h1,h⟩:=zan (show ifK (qgg n0 H) (frzK n0 H 8 v (λv=>hpK (H.take n0) λh=>some (v,h)) (ifK (v.under n0) (hpK (H.take n0) λh=>some (v,h))))=some R from h);rw[h1];rw[xba]at h;simp only;cases hf:frzI n0 H 8 v with
   |some v'=>rw[hf]at h;simp only[zrx]at h ⊢;exact h
   |none=>
    rw[hf]at h;obtain⟨h2,h⟩:=zan h;rw[zrx]at h;simp only[if_pos h2,h]
  exact⟨v,rfl,qgi hx⟩
inductive Ent where
 |no
 |known (g:List AV->Heap->O)
 |own (g:FR->List AV->Heap->O)
 |code (t:RunT) (nt:Nat) (rs:List RG) (keep:Bool)
noncomputable def zwt:List ST:=[s0 u0,s0 u1,s0 u2,s0 u3,s0 u4,s0 u5,s0 u6,s0 u7,s0 u8,s0 u9,s0 u10,s0 u11,s0 u12,s0 u13,s0 u14,s0 u15]
noncomputable def argE(l:List ST)(args:List AV)(E:E16)(k:E16->O):O:=
 List.rec (motive:=λ_=>List ST->E16->(E16->O)->O) (λ_ E k=>k E) (λa _ ih l E k=>List.rec (motive:=λ_=>AV->(List ST->E16->(E16->O)->O)->E16->(E16->O)->O) (λ_ _ _ _=>none) (λs l _ a ih E k=>s E a λE=>ih l E k) l a ih E k) args l E k
def zhy:Row:=⟨.junk,.junk,.junk,.junk,.junk,.junk,.junk,.junk,.junk,.junk,.junk,.junk,.junk,.junk,.junk,.junk⟩
def zqd:E16:=⟨zhy,zhy,zhy,zhy,zhy,zhy,zhy,zhy,zhy,zhy,zhy,zhy,zhy,zhy,zhy,zhy⟩
theorem qdd{R:AV×Heap}{k:E16->O}:∀(args:List AV) (i:Nat) (E:E16),i<=16->argE (zwt.drop i) args E k=some R->i+args.length<=16/\∃E',(∀t,E'.env t=if i<=t/\t<i+args.length then args.getD (t-i) .junk else E.env t)/\k E'=some R:=by
 intro args
 induction args with
 |nil=>
  intro i E hi h;refine⟨by simpa using hi,E,λt=>?_,h⟩;rw[if_neg (by simp)]
 |cons a args ih=>
  intro i E hi h;rcases qV i 16 with hlt | hge
  ·have hs:∀i,i<16->zwt.drop i=sS i::zwt.drop (i+1)
    |0,_=>rfl
    |1,_=>rfl
    |2,_=>rfl
    |3,_=>rfl
    |4,_=>rfl
    |5,_=>rfl
    |6,_=>rfl
    |7,_=>rfl
    |8,_=>rfl
    |9,_=>rfl
    |10,_=>rfl
    |11,_=>rfl
    |12,_=>rfl
    |13,_=>rfl
    |14,_=>rfl
    |15,_=>rfl
    |n+16,h=>absurd h (by omega)
   rw[hs i hlt]at h;have h:sS i E a (λE=>argE (zwt.drop (i+1)) args E k)=some R:=h;rw[xxl (by omega)]at h;obtain⟨h1,E',h2,h3⟩:=ih (i+1) _ (by omega) h;refine⟨by simp;omega,E',λt=>?_,h3⟩;rw[h2,E16.env_setN _ _ (by omega)];simp only[upd,xA];by_cases e:t=i
   ·subst e;rw[if_neg (by omega),if_pos rfl,if_pos (by omega)];simp
   ·by_cases h4:i+1<=t/\t<i+1+args.length
    ·rw[if_pos h4,if_pos (by omega)];obtain⟨m,hm⟩:∃m,t-i=m+1:=⟨t-i-1,by omega⟩
     rw[hm,List.getD_cons_succ];congr 1;omega
    ·rw[if_neg h4,if_neg e,if_neg (by omega)]
  ·have:i=16:=by omega
   subst this;exact absurd (show(none:O)=some R from h) (by simp)
theorem zqe(t:Nat):zqd.env t= .junk:=by
 by_cases h:t<256
 ·rw[E16.env_eq _ h]
  have a1:∀i,i<16->zqd.nth i=zhy
   |0,_=>rfl
   |1,_=>rfl
   |2,_=>rfl
   |3,_=>rfl
   |4,_=>rfl
   |5,_=>rfl
   |6,_=>rfl
   |7,_=>rfl
   |8,_=>rfl
   |9,_=>rfl
   |10,_=>rfl
   |11,_=>rfl
   |12,_=>rfl
   |13,_=>rfl
   |14,_=>rfl
   |15,_=>rfl
   |n+16,h=>absurd h (by omega)
  have a2:∀i,i<16->zhy.nth i= .junk
   |0,_=>rfl
   |1,_=>rfl
   |2,_=>rfl
   |3,_=>rfl
   |4,_=>rfl
   |5,_=>rfl
   |6,_=>rfl
   |7,_=>rfl
   |8,_=>rfl
   |9,_=>rfl
   |10,_=>rfl
   |11,_=>rfl
   |12,_=>rfl
   |13,_=>rfl
   |14,_=>rfl
   |15,_=>rfl
   |n+16,h=>absurd h (by omega)
  rw[a1 _ (by omega),a2 _ (by omega)]
 ·exact E16.env_big _ h
noncomputable def endX(x:Exit)(z:O):O:=match x with
 |.ret=>z
 |_=>none
noncomputable def entK(e:Ent)(c:FR)(args:List AV)(H:Heap):O:=
 Ent.rec (motive:=λ_=>FR->List AV->Heap->O) (λ_ _ _=>none) (λg _ args H=>g args H) (λg c args H=>g c args H)
  (λt nt rs keep c args H=>ifK (Nat.ble args.length nt) (lenK H λn0=>argE zwt args zqd λE=>t c n0 (finK n0 keep rs) (λx E H=>endX x (finK n0 keep rs E H)) E H)) e c args H
abbrev Tab:=N16 (N16 (N16 Ent))
noncomputable def exT(T:Tab)(n:Nat):FR:=
 Nat.rec (motive:=λ_=>FR) (λ_ _ _ _ _=>none) (λ_ ih a b d args H=>entK (((T.sel a).sel b).sel d) ih args H) n
def EOT(P:Program)(Γ:Glob)(ok:FuncId->Bool)(f:FuncId):Ent->Prop
 |.no=>True
 |.known g=>∀args H v H',g args H=some (v,H')->Ret P Γ f args H v H'
 |.own g=>∀c,zzs P Γ (frun c)->∀args H v H',g c args H=some (v,H')->Ret P Γ f args H v H'
 |.code t nt rs _=>∃fn c rs0 m,P.funcs[f]?=some fn/\fn.body.bind (zbt P Γ fn.ntmps)=some c/\fn.ntmps=nt/\fn.results.toList.mapM (cRes P)=some rs0/\t=tr ok m c/\rs=rs0.map trR
def N16.All{α:Type}(p:Nat->α->Prop)(t:N16 α):Prop:=p 0 t.a0/\p 1 t.a1/\p 2 t.a2/\p 3 t.a3/\p 4 t.a4/\p 5 t.a5/\p 6 t.a6/\p 7 t.a7/\p 8 t.a8/\p 9 t.a9/\p 10 t.a10/\p 11 t.a11/\p 12 t.a12/\p 13 t.a13/\p 14 t.a14/\p 15 t.a15
theorem N16.All.nth{α:Type}{p:Nat->α->Prop}{t:N16 α}(h:t.All p):∀i,i<16->p i (t.nth i)
 |0,_=>h.1
 |1,_=>h.2.1
 |2,_=>h.2.2.1
 |3,_=>h.2.2.2.1
 |4,_=>h.2.2.2.2.1
 |5,_=>h.2.2.2.2.2.1
 |6,_=>h.2.2.2.2.2.2.1
 |7,_=>h.2.2.2.2.2.2.2.1
 |8,_=>h.2.2.2.2.2.2.2.2.1
 |9,_=>h.2.2.2.2.2.2.2.2.2.1
 |10,_=>h.2.2.2.2.2.2.2.2.2.2.1
 |11,_=>h.2.2.2.2.2.2.2.2.2.2.2.1
 |12,_=>h.2.2.2.2.2.2.2.2.2.2.2.2.1
 |13,_=>h.2.2.2.2.2.2.2.2.2.2.2.2.2.1
 |14,_=>h.2.2.2.2.2.2.2.2.2.2.2.2.2.2.1
 |15,_=>h.2.2.2.2.2.2.2.2.2.2.2.2.2.2.2
 |n+16,h=>absurd h (by omega)
def TOK(P:Program)(Γ:Glob)(ok:FuncId->Bool)(T:Tab):Prop:=T.All λi t=>t.All λj r=>r.All λk e=>EOT P Γ ok (256*i+16*j+k) e
theorem xxx{f:Nat}(h:f<4096):f/256<16/\f/16%16<16/\f%16<16/\256*(f/256)+16*(f/16%16)+f%16=f:=by omega
theorem qmz{T:Tab}(hsz:P.funcs[4095]?=none)(hok:∀f,ok f=true->okFn P f=true)(hm:P.follows .mixedOrders=true)(hT:TOK P Γ ok T):∀(n:Nat) (f:FuncId) (args:List AV) (H:Heap) (v:AV) (H':Heap),frun (exT T n) f args H=some (v,H')->Ret P Γ f args H v H':=by
 intro n
 induction n with
 |zero=>
  intro f args H v H' h;unfold frun at h;split at h
  ·exact absurd (show(none:O)=some (v,H')from h) (by simp)
  ·simp at h
 |succ n ih=>
  intro f args H v H' h;unfold frun at h;split at h
  ·rename_i hf;obtain⟨d1,d2,d3,hfe⟩:=xxx (zpk.1 hf);have h:entK (((T.sel (dg (f/256))).sel (dg (f/16%16))).sel (dg (f%16))) (exT T n) args H=some (v,H'):=h;rw[N16.sel_dg _ _ d1,N16.sel_dg _ _ d2,N16.sel_dg _ _ d3]at h;have hE:=((hT.nth (f/256) d1).nth (f/16%16) d2).nth (f%16) d3;rw[hfe]at hE;generalize (((T.nth (f/256)).nth (f/16%16)).nth (f%16))=e at h hE;cases e with
   |no=>exact absurd (show(none:O)=some (v,H')from h) (by simp)
   |known g=>exact hE _ _ _ _ h
   |own g=>exact hE _ ih _ _ _ _ h
   |code t nt rs keep=>
    obtain⟨fn,c,rs0,md,hfn,hc,hnt,hrs,rfl,rfl⟩:=hE;obtain⟨hle,h⟩:=zan (show ifK (Nat.ble args.length nt) (lenK H λn0=>argE zwt args zqd λE=>tr ok md c (exT T n) n0 (finK n0 keep (rs0.map trR)) (λx E H=>endX x (finK n0 keep (rs0.map trR) E H)) E H)=some (v,H')from h);rw[qU]at hle;rw[zet]at h;obtain⟨_,E,hE1,h⟩:=qdd args 0 zqd (by omega) (by simpa using h)
    have hEe:E.env=zig args:=by
     funext t;rw[hE1];simp only[qM,xD,true_and,Nat.sub_zero,zig];split
     ·rfl
     ·rename_i hh;rw[zqe];simp only[qW,qJ (xC hh),xX]
    obtain⟨x,E',H1,h1,h2⟩:=zoc (Γ:=Γ) hok hm md c _ _ _ _ _ _ _ ih h
    have hend:(x= .ret\/x= .normal)/\finK H.length keep (rs0.map trR) E' H1=some (v,H'):=by
     cases x with
     |normal=>exact⟨.inr rfl,h1⟩
     |ret=>exact⟨.inl rfl,h1⟩
     |_=>exact absurd (show(none:O)=some (v,H')from h1) (by simp)
    have hfx:=qdc hend.2;cases hr:resB rs0 E'.env H1 with
    |none=>rw[hr]at hfx;simp[FinP]at hfx
    |some v1=>
     rw[hr]at hfx;obtain⟨hfin,hlen⟩:=zsd hfx;cases hb:fn.body with
     |none=>rw[hb]at hc;simp at hc
     |some code=>
      rw[hb]at hc;refine zld hfn hb hc (by rw[hnt];exact hle) hlen (λe=>by rw[e,hsz]at hfn;simp at hfn) ?_;rw[<-hEe];refine h2 _ _ ⟨hend.1,v1,?_,hfin⟩;unfold resA;rw[qlk _ _ hrs];exact hr
  ·simp at h
end
theorem zln{α:Type}{x:Option α}{d:α}(h:x.isSome=true):x=some (x.getD d):=by
 cases x with
 |none=>simp at h
 |some a=>rfl
theorem eot{P:Program}{Γ:Glob}{ok:FuncId->Bool}{f:FuncId}{fn:Func}{t:RunT}{nt:Nat}{rs:List RG}{keep:Bool}(m:Bool)(hf:P.funcs[f]?=some fn)(h1:(fn.body.bind (zbt P Γ fn.ntmps)).isSome=true)(h2:fn.ntmps=nt)
  (h3:t=tr ok m ((fn.body.bind (zbt P Γ fn.ntmps)).getD .skip)) (h4:(fn.results.toList.mapM (cRes P)).isSome=true) (h5:rs=((fn.results.toList.mapM (cRes P)).getD []).map trR):EOT P Γ ok f (.code t nt rs keep):=
 ⟨fn,_,_,m,hf,zln h1,h2,zln h4,h3,h5⟩
def ydV(L:Nat):AV:= .clo 69631 [.clo 131075 [.ptr L 0]]
theorem qab{Γ:Glob}{w:World}{F:Nat->Prop}{ρ:Nat->RS}{H:Heap}(n0:Nat)(h:HOK Γ w F ρ H)(ob:Obj):After Γ F n0 ρ w ρ (w.alloc ob) H []:=by
 have hk:=zrm (λb=>∃i,ρ i= .here b) w ob;have hr:∀a v,Rep w (Mu F ρ) ρ a v->Rep (w.alloc ob) (Mu F ρ) ρ a v:=λa v hr=>hr.kept hk (λ_ hb=> .inr hb) (λ_ _ x=>x) h.lt (λ_ _=> .inl rfl)
 refine⟨⟨h.inj,h.notF,λb hF=>Nat.lt_of_lt_of_le (h.fLt b hF) hk.size,h.unborn,h.alive,λi b hi=>?_,λg cs hg=>(h.glob g cs hg).kept hk (λ_ hb=> .inr hb) (λ_ _ x=>x)⟩,hk,λ_ _=> .inl rfl,λi b hi=> .inl ⟨i,hi⟩,λ_ hi _=>hi⟩;obtain⟨cs,h1,h2⟩:=h.blk i b hi;exact⟨cs,h1,h2.mono (zev (h.lt i b hi)) (λ_ _ _=>hr _ _)⟩
theorem zmw{Γ:Glob}{w:World}{F:Nat->Prop}{ρ:Nat->RS}{H:Heap}(n0:Nat)(ho:HOK Γ w F ρ H){id b:Nat}{cs cs':List AV}{r r':Loop}(hb:ρ id= .here b)(hH:H[id]?=some (some cs))(hh:w.heap[b]?=some (.loop r))
  {k s p:Nat} {sn:List AV} (hcs:cs'=zbh k s p sn) (hl:zvi Γ k s p r') (hsn:Rep w (Mu F ρ) ρ (.agg sn) (.agg ((Γ.lv k).map λt=>r'.tmps.getD t undef).toArray)):
  After Γ F n0 ρ w ρ (w.putObj b (.loop r')) (H.set id (some cs')) []:=
 zoh n0 ho hb hH (zpb hh rfl rfl) (λhrr=> .inr (.inr ⟨r',k,s,p,sn,World.putObj_heap_same (zdt hh),hcs,hl,hrr _ _ hsn⟩))
theorem qna{s:Nat}(h:s≠1):stOf s≠ .busy:=by
 match s,h with
 |0,_=>simp[stOf]
 |2,_=>simp[stOf]
 |n+3,_=>simp[stOf]
section
variable{P:Program}{Γ:Glob}{n0 nt:Nat}{E:Env}{H:Heap}{Q:Post}
def zmx(Γ:Glob)(k:Nat)(E:Env)(H:Heap):Heap:=H++[some (zbh k 0 0 ((Γ.lv k).map E))]
def jvo(Q:Post)(p:Nat)(E:Env)(H:Heap):Prop:=match p with
 |0=>Q .normal E H
 |1=>Q .ret E H
 |n+2=>Q (.exit n) E H
theorem xbf{x:Opd}{k:Nat}{ps:List Nat}{ca cb:CC}{f:Nat}{caps:List AV}{v:AV}{e:Eff}{rd:List Nat}{c s p:Nat}{sn:List AV}
  (hlp:∀(ps':Array Nat) (assign body:Code),ps'.toList=ps->zbt P Γ nt assign=some ca->zbt P Γ nt body=some cb->Γ.lp k nt ps' assign body)
  (hx:val E x= .clo f caps) (hok:okC (okFn P) f=true) (hny:cloF f≠4095)
  (hcall:CallR P Γ (cloF f) (cloA f [ydV H.length] caps) (zmx Γ k E H).length (zmx Γ k E H++List.replicate c none) v e rd c)
  (hL:getB (zaf e (zmx Γ k E H++List.replicate c none)) H.length=some (zbh k s p sn)) (hs1:s≠1)
  (hQ:jvo Q p E ((zaf e (zmx Γ k E H++List.replicate c none)).set H.length (some (zbh k 3 p sn)))):W P Γ n0 nt (.range x k ps ca cb) E H Q:=by
 intro code hc C ρ a w h1 h2 hfl hs;cases code<;>simp only[zbt]at hc<;>try (simp at hc;done)
 case rangeFunc g ps' assign body=>
  split at hc
  ·rename_i x' ca' cb' hg hca hcb;simp at hc;obtain⟨rfl,hk,rfl,rfl,rfl⟩:=hc
   have hro:C.ro=none:=by
    rcases hfl with h | h
    ·exact h
    ·simp[CC.flat]at h
   subst h2;rw[hro];refine wpIn_rangeFunc (F:=zdj none) ?_;intro fn _;let r0:Loop:={ state:= .ready,pending:=none,fn:=fn,tmps:=a.tmps,params:=ps',assign:=assign,body:=body,defers:=w.heap.size }
   let wD:=w.alloc (.deferred (some []));let w1:=wD.alloc (.loop r0);have hsD:wD.heap.size=w.heap.size+1:=by simp[wD]
   have A1:=qab C.n0 hs.hok (.deferred (some []));have hp1:HOK Γ wD C.F ρ (H++List.replicate 1 none):=A1.hok.pad 1;have hfr:ρ H.length= .unborn:=hs.hok.unborn _ (qT _)
   have hlist:(H++List.replicate 1 none).set H.length (some (zbh k 0 0 ((Γ.lv k).map E)))=zmx Γ k E H:=by
    simp[zmx]
   have A2:=zog C.n0 hp1 (fresh:=H.length) (by simp) hfr (zbh k 0 0 ((Γ.lv k).map E)) (.loop r0) (λhr=>by
    refine .inr (.inr ⟨r0,k,0,0,(Γ.lv k).map E,World.alloc_heap_new _ _,rfl,⟨?_,rfl,rfl⟩,?_⟩)
    ·show Γ.lp k a.tmps.size ps' assign body
     rw[hs.size];exact hlp ps' assign body rfl hca hcb
    ·refine .agg _ _ (by simp) (λj y z hy hz=>?_);simp only[qA,qY]at hy;obtain⟨t,ht,rfl⟩:=hy;simp only[xW,qA,ht,xK,qK]at hz;subst hz;exact hr _ _ ((hs.env t).after hs.hok A1))
   rw[hlist]at A2;generalize hρ1:updR ρ H.length (.here wD.heap.size)=ρ1 at A2;have hρL:ρ1 H.length= .here wD.heap.size:=by rw[<-hρ1];simp[updR]
   have hρi:∀i b,ρ1 i= .here b->b=wD.heap.size\/b<w.heap.size:=by
    intro i b hi;rw[<-hρ1]at hi;unfold updR at hi;split at hi
    ·simp at hi;exact .inl hi.symm
    ·exact .inr (hs.hok.lt i b hi)
   have A12:=A1.trans A2
   have hshape:w1.shape? wD.heap.size=none:=by
    simp[World.shape?,w1,World.alloc,-World.alloc_eq]
   have hyv:Rep w1 (Mu C.F ρ1) ρ1 (ydV H.length) (.func (.yield wD.heap.size) #[] #[]):= .ydF _ _ (.ydAt _ _ hρL hshape);have hxr:=zah hs.hok hs.env hg;rw[hx]at hxr;have hxr1:Rep w1 (Mu C.F ρ1) ρ1 (.clo f caps) (a.eval g):=hxr.after hs.hok A12
   have hcar:∀vs:Array Value,vs.size=(cloA f [ydV H.length] caps).length->(∀(j:Nat) (y:AV) (u:Value),(cloA f [ydV H.length] caps)[j]?=some y->vs[j]?=some u->Rep w1 (Mu C.F ρ1) ρ1 y u)->
     CallsIn (zdj none) (0-1) P (cloF f) vs w1 (rangePost (zdj none) 0 P wD.heap.size (λx a' w'=>∃E' H' ρ',Q x E' H'/\Sim Γ C ρ' E' H' a' w') { a with defers:=zgf w.heap.size::a.defers }):=by
    intro vs hsz hrep;have hcf:=zrs (n0:=C.n0) (A2.hok.pad c) (k:=(zmx Γ k E H).length) (c:=c) (by simp) (λj hj1 hj2=>A2.hok.unborn j hj1) hcall hsz hrep;rcases hcf with⟨_,hcf⟩ | ⟨h,_⟩
    rotate_left
    ·exact absurd h hny
    refine((callsIn_wide (n:=0-1)).2 hcf).mono ?_;rintro en w3 ⟨u,ρ',rfl,A3,hru⟩;generalize hH2:zaf e (zmx Γ k E H++List.replicate c none)=H2 at A3 hL hQ;obtain⟨b,hb,hblk⟩:=A3.hok.at' hL
    have hbL:b=wD.heap.size:=by
     rcases A3.ext H.length (by rw[hρL];simp)with h | ⟨_,h⟩
     ·rw[h,hρL]at hb;simp at hb;exact hb.symm
     ·rw[h]at hb;simp at hb
    subst hbL
    have hsh3:w3.shape? wD.heap.size=none:=by
     rw[A3.kept.shape _ (by simp[w1])];exact hshape
    obtain⟨r,hr1,⟨hr2,hr3,hr4⟩,hr5⟩:=hblk.loop hsh3;have hbusy:r.state≠ .busy:=by rw[hr3];exact qna hs1
    have A4:=zmw (r':={ r with state:= .exhausted }) C.n0 A3.hok hb (zch hL) hr1 (k:=k) (s:=3) (p:=p) (sn:=sn) rfl ⟨hr2,rfl,hr4⟩ hr5;refine⟨r.pending,_,run_endLoop hr1 hbusy,?_⟩;have A:=(A12.trans A3).trans A4;have hlenL:(zmx Γ k E H).length=H.length+1:=by simp[zmx]
    have hlen2:H2.length=H.length+1+c:=by rw[<-hH2,zgq];simp[hlenL]
    have hsim0:Sim Γ C ρ' E (H2.set H.length (some (zbh k 3 p sn))) a (w3.putObj wD.heap.size (.loop { r with state:= .exhausted })):=by
     have:=hs.step (d:=none) (v:= .junk) (v':=undef) A (by
      intro i hi;have hln:=hs.len;simp only[List.nil_append,List.append_nil,List.mem_append,List.mem_singleton,zfx,List.mem_range'_1]at hi;omega) (by have:=hs.len;simp;omega) (.imm _ _ (.junk _)) rfl
     exact this
    have hDlt:w.heap.size<w1.heap.size:=by simp[w1,hsD];omega
    have hnoD:∀i,ρ1 i≠ .here w.heap.size:=by
     intro i hi;rcases hρi i _ hi with h | h
     ·omega
     ·omega
    have hD1:w1.heap[w.heap.size]?=some (.deferred (some [])):=by
     show(wD.alloc (.loop r0)).heap[w.heap.size]?=_
     rw[zev (by omega)];exact World.alloc_heap_new _ _
    have hD3:w3.heap[w.heap.size]?=some (.deferred (some [])):=by
     rw[A3.kept.same _ hDlt (λ⟨i,hi⟩=>hnoD i hi)];exact hD1
    have hsim:Sim Γ C ρ' E (H2.set H.length (some (zbh k 3 p sn))) { a with defers:=zgf w.heap.size::a.defers } (w3.putObj wD.heap.size (.loop { r with state:= .exhausted })):=by
     refine⟨hsim0.hok,hsim0.env,?_,hsim0.size,hsim0.kept,hsim0.ext,hsim0.old,hsim0.len⟩;obtain⟨ms,q1,q2,q3⟩:=hsim0.defers;obtain⟨ms',q1',_,q3'⟩:=hs.defers;have hinj:∀x y,zgf x=zgf y->x=y:=by intro x y h;simpa[zgf]using h
     have hms:ms=ms':=(List.map_inj_right hinj).1 (q1.symm.trans q1');refine⟨w.heap.size::ms,by simp[q1],List.nodup_cons.2 ⟨λhm=>?_,q2⟩,λD hD=>?_⟩
     ·rw[hms]at hm;have:=zdt (q3' _ hm).2.1;omega
     ·simp only[List.mem_cons]at hD;rcases hD with rfl | hD
      ·refine⟨hs.kept.size,?_,λi hi=>?_⟩
       ·rw[World.putObj_heap_other (by omega)];exact hD3
       ·rcases A3.old i _ hi with⟨j,hj⟩ | h
        ·exact hnoD j hj
        ·have h:w1.heap.size<=w.heap.size:=h;omega
      ·exact q3 D hD
    rw[hr4]at hsim ⊢
    match p,hQ,hsim with
    |0,hQ,hsim=>exact⟨E,_,ρ',hQ,hsim⟩
    |1,hQ,hsim=>exact wpIn_ret ⟨E,_,ρ',hQ,hsim⟩
    |n+2,hQ,hsim=>exact wpIn_exit ⟨E,_,ρ',hQ,hsim⟩
   have hrunE:(Instr.enterLoop fn a.tmps ps' assign body (zdj none).round).run P w= .ok (wD.heap.size,[zgf w.heap.size]) w1:=by
    rw[hsD];exact run_enterLoop_outer fn a.tmps ps' assign body
   simp only[okC,qZ,qC]at hok;obtain⟨⟨hok1,hok2⟩,hok3⟩:=hok;rw[ziy]at hok2
   have hok0:zvj P (cloF f)=true:=by
    unfold okFn at hok1;simp only[xE]at hok1;rcases hok1 with h | h
    ·exact absurd (qX h) hny
    ·exact h
   rcases qV f 65536 with hf | hf
   ·have hb1:Nat.blt f 65536=true:=ziy.2 hf;obtain⟨us,e1,hl1,hr1⟩:=qip hxr1 hf;have hcF:cloF f=f:=by simp only[cloF,hb1]
    have hcA:cloA f [ydV H.length] caps=[ydV H.length]++caps:=by simp only[cloA,hb1]
    rw[hcF]at hok0;refine⟨_,_,w1,{ target:= .fn (.func f) us,args:= #[.func (.yield wD.heap.size) #[] #[]] },w1,f,#[.func (.yield wD.heap.size) #[] #[]]++us,w1,hrunE,?_,λ_ _=>trivial,?_,λh=>by simp[zdj,Fence.wide]at h,?_⟩;rotate_left 2
    ·rw[hcF,hcA]at hcar;refine hcar _ (by simp[hl1];omega) (λj y u hy hu=>?_);cases j with
     |zero=>
      rw[Array.getElem?_append_left (by simp)]at hu;simp only[List.cons_append,List.getElem?_cons_zero,qK,xW]at hy hu;subst hy hu;exact hyv
     |succ j=>
      rw[Array.getElem?_append_right (by simp)]at hu;exact hr1 j y u (by simpa using hy) (by simpa using hu)
    ·have ec:a.eval (Operand.const (Value.func (Fn.yield wD.heap.size) #[] #[]))=Value.func (Fn.yield wD.heap.size) #[] #[]:=rfl;simp[resolve,e1,Deferred.ofValue,ec]
    ·simp[invoke,zlb hok0]
   ·have hb1:Nat.blt f 65536=false:=zvl hf;have hcF:cloF f=f-65536:=by simp only[cloF,hb1]
    have hcA:cloA f [ydV H.length] caps=caps++[ydV H.length]:=by simp only[cloA,hb1]
    have hyd:f≠69631:=by intro h;rw[hcF]at hny;omega
    obtain⟨us,e1,hl1,hr1⟩:=qiq hxr1 hf hok2 hyd;rw[hcF]at hok0;refine⟨_,_,w1,{ target:= .fn (.func (f-65536)) #[],args:=us++ #[.func (.yield wD.heap.size) #[] #[]] },w1,f-65536,us++ #[.func (.yield wD.heap.size) #[] #[]],w1,hrunE,?_,λ_ _=>trivial,?_,λh=>by simp[zdj,Fence.wide]at h,?_⟩;rotate_left 2
    ·rw[hcF,hcA]at hcar;refine hcar _ (by simp[hl1]) (λj y u hy hu=>?_);rcases qV j caps.length with hj | hj
     ·rw[qH hj]at hy;rw[Array.getElem?_append_left (by omega)]at hu;exact hr1 j y u hy hu
     ·rw[List.getElem?_append_right hj]at hy;rw[Array.getElem?_append_right (by omega),hl1]at hu;cases hjj:j-caps.length with
      |zero=>rw[hjj]at hy hu;simp at hy hu;subst hy hu;exact hyv
      |succ m=>rw[hjj]at hy;simp at hy
    ·have ec:a.eval (Operand.const (Value.func (Fn.yield wD.heap.size) #[] #[]))=Value.func (Fn.yield wD.heap.size) #[] #[]:=rfl;simp[resolve,e1,Deferred.ofValue,ec]
    ·simp[invoke,zlb hok0]
  ·simp at hc
 all_goals (split at hc<;>try (simp at hc;done))
 all_goals (split at hc<;>try (simp at hc;done))
 all_goals (split at hc<;>simp at hc)
end
def zrg:List Nat->List AV->Env->Env
 |t::ts,v::vs,E=>zrg ts vs (upd E t v)
 |_,_,E=>E
def qnb(lv:List Nat)(sn:List AV)(ps:List Nat)(us:List AV):Env:=zrg ps us (zrg lv sn (λ_=> .junk))
theorem qnc{w:World}{M:Nat->Prop}{ρ:Nat->RS}{tm:Nat->Value}:∀(lv:List Nat) (sn:List AV) (E:Env),(∀t,Rep w M ρ (E t) (tm t))->sn.length=lv.length->
  (∀(j:Nat) (a:AV) (t:Nat),sn[j]?=some a->lv[j]?=some t->Rep w M ρ a (tm t))->∀t,Rep w M ρ (zrg lv sn E t) (tm t):=by
 intro lv
 induction lv with
 |nil=>intro sn E hE hl h t;exact hE t
 |cons t0 lv ih=>
  intro sn E hE hl h t;cases sn with
  |nil=>simp at hl
  |cons a sn=>
   refine ih sn (upd E t0 a) (λt=>?_) (by simpa using hl) (λj b t hb ht=>h (j+1) b t (by simpa using hb) (by simpa using ht)) t;unfold upd;split
   ·rename_i e;subst e;exact h 0 a t rfl rfl
   ·exact hE t
theorem qnd{w:World}{M:Nat->Prop}{ρ:Nat->RS}:∀(ps:List Nat) (us:List AV) (vs:List Value) (E:Env) (tm:Array Value),(∀t,Rep w M ρ (E t) (tm.getD t undef))->(∀t∈ps,t<tm.size)->us.length=ps.length->vs.length=ps.length->
  (∀(j:Nat) (a:AV) (v:Value),us[j]?=some a->vs[j]?=some v->Rep w M ρ a v)->
  ∀t,Rep w M ρ (zrg ps us E t) (((ps.zip vs).foldl (λtmps (t,a)=>tmps.setIfInBounds t a) tm).getD t undef):=by
 intro ps
 induction ps with
 |nil=>intro us vs E tm hE _ hl hl2 h t;simpa[zrg]using hE t
 |cons t0 ps ih=>
  intro us vs E tm hE hlt hl hl2 h t;cases us with
  |nil=>simp at hl
  |cons a us=>
   cases vs with
   |nil=>simp at hl2
   |cons v vs=>
    simp only[List.zip_cons_cons,xG,zrg];refine ih us vs (upd E t0 a) (tm.setIfInBounds t0 v) (λt=>?_) (λt ht=>by simpa using hlt t (by simp[ht])) (by simpa using hl) (by simpa using hl2) (λj b u hb hu=>h (j+1) b u (by simpa using hb) (by simpa using hu)) t;have h0:t0<tm.size:=hlt t0 (by simp);simp only[Array.getD_eq_getD_getElem?];unfold upd;by_cases e:t=t0
    ·subst e;simp[h0];exact h 0 a v rfl rfl
    ·rw[if_neg e,Array.getElem?_setIfInBounds_ne (λx=>e x.symm),<-Array.getD_eq_getD_getElem?];exact hE t
theorem qgz:∀(l:List (Nat×Value)) (tm:Array Value),(l.foldl (λtmps (t,a)=>tmps.setIfInBounds t a) tm).size=tm.size:=by
 intro l
 induction l with
 |nil=>intro tm;rfl
 |cons p l ih=>intro tm;rw[xG,ih];simp
def zgg:Exit->Option (Nat×Nat×Bool)
 |.normal=>some (0,0,true)
 |.ret=>some (2,1,false)
 |.exit n=>some (2,n+2,false)
 |_=>none
section
variable{P:Program}{Γ:Glob}
def znk(P:Program)(Γ:Glob)(k nt:Nat)(ps lv:List Nat)(ca cb:CC):Prop:=
 Γ.lv k=lv/\(∀t∈ps,t<nt)/\ca.flat=true/\cb.flat=true/\
 ∀(nt':Nat) (ps':Array Nat) (assign body:Code),Γ.lp k nt' ps' assign body↔nt'=nt/\ps'.toList=ps/\zbt P Γ nt assign=some ca/\zbt P Γ nt body=some cb
theorem qne{k nt:Nat}{ps lv:List Nat}{ca cb:CC}(ht:znk P Γ k nt ps lv ca cb){L p:Nat}{sn us:List AV}{H:Heap}{v:AV}{Hout:Heap}(hL:getB H L=some (zbh k 0 p sn))(hus:us.length=ps.length)(hsn:sn.length=lv.length)
  (hlen:H.length<=Hout.length)
  (h:W P Γ H.length nt ca (qnb lv sn ps us) H (λx E1 H1=>x= .normal/\∃p1 sn1,getB H1 L=some (zbh k 0 p1 sn1)/\
   W P Γ H.length nt cb E1 (H1.set L (some (zbh k 1 p1 sn1))) (λx E2 H2=>∃s2 p2 sn2 s3 p3 b,getB H2 L=some (zbh k s2 p2 sn2)/\zgg x=some (s3,p3,b)/\
    Fin H.length (.bool b) (H2.set L (some (zbh k s3 p3 sn2))) v Hout))):Ret P Γ 4095 (.clo 131075 [.ptr L 0]::us) H v Hout:=by
 refine⟨hlen,?_⟩;intro w F ρ vs ho hsz hrep;have hLl:L<H.length:=(zfy hL)
 obtain⟨b,hb,hblk⟩:=ho.at' hL;obtain⟨v0,hv0⟩:∃v0,vs[0]?=some v0:=⟨vs[0]'(by simp at hsz;omega),by simp⟩
 obtain⟨b',e1,hb'⟩:=qir (hrep 0 _ v0 rfl hv0)
 have hbb:b'=b/\w.shape? b=none:=by
  rcases hb' with⟨h1,h2⟩ | h1
  ·rw[hb]at h1;simp at h1;subst h1;exact⟨rfl,h2⟩
  ·rw[hb]at h1;simp at h1
 obtain⟨rfl,hsh⟩:=hbb;obtain⟨r,hr1,⟨hr2,hr3,hr4⟩,hr5⟩:=hblk.loop hsh;obtain⟨hlv,hlt,hfa,hfb,hlp⟩:=ht;obtain⟨hnt,hps,hca,hcb⟩:=(hlp _ _ _ _).1 hr2
 have hvs:vs= #[.func (.yield b') #[] #[]]++vs.toList.tail.toArray:=by
  apply Array.toList_inj.1;have hl:vs.toList≠[]:=by intro e;have:=congrArg List.length e;simp at this;simp[this]at hsz
  obtain⟨y,l,hyl⟩:=List.exists_cons_of_ne_nil hl
  have hy:y=v0:=by
   have:vs.toList[0]?=some v0:=by simpa using hv0
   rw[hyl]at this;simpa using this
  simp[hyl,hy,e1]
 have htl:vs.toList.tail.length=ps.length:=by simp;simp at hsz;omega
 refine .inr ⟨rfl,b',r,vs.toList.tail.toArray,hvs,hr1,?_,?_⟩
 ·have h1:r.params.size=ps.length:=by rw[<-hps];simp
  rw[h1,<-htl];simp
 let C:Ctx:={ F:=F,w0:=w,ρ0:=ρ,n0:=H.length,nt:=nt,ro:=some b' }
 let tm:=(r.params.zip vs.toList.tail.toArray).foldl (λtmps (t,a)=>tmps.setIfInBounds t a) r.tmps
 have htm:tm=(ps.zip vs.toList.tail).foldl (λtmps (t,a)=>tmps.setIfInBounds t a) r.tmps:=by
  show(r.params.zip vs.toList.tail.toArray).foldl (λtmps (t,a)=>tmps.setIfInBounds t a) r.tmps=_
  rw[<-Array.foldl_toList,Array.toList_zip,hps]
 have hs0:Sim Γ C ρ (qnb lv sn ps us) H { tmps:=tm,defers:=[] } w:=by
  refine⟨ho,λt=>?_,⟨[],rfl,List.nodup_nil,by simp⟩,?_,Kept.refl _ w,λ_ _=> .inl rfl,λi b hi=> .inl ⟨i,hi⟩,qT _⟩
  ·show Rep w (Mu F ρ) ρ (zrg ps us (zrg lv sn (λ_=> .junk)) t) (tm.getD t undef)
   rw[htm];refine qnd ps us vs.toList.tail _ r.tmps ?_ (λt ht=>by rw[hnt];exact hlt t ht) hus htl (λj a u ha hu=>?_) t
   ·refine qnc (tm:=λt=>r.tmps.getD t undef) lv sn _ (λt=> .imm _ _ (.junk _)) hsn (λj a t ha htj=>?_);obtain⟨us',e2,hl2,hrr⟩:=zjx hr5;refine hrr j a _ ha ?_;have e3:us'=((Γ.lv k).map λt=>r.tmps.getD t undef).toArray:=by simpa using e2.symm
    rw[e3,hlv];simp[htj]
   ·refine hrep (j+1) a u (by simpa using ha) ?_;rw[List.getElem?_tail]at hu;simpa using hu
  ·show tm.size=nt
   rw[htm,qgz];exact hnt
 refine roundIn_of_wpIn (F:=Fence.wide) trivial ?_;refine wpIn_mono (h r.assign hca C ρ _ w rfl rfl (.inr hfa) hs0) ?_;rintro x a1 w1 ⟨E1,H1,ρ1,⟨rfl,p1,sn1,hg1,hB⟩,hs1⟩
 have hρL:∀{E:Env} {H':Heap} {a:Act} {w:World} {ρ1:Nat->RS} {cs:List AV},Sim Γ C ρ1 E H' a w->getB H' L=some cs->ρ1 L= .here b':=λhs hg=>by
  obtain⟨b2,hb2,_⟩:=hs.hok.at' hg;rcases hs.ext L hLl with h | ⟨_,h⟩
  ·rw[h];exact hb
  ·rw[h]at hb2;simp at hb2
 have hblt:b'<w.heap.size:=zdt hr1
 have loopAt:∀{E:Env} {H':Heap} {a:Act} {w':World} {ρ1:Nat->RS} {s p:Nat} {sn:List AV},Sim Γ C ρ1 E H' a w'->getB H' L=some (zbh k s p sn)->
   ∃r:Loop,w'.heap[b']?=some (.loop r)/\zvi Γ k s p r/\Rep w' (Mu F ρ1) ρ1 (.agg sn) (.agg ((Γ.lv k).map λt=>r.tmps.getD t undef).toArray):=by
  intro E H' a w' ρ1 s p sn hs hg;obtain⟨b2,hb2,hblk2⟩:=hs.hok.at' hg;have:b2=b':=by rw[hρL hs hg]at hb2;simpa using hb2.symm
  subst this;exact hblk2.loop (by rw[hs.kept.shape _ hblt];exact hsh)
 obtain⟨r1,q1,⟨q2,q3,q4⟩,q5⟩:=loopAt hs1 hg1;refine⟨_,run_beginRound q1 q3,?_⟩;have A1:=zmw (r':={ r1 with state:= .busy }) C.n0 hs1.hok (hρL hs1 hg1) (zch hg1) q1 (k:=k) (s:=1) (p:=p1) (sn:=sn1) rfl ⟨q2,rfl,q4⟩ q5;have hs2:=hs1.step (d:=none) (v:= .junk) (v':=undef) A1 (by simp) (by simpa using hs1.len) (.imm _ _ (.junk _)) rfl;refine wpIn_mono (hB r.body hcb C ρ1 a1 _ rfl rfl (.inr hfb) hs2) ?_;rintro x a2 w2 ⟨E2,H2,ρ2,⟨s2,p2,sn2,s3,p3,bb,hg2,hx,hfin⟩,hs3⟩;obtain⟨r2,z1,⟨z2,z3,z4⟩,z5⟩:=loopAt hs3 hg2
 have fin:∀(r':Loop),zvi Γ k s3 p3 r'->r'.tmps=r2.tmps->∃u ρ',Ending.returned (.bool bb)= .returned u/\After Γ F H.length ρ w ρ' (w2.putObj b' (.loop r')) Hout (zfx H.length (Hout.length-H.length))/\Rep (w2.putObj b' (.loop r')) (Mu F ρ') ρ' v u:=by
  intro r' hr' htm';have A2:=zmw (r':=r') C.n0 hs3.hok (hρL hs3 hg2) (zch hg2) z1 (k:=k) (s:=s3) (p:=p3) (sn:=sn2) rfl hr' (by rw[htm'];exact z5);have hs4:=hs3.step (d:=none) (v:= .junk) (v':=undef) A2 (by simp) (by simpa using hs3.len) (.imm _ _ (.junk _)) rfl;obtain⟨ρ',g1,g2⟩:=hs4.fin (H:=H) ho rfl (.imm _ _ (.bool bb)) hfin;exact⟨.bool bb,ρ',rfl,g1,g2⟩
 cases x with
 |normal=>
  simp only[zgg,qK,Prod.mk.injEq]at hx;obtain⟨rfl,rfl,rfl⟩:=hx;exact⟨_,_,run_endRound none z1,fin _ ⟨z2,rfl,rfl⟩ rfl⟩
 |ret=>
  simp only[zgg,qK,Prod.mk.injEq]at hx;obtain⟨rfl,rfl,rfl⟩:=hx;exact⟨_,_,run_endRound (some .ret) z1,fin _ ⟨z2,rfl,rfl⟩ rfl⟩
 |exit n=>
  simp only[zgg,qK,Prod.mk.injEq]at hx;obtain⟨rfl,rfl,rfl⟩:=hx;exact⟨_,_,run_endRound (some (.exit n)) z1,fin _ ⟨z2,rfl,rfl⟩ rfl⟩
 |goto l=>simp[zgg]at hx
 |panic c=>simp[zgg]at hx
 |outgrown=>simp[zgg]at hx
end
structure LD where
 k:Nat
 nt:Nat
 ps:List Nat
 lv:List Nat
 ca:CC
 cb:CC
def qha(g:List (Nat×List AV)):Glob:=⟨g,λ_ _ _ _ _=>False,λ_=>[]⟩
def qde(tab:List LD)(k:Nat):Option LD:=tab.find? λd=>Nat.beq d.k k
def mkG(P:Program)(g:List (Nat×List AV))(tab:List LD):Glob where
 globs:=g
 lp:=λk nt ps a b=>match qde tab k with
  |some d=>nt=d.nt/\ps.toList=d.ps/\zbt P (qha g) d.nt a=some d.ca/\zbt P (qha g) d.nt b=some d.cb
  |none=>False
 lv:=λk=>match qde tab k with
  |some d=>d.lv
  |none=>[]
section
variable{P:Program}{Γ Γ':Glob}
theorem zmy(h:Γ.globs=Γ'.globs):cOpd Γ=cOpd Γ':=by
 funext x;cases x<;>simp only[cOpd,h]
theorem zwu(h:Γ.globs=Γ'.globs):zia Γ=zia Γ':=by
 funext pl l
 induction l with
 |nil=>rfl
 |cons p l ih=>
  obtain⟨i,x⟩:=p;simp only[zia,zmy h,ih]
theorem zwv(h:Γ.globs=Γ'.globs)(o:Op):zdy P Γ o=zdy P Γ' o:=by
 unfold zdy;rw[zmy h,zwu h]
theorem qac(h:Γ.globs=Γ'.globs)(nt:Nat)(ops:Array Oper):zyi P Γ nt ops=zyi P Γ' nt ops:=by
 have e:zvk P Γ nt ops=zvk P Γ' nt ops:=by
  funext o;unfold zvk;rw[zwv h]
 unfold zyi;rw[e]
theorem zqf(h:Γ.globs=Γ'.globs)(nt:Nat)(c:Code):zbt P Γ nt c=zbt P Γ' nt c:=by
 induction c<;>simp only[zbt,zmy h,qac h, *]
theorem zww{g:List (Nat×List AV)}{tab:List LD}{d:LD}(hf:qde tab d.k=some d)(h1:(d.ps.all λt=>Nat.blt t d.nt)=true)(h2:d.ca.flat=true)(h3:d.cb.flat=true):
  znk P (mkG P g tab) d.k d.nt d.ps d.lv d.ca d.cb:=by
 refine⟨?_,λt ht=>ziy.1 (List.all_eq_true.1 h1 t ht),h2,h3,λnt' ps' assign body=>?_⟩
 ·simp only[mkG,hf]
 ·show(match qde tab d.k with | some d=>nt'=d.nt/\ps'.toList=d.ps/\zbt P (qha g) d.nt assign=some d.ca/\zbt P (qha g) d.nt body=some d.cb | none=>False)↔_
  rw[hf];rw[zqf (Γ:=mkG P g tab) (Γ':=qha g) rfl,zqf (Γ:=mkG P g tab) (Γ':=qha g) rfl]
end
def lpOf:List AV->Option (Nat×Nat×Nat×Nat×List AV)
 | [.clo m [.int .i64 (.ofNat k)],.int .i64 (.ofNat s),.int .i64 (.ofNat p),.agg sn]=>some (m,k,s,p,sn)
 |_=>none
theorem qnf{cs:List AV}{k s p:Nat}{sn:List AV}(h:lpOf cs=some (131076,k,s,p,sn)):cs=zbh k s p sn:=by
 unfold lpOf at h;split at h
 ·simp only[qK,Prod.mk.injEq]at h;obtain⟨rfl,rfl,rfl,rfl,rfl⟩:=h;rfl
 ·simp at h
noncomputable def lpK(cs:List AV)(k:Nat->Nat->Nat->List AV->O):O:=match lpOf cs with
 |some (m,i,s,p,sn)=>ifK (Nat.beq m 131076) (natK i λi=>natK s λs=>natK p λp=>k i s p sn)
 |none=>none
theorem zub{cs:List AV}{k:Nat->Nat->Nat->List AV->O}{R:AV×Heap}(h:lpK cs k=some R):∃i s p sn,cs=zbh i s p sn/\k i s p sn=some R:=by
 unfold lpK at h;split at h
 ·rename_i m i s p sn hm;obtain⟨h1,h⟩:=zan h;have:=qX h1;subst this;rw[zbf,zbf,zbf]at h;exact⟨i,s,p,sn,qnf hm,h⟩
 ·simp at h
noncomputable def kql(p:Nat)(kn:Kn)(kx:Kx)(E:E16)(H:Heap):O:=match p with
 |0=>kn E H
 |1=>kx .ret E H
 |n+2=>kx (.exit n) E H
noncomputable def endR(k L:Nat)(kn:Kn)(kx:Kx)(E:E16)(_:AV)(H:Heap):O:=
 blkK H L λcs=>lpK cs λi s p sn=>ifK (Nat.beq i k) (ifK (nB1 (Nat.beq s 1)) (putK H L (some (zbh k 3 p sn)) λH=>kql p kn kx E H))
noncomputable def zuc(ok:FuncId->Bool)(k:Nat)(lv:List GT)(g:GT):RunT:=λc _ kn kx E H=>
 qmg (g E) λf caps=>ifK (okC ok f) (zhk lv E λsn=>lenK H λL=>qgj H (some (zbh k 0 0 sn)) λH1=>
  bsel (Nat.blt f (nat_lit 65536)) (ifK (Nat.blt f (nat_lit 4095)) (appK [ydV L] caps λl=>qgt c f l H1 (endR k L kn kx E)))
   (ifK (nB1 (Nat.blt f (nat_lit 65536))) (natK (Nat.sub f (nat_lit 65536)) λf=>ifK (Nat.blt f (nat_lit 4095)) (appK caps [ydV L] λl=>qgt c f l H1 (endR k L kn kx E)))))
noncomputable def trX(ok:FuncId->Bool)(m:Bool)(lvf:Nat->List Nat):CC->RunT
 |.seq a b=>zdp (trX ok m lvf a) (trX ok m lvf b)
 |.cond x a b=>zlm (trG x) (trX ok m lvf a) (trX ok m lvf b)
 |.block id a=>zzt id (trX ok m lvf a)
 |.range x k _ _ _=>zuc ok k ((lvf k).map λt=>trG (.t t)) (trG x)
 |c=>tr ok m c
def zeu:CC->List (Nat×List Nat×CC×CC)
 |.seq a b=>zeu a++zeu b
 |.cond _ a b=>zeu a++zeu b
 |.block _ a=>zeu a
 |.range _ k ps a b=>[(k,ps,a,b)]
 |_=>[]
section
variable{P:Program}{ok:FuncId->Bool}{Γ:Glob}
def SndN(P:Program)(Γ:Glob)(nt:Nat)(cc:CC)(r:RunT):Prop:= ∀c n kn kx E H R,zzs P Γ (frun c)->r c n kn kx E H=some R->
 ∃x E' H',fin kn kx x E' H'=some R/\∀Q,Q x (E16.env E') H'->W P Γ n nt cc (E16.env E) H Q
theorem xbg(E:E16)(lv:List Nat)(k:List AV->O):zhk (lv.map λt=>trG (.t t)) E k=k (lv.map E.env):=by
 have:=zhl E (lv.map Opd.t) k;simp only[xU]at this;exact this
theorem qad(hok:∀f,ok f=true->okFn P f=true){k nt:Nat}{ps lv:List Nat}{ca cb:CC}(ht:znk P Γ k nt ps lv ca cb)(x:Opd):SndN P Γ nt (.range x k ps ca cb) (zuc ok k (lv.map λt=>trG (.t t)) (trG x)):=by
 intro c n kn kx E H R hc h;obtain⟨f,caps,hx,h⟩:=zpu h;rw[zay]at hx;obtain⟨hokc,h⟩:=zan h;rw[xbg,zet,znz]at h;have hlv:(Γ.lv k).map E.env=lv.map E.env:=by rw[ht.1]
 have hH1:H++[some (zbh k 0 0 (lv.map E.env))]=zmx Γ k E.env H:=by rw[<-hlv];rfl
 rw[hH1]at h
 have hlp:∀(ps':Array Nat) (assign body:Code),ps'.toList=ps->zbt P Γ nt assign=some ca->zbt P Γ nt body=some cb->Γ.lp k nt ps' assign body:=
  λps' assign body h1 h2 h3=>(ht.2.2.2.2 _ _ _ _).2 ⟨rfl,h1,h2,h3⟩
 have fin1:∀(g:Nat) (l:List AV),Nat.blt g 4095=true->cloF f=g->cloA f [ydV H.length] caps=l->qgt c g l (zmx Γ k E.env H) (endR k H.length kn kx E)=some R->
   ∃x' E' H',fin kn kx x' E' H'=some R/\∀Q,Q x' (E16.env E') H'->W P Γ n nt (.range x k ps ca cb) (E16.env E) H Q:=by
  intro g l hg hcF hcA h;have hg':=zpk.1 hg;obtain⟨v,e,rd,cc,hcs,h⟩:=zpv (zpk.2 (by omega)) h;rw[ztr]at h;obtain⟨cs,hb,h0⟩:=zcz h;clear h;obtain⟨i,s,p,sn,hcs',h⟩:=zub h0;clear h0;subst hcs';obtain⟨h1,h⟩:=zan h;have:=qX h1;subst this;obtain⟨h2,h⟩:=zan h;rw[qcw]at h2;have hs1:s≠1:=by intro e;subst e;simp at h2
  rw[zff]at h;have hcr:=hcs.sound hc
  have w:∀Q:Post,jvo Q p E.env ((zaf e (zmx Γ i E.env H++List.replicate cc none)).set H.length (some (zbh i 3 p sn)))->W P Γ n nt (.range x i ps ca cb) (E16.env E) H Q:=by
   intro Q hQ;refine xbf hlp hx (qbx hok hokc) (by omega) (v:=v) (e:=e) (rd:=rd) (c:=cc) ?_ hb hs1 hQ;rw[hcF,hcA];exact hcr
  match p,h,w with
  |0,h,w=>exact⟨.normal,E,_,h,λQ hQ=>w Q hQ⟩
  |1,h,w=>exact⟨.ret,E,_,h,λQ hQ=>w Q hQ⟩
  |q+2,h,w=>exact⟨.exit q,E,_,h,λQ hQ=>w Q hQ⟩
 rcases zdw h with⟨hb,h⟩ | h
 ·obtain⟨h1,h⟩:=zan h;rw[zkh]at h;exact fin1 f _ h1 (by simp only[cloF,hb]) (by simp only[cloA,hb]) h
 ·obtain⟨hb,h⟩:=zan h;rw[qcw]at hb;have hb:Nat.blt f 65536=false:=by simpa only[qC]using hb
  rw[zbf]at h;obtain⟨h1,h⟩:=zan h;rw[zkh]at h;exact fin1 (f-65536) _ h1 (by simp only[cloF,hb]) (by simp only[cloA,hb]) h
theorem qng(hok:∀f,ok f=true->okFn P f=true)(hm:P.follows .mixedOrders=true)(md:Bool)(lvf:Nat->List Nat)(nt:Nat):∀cc:CC,(∀r∈zeu cc,znk P Γ r.1 nt r.2.1 (lvf r.1) r.2.2.1 r.2.2.2)->SndN P Γ nt cc (trX ok md lvf cc):=by
 have plain:∀cc,SndN P Γ nt cc (tr ok md cc):=by
  intro cc c n kn kx E H R hc h;obtain⟨x,E',H',h1,h2⟩:=zoc hok hm md cc c n kn kx E H R hc h;exact⟨x,E',H',h1,λQ hQ=>h2 nt Q hQ⟩
 intro cc
 induction cc with
 |seq a b iha ihb=>
  intro hr c n kn kx E H R hc h;have ha:=iha (λr h=>hr r (by simp[zeu,h]));have hb:=ihb (λr h=>hr r (by simp[zeu,h]));obtain⟨x,E1,H1,h1,h2⟩:=ha c n (λE H=>trX ok md lvf b c n kn kx E H) kx E H R hc h;cases x with
  |normal=>
   obtain⟨x,E2,H2,h3,h4⟩:=hb c n kn kx E1 H1 R hc h1;exact⟨x,E2,H2,h3,λQ hQ=>zgr (h2 _ (h4 Q hQ))⟩
  |exit i=>exact⟨.exit i,E1,H1,h1,λQ hQ=>zgr (h2 _ hQ)⟩
  |goto l=>exact⟨.goto l,E1,H1,h1,λQ hQ=>zgr (h2 _ hQ)⟩
  |ret=>exact⟨.ret,E1,H1,h1,λQ hQ=>zgr (h2 _ hQ)⟩
  |panic ch=>exact⟨.panic ch,E1,H1,h1,λQ hQ=>zgr (h2 _ hQ)⟩
  |outgrown=>exact⟨.outgrown,E1,H1,h1,λQ hQ=>zgr (h2 _ hQ)⟩
 |cond x a b iha ihb=>
  intro hr c n kn kx E H R hc h;have ha:=iha (λr h=>hr r (by simp[zeu,h]));have hb:=ihb (λr h=>hr r (by simp[zeu,h]));rcases qda (show cndK (trG x E) (trX ok md lvf a c n kn kx E H) (trX ok md lvf b c n kn kx E H)=some R from h)with⟨hv,h⟩ | ⟨hv,h⟩
  ·rw[zay]at hv;obtain⟨x,E1,H1,h1,h2⟩:=ha c n kn kx E H R hc h;exact⟨x,E1,H1,h1,λQ hQ=>zvy hv (λ_=>h2 Q hQ) (λe=>by simp at e)⟩
  ·rw[zay]at hv;obtain⟨x,E1,H1,h1,h2⟩:=hb c n kn kx E H R hc h;exact⟨x,E1,H1,h1,λQ hQ=>zvy hv (λe=>by simp at e) (λ_=>h2 Q hQ)⟩
 |block id a ih=>
  intro hr c n kn kx E H R hc h;have ha:=ih (λr h=>hr r (by simpa[zeu]using h));obtain⟨x,E1,H1,h1,h2⟩:=ha c n kn (blkX id kn kx) E H R hc h;cases x with
  |normal=>exact⟨.normal,E1,H1,h1,λQ hQ=>zdk (h2 _ hQ)⟩
  |exit i=>
   by_cases e:i=id
   ·subst e;have hb:bsel (Nat.beq i i) (kn E1 H1) (kx (.exit i) E1 H1)=some R:=h1;rw[qN]at hb;exact⟨.normal,E1,H1,hb,λQ hQ=>zdk (h2 _ (by simp only[zmo,if_true];exact hQ))⟩
   ·have hb:Nat.beq i id=false:=by
     cases hh:Nat.beq i id with
     |false=>rfl
     |true=>exact absurd (qX hh) e
    have h1':bsel (Nat.beq i id) (kn E1 H1) (kx (.exit i) E1 H1)=some R:=h1;rw[hb]at h1';exact⟨.exit i,E1,H1,h1',λQ hQ=>zdk (h2 _ (by simp only[zmo,if_neg e];exact hQ))⟩
  |goto l=>exact⟨.goto l,E1,H1,h1,λQ hQ=>zdk (h2 _ hQ)⟩
  |ret=>exact⟨.ret,E1,H1,h1,λQ hQ=>zdk (h2 _ hQ)⟩
  |panic ch=>exact⟨.panic ch,E1,H1,h1,λQ hQ=>zdk (h2 _ hQ)⟩
  |outgrown=>exact⟨.outgrown,E1,H1,h1,λQ hQ=>zdk (h2 _ hQ)⟩
 |range x k ps a b=>intro hr;exact qad hok (hr (k,ps,a,b) (by simp[zeu])) x
 |skip=>intro _;exact plain _
 |reg os d=>intro _;exact plain _
 |loop a=>intro _;exact plain _
 |exit i=>intro _;exact plain _
 |scope a=>intro _;exact plain _
 |label l=>intro _;exact plain _
 |goto l=>intro _;exact plain _
 |ret=>intro _;exact plain _
noncomputable def entR(t:RunT)(nt:Nat)(rs:List RG)(keep:Bool):FR->List AV->Heap->O:=λc args H=>
 ifK (Nat.ble args.length nt) (lenK H λn0=>argE zwt args zqd λE=>t c n0 (finK n0 keep rs) (λx E H=>endX x (finK n0 keep rs E H)) E H)
theorem eor{f:FuncId}{fn:Func}{t:RunT}{nt:Nat}{rs:List RG}{keep:Bool}{k:Nat}{ps:List Nat}{la lb:CC}(lvf:Nat->List Nat)(hok:∀f,ok f=true->okFn P f=true)(hm:P.follows .mixedOrders=true)(hne:f≠4095)(m:Bool)
  (hf:P.funcs[f]?=some fn) (h1:(fn.body.bind (zbt P Γ fn.ntmps)).isSome=true) (h2:fn.ntmps=nt)
  (h3:t=trX ok m lvf ((fn.body.bind (zbt P Γ fn.ntmps)).getD .skip)) (h4:(fn.results.toList.mapM (cRes P)).isSome=true) (h5:rs=((fn.results.toList.mapM (cRes P)).getD []).map trR)
  (h6:zeu ((fn.body.bind (zbt P Γ fn.ntmps)).getD .skip)=[(k,ps,la,lb)]) (h7:znk P Γ k nt ps (lvf k) la lb):EOT P Γ ok f (.own (entR t nt rs keep)):=by
 intro cl hcl args H v H' h;have hc:=zln (d:=CC.skip) h1;have hrs:=zln (d:=([]:List RV)) h4;generalize (fn.body.bind (zbt P Γ fn.ntmps)).getD .skip=c at hc h3 h6;generalize (fn.results.toList.mapM (cRes P)).getD []=rs0 at hrs h5;subst h3 h5;obtain⟨hle,h⟩:=zan (show ifK (Nat.ble args.length nt) (lenK H λn0=>argE zwt args zqd λE=>trX ok m lvf c cl n0 (finK n0 keep (rs0.map trR)) (λx E H=>endX x (finK n0 keep (rs0.map trR) E H)) E H)=some (v,H')from h);rw[qU]at hle;rw[zet]at h;obtain⟨_,E,hE1,h⟩:=qdd args 0 zqd (by omega) (by simpa using h)
 have hEe:E.env=zig args:=by
  funext t;rw[hE1];simp only[qM,xD,true_and,Nat.sub_zero,zig];split
  ·rfl
  ·rename_i hh;rw[zqe];simp only[qW,qJ (xC hh),xX]
 obtain⟨x,E',H1,h1',h2'⟩:=qng (Γ:=Γ) hok hm m lvf nt c (by rw[h6];intro r hr;simp at hr;subst hr;exact h7) _ _ _ _ _ _ _ hcl h
 have hend:(x= .ret\/x= .normal)/\finK H.length keep (rs0.map trR) E' H1=some (v,H'):=by
  cases x with
  |normal=>exact⟨.inr rfl,h1'⟩
  |ret=>exact⟨.inl rfl,h1'⟩
  |_=>exact absurd (show(none:O)=some (v,H')from h1') (by simp)
 have hfx:=qdc hend.2;cases hr:resB rs0 E'.env H1 with
 |none=>rw[hr]at hfx;simp[FinP]at hfx
 |some v1=>
  rw[hr]at hfx;obtain⟨hfin,hlen⟩:=zsd hfx;cases hb:fn.body with
  |none=>rw[hb]at hc;simp at hc
  |some code=>
   rw[hb]at hc;subst h2;refine zld hf hb hc hle hlen hne ?_;rw[<-hEe];refine h2' _ ⟨hend.1,v1,?_,hfin⟩;unfold resA;rw[qlk _ _ hrs];exact hr
noncomputable def qwr(ts:List ST)(vs:List AV)(E:E16)(k:E16->O):O:=
 List.rec (motive:=λ_=>List AV->E16->(E16->O)->O) (λvs E k=>List.rec (motive:=λ_=>E16->(E16->O)->O) (λE k=>k E) (λ_ _ _ _ _=>none) vs E k)
  (λs _ ih vs E k=>List.rec (motive:=λ_=>ST->(List AV->E16->(E16->O)->O)->E16->(E16->O)->O) (λ_ _ _ _=>none) (λv vs _ s ih E k=>s E v λE=>ih vs E k) vs s ih E k) ts vs E k
theorem zwx{R:AV×Heap}{k:E16->O}:∀(ts:List Nat) (vs:List AV) (E:E16),(ts.all λt=>Nat.blt t 256)=true->qwr (ts.map λt=>trD (some t)) vs E k=some R->vs.length=ts.length/\∃E':E16,E'.env=zrg ts vs E.env/\k E'=some R:=by
 intro ts
 induction ts with
 |nil=>
  intro vs E _ h;cases vs with
  |nil=>exact⟨rfl,E,rfl,h⟩
  |cons v vs=>exact absurd (show(none:O)=some R from h) (by simp)
 |cons t ts ih=>
  intro vs E ho h;simp only[qI,qZ]at ho;cases vs with
  |nil=>exact absurd (show(none:O)=some R from h) (by simp)
  |cons v vs=>
   have h:trD (some t) E v (λE=>qwr (ts.map λt=>trD (some t)) vs E k)=some R:=h;have hd:okD (some t)=true:=ho.1;rw[zbe hd]at h;obtain⟨h1,E',h2,h3⟩:=ih vs _ ho.2 h;refine⟨by simp[h1],E',?_,h3⟩;rw[h2,E16.env_setO _ _ hd];rfl
noncomputable def endB(k L n0 s3 p3:Nat)(b:Bool)(H:Heap):O:=blkK H L λcs=>lpK cs λi _ _ sn=>ifK (Nat.beq i k) (putK H L (some (zbh k s3 p3 sn)) λH=>ifK (Nat.ble n0 H.length) (some (.bool b,H)))
noncomputable def kqm(k L n0:Nat)(x:Exit)(_:E16)(H:Heap):O:=match x with
 |.ret=>endB k L n0 2 1 false H
 |.exit n=>natK n λn=>endB k L n0 2 (n+2) false H
 |_=>none
noncomputable def rndK(k:Nat)(lv ps:List ST)(ta tb:RunT)(L:Nat)(sn us:List AV):FR->Heap->O:=λc H=>
 lenK H λn0=>qwr lv sn zqd λE=>qwr ps us E λE=>ta c n0
  (λE H=>blkK H L λcs=>lpK cs λi s p sn=>ifK (Nat.beq i k) (ifK (Nat.beq s 0) (putK H L (some (zbh k 1 p sn)) λH=>tb c n0 (λ_ H=>endB k L n0 0 0 true H) (kqm k L n0) E H)))
  (λ_ _ _=>none) E H
theorem qws{k L n0 s3 p3:Nat}{b:Bool}{H:Heap}{v:AV}{H':Heap}(h:endB k L n0 s3 p3 b H=some (v,H')):
  ∃s2 p2 sn2,getB H L=some (zbh k s2 p2 sn2)/\Fin n0 (.bool b) (H.set L (some (zbh k s3 p3 sn2))) v H'/\n0<=H'.length:=by
 obtain⟨cs,hb,h0⟩:=zcz h;clear h;obtain⟨i,s,p,sn,hcs',h⟩:=zub h0;clear h0;subst hcs';obtain⟨h1,h⟩:=zan h;have:=qX h1;subst this;rw[zff]at h;obtain⟨h2,h⟩:=zan h;rw[qU]at h2;simp only[qK,Prod.mk.injEq]at h;obtain⟨rfl,rfl⟩:=h;exact⟨s,p,sn,hb,.keep _ _,h2⟩
theorem zwy(hok:∀f,ok f=true->okFn P f=true)(hm:P.follows .mixedOrders=true){k nt:Nat}{ps lv:List Nat}{ca cb:CC}(ht:znk P Γ k nt ps lv ca cb)(hl1:(lv.all λt=>Nat.blt t 256)=true)(hl2:(ps.all λt=>Nat.blt t 256)=true)
  {ma mb:Bool} {ta tb:RunT} (h1:ta=tr ok ma ca) (h2:tb=tr ok mb cb) {L p:Nat} {sn us:List AV} {c:FR} (hc:zzs P Γ (frun c)) {H:Heap} {v:AV} {H':Heap} (hL:getB H L=some (zbh k 0 p sn))
  (h:rndK k (lv.map λt=>trD (some t)) (ps.map λt=>trD (some t)) ta tb L sn us c H=some (v,H')):Ret P Γ 4095 (.clo 131075 [.ptr L 0]::us) H v H':=by
 subst h1 h2;unfold rndK at h;rw[zet]at h;obtain⟨g1,E0,g2,h⟩:=zwx lv sn zqd hl1 h;obtain⟨g3,E1,g4,h⟩:=zwx ps us E0 hl2 h
 have hE:E1.env=qnb lv sn ps us:=by
  rw[g4,g2];have:E16.env zqd=λ_=>AV.junk:=funext zqe
  rw[this];rfl
 obtain⟨x,E2,H2,q1,q2⟩:=zoc (Γ:=Γ) hok hm ma ca _ _ _ _ _ _ _ hc h;cases x<;>first | (exact absurd (show(none:O)=some (v,H')from q1) (by simp)) | skip
 obtain⟨cs,hb,q0⟩:=zcz (show blkK H2 L _=some (v,H')from q1);clear q1;obtain⟨i,s,p1,sn1,hcs',q1⟩:=zub q0;clear q0;subst hcs';obtain⟨e1,q1⟩:=zan q1;have:=qX e1;subst this;obtain⟨e2,q1⟩:=zan q1;have:=qX e2;subst this;rw[zff]at q1;obtain⟨x,E3,H3,q3,q4⟩:=zoc (Γ:=Γ) hok hm mb cb _ _ _ _ _ _ _ hc q1
 have key:∃s3 p3 bb,zgg x=some (s3,p3,bb)/\endB i L H.length s3 p3 bb H3=some (v,H'):=by
  cases x with
  |normal=>exact⟨0,0,true,rfl,q3⟩
  |ret=>exact⟨2,1,false,rfl,q3⟩
  |exit n=>
   have q3:(natK n λn=>endB i L H.length 2 (n+2) false H3)=some (v,H'):=q3;rw[zbf]at q3;exact⟨2,n+2,false,rfl,q3⟩
  |_=>exact absurd (show(none:O)=some (v,H')from q3) (by simp)
 obtain⟨s3,p3,bb,k1,k2⟩:=key;obtain⟨s2,p2,sn2,k3,k4,k5⟩:=qws k2;refine qne ht hL g3 g1 k5 ?_;rw[<-hE];exact q2 _ _ ⟨rfl,p1,sn1,hb,q4 _ _ ⟨s2,p2,sn2,s3,p3,bb,k3,k1,k4⟩⟩
noncomputable def yldK(tab:Nat->Nat->List AV->List AV->FR->Heap->O):FR->List AV->Heap->O:=λc args H=>match args with
 |.clo m [.ptr L 0]::us=>ifK (Nat.beq m 131075) (blkK H L λcs=>lpK cs λk s _ sn=>ifK (Nat.beq s 0) (tab k L sn us c H))
 |_=>none
theorem qnh{tab:Nat->Nat->List AV->List AV->FR->Heap->O}(htab:∀k L p sn us c H v H',zzs P Γ (frun c)->getB H L=some (zbh k 0 p sn)->tab k L sn us c H=some (v,H')->Ret P Γ 4095 (.clo 131075 [.ptr L 0]::us) H v H'):
  EOT P Γ ok 4095 (.own (yldK tab)):=by
 intro c hc args H v H' h;unfold yldK at h;split at h
 ·rename_i m L us;obtain⟨e1,h⟩:=zan h;have:=qX e1;subst this;obtain⟨cs,hb,h0⟩:=zcz h;clear h;obtain⟨i,s,p1,sn1,hcs',h⟩:=zub h0;clear h0;subst hcs';obtain⟨e2,h⟩:=zan h;have:=qX e2;subst this;exact htab _ _ _ _ _ _ _ _ _ hc hb h
 ·simp at h
end
def CK.rare:CK->Bool
 |.build .. | .bsl .. | .snil .. | .b2s .. | .slice .. | .slarr .. | .idxv .. | .idxs .. | .len true _ | .append .. | .copy .. | .max .. | .aeq .. | .pnil .. | .mkbnd .. | .mkmap | .mlook .. | .mentry .. | .mstore .. | .bits64 .. | .clr .. | .apz .. => true
 |_=>false
def CK.rareF:CK->Bool
 |.bsl .. | .b2s .. | .mksl .. | .slarr .. | .append .. | .copy .. | .mkmap | .mlook .. | .mentry .. | .mstore .. | .clr .. | .apz .. => true
 |_=>false
noncomputable section
def rdF(i:List Nat):FP:=(i,[])
def wrF(i:Nat):FP:=([i],[i])
def apF(ok:FuncId->Bool)(d:Option Nat)(k:CK)(next:FP->OR):OR:=trKF ok d k next
def qni(d:ST)(x:GT)(next:List Nat->OR):OR:=λc n kn E H=>zfg (x E) (λid off=>blkK H id λcs=>nthK cs off λv=>d E v λE=>next [id] c n kn E H) (λcs p=>nthK cs p λv=>d E v λE=>next [] c n kn E H)
def xbh(sz:Nat)(d:ST)(x:GT)(next:List Nat->OR):OR:=λc n kn E H=>zfg (x E) (λid off=>blkK H id λcs=>cutK cs off sz λv=>d E (.agg v) λE=>next [id] c n kn E H) (λcs p=>cutK cs p sz λv=>d E (.agg v) λE=>next [] c n kn E H)
def qdf(x y:GT)(next:Nat->OR):OR:=λc n kn E H=>zfg (x E) (λid off=>blkK H id λcs=>sc2K (y E) λw=>nthK cs off λ_=>putK cs off w λcs=>putK H id (some cs) λH=>next id c n kn E H) (λ_ _=>none)
def xbi(b:Bool):OR:=λ_ _ kn E H=>ifK b (kn E H)
def aB(x y:Bool):Bool:=Bool.rec (motive:=λ_=>Bool) false y x
def nIn(a:Nat)(l:List Nat):Bool:=List.rec (motive:=λ_=>Bool) true (λx _ ih=>Bool.rec (motive:=λ_=>Bool) ih false (Nat.beq x a)) l
def nBq(a b:Nat):Bool:=Bool.rec (motive:=λ_=>Bool) true false (Nat.beq a b)
def dW(l i:List Nat):Bool:=List.rec (motive:=λ_=>Bool) true (λa _ ih=>Bool.rec (motive:=λ_=>Bool) false ih (nIn a i)) l
def dj(x y:FP):Bool:=aB (dW x.2 y.1) (aB (dW x.2 y.2) (dW y.2 x.1))
def nF(n:Nat)(l:List FP):FP:=l.getD n ([],[])
end
theorem xxy(a:Nat):∀l:List Nat,nIn a l=!l.contains a:=by
 intro l
 induction l with
 |nil=>rfl
 |cons x l ih=>
  show(Bool.rec (motive:=λ_=>Bool) (nIn a l) false (Nat.beq x a):Bool)=_
  rw[List.contains_cons,ih];cases h:Nat.beq x a with
  |true=>have:=qX h;subst this;simp
  |false=>
   have:(a == x)=false:=by
    rw[beq_eq_false_iff_ne];intro e;subst e;rw[qN]at h;simp at h
   rw[this];simp
theorem qwt(i:List Nat):∀l:List Nat,dW l i=zhg l i:=by
 intro l
 induction l with
 |nil=>rfl
 |cons x l ih=>
  show(Bool.rec (motive:=λ_=>Bool) false (dW l i) (nIn x i):Bool)=_
  rw[ih,xxy];unfold zhg;rw[qI];cases (!i.contains x)<;>simp
theorem qnj(l:List Nat):dW l []=true:=by
 rw[qwt];simp[zhg]
theorem aB_t(y:Bool):aB true y=y:=rfl
theorem xxz(x:Bool):aB x true=x:=by cases x<;>rfl
theorem n_t:xbi true=zdl:=rfl
theorem xbj(y:FP):dj ([],[]) y=true:=by
 show aB true (aB true (dW y.2 []))=true
 rw[qnj];rfl
theorem xbk(x:FP):dj x ([],[])=true:=by
 show aB (dW x.2 []) (aB (dW x.2 []) true)=true
 rw[qnj];rfl
theorem xya(i j:List Nat):dj (rdF i) (rdF j)=true:=rfl
theorem xyb(i:List Nat)(a:Nat):dj (rdF i) (wrF a)=nIn a i:=by
 show(Bool.rec (motive:=λ_=>Bool) false true (nIn a i):Bool)=_
 cases nIn a i<;>rfl
theorem xyc(i:List Nat)(a:Nat):dj (wrF a) (rdF i)=nIn a i:=by
 show aB (Bool.rec (motive:=λ_=>Bool) false true (nIn a i)) (aB (Bool.rec (motive:=λ_=>Bool) false true true) true)=_
 cases nIn a i<;>rfl
theorem xyd(a b:Nat):dj (wrF a) (wrF b)=nBq a b:=by
 have e:Nat.beq b a=Nat.beq a b:=by
  cases h:Nat.beq a b with
  |true=>have:=qX h;subst this;exact qN _
  |false=>
   cases h':Nat.beq b a with
   |false=>rfl
   |true=>have:=qX h';subst this;rw[qN]at h;simp at h
 have e1:∀x y:Nat,dW [x] [y]=nBq y x:=by
  intro x y;show(Bool.rec (motive:=λ_=>Bool) false true (Bool.rec (motive:=λ_=>Bool) true false (Nat.beq y x)):Bool)=(Bool.rec (motive:=λ_=>Bool) true false (Nat.beq y x):Bool)
  cases Nat.beq y x<;>rfl
 have e2:nBq b a=nBq a b:=by unfold nBq;rw[e]
 show aB (dW [a] [b]) (aB (dW [a] [b]) (dW [b] [a]))=_
 rw[e1,e1,e2];cases nBq a b<;>rfl
theorem xye(i:List Nat)(y:FP):dj (rdF i) y=dW y.2 i:=rfl
theorem xyf(i:List Nat)(x:FP):dj x (rdF i)=dW x.2 i:=by
 show aB (dW x.2 i) (aB (dW x.2 []) true)=_
 rw[qnj];cases dW x.2 i<;>rfl
theorem jvp(fps:List FP):dynB [] fps=true:=rfl
theorem xyg:∀u v:Bool,(u && v)=aB u v:=by
 intro u v;cases u<;>rfl
theorem xyh(a b:Nat)(fps:List FP):dynB [(a,b)] fps=dj (nF a fps) (nF b fps):=by
 unfold dynB nF;simp only[qI,List.all_nil,Bool.and_true,qW];cases fps[a]? with
 |none=>exact(xbj _).symm
 |some x=>
  cases fps[b]? with
  |none=>exact(xbk _).symm
  |some y=>
   show(zhg x.2 y.1 && zhg x.2 y.2 && zhg y.2 x.1)=aB (dW x.2 y.1) (aB (dW x.2 y.2) (dW y.2 x.1))
   rw[qwt,qwt,qwt];cases zhg x.2 y.1<;>cases zhg x.2 y.2<;>rfl
theorem qnk(a b:Nat)(l:List (Nat×Nat))(fps:List FP):dynB ((a,b)::l) fps=aB (dj (nF a fps) (nF b fps)) (dynB l fps):=by
 rw[<-xyh,<-xyg];unfold dynB;rw[qI,qI,List.all_nil,Bool.and_true]
theorem qnl(n:Nat)(x:FP)(l:List FP):nF n (x::l)=if n=0 then x else nF (n-1) l:=by
 unfold nF;cases n with
 |zero=>rfl
 |succ n=>simp
section
variable{ok:FuncId->Bool}{d:Option Nat}{m:Bool}
theorem jvq:tr ok m .skip=zll:=rfl
theorem xyi(os:List COp)(l:Option (List (Nat×Nat))):tr ok m (.reg os l)=zfj ok m os l:=rfl
theorem xyj(a b:CC):tr ok m (.seq a b)=zdp (tr ok m a) (tr ok m b):=rfl
theorem jvr(x:Opd)(a b:CC):tr ok m (.cond x a b)=zlm (trG x) (tr ok m a) (tr ok m b):=rfl
theorem xyk(i:Nat)(a:CC):tr ok m (.block i a)=zzt i (tr ok m a):=rfl
theorem jvs(a:CC):tr ok m (.loop a)=jvn (tr ok m a):=rfl
theorem jvt(i:Nat):tr ok m (.exit i)=jvl i:=rfl
theorem qnm(a:CC):tr ok m (.scope a)=qmm (tr ok m a):=rfl
theorem qnn(l:Nat):tr ok m (.label l)=zll:=rfl
theorem jvu(l:Nat):tr ok m (.goto l)=jvm l:=rfl
theorem xyl:tr ok m .ret=ztz:=rfl
theorem z_r0{os:List COp}(h:okL os=true):zfj ok m os none=zcr (trL ok os):=by simp only[zfj,h]
theorem z_r1{os:List COp}{l:List (Nat×Nat)}(h:(okL os && zwq os l)=true):zfj ok m os (some l)=zcr (trL ok os):=by
 simp only[qZ]at h;simp only[zfj,h]
theorem z_r2{os:List COp}{l:List (Nat×Nat)}(h:(okL os && !(zwq os l) && qgw os l)=true):zfj ok true os (some l)=zcr (trLP ok os):=by
 simp only[qZ,qC]at h;simp only[zfj,h]
theorem z_r3{os:List COp}{l:List (Nat×Nat)}(h:(okL os && !(zwq os l) && !(qgw os l))=true):zfj ok true os (some l)=zws (trLF ok l os):=by
 simp only[qZ,qC]at h;simp only[zfj,h]
theorem z_r4{os:List COp}{l:List (Nat×Nat)}(h:(okL os && !(zwq os l))=true):zfj ok false os (some l)=zws (trLF ok l os):=by
 simp only[qZ,qC]at h;simp only[zfj,h]
theorem xym:trL ok []=zdl:=rfl
theorem jvv(d:Option Nat)(k:CK)(os:List COp):trL ok (⟨d,none,k⟩::os)=trK ok d k (trL ok os):=rfl
theorem xyn(d:Option Nat)(g:Nat)(w:Bool)(k:CK)(os:List COp):trL ok (⟨d,some (g,w),k⟩::os)=zbv (gS g) w (trD d) (trK ok d k) (trL ok os):=rfl
theorem jvw:trLP ok []=zdl:=rfl
theorem qno(d:Option Nat)(k:CK)(os:List COp):trLP ok (⟨d,none,k⟩::os)=trKP ok d k (trLP ok os):=rfl
theorem jvx(d:Option Nat)(g:Nat)(w:Bool)(k:CK)(os:List COp):trLP ok (⟨d,some (g,w),k⟩::os)=zbv (gS g) w (trD d) (trKP ok d k) (trLP ok os):=rfl
theorem xyo{k:CK}(h:k.isC=false):trKP ok d k=trK ok d k:=by simp only[trKP,h]
theorem xyp{f:Nat}{a:List Opd}(h:Nat.blt f 4096=true):trKP ok d (.call f a)=zmv (dg (f/256)) (dg (f/16%16)) (dg (f%16)) (trD d) (a.map trG):=by simp only[trKP,CK.isC,h]
theorem z_dy(l:List (Nat×Nat))(os:List COp):zws (trLF ok l os)=zcr (trLF ok l os []):=rfl
theorem jvy(l:List (Nat×Nat))(fps:List FP):trLF ok l [] fps=xbi (dynB l fps):=rfl
theorem qnp(l:List (Nat×Nat))(d:Option Nat)(k:CK)(os:List COp)(fps:List FP):trLF ok l (⟨d,none,k⟩::os) fps=apF ok d k (λfp=>trLF ok l os (fps++[fp])):=rfl
theorem jvz(l:List (Nat×Nat))(d:Option Nat)(g:Nat)(w:Bool)(k:CK)(os:List COp)(fps:List FP):trLF ok l (⟨d,some (g,w),k⟩::os) fps=xxw (gS g) w (trD d) (trKF ok d k) (λfp=>trLF ok l os (fps++[fp])):=rfl
theorem jwa{k:CK}(h:k.loud=false)(next:FP->OR):apF ok d k next=trK ok d k (next ([],[])):=by simp only[apF,trKF,h,zsb]
theorem jwb(x:Opd)(next:FP->OR):apF ok d (.load false 1 x) next=qni (trD d) (trG x) λi=>next (rdF i):=rfl
theorem qnq(s:Nat)(x:Opd)(next:FP->OR):apF ok d (.load true s x) next=xbh s (trD d) (trG x) λi=>next (rdF i):=rfl
theorem qnr(x y:Opd)(next:FP->OR):apF ok none (.store 1 x y) next=qdf (trG x) (trG y) λi=>next (wrF i):=rfl
theorem xyq(x:Opd)(next:FP->OR):apF ok d (.box x) next=qwl (trD d) (trG x) next:=rfl
theorem qdg(s:Nat)(x y:Opd)(next:FP->OR):apF ok none (.store (s+2) x y) next=zob (s+2) (trG x) (trG y) next:=rfl
theorem jwc{f:Nat}{a:List Opd}(h:Nat.blt f 4096=true)(next:FP->OR):apF ok d (.call f a) next=zsc f (trD d) (a.map trG) next:=by simp only[apF,trKF,CK.loud,h]
theorem qns(x:Opd)(a:List Opd)(next:FP->OR):apF ok d (.callc x a) next=zua ok (trD d) (trG x) (a.map trG) next:=rfl
theorem jwd{k:CK}(h:k.rareF=true)(next:FP->OR):apF ok d k next=zqc ok (λE=>k.sub λx=> .k (trG x E)) (trD d) next:=by
 cases k<;>first | rfl | (simp[CK.rareF]at h;done)
theorem z_F0{k:CK}(h:k.loud=false):trKF ok d k=zsb ok d k:=by simp only[trKF,h]
theorem z_F1(x:Opd):trKF ok d (.load false 1 x)=qmt (trD d) (trG x):=rfl
theorem z_F2(s:Nat)(x:Opd):trKF ok d (.load true s x)=zzv s (trD d) (trG x):=rfl
theorem z_F3(x:Opd):trKF ok d (.box x)=qwl (trD d) (trG x):=rfl
theorem z_F4(x y:Opd):trKF ok none (.store 1 x y)=zzx (trG x) (trG y):=rfl
theorem z_F5(s:Nat)(x y:Opd):trKF ok none (.store (s+2) x y)=zob (s+2) (trG x) (trG y):=rfl
theorem z_F6{f:Nat}{a:List Opd}(h:Nat.blt f 4096=true):trKF ok d (.call f a)=zsc f (trD d) (a.map trG):=by simp only[trKF,CK.loud,h]
theorem z_F7(x:Opd)(a:List Opd):trKF ok d (.callc x a)=zua ok (trD d) (trG x) (a.map trG):=rfl
theorem z_F8{k:CK}(h:k.rareF=true):trKF ok d k=zqc ok (λE=>k.sub λx=> .k (trG x E)) (trD d):=by
 cases k<;>first | rfl | (simp[CK.rareF]at h;done)
theorem xyr(x:Opd):trK ok d (.mov x)=zdh (trD d) (trG x):=rfl
theorem jwe(x a b:Opd):trK ok d (.pick x a b)=zhx (trD d) (trG x) (trG a) (trG b):=rfl
theorem xys(x:Opd):trK ok d (.box x)=zke (trD d) (trG x):=rfl
theorem jwf(x:Opd):trK ok d (.load false 1 x)=zdi (trD d) (trG x):=rfl
theorem qnt(s:Nat)(x:Opd):trK ok d (.load true s x)=zfh s (trD d) (trG x):=rfl
theorem qnu(x y:Opd):trK ok none (.store 1 x y)=zfi (trG x) (trG y):=rfl
theorem qdh(s:Nat)(x y:Opd):trK ok none (.store (s+2) x y)=zey (s+2) (trG x) (trG y):=rfl
theorem qnv(x:Opd)(a:List Opd):trK ok d (.callc x a)=zki ok (trD d) (trG x) (a.map trG):=rfl
theorem jwg(n s:Nat)(x i:Opd):trK ok d (.idxa n s x i)=zpw n s (trD d) (trG x) (trG i):=rfl
theorem jwh(n:Nat):trK ok d (.lenk n)=zrz n (trD d):=rfl
theorem jwi(f:Nat)(a:List Opd):trK ok d (.mkfn f a)=zpx f (trD d) (a.map trG):=rfl
theorem jwj{s b:Nat}{z:List AV}{x y:Opd}(h:(Nat.beq z.length s && Nat.blt 0 s)=true):trK ok d (.mksl s b z x y)=zpy s b z (trD d) (trG x) (trG y):=by
 simp only[qZ]at h;simp only[trK,h]
theorem qnw(x:Opd):trK ok d (.nilck x)=zpn (trD d) (trG x):=rfl
theorem xyt(op:BinOp)(x y:Opd):trK ok d (.bin op x y)=zjr op (trB op) (trD d) (trG x) (trG y):=rfl
theorem xyu(n:Bool)(x y:Opd):trK ok d (.beq n x y)=qly n (trD d) (trG x) (trG y):=rfl
theorem z_un(op:UnOp)(x:Opd):trK ok d (.un op x)=o_un op (trD d) (trG x):=rfl
theorem jwk(k:IntKind)(x:Opd):trK ok d (.conv k x)=zwm k (trD d) (trG x):=rfl
theorem xyv(o:Nat)(x:Opd):trK ok d (.fld o x)=zil o (trD d) (trG x):=rfl
theorem jwl(o:Nat)(x:Opd):trK ok d (.part false 1 o x)=zwn o (trD d) (trG x):=rfl
theorem qnx(s o:Nat)(x:Opd):trK ok d (.part true s o x)=zpo s o (trD d) (trG x):=rfl
theorem xyw(s:Nat)(x i:Opd):trK ok d (.idx s x i)=qgq s (trD d) (trG x) (trG i):=rfl
theorem xyx(x:Opd)(i:Nat):trK ok d (.ext x i)=zkf i (trD d) (trG x):=rfl
theorem xyy(x:Opd):trK ok d (.len false x)=zwo (trD d) (trG x):=rfl
theorem jwm{f:Nat}{a:List Opd}(h:Nat.blt f 4096=true):trK ok d (.call f a)=zfe (dg (f/256)) (dg (f/16%16)) (dg (f%16)) (trD d) (a.map trG):=by simp only[trK,h]
theorem jwn{k:CK}(h:k.rare=true):trK ok d k=zkg ok (λE=>k.sub λx=> .k (trG x E)) (trD d):=by
 cases k<;>first | rfl | (simp[CK.rare]at h;done) | skip
 case len b x=>cases b<;>first | rfl | (simp[CK.rare]at h;done)
theorem z_Dn:trD none=sx:=rfl
theorem z_Ds(n:Nat):trD (some n)=sN (n/16) (uN (n%16)):=rfl
theorem z_Gk(v:AV):trG (.k v)=gk v:=rfl
theorem z_Gt(n:Nat):trG (.t n)=gS n:=rfl
theorem z_gS{n:Nat}(h:Nat.blt n 256=true):gS n=gN (n/16) (hN (n%16)):=by simp only[gS,h]
theorem z_B:trB .add=qvj/\trB .sub=xad/\trB .mul=xae/\trB .quo=xaf/\trB .rem=xag/\trB .eql=zeo eqI/\trB .neq=zeo neI/\trB .lss=zeo ltI/\trB .leq=zeo leI/\trB .gtr=zeo gtI/\trB .geq=zeo geI/\trB .shr=xah/\trB .shl=xai:=by
 refine⟨rfl,rfl,rfl,rfl,rfl,rfl,rfl,rfl,rfl,rfl,rfl,rfl,rfl⟩
theorem z_B2:trB .and=zkd .and/\trB .or=zkd .or/\trB .xor=zkd .xor:=⟨rfl,rfl,rfl⟩
end
noncomputable def cO(P:Program)(Γ:Glob)(fn:Func):CC:=(fn.body.bind (zbt P Γ fn.ntmps)).getD .skip
def lpF(i:Nat):List (Nat×List (Nat×Nat))->List (Nat×Nat)
 | []=>[]
 |(j,l)::r=>match Nat.beq i j with
  |true=>l
  |false=>lpF i r
def zud(P:Program)(Γ:Glob)(nt:Nat)(L:List (Nat×List (Nat×Nat))):Code->Option CC
 |.skip=>some .skip
 |.region i ops draw=>match zyi P Γ nt ops with
  |some cs=>match draw with
   |true=>some (.reg cs (some (lpF i L)))
   |false=>some (.reg cs none)
  |none=>none
 |.seq a b=>match zud P Γ nt L a,zud P Γ nt L b with
  |some a,some b=>some (.seq a b)
  |_,_=>none
 |.cond x a b=>match cOpd Γ x,zud P Γ nt L a,zud P Γ nt L b with
  |some x,some a,some b=>some (.cond x a b)
  |_,_,_=>none
 |.block id c=>match zud P Γ nt L c with
  |some c=>some (.block id c)
  |none=>none
 |.loop c=>match zud P Γ nt L c with
  |some c=>some (.loop c)
  |none=>none
 |.exit id=>some (.exit id)
 |.scope c=>match zud P Γ nt L c with
  |some c=>some (.scope c)
  |none=>none
 |.label l=>some (.label l)
 |.goto l=>some (.goto l)
 |.ret=>some .ret
 |_=>none
abbrev TP(P:Program)(Γ:Glob)(ok:FuncId->Bool)(m:Bool)(fn:Func):={t:RunT // tr ok m (cO P Γ fn)=t}
theorem eoV{P:Program}{Γ:Glob}{ok:FuncId->Bool}{m:Bool}{f:FuncId}{fn:Func}{t:RunT}{nt:Nat}{rs:List RG}{keep:Bool}(ht:tr ok m (cO P Γ fn)=t)(hf:P.funcs[f]?=some fn)(h1:(fn.body.bind (zbt P Γ fn.ntmps)).isSome=true:=by kernel_rfl)(h2:fn.ntmps=nt:=by kernel_rfl)
  (h4:(fn.results.toList.mapM (cRes P)).isSome=true:=by kernel_rfl) (h5:rs=((fn.results.toList.mapM (cRes P)).getD []).map trR:=by kernel_rfl):EOT P Γ ok f (.code t nt rs keep):=eot m hf h1 h2 ht.symm h4 h5
section
variable{P:Program}{Γ:Glob}{n0 nt:Nat}{E:Env}{H:Heap}
def zzl(ρ:Nat->RS):Nat->RS:=λi=>match ρ i with
 |.unborn=> .unborn
 |_=> .dead
theorem zgt{ρ:Nat->RS}{i b:Nat}:zzl ρ i≠ .here b:=by
 unfold zzl;split<;>simp
theorem qlb{f:FuncId}{args args':List AV}{H0:Heap}{v:AV}{d:Nat}(h:Ret P Γ f args' [] v [])(hfr:args.mapM (frzI 0 H0 d)=some args'):Ret P Γ f args H0 v (H0.map λ_=>none):=by
 obtain⟨_,h⟩:=h;refine⟨by simp,λw F ρ vs ho hsz hrep=>?_⟩;have ho0:=ho.cut (n0:=0) (λi cs hi=>absurd hi (by omega));rw[List.take_zero]at ho0;obtain⟨m1,m2⟩:=zhe hfr;refine(h w F (cutR 0 ρ) vs ho0 (by omega) (λj a u ha hu=>?_)).mono (λe w' ⟨u,ρ2,he,hA,hr⟩=>?_)
 ·have hj:j<args.length:=by
   rcases qV j args'.length with h' | h'
   ·omega
   ·rw[qJ h']at ha;simp at ha
  obtain⟨y,hy,hy'⟩:=m2 j args[j] (by simp[hj]);rw[ha]at hy;simp at hy;subst hy;exact .imm _ _ (zto ho d _ _ u (hrep j args[j] u (by simp[hj]) hu) hy')
 ·have hub:∀i,ρ2 i= .unborn:=λi=>hA.hok.unborn i (by simp)
  have hmu:∀b,Mu F (zzl ρ) b->Mu F ρ2 b:=by
   rintro b (hb | ⟨i,hi⟩)
   ·exact .inl hb
   ·exact absurd hi zgt
  refine⟨u,zzl ρ,he,⟨⟨?_,?_,hA.hok.fLt,?_,?_,?_,?_⟩,?_,?_,?_,?_⟩,?_⟩
  ·intro i j b hi;exact absurd hi zgt
  ·intro i b hi;exact absurd hi zgt
  ·intro i hi;unfold zzl;rw[ho.unborn i (by simpa using hi)]
  ·intro i cs hi;rw[qA]at hi;cases hx:H0[i]?<;>rw[hx]at hi<;>simp at hi
  ·intro i b hi;exact absurd hi zgt
  ·intro g cs hg;exact(hA.hok.glob g cs hg).weaken (λb _ hb=>hmu b hb)
  ·refine hA.kept.mono (λb _ hb=>?_);obtain⟨i,hi⟩:=hb;simp[cutR]at hi
  ·intro i hi;refine .inr ⟨by omega,?_⟩;unfold zzl;split
   ·rename_i h';exact absurd h' hi
   ·rfl
  ·intro i b hi;exact absurd hi zgt
  ·intro i hi _;unfold zzl;rw[hi]
  ·exact .imm _ _ ((hr.unbornI hub).weaken (λb _ hb=>hmu b hb))
theorem zpg{f:FuncId}{args args0 args':List AV}{id d:Nat}{cs:List AV}{v:AV}{K:AV->Eff->List Nat->Nat->Prop}(h:Ret P Γ f args' [] v [])(hid:H[id]?=some (some cs))
  (hfr:args0.mapM (frzI 0 [some cs] d)=some args') (hargs:args=args0.map (AV.ren (zag [id] H.length))) (hk:K v [(id,none)] [id] 0)
  (hu:AV.under.underL 1 args0=true:=by rfl) (hcs:AV.closed.closedL cs=true:=by rfl) (hv:v.closed=true:=by rfl):ztp P Γ f args H K:=by
 have hlt:id<H.length:=by
  rcases qV id H.length with h' | h'
  ·exact h'
  ·rw[qJ h']at hid;simp at hid
 have hn:zag [id] H.length 0=id:=by simp[zag]
 have hm:renB (zag [id] H.length) (some cs)=some cs:=by
  simp only[renB];rw[zaq _ _ hcs]
 have:=CallR0.mk (P:=P) (Γ:=Γ) (f:=f) (args:=args) (k:=H.length) (H:=H++List.replicate 0 none) [id] args0 [some cs] v [none] (qlb h hfr) rfl (by simp) (by simpa using hlt)
  hargs hu (by
   intro i c hi;cases i with
   |zero=>
    simp at hi;subst hi;refine⟨cs,rfl,zbs _ _ hcs,?_⟩;rw[hn,hm];simpa using hid
   |succ i=>simp at hi)
 refine⟨v,[(id,none)],[id],0,?_,hk⟩;rw[zfq _ v hv]at this;refine .base ?_;simpa[effs,hn,renB]using this
def frzE(m d:Nat)(H:Heap)(E:Env):Env:=λt=>if(E t).under m=true then E t else(frzI m H d (E t)).getD .junk
theorem qcj(m d:Nat)(hm:n0<=m)(hml:m<=H.length)(hH:∀(i:Nat) (cs:List AV),i<m->H[i]?=some (some cs)->AV.under.underL m cs=true):Weak Γ n0 E H (frzE m d H E) (H.take m):=by
 intro C ρ a w hn hs
 have hcut2:∀i b,cutR m ρ i= .here b->ρ i= .here b:=by
  intro i b h;unfold cutR at h;split at h
  ·exact h
  ·simp at h
 have hmu:∀b,Mu C.F (cutR m ρ) b->Mu C.F ρ b:=by
  rintro b (h | ⟨i,h⟩)
  ·exact .inl h
  ·exact .inr ⟨i,hcut2 i b h⟩
 refine⟨cutR m ρ,⟨hs.hok.cut hH,λt=>?_,?_,hs.size,hs.kept,λi hi=>?_,λi b hi=>hs.old i b (hcut2 i b hi),?_⟩⟩
 ·unfold frzE;split
  ·rename_i hu;exact(zza (hs.env t) hu).kept (Kept.refl (λ_=>False) w) (λ_ x=>x.elim) (λb _ hb=>hmu b hb) (λi b hi=>hs.hok.lt i b (hcut2 i b hi)) (λ_ _=> .inl rfl)
  ·cases hf:frzI m H d (E t)with
   |none=>exact .imm _ _ (.junk _)
   |some a'=>exact .imm _ _ (zto hs.hok d _ _ _ (hs.env t) hf)
 ·obtain⟨ms,h1,h2,h3⟩:=hs.defers;refine⟨ms,h1,h2,λD hD=>⟨(h3 D hD).1,(h3 D hD).2.1,λi hi=>(h3 D hD).2.2 i (hcut2 i D hi)⟩⟩
 ·have:cutR m ρ i=ρ i:=by simp[cutR,show i<m by omega]
  rw[this];exact hs.ext i hi
 ·rw[xB];omega
theorem zwf{H':Heap}(hl:H'.length=H.length)(hH:∀i,H'[i]?=H[i]?\/(n0<=i/\H'[i]?=some none)):Weak Γ n0 E H E H':=by
 intro C ρ a w hn hs
 let ρ':Nat->RS:=λi=>match H'[i]?,ρ i with
  |some none,.here _=> .dead
  |_,r=>r
 have h1:∀i b,ρ' i= .here b->ρ i= .here b/\∃cs,H'[i]?=some (some cs):=by
  intro i b h;simp only[ρ']at h;split at h
  ·simp at h
  ·rename_i hne;refine⟨h,?_⟩;obtain⟨cs,hcs,_⟩:=hs.hok.blk i b h;rcases hH i with e | ⟨_,e⟩
   ·exact⟨cs,e.trans hcs⟩
   ·exact(hne b e h).elim
 have h2:∀i,ρ i≠ .unborn->ρ' i=ρ i\/ρ' i= .dead:=by
  intro i _;simp only[ρ'];split
  ·exact .inr rfl
  ·exact .inl rfl
 have hmu:∀b,Mu C.F ρ' b->Mu C.F ρ b:=by
  rintro b (h | ⟨i,h⟩)
  ·exact .inl h
  ·exact .inr ⟨i,(h1 i b h).1⟩
 have hk:∀a v,Rep w (Mu C.F ρ) ρ a v->Rep w (Mu C.F ρ') ρ' a v:=λa v h=>h.kept (Kept.refl (λ_=>False) w) (λ_ x=>x.elim) (λb _ hb=>hmu b hb) (λi b hi=>hs.hok.lt i b hi) h2
 refine⟨ρ',⟨⟨λi j b hi hj=>hs.hok.inj i j b (h1 i b hi).1 (h1 j b hj).1,λi b hi=>hs.hok.notF i b (h1 i b hi).1,hs.hok.fLt,λi hi=>?_,λi cs hi=>?_,λi b hi=>?_,λg cs hg=>(hs.hok.glob g cs hg).weaken (λb _ hb=>hmu b hb)⟩,
  λt=>hk _ _ (hs.env t),?_,hs.size,hs.kept,λi hi=>?_,λi b hi=>hs.old i b (h1 i b hi).1,by rw[hl];exact hs.len⟩⟩
 ·have:=hs.hok.unborn i (by omega);simp only[ρ',this];split
  ·rename_i h;simp at h
  ·rfl
 ·have hi':H[i]?=some (some cs):=by
   rcases hH i with e | ⟨_,e⟩
   ·rw[<-e];exact hi
   ·rw[e]at hi;simp at hi
  obtain⟨b,hb⟩:=hs.hok.alive i cs hi';refine⟨b,?_⟩;simp only[ρ',hi,hb]
 ·obtain⟨h3,cs,h4⟩:=h1 i b hi;obtain⟨cs',h5,h6⟩:=hs.hok.blk i b h3
  have:cs'=cs:=by
   rcases hH i with e | ⟨_,e⟩
   ·rw[e,h5]at h4;simpa using h4
   ·rw[e]at h4;simp at h4
  subst this;exact⟨cs',h4,h6.mono rfl (λa v _ hr=>hk a v hr)⟩
 ·obtain⟨ms,m1,m2,m3⟩:=hs.defers;exact⟨ms,m1,m2,λD hD=>⟨(m3 D hD).1,(m3 D hD).2.1,λi hi=>(m3 D hD).2.2 i (h1 i D hi).1⟩⟩
 ·have:ρ' i=ρ i:=by
   simp only[ρ'];split
   ·rename_i b hx hb;rcases hH i with e | ⟨e,_⟩
    ·obtain⟨cs,hcs,_⟩:=hs.hok.blk i b hb;rw[e,hcs]at hx;simp at hx
    ·omega
   ·rfl
  rw[this];exact hs.ext i hi
theorem zny{m d:Nat}:∀{cs:List AV},(∀a∈cs,frzI m H (d+1) a=some a)->cs.mapM (frzI m H (d+1))=some cs:=by
 intro cs
 induction cs with
 |nil=>intro _;rfl
 |cons a r ih=>
  intro h;rw[qG,h a (by simp),ih (λx hx=>h x (by simp[hx]))];rfl
end
def AV.wk:AV->AV
 |.vec cs n _=> .vec (wkL cs) n none
 |.agg cs=> .agg (wkL cs)
 |.tup cs=> .tup (wkL cs)
 |a=>a
 where wkL:List AV->List AV
 | []=>[]
 |a::r=>a.wk::wkL r
theorem zmz(l:List AV):AV.wk.wkL l=l.map AV.wk:=by
 induction l with
 |nil=>rfl
 |cons a r ih=>rw[AV.wk.wkL,ih,xQ]
theorem IRep.wk{w:World}{M:Nat->Prop}{a:AV}{v:Value}(h:IRep w M a v):IRep w M a.wk v:=by
 induction h with
 |bool b=>exact .bool b
 |int k n=>exact .int k n
 |str s=>exact .str s
 |anyb b=>exact .anyb b
 |junk v=>exact .junk v
 |nil p c hc=>exact .nil p none (by intro k h;simp at h)
 |vec cs n c b off cap vs hM hcell hrep hn hc ih=>
  rw[AV.wk,zmz];refine .vec _ n none b off cap vs (λhne=>hM (λe=>hne (by rw[e];rfl))) (λj hj=>hcell j (by simpa using hj)) (λj a ha=>?_) hn (by intro k h;simp at h);rw[qA,qY]at ha;obtain⟨a0,h1,rfl⟩:=ha;exact ih j a0 h1
 |iptr cs p b off vs hM hcell hrep ih=>exact .iptr cs p b off vs hM hcell hrep
 |agg cs vs hl hrep ih=>
  rw[AV.wk,zmz];refine .agg _ vs (by simpa using hl) (λj a v ha hv=>?_);rw[qA,qY]at ha;obtain⟨a0,h1,rfl⟩:=ha;exact ih j a0 v h1 hv
 |tup cs vs hl hrep ih=>
  rw[AV.wk,zmz];refine .tup _ vs (by simpa using hl) (λj a v ha hv=>?_);rw[qA,qY]at ha;obtain⟨a0,h1,rfl⟩:=ha;exact ih j a0 v h1 hv
 |clo f cs vs hf hl hrep ih=>exact .clo f cs vs hf hl hrep
 |bnd f cs vs hf hl hrep ih=>exact .bnd f cs vs hf hl hrep
 |nilp=>exact .nilp
 |nilf=>exact .nilf
theorem Rep.wk{w:World}{M:Nat->Prop}{ρ:Nat->RS}{a:AV}{v:Value}(h:Rep w M ρ a v):Rep w M ρ a.wk v:=by
 induction h with
 |imm a v h=>exact .imm _ _ h.wk
 |agg cs vs hl hrep ih=>
  rw[AV.wk,zmz];refine .agg _ vs (by simpa using hl) (λj a v ha hv=>?_);rw[qA,qY]at ha;obtain⟨a0,h1,rfl⟩:=ha;exact ih j a0 v h1 hv
 |tup cs vs hl hrep ih=>
  rw[AV.wk,zmz];refine .tup _ vs (by simpa using hl) (λj a v ha hv=>?_);rw[qA,qY]at ha;obtain⟨a0,h1,rfl⟩:=ha;exact ih j a0 v h1 hv
 |slDead id off n sz c b cap h hn hc=>exact .slDead id off n sz c b cap h hn hc
 |slAt id off n sz c b cap el m h hs hn hc hm=>exact .slAt id off n sz c b cap el m h hs hn hc hm
 |ptrDead id off b h=>exact .ptrDead id off b h
 |ptrAt id off b h hs=>exact .ptrAt id off b h hs
 |clo f cs vs hf hl hrep ih=>exact .clo f cs vs hf hl hrep
 |bnd f cs vs hf hl hrep ih=>exact .bnd f cs vs hf hl hrep
 |mapDead id b h=>exact .mapDead id b h
 |mapAt id b h hs=>exact .mapAt id b h hs
 |ydDead id b h=>exact .ydDead id b h
 |ydAt id b h hs=>exact .ydAt id b h hs
 |ydF id v h ih=>exact .ydF id v h
section
variable{P:Program}{Γ:Glob}
theorem zwz{f:FuncId}{fn:Func}{code:Code}{c:CC}{args:List AV}{H:Heap}{v:AV}{Hout:Heap}(hf:P.funcs[f]?=some fn)(hb:fn.body=some code)
  (hc:zbt P Γ fn.ntmps code=some c) (hn:args.length<=fn.ntmps) (hlen:H.length<=Hout.length) (hne:f≠4095)
  (h:W P Γ H.length fn.ntmps c (zig args) H (λx E' H'=>(x= .ret\/x= .normal)/\∃v' v'',resA P fn.results.toList E' H'=some v'/\Fin H.length v' H' v'' Hout/\v''.wk=v)):Ret P Γ f args H v Hout:=by
 refine⟨hlen,?_⟩;intro w F ρ vs ho hsz hrep;refine .inl ⟨hne,(callsIn_wide (n:=0)).1 (callsIn_of_wp_marks hf hb trivial ?_)⟩;let C:Ctx:={ F:=F,w0:=w,ρ0:=ρ,n0:=H.length,nt:=fn.ntmps }
 have hs:Sim Γ C ρ (zig args) H { tmps:=vs++Array.replicate (fn.ntmps-vs.size) undef,defers:=[] } w:=by
  refine⟨ho,λt=>?_,⟨[],rfl,List.nodup_nil,by simp⟩,by show(vs++Array.replicate (fn.ntmps-vs.size) undef).size=fn.ntmps;simp;omega,Kept.refl _ w,λ_ _=> .inl rfl,λi b hi=> .inl ⟨i,hi⟩,qT _⟩;simp only[zig];rcases qV t args.length with hl | hl
  ·have h1:args[t]?=some args[t]:=by simp[hl]
   have h2:t<vs.size:=by omega
   have:=hrep t args[t] vs[t] h1 (by simp[h2]);simp only[qW,h1,Option.getD_some];rw[Array.getD_eq_getD_getElem?,Array.getElem?_append_left h2];simpa[h2]using this
  ·simp only[qW,qJ hl,xX];exact .imm _ _ (.junk _)
 refine wpIn_mono (h code hc C ρ _ w rfl rfl (.inl rfl) hs) ?_;rintro x a' w' ⟨E',H',ρ1,⟨hx,v',v'',hres,hfin,hwk⟩,hs'⟩
 have key:∀(ms:List Nat) (a':Act) (w':World),Sim Γ C ρ1 E' H' a' w'->a'.defers=ms.map zgf->
   LeavesInM Fence.wide 0 P fn a'.tmps (λe w'=>∃u ρ',e= .returned u/\After Γ F H.length ρ w ρ' w' Hout (zfx H.length (Hout.length-H.length))/\Rep w' (Mu F ρ') ρ' v u) a'.defers .returning w':=by
  intro ms
  induction ms with
  |cons D ms ih=>
   intro a' w' hs' hd;obtain⟨h1,h2⟩:=hs'.take hd;have:=ih _ _ h2 rfl;rw[hd];exact⟨by simp,.inl ⟨D,_,rfl,run_takeDeferred h1,this⟩⟩
  |nil=>
   intro a' w' hs' hd;rw[hd]
   show LeavesIn _ _ _ _ _ _ [] _ _
   have post:∃u,(results fn a'.tmps).run P w'= .ok u w'/\Rep w' (Mu F ρ1) ρ1 v' u:=by
    unfold resA at hres;cases hm:fn.results.toList.mapM (zgs P E' H')with
    |none=>simp[hm]at hres
    |some l=>
     obtain⟨us,h1,h2⟩:=zpa (P:=P) hs' _ l hm
     have h1':(fn.results.mapM (resF a'.tmps)).run P w'= .ok us.toArray w':=by
      rw[Array.mapM_eq_mapM_toList,Sem.run_map,h1];rfl
     rw[hm]at hres;simp only[zrv,Sem.run_bind,h1',Result.andThen_ok,Sem.run_pure];by_cases h1l:us.length=1
     ·obtain⟨u,rfl⟩:=List.length_eq_one_iff.1 h1l;obtain⟨y,rfl⟩:=List.length_eq_one_iff.1 (by rw[<-h2.1];rfl:l.length=1);simp at hres;subst hres;exact⟨u,by simp,h2.2 0 y u rfl rfl⟩
     ·refine⟨.tuple us.toArray,by simp[h1l],?_⟩
      have:v'= .tup l:=by
       match l,hres,h2.1 with
       | [],hres,_=>simpa using hres.symm
       | [y],_,hh=>simp at hh;exact absurd hh h1l
       |y::z::r,hres,_=>simpa using hres.symm
      subst this;exact .tup l us.toArray (by simpa using h2.1) (λj a v ha hv=>h2.2 j a v ha (by simpa using hv))
   obtain⟨u,hu1,hu2⟩:=post;obtain⟨ρ',g1,g2⟩:=hs'.fin (H:=H) ho rfl hu2 hfin;exact⟨u,hu1,u,ρ',rfl,g1,hwk ▸ g2.wk⟩
 obtain⟨ms,hms,_⟩:=hs'.defers;rcases hx with rfl | rfl
 ·exact key ms a' w' hs' hms
 ·exact key ms a' w' hs' hms
theorem xbl{f:FuncId}{fn:Func}{c:CC}{args:List AV}{H:Heap}{v:AV}{Hout:Heap}(hm:P.follows .mixedOrders=true)(hf:P.funcs[f]?=some fn)(hc:fn.body.bind (zbt P Γ fn.ntmps)=some c)(rs:List ResultVar)(nt:Nat)
  (hrs:fn.results.toList=rs) (hnt:fn.ntmps=nt) (hn:args.length<=nt) (hlen:H.length<=Hout.length)
  (h:wpC P Γ H.length nt c (zig args) H (λx E' H'=>(x= .ret\/x= .normal)/\∃v' v'',resA P rs E' H'=some v'/\Fin H.length v' H' v'' Hout/\v''.wk=v)) (hne:f≠4095:=by decide):Ret P Γ f args H v Hout:=by
 subst hrs hnt;cases hb:fn.body with
 |none=>rw[hb]at hc;simp at hc
 |some code=>
  rw[hb]at hc;exact zwz hf hb hc hn hlen hne (zpe hm h)
