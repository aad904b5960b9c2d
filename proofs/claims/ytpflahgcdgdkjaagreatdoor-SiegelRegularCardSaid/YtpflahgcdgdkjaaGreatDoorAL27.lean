/- A part of the proof. -/
import Derived.Test.YtpflahgcdgdkjaaGreatDoorAL26
set_option linter.all false
namespace Go.AL
open Option.some renaming injEq -> qQ
open Bool renaming and_eq_true -> qX
open List renaming getElem?_eq_none -> qZ, mem_of_getElem? -> qJ, all_eq_true -> qK
open Go
def AV.ids:AV->List Nat
 |.sl id _ _ _ _=>[id]
 |.ptr id _=>[id]
 |.agg cs=>idsL cs
 |.tup cs=>idsL cs
 |.clo _ cs=>idsL cs
 |_=>[]
 where idsL:List AV->List Nat
 | []=>[]
 |a::r=>a.ids++idsL r
def hasN:List Nat->Nat->Bool
 | [],_=>false
 |x::r,i=>match Nat.beq x i with
  |true=>true
  |false=>hasN r i
theorem ztc:∀(l:List Nat) (i:Nat),hasN l i=true->i∈l:=by
 intro l i
 induction l with
 |nil=>intro h;simp[hasN]at h
 |cons x r ih=>
  intro h;simp only[hasN]at h;split at h
  ·rename_i e;have:=Nat.eq_of_beq_eq_true e;subst this;simp
  ·exact List.mem_cons_of_mem _ (ih h)
def AV.inn(l:List Nat):AV->Bool
 |.sl id _ _ _ _=>hasN l id
 |.ptr id _=>hasN l id
 |.agg cs=>innL l cs
 |.tup cs=>innL l cs
 |.clo _ cs=>innL l cs
 |_=>true
 where innL (l:List Nat):List AV->Bool
 | []=>true
 |a::r=>a.inn l && innL l r
def pos:List Nat->Nat->Nat
 | [],_=>0
 |x::r,i=>if x=i then 0 else pos r i+1
theorem ztd:∀(l:List Nat) (i:Nat),i∈l->∃h:pos l i<l.length,l[pos l i]=i:=by
 intro l i
 induction l with
 |nil=>intro h;simp at h
 |cons x r ih=>
  intro h;by_cases e:x=i
  ·refine⟨by simp[pos,e],?_⟩;simp[pos,e]
  ·have hr:i∈r:=by
    rcases List.mem_cons.1 h with h | h
    ·exact absurd h.symm e
    ·exact h
   obtain⟨h1,h2⟩:=ih hr;refine⟨by simp[pos,e];omega,?_⟩;simp[pos,e,h2]
theorem zvw{l:List Nat}{k i:Nat}(h:i∈l):zan l k (pos l i)=i:=by
 obtain⟨h1,h2⟩:=ztd l i h;simp[zan,h1,h2]
theorem qqw(l:List Nat)(k:Nat)(a:AV):a.inn l=true->(a.ren (pos l)).ren (zan l k)=a/\(a.ren (pos l)).under l.length=true:=by
 induction a using AV.rec (motive_2:=λcs=>AV.inn.innL l cs=true->AV.ren.renL (zan l k) (AV.ren.renL (pos l) cs)=cs/\AV.under.underL l.length (AV.ren.renL (pos l) cs)=true)with
 |sl id off n sz c=>
  intro h;simp only[AV.inn]at h;have hm:=ztc _ _ h;obtain⟨h1,h2⟩:=ztd l id hm;simp[AV.ren,AV.under,zvw hm,h1]
 |ptr id off=>
  intro h;simp only[AV.inn]at h;have hm:=ztc _ _ h;obtain⟨h1,h2⟩:=ztd l id hm;simp[AV.ren,AV.under,zvw hm,h1]
 |agg cs ih=>intro h;simp only[AV.inn]at h;obtain⟨h1,h2⟩:=ih h;simp[AV.ren,AV.under,h1,h2]
 |tup cs ih=>intro h;simp only[AV.inn]at h;obtain⟨h1,h2⟩:=ih h;simp[AV.ren,AV.under,h1,h2]
 |clo f cs ih=>intro h;simp only[AV.inn]at h;obtain⟨h1,h2⟩:=ih h;simp[AV.ren,AV.under,h1,h2]
 |nil=>exact⟨rfl,rfl⟩
 |cons x r hx hr=>
  rename_i h;simp only[AV.inn.innL,qX]at h;obtain⟨h1,h2⟩:=hx h.1;obtain⟨h3,h4⟩:=hr h.2;simp[AV.ren.renL,AV.under.underL,h1,h2,h3,h4]
 |_=>intro _;exact⟨rfl,rfl⟩
theorem zvx(l:List Nat)(k:Nat):∀(cs:List AV),AV.inn.innL l cs=true->(cs.map (AV.ren (pos l))).map (AV.ren (zan l k))=cs/\AV.under.underL l.length (cs.map (AV.ren (pos l)))=true:=by
 intro cs
 induction cs with
 |nil=>intro _;exact⟨rfl,rfl⟩
 |cons x r ih=>
  intro h;simp only[AV.inn.innL,qX]at h;obtain⟨h1,h2⟩:=qqw l k x h.1;obtain⟨h3,h4⟩:=ih h.2;simp only[List.map_cons,AV.under.underL,h1,h2,h3,h4];simp
def qjq:Nat->Heap->List Nat->List Nat->List Nat
 |0,_,done,_=>done
 |_+1,_,done,[]=>done
 |n+1,H,done,i::todo=>match hasN done i with
  |true=>qjq n H done todo
  |false=>match getB H i with
   |some cs=>qjq n H (done++[i]) (AV.ids.idsL cs++todo)
   |none=>qjq n H done todo
def qbp:List Nat->Bool
 | []=>true
 |x::r=>!hasN r x && qbp r
theorem zze:∀(l:List Nat) (i:Nat),i∈l->hasN l i=true:=by
 intro l i
 induction l with
 |nil=>intro h;simp at h
 |cons x r ih=>
  intro h;simp only[hasN];split
  ·rfl
  ·rename_i e;rcases List.mem_cons.1 h with h | h
   ·subst h;simp at e
   ·exact ih h
theorem zzf:∀l:List Nat,qbp l=true->l.Nodup:=by
 intro l
 induction l with
 |nil=>intro _;exact .nil
 |cons x r ih=>
  intro h;simp only[qbp,qX,Bool.not_eq_true']at h;refine List.nodup_cons.2 ⟨λhm=>?_,ih h.2⟩;rw[zze _ _ hm]at h;simp at h
abbrev FRun:=FuncId->List AV->Heap->Option (AV×Heap)
def subH(ids:List Nat)(H:Heap):Heap:=ids.map λi=>renB (pos ids) (getB H i)
def jcl(ids:List Nat)(H:Heap):Bool:=
 qbp ids && ids.all λi=>match getB H i with
  |some cs=>AV.inn.innL ids cs
  |none=>false
def qxq(f0:FRun):zhu:=λf args H=>
 match AV.closed.closedL args with
 |true=>match f0 f args []with
  |some (v,[])=>if v.closed=true then some (v,[],[],0)else none
  |some (v,c::r)=>some (v.ren (zan [] H.length),effs (zan [] H.length) 0 (c::r),[],r.length+1)
  |none=>none
 |false=>
  let ids:=qjq 200 H [] (AV.ids.idsL args)
  if AV.inn.innL ids args=true/\jcl ids H=true then
   match f0 f (args.map (AV.ren (pos ids))) (subH ids H)with
   |some (v,H')=>some (v.ren (zan ids H.length),effs (zan ids H.length) 0 H',ids,H'.length-ids.length)
   |none=>none
  else none
theorem zte{H:Heap}{i:Nat}{cs:List AV}(h:getB H i=some cs):i<H.length/\H[i]?=some (some cs):=by
 unfold getB at h;split at h
 ·rename_i c e;simp at h;subst h;refine⟨?_,e⟩;rcases Nat.lt_or_ge i H.length with h' | h'
  ·exact h'
  ·rw[qZ h']at e;simp at e
 ·simp at h
theorem zzg{P:Program}{Γ:Glob}{f0:FRun}(h0:∀f args H v H',f0 f args H=some (v,H')->Ret P Γ f args H v H'):zvv P Γ (qxq f0):=by
 intro f args H v e rd c h;unfold qxq at h;split at h
 ·rename_i ha;split at h
  ·rename_i v' hr;split at h
   ·rename_i hcl;simp only[qQ,Prod.mk.injEq]at h;obtain⟨rfl,rfl,rfl,rfl⟩:=h;exact CallR.pure (h0 _ _ _ _ _ hr) ha hcl
   ·simp at h
  ·rename_i v' b r hr;simp only[qQ,Prod.mk.injEq]at h;obtain⟨rfl,rfl,rfl,rfl⟩:=h;refine .base ?_;exact CallR0.mk (P:=P) (Γ:=Γ) (f:=f) (args:=args) (k:=H.length) [] args [] v' (b::r) (h0 _ _ _ _ _ hr) rfl .nil (by simp) (zaw _ _ ha).symm (zbg _ _ ha) (by intro i c h;simp at h)
  ·simp at h
 ·rename_i ha;simp only at h;generalize hids:qjq 200 H [] (AV.ids.idsL args)=ids at h;split at h
  ·rename_i hok;obtain⟨h1,h2⟩:=hok;simp only[jcl,qX,qK]at h2;obtain⟨h2,h3⟩:=h2;split at h
   ·rename_i v' H' hr;simp only[qQ,Prod.mk.injEq]at h;obtain⟨rfl,rfl,rfl,rfl⟩:=h
    have hblk:∀i∈ids,∃cs,getB H i=some cs/\AV.inn.innL ids cs=true:=by
     intro i hi;have:=h3 i hi;split at this
     ·rename_i cs e;exact⟨cs,e,this⟩
     ·simp at this
    obtain⟨g1,g2⟩:=zvx ids H.length args h1;have hl:(subH ids H).length=ids.length:=by simp[subH]
    have:=CallR0.mk (P:=P) (Γ:=Γ) (f:=f) (args:=args) (k:=H.length) (H:=H++List.replicate (H'.length-ids.length) none) ids (args.map (AV.ren (pos ids))) (subH ids H) v' H' (h0 _ _ _ _ _ hr) hl.symm (zzf _ h2)
     (λi hi=>by obtain⟨cs,e,_⟩:=hblk i hi;exact(zte e).1) g1.symm g2 (by
      intro i c hi;simp only[subH,List.getElem?_map,Option.map_eq_some_iff]at hi;obtain⟨j,hj,rfl⟩:=hi
      have hil:i<ids.length:=by
       rcases Nat.lt_or_ge i ids.length with h' | h'
       ·exact h'
       ·rw[qZ h']at hj;simp at hj
      have hjm:j∈ids:=qJ hj;obtain⟨cs,e,hin⟩:=hblk j hjm;obtain⟨b1,b2⟩:=zvx ids H.length cs hin;refine⟨cs.map (AV.ren (pos ids)),by rw[e];rfl,b2,?_⟩
      have hn:zan ids H.length i=j:=by
       rw[List.getElem?_eq_getElem hil]at hj;simp at hj;simp[zan,hil,hj]
      rw[hn,List.getElem?_append_left (zte e).1,(zte e).2,e];simp only[renB,b1])
    rw[hl]at this;exact .base this
   ·simp at h
  ·simp at h
def jcm:Exit->Bool
 |.ret=>true
 |.normal=>true
 |_=>false
def qxr(n0:Nat)(H:Heap):Bool:=match n0 with
 |0=>true
 |n+1=>Nat.ble (n+1) H.length && (H.take (n+1)).all λc=>match c with
  |some cs=>AV.under.underL (n+1) cs
  |none=>true
theorem qfg{n0:Nat}{H:Heap}(h:qxr n0 H=true):n0<=H.length/\∀(i:Nat) (cs:List AV),i<n0->H[i]?=some (some cs)->AV.under.underL n0 cs=true:=by
 cases n0 with
 |zero=>exact⟨by omega,λi cs hi=>by omega⟩
 |succ n=>
  simp only[qxr,qX,qK]at h;refine⟨Nat.le_of_ble_eq_true h.1,λi cs hi e=>?_⟩
  have hm:some cs∈H.take (n+1):=by
   apply qJ (i:=i);rw[List.getElem?_take,if_pos hi];exact e
  exact h.2 _ hm
def finX(n0:Nat)(keep:Bool)(v:Option AV)(H:Heap):Option (AV×Heap):=
 match v with
 |none=>none
 |some v=>match keep with
  |true=>if n0<=H.length then some (v,H)else none
  |false=>match qxr n0 H with
   |true=>match frzI n0 H 8 v with
    |some v'=>some (v',H.take n0)
    |none=>if v.under n0=true then some (v,H.take n0)else none
   |false=>none
theorem qfh{n0:Nat}{keep:Bool}{v:AV}{H:Heap}{v':AV}{H':Heap}(h:finX n0 keep (some v) H=some (v',H')):Fin n0 v H v' H'/\n0<=H'.length:=by
 simp only[finX]at h;split at h
 ·split at h
  ·rename_i hl;simp only[qQ,Prod.mk.injEq]at h;obtain⟨rfl,rfl⟩:=h;exact⟨.keep _ _,hl⟩
  ·simp at h
 ·split at h
  ·rename_i ho;obtain⟨hl,hH⟩:=qfg ho;split at h
   ·rename_i x hx;simp only[qQ,Prod.mk.injEq]at h;obtain⟨rfl,rfl⟩:=h;exact⟨.freeze 8 _ _ _ hx hH,by simp;omega⟩
   ·split at h
    ·rename_i hu;simp only[qQ,Prod.mk.injEq]at h;obtain⟨rfl,rfl⟩:=h;exact⟨.drop _ _ hu hH,by simp;omega⟩
    ·simp at h
  ·simp at h
