/- A part of the proof. -/
import Derived.Test.YtpflahgcdgdkjaaGreatDoorAL59
set_option linter.all false
namespace Go.AL
open Option renaming map_eq_some_iff -> qQ
open List renaming getElem?_map -> qX, getD_eq_getElem?_getD -> qZ
open Go
def AV.wk:AV->AV
 |.vec cs n _=> .vec (wkL cs) n none
 |.agg cs=> .agg (wkL cs)
 |.tup cs=> .tup (wkL cs)
 |a=>a
 where wkL:List AV->List AV
 | []=>[]
 |a::r=>a.wk::wkL r
theorem zlt(l:List AV):AV.wk.wkL l=l.map AV.wk:=by
 induction l with
 |nil=>rfl
 |cons a r ih=>rw[AV.wk.wkL,ih,List.map_cons]
theorem IRep.wk{w:World}{M:Nat->Prop}{a:AV}{v:Value}(h:IRep w M a v):IRep w M a.wk v:=by
 induction h with
 |bool b=>exact .bool b
 |int k n=>exact .int k n
 |str s=>exact .str s
 |anyb b=>exact .anyb b
 |junk v=>exact .junk v
 |nil p c hc=>exact .nil p none (by intro k h;simp at h)
 |vec cs n c b off cap vs hM hcell hrep hn hc ih=>
  rw[AV.wk,zlt];refine .vec _ n none b off cap vs (λhne=>hM (λe=>hne (by rw[e];rfl))) (λj hj=>hcell j (by simpa using hj)) (λj a ha=>?_) hn (by intro k h;simp at h);rw[qX,qQ]at ha;obtain⟨a0,h1,rfl⟩:=ha;exact ih j a0 h1
 |iptr cs p b off vs hM hcell hrep ih=>exact .iptr cs p b off vs hM hcell hrep
 |agg cs vs hl hrep ih=>
  rw[AV.wk,zlt];refine .agg _ vs (by simpa using hl) (λj a v ha hv=>?_);rw[qX,qQ]at ha;obtain⟨a0,h1,rfl⟩:=ha;exact ih j a0 v h1 hv
 |tup cs vs hl hrep ih=>
  rw[AV.wk,zlt];refine .tup _ vs (by simpa using hl) (λj a v ha hv=>?_);rw[qX,qQ]at ha;obtain⟨a0,h1,rfl⟩:=ha;exact ih j a0 v h1 hv
 |clo f cs vs hf hl hrep ih=>exact .clo f cs vs hf hl hrep
 |bnd f cs vs hf hl hrep ih=>exact .bnd f cs vs hf hl hrep
 |nilp=>exact .nilp
 |nilf=>exact .nilf
theorem Rep.wk{w:World}{M:Nat->Prop}{ρ:Nat->RS}{a:AV}{v:Value}(h:Rep w M ρ a v):Rep w M ρ a.wk v:=by
 induction h with
 |imm a v h=>exact .imm _ _ h.wk
 |agg cs vs hl hrep ih=>
  rw[AV.wk,zlt];refine .agg _ vs (by simpa using hl) (λj a v ha hv=>?_);rw[qX,qQ]at ha;obtain⟨a0,h1,rfl⟩:=ha;exact ih j a0 v h1 hv
 |tup cs vs hl hrep ih=>
  rw[AV.wk,zlt];refine .tup _ vs (by simpa using hl) (λj a v ha hv=>?_);rw[qX,qQ]at ha;obtain⟨a0,h1,rfl⟩:=ha;exact ih j a0 v h1 hv
 |slDead id off n sz c b cap h hn hc=>exact .slDead id off n sz c b cap h hn hc
 |slAt id off n sz c b cap el m h hs hn hc hm=>exact .slAt id off n sz c b cap el m h hs hn hc hm
 |ptrDead id off b h=>exact .ptrDead id off b h
 |ptrAt id off b h hs=>exact .ptrAt id off b h hs
 |clo f cs vs hf hl hrep ih=>exact .clo f cs vs hf hl hrep
 |bnd f cs vs hf hl hrep ih=>exact .bnd f cs vs hf hl hrep
 |mapDead id b h=>exact .mapDead id b h
 |mapAt id b h hs=>exact .mapAt id b h hs
 |ydDead id b h=>exact .ydDead id b h
 |ydAt id b h hs=>exact .ydAt id b h hs
 |ydF id v h ih=>exact .ydF id v h
section
variable{P:Program}{Γ:Glob}
theorem zvz{f:FuncId}{fn:Func}{code:Code}{c:CC}{args:List AV}{H:Heap}{v:AV}{Hout:Heap}(hf:P.funcs[f]?=some fn)(hb:fn.body=some code)
  (hc:zdb P Γ fn.ntmps code=some c) (hn:args.length<=fn.ntmps) (hlen:H.length<=Hout.length) (hne:f≠4095)
  (h:W P Γ H.length fn.ntmps c (zjc args) H (λx E' H'=>(x= .ret\/x= .normal)/\∃v' v'',resA P fn.results.toList E' H'=some v'/\Fin H.length v' H' v'' Hout/\v''.wk=v)):Ret P Γ f args H v Hout:=by
 refine⟨hlen,?_⟩;intro w F ρ vs ho hsz hrep;refine .inl ⟨hne,(callsIn_wide (n:=0)).1 (callsIn_of_wp_marks hf hb trivial ?_)⟩;let C:Ctx:={ F:=F,w0:=w,ρ0:=ρ,n0:=H.length,nt:=fn.ntmps }
 have hs:Sim Γ C ρ (zjc args) H { tmps:=vs++Array.replicate (fn.ntmps-vs.size) undef,defers:=[] } w:=by
  refine⟨ho,λt=>?_,⟨[],rfl,List.nodup_nil,by simp⟩,by show(vs++Array.replicate (fn.ntmps-vs.size) undef).size=fn.ntmps;simp;omega,Kept.refl _ w,λ_ _=> .inl rfl,λi b hi=> .inl ⟨i,hi⟩,Nat.le_refl _⟩;simp only[zjc];rcases Nat.lt_or_ge t args.length with hl | hl
  ·have h1:args[t]?=some args[t]:=by simp[hl]
   have h2:t<vs.size:=by omega
   have:=hrep t args[t] vs[t] h1 (by simp[h2]);simp only[qZ,h1,Option.getD_some];rw[Array.getD_eq_getD_getElem?,Array.getElem?_append_left h2];simpa[h2]using this
  ·simp only[qZ,List.getElem?_eq_none hl,Option.getD_none];exact .imm _ _ (.junk _)
 refine wpIn_mono (h code hc C ρ _ w rfl rfl (.inl rfl) hs) ?_;rintro x a' w' ⟨E',H',ρ1,⟨hx,v',v'',hres,hfin,hwk⟩,hs'⟩
 have key:∀(ms:List Nat) (a':Act) (w':World),Sim Γ C ρ1 E' H' a' w'->a'.defers=ms.map zmj->
   LeavesInM Fence.wide 0 P fn a'.tmps (λe w'=>∃u ρ',e= .returned u/\After Γ F H.length ρ w ρ' w' Hout (zge H.length (Hout.length-H.length))/\Rep w' (Mu F ρ') ρ' v u) a'.defers .returning w':=by
  intro ms
  induction ms with
  |cons D ms ih=>
   intro a' w' hs' hd;obtain⟨h1,h2⟩:=hs'.take hd;have:=ih _ _ h2 rfl;rw[hd];exact⟨by simp,.inl ⟨D,_,rfl,run_takeDeferred h1,this⟩⟩
  |nil=>
   intro a' w' hs' hd;rw[hd]
   show LeavesIn _ _ _ _ _ _ [] _ _
   have post:∃u,(results fn a'.tmps).run P w'= .ok u w'/\Rep w' (Mu F ρ1) ρ1 v' u:=by
    unfold resA at hres;cases hm:fn.results.toList.mapM (zdv P E' H')with
    |none=>simp[hm]at hres
    |some l=>
     obtain⟨us,h1,h2⟩:=zoj (P:=P) hs' _ l hm
     have h1':(fn.results.mapM (resF a'.tmps)).run P w'= .ok us.toArray w':=by
      rw[Array.mapM_eq_mapM_toList,Sem.run_map,h1];rfl
     rw[hm]at hres;simp only[zra,Sem.run_bind,h1',Result.andThen_ok,Sem.run_pure];by_cases h1l:us.length=1
     ·obtain⟨u,rfl⟩:=List.length_eq_one_iff.1 h1l;obtain⟨y,rfl⟩:=List.length_eq_one_iff.1 (by rw[<-h2.1];rfl:l.length=1);simp at hres;subst hres;exact⟨u,by simp,h2.2 0 y u rfl rfl⟩
     ·refine⟨.tuple us.toArray,by simp[h1l],?_⟩
      have:v'= .tup l:=by
       match l,hres,h2.1 with
       | [],hres,_=>simpa using hres.symm
       | [y],_,hh=>simp at hh;exact absurd hh h1l
       |y::z::r,hres,_=>simpa using hres.symm
      subst this;exact .tup l us.toArray (by simpa using h2.1) (λj a v ha hv=>h2.2 j a v ha (by simpa using hv))
   obtain⟨u,hu1,hu2⟩:=post;obtain⟨ρ',g1,g2⟩:=hs'.fin (H:=H) ho rfl hu2 hfin;exact⟨u,hu1,u,ρ',rfl,g1,hwk ▸ g2.wk⟩
 obtain⟨ms,hms,_⟩:=hs'.defers;rcases hx with rfl | rfl
 ·exact key ms a' w' hs' hms
 ·exact key ms a' w' hs' hms
theorem qxw{f:FuncId}{fn:Func}{c:CC}{args:List AV}{H:Heap}{v:AV}{Hout:Heap}(hm:P.follows .mixedOrders=true)(hf:P.funcs[f]?=some fn)(hc:fn.body.bind (zdb P Γ fn.ntmps)=some c)(rs:List ResultVar)(nt:Nat)
  (hrs:fn.results.toList=rs) (hnt:fn.ntmps=nt) (hn:args.length<=nt) (hlen:H.length<=Hout.length)
  (h:wpC P Γ H.length nt c (zjc args) H (λx E' H'=>(x= .ret\/x= .normal)/\∃v' v'',resA P rs E' H'=some v'/\Fin H.length v' H' v'' Hout/\v''.wk=v)) (hne:f≠4095:=by decide):Ret P Γ f args H v Hout:=by
 subst hrs hnt;cases hb:fn.body with
 |none=>rw[hb]at hc;simp at hc
 |some code=>
  rw[hb]at hc;exact zvz hf hb hc hn hlen hne (zom hm h)
