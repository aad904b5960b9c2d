/- A part of the proof. -/
import Derived.Test.YtpflahgcdgdkjaaGreatDoorPB
import Derived.Test.YtpflahgcdgdkjaaGreatDoorAL1
import Derived.Test.YtpflahgcdgdkjaaGreatDoorAL60
set_option linter.all false
set_option maxRecDepth 100000
namespace Go.Proofs.YtpflahgcdgdkjaaGreatDoor
open Nat renaming reduceEqDiff -> qQ, reduceLeDiff -> qK, reduceAdd -> qY, lt_of_lt_of_le -> qB, le_refl -> qD, lt_or_ge -> xW, sub_self -> xU, one_ne_zero -> xT, zero_le -> yB
open List renaming getD_eq_getElem?_getD -> qX, getElem?_eq_getElem -> qZ, take_of_length_le -> qV, nodup_cons -> qC, getElem?_map -> qG, getElem?_append_right -> qH, getElem_mem -> qI, set_append_right -> qO, mem_cons -> qR, getElem?_append_left -> qT, getElem?_replicate -> xX, length_set -> xV, getElem?_set_self -> xY, take_add_one -> xA, map_append -> xD, replicate_succ -> xE, replicate_zero -> xG, append_assoc -> xL, take_length -> xN, append_nil -> yQ, getElem?_set_ne -> yJ, set_set -> yW, length_take -> yU
open Int renaming toNat_natCast -> qW
open Option renaming bind_some -> xK, getD_some -> yY
open Go Go.AL Go.Proofs Go.Limb
theorem zcb {H X:Heap} {i:Nat} (h:i<H.length):getB (H++X) i=getB H i:=by
 unfold getB;rw [qT h]
theorem ztx {H:Heap} {cs:List AV} {X:Heap}:getB (H++some cs::X) H.length=some cs:=by
 unfold getB;rw [qH (qD _)];simp
theorem zae {H:Heap} {i j:Nat} {x:Option (List AV)} (h:i≠j):getB (H.set i x) j=getB H j:=by
 unfold getB;rw [yJ h]
theorem zan {H:Heap} {i:Nat} {cs:List AV} (h:i<H.length):getB (H.set i (some cs)) i=some cs:=by
 unfold getB;rw [xY h]
theorem zag {H:Heap} {i:Nat} {cs:List AV} (h:getB H i=some cs):i<H.length:=zgy h
def zck (n:Nat) (p:Nat×Option Nat):AV:= .sl p.1 0 n 2 p.2
structure MatH (H:Heap) (o:Nat) (ps:List (Nat×Option Nat)) (n:Nat) (M:List (List Int)):Prop where
 outer:getB H o=some (ps.map (zck n))
 len:ps.length=M.length
 cols:∀i,i<M.length->(M.getD i []).length=n
 rows:∀i,i<M.length->∃cs,getB H (ps.getD i (0,none)).1=some cs/\RowC (M.getD i []) cs
 nodup:(o::ps.map (·.1)).Nodup
def zwv (H:Heap) (r:List Int) (a:AV) (bad:List Nat):Prop:=
 (r=[]/\a= .vec [] 0 (some 0))\/(r≠[]/\∃id cs,a= .sl id 0 r.length 2 none/\getB H id=some cs/\RowC r cs/\id∉bad)
theorem qup {H:Heap} {r:List Int} {a:AV} {bad:List Nat} {z:Int} {u v:AV} {t fr n0:Nat} (h:zwv H r a bad) (hz:zat z (.agg [u,v])) (ht:getB H t=some [u,v]) (hr:r.length<1100) (hfr:fr∉bad) (hfr2:H.length=fr):
  ∃e rd cs,zbf n0 fr H 2 32 a (.sl t 0 1 2 (some 1))=some (.sl fr 0 (r.length+1) 2 none,e,rd)/\RowC (r++[z]) cs/\getB (zad e (H++[none])) fr=some cs/\(zad e (H++[none])).length=H.length+1/\
   (∀i∈bad,i<H.length->getB (zad e (H++[none])) i=getB H i)/\(∀i∈keys e,i=fr\/∃n c,a= .sl i 0 n 2 c)/\(∀i∈rd,i=t\/∃n c,a= .sl i 0 n 2 c):=by
 have hs:AV.scalL [u,v]=true:=zjs (r:=[z]) (cs:=[u,v]) ⟨hz,trivial⟩
 have hel:zde H 2 1 (.sl t 0 1 2 (some 1))=some ([u,v],[t]):=by
  simp [zde,ht,need]
 rcases h with ⟨rfl,rfl⟩ | ⟨hne,id,cs,rfl,hg,hc,hb⟩
 ·refine ⟨[(fr,some [u,v])],[t],[u,v],?_,⟨hz,trivial⟩,?_,?_,?_,?_,?_⟩
  ·simp only [zbf,lenA,xK,hel]
   simp [need]
  ·simp only [zad]
   rw [qO _ _ (by omega),<-hfr2,xU]
   exact ztx
  ·simp [zad]
  ·intro i hi hlt
   simp only [zad]
   rw [zae (by intro e;exact hfr (e ▸ hi)),zcb hlt]
  ·intro i hi
   simp [keys] at hi
   exact .inl hi
  ·intro i hi
   simp at hi
   exact .inl hi
 ·have hlt:=zag hg
  have hl:=zcv hc
  refine ⟨[(id,none),(fr,some (cs++[u,v]))],[id,t],cs++[u,v],?_,zjr hc z u v hz,?_,?_,?_,?_,?_⟩
  ·have e1:¬((none:Option Nat)=some r.length):=by simp
   have e2:id≠fr:=by omega
   have b1:4*(r.length+1)*32<=2^48:=by
    have:(2:Nat)^48=281474976710656:=rfl
    omega
   have b2:r.length+1<2^62:=by
    have:(2:Nat)^62=4611686018427387904:=rfl
    omega
   simp only [zbf,lenA,xK,hel,hg,need,xT,if_false,true_and,hl,qD,b1,b2,and_self,if_true,e1,yB,hs,e2,ne_eq,not_false_eq_true]
   rw [qV (by omega)]
  ·simp only [zad]
   rw [zan (by simp;omega)]
  ·simp [zad]
  ·intro i hi hlt2
   simp only [zad]
   rw [zae (by intro e;exact hfr (e ▸ hi)),zae (by intro e;exact hb (e ▸ hi)),zcb hlt2]
  ·intro i hi
   simp [keys] at hi
   rcases hi with h | h
   ·exact .inr ⟨_,_,by rw [h]⟩
   ·exact .inl h
  ·intro i hi
   simp at hi
   rcases hi with h | h
   ·exact .inr ⟨_,_,by rw [h]⟩
   ·exact .inl h
theorem zro {α:Type} {H:List α} {x y:α}:(H++[x]).set H.length y=H++[y]:=by
 rw [qO _ _ (qD _),xU];rfl
theorem zbz {H:Heap} {cs:List AV}:getB (H++[some cs]) H.length=some cs:=ztx
def zrp (i:Nat) (st:Heap×AV) (p:List AV×List AV):Heap×AV:=
 match zbf 0 (st.1.length+1+1) (st.1++[some p.1]++[some p.2]) 2 32 st.2 (.sl (st.1.length+1) 0 1 2 (some 1)) with
 | some (v,e,_)=>((zad e (st.1++[some p.1]++[some p.2]++[none])).set 0 (some (((getB (zad e (st.1++[some p.1]++[some p.2]++[none])) 0).getD []).set i v)),v)
 | none=>st
structure CpOK (i:Nat) (oc:List AV) (ids:List Nat) (H0:Heap) (r:List Int) (st:Heap×AV):Prop where
 part:zwv st.1 r st.2 (0::ids)
 outer:getB st.1 0=some (oc.set i st.2)
 keep:∀id∈ids,getB st.1 id=getB H0 id
 len:H0.length<=st.1.length
theorem zza {i:Nat} {oc:List AV} {ids:List Nat} {H0:Heap} {r:List Int} {st:Heap×AV} {x:List AV} {u v:AV} {z:Int} (hids:∀id∈ids,id<H0.length/\id≠0) (h:CpOK i oc ids H0 r st) (hi:i<oc.length) (hz:zat z (.agg [u,v])) (hr:r.length<1100):
  CpOK i oc ids H0 (r++[z]) (zrp i st (x,[u,v]))/\∃e rd,zbf 0 (st.1.length+1+1) (st.1++[some x]++[some [u,v]]) 2 32 st.2 (.sl (st.1.length+1) 0 1 2 (some 1))=some ((zrp i st (x,[u,v])).2,e,rd)/\
   getB (zad e (st.1++[some x]++[some [u,v]]++[none])) 0=some (oc.set i st.2)/\(zrp i st (x,[u,v])).1=(zad e (st.1++[some x]++[some [u,v]]++[none])).set 0 (some (oc.set i (zrp i st (x,[u,v])).2))/\∃id n,(zrp i st (x,[u,v])).2= .sl id 0 n 2 none:=by
 obtain ⟨hp,hg,hkeep,hlen⟩:=h
 have h0lt:0<st.1.length:=zag hg
 have hl2:(st.1++[some x]++[some [u,v]]).length=st.1.length+1+1:=by simp
 have hk2:∀y,y<st.1.length->getB (st.1++[some x]++[some [u,v]]) y=getB st.1 y:=by
  intro y hy;rw [xL,zcb hy]
 have hp2:zwv (st.1++[some x]++[some [u,v]]) r st.2 (0::ids):=by
  rcases hp with ⟨h1,h2⟩ | ⟨h1,id,cs',h2,h3,h4,h5⟩
  ·exact .inl ⟨h1,h2⟩
  ·exact .inr ⟨h1,id,cs',h2,by rw [hk2 _ (zag h3)];exact h3,h4,h5⟩
 have ht2:getB (st.1++[some x]++[some [u,v]]) (st.1.length+1)=some [u,v]:=by
  have:st.1.length+1=(st.1++[some x]).length:=by simp
  rw [this];exact zbz
 have hfb:st.1.length+1+1∉0::ids:=by
  intro hm
  rcases List.mem_cons.1 hm with h | h
  ·omega
  ·have:=(hids _ h).1;omega
 obtain ⟨e,rd,cs',hap,hrow,hfr,hl3,hsame,hke,hrd⟩:=qup (n0:=0) (fr:=st.1.length+1+1) hp2 hz ht2 hr hfb hl2
 have g3:getB (zad e (st.1++[some x]++[some [u,v]]++[none])) 0=some (oc.set i st.2):=by
  rw [hsame 0 (by simp) (by omega),hk2 0 h0lt];exact hg
 have hc:zrp i st (x,[u,v])=((zad e (st.1++[some x]++[some [u,v]]++[none])).set 0 (some (oc.set i (.sl (st.1.length+1+1) 0 (r.length+1) 2 none))),.sl (st.1.length+1+1) 0 (r.length+1) 2 none):=by
  unfold zrp
  rw [hap]
  simp only [g3,yY,yW]
 rw [hc]
 refine ⟨⟨.inr ⟨by simp,_,cs',by simp,?_,hrow,hfb⟩,?_,?_,?_⟩,e,rd,hap,g3,rfl,_,_,rfl⟩
 ·show getB (List.set _ 0 _) _=_
  rw [zae (by omega)];exact hfr
 ·show getB (List.set _ 0 _) _=_
  rw [zan (by omega)]
 ·intro id hid
  show getB (List.set _ 0 _) _=_
  have:=hids id hid
  rw [zae (by omega),hsame id (by simp [hid]) (by omega),hk2 id (by omega)]
  exact hkeep id hid
 ·show _<=(List.set _ 0 _).length
  rw [xV];omega
def zrq:List Int->List AV->List (List AV×List AV)->Prop
 | [],[],[]=>True
 | z::r,a::b::cs,(x,y)::l=>x=[a,b]/\(∃u v,y=[u,v]/\zat z (.agg [u,v]))/\zat z (.agg [a,b])/\Rt 122 [.agg x] [] (.agg y) []/\zrq r cs l
 | _,_,_=>False
theorem qoa:∀{r:List Int} {cs:List AV},RowC r cs->∃l,zrq r cs l:=by
 intro r
 induction r with
 | nil=>
  intro cs h
  cases cs with
  | nil=>exact ⟨[],trivial⟩
  | cons _ _=>exact h.elim
 | cons z r ih=>
  intro cs h
  match cs,h with
  | a::b::cs,h=>
   obtain ⟨l,hl⟩:=ih h.2
   obtain ⟨w,hw,t⟩:=zpi h.1
   have hw0:=hw
   obtain ⟨lw,cw,_,_,_,rfl⟩:=hw0
   exact ⟨([a,b],_)::l,rfl,⟨_,_,rfl,hw⟩,h.1,t,hl⟩
theorem znp:∀{r:List Int} {cs:List AV} {l:List (List AV×List AV)},zrq r cs l->l.length=r.length
 | [],[],[],_=>rfl
 | _::_,_::_::_,(_,_)::_,h=>by have:=znp h.2.2.2.2;simp [this]
 | [],[],_::_,h=>h.elim
 | [],_::_,_,h=>by cases ‹List (List AV×List AV)› <;> exact h.elim
 | _::_,[],_,h=>by cases ‹List (List AV×List AV)› <;> exact h.elim
 | _::_,[_],_,h=>by cases ‹List (List AV×List AV)› <;> exact h.elim
 | _::_,_::_::_,[],h=>h.elim
theorem zty:∀{r:List Int} {cs:List AV} {l:List (List AV×List AV)},zrq r cs l->∀j,j<r.length->∃a b u v,(cs.drop (j*2)).take 2=[a,b]/\l[j]?=some ([a,b],[u,v])/\zat (r.getD j 0) (.agg [a,b])/\zat (r.getD j 0) (.agg [u,v])/\
  Rt 122 [.agg [a,b]] [] (.agg [u,v]) []:=by
 intro r
 induction r with
 | nil=>intro cs l _ j hj;exact absurd hj (by simp)
 | cons z r ih=>
  intro cs l h j hj
  match cs,l,h with
  | a::b::cs,(x,y)::l,h=>
   obtain ⟨rfl,⟨u,v,rfl,hu⟩,ha,t,hl⟩:=h
   cases j with
   | zero=>exact ⟨a,b,u,v,rfl,rfl,ha,hu,t⟩
   | succ j=>
    obtain ⟨a',b',u',v',h1,h2,h3,h4,h5⟩:=ih hl j (by simpa using hj)
    refine ⟨a',b',u',v',?_,by simpa using h2,by simpa using h3,by simpa using h4,h5⟩
    rw [show (j+1)*2=j*2+2 by omega]
    exact h1
def zot (i:Nat) (st:Heap×AV) (l:List (List AV×List AV)):Heap×AV:=l.foldl (zrp i) st
theorem zpj {α β:Type} (f:β->α->β) (b:β) (l:List α) (j:Nat) (x:α) (h:l[j]?=some x):(l.take (j+1)).foldl f b=f ((l.take j).foldl f b) x:=by
 rw [xA,h]
 simp
theorem zzb {i:Nat} {oc:List AV} {ids:List Nat} {H0:Heap} {r:List Int} {cs:List AV} {l:List (List AV×List AV)} (hids:∀id∈ids,id<H0.length/\id≠0) (h00:getB H0 0=some oc) (hi:i<oc.length) (hoci:oc.getD i .junk= .vec [] 0 (some 0))
  (hp:zrq r cs l) (hr:r.length<1100):∀j,j<=r.length->CpOK i oc ids H0 (r.take j) (zot i (H0,.vec [] 0 (some 0)) (l.take j)):=by
 intro j
 induction j with
 | zero=>
  intro _
  refine ⟨.inl ⟨rfl,rfl⟩,?_,fun _ _=>rfl,qD _⟩
  show getB H0 0=some (oc.set i (.vec [] 0 (some 0)))
  rw [h00]
  have:oc.set i (.vec [] 0 (some 0))=oc:=by
   rw [<-hoci,qX,qZ hi]
   simp
  rw [this]
 | succ j ih=>
  intro hj
  obtain ⟨a,b,u,v,_,h2,_,h4,_⟩:=zty hp j (by omega)
  have:=(zza (x:=[a,b]) hids (ih (by omega)) hi h4 (by rw [yU];omega)).1
  unfold zot at this ⊢
  rw [zpj _ _ _ _ _ h2]
  have htk:r.take j++[r.getD j 0]=r.take (j+1):=by
   rw [xA,qX,qZ (by omega)];rfl
  rw [htk] at this
  exact this
theorem qob {r:List Int} {cs:List AV} {c:Option Nat} {l:List (List AV×List AV)} (hpr:zrq r cs l) (hr:RowC r cs) (hn:r.length<=16) {arg:AV} {i N:Nat} {oc:List AV} (hoc:oc.length=N) (hi:i<N) (hN:N<=16) {ids:List Nat} {H0:Heap} (h00:getB H0 0=some oc)
  (hoci:oc.getD i .junk= .vec [] 0 (some 0)) (hids:∀id∈ids,id<H0.length/\id≠0) {v10:AV} {E:Env} {Q:Post} (e0:E 0=arg) (e3:E 3= .sl 0 0 N 1 (some N)) (e4:E 4= .int .i64 (i:Nat)) (e10:E 10=v10) (e11:E 11= .int .i64 (N:Nat))
  (e12:E 12= .int .i64 (i:Nat)) (e18:E 18= .vec cs r.length c) (e19:E 19= .int .i64 (r.length:Nat)) (e20:E 20= .int .i64 0)
  (hQ:∀E',E' 0=arg->E' 3= .sl 0 0 N 1 (some N)->E' 10=v10->E' 11= .int .i64 (N:Nat)->E' 12= .int .i64 (i:Nat)->Q (.exit 2) E' (zot i (H0,.vec [] 0 (some 0)) l).1):
  Wg 0 38 (.loop l58_1) E H0 Q:=by
 have hall:=zzb hids h00 (by omega) hoci hpr (by omega)
 refine zai (fun k E H=>∃j,j+k=r.length/\H=(zot i (H0,.vec [] 0 (some 0)) (l.take j)).1/\E 0=arg/\E 3= .sl 0 0 N 1 (some N)/\E 4= .int .i64 (i:Nat)/\E 10=v10/\
  E 11= .int .i64 (N:Nat)/\E 12= .int .i64 (i:Nat)/\E 18= .vec cs r.length c/\E 19= .int .i64 (r.length:Nat)/\E 20= .int .i64 (j:Nat)) (n:=r.length) ⟨0,by omega,rfl,e0,e3,e4,e10,e11,e12,e18,e19,e20⟩ ?_
 rintro k E H ⟨j,hjk,hH,e0,e3,e4,e10,e11,e12,e18,e19,e20⟩
 refine wM ?_
 simp only [l58_1,r58_6,SS,reduceIte,e19,e20]
 refine ⟨fun hlt=>?_,fun hge=>?_⟩
 ·obtain ⟨k,rfl⟩:∃k',k=k'+1:=⟨k-1,by omega⟩
  obtain ⟨u,v,x,y,hu,hl,hz,hw,tn⟩:=zty hpr j (by omega)
  have hok:=hall j (by omega)
  obtain ⟨hok2,e,rd,hap,g3,hH4,idn,nn,hv2⟩:=zza (x:=[u,v]) hids hok (by omega) hw (by rw [yU];omega)
  have hnext:zot i (H0,.vec [] 0 (some 0)) (l.take (j+1))=zrp i (zot i (H0,.vec [] 0 (some 0)) (l.take j)) ([u,v],[x,y]):=zpj _ _ _ _ _ hl
  generalize zot i (H0,.vec [] 0 (some 0)) (l.take j)=st at*
  subst hH
  obtain ⟨hp,hg,hkeep,hlen⟩:=hok
  have hscz:AV.scalL [u,v]=true:=zjs (r:=[r.getD j 0]) (cs:=[u,v]) ⟨hz,trivial⟩
  obtain ⟨lz,cz,_,_,_,ez⟩:=hz
  injection ez with ez
  injection ez with ez1 ez2
  injection ez2 with ez2 _
  obtain ⟨lw,cw,_,_,_,ew⟩:=hw
  injection ew with ew
  injection ew with ew1 ew2
  injection ew2 with ew2 _
  subst ez1 ez2 ew1 ew2
  have hcl:=zcv hr
  have h0lt:0<st.1.length:=zag hg
  have w5:=wS1 j (by omega)
  simp only [r58_7,SS,reduceIte,qY,qQ,qK,e18,e20,qW,hcl,hu,zbz,zro]
  refine ⟨⟨by omega,by omega⟩,by omega,?_⟩
  have g0:getB (st.1++[some [AV.bool (decide (r.getD j 0<0)),AV.vec (u32s lz) lz.length cz]]) 0=some (oc.set i st.2):=by rw [zcb h0lt];exact hg
  have ga:(oc.set i st.2).getD i AV.junk=st.2:=by
   rw [qX,xY (by omega)];rfl
  simp only [r58_8,SS,fC,reduceIte,qY,qQ,qK,e3,e4,qW,g0,ga,xV,hoc,zbz]
  refine ⟨⟨by omega,by omega⟩,by omega,?_⟩
  refine zaa tn ?_
  simp only [SS,reduceIte,qY,qQ,qK,zcu]
  rw [hap]
  simp only [SS,g3,qW,xV,hoc,hv2]
  refine ⟨⟨by omega,by omega⟩,by omega,by simp [dynB,zvw],?_⟩
  simp only [r58_9,SS,reduceIte,qQ,e20,w5]
  refine ⟨k,_,_,by omega,⟨j+1,by omega,?_,?_,?_,?_,?_,?_,?_,?_,?_,?_⟩,.refl⟩
  ·rw [hnext,hH4,hv2,yW]
  all_goals simp only [UU,qQ,reduceIte, *]
 ·have hk:j=r.length:=by omega
  subst hk
  have hl:=znp hpr
  rw [qV (by omega)] at hH
  rw [hH]
  exact hQ _ (by simp only [UU,qQ, *]) (by simp only [UU,qQ, *]) (by simp only [UU,qQ, *]) (by simp only [UU,qQ, *]) (by simp only [UU,qQ, *])
abbrev nilV:AV:= .vec [] 0 (some 0)
def cpM (N:Nat) (ls:List (List (List AV×List AV))):Nat->Heap
 | 0=>[some (List.replicate N nilV)]
 | i+1=>(zot i (cpM N ls i,nilV) (ls.getD i [])).1
structure CpM (N n:Nat) (M:List (List Int)) (H:Heap) (i:Nat) (ps:List (Nat×Option Nat)):Prop where
 len:ps.length=i
 outer:getB H 0=some (ps.map (zck n)++List.replicate (N-i) nilV)
 rows:∀i',i'<i->∃cs,getB H (ps.getD i' (0,none)).1=some cs/\RowC (M.getD i' []) cs
 nodup:(0::ps.map (·.1)).Nodup
 lt:∀p∈ps,p.1<H.length
theorem qrg {N n i:Nat} {ps:List (Nat×Option Nat)} (hl:ps.length=i) (hi:i<N):(ps.map (zck n)++List.replicate (N-i) nilV).getD i .junk=nilV:=by
 rw [qX,qH (by simp;omega),xX,if_pos (by simp;omega)];rfl
theorem qhc {N n i:Nat} {M:List (List Int)} {H:Heap} {ps:List (Nat×Option Nat)} (h:CpM N n M H i ps):∀id∈ps.map (·.1),id<H.length/\id≠0:=by
 intro id hid
 have hn:=h.nodup
 rw [qC] at hn
 refine ⟨?_,fun e=>hn.1 (e ▸ hid)⟩
 obtain ⟨p,hp,rfl⟩:=List.mem_map.1 hid
 exact h.lt p hp
theorem qyr {N n:Nat} {M:List (List Int)} {cf:Nat->List AV} {ls:List (List (List AV×List AV))} (hn:1<=n/\n<=16) (hc:∀i,i<N->(M.getD i []).length=n) (hls:∀i,i<N->zrq (M.getD i []) (cf i) (ls.getD i [])):
  ∀i,i<=N->∃ps,CpM N n M (cpM N ls i) i ps:=by
 intro i
 induction i with
 | zero=>
  intro _
  refine ⟨[],rfl,?_,fun _ h=>absurd h (by omega),by simp,by simp⟩
  simp [cpM,getB]
 | succ i ih=>
  intro hi
  obtain ⟨ps,h⟩:=ih (by omega)
  have hri:=hc i (by omega)
  have hok:=zzb (qhc h) h.outer (by simp [h.len];omega) (qrg h.len (by omega)) (hls i (by omega)) (by omega) (M.getD i []).length (qD _)
  rw [xN,qV (by rw [znp (hls i (by omega))];omega)] at hok
  obtain ⟨hp,hg,hkeep,hlen⟩:=hok
  rcases hp with ⟨h1,_⟩ | ⟨_,id,cs,hid,hb,hrow,hnm⟩
  ·rw [h1] at hri;simp at hri;omega
  ·rw [hri] at hid
   have hnm2:id≠0/\id∉ps.map (·.1):=⟨fun e=>hnm (by simp [e]),fun hm=>hnm (by simp only [qR];exact .inr hm)⟩
   refine ⟨ps++[(id,none)],by simp [h.len],?_,?_,?_,?_⟩
   ·show getB (zot i (cpM N ls i,nilV) (ls.getD i [])).1 0=_
    rw [hg,hid]
    have e:List.replicate (N-i) nilV=nilV::List.replicate (N-(i+1)) nilV:=by
     rw [<-xE];congr 1;omega
    rw [e,qO _ _ (by simp [h.len])]
    simp [h.len,zck]
   ·intro i' hi'
    show ∃cs,getB (zot i (cpM N ls i,nilV) (ls.getD i [])).1 _=some cs/\_
    rcases xW i' i with hlt | hge
    ·obtain ⟨cs',h1,h2⟩:=h.rows i' hlt
     refine ⟨cs',?_,h2⟩
     have e:(ps++[(id,none)]).getD i' (0,none)=ps.getD i' (0,none):=by
      rw [qX,qT (by rw [h.len];exact hlt),qX]
     rw [e,hkeep _ (by
      rw [qX,qZ (by rw [h.len];exact hlt)]
      exact List.mem_map.2 ⟨_,qI _,rfl⟩)]
     exact h1
    ·have e:i'=i:=by omega
     subst e
     refine ⟨cs,?_,hrow⟩
     have e:(ps++[(id,(none:Option Nat))]).getD i' (0,none)=(id,none):=by
      rw [qX,qH (by rw [h.len];exact qD _),h.len,xU];rfl
     rw [e]
     exact hb
   ·rw [xD]
    have hn0:=h.nodup
    rw [qC] at hn0 ⊢
    refine ⟨?_,?_⟩
    ·intro hm
     rcases List.mem_append.1 hm with hm | hm
     ·exact hn0.1 hm
     ·simp at hm;exact hnm2.1 hm.symm
    ·rw [List.nodup_append]
     refine ⟨hn0.2,by simp,?_⟩
     intro x hx y hy
     simp at hy
     subst hy
     intro e
     exact hnm2.2 (e ▸ hx)
   ·intro p hp
    rcases List.mem_append.1 hp with hp | hp
    ·have:=h.lt p hp
     exact qB this hlen
    ·simp at hp
     subst hp
     exact zag hb
theorem qys {M:List (List Int)} {a:AV} {n:Nat} (h:MatV M a) (hn:1<=n/\n<=16) (hN:M.length<=16) (hc:∀i,i<M.length->(M.getD i []).length=n):
  ∃ps H',MatH H' 0 ps n M/\Rt 58 [a] [] (.sl 0 0 M.length 1 (some M.length)) H':=by
 obtain ⟨rows,c,rfl,hl,hr⟩:=h
 have hex:∀i,i<M.length->∃l cs c,rows.getD i .junk= .vec cs (M.getD i []).length c/\RowC (M.getD i []) cs/\zrq (M.getD i []) cs l:=by
  intro i hi
  obtain ⟨cs,c,h1,h2⟩:=hr i hi
  obtain ⟨l,hl⟩:=qoa h2
  exact ⟨l,cs,c,h1,h2,hl⟩
 have hch:∃(ls:List (List (List AV×List AV))) (cf:Nat->List AV),∀i,i<M.length->(∃c,rows.getD i .junk= .vec (cf i) (M.getD i []).length c)/\RowC (M.getD i []) (cf i)/\zrq (M.getD i []) (cf i) (ls.getD i []):=by
  refine ⟨(List.range M.length).map fun i=>if h:i<M.length then Classical.choose (hex i h) else [],fun i=>if h:i<M.length then Classical.choose (Classical.choose_spec (hex i h)) else [],fun i hi=>?_⟩
  obtain ⟨c,h1,h2,h3⟩:=Classical.choose_spec (Classical.choose_spec (hex i hi))
  have e:((List.range M.length).map fun i=>if h:i<M.length then Classical.choose (hex i h) else []).getD i []=Classical.choose (hex i hi):=by
   rw [qX,qG,List.getElem?_range hi]
   simp [hi]
  rw [e]
  simp only [hi,dif_pos]
  exact ⟨⟨c,h1⟩,h2,h3⟩
 obtain ⟨ls,cf,hls⟩:=hch
 have hall:=qyr (N:=M.length) (cf:=cf) hn hc (fun i hi=>(hls i hi).2.2)
 obtain ⟨ps,hps⟩:=hall M.length (qD _)
 refine ⟨ps,cpM M.length ls M.length,⟨?_,hps.len,hc,hps.rows,hps.nodup⟩,?_⟩
 ·have:=hps.outer
  rw [xU,xG,yQ] at this
  exact this
 refine oF o58 ?_
 simp only [c58,r58_0,r58_1,SS,reduceCtorEq,reduceIte,qQ,qW]
 refine ⟨by omega,⟨by omega,by omega,by omega,by omega⟩,?_⟩
 simp only [r58_2,SS,reduceCtorEq,reduceIte,qQ]
 refine zai (fun k E H=>∃i,i+k=M.length/\H=cpM M.length ls i/\E 0= .vec rows M.length c/\E 3= .sl 0 0 M.length 1 (some M.length)/\E 10= .vec rows M.length c/\E 11= .int .i64 (M.length:Nat)/\E 12= .int .i64 (i:Nat)) (n:=M.length) ⟨0,by omega,rfl,?_,?_,?_,?_,?_⟩ ?_
 ·simp only [UU,qQ]
 ·simp only [UU,qQ,reduceIte]
 ·simp only [UU,qQ,reduceIte]
 ·simp only [UU,qQ,reduceIte]
 ·simp only [UU,qQ,reduceIte];rfl
 rintro k E H ⟨i,hik,rfl,e0,e3,e10,e11,e12⟩
 refine wM ?_
 simp only [l58_0,r58_3,SS,reduceCtorEq,reduceIte,e11,e12]
 refine ⟨fun hlt=>?_,fun hge=>?_⟩
 ·obtain ⟨k,rfl⟩:∃k',k=k'+1:=⟨k-1,by omega⟩
  obtain ⟨⟨ci,hci⟩,hrow,hpi⟩:=hls i (by omega)
  obtain ⟨qs,hqs⟩:=hall i (by omega)
  have w5:=wS1 i (by omega)
  simp only [r58_4,r58_5,SS,fC,reduceCtorEq,reduceIte,qQ,e0,e12,qW,hci,hl]
  refine ⟨⟨by omega,by omega⟩,by omega,?_⟩
  refine qob (c:=ci) hpi hrow (by rw [hc i (by omega)];omega) (N:=M.length) (i:=i) (by simp [hqs.len];omega) (by omega) hN hqs.outer (qrg hqs.len (by omega)) (qhc hqs) (v10:= .vec rows M.length c) (arg:= .vec rows M.length c) ?_ ?_ ?_ ?_ ?_ ?_ ?_ ?_ ?_ (fun E1 f0 f3 f10 f11 f12=>?rest)
  case rest=>
   simp only [r58_10,SS,reduceCtorEq,reduceIte,qQ,f12,w5]
   refine ⟨k,_,_,by omega,⟨i+1,by omega,rfl,?_,?_,?_,?_,?_⟩,.refl⟩<;>simp only [UU,qQ,reduceIte, *]
  all_goals simp only [UU,qQ,reduceIte, *]
 ·have hk:i=M.length:=by omega
  subst hk
  simp only [r58_11,SS,reduceIte,qQ,e3]
  exact ⟨.inl trivial,_,rfl,.keep _ _⟩
end Go.Proofs.YtpflahgcdgdkjaaGreatDoor
namespace Go.Proofs.YtpflahgcdgdkjaaGreatDoor
open Nat renaming reduceEqDiff -> qQ, reduceLeDiff -> qK, reduceAdd -> qY, lt_of_lt_of_le -> qB, le_refl -> qD, not_lt_zero -> xQ, zero_add -> xZ, lt_or_ge -> xW, sub_self -> xU, mul_one -> xM, add_sub_cancel_left -> xP, one_ne_zero -> xT, add_zero -> yV, zero_le -> yB, one_mul -> yC
open List renaming getD_eq_getElem?_getD -> qX, getElem?_eq_getElem -> qZ, take_of_length_le -> qV, nodup_cons -> qC, getElem?_map -> qG, getElem?_append_right -> qH, getElem_mem -> qI, getElem_map -> qL, length_map -> qM, getElem?_cons_succ -> qN, set_append_right -> qO, getElem?_cons_zero -> qP, mem_cons -> qR, drop_zero -> qS, getElem?_append_left -> qT, getElem?_replicate -> xX, mapM_cons -> xJ, length_set -> xV, getElem?_set_self -> xY, take_add_one -> xA, getElem?_set -> xB, getElem?_eq_none -> xC, map_append -> xD, replicate_succ -> xE, replicate_zero -> xG, length_append -> xH, mem_or_eq_of_mem_set -> xI, append_assoc -> xL, take_length -> xN, all_eq_true -> xO, map_map -> xR, append_nil -> yQ, range_succ -> yX, length_singleton -> yZ, getElem?_set_ne -> yJ, getElem_range -> yK, set_set -> yW, ext_getElem -> yA
open Go.AL.AV.closed renaming closedL -> qJ
open Int renaming toNat_natCast -> qW
open Option renaming bind_eq_some_iff -> qU, bind_some -> xK, getD_some -> yY
open Bool renaming and_self -> qA
open Option.some renaming injEq -> qE
open Go Go.AL
def ck (B:Nat) (z:Int):Option Int:=if z.natAbs<B then some z else none
def ent (M:List (List Int)) (i j:Nat):Int:=(M.getD i []).getD j 0
def setM (M:List (List Int)) (i j:Nat) (z:Int):List (List Int):=M.set i ((M.getD i []).set j z)
def newE (B:Nat) (M:List (List Int)) (k i j:Nat) (last:Int):Option Int:=
 if last=0 then none else (ck B last).bind fun _=>(ck B (ent M k k*ent M i j)).bind fun p=>(ck B (ent M i k*ent M k j)).bind fun q=>(ck B (p-q)).bind fun s=>ck B (s/last)
def elJ (B k i:Nat) (last:Int):Nat->Nat->List (List Int)->Option (List (List Int))
 | 0,_,M=>some M
 | m+1,j,M=>(newE B M k i j last).bind fun z=>elJ B k i last m (j+1) (setM M i j z)
def elI (B n k:Nat) (last:Int):Nat->Nat->List (List Int)->Option (List (List Int))
 | 0,_,M=>some M
 | m+1,i,M=>(elJ B k i last (n-(k+1)) (k+1) M).bind fun M'=>elI B n k last m (i+1) M'
def piv (M:List (List Int)) (k:Nat):Nat->Nat->Nat
 | 0,p=>p
 | m+1,p=>if ent M p k=0 then piv M k m (p+1) else p
def zdc (M:List (List Int)) (p k:Nat):List (List Int):=(M.set p (M.getD k [])).set k (M.getD p [])
def detG (B n:Nat):Nat->Nat->List (List Int)->Int->Bool->Option Int
 | 0,_,_,last,neg=>some (if neg then -last else last)
 | m+1,k,M,last,neg=>if piv M k (n-k) k=n then some 0 else
  (elI B n k last (n-(k+1)) (k+1) (if k<piv M k (n-k) k then zdc M (piv M k (n-k) k) k else M)).bind fun M2=>detG B n m (k+1) M2 (ent M2 k k) (if k<piv M k (n-k) k then !neg else neg)
def detO (B:Nat) (M:List (List Int)):Option Int:=detG B M.length M.length 0 M 1 false
theorem zce {B:Nat} {z y:Int} (h:ck B z=some y):y=z/\z.natAbs<B:=by
 unfold ck at h
 split at h
 ·simp at h;exact ⟨h.symm,by assumption⟩
 ·simp at h
theorem ztz {B:Nat} {M:List (List Int)} {k i j:Nat} {last z:Int} (h:newE B M k i j last=some z):last≠0/\last.natAbs<B/\(ent M k k*ent M i j).natAbs<B/\(ent M i k*ent M k j).natAbs<B/\(ent M k k*ent M i j-ent M i k*ent M k j).natAbs<B/\
  z=(ent M k k*ent M i j-ent M i k*ent M k j)/last/\z.natAbs<B:=by
 unfold newE at h
 split at h
 ·simp at h
 ·rename_i h0
  simp only [qU] at h
  obtain ⟨l,h1,p,h2,q,h3,s,h4,h5⟩:=h
  obtain ⟨_,k1⟩:=zce h1
  obtain ⟨rfl,k2⟩:=zce h2
  obtain ⟨rfl,k3⟩:=zce h3
  obtain ⟨rfl,k4⟩:=zce h4
  obtain ⟨rfl,k5⟩:=zce h5
  exact ⟨h0,k1,k2,k3,k4,rfl,k5⟩
theorem zcl (M:List (List Int)) (i j:Nat) (z:Int):(setM M i j z).length=M.length:=by simp [setM]
theorem qrh {M:List (List Int)} {k:Nat}:∀{m p:Nat},p<=piv M k m p/\piv M k m p<=p+m:=by
 intro m
 induction m with
 | zero=>intro p;simp [piv]
 | succ m ih=>
  intro p
  simp only [piv]
  split
  ·have:=ih (p:=p+1);omega
  ·omega
theorem qyt {M:List (List Int)} {k:Nat}:∀{m p:Nat},piv M k m p<p+m->ent M (piv M k m p) k≠0:=by
 intro m
 induction m with
 | zero=>intro p h;simp only [piv] at h;omega
 | succ m ih=>
  intro p h
  simp only [piv] at h ⊢
  split
  ·rename_i h0
   rw [if_pos h0] at h
   exact ih (by omega)
  ·assumption
def selR (M:List (List Int)) (i:Nat) (cs:List Nat):List Int:=cs.map fun j=>ent M i j
def selM (M:List (List Int)) (rs cs:List Nat):List (List Int):=rs.map fun i=>selR M i cs
def minK (M:List (List Int)) (k:Nat):List (List Int):=selM M (List.range k++[k]) (List.range k++[k])
def zdj (B:Nat) (M:List (List Int)):Nat->Option (List Int)
 | 0=>some []
 | k+1=>(zdj B M k).bind fun l=>(detO B (minK M k)).bind fun d=>(ck B d).bind fun d=>some (l++[d])
def zjt (B:Nat) (M:List (List Int)):Option (List Int):=zdj B M M.length
theorem zcy {B:Nat} {M:List (List Int)}:∀{k:Nat} {l:List Int},zdj B M k=some l->l.length=k:=by
 intro k
 induction k with
 | zero=>intro l h;simp only [zdj,qE] at h;rw [<-h];rfl
 | succ k ih=>
  intro l h
  simp only [zdj,qU,qE] at h
  obtain ⟨l0,h1,d,_,d',_,rfl⟩:=h
  simp [ih h1]
theorem znq {B:Nat} {M:List (List Int)}:∀{k m:Nat} {l:List Int},zdj B M (k+m)=some l->zdj B M k=some (l.take k):=by
 intro k m
 induction m with
 | zero=>intro l h;have:=zcy h;rw [qV (by omega)];exact h
 | succ m ih=>
  intro l h
  have h':zdj B M ((k+m)+1)=some l:=h
  simp only [zdj,qU,qE] at h'
  obtain ⟨l0,h1,d,_,d',_,rfl⟩:=h'
  rw [ih h1,List.take_append_of_le_length (by rw [zcy h1];omega)]
def symB (M:List (List Int)):Bool:=(List.range M.length).all fun i=>(List.range i).all fun j=>decide (ent M i j=ent M j i)
theorem znr {M:List (List Int)}:symB M=true↔∀i,i<M.length->∀j,j<i->ent M i j=ent M j i:=by
 unfold symB
 simp only [xO,List.mem_range,decide_eq_true_eq]
def defB (M:List (List Int)) (ds:List Int):Bool:=symB M && ds.all fun d=>decide (0<d)
theorem zpk {B:Nat} {M:List (List Int)}:∀{k:Nat} {l:List Int},zdj B M k=some l->∀z∈l,z.natAbs<B:=by
 intro k
 induction k with
 | zero=>intro l h;simp only [zdj,qE] at h;rw [<-h];simp
 | succ k ih=>
  intro l h z hz
  simp only [zdj,qU,qE] at h
  obtain ⟨l0,h1,d,_,d',hck,rfl⟩:=h
  rcases List.mem_append.1 hz with e | e
  ·exact ih h1 z e
  ·simp at e
   have:=(zce hck)
   rw [e,this.1];exact this.2
def valZ (M:List (List Int)) (ds:List Int):Int:=if symB M=false then 4 else if defB M ds=false then 5 else 0
def zcd (ds:List Int) (k:Nat):Int:=if k=0 then 1 else ds.getD (k-1) 0
def lamM (M:List (List Int)) (i j:Nat):List (List Int):=selM M (List.range j++[i]) (List.range j++[j])
def lamO (B:Nat) (M:List (List Int)) (i j:Nat):Option Int:=(detO B (lamM M i j)).bind (ck B)
def zju (B:Nat) (M:List (List Int)) (ds:List Int) (i j:Nat):Option Bool:=(lamO B M i j).bind fun l=>(ck B (2*l)).bind fun _=>some (decide (2*(l.natAbs:Int)<=zcd ds (j+1)))
def lovO (B:Nat) (M:List (List Int)) (ds:List Int) (i:Nat):Option Bool:=(lamO B M i (i-1)).bind fun l=>(ck B (zcd ds (i-1)*zcd ds (i+1))).bind fun p=>(ck B (l*l)).bind fun q=>(ck B (p+q)).bind fun s=>(ck B (4*s)).bind fun x=>
 (ck B (zcd ds i*zcd ds i)).bind fun r=>(ck B (3*r)).bind fun y=>some (decide (y<=x))
def redJ (B:Nat) (M:List (List Int)) (ds:List Int) (i:Nat):Nat->Nat->Option Bool
 | 0,_=>some true
 | m+1,j=>(zju B M ds i j).bind fun b=>if b then redJ B M ds i m (j+1) else some false
def redI (B:Nat) (M:List (List Int)) (ds:List Int):Nat->Nat->Option Bool
 | 0,_=>some true
 | m+1,i=>(redJ B M ds i i 0).bind fun b=>if b=false then some false else if i=0 then redI B M ds m (i+1) else (lovO B M ds i).bind fun b=>if b then redI B M ds m (i+1) else some false
theorem zft {B:Nat} {M:List (List Int)} {i j:Nat} {l:Int} (h:lamO B M i j=some l):detO B (lamM M i j)=some l/\l.natAbs<B:=by
 unfold lamO at h
 rw [qU] at h
 obtain ⟨d,h1,h2⟩:=h
 obtain ⟨rfl,h3⟩:=zce h2
 exact ⟨h1,h3⟩
open Go.Proofs Go.Limb
def DivB (B:Nat):Prop:=B<=BIG/\∀x y:Int,x.natAbs<B->y.natAbs<B->y≠0->∀m n c d,zcc m->zcc n->m.length<=1100->n.length<=1100->val m=x.natAbs->val n=y.natAbs->DivC m n c d
def pid (ps:List (Nat×Option Nat)) (i:Nat):Nat:=(ps.getD i (0,none)).1
theorem zca {ps:List (Nat×Option Nat)} {n i:Nat} (hi:i<ps.length):(ps.map (zck n)).getD i .junk= .sl (pid ps i) 0 n 2 (ps.getD i (0,none)).2:=by
 rw [qX,qG,qZ hi]
 simp [zck,pid,qX,hi]
theorem zen {H:Heap} {o n:Nat} {ps:List (Nat×Option Nat)} {M:List (List Int)} (h:MatH H o ps n M) {i:Nat} (hi:i<M.length):∃cs,getB H (pid ps i)=some cs/\cs.length=n*2/\RowC (M.getD i []) cs/\
  ∀j,j<n->∃u v,(cs.drop (j*2)).take 2=[u,v]/\zat (ent M i j) (.agg [u,v]):=by
 obtain ⟨cs,h1,h2⟩:=h.rows i hi
 have hl:=zcv h2
 rw [h.cols i hi] at hl
 refine ⟨cs,h1,hl,h2,fun j hj=>?_⟩
 exact zeh h2 j (by rw [h.cols i hi];exact hj)
theorem zhe {ps:List (Nat×Option Nat)} {i:Nat} (hi:i<ps.length):pid ps i∈ps.map (·.1):=by
 unfold pid
 rw [qX,qZ hi]
 exact List.mem_map.2 ⟨_,qI _,rfl⟩
theorem qhd {ps:List (Nat×Option Nat)} (hn:(ps.map (·.1)).Nodup) {i j:Nat} (hi:i<ps.length) (hj:j<ps.length) (h:pid ps i=pid ps j):i=j:=by
 unfold pid at h
 rw [qX,qZ hi,qX,qZ hj] at h
 have key:=List.pairwise_iff_getElem.1 hn
 rcases Nat.lt_trichotomy i j with hlt | he | hlt
 ·exact absurd (by rw [qL,qL];exact h) (key i j (by simpa using hi) (by simpa using hj) hlt)
 ·exact he
 ·exact absurd (by rw [qL,qL];exact h.symm) (key j i (by simpa using hj) (by simpa using hi) hlt)
theorem zjc {H:Heap} {o n:Nat} {ps:List (Nat×Option Nat)} {M:List (List Int)} (h:MatH H o ps n M) {i j:Nat} (hi:i<M.length) (hj:j<n) {z:Int} {u v:AV} (hz:zat z (.agg [u,v])) {cs:List AV} (hcs:getB H (pid ps i)=some cs):
  MatH (H.set (pid ps i) (some (setL cs (j*2) [u,v]))) o ps n (setM M i j z):=by
 have hnd:=h.nodup
 rw [qC] at hnd
 have hoi:pid ps i≠o:=fun e=>hnd.1 (e ▸ zhe (by rw [h.len];exact hi))
 refine ⟨by rw [zae hoi];exact h.outer,by rw [zcl];exact h.len,?_,?_,h.nodup⟩
 ·intro i' hi'
  rw [zcl] at hi'
  unfold setM
  rw [qX,xB]
  split
  ·rename_i e
   subst e
   show ((M.getD i []).set j z).length=n
   rw [xV];exact h.cols i hi
  ·rw [<-qX]
   exact h.cols i' hi'
 ·intro i' hi'
  rw [zcl] at hi'
  by_cases e:i=i'
  ·subst e
   obtain ⟨cs',h1,h2⟩:=h.rows i hi
   have:cs'=cs:=by
    have:=h1.symm.trans hcs
    simpa using this
   subst this
   refine ⟨_,zan (zag hcs),?_⟩
   unfold setM
   rw [qX,xY hi]
   exact zyy h2 j z u v (by rw [h.cols i hi];exact hj) hz
  ·obtain ⟨cs',h1,h2⟩:=h.rows i' hi'
   refine ⟨cs',?_,?_⟩
   ·show getB (List.set H (pid ps i) _) (pid ps i')=_
    rw [zae (fun e'=>e (qhd hnd.2 (by rw [h.len];exact hi) (by rw [h.len];exact hi') e'))]
    exact h1
   ·unfold setM
    rw [qX,yJ e,<-qX]
    exact h2
structure DS (n:Nat) (M:List (List Int)) (last:Int) (neg:Bool) (k:Nat) (E:Env) (H:Heap) (ps:List (Nat×Option Nat)) (b:Nat):Prop where
 mat:MatH H 1 ps n M
 rows:M.length=n
 e2:E 2= .ptr 0 0
 e3:E 3= .sl 1 0 n 1 (some n)
 e4:E 4= .int .i64 (n:Nat)
 e5:E 5= .ptr b 0
 e6:E 6= .bool neg
 e7:E 7= .int .i64 (k:Nat)
 last:∃u v,getB H b=some [u,v]/\zat last (.agg [u,v])
 res:∃u v,getB H 0=some [u,v]
 nodup:(0::b::1::ps.map (·.1)).Nodup
theorem DS.frame {n k b:Nat} {M:List (List Int)} {last:Int} {neg:Bool} {E E':Env} {H:Heap} {ps:List (Nat×Option Nat)} (h:DS n M last neg k E H ps b) (hE:∀t,t<8->E' t=E t):DS n M last neg k E' H ps b:=
 ⟨h.mat,h.rows,(hE 2 (by omega)).trans h.e2,(hE 3 (by omega)).trans h.e3,(hE 4 (by omega)).trans h.e4,(hE 5 (by omega)).trans h.e5,(hE 6 (by omega)).trans h.e6,(hE 7 (by omega)).trans h.e7,h.last,h.res,h.nodup⟩
theorem zjv {E:Env} {d:Nat} {v:AV} {t:Nat} (ht:t<8) (hd:8<=d):upd E d v t=E t:=by
 unfold upd;rw [if_neg (by omega)]
theorem zam {z:Int} {u v:AV} (h:zat z (.agg [u,v])):∃l c,u= .bool (decide (z<0))/\v= .vec (u32s l) l.length c:=by
 obtain ⟨l,c,_,_,_,e⟩:=h
 injection e with e
 injection e with e1 e2
 injection e2 with e2 _
 exact ⟨l,c,e1,e2⟩
theorem jbf {B n k i b:Nat} {last:Int} {neg:Bool} (hB:DivB B) (hn:n<=16) (hk:k<n) (hi:k<i/\i<n) {fin:List (List Int)} {Q:Post}:∀{E:Env} {H:Heap} {ps:List (Nat×Option Nat)} {M:List (List Int)},
  DS n M last neg k E H ps b->E 9= .int .i64 (i:Nat)->E 10= .int .i64 ((k+1:Nat):Int)->elJ B k i last (n-(k+1)) (k+1) M=some fin->
  (∀E' H',DS n fin last neg k E' H' ps b->E' 9= .int .i64 (i:Nat)->Q (.exit 6) E' H')->Wg 0 125 (.loop l98_3) E H Q:=by
 intro E H ps M hD h9 h10 hf hQ
 refine zai (fun m E H=>∃j M,j+m=n/\k<j/\DS n M last neg k E H ps b/\E 9= .int .i64 (i:Nat)/\E 10= .int .i64 (j:Nat)/\elJ B k i last m j M=some fin) (n:=n-(k+1)) ⟨k+1,M,by omega,by omega,hD,h9,h10,hf⟩ ?_
 clear hD h9 h10 hf M E H
 rintro m E H ⟨j,M,hjm,hkj,hD,h9,h10,hf⟩
 refine wM ?_
 obtain ⟨hM,hrows,e2,e3,e4,e5,e6,e7,⟨lu,lv,hlast,hl⟩,⟨ru,rv,hres⟩,hnd⟩:=hD
 simp only [l98_3,r98_17,SS,reduceIte,qQ,e4,h10]
 refine ⟨fun hlt=>?_,fun hge=>?_⟩
 ·obtain ⟨m,rfl⟩:∃m',m=m'+1:=⟨m-1,by omega⟩
  have hj:j<n:=by omega
  simp only [elJ,qU] at hf
  obtain ⟨z,hz,hf⟩:=hf
  obtain ⟨b0,b1,b2,b3,b4,hzz,b5⟩:=ztz hz
  obtain ⟨csi,gi,li,ri,fi⟩:=zen hM (i:=i) (by omega)
  obtain ⟨csk,gk,lk,rk,fk⟩:=zen hM (i:=k) (by omega)
  obtain ⟨u1,v1,x1,y1⟩:=fk k hk
  obtain ⟨u2,v2,x2,y2⟩:=fi j hj
  obtain ⟨u3,v3,x3,y3⟩:=fi k hk
  obtain ⟨u4,v4,x4,y4⟩:=fk j hj
  obtain ⟨p,hp,t1⟩:=zMul y1 y2 (qB b2 hB.1)
  obtain ⟨q,hq,t2⟩:=zMul y3 y4 (qB b3 hB.1)
  obtain ⟨s,hs,t3⟩:=zSub hp hq (qB b4 hB.1)
  obtain ⟨d,hd,t4⟩:=zQuo hs hl b0 (hB.2 _ _ b4 b1 b0) (by rw [<-hzz];exact qB b5 hB.1)
  rw [<-hzz] at hd
  have oi:=zca (ps:=ps) (n:=n) (i:=i) (by rw [hM.len];omega)
  have ok:=zca (ps:=ps) (n:=n) (i:=k) (by rw [hM.len];omega)
  have hol:(ps.map (zck n)).length=n:=by rw [qM,hM.len];exact hrows
  have hou:=hM.outer
  have hpc:=hp.closed
  have hqc:=hq.closed
  have hsc:=hs.closed
  have w5:=wS1 j (by omega)
  have hd0:=hd
  obtain ⟨ld,cd,_,_,_,rfl⟩:=hd0
  have hdr:(lu,lv)=(lu,lv):=rfl
  have hlast2:([lu,lv].drop 0).take 2=[lu,lv]:=rfl
  have c1:qJ [.agg [u1,v1],.agg [u2,v2]]=true:=by
   simp only [qJ,y1.closed,y2.closed,qA]
  have c2:qJ [.agg [u3,v3],.agg [u4,v4]]=true:=by
   simp only [qJ,y3.closed,y4.closed,qA]
  have c3:qJ [p,q]=true:=by simp only [qJ,hpc,hqc,qA]
  have c4:qJ [s,.agg [lu,lv]]=true:=by simp only [qJ,hsc,hl.closed,qA]
  simp only [r98_18,SS,fC,reduceIte,qQ,e3,e7,h9,h10,qW,hou,hol,oi,ok,gi,gk,li,lk,x1,x2]
  refine ⟨⟨by omega,by omega⟩,by omega,⟨by omega,by omega⟩,by omega,⟨by omega,by omega⟩,by omega,⟨by omega,by omega⟩,by omega,⟨by omega,by omega⟩,by omega,?_⟩
  refine zaa t1 ?_ c1 hpc
  simp only [SS,fC,reduceIte,qQ,e3,e7,h9,h10,qW,hou,hol,oi,ok,gi,gk,li,lk,x3,x4]
  refine ⟨⟨by omega,by omega⟩,by omega,⟨by omega,by omega⟩,by omega,⟨by omega,by omega⟩,by omega,⟨by omega,by omega⟩,by omega,?_⟩
  refine zaa t2 ?_ c2 hqc
  simp only [SS,reduceIte,qQ]
  refine zaa t3 ?_ c3 hsc
  simp only [SS,reduceIte,qY,qQ,qK,e5,hlast]
  refine zaa t4 ?_ c4
  simp only [SS,reduceIte,qY,qQ,qW,gi,li]
  refine ⟨⟨by omega,by omega⟩,by omega,rfl,?_⟩
  have hs2:((csi.set (j*2) (AV.bool (decide (z<0)))).set (j*2+1) (AV.vec (u32s ld) ld.length cd))=setL csi (j*2) [AV.bool (decide (z<0)),AV.vec (u32s ld) ld.length cd]:=rfl
  rw [hs2]
  simp only [r98_19,SS,reduceIte,qQ,h10,w5]
  have hnd2:=hnd
  simp only [qC,qR,not_or] at hnd2
  have hpi:pid ps i∈ps.map (·.1):=zhe (by rw [hM.len];omega)
  have hpi0:pid ps i≠0:=fun e=>hnd2.1.2.2 (e ▸ hpi)
  have hpib:pid ps i≠b:=fun e=>hnd2.2.1.2 (e ▸ hpi)
  refine ⟨m,_,_,by omega,⟨j+1,setM M i j z,by omega,by omega,⟨zjc hM (by omega) hj hd gi,by rw [zcl];exact hrows,?_,?_,?_,?_,?_,?_,⟨lu,lv,?_,hl⟩,⟨ru,rv,?_⟩,hnd⟩,?_,?_,hf⟩,.refl⟩
  ·simp only [UU,qQ,e2]
  ·simp only [UU,qQ,e3]
  ·simp only [UU,qQ,e4]
  ·simp only [UU,qQ,e5]
  ·simp only [UU,qQ,e6]
  ·simp only [UU,qQ,e7]
  ·rw [zae hpib];exact hlast
  ·rw [zae hpi0];exact hres
  ·simp only [UU,qQ,h9]
  ·simp only [UU,qQ,reduceIte]
 ·have hk2:m=0:=by omega
  subst hk2
  simp only [elJ,qE] at hf
  subst hf
  refine hQ _ _ (DS.frame (E:=E) ⟨hM,hrows,e2,e3,e4,e5,e6,e7,⟨lu,lv,hlast,hl⟩,⟨ru,rv,hres⟩,hnd⟩ (fun t ht=>?_)) ?_
  ·repeat rw [zjv ht (by decide)]
  ·simp only [UU,qQ,h9]
theorem qyu {B n k b:Nat} {last:Int} {neg:Bool} (hB:DivB B) (hn:n<=16) (hk:k<n) {fin:List (List Int)} {Q:Post} {E:Env} {H:Heap} {ps:List (Nat×Option Nat)} {M:List (List Int)}
  (hD:DS n M last neg k E H ps b) (h9:E 9= .int .i64 ((k+1:Nat):Int)) (hf:elI B n k last (n-(k+1)) (k+1) M=some fin)
  (hQ:∀E' H',DS n fin last neg k E' H' ps b->Q (.exit 4) E' H'):Wg 0 125 (.loop l98_2) E H Q:=by
 refine zai (fun m E H=>∃i M,i+m=n/\k<i/\DS n M last neg k E H ps b/\E 9= .int .i64 (i:Nat)/\elI B n k last m i M=some fin) (n:=n-(k+1)) ⟨k+1,M,by omega,by omega,hD,h9,hf⟩ ?_
 clear hD h9 hf M E H
 rintro m E H ⟨i,M,him,hki,hD,h9,hf⟩
 refine wM ?_
 have hD0:=hD
 obtain ⟨hM,hrows,e2,e3,e4,e5,e6,e7,hlast,hres,hnd⟩:=hD
 simp only [l98_2,r98_15,SS,reduceIte,qQ,e4,h9]
 refine ⟨fun hlt=>?_,fun hge=>?_⟩
 ·obtain ⟨m,rfl⟩:∃m',m=m'+1:=⟨m-1,by omega⟩
  simp only [elI,qU] at hf
  obtain ⟨M',hf1,hf2⟩:=hf
  have w5:=wS1 i (by omega)
  have w6:=wS1 k (by omega)
  simp only [r98_16,SS,reduceIte,qQ,e7,w6]
  refine jbf hB hn hk ⟨hki,by omega⟩ (ps:=ps) (b:=b) (last:=last) (neg:=neg) (i:=i) (hD0.frame (fun t ht=>?_)) ?_ ?_ hf1 (fun E1 H1 hD1 f9=>?rest)
  case rest=>
   simp only [r98_20,SS,reduceIte,qQ,f9,w5]
   refine ⟨m,_,_,by omega,⟨i+1,M',by omega,by omega,hD1.frame (fun t ht=>?_),?_,hf2⟩,.refl⟩
   ·repeat rw [zjv ht (by decide)]
   ·simp only [UU,qQ,reduceIte]
  ·repeat rw [zjv ht (by decide)]
  ·simp only [UU,qQ,h9]
  ·simp only [UU,qQ,reduceIte]
 ·have hk2:m=0:=by omega
  subst hk2
  simp only [elI,qE] at hf
  subst hf
  refine hQ _ _ (hD0.frame (fun t ht=>?_))
  repeat rw [zjv ht (by decide)]
theorem jbg {n k b:Nat} {last:Int} {neg:Bool} (hn:n<=16) (hk:k<n) {Q:Post} {E:Env} {H:Heap} {ps:List (Nat×Option Nat)} {M:List (List Int)}
  (hD:DS n M last neg k E H ps b) (h8:E 8= .int .i64 (k:Nat))
  (hQ:∀E',DS n M last neg k E' H ps b->E' 8= .int .i64 (piv M k (n-k) k:Nat)->Q (.exit 2) E' H):Wg 0 125 (.loop l98_1) E H Q:=by
 refine zai (fun m E H'=>∃p,p+m=n/\k<=p/\H'=H/\DS n M last neg k E H ps b/\E 8= .int .i64 (p:Nat)/\piv M k m p=piv M k (n-k) k) (n:=n-k) ⟨k,by omega,by omega,rfl,hD,h8,rfl⟩ ?_
 clear hD h8 E
 rintro m E H' ⟨p,hpm,hkp,rfl,hD,h8,hp⟩
 refine wM ?_
 have hD0:=hD
 obtain ⟨hM,hrows,e2,e3,e4,e5,e6,e7,hlast,hres,hnd⟩:=hD
 cases m with
 | zero=>
  have d1:decide ((p:Int)<(n:Nat))=false:=decide_eq_false (by omega)
  simp only [l98_1,r98_7,SS,fC,reduceIte,qQ,e4,h8,d1]
  simp only [piv] at hp
  refine hQ _ (hD0.frame (fun t ht=>?_)) ?_
  ·repeat rw [zjv ht (by decide)]
  ·simp only [UU,qQ,h8,hp]
 | succ m=>
  have d1:decide ((p:Int)<(n:Nat))=true:=decide_eq_true (by omega)
  obtain ⟨csp,gp,lp,rp,fp⟩:=zen hM (i:=p) (by omega)
  obtain ⟨u,v,x,y⟩:=fp k hk
  have op:=zca (ps:=ps) (n:=n) (i:=p) (by rw [hM.len];omega)
  have hol:(ps.map (zck n)).length=n:=by rw [qM,hM.len];exact hrows
  have hou:=hM.outer
  have t:=ztv y
  have c1:qJ [.agg [u,v]]=true:=by simp only [qJ,y.closed,qA]
  have w5:=wS1 p (by omega)
  simp only [l98_1,r98_7,SS,fC,reduceIte,qQ,e3,e4,e7,h8,d1,qW,hou,hol,op,gp,lp,x]
  refine ⟨⟨by omega,by omega⟩,by omega,⟨by omega,by omega⟩,by omega,?_⟩
  refine zaa t ?_ c1
  simp only [SS,fC,reduceIte,qQ]
  simp only [piv] at hp
  refine ⟨fun h0=>?_,fun h0=>?_⟩
  ·have h0:ent M p k=0:=Int.sign_eq_zero_iff_zero.1 h0
   rw [if_pos h0] at hp
   simp only [r98_8,SS,reduceIte,qQ,h8,w5]
   refine ⟨m,_,_,by omega,⟨p+1,by omega,by omega,rfl,hD0.frame (fun t ht=>?_),?_,hp⟩,.refl⟩
   ·repeat rw [zjv ht (by decide)]
   ·simp only [UU,qQ,reduceIte]
  ·have h0:¬ent M p k=0:=fun e=>h0 (by rw [e];rfl)
   rw [if_neg h0] at hp
   refine hQ _ (hD0.frame (fun t ht=>?_)) ?_
   ·repeat rw [zjv ht (by decide)]
   ·simp only [UU,qQ,h8,hp]
def zfd (ps:List (Nat×Option Nat)) (p k:Nat):List (Nat×Option Nat):=(ps.set p (ps.getD k (0,none))).set k (ps.getD p (0,none))
theorem zns {α:Type} {l:List α} {p k i:Nat} {d:α} (hp:p<l.length) (hk:k<l.length):((l.set p (l.getD k d)).set k (l.getD p d)).getD i d=l.getD (if i=k then p else if i=p then k else i) d:=by
 rw [qX,xB]
 by_cases h1:k=i
 ·subst h1
  rw [if_pos rfl,if_pos (by simpa using hk),if_pos rfl];rfl
 ·rw [if_neg h1,if_neg (fun e=>h1 e.symm),xB]
  by_cases h2:p=i
  ·subst h2
   rw [if_pos rfl,if_pos hp,if_pos rfl];rfl
  ·rw [if_neg h2,if_neg (fun e=>h2 e.symm),qX]
theorem zzc {H:Heap} {o n:Nat} {ps:List (Nat×Option Nat)} {M:List (List Int)} (h:MatH H o ps n M) {p k:Nat} (hp:p<M.length) (hk:k<M.length):
  MatH (H.set o (some (((ps.map (zck n)).set p (.sl (pid ps k) 0 n 2 (ps.getD k (0,none)).2)).set k (.sl (pid ps p) 0 n 2 (ps.getD p (0,none)).2)))) o (zfd ps p k) n (zdc M p k)/\(∀x,x∈(zfd ps p k).map (·.1)↔x∈ps.map (·.1))/\((zfd ps p k).map (·.1)).Nodup:=by
 have hnd:=h.nodup
 rw [qC] at hnd
 have hlen:=h.len
 have hidx:∀i,i<M.length->(if i=k then p else if i=p then k else i)<M.length:=by
  intro i hi;split
  ·exact hp
  ·split<;>omega
 have hpid:∀i,pid (zfd ps p k) i=pid ps (if i=k then p else if i=p then k else i):=by
  intro i
  unfold pid zfd
  rw [zns (by omega) (by omega)]
 have hsl:(zfd ps p k).length=ps.length:=by simp [zfd]
 have hmem:∀x,x∈(zfd ps p k).map (·.1)↔x∈ps.map (·.1):=by
  intro x
  constructor
  ·intro hx
   obtain ⟨q,hq,rfl⟩:=List.mem_map.1 hx
   unfold zfd at hq
   rcases xI hq with hq | rfl
   ·rcases xI hq with hq | rfl
    ·exact List.mem_map.2 ⟨q,hq,rfl⟩
    ·exact zhe (i:=k) (by omega)
   ·exact zhe (i:=p) (by omega)
  ·intro hx
   obtain ⟨q,hq,rfl⟩:=List.mem_map.1 hx
   obtain ⟨i,hi,rfl⟩:=List.mem_iff_getElem.1 hq
   have e:=hpid (if i=k then p else if i=p then k else i)
   have e2:(if (if i=k then p else if i=p then k else i)=k then p else if (if i=k then p else if i=p then k else i)=p then k else (if i=k then p else if i=p then k else i))=i:=by
    by_cases h1:i=k
    ·subst h1
     rw [if_pos rfl]
     by_cases h2:p=i
     ·rw [if_pos h2];exact h2
     ·rw [if_neg h2,if_pos rfl]
    ·rw [if_neg h1]
     by_cases h2:i=p
     ·subst h2
      rw [if_pos rfl,if_pos rfl]
     ·rw [if_neg h2,if_neg h1,if_neg h2]
   rw [e2] at e
   have e3:pid ps i=ps[i].1:=by unfold pid;rw [qX,qZ hi];rfl
   rw [<-e3,<-e]
   exact zhe (by rw [hsl,hlen];exact hidx i (by omega))
 have hnd2:((zfd ps p k).map (·.1)).Nodup:=by
  refine List.pairwise_iff_getElem.2 (fun i j hi hj hij=>?_)
  rw [qL,qL]
  simp only [qM,hsl] at hi hj
  have e1:(zfd ps p k)[i]'(by rw [hsl];exact hi)=(zfd ps p k).getD i (0,none):=by rw [qX,qZ (by rw [hsl];exact hi)];rfl
  have e2:(zfd ps p k)[j]'(by rw [hsl];exact hj)=(zfd ps p k).getD j (0,none):=by rw [qX,qZ (by rw [hsl];exact hj)];rfl
  rw [e1,e2]
  intro e
  have e':pid (zfd ps p k) i=pid (zfd ps p k) j:=e
  rw [hpid,hpid] at e'
  have:=qhd hnd.2 (by rw [hlen];exact hidx i (by omega)) (by rw [hlen];exact hidx j (by omega)) e'
  revert this
  by_cases h1:i=k
  ·by_cases h3:j=p
   ·rw [if_pos h1,if_neg (show ¬j=k by omega),if_pos h3];omega
   ·rw [if_pos h1,if_neg (show ¬j=k by omega),if_neg h3];omega
  ·by_cases h2:i=p
   ·by_cases h3:j=k
    ·rw [if_neg h1,if_pos h2,if_pos h3];omega
    ·rw [if_neg h1,if_pos h2,if_neg h3,if_neg (show ¬j=p by omega)];omega
   ·by_cases h3:j=k
    ·rw [if_neg h1,if_neg h2,if_pos h3];omega
    ·by_cases h4:j=p
     ·rw [if_neg h1,if_neg h2,if_neg h3,if_pos h4];omega
     ·rw [if_neg h1,if_neg h2,if_neg h3,if_neg h4];omega
 refine ⟨⟨?_,?_,?_,?_,?_⟩,hmem,hnd2⟩
 ·rw [zan (zag h.outer)]
  have e1:AV.sl (pid ps k) 0 n 2 (ps.getD k (0,none)).2=zck n (ps.getD k (0,none)):=rfl
  have e2:AV.sl (pid ps p) 0 n 2 (ps.getD p (0,none)).2=zck n (ps.getD p (0,none)):=rfl
  rw [e1,e2,<-List.map_set,<-List.map_set];rfl
 ·rw [hsl,hlen];simp [zdc]
 ·intro i hi
  have hi:i<M.length:=by simpa [zdc] using hi
  unfold zdc
  rw [zns hp hk]
  exact h.cols _ (hidx i hi)
 ·intro i hi
  have hi:i<M.length:=by simpa [zdc] using hi
  obtain ⟨cs,h1,h2⟩:=h.rows _ (hidx i hi)
  refine ⟨cs,?_,?_⟩
  ·show getB _ (pid (zfd ps p k) i)=_
   have hne:o≠pid ps (if i=k then p else if i=p then k else i):=fun e=>hnd.1 (by rw [e];exact zhe (by rw [hlen];exact hidx i hi))
   rw [hpid,zae hne]
   exact h1
  ·unfold zdc
   rw [zns hp hk]
   exact h2
 ·rw [qC]
  exact ⟨fun hm=>hnd.1 ((hmem _).1 hm),hnd2⟩
def zpl:Nat->Nat->List Nat
 | 0,_=>[]
 | f+1,n=>if n=0 then [] else n%4294967296::zpl f (n/4294967296)
def zcf (n:Nat):List Nat:=zpl n n
theorem zua:∀f n,n<=f->zcc (zpl f n)/\val (zpl f n)=n:=by
 intro f
 induction f with
 | zero=>intro n h;have:n=0:=by omega
         subst this;exact ⟨zcc.nil,rfl⟩
 | succ f ih=>
  intro n h
  unfold zpl
  by_cases h0:n=0
  ·rw [if_pos h0,h0];exact ⟨zcc.nil,rfl⟩
  ·rw [if_neg h0]
   obtain ⟨h1,h2⟩:=ih (n/4294967296) (by omega)
   refine ⟨⟨Dig.cons (Nat.mod_lt _ (by decide)) h1.1,?_⟩,?_⟩
   ·cases e:zpl f (n/4294967296) with
    | nil=>
     rw [e] at h2
     have:n/4294967296=0:=h2.symm
     show n%4294967296≠0
     omega
    | cons d r=>
     have:=h1.2
     rw [e] at this
     exact this
   ·rw [Limb.val,h2];omega
theorem zbx (n:Nat):zcc (zcf n):=(zua n n (qD _)).1
theorem zcw (n:Nat):val (zcf n)=n:=(zua n n (qD _)).2
def intV (z:Int):AV:= .agg [.bool (decide (z<0)),.vec (u32s (zcf z.natAbs)) (zcf z.natAbs).length none]
theorem qhe (l:List Nat):AV.wk.wkL (u32s l)=u32s l:=by
 induction l with
 | nil=>rfl
 | cons d l ih=>show AV.wk (.int .u32 d)::AV.wk.wkL (u32s l)=_;rw [ih];rfl
theorem zat.wk {z:Int} {a:AV} (h:zat z a):a.wk=intV z:=by
 obtain ⟨l,c,hc,_,hv,rfl⟩:=h
 have:l=zcf z.natAbs:=zhc hc (zbx _) (hv.trans (zcw _).symm)
 subst this
 simp only [AV.wk,AV.wk.wkL,qhe,intV]
theorem zbo {z:Int} (h:z.natAbs<BIG):zat z (intV z):=
 ⟨zcf z.natAbs,none,zbx _,canon_len (zbx _) (by rw [zcw];exact h),zcw _,rfl⟩
theorem zbm (k i:Nat):zak [] k i=k+i:=by simp [zak]
theorem zgh {H:Heap} (σ:Nat->Nat) (hσ:∀i,σ i=H.length+i):∀(L X:Heap),zad (effs σ X.length L) (H++(X++List.replicate L.length none))=H++(X++L.map (renB σ)):=by
 intro L
 induction L with
 | nil=>intro X;simp [effs,zad]
 | cons c L ih=>
  intro X
  simp only [effs,zad,List.length_cons,xE]
  have e:(H++(X++none::List.replicate L.length none)).set (σ X.length) (renB σ c)=H++((X++[renB σ c])++List.replicate L.length none):=by
   rw [hσ,qO _ _ (by omega),xP,qO _ _ (qD _),xU]
   simp
  rw [e]
  have:=ih (X++[renB σ c])
  rw [xH,yZ] at this
  rw [this]
  simp
theorem zdq {f:FuncId} {args:List AV} {v:AV} {H H0:Heap} {K:AV->Eff->List Nat->Nat->Prop} (h:Rt f args [] v H0) (ha:qJ args=true)
  (hk:K (v.ren (zak [] H.length)) (effs (zak [] H.length) 0 H0) [] H0.length):zlt Tryz.prog G f args H K:=by
 refine ⟨_,_,_,_,?_,hk⟩
 have:=CallR0.mk (P:= Tryz.prog) (Γ:=G) (f:=f) (args:=args) (k:=H.length) (H:=H++List.replicate H0.length none) [] args [] v H0 h rfl .nil (by simp) (zar _ _ ha).symm (zbd _ _ ha) (by intro i c h;simp at h)
 exact .base this
theorem zzd {H L:Heap} {σ:Nat->Nat} {i:Nat} {cs:List AV} (h:getB L i=some cs):getB (H++L.map (renB σ)) (H.length+i)=some (cs.map (AV.ren σ)):=by
 unfold getB at h ⊢
 rw [qH (by omega),xP,qG]
 cases hx:L[i]? with
 | none=>rw [hx] at h;simp at h
 | some c=>
  rw [hx] at h
  cases c with
  | none=>simp at h
  | some c=>simp at h;subst h;rfl
theorem zjw {H L:Heap} {n:Nat} {ps:List (Nat×Option Nat)} {M:List (List Int)} (h:MatH L 0 ps n M):MatH (H++L.map (renB (zak [] H.length))) H.length (ps.map fun p=>(H.length+p.1,p.2)) n M:=by
 have hp:∀i,i<ps.length->pid (ps.map fun p=>(H.length+p.1,p.2)) i=H.length+pid ps i:=by
  intro i hi
  unfold pid
  rw [qX,qG,qZ hi,qX,qZ hi];rfl
 refine ⟨?_,by rw [qM];exact h.len,h.cols,?_,?_⟩
 ·have:=zzd (H:=H) (σ:=zak [] H.length) h.outer
  rw [yV] at this
  rw [this,xR,xR]
  have e:(AV.ren (zak [] H.length) ∘ zck n)=(zck n ∘ fun p=>(H.length+p.1,p.2)):=by
   funext p
   simp [zck,AV.ren,zbm]
  rw [e]
 ·intro i hi
  obtain ⟨cs,h1,h2⟩:=h.rows i hi
  refine ⟨cs,?_,h2⟩
  show getB _ (pid _ i)=_
  have h1':getB L (pid ps i)=some cs:=h1
  rw [hp i (by rw [h.len];exact hi),zzd h1',zar _ _ (zwu h2)]
 ·have hnd:=h.nodup
  rw [qC] at hnd ⊢
  rw [xR]
  refine ⟨?_,?_⟩
  ·intro hm
   obtain ⟨p,hp,e⟩:=List.mem_map.1 hm
   have e:H.length+p.1=H.length:=e
   exact hnd.1 (List.mem_map.2 ⟨p,hp,by omega⟩)
  ·refine List.pairwise_iff_getElem.2 (fun i j hi hj hij=>?_)
   have:=List.pairwise_iff_getElem.1 hnd.2 i j (by simpa using hi) (by simpa using hj) hij
   rw [qL,qL] at this ⊢
   simp only [Function.comp]
   omega
theorem quq {H X:Heap} {o n:Nat} {ps:List (Nat×Option Nat)} {M:List (List Int)} (h:MatH H o ps n M):MatH (H++X) o ps n M:=
 ⟨by rw [zcb (zag h.outer)];exact h.outer,h.len,h.cols,fun i hi=>by
  obtain ⟨cs,h1,h2⟩:=h.rows i hi
  exact ⟨cs,by rw [zcb (zag h1)];exact h1,h2⟩,h.nodup⟩
theorem zub {H:Heap} {o n x:Nat} {y:Option (List AV)} {ps:List (Nat×Option Nat)} {M:List (List Int)} (h:MatH H o ps n M) (h1:x≠o) (h2:x∉ps.map (·.1)):MatH (H.set x y) o ps n M:=
 ⟨by rw [zae h1];exact h.outer,h.len,h.cols,fun i hi=>by
  obtain ⟨cs,g1,g2⟩:=h.rows i hi
  refine ⟨cs,?_,g2⟩
  have hne:x≠(ps.getD i (0,none)).1:=fun e=>h2 (by rw [e];exact zhe (ps:=ps) (by rw [h.len];exact hi))
  rw [zae hne];exact g1,h.nodup⟩
theorem mDet {B:Nat} {M:List (List Int)} {a:AV} {d:Int} (hB:DivB B) (h:MatV M a) (hN:1<=M.length/\M.length<=16) (hc:∀i,i<M.length->(M.getD i []).length=M.length) (hd:detO B M=some d):
  Rt 98 [a] [] (intV d) []:=by
 obtain ⟨ps0,L,hL,tc⟩:=qys h ⟨hN.1,hN.2⟩ hN.2 hc
 obtain ⟨v1,hv1,ts⟩:=zey 1 (by omega) (by omega)
 have ha:qJ [a]=true:=by
  obtain ⟨rows,c,rfl,_⟩:=h;rfl
 have hv1':=hv1
 obtain ⟨l1,c1,_,_,_,rfl⟩:=hv1'
 refine oFw o98 ?_
 simp only [c98,r98_0,r98_1,SS,reduceCtorEq,reduceIte]
 refine zdq tc ha ?_
 simp only [zaj,SS,reduceIte,qQ,AV.ren,zbm,yV]
 have hH1:zad (effs (zak [] 1) 0 L) (some [AV.bool false,AV.vec [] 0 (some 0)]::List.replicate (List.length L) none)=some [AV.bool false,AV.vec [] 0 (some 0)]::L.map (renB (zak [] 1)):=
  zgh (H:=[some [AV.bool false,AV.vec [] 0 (some 0)]]) (zak [] 1) (fun i=>zbm 1 i) L []
 rw [hH1]
 have hM1:MatH (some [AV.bool false,AV.vec [] 0 (some 0)]::L.map (renB (zak [] 1))) 1 (ps0.map fun p=>(1+p.1,p.2)) M.length M:=zjw (H:=[some [AV.bool false,AV.vec [] 0 (some 0)]]) hL
 generalize hHH:(some [AV.bool false,AV.vec [] 0 (some 0)]::L.map (renB (zak [] 1)):Heap)=H1 at*
 have g0:getB H1 0=some [AV.bool false,AV.vec [] 0 (some 0)]:=by rw [<-hHH];rfl
 have hlt0:=zag g0
 simp only [r98_2,r98_3,SS,reduceIte,qQ]
 refine zaa ts ?_
 simp only [SS,reduceIte,qY,qQ,qK,zbz,zro]
 simp only [r98_4,SS]
 have hlast0:=hv1
 have hM2:=quq (X:=[some [AV.bool (decide ((1:Int)<0)),AV.vec (u32s l1) l1.length c1]]) hM1
 have hids:∀x∈(ps0.map fun p=>(1+p.1,p.2)).map (·.1),2<=x/\x<H1.length:=by
  intro x hx
  have hnd:=hL.nodup
  rw [qC] at hnd
  rw [xR] at hx
  obtain ⟨p,hp,rfl⟩:=List.mem_map.1 hx
  have hp0:p.1≠0:=fun e=>hnd.1 (List.mem_map.2 ⟨p,hp,e⟩)
  refine ⟨by show 2<=1+p.1;omega,?_⟩
  obtain ⟨i,hi,e⟩:=List.mem_iff_getElem.1 hp
  obtain ⟨cs,h1,_⟩:=hM1.rows i (by rw [<-hL.len];exact hi)
  have:=zag h1
  rw [qX,qG,qZ hi,e] at this
  exact this
 have hnd0:(0::H1.length::1::(ps0.map fun p=>(1+p.1,p.2)).map (·.1)).Nodup:=by
  have hn1:=hM1.nodup
  have h1lt:=zag hM1.outer
  rw [qC,qC]
  refine ⟨?_,?_,hn1⟩
  ·intro hm
   rcases List.mem_cons.1 hm with e | hm
   ·omega
   ·rcases List.mem_cons.1 hm with e | hm
    ·omega
    ·have:=hids _ hm;omega
  ·intro hm
   rcases List.mem_cons.1 hm with e | hm
   ·omega
   ·have:=hids _ hm;omega
 refine zai (fun m E H=>∃k M' last neg ps,k+m=M.length/\DS M.length M' last neg k E H ps H1.length/\detG B M.length m k M' last neg=some d) (n:=M.length) ⟨0,M,1,false,_,by omega,⟨hM2,rfl,?_,?_,?_,?_,?_,?_,⟨_,_,zbz,hlast0⟩,⟨_,_,(zcb hlt0).trans g0⟩,hnd0⟩,hd⟩ ?_
 ·simp only [UU,qQ,reduceIte]
 ·simp only [UU,qQ,reduceIte]
 ·simp only [UU,qQ,reduceIte]
 ·simp only [UU,qQ,reduceIte]
 ·simp only [UU,qQ,reduceIte]
 ·simp only [UU,qQ,reduceIte];rfl
 rintro m E H ⟨k,M',last,neg,ps,hkm,hD,hdet⟩
 have hD0:=hD
 obtain ⟨hM,hrows,e2,e3,e4,e5,e6,e7,⟨lu,lv,hlast,hl⟩,⟨ru,rv,hres⟩,hnd⟩:=hD
 refine wM ?_
 simp only [l98_0,r98_5,SS,reduceCtorEq,reduceIte,qQ,e4,e7]
 refine ⟨fun hlt=>?_,fun hge=>?_⟩
 ·obtain ⟨m,rfl⟩:∃m',m=m'+1:=⟨m-1,by omega⟩
  have hk:k<M.length:=by omega
  simp only [detG] at hdet
  have hpl:=qrh (M:=M') (k:=k) (m:=M.length-k) (p:=k)
  have w6:=wS1 k (by omega)
  simp only [r98_6,SS,reduceIte,qQ,e7]
  refine jbg hN.2 hk (hD0.frame (fun t ht=>?_)) ?_ (fun E1 hD1 f8=>?rest)
  case rest=>
   generalize hpv:piv M' k (M.length-k) k=p at*
   have hD10:=hD1
   obtain ⟨hM3,hrows3,f2,f3,f4,f5,f6,f7,⟨lu3,lv3,hlast3,hl3⟩,⟨ru3,rv3,hres3⟩,hnd3⟩:=hD1
   simp only [r98_9,SS,reduceCtorEq,reduceIte,qQ,f4,f8]
   refine ⟨fun hpn=>?_,fun hpn=>?_⟩
   ·have hpn:p=M.length:=by omega
    rw [if_pos hpn,qE] at hdet
    subst hdet
    simp only [r98_10,SS,reduceIte,qY,qQ,qK,f2,hres3]
    refine ⟨.inl trivial,_,_,zep (id:=0) (by simp only [UU,qQ,f2]) (zan (zag hres3)),.drop _ _ rfl (by intro i cs h;omega),rfl⟩
   ·have hpn:p≠M.length:=by omega
    rw [if_neg hpn,qU] at hdet
    obtain ⟨M2,hel,hdet⟩:=hdet
    by_cases hkp:k<p
    ·rw [if_pos hkp] at hel hdet
     have d1:decide ((k:Int)<(p:Nat))=true:=decide_eq_true (by omega)
     have ok3:=zca (ps:=ps) (n:=M.length) (i:=k) (by rw [hM3.len];omega)
     have op3:=zca (ps:=ps) (n:=M.length) (i:=p) (by rw [hM3.len];omega)
     have hol3:(ps.map (zck M.length)).length=M.length:=by rw [qM,hM3.len];exact hrows3
     have hou3:=hM3.outer
     obtain ⟨hMs,hmem,hnds⟩:=zzc hM3 (p:=p) (k:=k) (by omega) (by omega)
     simp only [r98_11,SS,fC,reduceIte,qQ,f7,f8,d1]
     simp only [r98_12,SS,fC,reduceIte,qQ,f3,f7,f8,qW,hou3,hol3,ok3,op3]
     have gs:getB (List.set H 1 (some ((List.map (zck M.length) ps).set p (AV.sl (pid ps k) 0 M.length 2 (ps.getD k (0,none)).snd)))) 1=some ((List.map (zck M.length) ps).set p (AV.sl (pid ps k) 0 M.length 2 (ps.getD k (0,none)).snd)):=zan (zag hou3)
     simp only [SS,gs,xV,hol3,yW]
     refine ⟨⟨by omega,by omega⟩,by omega,⟨by omega,by omega⟩,by omega,⟨by omega,by omega⟩,by omega,⟨by omega,by omega⟩,by omega,rfl,?_⟩
     simp only [r98_13,SS,reduceIte,qQ,f6]
     simp only [r98_14,SS,reduceIte,qQ,f7,w6]
     have hnd6:=hnd3
     simp only [qC,qR,not_or] at hnd6
     have hnd7:(0::H1.length::1::(zfd ps p k).map (·.1)).Nodup:=by
      simp only [qC,qR,not_or]
      exact ⟨⟨hnd6.1.1,hnd6.1.2.1,fun hm=>hnd6.1.2.2 ((hmem _).1 hm)⟩,⟨hnd6.2.1.1,fun hm=>hnd6.2.1.2 ((hmem _).1 hm)⟩,fun hm=>hnd6.2.2.1 ((hmem _).1 hm),hnds⟩
     refine qyu hB hN.2 hk (ps:=zfd ps p k) (b:=H1.length) (last:=last) (neg:=!neg) (M:=zdc M' p k) ⟨hMs,by simp [zdc,hrows3],?_,?_,?_,?_,?_,?_,⟨lu3,lv3,?_,hl3⟩,⟨ru3,rv3,?_⟩,hnd7⟩ ?_ hel (fun E3 H3 hD3=>?rest2)
     case rest2=>
      obtain ⟨hM4,hrows4,g2,g3,g4,g5,g6,g7,⟨lu4,lv4,hlast4,hl4⟩,⟨ru4,rv4,hres4⟩,hnd4⟩:=hD3
      obtain ⟨csk,gk,lk,rk,fk⟩:=zen hM4 (i:=k) (by omega)
      obtain ⟨u,v,hx,hy⟩:=fk k hk
      have ok:=zca (ps:=zfd ps p k) (n:=M.length) (i:=k) (by rw [hM4.len];omega)
      have hol:((zfd ps p k).map (zck M.length)).length=M.length:=by rw [qM,hM4.len];exact hrows4
      have hou:=hM4.outer
      obtain ⟨ly,cy,hy1,hy2⟩:=zam hy
      subst hy1 hy2
      simp only [r98_21,SS,fC,reduceCtorEq,reduceIte,qY,qQ,qK,g3,g5,g7,qW,hou,hol,ok,gk,lk,hx,hlast4]
      refine ⟨⟨by omega,by omega⟩,by omega,⟨by omega,by omega⟩,by omega,?_⟩
      simp only [r98_22,SS,reduceIte,qQ,g7,w6]
      have hnd5:=hnd4
      simp only [qC,qR,not_or] at hnd5
      refine ⟨m,_,_,by omega,⟨k+1,M2,_,(!neg),zfd ps p k,by omega,⟨zub hM4 (fun e=>hnd5.2.1.1 e) (fun hm=>hnd5.2.1.2 hm),hrows4,?_,?_,?_,?_,?_,?_,⟨_,_,zan (zag hlast4),hy⟩,⟨ru4,rv4,?_⟩,hnd4⟩,hdet⟩,.refl⟩
      ·simp only [UU,qQ,g2]
      ·simp only [UU,qQ,g3]
      ·simp only [UU,qQ,g4]
      ·simp only [UU,qQ,g5]
      ·simp only [UU,qQ,g6]
      ·simp only [UU,qQ,reduceIte]
      ·rw [zae (fun e=>hnd5.1.1 e.symm)];exact hres4
     ·simp only [UU,qQ,f2]
     ·simp only [UU,qQ,f3]
     ·simp only [UU,qQ,f4]
     ·simp only [UU,qQ,f5]
     ·simp only [UU,qQ,reduceIte]
     ·simp only [UU,qQ,f7]
     ·rw [zae (fun e=>hnd6.2.1.1 e.symm)];exact hlast3
     ·rw [zae (by decide)];exact hres3
     ·simp only [UU,qQ,reduceIte]
    ·rw [if_neg hkp] at hel hdet
     have d1:decide ((k:Int)<(p:Nat))=false:=decide_eq_false (by omega)
     simp only [r98_11,SS,fC,reduceIte,qQ,f7,f8,d1]
     simp only [r98_14,SS,reduceIte,qQ,f7,w6]
     refine qyu hB hN.2 hk (hD10.frame (fun t ht=>?_)) ?_ hel (fun E3 H3 hD3=>?rest2)
     case rest2=>
      obtain ⟨hM4,hrows4,g2,g3,g4,g5,g6,g7,⟨lu4,lv4,hlast4,hl4⟩,⟨ru4,rv4,hres4⟩,hnd4⟩:=hD3
      obtain ⟨csk,gk,lk,rk,fk⟩:=zen hM4 (i:=k) (by omega)
      obtain ⟨u,v,hx,hy⟩:=fk k hk
      have ok:=zca (ps:=ps) (n:=M.length) (i:=k) (by rw [hM4.len];omega)
      have hol:((ps).map (zck M.length)).length=M.length:=by rw [qM,hM4.len];exact hrows4
      have hou:=hM4.outer
      obtain ⟨ly,cy,hy1,hy2⟩:=zam hy
      subst hy1 hy2
      simp only [r98_21,SS,fC,reduceCtorEq,reduceIte,qY,qQ,qK,g3,g5,g7,qW,hou,hol,ok,gk,lk,hx,hlast4]
      refine ⟨⟨by omega,by omega⟩,by omega,⟨by omega,by omega⟩,by omega,?_⟩
      simp only [r98_22,SS,reduceIte,qQ,g7,w6]
      have hnd5:=hnd4
      simp only [qC,qR,not_or] at hnd5
      refine ⟨m,_,_,by omega,⟨k+1,M2,_,neg,ps,by omega,⟨zub hM4 (fun e=>hnd5.2.1.1 e) (fun hm=>hnd5.2.1.2 hm),hrows4,?_,?_,?_,?_,?_,?_,⟨_,_,zan (zag hlast4),hy⟩,⟨ru4,rv4,?_⟩,hnd4⟩,hdet⟩,.refl⟩
      ·simp only [UU,qQ,g2]
      ·simp only [UU,qQ,g3]
      ·simp only [UU,qQ,g4]
      ·simp only [UU,qQ,g5]
      ·simp only [UU,qQ,g6]
      ·simp only [UU,qQ,reduceIte]
      ·rw [zae (fun e=>hnd5.1.1 e.symm)];exact hres4
     ·repeat rw [zjv ht (by decide)]
     ·simp only [UU,qQ,reduceIte]
  ·repeat rw [zjv ht (by decide)]
  ·simp only [UU,qQ,reduceIte]
 ·have hm:m=0:=by omega
  subst hm
  simp only [detG,qE] at hdet
  have c4:qJ [.agg [lu,lv]]=true:=by simp only [qJ,hl.closed,qA]
  simp only [r98_23,SS,reduceIte,qQ,e6]
  refine ⟨fun hn=>?_,fun hn=>?_⟩
  ·rw [if_pos hn] at hdet
   obtain ⟨w,hw,tn⟩:=zNeg hl
   rw [hdet] at hw
   have hw0:=hw
   obtain ⟨lw,cw,_,_,_,rfl⟩:=hw0
   simp only [r98_24,SS,reduceIte,qY,qQ,qK,e5,hlast]
   refine zaa tn ?_ c4
   simp only [SS,reduceIte,qY,qQ,qK,e2,hres]
   refine ⟨.inl trivial,_,_,zep (id:=0) (by simp only [UU,qQ,e2]) (zan (zag hres)),.drop _ _ rfl (by intro i cs h;omega),hw.wk⟩
  ·rw [if_neg (by rw [hn];simp)] at hdet
   subst hdet
   obtain ⟨lw,cw,h1,h2⟩:=zam hl
   subst h1 h2
   simp only [r98_25,SS,reduceIte,qY,qQ,qK,e5,hlast,e2,hres]
   refine ⟨.inl trivial,_,_,zep (id:=0) (by simp only [UU,qQ,e2]) (zan (zag hres)),.drop _ _ rfl (by intro i cs h;omega),hl.wk⟩
def zuc:List Int->List AV
 | []=>[]
 | z::r=> .bool (decide (z<0)):: .vec (u32s (zcf z.natAbs)) (zcf z.natAbs).length none::zuc r
def rowV (r:List Int):AV:= .vec (zuc r) r.length none
def matC (M:List (List Int)):AV:= .vec (M.map rowV) M.length none
theorem qhf:∀{r:List Int} {cs:List AV},RowC r cs->AV.wk.wkL cs=zuc r:=by
 intro r
 induction r with
 | nil=>
  intro cs h
  cases cs with
  | nil=>rfl
  | cons _ _=>exact h.elim
 | cons z r ih=>
  intro cs h
  match cs,h with
  | u::v::cs,h=>
   have hw:=h.1.wk
   simp only [AV.wk,AV.wk.wkL,intV,AV.agg.injEq,List.cons.injEq,and_true] at hw
   show u.wk::v.wk::AV.wk.wkL cs=_
   rw [ih h.2,hw.1,hw.2];rfl
theorem qhg {r:List Int} {a:AV} (h:zfs r a):a.wk=rowV r:=by
 obtain ⟨cs,c,rfl,hc⟩:=h
 simp only [AV.wk,qhf hc,rowV]
def qhh (r:List Int):Prop:= ∀z∈r,z.natAbs<BIG
theorem zjx:∀{r:List Int},qhh r->RowC r (zuc r)
 | [],_=>trivial
 | z::r,h=>⟨zbo (h z (by simp)),zjx (fun y hy=>h y (by simp [hy]))⟩
theorem qur {r:List Int} (h:qhh r):zfs r (rowV r):=⟨_,_,rfl,zjx h⟩
theorem qhi:∀{r:List Int} {cs:List AV},RowC r cs->qhh r:=by
 intro r
 induction r with
 | nil=>intro cs _ z hz;simp at hz
 | cons z r ih=>
  intro cs h y hy
  match cs,h with
  | u::v::cs,h=>
   rcases List.mem_cons.1 hy with e | e
   ·rw [e];exact h.1.fits
   ·exact ih h.2 y e
def qus (M:List (List Int)):Prop:= ∀r∈M,qhh r
theorem zud {M:List (List Int)} {a:AV} (h:MatV M a):qus M:=by
 obtain ⟨rows,c,_,_,hr⟩:=h
 intro r hr'
 obtain ⟨i,hi,rfl⟩:=List.mem_iff_getElem.1 hr'
 obtain ⟨cs,c,_,h2⟩:=hr i hi
 rw [qX,qZ hi] at h2
 exact qhi h2
theorem znt {M:List (List Int)} (h:qus M):MatV M (matC M):=by
 refine ⟨M.map rowV,none,rfl,by simp,fun i hi=>?_⟩
 rw [qX,qX,qG,qZ hi]
 exact qur (h _ (qI _))
theorem qhj {M:List (List Int)} {a:AV} (h:MatV M a):a.wk=matC M:=by
 obtain ⟨rows,c,rfl,hl,hr⟩:=h
 simp only [AV.wk,matC,zkw]
 congr 1
 refine List.ext_getElem? (fun i=>?_)
 rw [qG,qG]
 rcases xW i M.length with hi | hi
 ·have:=qhg (hr i hi)
  rw [qX,qX,qZ hi,qZ (by omega)] at this
  rw [qZ hi,qZ (by omega)]
  simpa using this
 ·rw [xC hi,xC (by omega)];rfl
def Grow (H:Heap) (sz n:Nat) (cs:List AV) (a:AV) (bad:List Nat):Prop:=
 (n=0/\cs=[]/\a= .vec [] 0 (some 0))\/(0<n/\cs.length=n*sz/\∃id,a= .sl id 0 n sz none/\getB H id=some cs/\id∉bad)
theorem Grow.mono {H H':Heap} {sz n:Nat} {cs:List AV} {a:AV} {bad bad':List Nat} (h:Grow H sz n cs a bad) (hH:∀id,getB H id=some cs->a= .sl id 0 n sz none->getB H' id=some cs) (hb:∀id,a= .sl id 0 n sz none->id∉bad->id∉bad'):Grow H' sz n cs a bad':=by
 rcases h with h | ⟨h1,h2,id,h3,h4,h5⟩
 ·exact .inl h
 ·exact .inr ⟨h1,h2,id,h3,hH id h4 h3,hb id h3 h5⟩
theorem zgi {H:Heap} {sz n:Nat} {cs xs:List AV} {a:AV} {bad:List Nat} {bytes:Nat} (h:Grow H sz n cs a bad) (hx:xs.length=sz) (hs:AV.scalL xs=true) (hb:bytes<=64) (hn:n<1100) (hfr:H.length+1∉bad):
  ∃e rd,(∀n0,zbf n0 (H.length+1) (H++[some xs]) sz bytes a (.sl H.length 0 1 sz (some 1))=some (.sl (H.length+1) 0 (n+1) sz none,e,rd))/\Grow (zad e (H++[some xs]++[none])) sz (n+1) (cs++xs) (.sl (H.length+1) 0 (n+1) sz none) bad/\
   (zad e (H++[some xs]++[none])).length=H.length+2/\(∀i,i<H.length->(∀m c,a≠ .sl i 0 m sz c)->getB (zad e (H++[some xs]++[none])) i=getB H i)/\(∀i∈keys e,i=H.length+1\/∃m,a= .sl i 0 m sz none)/\(∀i∈rd,i=H.length\/∃m,a= .sl i 0 m sz none):=by
 have hg:getB (H++[some xs]) H.length=some xs:=zbz
 have b1:4*(n+1)*bytes<=2^48:=by
  have:4*(n+1)*bytes<=4*1100*64:=Nat.mul_le_mul (by omega) hb
  have:(2:Nat)^48=281474976710656:=rfl
  omega
 have b2:n+1<2^62:=by
  have:(2:Nat)^62=4611686018427387904:=rfl
  omega
 have hel:zde (H++[some xs]) sz 1 (.sl H.length 0 1 sz (some 1))=some (xs,[H.length]):=by
  simp only [zde,hg,need,qD,xZ,yC,hx,and_self,if_true]
  rw [qS,qV (by omega)]
 rcases h with ⟨rfl,rfl,rfl⟩ | ⟨h0,hl,id,rfl,hc,hnb⟩
 ·refine ⟨[(H.length+1,some xs)],[H.length],fun n0=>?_,.inr ⟨by omega,by simp;omega,H.length+1,rfl,?_,hfr⟩,by simp [zad],?_,?_,?_⟩
  ·simp only [zbf,lenA,xK,hel]
   have b1':4*(0+1)*bytes<=2^48:=b1
   simp only [need,xT,if_false,Nat.zero_mul,yB,b1',b2,and_self,if_true,List.take_zero,List.nil_append]
  ·simp only [zad]
   rw [zan (by simp)];rfl
  ·intro i hi _
   simp only [zad]
   rw [zae (by omega),xL,zcb hi]
  ·intro i hi;simp [keys] at hi;exact .inl hi
  ·intro i hi;simp at hi;exact .inl hi
 ·have hid:=zag hc
  have hc2:getB (H++[some xs]) id=some cs:=by rw [zcb hid];exact hc
  refine ⟨[(id,none),(H.length+1,some (cs++xs))],[id,H.length],fun n0=>?_,.inr ⟨by omega,by rw [xH,hl,hx,Nat.add_mul,yC],H.length+1,rfl,?_,hfr⟩,by simp [zad],?_,?_,?_⟩
  ·simp only [zbf,lenA,xK,hel,hc2]
   have e1:¬((none:Option Nat)=some n):=by simp
   have e2:id≠H.length+1:=by omega
   simp only [need,xT,if_false,hl,qD,b1,b2,and_self,if_true,e1,yB,hs,e2,ne_eq,not_false_eq_true]
   rw [qV (by omega)]
  ·simp only [zad]
   rw [zan (by simp)]
  ·intro i hi ha
   simp only [zad]
   rw [zae (by omega),zae (fun e=>ha n none (by rw [e])),xL,zcb hi]
  ·intro i hi
   simp [keys] at hi
   rcases hi with e | e
   ·exact .inr ⟨n,by rw [e]⟩
   ·exact .inl e
  ·intro i hi
   simp at hi
   rcases hi with e | e
   ·exact .inr ⟨n,by rw [e]⟩
   ·exact .inl e
def i64n (l:List Nat):List AV:=l.map fun (n:Nat)=>AV.int .i64 (n:Int)
theorem zfh (l:List Nat):(i64n l).length=l.length:=by simp [i64n]
theorem zue (l:List Nat) (i:Nat) (h:i<l.length) (d:AV):(i64n l).getD i d= .int .i64 ((l.getD i 0:Nat):Int):=by simp [i64n,h]
theorem zrr (l:List Nat) (m d:Nat) (H:Heap):(i64n l).mapM (frzI m H (d+1))=some (i64n l):=by
 refine zmc (fun a ha=>?_)
 simp only [i64n,List.mem_map] at ha
 obtain ⟨n,_,rfl⟩:=ha
 rfl
theorem zze {H:Heap} {id n:Nat} {c:Option Nat} {l:List Nat} (hb:getB H id=some (i64n l)) (hn:n=l.length):AL.Fin 0 (.sl id 0 n 1 c) H (.vec (i64n l) n c) []:=by
 refine .freeze 2 _ _ _ ?_ (by intro i cs h;omega)
 have e:=zrr l 0 0 H
 rw [frzI]
 simp only [xQ,if_false,hb,need,xZ,xM,hn,zfh,qD,if_true,qS]
 rw [qV (by rw [zfh];omega),e]
 rfl
theorem qyv (k more:Nat) (hk:k<=16):Rt 186 [.int .i64 (k:Nat),.int .i64 (more:Nat)] [] (.vec (i64n (List.range k++[more])) (k+1) none) []:=by
 refine oF o186 ?_
 simp only [c186,r186_0,r186_1,r186_2,SS,reduceCtorEq]
 refine zai (fun m E H=>∃i a,i+m=k/\E 0= .int .i64 (k:Nat)/\E 1= .int .i64 (more:Nat)/\E 5=a/\E 6= .int .i64 (i:Nat)/\Grow H 1 i (i64n (List.range i)) a []) (n:=k) ⟨0,_,by omega,by simp only [UU,qQ],by simp only [UU,qQ],rfl,by simp only [UU,qQ,reduceIte];rfl,.inl ⟨rfl,rfl,by simp only [UU,qQ,reduceIte]⟩⟩ ?_
 rintro m E H ⟨i,a,him,e0,e1,e5,e6,hG⟩
 refine wM ?_
 simp only [l186_0,r186_3,SS,reduceCtorEq,reduceIte,qQ,e0,e6]
 refine ⟨fun hlt=>?_,fun hge=>?_⟩
 ·obtain ⟨m,rfl⟩:∃m',m=m'+1:=⟨m-1,by omega⟩
  have w5:=wS1 i (by omega)
  obtain ⟨e,rd,hap,hG2,hl2,hk2,_,_⟩:=zgi (bytes:=8) (xs:=[.int .i64 (i:Nat)]) hG rfl rfl (by omega) (by omega) (by simp)
  simp only [r186_4,r186_5,SS,reduceIte,qQ,qK,e5,e6,zcu,hap,w5]
  refine ⟨m,_,_,by omega,⟨i+1,_,by omega,?_,?_,rfl,?_,?_⟩,.refl⟩
  ·simp only [UU,qQ,e0]
  ·simp only [UU,qQ,e1]
  ·simp only [UU,qQ,reduceIte]
  ·have:i64n (List.range i)++[.int .i64 ((i:Nat):Int)]=i64n (List.range (i+1)):=by simp [i64n,yX]
   rw [this] at hG2
   simp only [UU,qQ,reduceIte]
   exact hG2
 ·have hm:i=k:=by omega
  subst hm
  obtain ⟨e,rd,hap,hG2,hl2,hk2,_,_⟩:=zgi (bytes:=8) (xs:=[.int .i64 (more:Nat)]) hG rfl rfl (by omega) (by omega) (by simp)
  simp only [r186_6,SS,reduceIte,qQ,qK,e5,e1,zcu,hap]
  refine ⟨.inl trivial,_,rfl,?_⟩
  rcases hG2 with ⟨h,_⟩ | ⟨_,_,id,h1,h2,_⟩
  ·omega
  ·have:i64n (List.range i)++[.int .i64 ((more:Nat):Int)]=i64n (List.range i++[more]):=by simp [i64n]
   rw [this] at h2
   injection h1 with h1
   rw [h1]
   exact zze h2 (by simp)
def zzf (H:Heap) (n:Nat) (ps:List (Nat×Option Nat)) (M:List (List Int)):Prop:=ps.length=M.length/\∀i,i<M.length->(M.getD i []).length=n/\∃cs,getB H (pid ps i)=some cs/\RowC (M.getD i []) cs
theorem qut {H:Heap} {r:List Int} {cs:List AV} {a:AV} {bad:List Nat} (h:Grow H 2 r.length cs a bad) (hr:RowC r cs) (h0:r≠[]):∃id,a= .sl id 0 r.length 2 none/\getB H id=some cs/\id∉bad:=by
 rcases h with ⟨h,_⟩ | ⟨_,_,id,h1,h2,h3⟩
 ·exact absurd (List.length_eq_zero_iff.1 h) h0
 ·exact ⟨id,h1,h2,h3⟩
theorem zrs {H:Heap} {n:Nat} {ps:List (Nat×Option Nat)} {M:List (List Int)} (h:zzf H n ps M):∃vs,(ps.map (zck n)).mapM (frzI 0 H 2)=some vs/\vs.length=M.length/\∀i,i<M.length->zfs (M.getD i []) (vs.getD i .junk):=by
 obtain ⟨hl,hr⟩:=h
 have key:∀(qs:List (Nat×Option Nat)) (N:List (List Int)),qs.length=N.length->(∀i,i<N.length->(N.getD i []).length=n/\∃cs,getB H (pid qs i)=some cs/\RowC (N.getD i []) cs)->
   ∃vs,(qs.map (zck n)).mapM (frzI 0 H 2)=some vs/\vs.length=N.length/\∀i,i<N.length->zfs (N.getD i []) (vs.getD i .junk):=by
  intro qs
  induction qs with
  | nil=>
   intro N hN _
   exact ⟨[],rfl,hN,fun i hi=>absurd hi (by rw [<-hN];simp)⟩
  | cons q qs ih=>
   intro N hN hr
   match N,hN with
   | r::N,hN=>
    obtain ⟨vs,h1,h2,h3⟩:=ih N (by simpa using hN) (fun i hi=>by
     have:=hr (i+1) (by simpa using hi)
     simpa [pid] using this)
    obtain ⟨hn,cs,hb,hc⟩:=hr 0 (by simp)
    have hb:getB H q.1=some cs:=hb
    have hn:r.length=n:=hn
    have hc:RowC r cs:=hc
    have hcl:=zcv hc
    have e1:frzI 0 H 2 (zck n q)=some (.vec cs n q.2):=by
     have e:=zyz hc 0 0 H
     unfold zck
     rw [frzI]
     simp only [xQ,if_false,hb,need,xZ,hcl,hn,qD,if_true,qS]
     rw [qV (by omega),e]
     rfl
    refine ⟨.vec cs n q.2::vs,?_,by simp [h2],?_⟩
    ·rw [List.map_cons,xJ,e1,h1];rfl
    ·intro i hi
     cases i with
     | zero=>exact ⟨cs,q.2,by rw [<-hn];rfl,hc⟩
     | succ i=>simpa using h3 i (by simpa using hi)
 exact key ps M hl hr
theorem qoc {H:Heap} {n:Nat} {ps:List (Nat×Option Nat)} {M:List (List Int)} {o:Nat} (ho:getB H o=some (ps.map (zck n))) (h:zzf H n ps M):∃v,AL.Fin 0 (.sl o 0 M.length 1 none) H v []/\v.wk=matC M:=by
 obtain ⟨vs,h1,h2,h3⟩:=zrs h
 have hl:=h.1
 refine ⟨.vec vs M.length none,.freeze 3 _ _ _ ?_ (by intro i cs h;omega),qhj ⟨vs,none,rfl,h2,h3⟩⟩
 rw [frzI]
 simp only [xQ,if_false,ho,need,xZ,xM,qM,hl,qD,if_true,qS]
 rw [qV (by simp [hl]),h1]
 rfl
theorem zjd {H:Heap} {sz n:Nat} {cs:List AV} {a:AV} {bad:List Nat} (h:Grow H sz n cs a bad) {x:Nat} (hx:x∈bad):∀m c,a≠ .sl x 0 m sz c:=by
 intro m c e
 rcases h with ⟨_,_,h⟩ | ⟨_,_,id,h1,_,h3⟩
 ·rw [h] at e;simp at e
 ·rw [h1] at e
  injection e with e1
  exact h3 (e1 ▸ hx)
theorem quu {M:List (List Int)} {n:Nat} {rows:List AV} {c c2:Option Nat} {ks:List Nat} (hl:rows.length=M.length) (hr:∀i,i<M.length->zfs (M.getD i []) (rows.getD i .junk)) (hc:∀i,i<M.length->(M.getD i []).length=n) {i:Nat} (hi:i<M.length) (hks:∀k∈ks,k<n) (hkl:ks.length<=16) (hn:n<=16) (hN:M.length<=16)
  {v7 v13 v14 v15:AV} {bad:List Nat} {H0:Heap} (hbad:∀x∈bad,x<H0.length) {E:Env} {Q:Post} (e0:E 0= .vec rows M.length c) (e2:E 2= .vec (i64n ks) ks.length c2) (e7:E 7=v7) (e9:E 9= .int .i64 (i:Nat)) (e10:E 10= .vec [] 0 (some 0)) (e13:E 13=v13) (e14:E 14=v14) (e15:E 15=v15)
  (e19:E 19= .vec (i64n ks) ks.length c2) (e20:E 20= .int .i64 (ks.length:Nat)) (e21:E 21= .int .i64 0)
  (hQ:∀E' H' cs,E' 0= .vec rows M.length c->E' 2= .vec (i64n ks) ks.length c2->E' 7=v7->E' 13=v13->E' 14=v14->E' 15=v15->RowC (selR M i ks) cs->Grow H' 2 ks.length cs (E' 10) bad->(∀x∈bad,getB H' x=getB H0 x)->H0.length<=H'.length->Q (.exit 2) E' H'):
  Wg 0 42 (.loop l185_1) E H0 Q:=by
 refine zai (fun m E H=>∃j cs,j+m=ks.length/\E 0= .vec rows M.length c/\E 2= .vec (i64n ks) ks.length c2/\E 7=v7/\E 9= .int .i64 (i:Nat)/\E 13=v13/\E 14=v14/\E 15=v15/\E 19= .vec (i64n ks) ks.length c2/\E 20= .int .i64 (ks.length:Nat)/\E 21= .int .i64 (j:Nat)/\
  RowC (selR M i (ks.take j)) cs/\Grow H 2 j cs (E 10) bad/\(∀x∈bad,getB H x=getB H0 x)/\H0.length<=H.length) (n:=ks.length) ⟨0,[],by omega,e0,e2,e7,e9,e13,e14,e15,e19,e20,e21,trivial,.inl ⟨rfl,rfl,e10⟩,fun _ _=>rfl,qD _⟩ ?_
 clear e0 e2 e7 e9 e10 e13 e14 e15 e19 e20 e21 E
 rintro m E H ⟨j,cs,hjm,e0,e2,e7,e9,e13,e14,e15,e19,e20,e21,hrc,hG,hkeep,hlen⟩
 refine wM ?_
 simp only [l185_1,r185_7,SS,reduceIte,e20,e21]
 refine ⟨fun hlt=>?_,fun hge=>?_⟩
 ·obtain ⟨m,rfl⟩:∃m',m=m'+1:=⟨m-1,by omega⟩
  have hj:j<ks.length:=by omega
  have gk:=zue ks j hj AV.junk
  have hkj:ks.getD j 0<n:=by
   rw [qX,qZ hj];exact hks _ (qI _)
  obtain ⟨csi,ci,hei,hci⟩:=hr i hi
  have hcl:=zcv hci
  obtain ⟨u,v,hu,hz⟩:=zeh hci (ks.getD j 0) (by rw [hc i hi];exact hkj)
  have w5:=wS1 j (by omega)
  have hs:=zjs (r:=[(M.getD i []).getD (ks.getD j 0) 0]) (cs:=[u,v]) ⟨hz,trivial⟩
  obtain ⟨e,rd,hap,hG2,hl2,hk2,_,_⟩:=zgi (bytes:=32) (xs:=[u,v]) hG rfl hs (by omega) (by omega) (by intro hm;have:=hbad _ hm;omega)
  obtain ⟨lz,cz,hz1,hz2⟩:=zam hz
  subst hz1 hz2
  simp only [r185_8,r185_9,r185_10,SS,fC,reduceCtorEq,reduceIte,qY,qQ,qK,e0,e9,e19,e21,qW,gk,zfh,hl,hei,hcl,hc i hi,hu,zcu,hap,w5]
  refine ⟨⟨by omega,by omega⟩,by omega,⟨by omega,by omega⟩,by omega,⟨by omega,by omega⟩,by omega,?_⟩
  have htk:ks.take (j+1)=ks.take j++[ks.getD j 0]:=by
   rw [xA,qX,qZ hj];rfl
  refine ⟨m,_,_,by omega,⟨j+1,cs++[AV.bool (decide ((M.getD i []).getD (ks.getD j 0) 0<0)),AV.vec (u32s lz) lz.length cz],by omega,?_,?_,?_,?_,?_,?_,?_,?_,?_,?_,?_,?_,?_,?_⟩,.refl⟩
  ·simp only [UU,qQ,e0]
  ·simp only [UU,qQ,e2]
  ·simp only [UU,qQ,e7]
  ·simp only [UU,qQ,e9]
  ·simp only [UU,qQ,e13]
  ·simp only [UU,qQ,e14]
  ·simp only [UU,qQ,e15]
  ·simp only [UU,qQ,e19]
  ·simp only [UU,qQ,e20]
  ·simp only [UU,qQ,reduceIte]
  ·rw [htk]
   unfold selR
   rw [xD]
   exact zjr hrc _ _ _ hz
  ·simp only [UU,qQ,reduceIte]
   exact hG2
  ·intro x hx
   have hxl:=hbad x hx
   rw [hk2 x (by omega) (zjd hG hx)]
   exact hkeep x hx
  ·omega
 ·have hm:j=ks.length:=by omega
  subst hm
  rw [xN] at hrc
  exact hQ _ _ cs (by simp only [UU,qQ,e0]) (by simp only [UU,qQ,e2]) (by simp only [UU,qQ,e7]) (by simp only [UU,qQ,e13]) (by simp only [UU,qQ,e14]) (by simp only [UU,qQ,e15]) hrc (by simp only [UU,qQ];exact hG) hkeep hlen
theorem qhk {M:List (List Int)} {a:AV} {n:Nat} {rs ks:List Nat} {c1 c2:Option Nat} (h:MatV M a) (hN:M.length<=16) (hn:n<=16) (hc:∀i,i<M.length->(M.getD i []).length=n) (hrs:∀i∈rs,i<M.length) (hrl:1<=rs.length/\rs.length<=16) (hks:∀k∈ks,k<n) (hkl:1<=ks.length/\ks.length<=16):
  Rt 185 [a,.vec (i64n rs) rs.length c1,.vec (i64n ks) ks.length c2] [] (matC (selM M rs ks)) []:=by
 obtain ⟨rows,c,rfl,hl,hr⟩:=h
 refine oFw o185 ?_
 simp only [c185,r185_0,r185_1,r185_2,SS,reduceCtorEq,reduceIte,qQ]
 refine zai (fun m E H=>∃i ps,i+m=rs.length/\E 0= .vec rows M.length c/\E 2= .vec (i64n ks) ks.length c2/\E 13= .vec (i64n rs) rs.length c1/\E 14= .int .i64 (rs.length:Nat)/\E 15= .int .i64 (i:Nat)/\
  Grow H 1 i (ps.map (zck ks.length)) (E 7) (ps.map (·.1))/\zzf H ks.length ps (selM M (rs.take i) ks)/\∀x∈ps.map (·.1),x<H.length) (n:=rs.length) ⟨0,[],by omega,?_,?_,?_,?_,?_,.inl ⟨rfl,rfl,?_⟩,⟨rfl,fun i hi=>absurd hi (by simp [selM])⟩,by simp⟩ ?_
 ·simp only [UU,qQ]
 ·simp only [UU,qQ]
 ·simp only [UU,qQ,reduceIte]
 ·simp only [UU,qQ,reduceIte]
 ·simp only [UU,qQ,reduceIte];rfl
 ·simp only [UU,qQ,reduceIte]
 rintro m E H ⟨i,ps,him,e0,e2,e13,e14,e15,hG,hR,hlt⟩
 refine wM ?_
 simp only [l185_0,r185_3,SS,reduceCtorEq,reduceIte,e14,e15]
 refine ⟨fun hlt2=>?_,fun hge=>?_⟩
 ·obtain ⟨m,rfl⟩:∃m',m=m'+1:=⟨m-1,by omega⟩
  have hi:i<rs.length:=by omega
  have gr:=zue rs i hi AV.junk
  have hri:rs.getD i 0<M.length:=by
   rw [qX,qZ hi];exact hrs _ (qI _)
  have w5:=wS1 i (by omega)
  simp only [r185_4,r185_5,r185_6,SS,fC,reduceIte,qQ,e2,e13,e15,qW,gr,zfh]
  refine ⟨⟨by omega,by omega⟩,by omega,?_⟩
  have hbad:∃bad:List Nat,(∀x∈bad,x<H.length)/\(∀x∈ps.map (·.1),x∈bad)/\(∀id,E 7= .sl id 0 i 1 none->id∈bad):=by
   rcases hG with ⟨_,_,h7⟩ | ⟨_,_,id,h7,hb,_⟩
   ·exact ⟨ps.map (·.1),hlt,fun x hx=>hx,fun id hid=>by rw [h7] at hid;simp at hid⟩
   ·refine ⟨id::ps.map (·.1),?_,fun x hx=>by simp only [qR];exact .inr hx,fun id' hid=>?_⟩
    ·intro x hx
     rcases List.mem_cons.1 hx with e | e
     ·rw [e];exact zag hb
     ·exact hlt x e
    ·rw [h7] at hid
     injection hid with hid
     rw [<-hid];simp
  obtain ⟨bad,hb1,hb2,hb3⟩:=hbad
  refine quu (c:=c) (c2:=c2) (bad:=bad) (v7:=E 7) (v13:= .vec (i64n rs) rs.length c1) (v14:= .int .i64 (rs.length:Nat)) (v15:= .int .i64 (i:Nat)) hl hr hc hri hks hkl.2 hn hN hb1 ?_ ?_ ?_ ?_ ?_ ?_ ?_ ?_ ?_ ?_ ?_ (fun E1 H1 cs f0 f2 f7 f13 f14 f15 hrc hG1 hkeep hlen=>?rest)
  case rest=>
   have hsl:(selR M (rs.getD i 0) ks).length=ks.length:=by simp [selR]
   rw [<-hsl] at hG1
   obtain ⟨id,hid,hgb,hnb⟩:=qut hG1 hrc (by intro e;rw [e] at hsl;simp at hsl;omega)
   rw [hsl] at hid
   have hidlt:=zag hgb
   have hG7:Grow H1 1 i (ps.map (zck ks.length)) (E1 7) (id::ps.map (·.1)):=by
    rw [f7]
    refine hG.mono (fun id' h1 h2=>by rw [hkeep id' (hb3 id' h2)];exact h1) (fun id' h2 h3=>?_)
    intro hm
    rcases List.mem_cons.1 hm with e | e
    ·exact hnb (e ▸ hb3 id' h2)
    ·exact h3 e
   obtain ⟨e,rd,hap,hG2,hl2,hk2,_,_⟩:=zgi (bytes:=24) (xs:=[.sl id 0 ks.length 2 none]) hG7 rfl rfl (by omega) (by omega) (by
    intro hm
    rcases List.mem_cons.1 hm with e | e
    ·omega
    ·have:=hlt _ e;omega)
   simp only [r185_11,r185_12,SS,reduceCtorEq,reduceIte,qQ,qK,hid,f15,zcu,hap,w5]
   refine ⟨m,_,_,by omega,⟨i+1,ps++[(id,none)],by omega,?_,?_,?_,?_,?_,?_,?_,?_⟩,.refl⟩
   ·simp only [UU,qQ,f0]
   ·simp only [UU,qQ,f2]
   ·simp only [UU,qQ,f13]
   ·simp only [UU,qQ,f14]
   ·simp only [UU,qQ,reduceIte]
   ·simp only [UU,qQ,reduceIte]
    have e3:(ps++[(id,none)]).map (zck ks.length)=ps.map (zck ks.length)++[.sl id 0 ks.length 2 none]:=by simp [zck]
    rw [e3]
    refine hG2.mono (fun _ h _=>h) (fun id' _ h3 hm=>h3 ?_)
    rw [xD] at hm
    rcases List.mem_append.1 hm with e | e
    ·simp only [qR];exact .inr e
    ·simp at e;simp [e]
   ·have hps:=hR.1
    have htk:rs.take (i+1)=rs.take i++[rs.getD i 0]:=by
     rw [xA,qX,qZ hi];rfl
    have hml:(selM M (rs.take i) ks).length=i:=by simp [selM];omega
    refine ⟨by rw [htk];simp [selM] at hps ⊢;omega,fun i' hi'=>?_⟩
    rw [htk] at hi' ⊢
    have hsm:selM M (rs.take i++[rs.getD i 0]) ks=selM M (rs.take i) ks++[selR M (rs.getD i 0) ks]:=by simp [selM]
    rw [hsm] at hi' ⊢
    rw [xH,yZ,hml] at hi'
    rcases xW i' i with hii | hii
    ·have e4:(selM M (rs.take i) ks++[selR M (rs.getD i 0) ks]).getD i' []=(selM M (rs.take i) ks).getD i' []:=by
      rw [qX,qT (by omega),<-qX]
     have e5:pid (ps++[(id,none)]) i'=pid ps i':=by
      unfold pid
      rw [qX,qT (by omega),<-qX]
     rw [e4,e5]
     obtain ⟨g1,cs',g2,g3⟩:=hR.2 i' (by omega)
     have hpm:=zhe (ps:=ps) (i:=i') (by omega)
     refine ⟨g1,cs',?_,g3⟩
     rw [hk2 _ (by have:=hlt _ hpm;omega) (zjd hG7 (by simp only [qR];exact .inr hpm)),hkeep _ (hb2 _ hpm)]
     exact g2
    ·have e4:(selM M (rs.take i) ks++[selR M (rs.getD i 0) ks]).getD i' []=selR M (rs.getD i 0) ks:=by
      rw [qX,qH (by omega),show i'-(selM M (rs.take i) ks).length=0 by omega];rfl
     have e5:pid (ps++[(id,none)]) i'=id:=by
      unfold pid
      rw [qX,qH (by omega),show i'-ps.length=0 by omega];rfl
     rw [e4,e5]
     refine ⟨hsl,cs,?_,hrc⟩
     rw [hk2 _ hidlt (zjd hG7 (by simp))]
     exact hgb
   ·intro x hx
    rw [xD] at hx
    rcases List.mem_append.1 hx with e | e
    ·have:=hlt x e;omega
    ·simp at e;omega
  all_goals simp only [UU,qQ,reduceIte, *]
 ·have hm:i=rs.length:=by omega
  subst hm
  rw [xN] at hR
  simp only [r185_13,SS,reduceIte,qQ]
  rcases hG with ⟨h0,_⟩ | ⟨_,_,id,h7,hb,_⟩
  ·omega
  ·obtain ⟨v,hv1,hv2⟩:=qoc hb hR
   have hml:(selM M rs ks).length=rs.length:=by simp [selM]
   rw [hml] at hv1
   exact ⟨.inl trivial,_,v,rfl,by rw [h7];exact hv1,hv2⟩
structure Sq (n:Nat) (M:List (List Int)) (a:AV):Prop where
 mat:MatV M a
 len:M.length=n
 cols:∀i,i<n->(M.getD i []).length=n
 lo:1<=n
 hi:n<=8
theorem Sq.shape {n:Nat} {M:List (List Int)} {a:AV} (h:Sq n M a):zrn M:=by
 refine ⟨by rw [h.len];exact h.lo,by rw [h.len];have:=h.hi;omega,fun i hi=>?_⟩
 rw [h.len] at hi
 rw [h.cols i hi,h.cols 0 h.lo]
 have:=h.lo;have:=h.hi
 omega
theorem Sq.closed {n:Nat} {M:List (List Int)} {a:AV} (h:Sq n M a):a.closed=true:=by
 obtain ⟨rows,c,rfl,_⟩:=h.mat;rfl
theorem qhl {n:Nat} {M:List (List Int)} {a:AV} (h:Sq n M a):Rt 118 [a] [] (.tup [.int .i64 (n:Nat),.bool true]) []:=by
 have t:=ztw h.mat h.shape
 rw [h.len,h.cols 0 h.lo] at t
 have c1:qJ [a]=true:=by simp only [qJ,h.closed,qA]
 refine oF o118 ?_
 simp only [c118,r118_0,r118_1,SS,reduceCtorEq,reduceIte]
 refine zaa t ?_ c1
 simp only [SS,reduceIte,qQ,qP,qN]
 have d1:decide (((n:Nat):Int)≠(n:Nat))=false:=by simp
 simp only [r118_2,SS,fC,reduceIte,qQ,d1]
 simp only [r118_4,SS,reduceIte,qQ]
 exact ⟨.inl trivial,_,rfl,.drop _ _ rfl (by intro i cs h;omega)⟩
theorem quv {n:Nat} {M:List (List Int)} {a:AV} (h:Sq n M a) {k:Nat} (hk:k<n):Sq (k+1) (minK M k) (matC (minK M k))/\(minK M k).length=k+1:=by
 have hl:(minK M k).length=k+1:=by simp [minK,selM]
 have hf:=zud h.mat
 have hent:∀i j,i<n->j<n->(ent M i j).natAbs<BIG:=by
  intro i j hi hj
  have hc:=h.cols i hi
  unfold ent
  rw [qX (l:=M.getD i []),qZ (by omega)]
  have hm:M.getD i []∈M:=by rw [qX,qZ (by rw [h.len];exact hi)];exact qI _
  exact hf _ hm _ (qI _)
 refine ⟨⟨znt ?_,hl,?_,by omega,by have:=h.hi;omega⟩,hl⟩
 ·intro r hr z hz
  obtain ⟨i,hi,rfl⟩:=List.mem_map.1 hr
  obtain ⟨j,hj,rfl⟩:=List.mem_map.1 hz
  have hb:∀x∈List.range k++[k],x<n:=by
   intro x hx
   rcases List.mem_append.1 hx with e | e
   ·have:=List.mem_range.1 e;omega
   ·simp at e;omega
  exact hent i j (hb i hi) (hb j hj)
 ·intro i hi
  unfold minK selM
  rw [qX,qG,qZ (by simp;omega)]
  simp [selR]
theorem zkz (z:Int):(intV z).cells=[.bool (decide (z<0)),.vec (u32s (zcf z.natAbs)) (zcf z.natAbs).length none]:=rfl
theorem qod {H:Heap} {id n:Nat} {r:List Int} {cs:List AV} {b:Bool} (hb:getB H id=some cs) (hr:RowC r cs) (hn:n=r.length):AL.Fin 0 (.tup [.sl id 0 n 2 none,.bool b]) H (.tup [.vec cs n none,.bool b]) []:=by
 refine .freeze 3 _ _ _ ?_ (by intro i cs h;omega)
 have e:=zyz hr 0 0 H
 have hl:=zcv hr
 have e1:frzI 0 H 2 (.sl id 0 n 2 none)=some (.vec cs n none):=by
  rw [frzI]
  simp only [xQ,if_false,hb,need,xZ,hn,hl,qD,if_true,qS]
  rw [qV (by omega),e]
  rfl
 rw [frzI]
 simp only [xJ,List.mapM_nil,e1]
 rfl
theorem zrt {B n:Nat} {M:List (List Int)} {a:AV} {ds:List Int} (hB:DivB B) (h:Sq n M a) (hd:zjt B M=some ds):Rt 124 [a] [] (.tup [rowV ds,.bool true]) []:=by
 have hl:ds.length=n:=by rw [<-h.len];exact zcy hd
 have ts:=qhl h
 have c1:qJ [a]=true:=by simp only [qJ,h.closed,qA]
 have hn8:=h.hi
 have hn1:=h.lo
 refine oFw o124 ?_
 simp only [c124,r124_0,r124_1,SS,reduceCtorEq,reduceIte]
 refine zaa ts ?_ c1
 simp only [SS,reduceIte,qQ,qP,qN]
 simp only [r124_2,SS,fC,reduceIte,qQ]
 simp only [r124_4,r124_5,SS]
 refine zai (fun m E H=>∃k cs,k+m=n/\E 0=a/\E 4= .int .i64 (n:Nat)/\E 7= .int .i64 (k:Nat)/\RowC (ds.take k) cs/\Grow H 2 k cs (E 6) []) (n:=n) ⟨0,[],by omega,?_,?_,?_,trivial,.inl ⟨rfl,rfl,?_⟩⟩ ?_
 ·simp only [UU,qQ]
 ·simp only [UU,qQ,reduceIte]
 ·simp only [UU,qQ,reduceIte];rfl
 ·simp only [UU,qQ,reduceIte]
 rintro m E H ⟨k,cs,hkm,e0,e4,e7,hrc,hG⟩
 refine wM ?_
 simp only [l124_0,r124_6,SS,reduceCtorEq,reduceIte,qQ,e4,e7]
 refine ⟨fun hlt=>?_,fun hge=>?_⟩
 ·obtain ⟨m,rfl⟩:∃m',m=m'+1:=⟨m-1,by omega⟩
  have hk:k<n:=by omega
  have hpre:zdj B M (k+1)=some (ds.take (k+1)):=by
   have:zdj B M ((k+1)+m)=some ds:=by rw [show (k+1)+m=M.length by rw [h.len];omega];exact hd
   exact znq this
  have hpre0:zdj B M k=some (ds.take k):=by
   have:zdj B M (k+(m+1))=some ds:=by rw [show k+(m+1)=M.length by rw [h.len];omega];exact hd
   exact znq this
  simp only [zdj,hpre0,xK,qU,qE] at hpre
  obtain ⟨d,hdet,d',hck,htake⟩:=hpre
  obtain ⟨rfl,hfit⟩:=zce hck
  obtain ⟨hsq,hml⟩:=quv h hk
  have hrl:(List.range k++[k]).length=k+1:=by simp
  have tf:=qyv k k (by omega)
  rw [<-hrl] at tf
  have hb:∀x∈List.range k++[k],x<n:=by
   intro x hx
   rcases List.mem_append.1 hx with e | e
   ·have:=List.mem_range.1 e;omega
   ·simp at e;omega
  have tsel:=qhk (n:=n) (rs:=List.range k++[k]) (ks:=List.range k++[k]) (c1:=none) (c2:=none) h.mat (by rw [h.len];omega) (by omega) (fun i hi=>h.cols i (by rw [<-h.len];exact hi)) (fun x hx=>by rw [h.len];exact hb x hx) (by omega) hb (by omega)
  have tdet:=mDet hB hsq.mat (by rw [hml];omega) (fun i hi=>by rw [hml] at hi ⊢;exact hsq.cols i hi) hdet
  have c2:qJ [a,.vec (i64n (List.range k++[k])) (List.range k++[k]).length none,.vec (i64n (List.range k++[k])) (List.range k++[k]).length none]=true:=by simp only [qJ,h.closed,AV.closed,qA]
  have hz:zat d' (intV d'):=zbo (qB hfit hB.1)
  have w5:=wS1 k (by omega)
  obtain ⟨e,rd,hap,hG2,hl2,hk2,_,_⟩:=zgi (bytes:=32) (xs:=[.bool (decide (d'<0)),.vec (u32s (zcf d'.natAbs)) (zcf d'.natAbs).length none]) hG rfl rfl (by omega) (by omega) (by simp)
  simp only [r124_7,SS,reduceCtorEq,reduceIte,qQ,e0,e7]
  refine zaa tf ?_
  simp only [SS,reduceIte,qQ,e7]
  refine zaa tf ?_
  simp only [SS,reduceIte,qQ]
  refine zaa tsel ?_ c2
  simp only [SS,reduceIte,qQ]
  refine zaa tdet ?_
  simp only [SS,reduceIte,qY,qQ,qK,zkz,show (intV d').firm=true from rfl]
  simp only [SS,zcu,hap]
  simp only [r124_8,SS,reduceIte,qQ,e7,w5]
  refine ⟨m,_,_,by omega,⟨k+1,cs++[.bool (decide (d'<0)),.vec (u32s (zcf d'.natAbs)) (zcf d'.natAbs).length none],by omega,?_,?_,?_,?_,?_⟩,.refl⟩
  ·simp only [UU,qQ,e0]
  ·simp only [UU,qQ,e4]
  ·simp only [UU,qQ,reduceIte]
  ·rw [<-htake]
   exact zjr hrc _ _ _ hz
  ·simp only [UU,qQ,reduceIte]
   exact hG2
 ·have hm:k=n:=by omega
  subst hm
  rw [qV (by omega)] at hrc
  simp only [r124_9,SS,reduceIte,qQ]
  rcases hG with ⟨h0,_⟩ | ⟨_,_,id,h7,hb,_⟩
  ·omega
  ·refine ⟨.inl trivial,_,.tup [.vec cs k none,.bool true],rfl,?_,?_⟩
   ·simp only [UU,qQ,reduceIte,h7]
    exact qod hb hrc hl.symm
   ·simp only [AV.wk,AV.wk.wkL,qhf hrc,rowV,hl]
theorem qri {n:Nat} {M:List (List Int)} {rows:List AV} (hr:∀i,i<M.length->zfs (M.getD i []) (rows.getD i .junk)) (hlen:M.length=n) (hc:∀i,i<n->(M.getD i []).length=n) {i:Nat} (hi:i<n):∃cs c,rows.getD i .junk= .vec cs n c/\cs.length=n*2/\
  ∀j,j<n->∃u v,(cs.drop (j*2)).take 2=[u,v]/\zat (ent M i j) (.agg [u,v]):=by
 obtain ⟨cs,c,h1,h2⟩:=hr i (by omega)
 have hl:=zcv h2
 rw [hc i hi] at h1 hl
 exact ⟨cs,c,h1,hl,fun j hj=>zeh h2 j (by rw [hc i hi];exact hj)⟩
theorem zpm {n:Nat} {M:List (List Int)} {a:AV} (h:Sq n M a):Rt 119 [a] [] (.bool (symB M)) []:=by
 obtain ⟨⟨rows,c,rfl,hl,hr⟩,hlen,hc,hlo,hhi⟩:=h
 refine oF o119 ?_
 simp only [c119,r119_0,r119_1,SS,reduceCtorEq,reduceIte]
 rw [hlen]
 refine zai (fun m E H=>∃i,i+m=n/\E 0= .vec rows n c/\E 6= .int .i64 (n:Nat)/\E 7= .int .i64 (i:Nat)/\H=[]/\∀i',i'<i->∀j,j<i'->ent M i' j=ent M j i') (n:=n) ⟨0,by omega,?_,?_,?_,rfl,fun i' h=>absurd h (by omega)⟩ ?_
 ·simp only [UU,qQ]
 ·simp only [UU,qQ,reduceIte]
 ·simp only [UU,qQ,reduceIte];rfl
 rintro m E H ⟨i,him,e0,e6,e7,rfl,hsym⟩
 refine wM ?_
 simp only [l119_0,r119_2,SS,reduceCtorEq,reduceIte,e6,e7]
 refine ⟨fun hlt=>?_,fun hge=>?_⟩
 ·obtain ⟨m,rfl⟩:∃m',m=m'+1:=⟨m-1,by omega⟩
  have hi:i<n:=by omega
  have w5:=wS1 i (by omega)
  simp only [r119_3,r119_4,SS,reduceIte,qQ,e7]
  refine zai (fun m2 E H=>∃j,j+m2=i/\E 0= .vec rows n c/\E 3= .int .i64 (i:Nat)/\E 4= .int .i64 (j:Nat)/\E 6= .int .i64 (n:Nat)/\E 7= .int .i64 (i:Nat)/\H=[]/\∀j',j'<j->ent M i j'=ent M j' i) (n:=i) ⟨0,by omega,?_,?_,?_,?_,?_,rfl,fun j' h=>absurd h (by omega)⟩ ?_
  ·simp only [UU,qQ,e0]
  ·simp only [UU,qQ,reduceIte]
  ·simp only [UU,qQ,reduceIte];rfl
  ·simp only [UU,qQ,e6]
  ·simp only [UU,qQ,e7]
  rintro m2 E2 H2 ⟨j,hjm,f0,f3,f4,f6,f7,rfl,hsj⟩
  refine wM ?_
  simp only [l119_1,r119_5,SS,reduceCtorEq,reduceIte,qQ,f3,f4]
  refine ⟨fun hlt3=>?_,fun hge3=>?_⟩
  ·obtain ⟨m2,rfl⟩:∃m',m2=m'+1:=⟨m2-1,by omega⟩
   have hj:j<i:=by omega
   obtain ⟨ci,cci,gi,li,fi⟩:=qri hr hlen hc (i:=i) hi
   obtain ⟨cj,ccj,gj,lj,fj⟩:=qri hr hlen hc (i:=j) (by omega)
   obtain ⟨u1,v1,x1,y1⟩:=fi j (by omega)
   obtain ⟨u2,v2,x2,y2⟩:=fj i hi
   have t:=zCmp y1 y2
   have c1:qJ [.agg [u1,v1],.agg [u2,v2]]=true:=by simp only [qJ,y1.closed,y2.closed,qA]
   have w6:=wS1 j (by omega)
   have hl':rows.length=n:=by omega
   simp only [r119_6,SS,fC,reduceCtorEq,reduceIte,qQ,f0,f3,f4,qW,gi,gj,li,lj,hl',x1,x2]
   refine ⟨⟨by omega,by omega⟩,by omega,⟨by omega,by omega⟩,by omega,⟨by omega,by omega⟩,by omega,⟨by omega,by omega⟩,by omega,?_⟩
   refine zaa t ?_ c1
   simp only [SS,reduceIte,qQ]
   refine ⟨rfl,fun hne=>?_,fun heq=>?_⟩
   ·have hne2:ent M i j≠ent M j i:=by
     intro e;rw [if_neg (by omega),if_pos e] at hne;exact hne rfl
    have hb:symB M=false:=by
     cases hx:symB M with
     | false=>rfl
     | true=>exact absurd (znr.1 hx i (by omega) j hj) hne2
    rw [hb]
    simp only [r119_7,SS]
    exact ⟨.inl trivial,_,rfl,.drop _ _ rfl (by intro i cs h;omega)⟩
   ·have heq2:ent M i j=ent M j i:=by
     have heq:(if ent M i j<ent M j i then (-1:Int) else if ent M i j=ent M j i then 0 else 1)=0:=by simpa using heq
     split at heq
     ·omega
     ·split at heq
      ·assumption
      ·omega
    simp only [r119_8,SS,reduceIte,qQ,f4,w6]
    refine ⟨m2,_,_,by omega,⟨j+1,by omega,?_,?_,?_,?_,?_,rfl,?_⟩,.refl⟩
    ·simp only [UU,qQ,f0]
    ·simp only [UU,qQ,f3]
    ·simp only [UU,qQ,reduceIte]
    ·simp only [UU,qQ,f6]
    ·simp only [UU,qQ,f7]
    ·intro j' hj'
     rcases xW j' j with h | h
     ·exact hsj j' h
     ·rw [show j'=j by omega];exact heq2
  ·simp only [r119_9,SS,reduceIte,qQ,f7,w5]
   refine ⟨m,_,_,by omega,⟨i+1,by omega,?_,?_,?_,rfl,?_⟩,.refl⟩
   ·simp only [UU,qQ,f0]
   ·simp only [UU,qQ,f6]
   ·simp only [UU,qQ,reduceIte]
   ·intro i' hi' j' hj'
    rcases xW i' i with h | h
    ·exact hsym i' h j' hj'
    ·have:i'=i:=by omega
     subst this
     exact hsj j' (by omega)
 ·have hb:symB M=true:=znr.2 (fun i' hi' j hj=>hsym i' (by omega) j hj)
  rw [hb]
  simp only [r119_10,SS]
  exact ⟨.inl trivial,_,rfl,.drop _ _ rfl (by intro i cs h;omega)⟩
theorem qhm {B n:Nat} {M:List (List Int)} {a:AV} {ds:List Int} (hB:DivB B) (h:Sq n M a) (hd:zjt B M=some ds):Rt 120 [a] [] (.bool (defB M ds)) []:=by
 have hl:ds.length=n:=by rw [<-h.len];exact zcy hd
 have hfit:qhh ds:=fun z hz=>qB (zpk hd z hz) hB.1
 have t1:=zrt hB h hd
 have t2:=zpm h
 have c1:qJ [a]=true:=by simp only [qJ,h.closed,qA]
 have hrc:=zjx hfit
 have hcl:=zcv hrc
 have hn8:=h.hi
 refine oF o120 ?_
 simp only [c120,r120_0,r120_1,SS,reduceCtorEq,reduceIte]
 refine zaa t1 ?_ c1
 simp only [SS,reduceIte,qQ,qP,qN]
 simp only [r120_2,SS,fC,reduceCtorEq,reduceIte,qQ]
 refine zaa t2 ?_ c1
 simp only [SS,fC,reduceIte,qQ]
 refine ⟨fun hs=>?_,fun hs=>?_⟩
 ·have hs:symB M=false:=by simpa using hs
  have hb:defB M ds=false:=by unfold defB;rw [hs];rfl
  rw [hb]
  simp only [r120_3,SS]
  exact ⟨.inl trivial,_,rfl,.drop _ _ rfl (by intro i cs h;omega)⟩
 ·have hs:symB M=true:=by simpa using hs
  simp only [r120_4,SS,reduceIte,qQ,rowV]
  rw [hl]
  refine zai (fun m E H=>∃i,i+m=n/\E 19= .vec (zuc ds) n none/\E 20= .int .i64 (n:Nat)/\E 21= .int .i64 (i:Nat)/\∀i',i'<i->0<ds.getD i' 0) (n:=n) ⟨0,by omega,?_,?_,?_,fun i' h=>absurd h (by omega)⟩ ?_
  ·simp only [UU,qQ,reduceIte]
  ·simp only [UU,qQ,reduceIte]
  ·simp only [UU,qQ,reduceIte];rfl
  rintro m E H ⟨i,him,e19,e20,e21,hpos⟩
  refine wM ?_
  simp only [l120_0,r120_5,SS,reduceCtorEq,reduceIte,e20,e21]
  refine ⟨fun hlt=>?_,fun hge=>?_⟩
  ·obtain ⟨m,rfl⟩:∃m',m=m'+1:=⟨m-1,by omega⟩
   obtain ⟨u,v,hx,hy⟩:=zeh hrc i (by omega)
   have hs2:=zjs (r:=[ds.getD i 0]) (cs:=[u,v]) ⟨hy,trivial⟩
   have t3:=ztv hy
   obtain ⟨lz,cz,hz1,hz2⟩:=zam hy
   subst hz1 hz2
   have w5:=wS1 i (by omega)
   simp only [r120_6,SS,reduceIte,qY,qQ,qK,e19,e21,qW,hcl,hl,hx,zbz,zro]
   refine ⟨⟨by omega,by omega⟩,by omega,?_⟩
   simp only [r120_7,SS,reduceIte,qY,qQ,qK,zbz]
   refine zaa t3 ?_
   simp only [SS,reduceIte,qQ]
   refine ⟨fun hle=>?_,fun hle=>?_⟩
   ·have hle2:ds.getD i 0<=0:=by
     rcases Int.lt_or_le 0 (ds.getD i 0) with h' | h'
     ·rw [Int.sign_eq_one_of_pos h'] at hle;omega
     ·exact h'
    have hb:defB M ds=false:=by
     unfold defB
     rw [hs,Bool.true_and]
     cases hx:ds.all fun d=>decide (0<d) with
     | false=>rfl
     | true=>
      rw [xO] at hx
      have:=hx (ds.getD i 0) (by rw [qX,qZ (by omega)];exact qI _)
      simp at this
      simp [qX] at hle2
      omega
    rw [hb]
    simp only [r120_8,SS]
    exact ⟨.inl trivial,_,rfl,.drop _ _ rfl (by intro i cs h;omega)⟩
   ·have hpos2:0<ds.getD i 0:=by
     rcases Int.lt_or_le 0 (ds.getD i 0) with h' | h'
     ·exact h'
     ·exfalso
      apply hle
      rcases Int.lt_or_eq_of_le h' with h2 | h2
      ·rw [Int.sign_eq_neg_one_of_neg h2];omega
      ·rw [h2];decide
    simp only [r120_9,SS,reduceIte,qQ,e21,w5]
    refine ⟨m,_,_,by omega,⟨i+1,by omega,?_,?_,?_,fun i' hi'=>?_⟩,.refl⟩
    ·simp only [UU,qQ,e19]
    ·simp only [UU,qQ,e20]
    ·simp only [UU,qQ,reduceIte]
    ·rcases xW i' i with h' | h'
     ·exact hpos i' h'
     ·rw [show i'=i by omega];exact hpos2
  ·have hb:defB M ds=true:=by
    unfold defB
    rw [hs,Bool.true_and,xO]
    intro z hz
    obtain ⟨i',hi',rfl⟩:=List.mem_iff_getElem.1 hz
    have:=hpos i' (by omega)
    rw [qX,qZ hi'] at this
    simpa using this
   rw [hb]
   simp only [r120_10,SS]
   exact ⟨.inl trivial,_,rfl,.drop _ _ rfl (by intro i cs h;omega)⟩
theorem znu {B n:Nat} {M:List (List Int)} {a:AV} {ds:List Int} (hB:DivB B) (h:Sq n M a) (hd:zjt B M=some ds):Rt 56 [a] [] (.int .i64 (valZ M ds)) []:=by
 have t0:=qhl h
 have t1:=qhm hB h hd
 have t2:=zpm h
 have c1:qJ [a]=true:=by simp only [qJ,h.closed,qA]
 have d1:decide ((8:Int)<(n:Nat))=false:=decide_eq_false (by have:=h.hi;omega)
 refine oF o56 ?_
 simp only [c56,r56_0,r56_1,SS,reduceCtorEq,reduceIte]
 refine zaa t0 ?_ c1
 simp only [SS,reduceIte,qQ,qP,qN]
 simp only [r56_2,SS,fC,reduceIte,qQ,d1]
 simp only [r56_4,SS,reduceCtorEq,reduceIte,qQ]
 refine zaa t2 ?_ c1
 simp only [SS,reduceIte,qQ]
 refine ⟨fun hs=>?_,fun hs=>?_⟩
 ·have hs:symB M=false:=by simpa using hs
  have hv:valZ M ds=4:=by unfold valZ;rw [if_pos hs]
  rw [hv]
  simp only [r56_5,SS]
  exact ⟨.inl trivial,_,rfl,.drop _ _ rfl (by intro i cs h;omega)⟩
 ·have hs:symB M=true:=by simpa using hs
  simp only [r56_6,SS,reduceCtorEq,reduceIte,qQ]
  refine zaa t1 ?_ c1
  simp only [SS,reduceIte,qQ]
  refine ⟨fun hd=>?_,fun hd=>?_⟩
  ·have hd:defB M ds=false:=by simpa using hd
   have hv:valZ M ds=5:=by unfold valZ;rw [if_neg (by rw [hs];simp),if_pos hd]
   rw [hv]
   simp only [r56_7,SS]
   exact ⟨.inl trivial,_,rfl,.drop _ _ rfl (by intro i cs h;omega)⟩
  ·have hd:defB M ds=true:=by simpa using hd
   have hv:valZ M ds=0:=by unfold valZ;rw [if_neg (by rw [hs];simp),if_neg (by rw [hd];simp)]
   rw [hv]
   simp only [r56_8,SS]
   exact ⟨.inl trivial,_,rfl,.drop _ _ rfl (by intro i cs h;omega)⟩
theorem qrj {B n:Nat} {M:List (List Int)} {a:AV} {d:Int} (hB:DivB B) (h:Sq n M a) (hd:detO B M=some d) (hfit:d.natAbs<B):Rt 57 [a] [] (.bool (decide (d<=10000))) []:=by
 have t1:=mDet hB h.mat (by rw [h.len];have:=h.lo;have:=h.hi;omega) (fun i hi=>by rw [h.len] at hi ⊢;exact h.cols i hi) hd
 obtain ⟨v,hv,t2⟩:=zey 10000 (by omega) (by omega)
 have hz:zat d (intV d):=zbo (qB hfit hB.1)
 have t3:=zCmp hz hv
 have c1:qJ [a]=true:=by simp only [qJ,h.closed,qA]
 have c2:qJ [intV d,v]=true:=by simp only [qJ,hz.closed,hv.closed,qA]
 refine oF o57 ?_
 simp only [c57,r57_0,r57_1,SS,reduceCtorEq,reduceIte]
 refine zaa t1 ?_ c1
 simp only [SS]
 refine zaa t2 ?_ rfl hv.closed
 simp only [SS,reduceIte,qQ]
 refine zaa t3 ?_ c2
 simp only [SS,reduceIte,qQ]
 have e:decide ((if d<10000 then (-1:Int) else if d=10000 then 0 else 1)<=0)=decide (d<=10000):=by
  rw [decide_eq_decide]
  split
  ·omega
  ·split<;>omega
 rw [e]
 exact ⟨.inl trivial,_,rfl,.drop _ _ rfl (by intro i cs h;omega)⟩
theorem qyw {ds:List Int} {cs:List AV} {c:Option Nat} {k:Nat} (hrc:RowC ds cs) (hk:k<=ds.length) (hl:ds.length<=16):Rt 130 [.vec cs ds.length c,.int .i64 (k:Nat)] [] (intV (zcd ds k)) []:=by
 have hcl:=zcv hrc
 refine oFw o130 ?_
 simp only [c130,r130_0,r130_1,SS,reduceCtorEq,reduceIte,qQ]
 refine ⟨fun h0=>?_,fun h0=>?_⟩
 ·have h0:k=0:=by omega
  obtain ⟨v,hv,t⟩:=zey 1 (by omega) (by omega)
  have hv0:=hv
  obtain ⟨l1,c1,_,_,_,rfl⟩:=hv0
  simp only [r130_2,SS]
  refine zaa t ?_
  simp only [SS,reduceIte,qY,qQ,qK]
  refine ⟨.inl trivial,_,_,zep (id:=0) (by simp only [UU,qQ,reduceIte]) rfl,.drop _ _ rfl (by intro i cs h;omega),?_⟩
  rw [show zcd ds k=1 by unfold zcd;rw [if_pos h0]]
  exact hv.wk
 ·have h0:k≠0:=by omega
  obtain ⟨u,v,hx,hy⟩:=zeh hrc (k-1) (by omega)
  have w1:IntKind.i64.wrap ((k:Int)-1)=((k-1:Nat):Int):=wQ (by omega)
  have hyw:=hy
  obtain ⟨lz,cz,hz1,hz2⟩:=zam hy
  subst hz1 hz2
  simp only [r130_3,SS,reduceCtorEq,reduceIte,qY,qQ,qK,w1,qW,hcl,hx]
  refine ⟨⟨by omega,by omega⟩,by omega,?_⟩
  refine ⟨.inl trivial,_,_,zep (id:=0) (by simp only [UU,qQ,reduceIte]) rfl,.drop _ _ rfl (by intro i cs h;omega),?_⟩
  rw [show zcd ds k=ds.getD (k-1) 0 by unfold zcd;rw [if_neg h0]]
  exact hyw.wk
theorem qcn {f:FuncId} {a v:AV} {l1 l2:List Nat} {n1 n2 i1 i2:Nat} {c1 c2:Option Nat} {H:Heap} {K:AV->Eff->List Nat->Nat->Prop} (h:Rt f [a,.vec (i64n l1) n1 c1,.vec (i64n l2) n2 c2] [] v []) (hn1:n1=l1.length) (hn2:n2=l2.length)
  (h1:getB H i1=some (i64n l1)) (h2:getB H i2=some (i64n l2)) (hne:i1≠i2) (ha:a.closed=true) (hfa:∀H0,frzI 0 H0 2 a=some a) (hv:v.closed=true) (hk:K v [(i1,none),(i2,none)] [i1,i2] 0):zlt Tryz.prog G f [a,.sl i1 0 n1 1 c1,.sl i2 0 n2 1 c2] H K:=by
 have hc:∀l:List Nat,qJ (i64n l)=true:=by
  intro l
  induction l with
  | nil=>rfl
  | cons d l ih=>exact ih
 have g:∀{i:Nat} {cs:List AV},getB H i=some cs->H[i]?=some (some cs):=by
  intro i cs h
  unfold getB at h
  split at h
  ·rename_i e;simp at h;rw [e,h]
  ·simp at h
 have e0:zak [i1,i2] H.length 0=i1:=by simp [zak]
 have e1:zak [i1,i2] H.length 1=i2:=by simp [zak]
 have hfr:([a,.sl 0 0 n1 1 c1,.sl 1 0 n2 1 c2]:List AV).mapM (frzI 0 [some (i64n l1),some (i64n l2)] 2)=some [a,.vec (i64n l1) n1 c1,.vec (i64n l2) n2 c2]:=by
  have f1:frzI 0 [some (i64n l1),some (i64n l2)] 2 (.sl 0 0 n1 1 c1)=some (.vec (i64n l1) n1 c1):=by
   have e:=zrr l1 0 0 [some (i64n l1),some (i64n l2)]
   rw [frzI]
   simp only [xQ,if_false,zng,need,xZ,xM,hn1,zfh,qD,if_true,qS]
   rw [qV (by rw [zfh];omega),e];rfl
  have f2:frzI 0 [some (i64n l1),some (i64n l2)] 2 (.sl 1 0 n2 1 c2)=some (.vec (i64n l2) n2 c2):=by
   have e:=zrr l2 0 0 [some (i64n l1),some (i64n l2)]
   rw [frzI]
   have hg:getB [some (i64n l1),some (i64n l2)] 1=some (i64n l2):=rfl
   simp only [xQ,if_false,hg,need,xZ,xM,hn2,zfh,qD,if_true,qS]
   rw [qV (by rw [zfh];omega),e];rfl
  rw [xJ,xJ,xJ,hfa,f1,f2];rfl
 have hH1:=zag h1
 have hH2:=zag h2
 have:=CallR0.mk (P:= Tryz.prog) (Γ:=G) (f:=f) (args:=[a,.sl i1 0 n1 1 c1,.sl i2 0 n2 1 c2]) (k:=H.length) (H:=H++List.replicate 0 none) [i1,i2] [a,.sl 0 0 n1 1 c1,.sl 1 0 n2 1 c2] [some (i64n l1),some (i64n l2)] v [none,none] (qgp h hfr) rfl (by simp [hne]) (by
   intro i hi
   rcases List.mem_cons.1 hi with e | e
   ·rw [e];exact hH1
   ·simp at e;rw [e];exact hH2) (by simp [AV.ren,e0,e1,zec _ a ha]) (by simp [AV.under.underL,AV.under,zli 2 a ha]) (by
   intro i c hi
   match i,hi with
   | 0,hi=>
    simp at hi;subst hi
    refine ⟨_,rfl,zbd _ _ (hc l1),?_⟩
    rw [e0]
    simp only [renB,zar _ _ (hc l1)]
    simpa using g h1
   | 1,hi=>
    simp at hi;subst hi
    refine ⟨_,rfl,zbd _ _ (hc l2),?_⟩
    rw [e1]
    simp only [renB,zar _ _ (hc l2)]
    simpa using g h2
   | i+2,hi=>simp at hi)
 refine ⟨v,_,_,0,?_,hk⟩
 rw [zec _ v hv] at this
 refine .base ?_
 simpa [effs,e0,e1,renB] using this
theorem lam_sq {n:Nat} {M:List (List Int)} {a:AV} (h:Sq n M a) {i j:Nat} (hi:i<n) (hj:j<n):Sq (j+1) (lamM M i j) (matC (lamM M i j))/\(lamM M i j).length=j+1:=by
 have hl:(lamM M i j).length=j+1:=by simp [lamM,selM]
 have hf:=zud h.mat
 have hent:∀i j,i<n->j<n->(ent M i j).natAbs<BIG:=by
  intro i j hi hj
  have hc:=h.cols i hi
  unfold ent
  rw [qX (l:=M.getD i []),qZ (by omega)]
  have hm:M.getD i []∈M:=by rw [qX,qZ (by rw [h.len];exact hi)];exact qI _
  exact hf _ hm _ (qI _)
 have hb:∀x y,y<n->x∈List.range j++[y]->x<n:=by
  intro x y hy hx
  rcases List.mem_append.1 hx with e | e
  ·have:=List.mem_range.1 e;omega
  ·simp at e;omega
 refine ⟨⟨znt ?_,hl,?_,by omega,by have:=h.hi;omega⟩,hl⟩
 ·intro r hr z hz
  obtain ⟨x,hx,rfl⟩:=List.mem_map.1 hr
  obtain ⟨y,hy,rfl⟩:=List.mem_map.1 hz
  exact hent x y (hb x i hi hx) (hb y j hj hy)
 ·intro x hx
  unfold lamM selM
  rw [qX,qG,qZ (by simp;omega)]
  simp [selR]
theorem zww {B n:Nat} {M:List (List Int)} {a:AV} {i j:Nat} {d:Int} (hB:DivB B) (h:Sq n M a) (hi:i<n) (hj:j<n) (hd:detO B (lamM M i j)=some d) (hfit:d.natAbs<B):
  Rt 129 [a,.int .i64 (i:Nat),.int .i64 (j:Nat)] [] (intV d) []:=by
 have hn8:=h.hi
 obtain ⟨hsq,hml⟩:=lam_sq h hi hj
 have tdet:=mDet hB hsq.mat (by rw [hml];omega) (fun x hx=>by rw [hml] at hx ⊢;exact hsq.cols x hx) hd
 have hb:∀x y,y<n->x∈List.range j++[y]->x<n:=by
  intro x y hy hx
  rcases List.mem_append.1 hx with e | e
  ·have:=List.mem_range.1 e;omega
  ·simp at e;omega
 have tsel:=qhk (n:=n) (rs:=List.range j++[i]) (ks:=List.range j++[j]) (c1:=none) (c2:=none) h.mat (by rw [h.len];omega) (by omega) (fun x hx=>h.cols x (by rw [<-h.len];exact hx)) (fun x hx=>by rw [h.len];exact hb x i hi hx) (by simp;omega) (fun x hx=>hb x j hj hx) (by simp;omega)
 have l1:(List.range j++[i]).length=j+1:=by simp
 have l2:(List.range j++[j]).length=j+1:=by simp
 rw [l1,l2] at tsel
 have hfa:∀H0,frzI 0 H0 2 a=some a:=by
  intro H0
  obtain ⟨rows,c,rfl,_⟩:=h.mat;rfl
 have hz:zat d (intV d):=zbo (qB hfit hB.1)
 refine oF o129 ?_
 simp only [c129,r129_0,r129_1,r129_2,SS,reduceCtorEq]
 refine zai (fun m E H=>∃k,k+m=j/\E 0=a/\E 1= .int .i64 (i:Nat)/\E 2= .int .i64 (j:Nat)/\E 6= .ptr 0 0/\E 9= .int .i64 (k:Nat)/\Grow H 1 k (i64n (List.range k)) (E 7) [0]/\Grow H 1 k (i64n (List.range k)) (E 8) [0]/\
  (∀x m1 m2 c1 c2,E 7= .sl x 0 m1 1 c1->E 8≠ .sl x 0 m2 1 c2)/\∃u v,getB H 0=some [u,v]) (n:=j) ⟨0,by omega,?_,?_,?_,?_,?_,.inl ⟨rfl,rfl,?_⟩,.inl ⟨rfl,rfl,?_⟩,?_,⟨_,_,rfl⟩⟩ ?_
 ·simp only [UU,qQ]
 ·simp only [UU,qQ]
 ·simp only [UU,qQ]
 ·simp only [UU,qQ,reduceIte]
 ·simp only [UU,qQ,reduceIte];rfl
 ·simp only [UU,qQ,reduceIte]
 ·simp only [UU,qQ,reduceIte]
 ·intro x m1 m2 c1 c2 e;simp only [UU,qQ,reduceIte] at e;simp at e
 rintro m E H ⟨k,hkm,e0,e1,e2,e6,e9,hG7,hG8,hdis,ru,rv,hres⟩
 refine wM ?_
 simp only [l129_0,r129_3,SS,reduceCtorEq,reduceIte,qQ,e2,e9]
 have h0lt:=zag hres
 refine ⟨fun hlt=>?_,fun hge=>?_⟩
 ·obtain ⟨m,rfl⟩:∃m',m=m'+1:=⟨m-1,by omega⟩
  have w5:=wS1 k (by omega)
  obtain ⟨ea,rda,hapa,hGa,hla,hka,_,_⟩:=zgi (bytes:=8) (xs:=[.int .i64 (k:Nat)]) hG7 rfl rfl (by omega) (by omega) (by simp)
  generalize hH1:zad ea (H++[some [.int .i64 ((k:Nat):Int)]]++[none])=H1 at*
  have hG8':Grow H1 1 k (i64n (List.range k)) (E 8) [0]:=by
   refine hG8.mono (fun id h1 h2=>?_) (fun _ _ h=>h)
   rw [hka id (zag h1) (fun m1 c1 e=>hdis id m1 k c1 none e h2)]
   exact h1
  obtain ⟨eb,rdb,hapb,hGb,hlb,hkb,_,_⟩:=zgi (bytes:=8) (xs:=[.int .i64 (k:Nat)]) hG8' rfl rfl (by omega) (by omega) (by simp)
  generalize hH2:zad eb (H1++[some [.int .i64 ((k:Nat):Int)]]++[none])=H2 at*
  have hrg:i64n (List.range k)++[.int .i64 ((k:Nat):Int)]=i64n (List.range (k+1)):=by simp [i64n,yX]
  rw [hrg] at hGa hGb
  have hold8:∀x m2 c2,E 8= .sl x 0 m2 1 c2->x<H.length:=by
   intro x m2 c2 e
   rcases hG8 with ⟨_,_,h8⟩ | ⟨_,_,id,h8,hb8,_⟩
   ·rw [h8] at e;simp at e
   ·rw [h8] at e;injection e with e;rw [<-e];exact zag hb8
  simp only [r129_4,SS,reduceIte,qQ,qK,e9,zcu,hapa,hH1]
  simp only [r129_5,SS,reduceIte,qQ,qK,e9,zcu,hapb,hH2]
  simp only [r129_6,SS,reduceIte,qQ,e9,w5]
  refine ⟨m,_,_,by omega,⟨k+1,by omega,?_,?_,?_,?_,?_,?_,?_,?_,⟨ru,rv,?_⟩⟩,.refl⟩
  ·simp only [UU,qQ,e0]
  ·simp only [UU,qQ,e1]
  ·simp only [UU,qQ,e2]
  ·simp only [UU,qQ,e6]
  ·simp only [UU,qQ,reduceIte]
  ·simp only [UU,qQ,reduceIte]
   refine hGa.mono (fun id h1 h2=>?_) (fun _ _ h=>h)
   rw [hkb id (zag h1) (fun m1 c1 e=>?_)]
   ·exact h1
   ·injection h2 with h2
    have:=hold8 _ _ _ e
    omega
  ·simp only [UU,qQ,reduceIte]
   exact hGb
  ·intro x m1 m2 c1 c2 h1 h2
   simp only [UU,qQ,reduceIte] at h1 h2
   injection h1 with h1
   injection h2 with h2
   omega
  ·rw [hkb 0 (by omega) (zjd hG8' (by simp)),hka 0 h0lt (zjd hG7 (by simp))]
   exact hres
 ·have hm:k=j:=by omega
  subst hm
  obtain ⟨ea,rda,hapa,hGa,hla,hka,_,_⟩:=zgi (bytes:=8) (xs:=[.int .i64 (i:Nat)]) hG7 rfl rfl (by omega) (by omega) (by simp)
  generalize hH1:zad ea (H++[some [.int .i64 ((i:Nat):Int)]]++[none])=H1 at*
  have hG8':Grow H1 1 k (i64n (List.range k)) (E 8) [0]:=by
   refine hG8.mono (fun id h1 h2=>?_) (fun _ _ h=>h)
   rw [hka id (zag h1) (fun m1 c1 e=>hdis id m1 k c1 none e h2)]
   exact h1
  obtain ⟨eb,rdb,hapb,hGb,hlb,hkb,_,_⟩:=zgi (bytes:=8) (xs:=[.int .i64 (k:Nat)]) hG8' rfl rfl (by omega) (by omega) (by simp)
  generalize hH2:zad eb (H1++[some [.int .i64 ((k:Nat):Int)]]++[none])=H2 at*
  have hrg1:i64n (List.range k)++[.int .i64 ((i:Nat):Int)]=i64n (List.range k++[i]):=by simp [i64n]
  have hrg2:i64n (List.range k)++[.int .i64 ((k:Nat):Int)]=i64n (List.range k++[k]):=by simp [i64n]
  rw [hrg1] at hGa
  rw [hrg2] at hGb
  have hold8:∀x m2 c2,E 8= .sl x 0 m2 1 c2->x<H.length:=by
   intro x m2 c2 e
   rcases hG8 with ⟨_,_,h8⟩ | ⟨_,_,id,h8,hb8,_⟩
   ·rw [h8] at e;simp at e
   ·rw [h8] at e;injection e with e;rw [<-e];exact zag hb8
  have ga:getB H1 (H.length+1)=some (i64n (List.range k++[i])):=by
   rcases hGa with ⟨h,_⟩ | ⟨_,_,id,h1,h2,_⟩
   ·omega
   ·injection h1 with h1;rw [h1];exact h2
  have ga2:getB H2 (H.length+1)=some (i64n (List.range k++[i])):=by
   rw [hkb _ (zag ga) (fun m1 c1 e=>by have:=hold8 _ _ _ e;omega)]
   exact ga
  have gb:getB H2 (H1.length+1)=some (i64n (List.range k++[k])):=by
   rcases hGb with ⟨h,_⟩ | ⟨_,_,id,h1,h2,_⟩
   ·omega
   ·injection h1 with h1;rw [h1];exact h2
  have g0:getB H2 0=some [ru,rv]:=by
   rw [hkb 0 (by omega) (zjd hG8' (by simp)),hka 0 h0lt (zjd hG7 (by simp))]
   exact hres
  simp only [r129_7,SS,reduceCtorEq,reduceIte,qQ,qK,e0,e1,e2,zcu,hapa,hH1,hapb,hH2]
  refine qcn tsel l1.symm l2.symm ga2 gb (by omega) h.closed hfa rfl ?_
  simp only [zaj,zad,xG,yQ,SS,reduceIte,qQ]
  refine zaa tdet ?_
  have g1:getB ((H2.set (H.length+1) none).set (H1.length+1) none) 0=some [ru,rv]:=by
   rw [zae (by omega),zae (by omega)];exact g0
  simp only [SS,reduceIte,qY,qQ,qK,e6,g1,zkz,show (intV d).firm=true from rfl]
  refine ⟨.inl trivial,_,zep (id:=0) (by simp only [UU,qQ,e6]) (zan (zag g1)),.drop _ _ rfl (by intro i cs h;omega)⟩
structure Lead (B n:Nat) (M:List (List Int)) (ds:List Int):Prop where
 eq:zjt B M=some ds
 len:ds.length=n
 fits:∀z∈ds,z.natAbs<B
theorem qhn {B n:Nat} {M:List (List Int)} {a:AV} {ds:List Int} (h:Sq n M a) (hd:zjt B M=some ds):Lead B n M ds:=⟨hd,by rw [<-h.len];exact zcy hd,zpk hd⟩
theorem zla {B n:Nat} {M:List (List Int)} {ds:List Int} (hB:DivB B) (h:Lead B n M ds) (k:Nat):(zcd ds k).natAbs<BIG:=by
 unfold zcd
 split
 ·exact zia (by decide)
 ·rw [qX]
  cases e:ds[k-1]? with
  | none=>exact zia (by decide)
  | some z=>exact qB (h.fits z (List.mem_of_getElem? e)) hB.1
theorem zuf {B n:Nat} {M:List (List Int)} {ds:List Int} (hB:DivB B) (h:Lead B n M ds) (hn:n<=8) {k:Nat} (hk:k<=n):Rt 130 [rowV ds,.int .i64 (k:Nat)] [] (intV (zcd ds k)) []:=
 qyw (zjx (fun z hz=>qB (h.fits z hz) hB.1)) (by rw [h.len];exact hk) (by rw [h.len];omega)
theorem qrk {B n:Nat} {M:List (List Int)} {a:AV} {ds:List Int} {i j:Nat} {b:Bool} (hB:DivB B) (h:Sq n M a) (hd:Lead B n M ds) (hi:i<n) (hj:j<n) (hb:zju B M ds i j=some b):
  Rt 125 [a,rowV ds,.int .i64 (i:Nat),.int .i64 (j:Nat)] [] (.bool b) []:=by
 unfold zju at hb
 simp only [qU,qE] at hb
 obtain ⟨l,hl,x,hx,rfl⟩:=hb
 obtain ⟨hdet,hlf⟩:=zft hl
 obtain ⟨rfl,hxf⟩:=zce hx
 have hn8:=h.hi
 have t1:=zww hB h hi hj hdet hlf
 have hz:zat l (intV l):=zbo (qB hlf hB.1)
 obtain ⟨v2,hv2,t2⟩:=zey 2 (by omega) (by omega)
 obtain ⟨va,hva,t3⟩:=zAbs hz
 have hf:(2*(l.natAbs:Int)).natAbs<BIG:=by have:=hB.1;omega
 obtain ⟨vm,hvm,t4⟩:=zMul hv2 hva hf
 have t5:=zuf hB hd hn8 (k:=j+1) (by omega)
 have hm:zat (zcd ds (j+1)) (intV (zcd ds (j+1))):=zbo (zla hB hd _)
 have t6:=zCmp hvm hm
 have w5:=wS1 j (by omega)
 have c1:qJ [a,.int .i64 (i:Nat),.int .i64 (j:Nat)]=true:=by simp only [qJ,h.closed,AV.closed,qA]
 have c2:qJ [v2,va]=true:=by simp only [qJ,hv2.closed,hva.closed,qA]
 have c3:qJ [vm,intV (zcd ds (j+1))]=true:=by simp only [qJ,hvm.closed,hm.closed,qA]
 refine oF o125 ?_
 simp only [c125,r125_0,r125_1,SS,reduceCtorEq]
 refine zaa t2 ?_ rfl hv2.closed
 simp only [SS,reduceCtorEq,reduceIte,qQ]
 refine zaa t1 ?_ c1
 simp only [SS,reduceIte,qQ]
 refine zaa t3 ?_ rfl hva.closed
 simp only [SS,reduceIte,qQ]
 refine zaa t4 ?_ c2 hvm.closed
 simp only [SS,reduceIte,qQ,w5]
 refine zaa t5 ?_
 simp only [SS,reduceIte,qQ]
 refine zaa t6 ?_ c3
 simp only [SS,reduceIte,qQ]
 have e:decide ((if 2*(l.natAbs:Int)<zcd ds (j+1) then (-1:Int) else if 2*(l.natAbs:Int)=zcd ds (j+1) then 0 else 1)<=0)=decide (2*(l.natAbs:Int)<=zcd ds (j+1)):=by
  rw [decide_eq_decide]
  split
  ·omega
  ·split<;>omega
 rw [e]
 exact ⟨.inl trivial,_,rfl,.drop _ _ rfl (by intro i cs h;omega)⟩
theorem qho {B n:Nat} {M:List (List Int)} {a:AV} {ds:List Int} {i:Nat} {b:Bool} (hB:DivB B) (h:Sq n M a) (hd:Lead B n M ds) (h0:0<i) (hi:i<n) (hb:lovO B M ds i=some b):
  Rt 131 [a,rowV ds,.int .i64 (i:Nat)] [] (.bool b) []:=by
 unfold lovO at hb
 simp only [qU,qE] at hb
 obtain ⟨l,hl,p,hp,q,hq,s,hs,x,hx,r,hr,y,hy,rfl⟩:=hb
 obtain ⟨hdet,hlf⟩:=zft hl
 obtain ⟨rfl,hpf⟩:=zce hp
 obtain ⟨rfl,hqf⟩:=zce hq
 obtain ⟨rfl,hsf⟩:=zce hs
 obtain ⟨rfl,hxf⟩:=zce hx
 obtain ⟨rfl,hrf⟩:=zce hr
 obtain ⟨rfl,hyf⟩:=zce hy
 have hn8:=h.hi
 have up:∀{z:Nat},z<B->z<BIG:=fun h=>qB h hB.1
 have t1:=zww hB h hi (show i-1<n by omega) hdet hlf
 have hz:zat l (intV l):=zbo (up hlf)
 have mi:=fun k=>(zbo (zla hB hd k):zat (zcd ds k) (intV (zcd ds k)))
 obtain ⟨v4,hv4,t2⟩:=zey 4 (by omega) (by omega)
 obtain ⟨v3,hv3,t3⟩:=zey 3 (by omega) (by omega)
 have t4:=zuf hB hd hn8 (k:=i-1) (by omega)
 have t5:=zuf hB hd hn8 (k:=i+1) (by omega)
 have t6:=zuf hB hd hn8 (k:=i) (by omega)
 obtain ⟨vp,hvp,t7⟩:=zMul (mi (i-1)) (mi (i+1)) (up hpf)
 obtain ⟨vq,hvq,t8⟩:=zMul hz hz (up hqf)
 obtain ⟨vs,hvs,t9⟩:=zAdd hvp hvq (up hsf)
 obtain ⟨vx,hvx,t10⟩:=zMul hv4 hvs (up hxf)
 obtain ⟨vr,hvr,t11⟩:=zMul (mi i) (mi i) (up hrf)
 obtain ⟨vy,hvy,t12⟩:=zMul hv3 hvr (up hyf)
 have t13:=zCmp hvx hvy
 have w1:IntKind.i64.wrap ((i:Int)-1)=((i-1:Nat):Int):=wQ (by omega)
 have w2:=wS1 i (by omega)
 have c1:qJ [a,.int .i64 (i:Nat),.int .i64 ((i-1:Nat):Int)]=true:=by simp only [qJ,h.closed,AV.closed,qA]
 have hx0:=hvx
 obtain ⟨lx,cx,_,_,_,rfl⟩:=hx0
 have k2:∀{u v:AV},u.closed=true->v.closed=true->qJ [u,v]=true:=by
  intro u v h1 h2;simp only [qJ,h1,h2,qA]
 refine oF o131 ?_
 simp only [c131,r131_0,r131_1,SS,reduceCtorEq,reduceIte,qQ,w1]
 refine zaa t1 ?_ c1
 simp only [SS,reduceIte,qY,qQ,qK,zkz,show (intV l).firm=true from rfl]
 simp only [r131_2,SS]
 refine zaa t2 ?_ rfl hv4.closed
 simp only [SS,reduceIte,qQ,w1]
 refine zaa t4 ?_
 simp only [SS,reduceIte,qQ,w2]
 refine zaa t5 ?_
 simp only [SS,reduceIte,qQ]
 refine zaa t7 ?_ rfl hvp.closed
 simp only [SS,reduceIte,qY,qQ,qK]
 refine zaa t8 ?_ rfl hvq.closed
 simp only [SS,reduceIte,qQ]
 refine zaa t9 ?_ (k2 hvp.closed hvq.closed) hvs.closed
 simp only [SS,reduceIte,qQ]
 refine zaa t10 ?_ (k2 hv4.closed hvs.closed)
 simp only [SS,reduceIte,qY,qQ,qK]
 refine ⟨rfl,?_⟩
 simp only [r131_3,SS,reduceIte,qY,qQ,qK]
 refine zaa t3 ?_ rfl hv3.closed
 simp only [SS,reduceIte,qQ]
 refine zaa t6 ?_
 simp only [SS,reduceIte,qQ]
 refine zaa t6 ?_
 simp only [SS,reduceIte,qQ]
 refine zaa t11 ?_ rfl hvr.closed
 simp only [SS,reduceIte,qQ]
 refine zaa t12 ?_ (k2 hv3.closed hvr.closed) hvy.closed
 simp only [SS,reduceIte,qQ]
 refine zaa t13 ?_ (k2 rfl hvy.closed)
 simp only [SS,reduceIte,qQ]
 refine ⟨rfl,?_⟩
 generalize 4*(zcd ds (i-1)*zcd ds (i+1)+l*l)=x
 generalize 3*(zcd ds i*zcd ds i)=y
 have e:decide ((0:Int)<=if x<y then (-1:Int) else if x=y then 0 else 1)=decide (y<=x):=by
  rw [decide_eq_decide]
  split
  ·omega
  ·split<;>omega
 first | rw [e] | (simp only [ge_iff_le];rw [e])
 exact ⟨.inl trivial,_,rfl,.drop _ _ rfl (by intro i cs h;omega)⟩
def zrow (n:Nat):List Int:=List.replicate n 0
def zmat (N n:Nat):List (List Int):=List.replicate N (zrow n)
def zcs (n:Nat):List AV:=zfl n [.bool false,.vec [] 0 (some 0)]
theorem zpn:zat 0 (.agg [.bool false,.vec [] 0 (some 0)]):=⟨[],some 0,zcc.nil,by simp,rfl,rfl⟩
theorem qco:∀n,RowC (zrow n) (zcs n):=by
 intro n
 induction n with
 | zero=>trivial
 | succ n ih=>exact ⟨zpn,ih⟩
theorem zmd {N n i:Nat} (h:i<N):(zmat N n).getD i []=zrow n:=by
 unfold zmat
 rw [qX,xX,if_pos h,yY]
def zps (n i:Nat):List (Nat×Option Nat):=(List.range i).map fun k=>(k+1,some n)
def zH (N n i:Nat):Heap:=some ((zps n i).map (zck n)++List.replicate (N-i) nilV)::List.replicate i (some (zcs n))
theorem zru (n i:Nat):(zps n i).length=i:=by simp [zps]
theorem quw {n i k:Nat} (h:k<i):(zps n i).getD k (0,none)=(k+1,some n):=by
 rw [qX];simp [zps,h]
theorem qyx {N n i k:Nat} (h:k<i):getB (zH N n i) (k+1)=some (zcs n):=by
 unfold getB zH
 rw [qN,xX,if_pos h]
theorem qyy (N n:Nat):MatH (zH N n N) 0 (zps n N) n (zmat N n):=by
 refine ⟨?_,by rw [zru];simp [zmat],fun i hi=>?_,fun i hi=>?_,?_⟩
 ·show some ((zps n N).map (zck n)++List.replicate (N-N) nilV)=_
  rw [xU,xG,yQ]
 ·have hi:i<N:=by simpa [zmat] using hi
  rw [zmd hi];simp [zrow]
 ·have hi:i<N:=by simpa [zmat] using hi
  rw [quw hi,zmd hi]
  exact ⟨_,qyx hi,qco n⟩
 ·rw [qC]
  have e:(zps n N).map (·.1)=(List.range N).map (· + 1):=by simp [zps]
  rw [e]
  refine ⟨fun h=>?_,?_⟩
  ·obtain ⟨k,_,hk⟩:=List.mem_map.1 h
   omega
  ·refine List.pairwise_iff_getElem.2 (fun i j hi hj hij=>?_)
   rw [qL,qL,yK,yK]
   omega
theorem qhp {N n:Nat} (hN:N<=16) (hn:n<=16):Rt 123 [.int .i64 (N:Nat),.int .i64 (n:Nat)] [] (.sl 0 0 N 1 (some N)) (zH N n N):=by
 refine oF o123 ?_
 simp only [c123,r123_0,r123_1,SS,reduceCtorEq,reduceIte,qQ,qW]
 refine ⟨by omega,⟨by omega,by omega,by omega,by omega⟩,?_⟩
 simp only [r123_2,SS,reduceIte,qQ]
 refine zai (fun k E H=>∃i,i+k=N/\H=zH N n i/\E 1= .int .i64 (n:Nat)/\E 5= .sl 0 0 N 1 (some N)/\E 10= .int .i64 (N:Nat)/\E 11= .int .i64 (i:Nat)) (n:=N) ⟨0,by omega,?_,?_,?_,?_,?_⟩ ?_
 ·simp [zH,zps]
 ·simp only [UU,qQ]
 ·simp only [UU,qQ,reduceIte]
 ·simp only [UU,qQ,reduceIte]
 ·simp only [UU,qQ,reduceIte];rfl
 rintro k E H ⟨i,hik,rfl,e1,e5,e10,e11⟩
 refine wM ?_
 simp only [l123_0,r123_3,SS,reduceCtorEq,reduceIte,e10,e11]
 refine ⟨fun hlt=>?_,fun hge=>?_⟩
 ·obtain ⟨k,rfl⟩:∃k',k=k'+1:=⟨k-1,by omega⟩
  have hi:i<N:=by omega
  have w5:=wS1 i (by omega)
  have hlen:(zH N n i).length=i+1:=by simp [zH]
  have h0:getB (zH N n i++[some (zfl n [AV.bool false,AV.vec [] 0 (some 0)])]) 0=some ((zps n i).map (zck n)++List.replicate (N-i) nilV):=rfl
  have hl0:((zps n i).map (zck n)++List.replicate (N-i) nilV).length=N:=by simp [zru];omega
  simp only [r123_4,r123_5,SS,reduceIte,qY,qQ,e1,e5,e11,qW,hlen,h0,hl0]
  refine ⟨by omega,⟨by omega,by omega,by omega,by omega⟩,⟨by omega,by omega⟩,by omega,?_⟩
  simp only [r123_6,SS,reduceIte,qQ,e11,w5]
  refine ⟨k,_,_,by omega,⟨i+1,by omega,?_,?_,?_,?_,?_⟩,.refl⟩
  ·have e:List.replicate (N-i) nilV=nilV::List.replicate (N-(i+1)) nilV:=by rw [<-xE];congr 1;omega
   have ez:zps n (i+1)=zps n i++[(i+1,some n)]:=by simp [zps,yX]
   have hset:((zps n i).map (zck n)++List.replicate (N-i) nilV).set i (.sl (i+1) 0 n 2 (some n))=(zps n (i+1)).map (zck n)++List.replicate (N-(i+1)) nilV:=by
    rw [e,ez,qO _ _ (by simp [zru])]
    simp [zru,zck]
   show some (((zps n i).map (zck n)++List.replicate (N-i) nilV).set i (.sl (i+1) 0 n 2 (some n)))::(List.replicate i (some (zcs n))++[some (zcs n)])=zH N n (i+1)
   rw [hset,<-List.replicate_succ']
   rfl
  all_goals simp only [UU,qQ,reduceIte, *]
 ·have:i=N:=by omega
  subst this
  simp only [r123_7,SS,reduceIte,qQ,e5]
  exact ⟨.inl trivial,_,rfl,.keep _ _⟩
def i64z (r:List Int):List AV:=r.map fun z=>AV.int .i64 z
theorem zav (r:List Int):(i64z r).length=r.length:=by simp [i64z]
theorem zbq (r:List Int) (j:Nat) (h:j<r.length) (d:AV):(i64z r).getD j d= .int .i64 (r.getD j 0):=by simp [i64z,h]
def In64 (z:Int):Prop:= -9223372036854775808<=z/\z<9223372036854775808
structure ImV (M:List (List Int)) (a:AV):Prop where
 val:∃rows c,a= .vec rows M.length c/\rows.length=M.length/\∀i,i<M.length->∃c',rows.getD i .junk= .vec (i64z (M.getD i [])) (M.getD i []).length c'
 fit:∀i j,In64 (ent M i j)
theorem ImV.closed {M:List (List Int)} {a:AV} (h:ImV M a):a.closed=true:=by
 obtain ⟨rows,c,rfl,_⟩:=h.val;rfl
theorem zrv {N n:Nat} {M M':List (List Int)} (h1:M.length=N) (h2:M'.length=N) (h3:∀i,i<N->(M.getD i []).length=n) (h4:∀i,i<N->(M'.getD i []).length=n) (h:∀i j,i<N->j<n->ent M i j=ent M' i j):M=M':=by
 refine yA (h1.trans h2.symm) fun i hi hi'=>?_
 have e1:M.getD i []=M[i]:=by rw [qX,qZ hi];rfl
 have e2:M'.getD i []=M'[i]:=by rw [qX,qZ hi'];rfl
 have l1:=h3 i (by omega)
 have l2:=h4 i (by omega)
 rw [e1] at l1
 rw [e2] at l2
 refine yA (l1.trans l2.symm) fun j hj hj'=>?_
 have:=h i j (by omega) (by omega)
 unfold ent at this
 rw [e1,e2,qX,qX,qZ hj,qZ hj'] at this
 simpa using this
theorem zzg {H:Heap} {o n:Nat} {ps:List (Nat×Option Nat)} {M:List (List Int)} (h:MatH H o ps n M):zzf H n ps M:=⟨h.len,fun i hi=>⟨h.cols i hi,h.rows i hi⟩⟩
theorem zib {H:Heap} {o n:Nat} {ps:List (Nat×Option Nat)} {M:List (List Int)} {cap:Option Nat} {b:Bool} (h:MatH H o ps n M):∃v,AL.Fin 0 (.tup [.sl o 0 M.length 1 cap,.bool b]) H v []/\v.wk= .tup [matC M,.bool b]:=by
 obtain ⟨vs,h1,h2,h3⟩:=zrs (zzg h)
 have hl:=h.len
 refine ⟨.tup [.vec vs M.length cap,.bool b],.freeze 4 _ _ _ ?_ (by intro i cs h;omega),?_⟩
 ·have e:frzI 0 H 3 (.sl o 0 M.length 1 cap)=some (.vec vs M.length cap):=by
   rw [frzI]
   simp only [xQ,if_false,h.outer,need,xZ,xM,qM,hl,qD,if_true,qS]
   rw [qV (by simp [hl]),h1]
   rfl
  rw [frzI]
  simp only [xJ,List.mapM_nil,e]
  rfl
 ·have:=qhj (M:=M) (a:= .vec vs M.length cap) ⟨vs,cap,rfl,h2,h3⟩
  simp only [AV.wk,AV.wk.wkL] at this ⊢
  rw [this]
theorem zjy (N n i j:Nat):ent (zmat N n) i j=0:=by
 have hz:∀j,(zrow n).getD j 0=0:=by
  intro j
  rw [qX]
  unfold zrow
  rw [xX]
  split<;>rfl
 unfold ent
 rcases xW i N with h | h
 ·rw [zmd h];exact hz j
 ·have e:(zmat N n).getD i []=[]:=by rw [qX,xC (by rw [zmat,List.length_replicate];exact h)];rfl
  rw [e];rfl
theorem zic (N n:Nat):(zmat N n).length=N/\∀i,i<N->((zmat N n).getD i []).length=n:=⟨by simp [zmat],fun i hi=>by rw [zmd hi];simp [zrow]⟩
theorem zgj {M:List (List Int)} {i j:Nat} {z:Int} (hi:i<M.length) (hj:j<(M.getD i []).length) (s t:Nat):ent (setM M i j z) s t=if s=i/\t=j then z else ent M s t:=by
 have key:∀{α:Type} {l:List α} {i j:Nat} {x d:α},i<l.length->(l.set i x).getD j d=if j=i then x else l.getD j d:=by
  intro α l i j x d h
  rw [qX,xB,qX]
  by_cases e:i=j
  ·subst e;rw [if_pos rfl,if_pos h,if_pos rfl];rfl
  ·rw [if_neg e,if_neg (Ne.symm e)]
 unfold ent setM
 rw [key hi]
 by_cases h1:s=i
 ·subst h1
  rw [if_pos rfl,key hj]
  by_cases h2:t=j
  ·rw [if_pos h2,if_pos ⟨rfl,h2⟩]
  ·rw [if_neg h2,if_neg (fun e=>h2 e.2)]
 ·rw [if_neg h1,if_neg (fun e=>h1 e.1)]
theorem zpo (H:Heap) (N n:Nat):MatH (H++(zH N n N).map (renB (zak [] H.length))) H.length ((zps n N).map fun p=>(H.length+p.1,p.2)) n (zmat N n):=zjw (qyy N n)
theorem qoe {M:List (List Int)} {rows:List AV} {c cap:Option Nat} {n:Nat} (hn:n<=16) (hN:M.length<=16) (hl:rows.length=M.length) (hr:∀i,i<M.length->∃c',rows.getD i .junk= .vec (i64z (M.getD i [])) (M.getD i []).length c') (hc:∀i,i<M.length->(M.getD i []).length=n) (hf:∀i j,In64 (ent M i j))
  {i:Nat} (hi:i<M.length) {v49 v50:AV} {Q:Post} {ps:List (Nat×Option Nat)} {X0:List (List Int)} (hX0:X0.length=M.length)
  {E:Env} {H:Heap} (hM:MatH H 0 ps n X0) (e0:E 0= .vec rows M.length c) (e6:E 6= .sl 0 0 M.length 1 cap) (e7:E 7= .int .i64 (i:Nat)) (e49:E 49=v49) (e50:E 50=v50) (e57:E 57= .int .i64 (n:Nat)) (e58:E 58= .int .i64 0)
  (hQ:∀E' H' X,MatH H' 0 ps n X->X.length=M.length->(∀s t,ent X s t=if s=i/\t<n then ent M s t else ent X0 s t)->E' 0= .vec rows M.length c->E' 6= .sl 0 0 M.length 1 cap->E' 49=v49->E' 50=v50->Q (.exit 4) E' H'):
  Wg 0 78 (.loop l64_2) E H Q:=by
 refine zai (fun k E H=>∃j X,j+k=n/\MatH H 0 ps n X/\X.length=M.length/\(∀s t,ent X s t=if s=i/\t<j then ent M s t else ent X0 s t)/\E 0= .vec rows M.length c/\E 6= .sl 0 0 M.length 1 cap/\E 7= .int .i64 (i:Nat)/\E 49=v49/\E 50=v50/\
  E 57= .int .i64 (n:Nat)/\E 58= .int .i64 (j:Nat)) (n:=n) ⟨0,X0,by omega,hM,hX0,fun s t=>by rw [if_neg (by omega)],e0,e6,e7,e49,e50,e57,e58⟩ ?_
 rintro k E H ⟨j,X,hjk,hM,hXl,hX,e0,e6,e7,e49,e50,e57,e58⟩
 refine wM ?_
 simp only [l64_2,r64_14,SS,reduceIte,e57,e58]
 refine ⟨fun hlt=>?_,fun hge=>?_⟩
 ·obtain ⟨k,rfl⟩:∃k',k=k'+1:=⟨k-1,by omega⟩
  have hj:j<n:=by omega
  obtain ⟨ci,hci⟩:=hr i hi
  have hrl:=hc i hi
  have gz:=zbq (M.getD i []) j (by omega) .junk
  obtain ⟨csk,gk,lk,rk,fk⟩:=zen hM (i:=i) (by omega)
  have ok:=zca (ps:=ps) (n:=n) (i:=i) (by rw [hM.len];omega)
  have hol:(ps.map (zck n)).length=M.length:=by rw [qM,hM.len];exact hXl
  have hou:=hM.outer
  obtain ⟨z1,z2⟩:=hf i j
  obtain ⟨v,hv,ts⟩:=zey (ent M i j) (by omega) (by omega)
  have hv0:=hv
  obtain ⟨lv,cv,_,_,_,rfl⟩:=hv0
  have hset:=zjc hM (i:=i) (j:=j) (by omega) hj hv gk
  have w5:=wS1 j (by omega)
  have hent:(M.getD i []).getD j 0=ent M i j:=rfl
  simp only [r64_15,r64_16,SS,fC,reduceCtorEq,reduceIte,qQ,e0,e6,e7,e58,qW,hou,hol,ok,hci,hl,gz,hent,zav,hrl]
  refine ⟨⟨by omega,by omega⟩,by omega,⟨by omega,by omega⟩,by omega,⟨by omega,by omega⟩,by omega,?_⟩
  refine zaa ts ?_
  simp only [SS,reduceIte,qY,qQ,gk,lk,qW]
  refine ⟨⟨by omega,by omega⟩,by omega,rfl,?_⟩
  simp only [r64_17,SS,reduceIte,qQ,e58,w5]
  refine ⟨k,_,_,by omega,⟨j+1,setM X i j (ent M i j),by omega,hset,by rw [zcl];exact hXl,?_,?_,?_,?_,?_,?_,?_,?_⟩,.refl⟩
  ·intro s t
   rw [zgj (by omega) (by rw [hM.cols i (by omega)];exact hj),hX]
   by_cases h1:s=i/\t=j
   ·rw [if_pos h1,if_pos ⟨h1.1,by omega⟩,h1.1,h1.2]
   ·rw [if_neg h1]
    by_cases h2:s=i/\t<j
    ·rw [if_pos h2,if_pos ⟨h2.1,by omega⟩]
    ·rw [if_neg h2,if_neg (by omega)]
  all_goals simp only [UU,qQ,reduceIte, *]
 ·have hjn:j=n:=by omega
  subst hjn
  exact hQ _ _ X hM hXl hX (by simp only [UU,qQ,e0]) (by simp only [UU,qQ,e6]) (by simp only [UU,qQ,e49]) (by simp only [UU,qQ,e50])
theorem qhq {M:List (List Int)} {rows:List AV} {c cap:Option Nat} {n:Nat} (hn:n<=16) (hN:M.length<=16) (hl:rows.length=M.length) (hr:∀i,i<M.length->∃c',rows.getD i .junk= .vec (i64z (M.getD i [])) (M.getD i []).length c') (hc:∀i,i<M.length->(M.getD i []).length=n) (hf:∀i j,In64 (ent M i j))
  {Q:Post} {ps:List (Nat×Option Nat)} {E:Env} {H:Heap} (hM:MatH H 0 ps n (zmat M.length n)) (e0:E 0= .vec rows M.length c) (e6:E 6= .sl 0 0 M.length 1 cap) (e49:E 49= .int .i64 (M.length:Nat)) (e50:E 50= .int .i64 0)
  (hQ:∀E' H',MatH H' 0 ps n M->E' 6= .sl 0 0 M.length 1 cap->Q (.exit 2) E' H'):
  Wg 0 78 (.loop l64_1) E H Q:=by
 refine zai (fun k E H=>∃i X,i+k=M.length/\MatH H 0 ps n X/\X.length=M.length/\(∀s t,ent X s t=if s<i/\t<n then ent M s t else 0)/\E 0= .vec rows M.length c/\E 6= .sl 0 0 M.length 1 cap/\E 49= .int .i64 (M.length:Nat)/\E 50= .int .i64 (i:Nat)) (n:=M.length) ⟨0,zmat M.length n,by omega,hM,(zic _ _).1,fun s t=>by rw [if_neg (by omega),zjy],e0,e6,e49,e50⟩ ?_
 rintro k E H ⟨i,X,hik,hM,hXl,hX,e0,e6,e49,e50⟩
 refine wM ?_
 simp only [l64_1,r64_11,SS,reduceIte,e49,e50]
 refine ⟨fun hlt=>?_,fun hge=>?_⟩
 ·obtain ⟨k,rfl⟩:∃k',k=k'+1:=⟨k-1,by omega⟩
  have hi:i<M.length:=by omega
  obtain ⟨ci,hci⟩:=hr i hi
  have hrl:=hc i hi
  have w5:=wS1 i (by omega)
  simp only [r64_12,r64_13,SS,fC,reduceCtorEq,reduceIte,qQ,e0,e50,qW,hci,hl,hrl]
  refine ⟨⟨by omega,by omega⟩,by omega,?_⟩
  refine qoe hn hN hl hr hc hf hi (c:=c) (cap:=cap) hXl hM (by simp only [UU,qQ,e0]) (by simp only [UU,qQ,e6]) (by simp only [UU,qQ,reduceIte]) (by simp only [UU,qQ];exact e49) (by simp only [UU,qQ];exact e50) (by simp only [UU,qQ,reduceIte]) (by simp only [UU,qQ,reduceIte]) ?_
  intro E' H' X' hM' hXl' hX' f0 f6 f49 f50
  simp only [SS,reduceIte,qQ,r64_18,f50,w5]
  refine ⟨k,_,_,by omega,⟨i+1,X',by omega,hM',hXl',?_,?_,?_,?_,?_⟩,.refl⟩
  ·intro s t
   rw [hX',hX]
   by_cases h1:s=i/\t<n
   ·rw [if_pos h1,if_pos ⟨by omega,h1.2⟩]
   ·rw [if_neg h1]
    by_cases h2:s<i/\t<n
    ·rw [if_pos h2,if_pos ⟨by omega,h2.2⟩]
    ·rw [if_neg h2,if_neg (by omega)]
  all_goals simp only [UU,qQ,reduceIte, *]
 ·have hiN:i=M.length:=by omega
  subst hiN
  have e:X=M:=by
   refine zrv hXl rfl (fun s hs=>hM.cols s (by omega)) hc fun s t hs ht=>?_
   rw [hX,if_pos ⟨hs,ht⟩]
  exact hQ _ _ (e ▸ hM) (by simp only [UU,qQ,e6])
theorem znv {M:List (List Int)} {a:AV} {n:Nat} (h:ImV M a) (hn:1<=n/\n<=16) (hN:1<=M.length/\M.length<=16) (hc:∀i,i<M.length->(M.getD i []).length=n):
  Rt 64 [a] [] (.tup [matC M,.bool true]) []:=by
 have hf:=h.fit
 obtain ⟨rows,c,rfl,hl,hr⟩:=h.val
 refine oFw o64 ?_
 simp only [c64,r64_0,r64_1,SS,fC,reduceCtorEq,reduceIte,qQ]
 refine ⟨fun _=>⟨fun h=>absurd h (by omega),fun _=>?_⟩,fun h=>absurd h (by omega)⟩
 simp only [r64_3,SS,reduceCtorEq,reduceIte,qQ]
 refine zai (fun k E H=>∃i,i+k=M.length/\H=[]/\E 0= .vec rows M.length c/\E 17= .vec rows M.length c/\E 18= .int .i64 (M.length:Nat)/\E 19= .int .i64 (i:Nat)) (n:=M.length) ⟨0,by omega,rfl,by simp only [UU,qQ],by simp only [UU,qQ,reduceIte],by simp only [UU,qQ,reduceIte],by simp only [UU,qQ,reduceIte];rfl⟩ ?_
 rintro k E H ⟨i,hik,rfl,e0,e17,e18,e19⟩
 obtain ⟨c0,hc0⟩:=hr 0 (by omega)
 have hrl0:=hc 0 (by omega)
 refine wM ?_
 simp only [l64_0,r64_4,SS,reduceCtorEq,reduceIte,e18,e19]
 refine ⟨fun hlt=>?_,fun hge=>?_⟩
 ·obtain ⟨k,rfl⟩:∃k',k=k'+1:=⟨k-1,by omega⟩
  have hi:i<M.length:=by omega
  obtain ⟨ci,hci⟩:=hr i hi
  have hrl:=hc i hi
  have w5:=wS1 i (by omega)
  simp only [r64_5,r64_6,SS,fC,reduceCtorEq,reduceIte,qQ,e0,e17,e19,qW,hci,hl,hrl,hc0,hrl0,Int.toNat_zero]
  refine ⟨⟨by omega,by omega⟩,by omega,fun _=>⟨fun _=>⟨⟨by omega,by omega⟩,by omega,?_⟩,fun h=>absurd h (by omega)⟩,fun h=>absurd h (by omega)⟩
  refine ⟨fun h=>absurd rfl h,fun _=>?_⟩
  simp only [r64_8,SS,reduceIte,qQ,e19,w5]
  refine ⟨k,_,_,by omega,⟨i+1,by omega,rfl,?_,?_,?_,?_⟩,.refl⟩
  all_goals simp only [UU,qQ,reduceIte, *]
 ·have hiN:i=M.length:=by omega
  subst hiN
  simp only [r64_9,SS,fC,reduceCtorEq,reduceIte,qQ,e0,hc0,hl,hrl0,Int.toNat_zero]
  refine ⟨⟨by omega,by omega⟩,by omega,?_⟩
  refine zdq (qhp hN.2 hn.2) rfl ?_
  have hz:MatH ((zH M.length n M.length).map (renB (zak [] 0))) 0 ((zps n M.length).map fun p=>(0+p.1,p.2)) n (zmat M.length n):=zpo [] M.length n
  simp only [zaj,SS,reduceIte,qQ,AV.ren,zbm,yV]
  have hH1:zad (effs (zak [] 0) 0 (zH M.length n M.length)) (List.replicate (zH M.length n M.length).length none)=(zH M.length n M.length).map (renB (zak [] 0)):=
   zgh (H:=[]) (zak [] 0) (fun i=>zbm 0 i) (zH M.length n M.length) []
  simp only [hH1]
  generalize (zH M.length n M.length).map (renB (zak [] 0))=H1 at*
  simp only [SS,reduceCtorEq,reduceIte,qQ,r64_10,e0]
  refine qhq (c:=c) (cap:=some M.length) hn.2 hN.2 hl hr hc hf hz (by simp only [UU,qQ,e0]) (by simp only [UU,qQ,reduceIte]) (by simp only [UU,qQ,reduceIte]) (by simp only [UU,qQ,reduceIte]) ?_
  intro E' H' hM' f6
  simp only [SS,reduceCtorEq,reduceIte,r64_19,f6]
  obtain ⟨v,g1,g2⟩:=zib (cap:=some M.length) (b:=true) hM'
  exact ⟨.inl trivial,_,v,rfl,g1,g2⟩
theorem mOf {M:List (List Int)} {a:AV} {n:Nat} (h:ImV M a) (hn:1<=n/\n<=16) (hN:1<=M.length/\M.length<=16) (hc:∀i,i<M.length->(M.getD i []).length=n):
  Rt 24 [a] [] (matC M) []:=by
 have ts:=znv h hn hN hc
 obtain ⟨rows,c,rfl,hl,hr⟩:=h.val
 refine oF o24 ?_
 simp only [c24,r24_0,r24_1,SS,reduceCtorEq,reduceIte]
 refine zaa ts ?_
 simp only [SS,reduceIte,qQ,r24_2,qP,qN]
 exact ⟨.inl trivial,_,rfl,.keep _ _⟩
end Go.Proofs.YtpflahgcdgdkjaaGreatDoor
namespace Go.Limb
open Nat renaming div_div_eq_div_mul -> xS, one_mul -> yC
def dblL:List Nat->Nat->List Nat
 | [],b=>[b]
 | x::r,b=>(2*x%4294967296+b)::dblL r (x/2147483648)
theorem zzh:∀(l:List Nat) (b:Nat),(dblL l b).length=l.length+1:=by
 intro l
 induction l with
 | nil=>intro b;rfl
 | cons x r ih=>intro b;simp [dblL,ih]
theorem qof:∀(l:List Nat) (b:Nat),val (dblL l b)=2*val l+b:=by
 intro l
 induction l with
 | nil=>intro b;simp [dblL,val]
 | cons x r ih=>
  intro b
  simp only [dblL,val,ih]
  omega
theorem qog:∀(l:List Nat) (b:Nat),Dig l->b<=1->Dig (dblL l b):=by
 intro l
 induction l with
 | nil=>intro b _ hb;exact Dig.cons (by omega) Dig.nil
 | cons x r ih=>
  intro b h hb
  have hx:=h.head
  exact Dig.cons (by omega) (ih _ h.tail (by omega))
theorem zug:∀(l:List Nat) (w:Nat),Dig l->l.getD w 0=val l/4294967296^w%4294967296:=by
 intro l
 induction l with
 | nil=>intro w _;simp [val]
 | cons x r ih=>
  intro w h
  have hx:=h.head
  cases w with
  | zero=>simp only [val,List.getD_cons_zero,Nat.pow_zero,Nat.div_one];omega
  | succ w=>
   rw [List.getD_cons_succ,ih w h.tail,val,Nat.pow_succ,Nat.mul_comm (4294967296^w),<-xS]
   congr 2
   omega
theorem qux (l:List Nat) (i:Nat) (h:Dig l):l.getD (i/32) 0/2^(i%32)%2=val l/2^i%2:=by
 rw [zug l _ h]
 have e:4294967296^(i/32)=2^(32*(i/32)):=by rw [Nat.pow_mul]
 have hi:i=32*(i/32)+i%32:=by omega
 have e2:val l/2^i=val l/2^(32*(i/32))/2^(i%32):=by
  rw [xS,<-Nat.pow_add,<-hi]
 rw [e,e2]
 generalize val l/2^(32*(i/32))=x
 have hs:i%32<32:=Nat.mod_lt _ (by decide)
 generalize i%32=s at hs
 have e3:(4294967296:Nat)=2^s*(2*2^(31-s)):=by
  rw [<-Nat.pow_succ',<-Nat.pow_add]
  have:s+(31-s+1)=32:=by omega
  rw [this]
 rw [e3,Nat.mod_mul_right_div_self,Nat.mod_mul_right_mod]
theorem zzi {V n Q r b:Nat} (hb:b<2) (hV:V/2=Q*n+r) (hr:r<n) (hbit:V%2=b):
  (2*r+b<n->V=2*Q*n+(2*r+b))/\(n<=2*r+b->V=(2*Q+1)*n+(2*r+b-n)/\2*r+b-n<n):=by
 have hV2:V=2*(V/2)+V%2:=by omega
 have e1:2*Q*n=2*(Q*n):=Nat.mul_assoc _ _ _
 have e2:(2*Q+1)*n=2*(Q*n)+n:=by rw [Nat.add_mul,Nat.mul_assoc,yC]
 constructor
 ·intro _;omega
 ·intro h;omega
theorem qhr {a s:Nat} (h:a%2^(s+1)=0):a ||| 2^s=a+2^s:=by
 have e:a=2^(s+1)*(a/2^(s+1)):=by
  have:=Nat.div_add_mod a (2^(s+1))
  omega
 have hlt:2^s<2^(s+1):=Nat.pow_lt_pow_right (by decide) (by omega)
 have:=Nat.two_pow_add_eq_or_of_lt hlt (a/2^(s+1))
 rw [<-e] at this
 exact this.symm
end Go.Limb
