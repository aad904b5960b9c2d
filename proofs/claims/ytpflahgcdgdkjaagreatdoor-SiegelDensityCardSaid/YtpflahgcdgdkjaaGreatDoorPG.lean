/- A part of the proof. -/
import Derived.Test.YtpflahgcdgdkjaaGreatDoorPF
import Derived.Test.YtpflahgcdgdkjaaGreatDoorPD
import Derived.Test.YtpflahgcdgdkjaaGreatDoorPE
import Derived.Test.YtpflahgcdgdkjaaGreatDoorPB
set_option linter.all false
set_option maxRecDepth 100000
namespace Go.Proofs.YtpflahgcdgdkjaaGreatDoor
open Nat renaming reduceEqDiff -> qQ, le_refl -> qK, reduceAdd -> qA, reduceLeDiff -> qD, sub_self -> qG, add_zero -> qT, add_assoc -> xG
open Go.AL.AV.closed renaming closedL -> qX
open List renaming getElem?_cons_zero -> qW, getElem?_cons_succ -> qV, replicate_zero -> qB, append_nil -> qE, length_map -> qM, length_nil -> qP, set_append_right -> qR, map_congr_left -> xQ, nil_append -> xX, length_set -> xW, map_map -> xU, length_append -> xI, map_replicate -> xL, map_append -> xT
open Int renaming toNat_natCast -> qJ
open Go Go.AL Go.Proofs Go.Limb
theorem qjq {H:Heap} (σ:Nat->Nat) (s:Nat) (hσ:∀i,σ (s+i)=H.length+i):∀(L X:Heap),zad (effs σ (s+X.length) L) (H++(X++List.replicate L.length none))=H++(X++L.map (renB σ)):=by
 intro L
 induction L with
 | nil=>intro X;simp [effs,zad]
 | cons b L ih=>
  intro X
  have e:H++(X++List.replicate (b::L).length none)=H++(X++(none::List.replicate L.length none)):=rfl
  rw [e]
  simp only [effs,zad,hσ]
  have e2:(H++(X++(none::List.replicate L.length none))).set (H.length+X.length) (renB σ b)=H++((X++[renB σ b])++List.replicate L.length none):=by
   rw [qR _ _ (by omega),Nat.add_sub_cancel_left,qR _ _ (by omega),qG]
   simp
  rw [e2]
  have:=ih (X++[renB σ b])
  rw [xI,List.length_singleton,<-xG] at this
  rw [this]
  simp
theorem zon (r:List Int):qX (i64z r)=true:=by
 induction r with
 | nil=>rfl
 | cons z r ih=>
  show ((AV.int .i64 z).closed && qX (i64z r))=true
  rw [ih];rfl
theorem jad {σ:Nat->Nat} {K N n:Nat} {rows:List (List Int)} (hσ:∀j,σ (1+j)=K+j):(bO 1 N n rows).map (renB σ)=bO K N n rows:=by
 unfold bO
 rw [List.map_cons,xU]
 congr 1
 ·show some ((outO 1 N n rows.length).map (AV.ren σ))=_
  congr 1
  unfold outO
  rw [xT]
  congr 1
  ·unfold zjf
   rw [xU]
   refine xQ fun k _=>?_
   show AV.sl (σ (1+k+1)) 0 n 1 (some n)= .sl (K+k+1) 0 n 1 (some n)
   rw [show 1+k+1=1+(k+1) by omega,hσ]
   rfl
  ·rw [xL]
   rfl
 ·refine xQ fun r _=>?_
  show some ((i64z r).map (AV.ren σ))=some (i64z r)
  rw [zar _ _ (zon r)]
theorem zkn {H:Heap} {id n:Nat} {cs':List AV} {M:List (List Int)} (hid:id<H.length):zad ((id,some cs')::effs (zak [id] H.length) 1 (bO 1 n n M)) (H++List.replicate (bO 1 n n M).length none)=H.set id (some cs')++bO H.length n n M:=by
 have h1:∀j,zak [id] H.length (1+j)=H.length+j:=by
  intro j;rw [Nat.add_comm 1];exact qir
 have:=qjq (H:=H.set id (some cs')) (zak [id] H.length) 1 (fun j=>by rw [h1,xW]) (bO 1 n n M) []
 simp only [zad]
 rw [List.set_append_left _ _ hid]
 simp only [qP,qT,xX] at this
 rw [this,jad h1]
theorem qwr {l:List Int} {k n i j:Nat} (hi:i<n) (hj:j<i):ent (genM l k n) i j=offZ l (zba l k n) i j/\ent (genM l k n) j i=offZ l (zba l k n) i j:=by
 unfold genM
 rw [zby hi (by omega),zby (by omega) hi]
 have h1:¬i=j:=by omega
 have h2:¬j=i:=by omega
 have h3:¬i<j:=by omega
 rw [if_neg h1,if_pos hj,if_neg h2,if_neg h3]
 exact ⟨rfl,rfl⟩
theorem qpt {l:List Int} {k n i:Nat} (hi:i<n):ent (genM l k n) i i=ent (diaM l k n 6) i i:=by
 unfold genM diaM
 rw [zby hi hi,zby hi hi,if_pos rfl,if_pos rfl]
theorem qws {l:List Int} {c:Option Nat} {k n i:Nat} (h:zkj l) (hk:k<=l.length) (hn:1<=n/\n<=8) (hi:i<n) {X0:List (List Int)} (hX0:Shp n X0) (hx0:∀s t,s<n->t<n->ent X0 s t=if s<i/\t<i then ent (genM l k n) s t else ent (diaM l k n 6) s t)
  {v12 v13:AV} {E:Env} {Q:Post} (e0:E 0= .ptr 0 0) (e5:E 5= .sl 1 0 n 1 (some n)) (e6:E 6= .int .i64 (i:Nat)) (e7:E 7= .int .i64 0) (e12:E 12=v12) (e13:E 13=v13)
  (hQ:∀E' X,Shp n X->(∀s t,s<n->t<n->ent X s t=if s<i+1/\t<i+1 then ent (genM l k n) s t else ent (diaM l k n 6) s t)->E' 0= .ptr 0 0->E' 5= .sl 1 0 n 1 (some n)->E' 12=v12->E' 13=v13->Q (.exit 2) E' (tP l c (zba l k (n+triK (i+1)))++bO 1 n n X)):
  Wg 1 45 (.loop l65_1) E (tP l c (zba l k (n+triK i))++bO 1 n n X0) Q:=by
 refine zai (fun q E H=>∃j X,j+q=i/\Shp n X/\(∀s t,s<n->t<n->ent X s t=if (s<i/\t<i)\/(s=i/\t<j)\/(t=i/\s<j) then ent (genM l k n) s t else ent (diaM l k n 6) s t)/\H=tP l c (zba l k (n+triK i+j))++bO 1 n n X/\
  E 0= .ptr 0 0/\E 5= .sl 1 0 n 1 (some n)/\E 6= .int .i64 (i:Nat)/\E 7= .int .i64 (j:Nat)/\E 12=v12/\E 13=v13) (n:=i)
  ⟨0,X0,by omega,hX0,fun s t hs ht=>by
   rw [hx0 s t hs ht]
   by_cases e:s<i/\t<i
   ·rw [if_pos e,if_pos (.inl e)]
   ·rw [if_neg e,if_neg (by omega)],rfl,e0,e5,e6,e7,e12,e13⟩ ?_
 clear e0 e5 e6 e7 e12 e13 E hX0 hx0 X0
 rintro q E H ⟨j,X,hjq,hX,hx,rfl,e0,e5,e6,e7,e12,e13⟩
 refine wM ?_
 simp only [l65_1,r65_6,SS,reduceIte,qQ,e6,e7]
 refine ⟨fun hlt=>?_,fun hge=>?_⟩
 ·obtain ⟨q,rfl⟩:∃q',q=q'+1:=⟨q-1,by omega⟩
  have hj:j<i:=by omega
  have hXl:=hX.len
  have w5:=wS1 j (by omega)
  have hK:=zgn hk (n+triK i+j)
  have tN:=qzz (c:=c) h hK
  have hnk:zhn l (zba l k (n+triK i+j))=zba l k (n+triK i+(j+1)):=rfl
  rw [hnk] at tN
  obtain ⟨g1,g2⟩:=qwr (l:=l) (k:=k) hi hj
  have hoff:Int.tmod (zhm l (zba l k (n+triK i+j))) 3=ent (genM l k n) i j:=by
   rw [g1]
   unfold offZ
   rw [qjl,xG]
  have hr:=zsm l (zba l k n) i j
  have w6:IntKind.i64.wrap (Int.tmod (zhm l (zba l k (n+triK i+j))) 3)=ent (genM l k n) i j:=by
   rw [hoff,g1];exact w64 (by omega) (by omega)
  have hP:=zqd l c (zba l k (n+triK i+j))
  have hP':=zqd l c (zba l k (n+triK i+(j+1)))
  have ko:=zfk (N:=n) (n:=n) (rows:=X) hP
  have ko':=zfk (N:=n) (n:=n) (rows:=setM X i j (ent (genM l k n) i j)) hP'
  rw [hXl] at ko
  rw [zcl,hXl] at ko'
  have kl:=zkk (o:=1) (N:=n) (n:=n) (i:=n) (qK _)
  have kg:=zkl (o:=1) (N:=n) (n:=n) (i:=n) (k:=i) hi
  have kg2:=zkl (o:=1) (N:=n) (n:=n) (i:=n) (k:=j) (by omega)
  have gr:=zlm (N:=n) (n:=n) (rows:=X) hP' (i:=i) (by omega)
  have hs1:=zux (N:=n) (n:=n) (rows:=X) hP' (i:=i) ((X.getD i []).set j (ent (genM l k n) i j))
  have eM:X.set i ((X.getD i []).set j (ent (genM l k n) i j))=setM X i j (ent (genM l k n) i j):=rfl
  rw [eM] at hs1
  have hX1:Shp n (setM X i j (ent (genM l k n) i j)):=hX.set hi
  have gr1:=zlm (N:=n) (n:=n) (rows:=setM X i j (ent (genM l k n) i j)) hP' (i:=i) (by rw [hX1.len];exact hi)
  have gr2:=zlm (N:=n) (n:=n) (rows:=setM X i j (ent (genM l k n) i j)) hP' (i:=j) (by rw [hX1.len];omega)
  have lX:=hX.row i hi
  have l1:=hX1.row i hi
  have l2:=hX1.row j (by omega)
  have gz:(i64z ((setM X i j (ent (genM l k n) i j)).getD i [])).getD j .junk= .int .i64 (ent (genM l k n) i j):=by
   rw [zbq _ j (by omega)]
   have:=hX.ent_set (z:=ent (genM l k n) i j) hi (show j<n by omega) i j
   unfold ent at this ⊢
   rw [this,if_pos ⟨rfl,rfl⟩]
  have hs2:=zux (N:=n) (n:=n) (rows:=setM X i j (ent (genM l k n) i j)) hP' (i:=j) (((setM X i j (ent (genM l k n) i j)).getD j []).set i (ent (genM l k n) i j))
  have eM2:(setM X i j (ent (genM l k n) i j)).set j (((setM X i j (ent (genM l k n) i j)).getD j []).set i (ent (genM l k n) i j))=setM (setM X i j (ent (genM l k n) i j)) j i (ent (genM l k n) i j):=rfl
  rw [eM2] at hs2
  simp only [r65_7,SS,fC,reduceCtorEq,reduceIte,qQ,e0,e5,e6,e7,qJ,ko,kl,kg]
  refine ⟨⟨by omega,by omega⟩,by omega,?_⟩
  refine zfx (id:=0) tN (qru _ _ _ _) rfl ?_
  simp only [zaj,zad,keys,qB,qE,SS,reduceIte,qQ,qrv,hoff,gr,lX,zav,qJ,zdn]
  refine ⟨by decide,⟨by omega,by omega⟩,by omega,rfl,?_⟩
  rw [hs1]
  simp only [r65_8,SS,fC,reduceIte,qQ,e5,e6,e7,qJ,ko',kl,kg,kg2,gr1,gr2,l1,l2,gz,zav,zdn]
  refine ⟨⟨by omega,by omega⟩,by omega,⟨by omega,by omega⟩,by omega,⟨by omega,by omega⟩,by omega,⟨by omega,by omega⟩,by omega,rfl,?_⟩
  rw [hs2]
  simp only [r65_9,SS,reduceIte,qQ,e7,w5]
  refine ⟨q,_,_,by omega,⟨j+1,setM (setM X i j (ent (genM l k n) i j)) j i (ent (genM l k n) i j),by omega,hX1.set (by omega),fun s t hs ht=>?_,rfl,?_,?_,?_,?_,?_,?_⟩,.refl⟩
  ·rw [hX1.ent_set (by omega) hi,hX.ent_set hi (by omega),hx s t hs ht]
   by_cases a1:s=j/\t=i
   ·rw [if_pos a1,if_pos (.inr (.inr ⟨a1.2,by omega⟩)),a1.1,a1.2,g1,g2]
   ·rw [if_neg a1]
    by_cases a2:s=i/\t=j
    ·rw [if_pos a2,if_pos (.inr (.inl ⟨a2.1,by omega⟩)),a2.1,a2.2]
    ·rw [if_neg a2]
     by_cases a3:(s<i/\t<i)\/(s=i/\t<j)\/(t=i/\s<j)
     ·rw [if_pos a3,if_pos (by omega)]
     ·rw [if_neg a3,if_neg (by omega)]
  all_goals simp only [UU,qQ,reduceIte, *]
 ·have hji:j=i:=by omega
  subst hji
  have htri:n+triK (j+1)=n+triK j+j:=by show n+(triK j+j)=_;omega
  rw [<-htri]
  refine hQ _ X hX (fun s t hs ht=>?_) (by simp only [UU,qQ,e0]) (by simp only [UU,qQ,e5]) (by simp only [UU,qQ,e12]) (by simp only [UU,qQ,e13])
  rw [hx s t hs ht]
  by_cases e:s=j/\t=j
  ·rw [e.1,e.2,if_neg (by omega),if_pos (by omega),qpt hi]
  ·by_cases e2:s<j+1/\t<j+1
   ·rw [if_pos e2,if_pos (by omega)]
   ·rw [if_neg e2,if_neg (by omega)]
theorem qpu {l:List Int} {c:Option Nat} {k n:Nat} (h:zkj l) (hk:k<=l.length) (hn:1<=n/\n<=8):
  Rt 65 [.ptr 0 0,.int .i64 (n:Nat)] [some (zdd l c k)] (.sl 1 0 n 1 (some n)) (tP l c (zba l k (n+triK n))++bO 1 n n (genM l k n)):=by
 have hG:Shp n (genM l k n):=zcg _ _
 have tD:=zkm (c:=c) (most:=6) h hk hn (by omega)
 have hlen:(bO 1 n n (diaM l k n 6)).length=n+1:=by simp [bO,(zom l k n 6).len]
 have heff:=zkn (H:=[some (zdd l c k)]) (id:=0) (n:=n) (cs':=zdd l c (zba l k n)) (M:=diaM l k n 6) (Nat.zero_lt_one)
 refine oF o65 ?_ (by simp) (by simp only [xI,zqd,List.length_cons,qP];omega)
 simp only [c65,r65_0,r65_1,SS,reduceCtorEq,reduceIte,qQ]
 refine callA_one (id:=0) (cs:=zdd l c k) (cs':=zdd l c (zba l k n)) (L:=bO 1 n n (diaM l k n 6)) tD rfl rfl rfl rfl rfl ?_
 have hv:(AV.sl 1 0 n 1 (some n)).ren (zak [0] [some (zdd l c k)].length)= .sl 1 0 n 1 (some n):=rfl
 rw [hv]
 simp only [zaj]
 rw [heff]
 have e1:([some (zdd l c k)].set 0 (some (zdd l c (zba l k n)))++bO [some (zdd l c k)].length n n (diaM l k n 6):Heap)=tP l c (zba l k n)++bO 1 n n (diaM l k n 6):=rfl
 rw [e1]
 simp only [SS,reduceIte,qQ]
 simp only [r65_2,SS,reduceIte,qQ]
 refine zai (fun q E H=>∃i X,i+q=n/\Shp n X/\(∀s t,s<n->t<n->ent X s t=if s<i/\t<i then ent (genM l k n) s t else ent (diaM l k n 6) s t)/\H=tP l c (zba l k (n+triK i))++bO 1 n n X/\E 0= .ptr 0 0/\E 5= .sl 1 0 n 1 (some n)/\E 12= .int .i64 (n:Nat)/\E 13= .int .i64 (i:Nat)) (n:=n)
  ⟨0,diaM l k n 6,by omega,zom _ _ _ _,fun s t _ _=>by rw [if_neg (by omega)],rfl,by simp only [UU,qQ],by simp only [UU,qQ,reduceIte],by simp only [UU,qQ,reduceIte],by simp only [UU,qQ,reduceIte];rfl⟩ ?_
 rintro q E H ⟨i,X,hiq,hX,hx,rfl,e0,e5,e12,e13⟩
 refine wM ?_
 simp only [l65_0,r65_3,SS,reduceCtorEq,reduceIte,e12,e13]
 refine ⟨fun hlt=>?_,fun hge=>?_⟩
 ·obtain ⟨q,rfl⟩:∃q',q=q'+1:=⟨q-1,by omega⟩
  have hi:i<n:=by omega
  have w5:=wS1 i (by omega)
  simp only [r65_4,r65_5,SS,reduceIte,qQ,e13]
  refine qws (c:=c) h hk hn hi hX hx (by simp only [UU,qQ,e0]) (by simp only [UU,qQ,e5]) (by simp only [UU,qQ,reduceIte]) (by simp only [UU,qQ,reduceIte]) (by simp only [UU,qQ];exact e12) (by simp only [UU,qQ];exact e13) ?_
  intro E' X' hX' hx' f0 f5 f12 f13
  simp only [SS,reduceCtorEq,reduceIte,qQ,r65_10,f13,w5]
  refine ⟨q,_,_,by omega,⟨i+1,X',by omega,hX',hx',rfl,?_,?_,?_,?_⟩,.refl⟩
  all_goals simp only [UU,qQ,reduceIte, *]
 ·have hin:i=n:=by omega
  subst hin
  have e:X=genM l k i:=zsc hX hG fun s t hs ht=>by rw [hx s t hs ht,if_pos ⟨hs,ht⟩]
  subst e
  simp only [r65_11,SS,reduceIte,qQ,e5]
  exact ⟨.inl trivial,_,rfl,.keep _ _⟩
theorem zii (N n:Nat):∃H1 ps,zad (effs (zak [] 0) 0 (zH N n N)) (List.replicate (zH N n N).length none)=H1/\MatH H1 0 ps n (zmat N n):=
 ⟨_,_,zgh (H:=[]) (zak [] 0) (fun i=>zbm 0 i) (zH N n N) [],zpo [] N n⟩
theorem qjr {n:Nat} (hn:1<=n/\n<=16) {I:List (List Int)} (h1:I.length=n) (h2:∀i,i<n->(I.getD i []).length=n) (h3:∀i j,i<n->j<n->ent I i j=if i=j then 1 else 0):
  Rt 59 [.int .i64 (n:Nat)] [] (.tup [matC I,.bool true]) []:=by
 refine oFw o59 ?_
 simp only [c59,r59_0,r59_1,SS,fC,reduceCtorEq,reduceIte,qQ]
 refine ⟨fun _=>⟨fun h=>absurd h (by omega),fun _=>?_⟩,fun h=>absurd h (by omega)⟩
 simp only [r59_3,SS,reduceCtorEq,reduceIte,qQ]
 refine zdq (qhp hn.2 hn.2) rfl ?_
 obtain ⟨H1,ps,hH1,hz⟩:=zii n n
 simp only [zaj,SS,reduceIte,qQ,AV.ren,zbm,qT,hH1]
 simp only [r59_4,SS,reduceIte,qQ]
 refine zai (fun k E H=>∃i X,i+k=n/\MatH H 0 ps n X/\X.length=n/\(∀s t,ent X s t=if s<i/\s=t then 1 else 0)/\E 4= .sl 0 0 n 1 (some n)/\E 16= .int .i64 (n:Nat)/\E 17= .int .i64 (i:Nat)) (n:=n) ⟨0,zmat n n,by omega,hz,(zic _ _).1,fun s t=>by rw [if_neg (by omega),zjy],by simp only [UU,qQ,reduceIte],by simp only [UU,qQ,reduceIte],by simp only [UU,qQ,reduceIte];rfl⟩ ?_
 rintro k E H ⟨i,X,hik,hM,hXl,hX,e4,e16,e17⟩
 refine wM ?_
 simp only [l59_0,r59_5,SS,reduceCtorEq,reduceIte,e16,e17]
 refine ⟨fun hlt=>?_,fun hge=>?_⟩
 ·obtain ⟨k,rfl⟩:∃k',k=k'+1:=⟨k-1,by omega⟩
  have hi:i<n:=by omega
  obtain ⟨csk,gk,lk,rk,fk⟩:=zen hM (i:=i) (by omega)
  have ok:=zca (ps:=ps) (n:=n) (i:=i) (by rw [hM.len];omega)
  have hol:(ps.map (zck n)).length=n:=by rw [qM,hM.len];exact hXl
  have hou:=hM.outer
  obtain ⟨v,hv,ts⟩:=zey 1 (by omega) (by omega)
  have hv0:=hv
  obtain ⟨lv,cv,_,_,_,rfl⟩:=hv0
  have hset:=zjc hM (i:=i) (j:=i) (by omega) hi hv gk
  have w5:=wS1 i (by omega)
  simp only [r59_6,r59_7,SS,fC,reduceIte,qQ,e4,e17,qJ,hou,hol,ok]
  refine ⟨⟨by omega,by omega⟩,by omega,?_⟩
  refine zaa ts ?_
  simp only [SS,reduceIte,qA,qQ,gk,lk,qJ]
  refine ⟨⟨by omega,by omega⟩,by omega,rfl,?_⟩
  simp only [r59_8,SS,reduceIte,qQ,e17,w5]
  refine ⟨k,_,_,by omega,⟨i+1,setM X i i 1,by omega,hset,by rw [zcl];exact hXl,?_,?_,?_,?_⟩,.refl⟩
  ·intro s t
   rw [zgj (by omega) (by rw [hM.cols i (by omega)];exact hi),hX]
   by_cases h1:s=i/\t=i
   ·rw [if_pos h1,if_pos ⟨by omega,by omega⟩]
   ·rw [if_neg h1]
    by_cases h2:s<i/\s=t
    ·rw [if_pos h2,if_pos ⟨by omega,h2.2⟩]
    ·rw [if_neg h2,if_neg (by omega)]
  all_goals simp only [UU,qQ,reduceIte, *]
 ·have hin:i=n:=by omega
  subst hin
  have e:X=I:=by
   refine zrv hXl h1 (fun s hs=>hM.cols s (by omega)) h2 fun s t hs ht=>?_
   rw [hX,h3 s t hs ht]
   by_cases h:s=t
   ·rw [if_pos ⟨hs,h⟩,if_pos h]
   ·rw [if_neg (fun e=>h e.2),if_neg h]
  subst e
  simp only [r59_9,SS,reduceIte,qQ,e4]
  obtain ⟨v,g1,g2⟩:=zib (cap:=some i) (b:=true) hM
  rw [hXl] at g1
  exact ⟨.inl trivial,_,v,rfl,g1,g2⟩
theorem jae {M:List (List Int)} {rows:List AV} {c cap:Option Nat} {n:Nat} (hn:n<=16) (hN:M.length<=16) (hl:rows.length=M.length) (hr:∀i,i<M.length->zfs (M.getD i []) (rows.getD i .junk)) (hc:∀i,i<M.length->(M.getD i []).length=n)
  {i:Nat} (hi:i<M.length) {v22 v23:AV} {Q:Post} {ps:List (Nat×Option Nat)} {X0:List (List Int)} (hX0:X0.length=n)
  {E:Env} {H:Heap} (hM:MatH H 0 ps M.length X0) (e0:E 0= .vec rows M.length c) (e7:E 7= .sl 0 0 n 1 cap) (e8:E 8= .int .i64 (i:Nat)) (e22:E 22=v22) (e23:E 23=v23) (e30:E 30= .int .i64 (n:Nat)) (e31:E 31= .int .i64 0)
  (hQ:∀E' H' X,MatH H' 0 ps M.length X->X.length=n->(∀s t,ent X s t=if t=i/\s<n then ent M t s else ent X0 s t)->E' 0= .vec rows M.length c->E' 7= .sl 0 0 n 1 cap->E' 22=v22->E' 23=v23->Q (.exit 2) E' H'):
  Wg 0 51 (.loop l133_1) E H Q:=by
 refine zai (fun k E H=>∃j X,j+k=n/\MatH H 0 ps M.length X/\X.length=n/\(∀s t,ent X s t=if t=i/\s<j then ent M t s else ent X0 s t)/\E 0= .vec rows M.length c/\E 7= .sl 0 0 n 1 cap/\E 8= .int .i64 (i:Nat)/\E 22=v22/\E 23=v23/\
  E 30= .int .i64 (n:Nat)/\E 31= .int .i64 (j:Nat)) (n:=n) ⟨0,X0,by omega,hM,hX0,fun s t=>by rw [if_neg (by omega)],e0,e7,e8,e22,e23,e30,e31⟩ ?_
 clear hM e0 e7 e8 e22 e23 e30 e31 E H
 rintro k E H ⟨j,X,hjk,hM,hXl,hX,e0,e7,e8,e22,e23,e30,e31⟩
 refine wM ?_
 simp only [l133_1,r133_9,SS,reduceIte,e30,e31]
 refine ⟨fun hlt=>?_,fun hge=>?_⟩
 ·obtain ⟨k,rfl⟩:∃k',k=k'+1:=⟨k-1,by omega⟩
  have hj:j<n:=by omega
  obtain ⟨csk,gk,lk,rk,fk⟩:=zen hM (i:=j) (by omega)
  have ok:=zca (ps:=ps) (n:=M.length) (i:=j) (by rw [hM.len];omega)
  have hol:(ps.map (zck M.length)).length=n:=by rw [qM,hM.len];exact hXl
  have hou:=hM.outer
  obtain ⟨csi,ci,hei,hci⟩:=hr i hi
  have hcl:=zcv hci
  obtain ⟨u,v,hu,hz⟩:=zeh hci j (by rw [hc i hi];exact hj)
  obtain ⟨w,hw,ts⟩:=zpi hz
  obtain ⟨lz,cz,hz1,hz2⟩:=zam hz
  subst hz1 hz2
  have hw0:=hw
  obtain ⟨lv,cv,_,_,_,rfl⟩:=hw0
  have hset:=zjc hM (i:=j) (j:=i) (by omega) hi hw gk
  have w5:=wS1 j (by omega)
  simp only [r133_10,r133_11,SS,fC,reduceCtorEq,reduceIte,qQ,e0,e7,e8,e31,qJ,hou,hol,ok,hl,hei,hcl,hc i hi,hu]
  refine ⟨⟨by omega,by omega⟩,by omega,⟨by omega,by omega⟩,by omega,⟨by omega,by omega⟩,by omega,?_⟩
  refine zaa ts ?_
  simp only [SS,reduceIte,qA,qQ,gk,lk,qJ]
  refine ⟨⟨by omega,by omega⟩,by omega,rfl,?_⟩
  simp only [r133_12,SS,reduceIte,qQ,e31,w5]
  refine ⟨k,_,_,by omega,⟨j+1,setM X j i (ent M i j),by omega,hset,by rw [zcl];exact hXl,?_,?_,?_,?_,?_,?_,?_,?_⟩,.refl⟩
  ·intro s t
   rw [zgj (by omega) (by rw [hM.cols j (by omega)];exact hi),hX]
   by_cases h1:s=j/\t=i
   ·rw [if_pos h1,if_pos ⟨h1.2,by omega⟩,h1.1,h1.2]
   ·rw [if_neg h1]
    by_cases h2:t=i/\s<j
    ·rw [if_pos h2,if_pos ⟨h2.1,by omega⟩]
    ·rw [if_neg h2,if_neg (by omega)]
  all_goals simp only [UU,qQ,reduceIte, *]
 ·have hjn:j=n:=by omega
  subst hjn
  exact hQ _ _ X hM hXl hX (by simp only [UU,qQ,e0]) (by simp only [UU,qQ,e7]) (by simp only [UU,qQ,e22]) (by simp only [UU,qQ,e23])
theorem zqe {M:List (List Int)} {a:AV} {n:Nat} (h:MatV M a) (hn:1<=n/\n<=16) (hN:1<=M.length/\M.length<=16) (hc:∀i,i<M.length->(M.getD i []).length=n)
  {T:List (List Int)} (h1:T.length=n) (h2:∀i,i<n->(T.getD i []).length=M.length) (h3:∀i j,i<n->j<M.length->ent T i j=ent M j i):
  Rt 133 [a] [] (.tup [matC T,.bool true]) []:=by
 have ts:=ztw h ⟨hN.1,hN.2,fun i hi=>by rw [hc i hi,hc 0 (by omega)];exact ⟨hn.1,hn.2,rfl⟩⟩
 rw [hc 0 (by omega)] at ts
 obtain ⟨rows,c,rfl,hl,hr⟩:=h
 refine oFw o133 ?_
 simp only [c133,r133_0,r133_1,SS,reduceCtorEq,reduceIte]
 refine zaa ts ?_
 simp only [SS,fC,reduceIte,qQ,r133_2,r133_4,qW,qV]
 refine zdq (qhp hn.2 hN.2) rfl ?_
 obtain ⟨H1,ps,hH1,hz⟩:=zii n M.length
 simp only [zaj,SS,reduceIte,qQ,AV.ren,zbm,qT,hH1]
 simp only [r133_5,SS,reduceCtorEq,reduceIte,qQ]
 refine zai (fun k E H=>∃i X,i+k=M.length/\MatH H 0 ps M.length X/\X.length=n/\(∀s t,ent X s t=if t<i/\s<n then ent M t s else 0)/\E 0= .vec rows M.length c/\E 7= .sl 0 0 n 1 (some n)/\E 22= .int .i64 (M.length:Nat)/\E 23= .int .i64 (i:Nat)) (n:=M.length) ⟨0,zmat n M.length,by omega,hz,(zic _ _).1,fun s t=>by rw [if_neg (by omega),zjy],by simp only [UU,qQ],by simp only [UU,qQ,reduceIte],by simp only [UU,qQ,reduceIte],by simp only [UU,qQ,reduceIte];rfl⟩ ?_
 rintro k E H ⟨i,X,hik,hM,hXl,hX,e0,e7,e22,e23⟩
 refine wM ?_
 simp only [l133_0,r133_6,SS,reduceCtorEq,reduceIte,e22,e23]
 refine ⟨fun hlt=>?_,fun hge=>?_⟩
 ·obtain ⟨k,rfl⟩:∃k',k=k'+1:=⟨k-1,by omega⟩
  have hi:i<M.length:=by omega
  obtain ⟨csi,ci,hei,hci⟩:=hr i hi
  have hcl:=zcv hci
  have w5:=wS1 i (by omega)
  simp only [r133_7,r133_8,SS,fC,reduceCtorEq,reduceIte,qQ,e0,e23,qJ,hei,hl,hc i hi]
  refine ⟨⟨by omega,by omega⟩,by omega,?_⟩
  refine jae (c:=c) (cap:=some n) hn.2 hN.2 hl hr hc hi hXl hM (by simp only [UU,qQ,e0]) (by simp only [UU,qQ,e7]) (by simp only [UU,qQ,reduceIte]) (by simp only [UU,qQ];exact e22) (by simp only [UU,qQ];exact e23) (by simp only [UU,qQ,reduceIte]) (by simp only [UU,qQ,reduceIte]) ?_
  intro E' H' X' hM' hXl' hX' f0 f7 f22 f23
  simp only [SS,reduceCtorEq,reduceIte,qQ,r133_13,f23,w5]
  refine ⟨k,_,_,by omega,⟨i+1,X',by omega,hM',hXl',?_,?_,?_,?_,?_⟩,.refl⟩
  ·intro s t
   rw [hX',hX]
   by_cases h1:t=i/\s<n
   ·rw [if_pos h1,if_pos ⟨by omega,h1.2⟩]
   ·rw [if_neg h1]
    by_cases h2:t<i/\s<n
    ·rw [if_pos h2,if_pos ⟨by omega,h2.2⟩]
    ·rw [if_neg h2,if_neg (by omega)]
  all_goals simp only [UU,qQ,reduceIte, *]
 ·have hin:i=M.length:=by omega
  subst hin
  have e:X=T:=by
   refine zrv hXl h1 (fun s hs=>hM.cols s (by omega)) h2 fun s t hs ht=>?_
   rw [hX,h3 s t hs ht,if_pos ⟨ht,hs⟩]
  subst e
  simp only [r133_14,SS,reduceIte,qQ,e7]
  obtain ⟨v,g1,g2⟩:=zib (cap:=some n) (b:=true) hM
  rw [hXl] at g1
  exact ⟨.inl trivial,_,v,rfl,g1,g2⟩
def dotS (r s:List Int):Nat->Int
 | 0=>0
 | k+1=>dotS r s k+r.getD k 0*s.getD k 0
theorem mDot {r s:List Int} {a b:AV} (ha:zfs r a) (hb:zfs s b) (hl:s.length=r.length) (h16:r.length<=16) (hB:∀i,i<r.length->(r.getD i 0*s.getD i 0).natAbs<BIG) (hS:∀k,k<=r.length->(dotS r s k).natAbs<BIG):
  Rt 191 [a,b] [] (intV (dotS r s r.length)) []:=by
 obtain ⟨ra,ca,rfl,hra⟩:=ha
 obtain ⟨sb,cb,rfl,hsb⟩:=hb
 have la:=zcv hra
 have lb:=zcv hsb
 refine oFw o191 ?_
 simp only [c191,r191_0,r191_1,r191_2,SS,reduceCtorEq,reduceIte,qA,qQ,qD]
 refine zai (fun m E H=>∃k u v,k+m=r.length/\H=[some [AV.bool false,AV.vec [] 0 (some 0)],some [u,v]]/\zat (dotS r s k) (.agg [u,v])/\E 0= .vec ra r.length ca/\E 1= .vec sb s.length cb/\E 4= .ptr 0 0/\E 5= .ptr 1 0/\E 9= .int .i64 (r.length:Nat)/\E 10= .int .i64 (k:Nat)) (n:=r.length)
  ⟨0,_,_,by omega,rfl,zpn,by simp only [UU,qQ],by simp only [UU,qQ],by simp only [UU,qQ,reduceIte],by simp only [UU,qQ,reduceIte],by simp only [UU,qQ,reduceIte],by simp only [UU,qQ,reduceIte];rfl⟩ ?_
 rintro m E H ⟨k,u,v,hkm,rfl,hz,e0,e1,e4,e5,e9,e10⟩
 refine wM ?_
 obtain ⟨lz,cz,hz1,hz2⟩:=zam hz
 subst hz1 hz2
 simp only [l191_0,r191_3,SS,reduceCtorEq,reduceIte,e9,e10]
 refine ⟨fun hlt=>?_,fun hge=>?_⟩
 ·obtain ⟨m,rfl⟩:∃m',m=m'+1:=⟨m-1,by omega⟩
  have hk:k<r.length:=by omega
  obtain ⟨u1,v1,g1,hz1⟩:=zeh hra k hk
  obtain ⟨u2,v2,g2,hz2⟩:=zeh hsb k (by omega)
  obtain ⟨p,hp,t1⟩:=zMul hz1 hz2 (hB k hk)
  obtain ⟨q,hq,t2⟩:=zAdd hz hp (hS (k+1) hk)
  obtain ⟨l1,c1,x1,y1⟩:=zam hz1
  obtain ⟨l2,c2,x2,y2⟩:=zam hz2
  subst x1 y1 x2 y2
  obtain ⟨lp,cp,_,_,_,rfl⟩:=id hp
  obtain ⟨lq,cq,_,_,_,rfl⟩:=id hq
  have w5:=wS1 k (by omega)
  simp only [r191_4,r191_5,SS,reduceCtorEq,reduceIte,qA,qQ,qD,e0,e1,e5,e10,qJ,g1,g2,la,lb,hl]
  refine ⟨⟨by omega,by omega⟩,by omega,⟨by omega,by omega⟩,by omega,?_⟩
  refine zaa t1 ?_
  simp only [SS,reduceIte,qQ]
  refine zaa t2 ?_
  simp only [SS,reduceIte,qA,qQ,qD,e5]
  refine ⟨rfl,?_⟩
  simp only [r191_6,SS,reduceIte,qQ,e10,w5]
  refine ⟨m,_,_,by omega,⟨k+1,_,_,by omega,rfl,hq,?_,?_,?_,?_,?_,?_⟩,.refl⟩
  all_goals first | (simp only [UU,qQ,reduceIte, *];done) | (simp only [UU,qQ,reduceIte, *];rw [hl])
 ·have hkr:k=r.length:=by omega
  subst hkr
  simp only [r191_7,SS,reduceIte,qA,qQ,qD,e4,e5]
  exact ⟨.inl trivial,_,_,zep (id:=0) (by simp only [UU,qQ,e4]) rfl,.drop _ _ rfl (by intro i cs h;omega),hz.wk⟩
end Go.Proofs.YtpflahgcdgdkjaaGreatDoor
namespace Go.Proofs.YtpflahgcdgdkjaaGreatDoor
open Nat renaming reduceEqDiff -> qQ, le_refl -> qK, reduceAdd -> qA, lt_or_ge -> qH, zero_le -> qL, add_zero -> qT, pow_le_pow_right -> xK, one_le_pow -> xB, mul_le_mul_right -> xC, add_assoc -> xG, eq_zero_or_pos -> xM
open Go.AL.AV.closed renaming closedL -> qX
open List renaming getElem?_cons_zero -> qW, getElem?_cons_succ -> qV, length_map -> qM
open Int renaming toNat_natCast -> qJ, mul_le_mul_of_nonneg_left -> qI, mul_le_mul_of_nonneg_right -> qN, le_refl -> xZ, pow_succ -> xO
open Bool renaming and_self -> qY
open Go Go.AL Go.Det
theorem qaj {a:Nat->Row} {n:Nat} (h0:∀i j,i≠j->a i j=0) (h1:∀i,i<n->0<a i i):∀k,k<=n->(∀t,t<=k->0<lead a t)/\∀i j,k<=i->k<=j->stg a k i j=lead a k*a i j:=by
 intro k
 induction k with
 | zero=>
  intro _
  refine ⟨fun t ht=>?_,fun i j _ _=>by rw [zdl,zax,Int.one_mul]⟩
  obtain rfl:t=0:=by omega
  rw [zax];decide
 | succ k ih=>
  intro hk
  obtain ⟨p,q⟩:=ih (by omega)
  have e:lead a (k+1)=lead a k*a k k:=by rw [zaw,q k k (qK _) (qK _)]
  have pk:=p k (qK _)
  have pk1:0<lead a (k+1):=by rw [e];exact Int.mul_pos pk (h1 k (by omega))
  refine ⟨fun t ht=>?_,fun i j hi hj=>?_⟩
  ·rcases (by omega:t<=k\/t=k+1) with h | h
   ·exact p t h
   ·rw [h];exact pk1
  ·have r:=zbp (a:=a) (k:=k) (fun t ht=>by have:=p t ht;omega) i j
   rw [q i j (by omega) (by omega),q i k (by omega) (qK _),q k j (qK _) (by omega),h0 i k (by omega),Int.mul_zero,Int.zero_mul,Int.sub_zero] at r
   have e2:lead a (k+1)*(lead a k*a i j)=lead a k*(lead a (k+1)*a i j):=Int.mul_left_comm _ _ _
   rw [e2] at r
   exact Int.eq_of_mul_eq_mul_left (by omega) r
theorem qjs {a:Nat->Row} {n:Nat} {c:Int} (h0:∀i j,i≠j->a i j=0) (h1:∀i,i<n->0<a i i) (h2:∀i,i<n->a i i<=c) (hc:0<=c):∀k,k<=n->lead a k<=c^k:=by
 intro k
 induction k with
 | zero=>intro _;rw [zax,Int.pow_zero];exact xZ _
 | succ k ih=>
  intro hk
  obtain ⟨p,q⟩:=qaj h0 h1 k (by omega)
  rw [zaw,q k k (qK _) (qK _),xO]
  exact Int.mul_le_mul (ih (by omega)) (h2 k (by omega)) (by have:=h1 k (by omega);omega) (Int.pow_nonneg hc)
theorem qpv {a:Nat->Row} {n:Nat} (hs:∀i j,i<n->j<n->a i j=a j i) (hp:∀k,k<=n->0<lead a k):∃D,Pos n D a:=by
 have:∀m,m<=n->∃D,∀k,k<=m->lead a k<=D:=by
  intro m
  induction m with
  | zero=>intro _;exact ⟨lead a 0,fun k hk=>by
    have e:k=0:=by omega
    rw [e];exact xZ _⟩
  | succ m ih=>
   intro hm
   obtain ⟨D,h⟩:=ih (by omega)
   refine ⟨max D (lead a (m+1)),fun k hk=>?_⟩
   rcases (by omega:k<=m\/k=m+1) with h1 | h1
   ·have:=h k h1;omega
   ·rw [h1];omega
 obtain ⟨D,h⟩:=this n (qK _)
 exact ⟨D,hs,hp,h⟩
theorem qpw {a:Nat->Row} {n:Nat} {c:Int} (hs:∀i j,i<n->j<n->a i j=a j i) (hp:∀k,k<=n->0<lead a k) (hd:∀s,s<n->a s s<=c) (hc:1<=c):Pos n (c^n) a:=by
 obtain ⟨D,h⟩:=qpv hs hp
 have key:∀k,k<=n->lead a k<=c^k:=by
  intro k
  induction k with
  | zero=>intro _;rw [zax,Int.pow_zero];exact xZ _
  | succ k ih=>
   intro hk
   have d:=h.down (s:=k) (by omega) k (qK _)
   rw [<-zaw] at d
   have p:=hp k (by omega)
   have m1:lead a k*a k k<=lead a k*c:=qI (hd k (by omega)) (by omega)
   have m2:lead a k*c<=c^k*c:=qN (ih (by omega)) (by omega)
   rw [xO]
   omega
 refine ⟨hs,hp,fun k hk=>Int.le_trans (key k hk) ?_⟩
 obtain ⟨m,rfl⟩:∃m,n=k+m:=⟨n-k,by omega⟩
 clear key h hs hp hd hk D
 induction m with
 | zero=>exact xZ _
 | succ m ih=>
  rw [<-xG,xO]
  have:0<=c^(k+m):=Int.pow_nonneg (by omega)
  have:=qI hc this
  omega
def zin (n:Nat) (M:List (List Int)):Prop:=(∀k,k<n+1->0<lead (rowF M) k)/\lead (rowF M) n<=10000
instance (n:Nat) (M:List (List Int)):Decidable (zin n M):=inferInstanceAs (Decidable (_/\_))
def zxt (l:List Int) (kind n:Nat):List (List Int):=if zin n (rawM l kind n) then rawM l kind n else diaM l (rawK l kind n) n 2
theorem qpx {l:List Int} {k n:Nat} (h8:n<=8):zin n (diaM l k n 2):=by
 have h0:∀i j,i≠j->rowF (diaM l k n 2) i j=0:=by
  intro i j hij
  show ent (diaM l k n 2) i j=0
  by_cases h:i<n/\j<n
  ·rw [qjn h.1 h.2,if_neg hij]
  ·exact (zki (l:=l) (k:=k) (n:=n) (most:=2) (by decide) (by decide)).shp.out (by omega)
 have hd:∀i,i<n->0<rowF (diaM l k n 2) i i/\rowF (diaM l k n 2) i i<=2:=by
  intro i hi
  show 0<ent (diaM l k n 2) i i/\ent (diaM l k n 2) i i<=2
  rw [qjn hi hi,if_pos rfl]
  have:=zfj l (zba l k i) (show (1:Int)<=2 by decide)
  omega
 refine ⟨fun t ht=>(qaj h0 (fun i hi=>(hd i hi).1) n (qK _)).1 t (by omega),?_⟩
 have:=qjs h0 (fun i hi=>(hd i hi).1) (fun i hi=>(hd i hi).2) (by decide) n (qK _)
 have h2:(2:Int)^n<=2^8:=by
  have:=xK (n:=2) (by decide) h8
  exact_mod_cast this
 have e8:(2:Int)^8=256:=by decide
 omega
theorem qwt {l:List Int} {kind n:Nat} (hn:1<=n) (h8:n<=8):SmallG n (zxt l kind n)/\zin n (zxt l kind n):=by
 unfold zxt
 split
 ·rename_i h;exact ⟨zuv hn,h⟩
 ·exact ⟨zki (by decide) (by decide),qpx h8⟩
theorem qak {n:Nat} {M:List (List Int)} (h:SmallG n M) (hg:zin n M):Pos n (16^n) (rowF M):=
 qpw h.sym (fun k hk=>hg.1 k (by omega)) (fun s _=>(h.bnd s s).2) (by decide)
instance (a:Nat->Row) (i j:Nat):Decidable (SZ a i j):=inferInstanceAs (Decidable (_/\_))
instance (a:Nat->Row) (i:Nat):Decidable (LV a i):=inferInstanceAs (Decidable (_<=_))
theorem qpy {n:Nat} {a:Nat->Row} {i j i' j':Nat} (h:CurA n a i j) (h':CurA n a i' j'):i=i'/\j=j':=by
 have e:i=i':=by
  rcases qH i i' with h1 | h1
  ·exact absurd ((h'.pre i h1).1 j h.hj) h.no
  ·rcases qH i' i with h2 | h2
   ·exact absurd ((h.pre i' h2).1 j' h'.hj) h'.no
   ·omega
 subst e
 refine ⟨rfl,?_⟩
 rcases qH j j' with h1 | h1
 ·exact absurd (h.up j' h1 h'.hj) h'.no
 ·rcases qH j' j with h2 | h2
  ·exact absurd (h'.up j h2 h.hj) h.no
  ·omega
theorem qpz {n:Nat} {a:Nat->Row} {i i':Nat} (h:CurS n a i) (h':CurS n a i'):i=i':=by
 rcases qH i i' with h1 | h1
 ·exact absurd ((h'.pre i h1).2 h.h0) h.no
 ·rcases qH i' i with h2 | h2
  ·exact absurd ((h.pre i' h2).2 h'.h0) h'.no
  ·omega
theorem qrw {n:Nat} {a:Nat->Row} {i j i':Nat} (h:CurA n a i j) (h':CurS n a i'):False:=by
 rcases qH i i' with h1 | h1
 ·exact h.no ((h'.pre i h1).1 j h.hj)
 ·rcases qH i' i with h2 | h2
  ·exact h'.no ((h.pre i' h2).2 h'.h0)
  ·have e:i=i':=by omega
   subst e
   exact h.no (h'.up j h.hj)
theorem qjt {n:Nat} (a:Nat->Row):(∃i j,CurA n a i j)\/(∃i,CurS n a i)\/∀i,i<n->OKr a i:=by
 have key:∀m,m<=n->(∃i j,CurA n a i j)\/(∃i,CurS n a i)\/∀i,i<m->OKr a i:=by
  intro m
  induction m with
  | zero=>intro _;exact .inr (.inr fun i h=>absurd h (by omega))
  | succ m ih=>
   intro hm
   rcases ih (by omega) with h | h | h
   ·exact .inl h
   ·exact .inr (.inl h)
   ·have inner:∀c j,j+c=m->(∀l,j<=l->l<m->SZ a m l)->(∃j,CurA n a m j)\/∀l,l<m->SZ a m l:=by
     intro c
     suffices H:∀j,j<=m->(∀l,j<=l->l<m->SZ a m l)->(∃j,CurA n a m j)\/∀l,l<m->SZ a m l by
      intro j hj hl;exact H j (by omega) hl
     intro j
     induction j with
     | zero=>intro _ hl;exact .inr fun l hlm=>hl l (qL _) hlm
     | succ j ihj=>
      intro hj hl
      by_cases hz:SZ a m j
      ·refine ihj (by omega) fun l h1 h2=>?_
       rcases (by omega:l=j\/j+1<=l) with e | e
       ·rw [e];exact hz
       ·exact hl l e h2
      ·exact .inl ⟨j,by omega,by omega,h,fun l h1 h2=>hl l (by omega) h2,hz⟩
    rcases inner 0 m rfl (fun l h1 h2=>absurd h2 (by omega)) with ⟨j,hj⟩ | hz
    ·exact .inl ⟨m,j,hj⟩
    ·by_cases h0:0<m
     ·by_cases hl:LV a m
      ·refine .inr (.inr fun i hi=>?_)
       rcases (by omega:i<m\/i=m) with e | e
       ·exact h i e
       ·subst e;exact ⟨hz,fun _=>hl⟩
      ·exact .inr (.inl ⟨m,by omega,h0,h,hz,hl⟩)
     ·refine .inr (.inr fun i hi=>?_)
      have e:i=m:=by omega
      subst e
      exact ⟨hz,fun h=>absurd h h0⟩
 exact key n (qK _)
def zho (n:Nat) (M:List (List Int)) (i j:Nat):List (List Int):=addU n i j (-(zfv (stg (rowF M) j i j) (lead (rowF M) (j+1))))
def zko (n i:Nat):List (List Int):=zdc (idM n) i (i-1)
inductive Ends (n:Nat) (M' T':List (List Int)):Nat->List (List Int)->List (List Int)->Prop
 | done {k:Nat}:(∀i,i<n->OKr (rowF M') i)->Ends n M' T' k M' T'
 | add {k i j:Nat} {M T:List (List Int)}:CurA n (rowF M) i j->Ends n M' T' k (cgM n M (zho n M i j)) (mulM n T (zho n M i j))->Ends n M' T' (k+1) M T
 | sw {k i:Nat} {M T:List (List Int)}:CurS n (rowF M) i->Ends n M' T' k (cgM n M (zko n i)) (mulM n T (zko n i))->Ends n M' T' (k+1) M T
theorem qju {n:Nat} {D K:Int} {M0:List (List Int)} (h8:n<=8) (hK:1<=K) (hKD:8*D<=K):∀(m:Nat) (M T:List (List Int)),LState n D K M0 M T->MuOK n (rowF M) m->∃k M' T',Ends n M' T' k M T/\LState n D K M0 M' T':=by
 intro m
 induction m using Nat.strongRecOn with
 | _ m ih=>
  intro M T hL hm
  rcases qjt (n:=n) (rowF M) with ⟨i,j,hc⟩ | ⟨i,hc⟩ | h
  ·obtain ⟨hL',hmu⟩:=hL.add h8 hK hKD hc
   obtain ⟨m',hlt,hm'⟩:=hmu m hm
   obtain ⟨k,M',T',he,hl⟩:=ih m' hlt _ _ hL' hm'
   exact ⟨k+1,M',T',.add hc he,hl⟩
  ·obtain ⟨p,rfl⟩:∃p,i=p+1:=⟨i-1,by have:=hc.h0;omega⟩
   obtain ⟨hL',hmu⟩:=hL.sw h8 hK hc
   obtain ⟨m',hlt,hm'⟩:=hmu m hm
   obtain ⟨k,M',T',he,hl⟩:=ih m' hlt _ _ hL' hm'
   exact ⟨k+1,M',T',.sw hc he,hl⟩
  ·exact ⟨0,M,T,.done h,hL⟩
theorem qjv {n k:Nat} {D K:Int} {M0 M' T' M T:List (List Int)} (h8:n<=8) (hK:1<=K) (hKD:8*D<=K) (hL:LState n D K M0 M T) (h:Ends n M' T' k M T):
  ((∀i,i<n->OKr (rowF M) i)/\M=M'/\T=T')\/(∃k' i j,k=k'+1/\CurA n (rowF M) i j/\LState n D K M0 (cgM n M (zho n M i j)) (mulM n T (zho n M i j))/\Ends n M' T' k' (cgM n M (zho n M i j)) (mulM n T (zho n M i j)))\/
   ∃k' i,k=k'+1/\CurS n (rowF M) i/\LState n D K M0 (cgM n M (zko n i)) (mulM n T (zko n i))/\Ends n M' T' k' (cgM n M (zko n i)) (mulM n T (zko n i)):=by
 cases h with
 | done h=>exact .inl ⟨h,rfl,rfl⟩
 | add hc he=>
  rename_i k' i j
  exact .inr (.inl ⟨k',i,j,rfl,hc,(hL.add h8 hK hKD hc).1,he⟩)
 | sw hc he=>
  rename_i k' i
  obtain ⟨p,rfl⟩:∃p,i=p+1:=⟨i-1,by have:=hc.h0;omega⟩
  exact .inr (.inr ⟨k',p+1,rfl,hc,(hL.sw h8 hK hc).1,he⟩)
theorem qqa {n:Nat} {D K:Int} {M0 M' T':List (List Int)} (h8:n<=8) (hK:1<=K) (hKD:8*D<=K):∀{k:Nat} {M T:List (List Int)},Ends n M' T' k M T->LState n D K M0 M T->lead (rowF M') n=lead (rowF M) n:=by
 intro k M T h
 induction h with
 | done h=>intro _;rfl
 | add hc he ih=>
  rename_i k i j M T
  intro hL
  have hi:=hc.hi
  have hj:=hc.hj
  rw [ih (hL.add h8 hK hKD hc).1]
  have e:=qrm (c:= -(zfv (stg (rowF M) j i j) (lead (rowF M) (j+1)))) hL.shM (show i≠j by omega) hi (show j<n by omega)
  unfold zho
  rw [e]
  exact zkd hj hi (hL.pos.ne (qK _)) (qK _)
 | sw hc he ih=>
  rename_i k i M T
  intro hL
  obtain ⟨p,rfl⟩:∃p,i=p+1:=⟨i-1,by have:=hc.h0;omega⟩
  have hi:=hc.hi
  rw [ih (hL.sw h8 hK hc).1]
  have e:=qzh hL.shM hi
  obtain ⟨_,_,g,_⟩:=zxd hL.pos hK hc hL.good
  simp only [Nat.add_sub_cancel] at g
  show lead (rowF (cgM n M (zdc (idM n) (p+1) p))) n=_
  rw [e]
  exact g n (qK _) (by omega)
theorem qqb {n:Nat} {M0:List (List Int)} (h1:1<=n) (h8:n<=8) (h:SmallG n M0) (hg:zin n M0):∃k M' T',Ends n M' T' k M0 (idM n)/\LState n (16^n) (8*16^n) M0 M0 (idM n)/\LState n (16^n) (8*16^n) M0 M' T'/\Red n (rowF M'):=by
 have hp:=qak h hg
 have h16:(1:Int)<=16^n:=by
  have:=xB n 16 (by decide)
  exact_mod_cast this
 have hst:LState n (16^n) (8*16^n) M0 M0 (idM n):=by
  refine LState.start h.shp hp (by omega) fun s _=>?_
  have:=(h.bnd s s).2
  rcases xM n with e | e
  ·omega
  ·have:(16:Int)^1<=16^n:=by
    have:=xK (n:=16) (by decide) e
    exact_mod_cast this
   have e1:(16:Int)^1=16:=by decide
   omega
 obtain ⟨k,M',T',he,hl⟩:=qju h8 (by omega) (xZ _) _ _ _ hst (zzw h8)
 have hdet:=qqa h8 (by omega) (xZ _) he hst
 have hok:∀i,i<n->OKr (rowF M') i:=by
  clear hdet hl hst hp
  generalize idM n=T at he
  clear h hg
  induction he with
  | done h=>exact h
  | add _ _ ih=>exact ih
  | sw _ _ ih=>exact ih
 refine ⟨k,M',T',he,hst,hl,h1,h8,hl.pos.sym,fun k hk=>hl.pos.pos (k+1) (by omega),by rw [hdet];exact hg.2,fun i j hi hj=>(hok i hi).1 j hj,fun i h0 hi=>(hok i hi).2 h0⟩
section
variable {n N B A0:Nat} {M:List (List Int)} {ds:List Int}
theorem qjw (hF:FitN N B A0) (hb:Bnd A0 M) (hnN:n<=N) (h:zdj B M n=some ds) (hp:∀t,t<=n->0<lead (rowF M) t) {i j:Nat} (hj:j<n):zju B M ds i j=some (decide (SZ (rowF M) i j)):=by
 obtain ⟨b,hbs⟩:=zun (ds:=ds) hF hb (i:=i) (j:=j) (by omega)
 have hi:=zum h hp hj hbs
 rw [hbs]
 congr 1
 by_cases hz:SZ (rowF M) i j
 ·rw [decide_eq_true hz];exact hi.2 hz
 ·rw [decide_eq_false hz]
  cases b with
  | false=>rfl
  | true=>exact absurd (hi.1 rfl) hz
theorem qwu (hF:FitN N B A0) (hb:Bnd A0 M) (hnN:n<=N) (h:zdj B M n=some ds) (hf:∀z∈ds,z.natAbs<=bndS A0 N) (hp:∀t,t<=n->0<lead (rowF M) t) {i:Nat} (h0:0<i) (hi:i<n):lovO B M ds i=some (decide (LV (rowF M) i)):=by
 obtain ⟨b,hbs⟩:=qia (ds:=ds) hF hb hf (i:=i) (by omega)
 have hv:=qhy h hp h0 hi hbs
 rw [hbs]
 congr 1
 by_cases hz:LV (rowF M) i
 ·rw [decide_eq_true hz];exact hv.2 hz
 ·rw [decide_eq_false hz]
  cases b with
  | false=>rfl
  | true=>exact absurd (hv.1 rfl) hz
theorem qjx (hF:FitN N B A0) (hb:Bnd A0 M) (hnN:n<=N) (hp:∀t,t<=n->0<lead (rowF M) t) {i j:Nat} (hj:j<n):lamO B M i j=some (stg (rowF M) j i j)/\(stg (rowF M) j i j).natAbs<=bndS A0 N:=by
 obtain ⟨l,h1,h2⟩:=zxb hF hb (i:=i) (j:=j) (by omega)
 have e:=zjz (i:=i) (j:=j) (fun t ht=>by have:=hp t (by omega);omega) (zft h1).1
 rw [e] at h1 h2
 exact ⟨h1,h2⟩
end
theorem qjy {f:Nat->Int} {n c:Nat} (h:∀t,t<n->(f t).natAbs<=c):(sumR f n).natAbs<=n*c:=by
 have:=zzt (f:=f) (n:=n) (c:=(c:Int)) fun t ht=>by have:=h t ht;omega
 have e:((n*c:Nat):Int)=(n:Int)*c:=by simp
 omega
theorem qwv {l d:Int} (hd:0<d):(zfv l d).natAbs<=l.natAbs+1:=by
 have h:=qij (l:=l) (d:=d) hd
 rw [Int.neg_mul] at h
 have h1:2*(zfv l d*d)<=2*l+d:=by omega
 have h2:2*l-d<=2*(zfv l d*d):=by omega
 generalize zfv l d=q at*
 rcases Int.le_total 0 q with hq | hq
 ·rcases (by omega:q<=l.natAbs+1\/(l.natAbs:Int)+2<=q) with e | e
  ·omega
  ·exfalso
   have m:=qN e (show (0:Int)<=d by omega)
   have m2:(l.natAbs:Int)*1<=l.natAbs*d:=qI (by omega) (by omega)
   rw [Int.add_mul] at m
   omega
 ·rcases (by omega: -q<=l.natAbs+1\/(l.natAbs:Int)+2<= -q) with e | e
  ·omega
  ·exfalso
   have m:=qN e (show (0:Int)<=d by omega)
   have m2:(l.natAbs:Int)*1<=l.natAbs*d:=qI (by omega) (by omega)
   rw [Int.add_mul,Int.neg_mul] at m
   omega
open Go.Proofs Go.Limb
theorem qww (r s:List Int):∀k,dotS r s k=sumR (fun t=>r.getD t 0*s.getD t 0) k:=by
 intro k
 induction k with
 | zero=>rfl
 | succ k ih=>show dotS r s k+_=sumR _ k+_;rw [ih]
structure MulB (n x y:Nat) (A B:List (List Int)):Prop where
 a:Bnd x A
 b:Bnd y B
 fit:8*(x*y)+x+y<BIG
theorem MulB.term {n x y:Nat} {A B:List (List Int)} (h:MulB n x y A B) (i j k:Nat):(ent A i k*ent B k j).natAbs<=x*y:=zdm (h.a i k) (h.b k j)
theorem MulB.bnd {n x y:Nat} {A B:List (List Int)} (h:MulB n x y A B) (hn:n<=8):Bnd (8*(x*y)) (mulM n A B):=by
 intro i j
 by_cases hij:i<n/\j<n
 ·unfold mulM
  rw [zby hij.1 hij.2]
  have:=qjy (f:=fun k=>ent A i k*ent B k j) (n:=n) (c:=x*y) fun t _=>h.term i j t
  have:=xC (x*y) hn
  omega
 ·rw [(zsd n A B).out (by omega)];simp
theorem qwx {n x y:Nat} {A B:List (List Int)} {ar tr:List AV} {ac tc cap:Option Nat} (hn:1<=n/\n<=8) (hM:MulB n x y A B) (hsA:Shp n A) (hal:ar.length=n) (har:∀i,i<n->zfs (A.getD i []) (ar.getD i .junk)) (htl:tr.length=n) (htr:∀i,i<n->zfs ((trM n B).getD i []) (tr.getD i .junk))
  {i:Nat} (hi:i<n) {v43 v44:AV} {Q:Post} {ps:List (Nat×Option Nat)} {X0:List (List Int)} (hX0:X0.length=n)
  {E:Env} {H:Heap} (hH:MatH H 0 ps n X0) (e0:E 0= .vec ar n ac) (e9:E 9= .vec tr n tc) (e11:E 11= .sl 0 0 n 1 cap) (e12:E 12= .int .i64 (i:Nat)) (e43:E 43=v43) (e44:E 44=v44) (e48:E 48= .int .i64 (n:Nat)) (e49:E 49= .int .i64 0)
  (hQ:∀E' H' X,MatH H' 0 ps n X->X.length=n->(∀s t,ent X s t=if s=i/\t<n then ent (mulM n A B) s t else ent X0 s t)->E' 0= .vec ar n ac->E' 9= .vec tr n tc->E' 11= .sl 0 0 n 1 cap->E' 43=v43->E' 44=v44->Q (.exit 2) E' H'):
  Wg 0 70 (.loop l134_1) E H Q:=by
 refine zai (fun k E H=>∃j X,j+k=n/\MatH H 0 ps n X/\X.length=n/\(∀s t,ent X s t=if s=i/\t<j then ent (mulM n A B) s t else ent X0 s t)/\E 0= .vec ar n ac/\E 9= .vec tr n tc/\E 11= .sl 0 0 n 1 cap/\E 12= .int .i64 (i:Nat)/\E 43=v43/\E 44=v44/\
  E 48= .int .i64 (n:Nat)/\E 49= .int .i64 (j:Nat)) (n:=n) ⟨0,X0,by omega,hH,hX0,fun s t=>by rw [if_neg (by omega)],e0,e9,e11,e12,e43,e44,e48,e49⟩ ?_
 clear hH e0 e9 e11 e12 e43 e44 e48 e49 E H
 rintro k E H ⟨j,X,hjk,hH,hXl,hX,e0,e9,e11,e12,e43,e44,e48,e49⟩
 refine wM ?_
 simp only [l134_1,r134_10,SS,reduceIte,e48,e49]
 refine ⟨fun hlt=>?_,fun hge=>?_⟩
 ·obtain ⟨k,rfl⟩:∃k',k=k'+1:=⟨k-1,by omega⟩
  have hj:j<n:=by omega
  obtain ⟨csk,gk,lk,rk,fk⟩:=zen hH (i:=i) (by omega)
  have ok:=zca (ps:=ps) (n:=n) (i:=i) (by rw [hH.len];omega)
  have hol:(ps.map (zck n)).length=n:=by rw [qM,hH.len];exact hXl
  have hou:=hH.outer
  have rA:=har i hi
  have rT:=htr j hj
  have lA:=hsA.row i hi
  have lT:((trM n B).getD j []).length=n:=(zcg n _).row j hj
  have hfit:=hM.fit
  have e1:∀t,t<n->((trM n B).getD j []).getD t 0=ent B t j:=by
   intro t ht
   show ent (trM n B) j t=_
   unfold trM
   rw [zby hj ht]
  have hdot:∀m,m<=n->dotS (A.getD i []) ((trM n B).getD j []) m=sumR (fun t=>ent A i t*ent B t j) m:=by
   intro m hm
   rw [qww]
   refine zas fun t ht=>?_
   rw [e1 t (by omega)]
   rfl
  have hval:dotS (A.getD i []) ((trM n B).getD j []) (A.getD i []).length=ent (mulM n A B) i j:=by
   rw [lA,hdot n (qK _)]
   unfold mulM
   rw [zby hi hj]
  have td:=mDot rA rT (by rw [lA,lT]) (by omega) (fun t ht=>by
    rw [e1 t (by omega)]
    have:=hM.term i j t
    have e:(A.getD i []).getD t 0=ent A i t:=rfl
    rw [e];omega) (fun m hm=>by
    rw [hdot m (by omega)]
    have h1:=qjy (f:=fun t=>ent A i t*ent B t j) (n:=m) (c:=x*y) fun t _=>hM.term i j t
    have h2:m*(x*y)<=8*(x*y):=xC _ (by omega)
    omega)
  rw [hval] at td
  have hbv:=hM.bnd hn.2 i j
  have hiv:zat (ent (mulM n A B) i j) (intV (ent (mulM n A B) i j)):=zbo (by omega)
  have hv0:=hiv
  obtain ⟨lv,cv,hcv1,hcv2,hcv3,hev⟩:=hiv
  rw [hev] at td hv0
  have hset:=zjc hH (i:=i) (j:=j) (by omega) hj hv0 gk
  have w5:=wS1 j (by omega)
  obtain ⟨acs,aci,hae,hac⟩:=rA
  obtain ⟨tcs,tci,hte,htc⟩:=rT
  rw [hae,hte] at td
  simp only [r134_11,r134_12,SS,fC,reduceCtorEq,reduceIte,qQ,e0,e9,e11,e12,e49,qJ,hou,hol,ok,hal,htl,hae,hte]
  refine ⟨⟨by omega,by omega⟩,by omega,⟨by omega,by omega⟩,by omega,⟨by omega,by omega⟩,by omega,?_⟩
  refine zaa td ?_
  simp only [SS,reduceIte,qA,qQ,gk,lk,qJ]
  refine ⟨⟨by omega,by omega⟩,by omega,rfl,?_⟩
  simp only [r134_13,SS,reduceIte,qQ,e49,w5]
  refine ⟨k,_,_,by omega,⟨j+1,setM X i j (ent (mulM n A B) i j),by omega,hset,by rw [zcl];exact hXl,?_,?_,?_,?_,?_,?_,?_,?_,?_⟩,.refl⟩
  ·intro s t
   rw [zgj (by omega) (by rw [hH.cols i (by omega)];exact hj),hX]
   by_cases h1:s=i/\t=j
   ·rw [if_pos h1,if_pos ⟨h1.1,by omega⟩,h1.1,h1.2]
   ·rw [if_neg h1]
    by_cases h2:s=i/\t<j
    ·rw [if_pos h2,if_pos ⟨h2.1,by omega⟩]
    ·rw [if_neg h2,if_neg (by omega)]
  all_goals simp only [UU,qQ,reduceIte, *]
 ·have hjn:j=n:=by omega
  subst hjn
  exact hQ _ _ X hH hXl hX (by simp only [UU,qQ,e0]) (by simp only [UU,qQ,e9]) (by simp only [UU,qQ,e11]) (by simp only [UU,qQ,e43]) (by simp only [UU,qQ,e44])
theorem mMul {n x y:Nat} {A B:List (List Int)} {a b:AV} (ha:Sq n A a) (hb:Sq n B b) (hM:MulB n x y A B):Rt 134 [a,b] [] (.tup [matC (mulM n A B),.bool true]) []:=by
 have hn:1<=n/\n<=8:=⟨ha.lo,ha.hi⟩
 have hfit:=hM.fit
 have hsA:Shp n A:=⟨ha.len,ha.cols⟩
 have hsB:Shp n B:=⟨hb.len,hb.cols⟩
 have t1:=ztw ha.mat ha.shape
 rw [ha.cols 0 (by omega),ha.len] at t1
 have hTs:Shp n (trM n B):=zcg n _
 have t2:=zqe (n:=n) hb.mat (by omega) (by rw [hb.len];omega) (fun i hi=>hb.cols i (by rw [hb.len] at hi;exact hi)) (T:=trM n B) hTs.len (fun i hi=>by rw [hb.len];exact hTs.row i hi) (fun i j hi hj=>by unfold trM;rw [zby hi (by rw [hb.len] at hj;exact hj)])
 have hTb:Bnd y (trM n B):=by
  intro i j
  by_cases hij:i<n/\j<n
  ·unfold trM
   rw [zby hij.1 hij.2];exact hM.b j i
  ·rw [hTs.out (by omega)];simp
 have hT:MatV (trM n B) (matC (trM n B)):=znt (zsg hTb (by omega))
 have c1:qX [a]=true:=by simp only [qX,ha.closed,qY]
 have c2:qX [b]=true:=by simp only [qX,hb.closed,qY]
 obtain ⟨tr,tc,hte,htl,htr⟩:=hT
 rw [hte] at t2
 have hbl:=hb.len
 obtain ⟨ar,ac,hae,hal,har⟩:=ha.mat
 obtain ⟨br,bc,hbe,hbl2,hbr⟩:=hb.mat
 subst hae hbe
 rw [ha.len] at hal har t1 c1 ⊢
 rw [hb.len] at t2 c2 ⊢
 rw [hTs.len] at htl htr t2
 refine oFw o134 ?_
 simp only [c134,r134_0,r134_1,SS,reduceCtorEq,reduceIte]
 refine zaa t1 ?_ c1
 simp only [SS,reduceIte,qQ,qW,qV]
 simp only [r134_2,SS,reduceIte,qQ]
 refine zaa t2 ?_ c2
 simp only [SS,reduceIte,qQ,qW,qV]
 simp only [r134_3,SS,fC,reduceIte,qQ]
 refine ⟨fun hne=>absurd rfl hne,fun _=>?_⟩
 simp only [r134_5,SS,reduceCtorEq,reduceIte,qQ]
 refine zdq (qhp (by omega) (by omega)) rfl ?_
 obtain ⟨H1,ps,hH1,hz⟩:=zii n n
 simp only [zaj,SS,reduceIte,qQ,AV.ren,zbm,qT,hH1]
 simp only [r134_6,SS,reduceCtorEq,reduceIte,qQ]
 refine zai (fun k E H=>∃i X,i+k=n/\MatH H 0 ps n X/\X.length=n/\(∀s t,ent X s t=if s<i/\t<n then ent (mulM n A B) s t else 0)/\E 0= .vec ar n ac/\E 9= .vec tr n tc/\E 11= .sl 0 0 n 1 (some n)/\E 43= .int .i64 (n:Nat)/\E 44= .int .i64 (i:Nat)) (n:=n)
  ⟨0,zmat n n,by omega,hz,(zic _ _).1,fun s t=>by rw [if_neg (by omega),zjy],by simp only [UU,qQ],by simp only [UU,qQ,reduceIte],by simp only [UU,qQ,reduceIte],by simp only [UU,qQ,reduceIte],by simp only [UU,qQ,reduceIte];rfl⟩ ?_
 rintro k E H ⟨i,X,hik,hH,hXl,hX,e0,e9,e11,e43,e44⟩
 refine wM ?_
 simp only [l134_0,r134_7,SS,reduceCtorEq,reduceIte,e43,e44]
 refine ⟨fun hlt=>?_,fun hge=>?_⟩
 ·obtain ⟨k,rfl⟩:∃k',k=k'+1:=⟨k-1,by omega⟩
  have hi:i<n:=by omega
  have w5:=wS1 i (by omega)
  simp only [r134_8,r134_9,SS,reduceIte,qQ,e9,e44]
  refine qwx (ar:=ar) (tr:=tr) (ac:=ac) (tc:=tc) (cap:=some n) hn hM hsA hal har htl htr hi hXl hH (by simp only [UU,qQ,e0]) (by simp only [UU,qQ,e9]) (by simp only [UU,qQ,e11]) (by simp only [UU,qQ,reduceIte]) (by simp only [UU,qQ];exact e43) (by simp only [UU,qQ];exact e44) (by simp only [UU,qQ,reduceIte]) (by simp only [UU,qQ,reduceIte]) ?_
  intro E' H' X' hH' hXl' hX' f0 f9 f11 f43 f44
  simp only [SS,reduceCtorEq,reduceIte,qQ,r134_14,f44,w5]
  refine ⟨k,_,_,by omega,⟨i+1,X',by omega,hH',hXl',?_,?_,?_,?_,?_,?_⟩,.refl⟩
  ·intro s t
   rw [hX',hX]
   by_cases h1:s=i/\t<n
   ·rw [if_pos h1,if_pos ⟨by omega,h1.2⟩]
   ·rw [if_neg h1]
    by_cases h2:s<i/\t<n
    ·rw [if_pos h2,if_pos ⟨by omega,h2.2⟩]
    ·rw [if_neg h2,if_neg (by omega)]
  all_goals simp only [UU,qQ,reduceIte, *]
 ·have hin:i=n:=by omega
  subst hin
  have e:X=mulM i A B:=by
   refine zrv hXl (zsd i A B).len (fun s hs=>hH.cols s (by omega)) (zsd i A B).row fun s t hs ht=>?_
   rw [hX,if_pos ⟨hs,ht⟩]
  subst e
  simp only [r134_15,SS,reduceIte,qQ,e11]
  obtain ⟨v,g1,g2⟩:=zib (cap:=some i) (b:=true) hH
  rw [hXl] at g1
  exact ⟨.inl trivial,_,v,rfl,g1,g2⟩
theorem zso {n x y:Nat} {A B:List (List Int)} {a b:AV} (ha:Sq n A a) (hb:Sq n B b) (hM:MulB n x y A B):Rt 63 [a,b] [] (matC (mulM n A B)) []:=by
 have t1:=mMul ha hb hM
 have c1:qX [a,b]=true:=by simp only [qX,ha.closed,hb.closed,qY]
 refine oF o63 ?_
 simp only [c63,r63_0,r63_1,SS,reduceCtorEq,reduceIte,qQ]
 refine zaa t1 ?_ c1
 simp only [SS,reduceIte,qQ,r63_2,qW,qV]
 exact ⟨.inl trivial,_,rfl,.drop _ _ rfl (by intro i cs h;omega)⟩
theorem qdi {n x y:Nat} {A U:List (List Int)} {a u:AV} (ha:Sq n A a) (hu:Sq n U u) (hbA:Bnd x A) (hbU:Bnd y U) (hf:64*(y*x*y)+8*(y*x)+x+y<BIG):Rt 62 [a,u] [] (matC (cgM n A U)) []:=by
 have hn:1<=n/\n<=8:=⟨ha.lo,ha.hi⟩
 have hTs:Shp n (trM n U):=zcg n _
 have hTb:Bnd y (trM n U):=by
  intro i j
  by_cases hij:i<n/\j<n
  ·unfold trM
   rw [zby hij.1 hij.2];exact hbU j i
  ·rw [hTs.out (by omega)];simp
 have t1:=zqe (n:=n) hu.mat (by omega) (by rw [hu.len];omega) (fun i hi=>hu.cols i (by rw [hu.len] at hi;exact hi)) (T:=trM n U) hTs.len (fun i hi=>by rw [hu.len];exact hTs.row i hi) (fun i j hi hj=>by unfold trM;rw [zby hi (by rw [hu.len] at hj;exact hj)])
 have hsT:=zsh hTs hn hTb (by omega)
 have hM1:MulB n y x (trM n U) A:=⟨hTb,hbA,by omega⟩
 have t2:=zso hsT ha hM1
 have hb1:=hM1.bnd hn.2
 have hs1:=zsh (zsd n (trM n U) A) hn hb1 (by omega)
 have e1:8*(8*(y*x)*y)=64*(y*x*y):=by rw [Nat.mul_assoc 8,<-Nat.mul_assoc]
 have hM2:MulB n (8*(y*x)) y (mulM n (trM n U) A) U:=⟨hb1,hbU,by omega⟩
 have t3:=zso hs1 hu hM2
 have c1:qX [u]=true:=by simp only [qX,hu.closed,qY]
 have c2:qX [matC (trM n U),a]=true:=by simp only [qX,ha.closed,hsT.closed,qY]
 have c3:qX [matC (mulM n (trM n U) A),u]=true:=by simp only [qX,hu.closed,hs1.closed,qY]
 refine oF o62 ?_
 simp only [c62,r62_0,r62_1,SS,reduceCtorEq,reduceIte,qQ]
 refine zaa t1 ?_ c1
 simp only [SS,reduceCtorEq,reduceIte,qQ,r62_2,qW,qV]
 refine zaa t2 ?_ c2
 simp only [SS,reduceIte,qQ]
 refine zaa t3 ?_ c3
 simp only [SS,reduceIte,qQ]
 exact ⟨.inl trivial,_,rfl,.drop _ _ rfl (by intro i cs h;omega)⟩
end Go.Proofs.YtpflahgcdgdkjaaGreatDoor
namespace Go.Proofs.YtpflahgcdgdkjaaGreatDoor
open Nat renaming reduceEqDiff -> qQ, le_refl -> qK, reduceAdd -> qA, zero_le -> qL, add_zero -> qT, eq_zero_or_pos -> xM
open Go.AL.AV.closed renaming closedL -> qX
open List renaming getD_eq_getElem?_getD -> qZ, getElem?_cons_zero -> qW, getElem?_cons_succ -> qV, length_map -> qM, length_nil -> qP, nil_append -> xX, length_set -> xW, getElem?_set -> xY
open Int renaming toNat_natCast -> qJ
open Bool renaming and_self -> qY
open Option renaming getD_some -> xR
open Go Go.AL Go.Proofs Go.Limb
def idB (H:Heap) (ps:List (Nat×Option Nat)) (uv:List AV):Nat->Heap
 | 0=>H
 | i+1=>(idB H ps uv i).set (pid ps i) (some (setL ((getB (idB H ps uv i) (pid ps i)).getD []) (i*2) uv))
def idX (n:Nat):Nat->List (List Int)
 | 0=>zmat n n
 | i+1=>setM (idX n i) i i 1
theorem zoo (n:Nat):∀i,(idX n i).length=n:=by
 intro i
 induction i with
 | zero=>exact (zic n n).1
 | succ i ih=>show (setM _ _ _ _).length=n;rw [zcl,ih]
theorem qwy {H:Heap} {ps:List (Nat×Option Nat)} {n:Nat} {u v:AV} (h:MatH H 0 ps n (zmat n n)) (hz:zat 1 (.agg [u,v])):∀i,i<=n->MatH (idB H ps [u,v] i) 0 ps n (idX n i):=by
 intro i
 induction i with
 | zero=>intro _;exact h
 | succ i ih=>
  intro hi
  have hM:=ih (by omega)
  obtain ⟨cs,gk,_⟩:=zen hM (i:=i) (by rw [zoo];omega)
  have:=zjc hM (i:=i) (j:=i) (by rw [zoo];omega) (by omega) hz gk
  show MatH ((idB H ps [u,v] i).set (pid ps i) (some (setL ((getB (idB H ps [u,v] i) (pid ps i)).getD []) (i*2) [u,v]))) 0 ps n (setM (idX n i) i i 1)
  rw [gk]
  exact this
theorem qwz {n:Nat}:∀i,i<=n->(∀s,s<n->((idX n i).getD s []).length=n)/\∀s t,ent (idX n i) s t=if s<i/\s=t then 1 else 0:=by
 intro i
 induction i with
 | zero=>intro _;exact ⟨(zic n n).2,fun s t=>by rw [if_neg (by omega)];exact zjy n n s t⟩
 | succ i ih=>
  intro hi
  obtain ⟨h1,h2⟩:=ih (by omega)
  have hl:=zoo n i
  have hrow:∀s,s<n->((setM (idX n i) i i 1).getD s []).length=n:=by
   intro s hs
   unfold setM
   rw [qZ,xY]
   by_cases e:i=s
   ·subst e
    rw [if_pos rfl,if_pos (by omega),xR,xW];exact h1 i hs
   ·rw [if_neg e,<-qZ];exact h1 s hs
  refine ⟨hrow,fun s t=>?_⟩
  show ent (setM (idX n i) i i 1) s t=_
  rw [zgj (by omega) (by rw [h1 i (by omega)];omega),h2]
  by_cases e1:s=i/\t=i
  ·rw [if_pos e1,if_pos ⟨by omega,by omega⟩]
  ·rw [if_neg e1]
   by_cases e2:s<i/\s=t
   ·rw [if_pos e2,if_pos ⟨by omega,e2.2⟩]
   ·rw [if_neg e2,if_neg (by omega)]
theorem jaf (n:Nat):idX n n=idM n:=by
 obtain ⟨h1,h2⟩:=qwz (n:=n) n (qK _)
 refine zsc (n:=n) ⟨zoo n n,h1⟩ (zfa n) fun s t hs ht=>?_
 rw [h2,zoc hs ht]
 by_cases e:s=t
 ·rw [if_pos ⟨hs,e⟩,if_pos e]
 ·rw [if_neg (fun x=>e x.2),if_neg e]
theorem qdj {n:Nat} (hn:1<=n/\n<=16):∃H1 ps,MatH H1 0 ps n (idM n)/\Rt 59 [.int .i64 (n:Nat)] [] (.tup [.sl 0 0 n 1 (some n),.bool true]) H1:=by
 obtain ⟨H1,ps,hH1,hz⟩:=zii n n
 obtain ⟨v,hv,ts⟩:=zey 1 (by omega) (by omega)
 have hv0:=hv
 obtain ⟨lv,cv,_,_,_,rfl⟩:=hv0
 have hM:=qwy hz hv
 refine ⟨idB H1 ps _ n,ps,by have:=hM n (qK _);rw [jaf] at this;exact this,?_⟩
 refine oF o59 ?_
 simp only [c59,r59_0,r59_1,SS,fC,reduceCtorEq,reduceIte,qQ]
 refine ⟨fun _=>⟨fun h=>absurd h (by omega),fun _=>?_⟩,fun h=>absurd h (by omega)⟩
 simp only [r59_3,SS,reduceCtorEq,reduceIte,qQ]
 refine zdq (qhp hn.2 hn.2) rfl ?_
 simp only [zaj,SS,reduceIte,qQ,AV.ren,zbm,qT,hH1]
 simp only [r59_4,SS,reduceIte,qQ]
 refine zai (fun k E H=>∃i,i+k=n/\H=idB H1 ps [.bool (decide ((1:Int)<0)),.vec (u32s lv) lv.length cv] i/\E 4= .sl 0 0 n 1 (some n)/\E 16= .int .i64 (n:Nat)/\E 17= .int .i64 (i:Nat)) (n:=n) ⟨0,by omega,rfl,by simp only [UU,qQ,reduceIte],by simp only [UU,qQ,reduceIte],by simp only [UU,qQ,reduceIte];rfl⟩ ?_
 rintro k E H ⟨i,hik,rfl,e4,e16,e17⟩
 refine wM ?_
 simp only [l59_0,r59_5,SS,reduceCtorEq,reduceIte,e16,e17]
 refine ⟨fun hlt=>?_,fun hge=>?_⟩
 ·obtain ⟨k,rfl⟩:∃k',k=k'+1:=⟨k-1,by omega⟩
  have hi:i<n:=by omega
  have hMi:=hM i (by omega)
  have hXl:=zoo n i
  obtain ⟨csk,gk,lk,rk,fk⟩:=zen hMi (i:=i) (by omega)
  have ok:=zca (ps:=ps) (n:=n) (i:=i) (by rw [hMi.len];omega)
  have hol:(ps.map (zck n)).length=n:=by rw [qM,hMi.len];exact hXl
  have hou:=hMi.outer
  have w5:=wS1 i (by omega)
  simp only [r59_6,r59_7,SS,fC,reduceIte,qQ,e4,e17,qJ,hou,hol,ok]
  refine ⟨⟨by omega,by omega⟩,by omega,?_⟩
  refine zaa ts ?_
  simp only [SS,reduceIte,qA,qQ,gk,lk,qJ]
  refine ⟨⟨by omega,by omega⟩,by omega,rfl,?_⟩
  simp only [r59_8,SS,reduceIte,qQ,e17,w5]
  refine ⟨k,_,_,by omega,⟨i+1,by omega,?_,?_,?_,?_⟩,.refl⟩
  ·show _=(idB H1 ps _ i).set (pid ps i) (some (setL ((getB (idB H1 ps _ i) (pid ps i)).getD []) (i*2) _))
   rw [gk]
   rfl
  all_goals simp only [UU,qQ,reduceIte, *]
 ·have hin:i=n:=by omega
  subst hin
  simp only [r59_9,SS,reduceIte,qQ,e4]
  exact ⟨.inl trivial,_,rfl,.keep _ _⟩
open Go.Det
structure StepOut (n:Nat) (M:List (List Int)) (out:AV):Prop where
 add:∀i j,CurA n (rowF M) i j->out= .tup [matC (zho n M i j),.bool true]
 sw:∀i,CurS n (rowF M) i->out= .tup [matC (zko n i),.bool true]
 none:(∀i,i<n->OKr (rowF M) i)->out= .tup [.vec [] 0 none,.bool false]
theorem qqc {n N A0:Nat} {M:List (List Int)} {ar:List AV} {ac:Option Nat} {ds:List Int} (hsq:Sq n M (.vec ar n ac)) (hL:Lead BIG n M ds) (hF:FitN N BIG A0) (hb:Bnd A0 M) (hnN:n<=N) (hp:∀t,t<=n->0<lead (rowF M) t) (hds:zdj BIG M n=some ds) (hdf:∀z∈ds,z.natAbs<=bndS A0 N)
  {H2:Heap} {ps:List (Nat×Option Nat)} (hH:MatH H2 0 ps n (idM n)) {out:AV} (ho:StepOut n M out) {i:Nat} (hi:i<n) (hpre:∀s,s<i->OKr (rowF M) s) {v22 v23:AV} {E:Env} {Q:Post}
  (e0:E 0= .vec ar n ac) (e4:E 4=rowV ds) (e6:E 6= .sl 0 0 n 1 (some n)) (e8:E 8= .int .i64 (i:Nat)) (e9:E 9= .int .i64 ((i:Int)-1)) (e22:E 22=v22) (e23:E 23=v23)
  (hret:∀E' H' v,E' 2= .sl 0 0 n 1 (some n)->E' 3= .bool true->AL.Fin 0 (.tup [.sl 0 0 n 1 (some n),.bool true]) H' v []->v.wk=out->Q .ret E' H')
  (hQ:∀E',(∀l,l<i->SZ (rowF M) i l)->E' 0= .vec ar n ac->E' 4=rowV ds->E' 6= .sl 0 0 n 1 (some n)->E' 8= .int .i64 (i:Nat)->E' 22=v22->E' 23=v23->Q (.exit 2) E' H2):
  Wg 0 83 (.loop l60_1) E H2 Q:=by
 have hn:1<=n/\n<=8:=⟨hsq.lo,hsq.hi⟩
 refine zai (fun k E H=>k<=i/\(∀l,k<=l->l<i->SZ (rowF M) i l)/\H=H2/\E 0= .vec ar n ac/\E 4=rowV ds/\E 6= .sl 0 0 n 1 (some n)/\E 8= .int .i64 (i:Nat)/\E 9= .int .i64 ((k:Int)-1)/\E 22=v22/\E 23=v23) (n:=i)
  ⟨qK _,fun l h1 h2=>absurd h2 (by omega),rfl,e0,e4,e6,e8,e9,e22,e23⟩ ?_
 clear e0 e4 e6 e8 e9 e22 e23 E
 rintro k E H ⟨hki,hup,rfl,e0,e4,e6,e8,e9,e22,e23⟩
 refine wM ?_
 simp only [l60_1,r60_7,SS,reduceIte,qQ,e9]
 refine ⟨fun hge=>?_,fun hlt=>?_⟩
 ·obtain ⟨k,rfl⟩:∃k',k=k'+1:=⟨k-1,by omega⟩
  have e9k:((k+1:Nat):Int)-1=(k:Nat):=by omega
  rw [e9k] at e9
  have hk:k<n:=by omega
  have tS:=qrk zdk hsq hL hi hk (qjw hF hb hnN hds hp (i:=i) hk)
  have c1:qX [.vec ar n ac,rowV ds,.int .i64 (i:Nat),.int .i64 (k:Nat)]=true:=rfl
  have w3:IntKind.i64.wrap ((k:Int)-1)=(k:Int)-1:=w64 (by omega) (by omega)
  simp only [r60_8,SS,reduceCtorEq,reduceIte,qQ,e0,e4,e8,e9,e9k]
  refine zaa tS ?_ c1
  simp only [SS,reduceIte,qQ]
  by_cases hz:SZ (rowF M) i k
  ·have d1:decide (SZ (rowF M) i k)=true:=decide_eq_true hz
   simp only [SS,fC,d1]
   simp only [r60_11,SS,reduceIte,qQ,e9,w3]
   refine ⟨k,_,_,by omega,⟨by omega,fun l h1 h2=>?_,rfl,?_,?_,?_,?_,?_,?_,?_⟩,.refl⟩
   ·rcases (by omega:l=k\/k+1<=l) with e | e
    ·rw [e];exact hz
    ·exact hup l e h2
   all_goals simp only [UU,qQ,reduceIte, *]
  ·have d1:decide (SZ (rowF M) i k)=false:=decide_eq_false hz
   have hc:CurA n (rowF M) i k:=⟨hi,by omega,hpre,fun l h1 h2=>hup l (by omega) h2,hz⟩
   have hout:=ho.add i k hc
   obtain ⟨hlam,hlb⟩:=qjx hF hb hnN hp (i:=i) (j:=k) hk
   obtain ⟨hdet,hlf⟩:=zft hlam
   have tL:=zww zdk hsq hi hk hdet hlf
   have hli:=zbo (z:=stg (rowF M) k i k) hlf
   have tM:=zuf zdk hL hn.2 (k:=k+1) (by omega)
   have hmin:zcd ds (k+1)=lead (rowF M) (k+1):=zfu hds hp (by omega)
   have hmi:=zbo (zla zdk hL (k+1))
   rw [hmin] at tM hmi
   have hdp:=hp (k+1) (by omega)
   obtain ⟨q,hq,tQ⟩:=qin hli hmi hdp
   have hmb:=zhi hF hdf (k+1)
   rw [hmin] at hmb
   have hfit:=hF.fit
   have hsq1:=Nat.mul_le_mul_left (bndS A0 N) (zkc hF.one N)
   obtain ⟨w,hw,tN⟩:=qow hq hdp (by omega)
   obtain ⟨x,hx,tG⟩:=zNeg hw
   obtain ⟨csk,gk,lk,rk,fk⟩:=zen hH (i:=k) (by rw [(zfa n).len];exact hk)
   have ok:=zca (ps:=ps) (n:=n) (i:=k) (by rw [hH.len,(zfa n).len];exact hk)
   have hol:(ps.map (zck n)).length=n:=by rw [qM,hH.len];exact (zfa n).len
   have hou:=hH.outer
   have hx0:=hx
   obtain ⟨lx,cx,_,_,_,rfl⟩:=hx0
   have hset:=zjc hH (i:=k) (j:=i) (by rw [(zfa n).len];exact hk) hi hx gk
   have eU:setM (idM n) k i (-(zfv (stg (rowF M) k i k) (lead (rowF M) (k+1))))=zho n M i k:=rfl
   rw [eU] at hset
   have hUl:(zho n M i k).length=n:=(zzv (c:= -(zfv (stg (rowF M) k i k) (lead (rowF M) (k+1)))) (i:=i) hk).len
   obtain ⟨a1,a2,b1,b2,rfl,p1,p2⟩:=id hq
   obtain ⟨_,_,y1,y2⟩:=zam p1
   obtain ⟨_,_,y3,y4⟩:=zam p2
   subst y1 y2 y3 y4
   obtain ⟨lw,cw,_,_,_,hew⟩:=id hw
   subst hew
   have w6:=wS1 k (by omega)
   have cL:qX [.vec ar n ac,.int .i64 (i:Nat),.int .i64 (k:Nat)]=true:=rfl
   have cM:qX [rowV ds,.int .i64 ((k+1:Nat):Int)]=true:=rfl
   have cQ:qX [intV (stg (rowF M) k i k),intV (lead (rowF M) (k+1))]=true:=by simp only [qX,hli.closed,hmi.closed,qY]
   simp only [SS,fC,d1]
   simp only [r60_9,SS,fC,reduceCtorEq,reduceIte,qQ,e0,e6,e8,e9,qJ,hou,hol,ok]
   refine ⟨⟨by omega,by omega⟩,by omega,?_⟩
   refine zaa tL ?_ cL hli.closed
   simp only [SS,reduceIte,qQ,e4,e9,w6]
   refine zaa tM ?_ cM hmi.closed
   simp only [SS,reduceIte,qQ]
   refine zaa tQ ?_ cQ
   simp only [SS,reduceIte,qQ]
   refine zaa tN ?_
   simp only [SS,reduceIte,qQ]
   refine zaa tG ?_
   simp only [SS,reduceIte,qA,qQ,gk,lk,qJ]
   refine ⟨⟨by omega,by omega⟩,by omega,rfl,?_⟩
   simp only [r60_10,SS,reduceIte,qQ,e6]
   obtain ⟨v,g1,g2⟩:=zib (cap:=some n) (b:=true) hset
   rw [hUl] at g1
   exact hret _ _ v (by simp only [UU,qQ,reduceIte]) (by simp only [UU,qQ,reduceIte]) g1 (by rw [g2,hout])
 ·have hk0:k=0:=by omega
  subst hk0
  exact hQ _ (fun l hl=>hup l (qL _) hl) (by simp only [UU,qQ,e0]) (by simp only [UU,qQ,e4]) (by simp only [UU,qQ,e6]) (by simp only [UU,qQ,e8]) (by simp only [UU,qQ,e22]) (by simp only [UU,qQ,e23])
theorem qxa {n N A0:Nat} {M:List (List Int)} {a out:AV} {ds:List Int} (hsq:Sq n M a) (hF:FitN N BIG A0) (hb:Bnd A0 M) (hnN:n<=N) (hp:∀t,t<=n->0<lead (rowF M) t) (ho:StepOut n M out):Rt 60 [a] [] out []:=by
 have hn:1<=n/\n<=8:=⟨hsq.lo,hsq.hi⟩
 obtain ⟨ds,hds,hdf⟩:=zmf hF hb n hnN
 have hds':zjt BIG M=some ds:=by unfold zjt;rw [hsq.len];exact hds
 have hL:=qhn hsq hds'
 have t1:=zrt zdk hsq hds'
 obtain ⟨H0,ps0,hM0,t2⟩:=qdj (n:=n) (by omega)
 have hM2:=zjw (H:=[]) hM0
 have hH2:zad (effs (zak [] 0) 0 H0) (List.replicate H0.length none)=H0.map (renB (zak [] 0)):=zgh (H:=[]) (zak [] 0) (fun i=>zbm 0 i) H0 []
 simp only [xX,qP] at hM2
 have c1:qX [a]=true:=by simp only [qX,hsq.closed,qY]
 obtain ⟨ar,ac,hae,hal,har⟩:=hsq.mat
 subst hae
 rw [hsq.len] at hsq t1 c1 ⊢
 refine oFw o60 ?_
 simp only [c60,r60_0,r60_1,SS,reduceCtorEq,reduceIte]
 refine zaa t1 ?_ c1
 simp only [SS,reduceIte,qQ,qW,qV]
 simp only [r60_2,SS,reduceCtorEq,reduceIte,qQ]
 refine zdq t2 rfl ?_
 simp only [zaj,SS,reduceIte,qQ,AV.ren,AV.ren.renL,zbm,qT,hH2,qW,qV]
 generalize H0.map (renB (zak [] 0))=H2 at*
 generalize (ps0.map fun p=>(0+p.1,p.2))=ps at*
 simp only [r60_3,SS,reduceCtorEq,reduceIte,qQ]
 have hret:∀E' H' v,E' 2= .sl 0 0 n 1 (some n)->E' 3= .bool true->AL.Fin 0 (.tup [.sl 0 0 n 1 (some n),.bool true]) H' v []->v.wk=out->∃v' v'',resA Tryz.prog [.tmp 2,.tmp 3] E' H'=some v'/\AL.Fin 0 v' H' v'' []/\v''.wk=out:=by
  intro E' H' v f2 f3 g gw
  refine ⟨.tup [.sl 0 0 n 1 (some n),.bool true],v,?_,g,gw⟩
  simp only [resA,zew,List.mapM_cons,List.mapM_nil,f2,f3]
  rfl
 refine zai (fun k E H=>∃i,i+k=n/\H=H2/\E 0= .vec ar n ac/\E 4=rowV ds/\E 6= .sl 0 0 n 1 (some n)/\E 22= .int .i64 (n:Nat)/\E 23= .int .i64 (i:Nat)/\∀s,s<i->OKr (rowF M) s) (n:=n)
  ⟨0,by omega,rfl,by simp only [UU,qQ],by simp only [UU,qQ,reduceIte],by simp only [UU,qQ,reduceIte],by simp only [UU,qQ,reduceIte],by simp only [UU,qQ,reduceIte];rfl,fun s hs=>absurd hs (by omega)⟩ ?_
 rintro k E H ⟨i,hik,rfl,e0,e4,e6,e22,e23,hpre⟩
 refine wM ?_
 simp only [l60_0,r60_4,SS,reduceCtorEq,reduceIte,e22,e23]
 refine ⟨fun hlt=>?_,fun hge=>?_⟩
 ·obtain ⟨k,rfl⟩:∃k',k=k'+1:=⟨k-1,by omega⟩
  have hi:i<n:=by omega
  have w5:=wS1 i (by omega)
  have w3:IntKind.i64.wrap ((i:Int)-1)=(i:Int)-1:=w64 (by omega) (by omega)
  simp only [r60_5,r60_6,SS,reduceIte,qQ,e23,w3]
  refine qqc (ar:=ar) (ac:=ac) hsq hL hF hb hnN hp hds hdf hM2 ho hi hpre (by simp only [UU,qQ,e0]) (by simp only [UU,qQ,e4]) (by simp only [UU,qQ,e6]) (by simp only [UU,qQ,reduceIte]) (by simp only [UU,qQ,reduceIte]) (by simp only [UU,qQ];exact e22) (by simp only [UU,qQ];exact e23) ?_ ?_
  ·intro E' H' v f2 f3 g gw
   simp only [SS,reduceCtorEq]
   exact ⟨.inl trivial,hret E' H' v f2 f3 g gw⟩
  intro E' hSZ f0 f4 f6 f8 f22 f23
  rcases xM i with h0 | h0
  ·have d0:decide ((0:Int)<(i:Nat))=false:=decide_eq_false (by omega)
   simp only [SS,fC,reduceCtorEq,reduceIte,qQ,r60_12,f0,f4,f8,d0]
   simp only [r60_15,SS,reduceIte,qQ,f23,w5]
   refine ⟨k,_,_,by omega,⟨i+1,by omega,rfl,?_,?_,?_,?_,?_,fun s hs=>?_⟩,.refl⟩
   ·simp only [UU,qQ, *]
   ·simp only [UU,qQ, *]
   ·simp only [UU,qQ, *]
   ·simp only [UU,qQ, *]
   ·simp only [UU,qQ,reduceIte, *]
   ·rcases (by omega:s<i\/s=i) with e | e
    ·exact hpre s e
    ·rw [e];exact ⟨hSZ,fun h=>absurd h (by omega)⟩
  ·have d0:decide ((0:Int)<(i:Nat))=true:=decide_eq_true (by omega)
   have tV:=qho zdk hsq hL h0 hi (qwu hF hb hnN hds hdf hp h0 hi)
   simp only [SS,fC,reduceCtorEq,reduceIte,qQ,r60_12,f0,f4,f8,d0]
   refine zaa tV ?_
   by_cases hv:LV (rowF M) i
   ·have d1:decide (LV (rowF M) i)=true:=decide_eq_true hv
    simp only [SS,fC,reduceIte,qQ,d1]
    simp only [r60_15,SS,reduceIte,qQ,f23,w5]
    refine ⟨k,_,_,by omega,⟨i+1,by omega,rfl,?_,?_,?_,?_,?_,fun s hs=>?_⟩,.refl⟩
    ·simp only [UU,qQ, *]
    ·simp only [UU,qQ, *]
    ·simp only [UU,qQ, *]
    ·simp only [UU,qQ, *]
    ·simp only [UU,qQ,reduceIte, *]
    ·rcases (by omega:s<i\/s=i) with e | e
     ·exact hpre s e
     ·rw [e];exact ⟨hSZ,fun _=>hv⟩
   ·have d1:decide (LV (rowF M) i)=false:=decide_eq_false hv
    have hc:CurS n (rowF M) i:=⟨hi,h0,hpre,hSZ,hv⟩
    have hout:=ho.sw i hc
    have hIl:=(zfa n).len
    have o1:=zca (ps:=ps) (n:=n) (i:=i) (by rw [hM2.len,hIl];exact hi)
    have o2:=zca (ps:=ps) (n:=n) (i:=i-1) (by rw [hM2.len,hIl];omega)
    have hol:(ps.map (zck n)).length=n:=by rw [qM,hM2.len];exact hIl
    have hou:=hM2.outer
    have w7:(i:Int)-1=((i-1:Nat):Int):=by omega
    have w8:IntKind.i64.wrap ((i-1:Nat):Int)=((i-1:Nat):Int):=w64 (by omega) (by omega)
    have hlt0:=zag hou
    have hsw:=(zzc hM2 (p:=i) (k:=i-1) (by rw [hIl];exact hi) (by rw [hIl];omega)).1
    have hUl:(zdc (idM n) i (i-1)).length=n:=(zkb (zfa n) hi (by omega)).1.len
    simp only [SS,fC,reduceIte,qQ,d1]
    simp only [r60_13,SS,fC,reduceIte,qQ,f6,f8,w7,w8,qJ,hou,hol,o1,o2,zan hlt0,xW,List.set_set]
    refine ⟨⟨by omega,by omega⟩,by omega,⟨by omega,by omega⟩,by omega,⟨by omega,by omega⟩,by omega,⟨by omega,by omega⟩,by omega,rfl,?_⟩
    simp only [r60_14,SS,reduceIte,qQ,f6]
    obtain ⟨v,g1,g2⟩:=zib (cap:=some n) (b:=true) hsw
    rw [hUl] at g1
    exact ⟨.inl trivial,hret _ _ v (by simp only [UU,qQ,reduceIte]) (by simp only [UU,qQ,reduceIte]) g1 (by rw [g2,hout];rfl)⟩
 ·have hin:i=n:=by omega
  subst hin
  have hout:=ho.none hpre
  simp only [r60_16,SS]
  exact ⟨.inl trivial,_,_,rfl,.drop _ _ rfl (by intro i cs h;omega),by rw [hout];rfl⟩
end Go.Proofs.YtpflahgcdgdkjaaGreatDoor
namespace Go.Proofs.YtpflahgcdgdkjaaGreatDoor
open Nat renaming reduceEqDiff -> qQ, le_refl -> qK, zero_le -> qL, lt_of_le_of_lt -> qO, add_zero -> qT, pow_le_pow_right -> xK, one_le_pow -> xB, mul_le_mul -> xD, zero_add -> xP, mul_one -> xS
open Go.AL.AV.closed renaming closedL -> qX
open List renaming getElem?_cons_zero -> qW, getElem?_cons_succ -> qV, length_map -> qM, length_nil -> qP, nil_append -> xX, take_of_length_le -> xJ, drop_zero -> xE
open Int renaming le_refl -> xZ
open Bool renaming and_self -> qY, true_and -> xH
open Go Go.AL Go.Det Go.Limb
theorem qxb {n:Nat} (h1:1<=n) (h5:n<=5):FitN n BIG (bigK (16^n) (8*16^n)).toNat:=by
 rcases (by omega:n=1\/n=2\/n=3\/n=4\/n=5) with rfl | rfl | rfl | rfl | rfl
 ·exact ⟨by decide +kernel,by decide +kernel⟩
 ·exact ⟨by decide +kernel,by decide +kernel⟩
 ·exact ⟨by decide +kernel,by decide +kernel⟩
 ·exact ⟨by decide +kernel,by decide +kernel⟩
 ·exact ⟨by decide +kernel,by decide +kernel⟩
def qjz:Nat:=2^2000
def qrx:Nat:=2^12000
def zln:Nat:=2^12001
def qka:Nat:=2^30000
theorem qkb {n:Nat} (h1:1<=n) (h5:n<=5):vecB (16^n) (8*16^n) (bigK (16^n) (8*16^n)) 7<=((qjz:Nat):Int)/\(bndS (bigK (16^n) (8*16^n)).toNat n:Int)<=((qrx:Nat):Int):=by
 rcases (by omega:n=1\/n=2\/n=3\/n=4\/n=5) with rfl | rfl | rfl | rfl | rfl
 ·exact ⟨by decide +kernel,by decide +kernel⟩
 ·exact ⟨by decide +kernel,by decide +kernel⟩
 ·exact ⟨by decide +kernel,by decide +kernel⟩
 ·exact ⟨by decide +kernel,by decide +kernel⟩
 ·exact ⟨by decide +kernel,by decide +kernel⟩
theorem qqd {n:Nat} (h1:1<=n) (h5:n<=5):1<=bigK (16^n) (8*16^n)/\bigK (16^n) (8*16^n)<=2^200:=by
 rcases (by omega:n=1\/n=2\/n=3\/n=4\/n=5) with rfl | rfl | rfl | rfl | rfl
 ·exact ⟨by decide +kernel,by decide +kernel⟩
 ·exact ⟨by decide +kernel,by decide +kernel⟩
 ·exact ⟨by decide +kernel,by decide +kernel⟩
 ·exact ⟨by decide +kernel,by decide +kernel⟩
 ·exact ⟨by decide +kernel,by decide +kernel⟩
theorem qxc {x y a b B:Nat} (hx:x<=a) (hy:y<=b) (h:64*(b*a*b)+8*(b*a)+a+b<B):64*(y*x*y)+8*(y*x)+x+y<B:=by
 have h1:=xD hy hx
 have h2:=xD h1 hy
 omega
theorem qxd {x y a b B:Nat} (hx:x<=a) (hy:y<=b) (h:8*(a*b)+a+b<B):8*(x*y)+x+y<B:=by
 have h1:=xD hx hy
 omega
theorem jag {x y:Nat} (hx:x<=2^200) (hy:y<=zln):64*(y*x*y)+8*(y*x)+x+y<BIG:=qxc hx hy (by decide +kernel)
theorem jah {x y:Nat} (hx:x<=qjz) (hy:y<=zln):8*(x*y)+x+y<BIG:=qxd hx hy (by decide +kernel)
theorem jai:qrx+1<=zln:=by decide +kernel
theorem jaj:qjz<qka:=by decide +kernel
theorem qxe:zln<qka:=by decide +kernel
theorem qqe:1<=zln:=by decide +kernel
theorem qry:qka<BIG:=by decide +kernel
open Go.Proofs
theorem zuy {n:Nat} {M:List (List Int)} (h:∀i,i<n->OKr (rowF M) i):StepOut n M (.tup [.vec [] 0 none,.bool false]):=
 ⟨fun i j c=>absurd ((h i c.hi).1 j c.hj) c.no,fun i c=>absurd ((h i c.hi).2 c.h0) c.no,fun _=>rfl⟩
theorem zxu {n i j:Nat} {M:List (List Int)} (h:CurA n (rowF M) i j):StepOut n M (.tup [matC (zho n M i j),.bool true]):=
 ⟨fun i' j' c=>by obtain ⟨rfl,rfl⟩:=qpy h c;rfl,fun i' c=>(qrw h c).elim,fun hk=>absurd ((hk i h.hi).1 j h.hj) h.no⟩
theorem qdk {n i:Nat} {M:List (List Int)} (h:CurS n (rowF M) i):StepOut n M (.tup [matC (zko n i),.bool true]):=
 ⟨fun i' j' c=>(qrw c h).elim,fun i' c=>by obtain rfl:=qpz h c;rfl,fun hk=>absurd ((hk i h.hi).2 h.h0) h.no⟩
theorem qxf {H:Heap} {o n:Nat} {ps:List (Nat×Option Nat)} {M:List (List Int)} {cap:Option Nat} (h:MatH H o ps n M):∃vs,frzI 0 H 3 (.sl o 0 M.length 1 cap)=some (.vec vs M.length cap)/\MatV M (.vec vs M.length cap):=by
 obtain ⟨vs,h1,h2,h3⟩:=zrs (zzg h)
 have hl:=h.len
 refine ⟨vs,?_,⟨vs,cap,rfl,h2,h3⟩⟩
 rw [frzI]
 simp only [Nat.not_lt_zero,if_false,h.outer,need,xP,xS,qM,hl,qK,if_true,xE]
 rw [xJ (by simp [hl]),h1]
 rfl
theorem qrz {n y:Nat} (hy:1<=y):Bnd y (idM n):=by
 intro i j
 by_cases h:i<n/\j<n
 ·rw [zoc h.1 h.2]
  split<;>simp<;>omega
 ·rw [(zfa n).out (by omega)];simp
theorem qqf {n y i j:Nat} {M:List (List Int)} (hj:j<n) (hi:i<n) (hy:1<=y) (hc:(zfv (stg (rowF M) j i j) (lead (rowF M) (j+1))).natAbs<=y):Bnd y (zho n M i j):=by
 intro s t
 unfold zho addU
 rw [(zfa n).ent_set hj hi]
 split
 ·rw [Int.natAbs_neg];exact hc
 ·exact qrz hy s t
theorem qqg {n y i:Nat} (hi:i<n) (hy:1<=y):Bnd y (zko n i):=by
 intro s t
 unfold zko
 rw [(zkb (zfa n) hi (by omega)).2]
 exact qrz hy _ _
theorem qqh {n i j:Nat} {M:List (List Int)} (hj:j<n):Shp n (zho n M i j):=zzv hj
theorem qkc {n i:Nat} (hi:i<n):Shp n (zko n i):=(zkb (zfa n) hi (by omega)).1
theorem zkp {n:Nat} {M0 M T:List (List Int)} (h1:1<=n) (h5:n<=5) (hp:Pos n (16^n) (rowF M0)) (ha:∀s,s<n->ent M0 s s<=8*16^n) (hL:LState n (16^n) (8*16^n) M0 M T):
  Bnd (bigK (16^n) (8*16^n)).toNat M/\Bnd qjz T:=by
 have h16:(1:Int)<=16^n:=by
  have:=xB n 16 (by decide)
  exact_mod_cast this
 obtain ⟨b1,b2⟩:=hL.bound (by omega) (by omega) hp ha (qjt (n:=n) (rowF M))
 have hv:=(qkb h1 h5).1
 have hv2:vecB (16^n) (8*16^n) (bigK (16^n) (8*16^n)) 7<=((qjz:Nat):Int):=hv
 refine ⟨fun i j=>?_,fun i j=>?_⟩
 ·by_cases h:i<n/\j<n
  ·have:=b1 i j h.1 h.2
   omega
  ·rw [hL.shM.out (by omega)];simp
 ·by_cases h:i<n/\j<n
  ·have:=b2 i j h.1 h.2
   omega
  ·rw [hL.shT.out (by omega)];simp
theorem qxg {n:Nat} {M0:List (List Int)} {a:AV} (hsq:Sq n M0 a) (h5:n<=5) (hG:SmallG n M0) (hg:zin n M0):∃M' T',Red n (rowF M')/\LState n (16^n) (8*16^n) M0 M' T'/\Rt 23 [a] [] (.tup [.vec (zco n M') n (some n),matC T',.int .i64 0]) []:=by
 have h1:=hsq.lo
 have h8:=hsq.hi
 obtain ⟨k0,M',T',hE,hst,hend,hred⟩:=qqb h1 h8 hG hg
 refine ⟨M',T',hred,hend,?_⟩
 have hpos:=qak hG hg
 have h16:(1:Int)<=16^n:=by
  have:=xB n 16 (by decide)
  exact_mod_cast this
 have hK1:(1:Int)<=8*16^n:=by omega
 have ha:∀s,s<n->ent M0 s s<=8*16^n:=by
  intro s _
  have:=(hG.bnd s s).2
  have h2:(16:Int)^1<=16^n:=by
   have:=xK (n:=16) (by decide) h1
   exact_mod_cast this
  have e1:(16:Int)^1=16:=by decide
  omega
 have hF:=qxb h1 h5
 have hb0:=(zkp h1 h5 hpos ha hst).1
 obtain ⟨ds,hds,hdf⟩:=zmf hF hb0 n (qK _)
 have hds':zjt BIG M0=some ds:=by unfold zjt;rw [hsq.len];exact hds
 obtain ⟨d0,hd0,hd0f⟩:=zry (B:=BIG) hF.one (fun k hk=>(hF.all (k:=k) hk).2) hst.shM hb0
 have hd0e:d0=lead (rowF M0) n:=zhh hst.shM (fun t ht=>by have:=hpos.pos t (by omega);omega) hd0
 have hval:valZ M0 ds=0:=by
  have hsy:=(zme hst.shM).2 hpos.sym
  have hdf2:defB M0 ds=true:=by
   unfold defB
   rw [hsy,xH,znz,zcy hds]
   intro t ht
   rw [zrx hds hpos.pos t ht]
   exact hpos.pos (t+1) (by omega)
  unfold valZ
  rw [hsy,hdf2];rfl
 have t1:=znu zdk hsq hds'
 rw [hval] at t1
 have t2:=qrj zdk hsq hd0 (qO hd0f hF.lt)
 have e2:decide (d0<=10000)=true:=decide_eq_true (by rw [hd0e];exact hg.2)
 rw [e2] at t2
 have t3:=qjr (n:=n) (by omega) (I:=idM n) (zfa n).len (zfa n).row (fun i j hi hj=>zoc hi hj)
 obtain ⟨ps0,L,hLm,tc⟩:=qys (n:=n) hsq.mat (by omega) (by rw [hsq.len];omega) (fun i hi=>hsq.cols i (by rw [hsq.len] at hi;exact hi))
 have hM2:=zjw (H:=[]) hLm
 have hH2:zad (effs (zak [] 0) 0 L) (List.replicate L.length none)=L.map (renB (zak [] 0)):=zgh (H:=[]) (zak [] 0) (fun i=>zbm 0 i) L []
 simp only [xX,qP] at hM2
 have c1:qX [a]=true:=by simp only [qX,hsq.closed,qY]
 have hI:(matC (idM n)).closed=true:=rfl
 have hlen:=hsq.len
 obtain ⟨ar,ac,hae,hal,har⟩:=hsq.mat
 subst hae
 rw [hlen] at hsq t1 t2 tc c1 ⊢
 refine oF o23 ?_
 simp only [c23,r23_0,r23_1,SS,reduceCtorEq,reduceIte]
 refine zaa t1 ?_ c1
 simp only [SS,reduceIte,qQ]
 simp only [r23_2,SS,reduceIte,qQ]
 refine ⟨fun hne=>absurd rfl hne,fun _=>?_⟩
 simp only [r23_4,SS,reduceCtorEq,reduceIte,qQ]
 refine zaa t2 ?_ c1
 simp only [SS,fC,reduceIte,qQ]
 simp only [r23_6,SS,reduceCtorEq,reduceIte,qQ]
 refine zdq tc c1 ?_
 simp only [zaj,SS,reduceIte,qQ,AV.ren,zbm,qT,hH2]
 generalize L.map (renB (zak [] 0))=H2 at*
 generalize (ps0.map fun p=>(0+p.1,p.2))=ps at*
 simp only [r23_7,SS,reduceCtorEq,reduceIte,qQ]
 refine zaa t3 ?_
 simp only [SS,reduceIte,qQ,qW,qV]
 obtain ⟨vs,hfz,hmv⟩:=qxf (cap:=some n) hM2
 rw [hlen] at hfz hmv
 have hsq0:Sq n M0 (.vec vs n (some n)):=⟨hmv,hlen,hst.shM.row,h1,h8⟩
 refine W.weak (zrf 0 3 (qK _) (qL _) (fun i cs h=>absurd h (by omega))) ?_
 refine zai (fun k E H=>∃M T av,Ends n M' T' k M T/\LState n (16^n) (8*16^n) M0 M T/\Sq n M av/\E 6=av/\E 7=matC T/\H=[]) (n:=k0)
  ⟨M0,idM n,_,hE,hst,hsq0,?_,?_,rfl⟩ ?_
 ·unfold frzE
  simp only [UU,qQ,reduceIte]
  rw [if_neg (by simp [AV.under]),hfz]
  rfl
 ·unfold frzE
  simp only [UU,qQ,reduceIte]
  rfl
 rintro k E H ⟨M,T,av,hEn,hL,hsM,e6,e7,rfl⟩
 refine wM ?_
 obtain ⟨hbM,hbT⟩:=zkp h1 h5 hpos ha hL
 have hA200:(bigK (16^n) (8*16^n)).toNat<=2^200:=by
  have:=(qqd h1 h5).2
  have e:((2^200:Nat):Int)=(2:Int)^200:=Int.natCast_pow 2 200
  omega
 have hTsq:Sq n T (matC T):=zsh hL.shT ⟨h1,h8⟩ hbT (by
  exact Nat.lt_trans jaj qry)
 have cM:qX [av]=true:=by simp only [qX,hsM.closed,qY]
 have next:∀U,Shp n U->Bnd (zln) U->Rt 62 [av,matC U] [] (matC (cgM n M U)) []/\Rt 63 [matC T,matC U] [] (matC (mulM n T U)) []/\Sq n U (matC U):=by
  intro U hU hbU
  have hUsq:=zsh hU ⟨h1,h8⟩ hbU (by
   exact Nat.lt_trans qxe qry)
  exact ⟨qdi hsM hUsq hbM hbU (jag hA200 (qK _)),zso hTsq hUsq ⟨hbT,hbU,jah (qK _) (qK _)⟩,hUsq⟩
 have y1:1<=zln:=qqe
 rcases qjv h8 hK1 (xZ _) hL hEn with ⟨hok,rfl,rfl⟩ | ⟨k',i,j,rfl,hc,hL',hE'⟩ | ⟨k',i,rfl,hc,hL',hE'⟩
 ·have tS:=qxa (ds:=[]) hsM hF hbM (qK _) hL.pos.pos (zuy hok)
  have hIn:∀i j,In64 (ent M i j):=by
   intro i j
   by_cases h:i<n/\j<n
   ·have:=hred.entry h.1 h.2
    have e:rowF M i j=ent M i j:=rfl
    unfold In64;omega
   ·rw [hL.shM.out (by omega)];unfold In64;omega
  have tI:=qvy hsM hIn
  simp only [l23_0,r23_8,SS,reduceCtorEq,reduceIte,e6]
  refine zaa tS ?_ cM
  simp only [SS,reduceIte,qQ,qW,qV]
  simp only [r23_9,SS,fC,reduceIte,qQ]
  simp only [r23_10,SS,reduceIte,qQ,e6]
  refine zaa tI ?_ cM
  simp only [SS,reduceIte,qQ,qW,qV]
  simp only [r23_11,SS,reduceIte,qQ,e7]
  exact ⟨.inl trivial,_,rfl,.drop _ _ rfl (by intro i cs h;omega)⟩
 ·have hi:=hc.hi
  have hj:=hc.hj
  have hnb:(zfv (stg (rowF M) j i j) (lead (rowF M) (j+1))).natAbs<=zln:=by
   have h2:=qwv (l:=stg (rowF M) j i j) (hL.pos.pos (j+1) (by omega))
   have h3:=(qjx hF hbM (qK n) hL.pos.pos (i:=i) (j:=j) (by omega)).2
   have h4:=(qkb h1 h5).2
   have h5':=jai
   omega
  obtain ⟨tC,tP,hUsq⟩:=next (zho n M i j) (qqh (by omega)) (qqf (by omega) hi y1 hnb)
  have tS:=qxa (ds:=[]) hsM hF hbM (qK _) hL.pos.pos (zxu hc)
  have hcg:=zsh hL'.shM ⟨h1,h8⟩ (zkp h1 h5 hpos ha hL').1 (qO (hF.all (k:=0) (qL _)).1 hF.lt)
  have c2:qX [av,matC (zho n M i j)]=true:=by simp only [qX,hsM.closed,hUsq.closed,qY]
  have c3:qX [matC T,matC (zho n M i j)]=true:=rfl
  simp only [l23_0,r23_8,SS,reduceCtorEq,reduceIte,e6]
  refine zaa tS ?_ cM
  simp only [SS,reduceIte,qQ,qW,qV]
  simp only [r23_9,SS,fC,reduceIte,qQ]
  simp only [r23_12,SS,reduceIte,qQ,e6]
  refine zaa tC ?_ c2
  simp only [SS,reduceIte,qQ,e7]
  refine zaa tP ?_ c3
  simp only [SS,reduceIte,qQ]
  exact ⟨k',_,_,by omega,⟨_,_,_,hE',hL',hcg,by simp only [UU,qQ,reduceIte],by simp only [UU,qQ,reduceIte],rfl⟩,.refl⟩
 ·have hi:=hc.hi
  have h0:=hc.h0
  obtain ⟨tC,tP,hUsq⟩:=next (zko n i) (qkc hi) (qqg hi y1)
  have tS:=qxa (ds:=[]) hsM hF hbM (qK _) hL.pos.pos (qdk hc)
  have hcg:=zsh hL'.shM ⟨h1,h8⟩ (zkp h1 h5 hpos ha hL').1 (qO (hF.all (k:=0) (qL _)).1 hF.lt)
  have c2:qX [av,matC (zko n i)]=true:=by simp only [qX,hsM.closed,hUsq.closed,qY]
  have c3:qX [matC T,matC (zko n i)]=true:=rfl
  simp only [l23_0,r23_8,SS,reduceCtorEq,reduceIte,e6]
  refine zaa tS ?_ cM
  simp only [SS,reduceIte,qQ,qW,qV]
  simp only [r23_9,SS,fC,reduceIte,qQ]
  simp only [r23_12,SS,reduceIte,qQ,e6]
  refine zaa tC ?_ c2
  simp only [SS,reduceIte,qQ,e7]
  refine zaa tP ?_ c3
  simp only [SS,reduceIte,qQ]
  exact ⟨k',_,_,by omega,⟨_,_,_,hE',hL',hcg,by simp only [UU,qQ,reduceIte],by simp only [UU,qQ,reduceIte],rfl⟩,.refl⟩
theorem zsp:FitN 8 BIG 16:=⟨by decide,by decide +kernel⟩
theorem zuz {n:Nat} {M:List (List Int)} (h:SmallG n M):Bnd 16 M:=by
 intro i j
 have:=h.bnd i j
 omega
theorem zxv {n:Nat} {M:List (List Int)} {ds:List Int} (hS:Shp n M) (hsy:∀i j,i<n->j<n->ent M i j=ent M j i) (hds:zdj BIG M n=some ds):valZ M ds=0↔∀k,k<n+1->0<lead (rowF M) k:=by
 have hsb:=(zme hS).2 (fun i j hi hj=>hsy i j hi hj)
 constructor
 ·intro hv
  have hdf:defB M ds=true:=by
   unfold valZ at hv
   rw [hsb] at hv
   cases e:defB M ds with
   | true=>rfl
   | false=>rw [e] at hv;simp at hv
  unfold defB at hdf
  rw [hsb,xH,znz,zcy hds] at hdf
  intro k hk
  exact (qhx hds n (qK _) hdf).1 k (by omega)
 ·intro hp
  have hdf:defB M ds=true:=by
   unfold defB
   rw [hsb,xH,znz,zcy hds]
   intro t ht
   rw [zrx hds (fun k hk=>hp k (by omega)) t ht]
   exact hp (t+1) (by omega)
  unfold valZ
  rw [hsb,hdf];rfl
theorem jbx {n:Nat} {M:List (List Int)} {a:AV} (hG:SmallG n M) (ha:ImV M a) (hn:1<=n/\n<=8):Rt 69 [a] [] (.bool (decide (zin n M))) []:=by
 have hS:=hG.shp
 have hb:=zuz hG
 have hsq:=zsh hS hn hb (qO (zsp.all (k:=0) (qL _)).1 zsp.lt)
 have t0:=mOf (n:=n) ha (by omega) (by rw [hS.len];omega) (fun i hi=>hS.row i (by rw [hS.len] at hi;exact hi))
 obtain ⟨ds,hds,hdf⟩:=zmf zsp hb n hn.2
 have hds':zjt BIG M=some ds:=by unfold zjt;rw [hS.len];exact hds
 obtain ⟨d0,hd0,hd0f⟩:=zry (B:=BIG) zsp.one (fun k hk=>(zsp.all (k:=k) (by omega)).2) hS hb
 have hd0B:d0.natAbs<BIG:=by have:=(zsp.all hn.2).1;have:=zsp.lt;omega
 have t1:=znu zdk hsq hds'
 have t2:=mDet zdk hsq.mat (by rw [hsq.len];omega) (fun i hi=>by rw [hsq.len] at hi ⊢;exact hsq.cols i hi) hd0
 obtain ⟨v3,hv3,t3⟩:=zey 10000 (by omega) (by omega)
 have t4:=zCmp (zbo hd0B) hv3
 have hviff:=zxv hS hG.sym hds
 have hcl:=hsq.closed
 have c1:qX [a]=true:=by simp only [qX,ha.closed,qY]
 have c2:qX [matC M]=true:=by simp only [qX,hcl,qY]
 have c3:qX [intV d0,v3]=true:=by simp only [qX,(zbo hd0B).closed,hv3.closed,qY]
 refine oF o69 ?_
 simp only [c69,r69_0,r69_1,SS,reduceCtorEq,reduceIte]
 refine zaa t0 ?_ c1
 simp only [SS,reduceIte,qQ]
 simp only [r69_2,SS,reduceIte,qQ]
 refine zaa t1 ?_ c2
 simp only [SS,fC,reduceIte,qQ]
 refine ⟨fun h1=>?_,fun h1=>?_⟩
 ·have hp:=hviff.1 h1
  have hd0e:d0=lead (rowF M) n:=zhh hS (fun t ht=>by have:=hp t (by omega);omega) hd0
  refine zaa t2 ?_ c2 (zbo hd0B).closed
  simp only [SS,fC,reduceIte,qQ]
  refine zaa t3 ?_ rfl hv3.closed
  simp only [SS,fC,reduceIte,qQ]
  refine zaa t4 ?_ c3
  simp only [SS,fC,reduceIte,qQ]
  have e:decide ((if d0<10000 then (-1:Int) else if d0=10000 then 0 else 1)<=0)=decide (zin n M):=by
   rw [decide_eq_decide]
   unfold zin
   rw [<-hd0e]
   constructor
   ·intro h
    refine ⟨hp,?_⟩
    split at h
    ·omega
    ·split at h<;>omega
   ·rintro ⟨_,h⟩
    split
    ·omega
    ·split<;>omega
  rw [e]
  exact ⟨.inl trivial,_,rfl,.drop _ _ rfl (by intro i cs h;omega)⟩
 ·have hng:decide (zin n M)=false:=decide_eq_false (fun hg=>h1 (hviff.2 hg.1))
  have d1:decide (valZ M ds=0)=false:=decide_eq_false h1
  rw [hng]
  simp only [d1]
  exact ⟨.inl trivial,_,rfl,.drop _ _ rfl (by intro i cs h;omega)⟩
end Go.Proofs.YtpflahgcdgdkjaaGreatDoor
namespace Go.Proofs.YtpflahgcdgdkjaaGreatDoor
open Nat renaming reduceEqDiff -> qQ, le_refl -> qK, reduceAdd -> qA, reduceLeDiff -> qD, sub_self -> qG, lt_or_ge -> qH, zero_le -> qL, lt_of_le_of_lt -> qO, zero_add -> xP, mul_one -> xS
open Go.AL.AV.closed renaming closedL -> qX
open List renaming getD_eq_getElem?_getD -> qZ, getElem?_cons_zero -> qW, getElem?_cons_succ -> qV, getElem?_append_right -> qU, replicate_zero -> qB, getElem?_append_left -> qC, append_nil -> qE, length_nil -> qP, set_append_right -> qR, getElem?_set_ne -> qS, map_congr_left -> xQ, nil_append -> xX, take_of_length_le -> xJ, length_set -> xW, getElem?_set -> xY, map_map -> xU, getElem?_eq_none -> xA, drop_zero -> xE, map_replicate -> xL, map_append -> xT
open Int renaming toNat_natCast -> qJ, tmod_eq_emod_of_nonneg -> xV, emod_lt_of_pos -> xN, emod_nonneg -> yQ
open Bool renaming and_self -> qY
open Option renaming getD_some -> xR
open Go Go.AL Go.Proofs Go.Limb
theorem qsa {σ:Nat->Nat} {K N n:Nat} {rows:List (List Int)} (hσ:∀j,σ j=K+j):(bH N n rows).map (renB σ)=bO K N n rows:=by
 unfold bH bO
 rw [List.map_cons,xU]
 congr 1
 ·show some ((outS N n rows.length).map (AV.ren σ))=_
  congr 1
  unfold outS outO
  rw [xT]
  congr 1
  ·unfold zoe zjf
   rw [xU]
   refine xQ fun k _=>?_
   show AV.sl (σ (k+1)) 0 n 1 (some n)= .sl (K+k+1) 0 n 1 (some n)
   rw [hσ]
   rfl
  ·rw [xL]
   rfl
 ·refine xQ fun r _=>?_
  show some ((i64z r).map (AV.ren σ))=some (i64z r)
  rw [zar _ _ (zon r)]
structure ChainR (n:Nat) (fork:Bool) (i:Nat) (R:List (List Int)):Prop where
 len:R.length=i
 row:∀s,s<i->(R.getD s []).length=n
 ent:∀s t,s<i->t<n->ent R s t=if s=t then 2 else if t<i/\(zbw n fork s t=true\/zbw n fork t s=true) then -1 else 0
def zop (n:Nat) (fork:Bool) (i:Nat):Int:=if fork=true/\i+1=n/\3<n then (i:Int)-2 else (i:Int)-1
theorem zcr {n i k:Nat} {fork:Bool}:zbw n fork i k=true↔(k:Int)=zop n fork i:=by
 unfold zbw zop
 split
 ·rw [beq_iff_eq];omega
 ·rw [beq_iff_eq];omega
theorem zdr {n i k:Nat} {fork:Bool} (h:zbw n fork i k=true):k<i:=by
 have:=zcr.1 h
 unfold zop at this
 split at this<;>omega
theorem qdl {n:Nat} {fork:Bool} {R:List (List Int)} (h:ChainR n fork n R):R=zbv n fork:=by
 refine zsc (n:=n) ⟨h.len,h.row⟩ (zcg _ _) fun s t hs ht=>?_
 rw [h.ent s t hs ht]
 unfold zbv
 rw [zby hs ht]
 by_cases e:s=t
 ·rw [if_pos e,if_pos e]
 ·rw [if_neg e,if_neg e]
  by_cases e2:zbw n fork s t=true\/zbw n fork t s=true
  ·rw [if_pos ⟨ht,e2⟩,if_pos e2]
  ·rw [if_neg (fun x=>e2 x.2),if_neg e2]
def zal (n i:Nat):List Int:=(List.replicate n 0).set i 2
theorem qal {R:List (List Int)} {i:Nat} (hl:R.length=i) (r:List Int) (s t:Nat):ent (R++[r]) s t=if s=i then r.getD t 0 else ent R s t:=by
 unfold ent
 by_cases e:s=i
 ·rw [if_pos e,e,qZ (l:=R++[r]),qU (by omega),hl,qG];rfl
 ·rw [if_neg e]
  rcases qH s i with h | h
  ·rw [qZ (l:=R++[r]),qC (by omega),<-qZ]
  ·rw [qZ (l:=R++[r]),xA (by simp;omega),qZ (l:=R),xA (by omega)]
theorem qkd {n i t:Nat} (hi:i<n):(zal n i).getD t 0=if t=i then 2 else 0:=by
 unfold zal
 rw [qZ,xY]
 by_cases e:i=t
 ·rw [if_pos e,if_pos (by simpa using hi),if_pos e.symm];rfl
 ·rw [if_neg e,if_neg (fun x=>e x.symm),List.getElem?_replicate]
  split<;>rfl
theorem zgo {n i:Nat} {fork:Bool} {R:List (List Int)} (h:ChainR n fork i R) (hi:i<n) (hno:∀t,zbw n fork i t=false):ChainR n fork (i+1) (R++[zal n i]):=by
 refine ⟨by simp [h.len],fun s hs=>?_,fun s t hs ht=>?_⟩
 ·rcases (by omega:s<i\/s=i) with e | e
  ·rw [qZ,qC (by rw [h.len];exact e),<-qZ];exact h.row s e
  ·rw [e,qZ,qU (by rw [h.len];omega),h.len,qG];simp [zal]
 ·rw [qal h.len]
  by_cases e:s=i
  ·rw [if_pos e,qkd hi]
   subst e
   by_cases e2:t=s
   ·rw [if_pos e2,if_pos e2.symm]
   ·rw [if_neg e2,if_neg (fun x=>e2 x.symm),if_neg]
    rintro ⟨h1,h2 | h2⟩
    ·rw [hno] at h2;cases h2
    ·have:=zdr h2;omega
  ·rw [if_neg e,h.ent s t (by omega) ht]
   by_cases e2:s=t
   ·rw [if_pos e2,if_pos e2]
   ·rw [if_neg e2,if_neg e2]
    by_cases e3:t<i/\(zbw n fork s t=true\/zbw n fork t s=true)
    ·rw [if_pos e3,if_pos ⟨by omega,e3.2⟩]
    ·rw [if_neg e3,if_neg]
     rintro ⟨h1,h2⟩
     rcases (by omega:t<i\/t=i) with e4 | e4
     ·exact e3 ⟨e4,h2⟩
     ·rw [e4] at h2
      rcases h2 with h2 | h2
      ·have:=zdr h2;omega
      ·rw [hno] at h2;cases h2
theorem zij {n i k:Nat} {fork:Bool} {R:List (List Int)} (h:ChainR n fork i R) (hi:i<n) (hk:zbw n fork i k=true):ChainR n fork (i+1) (setM (setM (R++[zal n i]) i k (-1)) k i (-1)):=by
 have hki:=zdr hk
 have hone:∀t,zbw n fork i t=true↔t=k:=by
  intro t
  rw [zcr,<-zcr.1 hk]
  omega
 have hl:(R++[zal n i]).length=i+1:=by simp [h.len]
 have hrow:∀s,s<i+1->((R++[zal n i]).getD s []).length=n:=by
  intro s hs
  rcases (by omega:s<i\/s=i) with e | e
  ·rw [qZ,qC (by rw [h.len];exact e),<-qZ];exact h.row s e
  ·rw [e,qZ,qU (by rw [h.len];omega),h.len,qG];simp [zal]
 have hset:∀(X:List (List Int)) (a b:Nat) (z:Int),(∀s,s<i+1->(X.getD s []).length=n)->X.length=i+1->a<i+1->∀s,s<i+1->((setM X a b z).getD s []).length=n:=by
  intro X a b z hX hXl ha s hs
  unfold setM
  rw [qZ,xY]
  by_cases e:a=s
  ·subst e
   rw [if_pos rfl,if_pos (by omega),xR,xW];exact hX a hs
  ·rw [if_neg e,<-qZ];exact hX s hs
 have h1l:(setM (R++[zal n i]) i k (-1)).length=i+1:=by rw [zcl];exact hl
 have h1r:=hset _ i k (-1) hrow hl (by omega)
 refine ⟨by rw [zcl];exact h1l,hset _ k i (-1) h1r h1l (by omega),fun s t hs ht=>?_⟩
 rw [zgj (by omega) (by rw [h1r k (by omega)];exact hi),zgj (by omega) (by rw [hrow i (by omega)];omega),qal h.len]
 by_cases a1:s=k/\t=i
 ·obtain ⟨rfl,rfl⟩:=a1
  rw [if_pos ⟨rfl,rfl⟩,if_neg (by omega),if_pos ⟨by omega,.inr hk⟩]
 ·rw [if_neg a1]
  by_cases a2:s=i/\t=k
  ·obtain ⟨rfl,rfl⟩:=a2
   rw [if_pos ⟨rfl,rfl⟩,if_neg (by omega),if_pos ⟨by omega,.inl hk⟩]
  ·rw [if_neg a2]
   by_cases e:s=i
   ·rw [if_pos e,qkd hi]
    subst e
    by_cases e2:t=s
    ·rw [if_pos e2,if_pos e2.symm]
    ·rw [if_neg e2,if_neg (fun x=>e2 x.symm),if_neg]
     rintro ⟨h1,h2 | h2⟩
     ·exact a2 ⟨rfl,(hone t).1 h2⟩
     ·have:=zdr h2;omega
   ·rw [if_neg e,h.ent s t (by omega) ht]
    by_cases e2:s=t
    ·rw [if_pos e2,if_pos e2]
    ·rw [if_neg e2,if_neg e2]
     by_cases e3:t<i/\(zbw n fork s t=true\/zbw n fork t s=true)
     ·rw [if_pos e3,if_pos ⟨by omega,e3.2⟩]
     ·rw [if_neg e3,if_neg]
      rintro ⟨h1,h2⟩
      rcases (by omega:t<i\/t=i) with e4 | e4
      ·exact e3 ⟨e4,h2⟩
      ·rw [e4] at h2
       rcases h2 with h2 | h2
       ·have:=zdr h2;omega
       ·exact a1 ⟨(hone s).1 h2,e4⟩
set_option maxHeartbeats 4000000 in
theorem qsb {n:Nat} {fork:Bool} (hn:1<=n/\n<=8):Rt 66 [.int .i64 (n:Nat),.bool fork] [] (.sl 0 0 n 1 (some n)) (bH n n (zbv n fork)):=by
 refine oF o66 ?_
 simp only [c66,r66_0,r66_1,SS,reduceCtorEq,reduceIte,qQ,qJ]
 refine ⟨by decide,⟨by omega,by omega,by omega,by omega⟩,?_⟩
 simp only [r66_2,SS,reduceIte,qQ]
 have hb0:[some (List.replicate n (AV.vec [] 0 (some 0)))]=bH n n []:=rfl
 rw [hb0]
 refine zai (fun q E H=>∃i R,i+q=n/\ChainR n fork i R/\H=bH n n R/\E 0= .int .i64 (n:Nat)/\E 1= .bool fork/\E 5= .sl 0 0 n 1 (some n)/\E 11= .int .i64 (n:Nat)/\E 12= .int .i64 (i:Nat)) (n:=n)
  ⟨0,[],by omega,⟨rfl,fun s h=>absurd h (by omega),fun s t h=>absurd h (by omega)⟩,rfl,by simp only [UU,qQ],by simp only [UU,qQ],by simp only [UU,qQ,reduceIte],by simp only [UU,qQ,reduceIte],by simp only [UU,qQ,reduceIte];rfl⟩ ?_
 rintro q E H ⟨i,R,hiq,hR,rfl,e0,e1,e5,e11,e12⟩
 refine wM ?_
 simp only [l66_0,r66_3,SS,reduceCtorEq,reduceIte,e11,e12]
 refine ⟨fun hlt=>?_,fun hge=>?_⟩
 ·obtain ⟨q,rfl⟩:∃q',q=q'+1:=⟨q-1,by omega⟩
  have hi:i<n:=by omega
  have hRl:=hR.len
  have w5:=wS1 i (by omega)
  have w6:IntKind.i64.wrap ((i:Int)-1)=(i:Int)-1:=w64 (by omega) (by omega)
  have w7:IntKind.i64.wrap ((i:Int)-2)=(i:Int)-2:=w64 (by omega) (by omega)
  have w8:IntKind.i64.wrap ((n:Int)-1)=(n:Int)-1:=w64 (by omega) (by omega)
  have hbl:(bH n n R).length=i+1:=by rw [zzx,hRl]
  have go:getB (bH n n R++[some (i64z (List.replicate n 0))]) 0=some (outS n n i):=by
   have:getB (bH n n R) 0=some (outS n n i):=by rw [zds,hRl]
   exact this
  have gol:=zej (N:=n) (n:=n) (i:=i) (by omega)
  have hnew:=zzy (N:=n) (n:=n) (rows:=R) (List.replicate n 0) (by omega)
  rw [hRl] at hnew
  simp only [r66_4,r66_5,SS,reduceCtorEq,reduceIte,qQ,e0,e5,e12,qJ,hbl,zke,go,gol]
  refine ⟨by decide,⟨by omega,by omega,by omega,by omega⟩,⟨by omega,by omega⟩,by omega,?_⟩
  rw [hnew]
  have hrl:(R++[List.replicate n 0]).length=i+1:=by simp [hRl]
  have g0:getB (bH n n (R++[List.replicate n 0])) 0=some (outS n n (i+1)):=by rw [zds,hrl]
  have gl:=zej (N:=n) (n:=n) (i:=i+1) (by omega)
  have gg:=zek (N:=n) (n:=n) (i:=i+1) (k:=i) (by omega)
  have gr:=zfi (N:=n) (n:=n) (i:=i) (rows:=R++[List.replicate n 0]) (by omega)
  have grr:(R++[List.replicate n 0]).getD i []=List.replicate n 0:=by
   rw [qZ,qU (by omega),hRl,qG];simp
  rw [grr] at gr
  have eset:(R++[List.replicate n 0]).set i ((List.replicate n 0).set i 2)=R++[zal n i]:=by
   rw [qR _ _ (by omega),hRl,qG];rfl
  simp only [r66_6,SS,fC,reduceIte,qQ,e5,qJ,g0,gl,gg,gr,zav,List.length_replicate,zdn,zgq,eset]
  refine ⟨⟨by omega,by omega⟩,by omega,⟨by omega,by omega⟩,by omega,?_⟩
  simp only [r66_7,SS,reduceIte,qQ,w6]
  have hrl2:(R++[zal n i]).length=i+1:=by simp [hRl]
  have k0:getB (bH n n (R++[zal n i])) 0=some (outS n n (i+1)):=by rw [zds,hrl2]
  have tailS:∀k:Nat,zbw n fork i k=true->k<i/\outS n n (i+1)=outS n n (i+1):=fun k h=>⟨zdr h,rfl⟩
  rcases (by cases fork<;>simp<;>omega:fork=false\/(fork=true/\i+1≠n)\/(fork=true/\i+1=n/\¬3<n)\/(fork=true/\i+1=n/\3<n)) with hf | ⟨hf,h1⟩ | ⟨hf,h1,h2⟩ | ⟨hf,h1,h2⟩
  ·subst hf
   have hprev:zop n false i=(i:Int)-1:=by unfold zop;rw [if_neg (by simp)]
   simp only [r66_8,SS,fC,reduceCtorEq,reduceIte,qQ,e0,e1,w8]
   simp only [r66_10,SS,reduceIte,qQ]
   refine ⟨fun hk0=>?_,fun hk0=>?_⟩
   ·obtain ⟨k,hk⟩:∃k:Nat,(i:Int)-1=(k:Int):=⟨((i:Int)-1).toNat,by omega⟩
    have hlk:zbw n false i k=true:=zcr.2 (by rw [hprev];exact hk.symm)
    have hki:=zdr hlk
    have hnx:=zij hR hi hlk
    have gk:=zek (N:=n) (n:=n) (i:=i+1) (k:=k) (by omega)
    have r1:=zfi (N:=n) (n:=n) (i:=i) (rows:=R++[zal n i]) (by omega)
    have r2:=zfi (N:=n) (n:=n) (i:=k) (rows:=setM (R++[zal n i]) i k (-1)) (by rw [zcl];omega)
    have l1:((R++[zal n i]).getD i []).length=n:=by
     rw [qZ,qU (by omega),hRl,qG];simp [zal]
    have l2:((setM (R++[zal n i]) i k (-1)).getD k []).length=n:=by
     unfold setM
     rw [qZ,qS (by omega),qC (by omega),<-qZ]
     exact hR.row k hki
    have s1:=zgq (N:=n) (n:=n) (i:=i) (rows:=R++[zal n i]) (((R++[zal n i]).getD i []).set k (-1))
    have s1e:(R++[zal n i]).set i (((R++[zal n i]).getD i []).set k (-1))=setM (R++[zal n i]) i k (-1):=rfl
    rw [s1e] at s1
    have s2:=zgq (N:=n) (n:=n) (i:=k) (rows:=setM (R++[zal n i]) i k (-1)) (((setM (R++[zal n i]) i k (-1)).getD k []).set i (-1))
    have s2e:(setM (R++[zal n i]) i k (-1)).set k (((setM (R++[zal n i]) i k (-1)).getD k []).set i (-1))=setM (setM (R++[zal n i]) i k (-1)) k i (-1):=rfl
    rw [s2e] at s2
    simp only [r66_11,SS,fC,reduceIte,qQ,e5,hk,qJ,k0,gl,gg,gk,r1,l1,zav,zdn,s1,r2,l2,s2]
    refine ⟨⟨by omega,by omega⟩,by omega,⟨by omega,by omega⟩,by omega,⟨by omega,by omega⟩,by omega,⟨by omega,by omega⟩,by omega,rfl,?_⟩
    simp only [r66_12,SS,reduceIte,qQ,e12,w5]
    refine ⟨q,_,_,by omega,⟨i+1,_,by omega,hnx,rfl,?_,?_,?_,?_,?_⟩,.refl⟩
    all_goals simp only [UU,qQ,reduceIte, *]
   ·have hno:∀t,zbw n false i t=false:=by
     intro t
     cases hb:zbw n false i t with
     | false=>rfl
     | true=>have:=zcr.1 hb;rw [hprev] at this;omega
    have hnx:=zgo hR hi hno
    simp only [r66_12,SS,reduceIte,qQ,e12,w5]
    refine ⟨q,_,_,by omega,⟨i+1,_,by omega,hnx,rfl,?_,?_,?_,?_,?_⟩,.refl⟩
    all_goals simp only [UU,qQ,reduceIte, *]
  ·subst hf
   have hprev:zop n true i=(i:Int)-1:=by unfold zop;rw [if_neg (fun e=>h1 e.2.1)]
   have d1:decide ((i:Int)=(n:Int)-1)=false:=decide_eq_false (by omega)
   simp only [r66_8,SS,fC,reduceCtorEq,reduceIte,qQ,e0,e1,w8,d1]
   simp only [r66_10,SS,reduceIte,qQ]
   refine ⟨fun hk0=>?_,fun hk0=>?_⟩
   ·obtain ⟨k,hk⟩:∃k:Nat,(i:Int)-1=(k:Int):=⟨((i:Int)-1).toNat,by omega⟩
    have hlk:zbw n true i k=true:=zcr.2 (by rw [hprev];exact hk.symm)
    have hki:=zdr hlk
    have hnx:=zij hR hi hlk
    have gk:=zek (N:=n) (n:=n) (i:=i+1) (k:=k) (by omega)
    have r1:=zfi (N:=n) (n:=n) (i:=i) (rows:=R++[zal n i]) (by omega)
    have r2:=zfi (N:=n) (n:=n) (i:=k) (rows:=setM (R++[zal n i]) i k (-1)) (by rw [zcl];omega)
    have l1:((R++[zal n i]).getD i []).length=n:=by
     rw [qZ,qU (by omega),hRl,qG];simp [zal]
    have l2:((setM (R++[zal n i]) i k (-1)).getD k []).length=n:=by
     unfold setM
     rw [qZ,qS (by omega),qC (by omega),<-qZ]
     exact hR.row k hki
    have s1:=zgq (N:=n) (n:=n) (i:=i) (rows:=R++[zal n i]) (((R++[zal n i]).getD i []).set k (-1))
    have s1e:(R++[zal n i]).set i (((R++[zal n i]).getD i []).set k (-1))=setM (R++[zal n i]) i k (-1):=rfl
    rw [s1e] at s1
    have s2:=zgq (N:=n) (n:=n) (i:=k) (rows:=setM (R++[zal n i]) i k (-1)) (((setM (R++[zal n i]) i k (-1)).getD k []).set i (-1))
    have s2e:(setM (R++[zal n i]) i k (-1)).set k (((setM (R++[zal n i]) i k (-1)).getD k []).set i (-1))=setM (setM (R++[zal n i]) i k (-1)) k i (-1):=rfl
    rw [s2e] at s2
    simp only [r66_11,SS,fC,reduceIte,qQ,e5,hk,qJ,k0,gl,gg,gk,r1,l1,zav,zdn,s1,r2,l2,s2]
    refine ⟨⟨by omega,by omega⟩,by omega,⟨by omega,by omega⟩,by omega,⟨by omega,by omega⟩,by omega,⟨by omega,by omega⟩,by omega,rfl,?_⟩
    simp only [r66_12,SS,reduceIte,qQ,e12,w5]
    refine ⟨q,_,_,by omega,⟨i+1,_,by omega,hnx,rfl,?_,?_,?_,?_,?_⟩,.refl⟩
    all_goals simp only [UU,qQ,reduceIte, *]
   ·have hno:∀t,zbw n true i t=false:=by
     intro t
     cases hb:zbw n true i t with
     | false=>rfl
     | true=>have:=zcr.1 hb;rw [hprev] at this;omega
    have hnx:=zgo hR hi hno
    simp only [r66_12,SS,reduceIte,qQ,e12,w5]
    refine ⟨q,_,_,by omega,⟨i+1,_,by omega,hnx,rfl,?_,?_,?_,?_,?_⟩,.refl⟩
    all_goals simp only [UU,qQ,reduceIte, *]
  ·subst hf
   have hprev:zop n true i=(i:Int)-1:=by unfold zop;rw [if_neg (fun e=>h2 e.2.2)]
   have d1:decide ((i:Int)=(n:Int)-1)=true:=decide_eq_true (by omega)
   have d2:decide ((3:Int)<(n:Nat))=false:=decide_eq_false (by omega)
   simp only [r66_8,SS,fC,reduceCtorEq,reduceIte,qQ,e0,e1,w8,d1,d2]
   simp only [r66_10,SS,reduceIte,qQ]
   refine ⟨fun hk0=>?_,fun hk0=>?_⟩
   ·obtain ⟨k,hk⟩:∃k:Nat,(i:Int)-1=(k:Int):=⟨((i:Int)-1).toNat,by omega⟩
    have hlk:zbw n true i k=true:=zcr.2 (by rw [hprev];exact hk.symm)
    have hki:=zdr hlk
    have hnx:=zij hR hi hlk
    have gk:=zek (N:=n) (n:=n) (i:=i+1) (k:=k) (by omega)
    have r1:=zfi (N:=n) (n:=n) (i:=i) (rows:=R++[zal n i]) (by omega)
    have r2:=zfi (N:=n) (n:=n) (i:=k) (rows:=setM (R++[zal n i]) i k (-1)) (by rw [zcl];omega)
    have l1:((R++[zal n i]).getD i []).length=n:=by
     rw [qZ,qU (by omega),hRl,qG];simp [zal]
    have l2:((setM (R++[zal n i]) i k (-1)).getD k []).length=n:=by
     unfold setM
     rw [qZ,qS (by omega),qC (by omega),<-qZ]
     exact hR.row k hki
    have s1:=zgq (N:=n) (n:=n) (i:=i) (rows:=R++[zal n i]) (((R++[zal n i]).getD i []).set k (-1))
    have s1e:(R++[zal n i]).set i (((R++[zal n i]).getD i []).set k (-1))=setM (R++[zal n i]) i k (-1):=rfl
    rw [s1e] at s1
    have s2:=zgq (N:=n) (n:=n) (i:=k) (rows:=setM (R++[zal n i]) i k (-1)) (((setM (R++[zal n i]) i k (-1)).getD k []).set i (-1))
    have s2e:(setM (R++[zal n i]) i k (-1)).set k (((setM (R++[zal n i]) i k (-1)).getD k []).set i (-1))=setM (setM (R++[zal n i]) i k (-1)) k i (-1):=rfl
    rw [s2e] at s2
    simp only [r66_11,SS,fC,reduceIte,qQ,e5,hk,qJ,k0,gl,gg,gk,r1,l1,zav,zdn,s1,r2,l2,s2]
    refine ⟨⟨by omega,by omega⟩,by omega,⟨by omega,by omega⟩,by omega,⟨by omega,by omega⟩,by omega,⟨by omega,by omega⟩,by omega,rfl,?_⟩
    simp only [r66_12,SS,reduceIte,qQ,e12,w5]
    refine ⟨q,_,_,by omega,⟨i+1,_,by omega,hnx,rfl,?_,?_,?_,?_,?_⟩,.refl⟩
    all_goals simp only [UU,qQ,reduceIte, *]
   ·have hno:∀t,zbw n true i t=false:=by
     intro t
     cases hb:zbw n true i t with
     | false=>rfl
     | true=>have:=zcr.1 hb;rw [hprev] at this;omega
    have hnx:=zgo hR hi hno
    simp only [r66_12,SS,reduceIte,qQ,e12,w5]
    refine ⟨q,_,_,by omega,⟨i+1,_,by omega,hnx,rfl,?_,?_,?_,?_,?_⟩,.refl⟩
    all_goals simp only [UU,qQ,reduceIte, *]
  ·subst hf
   have hprev:zop n true i=(i:Int)-2:=by unfold zop;rw [if_pos ⟨rfl,h1,h2⟩]
   have d1:decide ((i:Int)=(n:Int)-1)=true:=decide_eq_true (by omega)
   have d2:decide ((3:Int)<(n:Nat))=true:=decide_eq_true (by omega)
   simp only [r66_8,SS,fC,reduceCtorEq,reduceIte,qQ,e0,e1,w8,d1,d2]
   simp only [r66_9,SS,reduceIte,qQ,w7]
   simp only [r66_10,SS,reduceIte,qQ]
   refine ⟨fun hk0=>?_,fun hk0=>?_⟩
   ·obtain ⟨k,hk⟩:∃k:Nat,(i:Int)-2=(k:Int):=⟨((i:Int)-2).toNat,by omega⟩
    have hlk:zbw n true i k=true:=zcr.2 (by rw [hprev];exact hk.symm)
    have hki:=zdr hlk
    have hnx:=zij hR hi hlk
    have gk:=zek (N:=n) (n:=n) (i:=i+1) (k:=k) (by omega)
    have r1:=zfi (N:=n) (n:=n) (i:=i) (rows:=R++[zal n i]) (by omega)
    have r2:=zfi (N:=n) (n:=n) (i:=k) (rows:=setM (R++[zal n i]) i k (-1)) (by rw [zcl];omega)
    have l1:((R++[zal n i]).getD i []).length=n:=by
     rw [qZ,qU (by omega),hRl,qG];simp [zal]
    have l2:((setM (R++[zal n i]) i k (-1)).getD k []).length=n:=by
     unfold setM
     rw [qZ,qS (by omega),qC (by omega),<-qZ]
     exact hR.row k hki
    have s1:=zgq (N:=n) (n:=n) (i:=i) (rows:=R++[zal n i]) (((R++[zal n i]).getD i []).set k (-1))
    have s1e:(R++[zal n i]).set i (((R++[zal n i]).getD i []).set k (-1))=setM (R++[zal n i]) i k (-1):=rfl
    rw [s1e] at s1
    have s2:=zgq (N:=n) (n:=n) (i:=k) (rows:=setM (R++[zal n i]) i k (-1)) (((setM (R++[zal n i]) i k (-1)).getD k []).set i (-1))
    have s2e:(setM (R++[zal n i]) i k (-1)).set k (((setM (R++[zal n i]) i k (-1)).getD k []).set i (-1))=setM (setM (R++[zal n i]) i k (-1)) k i (-1):=rfl
    rw [s2e] at s2
    simp only [r66_11,SS,fC,reduceIte,qQ,e5,hk,qJ,k0,gl,gg,gk,r1,l1,zav,zdn,s1,r2,l2,s2]
    refine ⟨⟨by omega,by omega⟩,by omega,⟨by omega,by omega⟩,by omega,⟨by omega,by omega⟩,by omega,⟨by omega,by omega⟩,by omega,rfl,?_⟩
    simp only [r66_12,SS,reduceIte,qQ,e12,w5]
    refine ⟨q,_,_,by omega,⟨i+1,_,by omega,hnx,rfl,?_,?_,?_,?_,?_⟩,.refl⟩
    all_goals simp only [UU,qQ,reduceIte, *]
   ·have hno:∀t,zbw n true i t=false:=by
     intro t
     cases hb:zbw n true i t with
     | false=>rfl
     | true=>have:=zcr.1 hb;rw [hprev] at this;omega
    have hnx:=zgo hR hi hno
    simp only [r66_12,SS,reduceIte,qQ,e12,w5]
    refine ⟨q,_,_,by omega,⟨i+1,_,by omega,hnx,rfl,?_,?_,?_,?_,?_⟩,.refl⟩
    all_goals simp only [UU,qQ,reduceIte, *]
 ·have hin:i=n:=by omega
  subst hin
  have e:=qdl hR
  subst e
  simp only [r66_13,SS,reduceIte,qQ,e5]
  exact ⟨.inl trivial,_,rfl,.keep _ _⟩
theorem qxh {P:Heap} {m o N n:Nat} {rows:List (List Int)} (hm:m<=o) (ho:P.length=o) (hN:rows.length=N) (hn:∀i,i<N->(rows.getD i []).length=n):frzI m (P++bO o N n rows) 3 (.sl o 0 N 1 (some N))=some (.vec (zco n rows) N (some N)):=by
 have e0:outO o N n rows.length=zjf o n N:=by
  unfold outO
  rw [hN,qG,qB,qE]
 have key:(zjf o n N).mapM (frzI m (P++bO o N n rows) 2)=some (zco n rows):=by
  have:zco n rows=(List.range N).map fun k=>AV.vec (i64z (rows.getD k [])) n (some n):=by
   refine List.ext_getElem (by simp [zco,hN]) fun k h1 h2=>?_
   simp only [zco,List.getElem_map,List.getElem_range]
   have hk:k<rows.length:=by simpa [zco] using h1
   rw [qZ,List.getElem?_eq_getElem hk]
   rfl
  rw [this]
  unfold zjf
  rw [List.mapM_map]
  have:∀l:List Nat,(∀k∈l,k<N)->l.mapM (fun k=>frzI m (P++bO o N n rows) 2 (.sl (o+k+1) 0 n 1 (some n)))=some (l.map fun k=>AV.vec (i64z (rows.getD k [])) n (some n)):=by
   intro l
   induction l with
   | nil=>intro _;rfl
   | cons k l ih=>
    intro h
    have hk:=h k (by simp)
    have e:frzI m (P++bO o N n rows) 2 (.sl (o+k+1) 0 n 1 (some n))=some (.vec (i64z (rows.getD k [])) n (some n)):=by
     rw [frzI]
     have hl:=hn k hk
     simp only [show ¬o+k+1<m by omega,if_false,zlm ho (show k<rows.length by omega),need,xP,xS,zav,hl,qK,if_true,xE]
     rw [xJ (by rw [zav];omega),zsi]
     rfl
    rw [List.mapM_cons,e,ih (fun x hx=>h x (by simp [hx]))]
    rfl
  exact this _ (fun k hk=>List.mem_range.1 hk)
 rw [frzI]
 simp only [show ¬o<m by omega,if_false,zfk ho,e0,need,xP,xS,zfb,qK,if_true,xE]
 rw [xJ (by rw [zfb];omega),key]
 rfl
def latC (d k:Int) (l q:List Int) (c c2:Option Nat):List AV:=[.int .u8 d,.int .u8 k,.vec (i8z l) l.length c,.vec (i8z q) q.length c2]
def tP2 (d k:Int) (l q:List Int) (c c2:Option Nat) (j:Nat):Heap:=[some (latC d k l q c c2),some (zdd l c j)]
theorem zlc (d kd:Int) (l q:List Int) (c c2:Option Nat):qX (latC d kd l q c c2)=true:=by
 simp only [latC,qX,AV.closed,qY]
theorem zcx (l:List Int) (c:Option Nat) (j:Nat):qX (zdd l c j)=true:=by
 simp only [zdd,qX,AV.closed,qY]
theorem qke {d kd:Int} {l q:List Int} {c c2:Option Nat} {j n:Nat} {M:List (List Int)} {E:Env} {Q:Post} (h:zkj l) (hj:j<=l.length) (hn:1<=n/\n<=8) (hG:SmallG n M)
  (e5:E 5= .ptr 1 0) (e6:E 6= .int .i64 (n:Nat)) (e7:E 7= .sl 2 0 n 1 (some n))
  (hQ:∀E' H',E' 4=(if zin n M then .vec (zco n M) n (some n) else .sl 2 0 n 1 (some n))->H'=(if zin n M then tP2 d kd l q c c2 j else tP2 d kd l q c c2 (zba l j n)++bO 2 n n (diaM l j n 2))->Q .ret E' H'):
  Wg 0 74 (.seq (.seq (.reg r25_19 none) (.cond (.t 69) (.seq (.reg r25_20 none) .ret) .skip)) (.seq (.reg r25_21 none) .ret)) E (tP2 d kd l q c c2 j++bO 2 n n M) Q:=by
 refine W.weak (zrf 2 3 (qL _) (by simp [tP2,bO]) (fun i cs hi hg=>?_)) ?_
 ·rcases (by omega:i=0\/i=1) with rfl | rfl
  ·obtain rfl:latC d kd l q c c2=cs:=by simpa [tP2] using hg
   exact zbd _ _ (zlc ..)
  ·obtain rfl:zdd l c j=cs:=by simpa [tP2] using hg
   exact zbd _ _ (zcx ..)
 have htk:(tP2 d kd l q c c2 j++bO 2 n n M).take 2=tP2 d kd l q c c2 j:=rfl
 rw [htk]
 have hfz:=qxh (P:=tP2 d kd l q c c2 j) (m:=2) (o:=2) (qK _) rfl hG.shp.len hG.shp.row
 have f5:frzE 2 3 (tP2 d kd l q c c2 j++bO 2 n n M) E 5= .ptr 1 0:=by unfold frzE;rw [e5,if_pos (by rfl)]
 have f6:frzE 2 3 (tP2 d kd l q c c2 j++bO 2 n n M) E 6= .int .i64 (n:Nat):=by unfold frzE;rw [e6,if_pos (by rfl)]
 have f7:frzE 2 3 (tP2 d kd l q c c2 j++bO 2 n n M) E 7= .vec (zco n M) n (some n):=by unfold frzE;rw [e7,if_neg (by simp [AV.under]),hfz];rfl
 generalize frzE 2 3 (tP2 d kd l q c c2 j++bO 2 n n M) E=E1 at*
 have hIn:∀s t,In64 (ent M s t):=by
  intro s t
  have:=hG.bnd s t
  unfold In64;omega
 have hIm:ImV M (.vec (zco n M) n (some n)):=zmg hG.shp.len hG.shp.row hIn
 have tG:=jbx hG hIm hn
 have c7:qX [.vec (zco n M) n (some n)]=true:=by simp only [qX,hIm.closed,qY]
 refine wM ?_
 simp only [r25_19,SS,reduceIte,f7]
 refine zaa tG ?_ c7
 simp only [SS,reduceIte,qQ]
 refine ⟨fun hb=>?_,fun hb=>?_⟩
 ·have hng:¬zin n M:=by simpa using hb
  have tD:=zkm (c:=c) (most:=2) h hj hn (by omega)
  have heff:=zkn (H:=tP2 d kd l q c c2 j) (id:=1) (n:=n) (cs':=zdd l c (zba l j n)) (M:=diaM l j n 2) (by show 1<2;omega)
  simp only [r25_20,SS,reduceIte,qQ,f5,f6]
  refine callA_one (id:=1) (cs:=zdd l c j) (cs':=zdd l c (zba l j n)) (L:=bO 1 n n (diaM l j n 2)) tD rfl rfl rfl (zcx ..) (zcx ..) ?_
  simp only [zaj]
  rw [heff]
  simp only [SS,reduceIte,qQ]
  refine hQ _ _ ?_ ?_
  ·simp only [UU,qQ,reduceIte];rw [if_neg hng];rfl
  ·rw [if_neg hng];rfl
 ·have hg:zin n M:=by simpa using hb
  simp only [r25_21,SS,reduceIte,qQ,f7]
  refine hQ _ _ ?_ ?_
  ·simp only [UU,qQ,reduceIte];rw [if_pos hg]
  ·rw [if_pos hg]
theorem qxi {l:List Int} {kind n:Nat}:rawK l kind n<=l.length:=by
 have hz:(0:Nat)<=l.length:=qL _
 unfold rawK
 split
 ·exact zgn hz _
 split
 ·exact zgn hz 1
 split
 ·exact zgn hz 1
 ·exact zgn hz _
theorem qkf (d kd:Int) (l q:List Int) (c c2:Option Nat) (j j':Nat) (X:Heap):(tP2 d kd l q c c2 j++X).set 1 (some (zdd l c j'))=tP2 d kd l q c c2 j'++X:=rfl
theorem qdm {d kd:Int} {l q:List Int} {c c2:Option Nat} {n:Nat} {E:Env} {Q:Post} (h:zkj l) (hk:0<=kd/\kd<256) (hn:1<=n/\n<=8)
  (e2:E 2= .ptr 0 0) (e5:E 5= .ptr 1 0) (e6:E 6= .int .i64 (n:Nat))
  (hQ:∀E',E' 5= .ptr 1 0->E' 6= .int .i64 (n:Nat)->E' 7= .sl 2 0 n 1 (some n)->Q .normal E' (tP2 d kd l q c c2 (rawK l (kd%8).toNat n)++bO 2 n n (rawM l (kd%8).toNat n))):
  Wg 0 74 (.seq (.reg r25_4 none) (.block 0 (.seq (.seq (.reg r25_5 none) (.cond (.t 24) .skip (.seq (.reg r25_6 none) (.cond (.t 24) .skip (.seq (.reg r25_7 none) (.cond (.t 24) .skip (.reg r25_8 none))))))) (.cond (.t 24) (.reg r25_9 none) (.seq (.reg r25_10 none) (.cond (.t 32) (.seq (.reg r25_11 none) (.reg r25_12 (some [(2,6),(4,6)]))) (.seq (.reg r25_13 none) (.cond (.t 45) (.seq (.reg r25_14 none) (.reg r25_15 (some [(4,10),(8,10)]))) (.seq (.reg r25_16 none) (.cond (.t 62) (.reg r25_17 none) (.reg r25_18 none))))))))))) E (tP2 d kd l q c c2 0) Q:=by
 have hz:(0:Nat)<=l.length:=qL _
 have g0:getB (tP2 d kd l q c c2 0) 0=some (latC d kd l q c c2):=rfl
 have g1:getB (tP2 d kd l q c c2 0) 1=some (zdd l c 0):=rfl
 have hrem:Int.tmod kd 8=kd%8:=xV hk.1
 have tGen:=qpu (c:=c) h hz hn
 have h9:(1:Int)<=9/\(9:Int)<=9:=by omega
 have tD9:=zkm (c:=c) (most:=9) h hz hn (by omega)
 have tD1:=zkm (c:=c) (most:=1) h hz hn (by omega)
 have effG:=zkn (H:=tP2 d kd l q c c2 0) (id:=1) (n:=n) (cs':=zdd l c (zba l 0 (n+triK n))) (M:=genM l 0 n) (by show 1<2;omega)
 have eff9:=zkn (H:=tP2 d kd l q c c2 0) (id:=1) (n:=n) (cs':=zdd l c (zba l 0 n)) (M:=diaM l 0 n 9) (by show 1<2;omega)
 have eff1:=zkn (H:=tP2 d kd l q c c2 0) (id:=1) (n:=n) (cs':=zdd l c (zba l 0 n)) (M:=diaM l 0 n 1) (by show 1<2;omega)
 refine wM ?_
 simp only [r25_4,SS,fC,reduceIte,qA,qQ,qD,e2,g0,latC]
 refine ⟨by decide,?_⟩
 rw [hrem]
 rcases (by omega:kd%8=0\/kd%8=1\/kd%8=2\/kd%8=3\/kd%8=4\/kd%8=5\/kd%8=6\/kd%8=7) with e | e | e | e | e | e | e | e
 all_goals
  rw [e] at hQ ⊢
  simp only [r25_5,r25_6,r25_7,r25_8,r25_9,r25_10,r25_11,r25_13,r25_14,r25_16,r25_17,r25_18,SS,fC,reduceIte,qQ,e5,e6,Int.reduceEq,decide_true,decide_false]
 iterate 4
  ·refine callA_one (id:=1) (cs:=zdd l c 0) (cs':=zdd l c (zba l 0 (n+triK n))) (L:=bO 1 n n (genM l 0 n)) tGen rfl rfl rfl (zcx ..) (zcx ..) ?_
   simp only [zaj]
   rw [effG]
   simp only [SS,reduceIte,qQ]
   exact hQ _ (by simp only [UU,qQ,e5]) (by simp only [UU,qQ,e6]) (by simp only [UU,qQ,reduceIte];rfl)
 ·have tC:=qsb (n:=n) (fork:=false) (by omega)
  have hS:Shp n (zbv n false):=zcg _ _
  have hcl:qX [.int .i64 (n:Nat),.bool false]=true:=rfl
  have effC:zad (effs (zak [] (tP2 d kd l q c c2 0).length) 0 (bH n n (zbv n false))) (tP2 d kd l q c c2 0++List.replicate (bH n n (zbv n false)).length none)=tP2 d kd l q c c2 0++bO 2 n n (zbv n false):=by
   have:=zgh (H:=tP2 d kd l q c c2 0) (zak [] (tP2 d kd l q c c2 0).length) (fun i=>zbm _ i) (bH n n (zbv n false)) []
   simp only [qP,xX] at this
   rw [this]
   exact congrArg (tP2 d kd l q c c2 0++ ·) (qsa (K:=2) (fun i=>zbm 2 i))
  have hv:AV.ren (zak [] (tP2 d kd l q c c2 0).length) (.sl 0 0 n 1 (some n))= .sl 2 0 n 1 (some n):=rfl
  have tB:=qjo (c:=c) (k:=0) (m:=3) h hz (by omega)
  have ko:∀j,getB (tP2 d kd l q c c2 j++bO 2 n n (zbv n false)) 2=some (outO 2 n n n):=fun j=>by
   have:=zfk (P:=tP2 d kd l q c c2 j) (o:=2) (N:=n) (n:=n) (rows:=zbv n false) rfl
   rw [hS.len] at this;exact this
  have kl:=zkk (o:=2) (N:=n) (n:=n) (i:=n) (qK _)
  have kg:=zkl (o:=2) (N:=n) (n:=n) (i:=n) (k:=0) (by omega)
  have gr:=fun j=>zlm (P:=tP2 d kd l q c c2 j) (o:=2) (N:=n) (n:=n) (rows:=zbv n false) rfl (i:=0) (by rw [hS.len];omega)
  have lr:=hS.row 0 (by omega)
  have gz:(i64z ((zbv n false).getD 0 [])).getD 0 .junk= .int .i64 2:=by
   rw [zbq _ _ (by omega)]
   have:=zer (fork:=false) (show 0<n by omega)
   unfold ent at this
   rw [this]
  have hbz:=zfj l 0 (show (1:Int)<=3 by decide)
  have w2:IntKind.i64.wrap (2+zdh l 0%3)=2+zdh l 0%3:=w64 (by omega) (by omega)
  have hs:=fun j=>zux (P:=tP2 d kd l q c c2 j) (o:=2) (N:=n) (n:=n) (rows:=zbv n false) rfl (i:=0) (((zbv n false).getD 0 []).set 0 (2+zdh l 0%3))
  refine zdq tC hcl ?_
  simp only [zaj,SS,reduceIte,qQ]
  rw [effC,hv]
  have z0:Int.toNat 0=0:=rfl
  simp only [r25_12,SS,fC,reduceIte,qA,qQ,z0,ko,kl,kg,gr,lr,gz,zav,e5]
  refine ⟨by omega,by omega,by omega,by omega,?_⟩
  refine zfx (id:=1) tB rfl rfl ?_
  simp only [zaj,zad,keys,qB,qE,SS,reduceIte,qQ,qkf,z0,gr,lr,zav,w2,zdn]
  have hr:rawM l 4 n=(zbv n false).set 0 (((zbv n false).getD 0 []).set 0 (2+zdh l 0%3)):=by
   unfold rawM
   rw [if_neg (by decide),if_pos rfl]
   unfold qdh
   rw [zer (by omega)]
   rfl
  have h3:=hs (zhn l 0)
  rw [<-hr] at h3
  refine ⟨⟨by omega,by omega⟩,by omega,rfl,?_⟩
  refine Eq.mp (congrArg _ h3.symm) ?_
  exact hQ _ (by simp only [UU,qQ,e5]) (by simp only [UU,qQ,e6]) (by simp only [UU,qQ,reduceIte])
 ·have tC:=qsb (n:=n) (fork:=true) (by omega)
  have hS:Shp n (zbv n true):=zcg _ _
  have hcl:qX [.int .i64 (n:Nat),.bool true]=true:=rfl
  have effC:zad (effs (zak [] (tP2 d kd l q c c2 0).length) 0 (bH n n (zbv n true))) (tP2 d kd l q c c2 0++List.replicate (bH n n (zbv n true)).length none)=tP2 d kd l q c c2 0++bO 2 n n (zbv n true):=by
   have:=zgh (H:=tP2 d kd l q c c2 0) (zak [] (tP2 d kd l q c c2 0).length) (fun i=>zbm _ i) (bH n n (zbv n true)) []
   simp only [qP,xX] at this
   rw [this]
   exact congrArg (tP2 d kd l q c c2 0++ ·) (qsa (K:=2) (fun i=>zbm 2 i))
  have hv:AV.ren (zak [] (tP2 d kd l q c c2 0).length) (.sl 0 0 n 1 (some n))= .sl 2 0 n 1 (some n):=rfl
  have tB:=qjo (c:=c) (k:=0) (m:=2) h hz (by omega)
  have ko:∀j,getB (tP2 d kd l q c c2 j++bO 2 n n (zbv n true)) 2=some (outO 2 n n n):=fun j=>by
   have:=zfk (P:=tP2 d kd l q c c2 j) (o:=2) (N:=n) (n:=n) (rows:=zbv n true) rfl
   rw [hS.len] at this;exact this
  have kl:=zkk (o:=2) (N:=n) (n:=n) (i:=n) (qK _)
  have kg:=zkl (o:=2) (N:=n) (n:=n) (i:=n) (k:=(n-1)) (by omega)
  have gr:=fun j=>zlm (P:=tP2 d kd l q c c2 j) (o:=2) (N:=n) (n:=n) (rows:=zbv n true) rfl (i:=(n-1)) (by rw [hS.len];omega)
  have lr:=hS.row (n-1) (by omega)
  have gz:(i64z ((zbv n true).getD (n-1) [])).getD (n-1) .junk= .int .i64 2:=by
   rw [zbq _ _ (by omega)]
   have:=zer (fork:=true) (show (n-1)<n by omega)
   unfold ent at this
   rw [this]
  have hbz:=zfj l 0 (show (1:Int)<=2 by decide)
  have w2:IntKind.i64.wrap (2+zdh l 0%2)=2+zdh l 0%2:=w64 (by omega) (by omega)
  have hs:=fun j=>zux (P:=tP2 d kd l q c c2 j) (o:=2) (N:=n) (n:=n) (rows:=zbv n true) rfl (i:=(n-1)) (((zbv n true).getD (n-1) []).set (n-1) (2+zdh l 0%2))
  refine zdq tC hcl ?_
  simp only [zaj,SS,reduceIte,qQ]
  rw [effC,hv]
  have w1:IntKind.i64.wrap ((n:Int)-1)=((n-1:Nat):Int):=wQ (by omega)
  simp only [r25_15,SS,fC,reduceIte,qQ,w1,qJ,ko,kl,kg,gr,lr,gz,zav,e5,e6]
  refine ⟨⟨by omega,by omega⟩,by omega,⟨by omega,by omega⟩,by omega,?_⟩
  refine zfx (id:=1) tB rfl rfl ?_
  simp only [zaj,zad,keys,qB,qE,SS,reduceIte,qQ,qkf,qJ,gr,lr,zav,w2,zdn]
  have hr:rawM l 5 n=(zbv n true).set (n-1) (((zbv n true).getD (n-1) []).set (n-1) (2+zdh l 0%2)):=by
   unfold rawM
   rw [if_neg (by decide),if_neg (by decide),if_pos rfl]
   unfold qdh
   rw [zer (by omega)]
   rfl
  have h3:=hs (zhn l 0)
  rw [<-hr] at h3
  refine ⟨⟨by omega,by omega⟩,by omega,?_,?_⟩
  ·have hne:2+(n-1)≠0:=by omega
   generalize 2+(n-1)=s at hne
   simp [dynB,zvw]
   exact hne
  refine Eq.mp (congrArg _ h3.symm) ?_
  exact hQ _ (by simp only [UU,qQ,e5]) (by simp only [UU,qQ,e6]) (by simp only [UU,qQ,reduceIte])
 ·refine callA_one (id:=1) (cs:=zdd l c 0) (cs':=zdd l c (zba l 0 n)) (L:=bO 1 n n (diaM l 0 n 9)) tD9 rfl rfl rfl (zcx ..) (zcx ..) ?_
  simp only [zaj]
  rw [eff9]
  simp only [SS,reduceIte,qQ]
  exact hQ _ (by simp only [UU,qQ,e5]) (by simp only [UU,qQ,e6]) (by simp only [UU,qQ,reduceIte];rfl)
 ·refine callA_one (id:=1) (cs:=zdd l c 0) (cs':=zdd l c (zba l 0 n)) (L:=bO 1 n n (diaM l 0 n 1)) tD1 rfl rfl rfl (zcx ..) (zcx ..) ?_
  simp only [zaj]
  rw [eff1]
  simp only [SS,reduceIte,qQ]
  exact hQ _ (by simp only [UU,qQ,e5]) (by simp only [UU,qQ,e6]) (by simp only [UU,qQ,reduceIte];rfl)
theorem jby {d kd most:Int} {l q:List Int} {c c2:Option Nat} {n:Nat} (h:zkj l) (hd:0<=d/\d<256) (hk:0<=kd/\kd<256) (hm:1<=most/\most<=8) (hn:(n:Int)=1+d%most):
  Rt 25 [.agg (latC d kd l q c c2),.int .i64 most] [] (.vec (zco n (zxt l (kd%8).toNat n)) n (some n)) []:=by
 have hz:(0:Nat)<=l.length:=qL _
 have hmod:=xN d (show 0<most by omega)
 have hmod0:=yQ d (show most≠0 by omega)
 have hn8:1<=n/\n<=8:=by omega
 have g0:getB [some (latC d kd l q c c2)] 0=some (latC d kd l q c c2):=rfl
 refine oFW o25 ?_
 unfold c25
 refine wW ?_
 simp only [r25_0,SS]
 refine wW ?_
 simp only [r25_1,SS,fC,reduceIte,qA,qQ,qD]
 refine ⟨by show 3<=4;omega,⟨rfl,rfl⟩,?_⟩
 have eH:([some (latC d kd l q c c2),some (setL [AV.vec [] 0 (some 0),AV.int IntKind.i64 0] 0 ((latC d kd l q c c2).getD 2 AV.junk).cells)]:Heap)=tP2 d kd l q c c2 0:=rfl
 rw [eH]
 have g1:getB (tP2 d kd l q c c2 0) 0=some (latC d kd l q c c2):=rfl
 have gd:(latC d kd l q c c2).getD 0 .junk= .int .u8 d:=rfl
 have gl:(latC d kd l q c c2).length=4:=rfl
 have wd:IntKind.i64.wrap d=d:=w64 (by omega) (by omega)
 have et:Int.tmod d most=d%most:=xV hd.1
 have wm:IntKind.i64.wrap (d%most)=d%most:=w64 (by omega) (by omega)
 have wn:IntKind.i64.wrap (1+d%most)=(n:Int):=by rw [<-hn];exact w64 (by omega) (by omega)
 refine wW ?_
 simp only [r25_2,SS,fC,reduceIte,qQ,qD,g1,gd,gl,wd,et,wn]
 refine ⟨by omega,?_⟩
 refine wW ?_
 simp only [r25_3,SS]
 refine zlr (qdm h hk hn8 (by simp only [UU,qQ,reduceIte]) (by simp only [UU,qQ,reduceIte]) (by simp only [UU,qQ,reduceIte]) fun E1 f5 f6 f7=>?_)
 simp only [SS]
 refine qke h qxi hn8 (zuv hn8.1) f5 f6 f7 fun E2 H2 e4 eH2=>?_
 refine ⟨.inl rfl,_,rfl,?_⟩
 rw [e4,eH2]
 unfold zxt
 by_cases hg:zin n (rawM l (kd%8).toNat n)
 ·rw [if_pos hg,if_pos hg,if_pos hg]
  exact .freeze 1 _ _ _ rfl (by intro i cs h;omega)
 ·rw [if_neg hg,if_neg hg,if_neg hg]
  have hS:=zom l (rawK l (kd%8).toNat n) n 2
  have:=jac (P:=tP2 d kd l q c c2 (zba l (rawK l (kd%8).toNat n) n)) (o:=2) rfl hS.len hS.row
  exact .freeze 3 _ _ _ this (by intro i cs h;omega)
open Go.Det
theorem jbz {d kd most:Int} {l q:List Int} {c c2:Option Nat} {n:Nat} (h:zkj l) (hd:0<=d/\d<256) (hk:0<=kd/\kd<256) (hm:1<=most/\most<=5) (hn:(n:Int)=1+d%most):
  ∃M' T',Red n (rowF M')/\LState n (16^n) (8*16^n) (zxt l (kd%8).toNat n) M' T'/\Rt 8 [.agg (latC d kd l q c c2),.int .i64 most] [] (.vec (zco n M') n (some n)) []:=by
 have hmod:=xN d (show 0<most by omega)
 have hmod0:=yQ d (show most≠0 by omega)
 have hn8:1<=n/\n<=8:=by omega
 have tG:=jby (c:=c) (c2:=c2) (q:=q) h hd hk (by omega:1<=most/\most<=8) hn
 obtain ⟨hG,hg⟩:=qwt (l:=l) (kind:=(kd%8).toNat) hn8.1 hn8.2
 generalize zxt l (kd%8).toNat n=M0 at*
 have hS:=hG.shp
 have hIn:∀s t,In64 (ent M0 s t):=by
  intro s t
  have:=hG.bnd s t
  unfold In64;omega
 have hIm:ImV M0 (.vec (zco n M0) n (some n)):=zmg hS.len hS.row hIn
 have tO:=mOf (n:=n) hIm (by omega) (by rw [hS.len];omega) (fun i hi=>hS.row i (by rw [hS.len] at hi;exact hi))
 have hsq:=zsh hS hn8 (zuz hG) (qO (zsp.all (k:=0) (qL _)).1 zsp.lt)
 obtain ⟨M',T',hred,hL,tR⟩:=qxg hsq (by omega) hG hg
 refine ⟨M',T',hred,hL,?_⟩
 have c1:qX [.agg (latC d kd l q c c2),.int .i64 most]=true:=by simp only [qX,AV.closed,zlc,qY]
 have c2':qX [.vec (zco n M0) n (some n)]=true:=by simp only [qX,hIm.closed,qY]
 have c3:qX [matC M0]=true:=by simp only [qX,hsq.closed,qY]
 have g0:getB [some (latC d kd l q c c2)] 0=some (latC d kd l q c c2):=rfl
 refine oF o8 ?_
 simp only [c8,r8_0,r8_1,SS,reduceCtorEq,reduceIte,qQ,g0]
 have et4:List.take 4 (latC d kd l q c c2)=latC d kd l q c c2:=rfl
 refine ⟨by show 4<=4;omega,?_⟩
 rw [et4]
 refine zaa tG ?_ c1 hIm.closed
 simp only [zaj,SS,reduceIte,qQ]
 refine zaa tO ?_ c2' hsq.closed
 simp only [zaj,SS,reduceIte,qQ]
 refine zaa tR ?_ c3 (by simp only [AV.closed,qX,qY];rfl)
 simp only [zaj,SS,reduceIte,qQ,qW,qV,r8_2]
 exact ⟨.inl trivial,_,rfl,.freeze 1 _ _ _ rfl (by intro i cs h;omega)⟩
end Go.Proofs.YtpflahgcdgdkjaaGreatDoor
namespace Go.Proofs.YtpflahgcdgdkjaaGreatDoor
open Nat renaming reduceEqDiff -> qQ, le_refl -> qK, reduceAdd -> qA, reduceLeDiff -> qD, sub_self -> qG, lt_or_ge -> qH
open Go.AL.AV.closed renaming closedL -> qX
open List renaming getElem?_cons_zero -> qW, getElem?_cons_succ -> qV, replicate_zero -> qB, append_nil -> qE, set_append_right -> qR
open Bool renaming and_self -> qY
open Go Go.AL Go.Proofs Go.Det
theorem qxj (x:Int):In64 (IntKind.i64.wrap x):=by
 simp [In64,IntKind.wrap,IntKind.bits,IntKind.signed]
 omega
theorem qxk {n:Nat} {M:List (List Int)} (hS:Shp n M) (h:Red n (rowF M)):ImV M (.vec (zco n M) n (some n))/\M.length<=8/\∀i,i<M.length->(M.getD i []).length<=8:=
 ⟨zmg hS.len hS.row (qpl hS h),by rw [hS.len];exact h.n8,fun i hi=>by rw [hS.row i (by rw [<-hS.len];exact hi)];exact h.n8⟩
section
variable {a:AV} {M:List (List Int)} {z m:Int} {H:Heap} {Q:Post}
theorem jak (hV:ImV M a) (h8:M.length<=8/\∀i,i<M.length->(M.getD i []).length<=8) (hA:Rt 7 [] [] (.bool true) []) {E:Env} (e0:E 0=a) (e4:E 4= .int .i64 m) (e17:E 17= .int .i64 z) (hQ:∀E' H',E' 16= .bool true->Q .ret E' H'):
  Wg 0 94 (.seq (.reg r4_15 none) (.seq (.reg r4_16 none) (.seq (.reg r4_17 none) .ret))) E H Q:=by
 obtain ⟨D1,D2,e,x,y,hr1,hr2,t1,t2⟩:=qpq hV h8.1 h8.2 z m
 have t3:=jbm hr1 hr2
 obtain ⟨f1,f2,l1,l2,n1,n2,c1,c2,rfl⟩:=zlb hr1
 obtain ⟨g1,g2,m1,m2,o1,o2,k1,k2,rfl⟩:=zlb hr2
 have hca:=hV.closed
 have cA:qX [a,.int .i64 z,.int .i64 m]=true:=by simp only [qX,hca];rfl
 refine wM ?_
 simp only [r4_15,SS,reduceIte,qQ,e0,e4,e17]
 refine zaa t1 ?_ cA
 simp only [zaj,zad,qB,qE,SS,reduceIte,qA,qQ,qW,qV]
 have hset:∀(H:Heap) (u v:List AV),(H++[some u]).set H.length (some v)=H++[some v]:=fun H u v=>by
  rw [qR _ _ (qK _),qG];rfl
 have hgs:∀(H:Heap) (u:List AV),getB (H++[some u]) H.length=some u:=fun H u=>zbz
 have hg0:∀(H:Heap) (u v:List AV),getB (H++[some u]++[some v]) H.length=some u:=fun H u v=>by rw [zcb (by simp)];exact zbz
 simp only [hgs,SS,qA,qD,hset]
 simp only [r4_16,SS,reduceCtorEq,reduceIte,qQ,e0,e4,e17]
 refine zaa t2 ?_ cA
 simp only [zaj,zad,qB,qE,SS,reduceIte,qA,qQ,qD,qW,qV,hgs,hset]
 simp only [r4_17,↓ziz,SS,reduceIte,qA,qQ,qD,decide_true,hgs,hg0]
 refine zaa t3 ?_
 simp only [zaj,zad,qB,qE,↓ziz,SS,reduceIte,qQ]
 refine zaa hA ?_
 simp only [zaj,zad,qB,qE,SS,reduceIte,qQ]
 refine hQ _ _ ?_
 simp only [UU,qQ,reduceIte]
theorem qsc (hV:ImV M a) (h8:M.length<=8/\∀i,i<M.length->(M.getD i []).length<=8) (hA:Rt 7 [] [] (.bool true) []) {E:Env} (e0:E 0=a) (e4:E 4= .int .i64 m) (e17:E 17= .int .i64 z) (hz:In64 z) (hQ:∀E' H',E' 16= .bool true->Q .ret E' H'):
  Wg 0 94 (.seq (.seq (.reg r4_10 none) (.cond (.t 49) (.seq (.reg r4_11 none) (.seq (.reg r4_12 none) (.seq (.reg r4_13 none) (.cond (.t 67) (.seq (.reg r4_14 none) .ret) .skip)))) .skip)) (.seq (.reg r4_15 none) (.seq (.reg r4_16 none) (.seq (.reg r4_17 none) .ret)))) E H Q:=by
 have hV0:=hV
 obtain ⟨rows,c,rfl,_,_⟩:=hV.val
 refine wW ?_
 have go:∀E' H',E' 0= .vec rows M.length c->E' 4= .int .i64 m->E' 17= .int .i64 z->Wg 0 94 (.seq (.reg r4_15 none) (.seq (.reg r4_16 none) (.seq (.reg r4_17 none) .ret))) E' H' Q:=fun E' H' f0 f4 f17=>jak hV0 h8 hA f0 f4 f17 hQ
 by_cases b1:1<z
 rotate_left
 ·have d1:decide (1<z)=false:=decide_eq_false b1
  simp only [r4_10,↓qcf,SS,fC,reduceIte,qQ,e17,d1]
  refine go _ _ ?_ ?_ ?_<;>simp only [UU,qQ, *]
 have d1:decide (1<z)=true:=decide_eq_true b1
 by_cases b2:1<=m
 rotate_left
 ·have d2:decide (1<=m)=false:=decide_eq_false b2
  simp only [r4_10,↓ziz,↓qcf,SS,fC,reduceIte,qQ,e4,e17,d1,d2]
  refine go _ _ ?_ ?_ ?_<;>simp only [UU,qQ, *]
 have d2:decide (1<=m)=true:=decide_eq_true b2
 by_cases b3:m<=1000
 rotate_left
 ·have d3:decide (m<=1000)=false:=decide_eq_false b3
  simp only [r4_10,↓ziz,SS,fC,reduceIte,qQ,e4,e17,d1,d2,d3]
  refine go _ _ ?_ ?_ ?_<;>simp only [UU,qQ, *]
 have d3:decide (m<=1000)=true:=decide_eq_true b3
 obtain ⟨p,rfl⟩:∃p:Nat,z=(p:Int):=⟨z.toNat,by omega⟩
 obtain ⟨k,rfl⟩:∃k:Nat,m=(k:Int):=⟨m.toNat,by omega⟩
 have w1:IntKind.i64.wrap (2*(k:Int))=((2*k:Nat):Int):=wQ (by omega)
 have te:=zof (p:=p) (n:=2*k) (by omega) (by have:=hz.2;omega) (by omega) (by omega)
 generalize ((expo p (2*k) (2*k):Nat):Int)=v at*
 generalize hK:IntKind.i64.wrap (IntKind.i64.wrap (2*v)+1)=K
 have tp:=qdg (p:Int) (IntKind.i64.wrap (K*(M.length:Nat))) 2097152 (qxj _).2
 generalize pwF (p:Int) 2097152 (IntKind.i64.wrap (K*(M.length:Nat))).toNat 1=r at*
 simp only [r4_10,↓ziz,SS,fC,reduceIte,qQ,e4,e17,d1,d2,d3]
 simp only [r4_11,SS,reduceIte,qQ,e4,e17,w1]
 refine zaa te ?_
 simp only [zaj,zad,qB,qE,SS,reduceIte,qQ,hK]
 simp only [r4_12,SS,reduceCtorEq,reduceIte,qQ,e0,e17]
 refine zaa tp ?_
 simp only [zaj,zad,qB,qE,SS,reduceIte,qQ]
 by_cases b4:40000<r
 rotate_left
 ·have d4:decide (40000<r)=false:=decide_eq_false b4
  simp only [r4_13,↓qcf,SS,fC,reduceIte,qQ,d4]
  refine go _ _ ?_ ?_ ?_<;>simp only [UU,qQ, *]
 have d4:decide (40000<r)=true:=decide_eq_true b4
 by_cases b5:r<=2097152
 ·have d5:decide (r<=2097152)=true:=decide_eq_true b5
  simp only [r4_13,↓ziz,SS,fC,reduceIte,qQ,d4,d5]
  simp only [r4_14,SS]
  refine zaa hA ?_
  simp only [zaj,SS,reduceIte,qQ]
  refine hQ _ _ ?_
  simp only [UU,qQ,reduceIte]
 ·have d5:decide (r<=2097152)=false:=decide_eq_false b5
  simp only [r4_13,↓ziz,SS,fC,reduceIte,qQ,d4,d5]
  refine go _ _ ?_ ?_ ?_<;>simp only [UU,qQ, *]
theorem qam {small:Bool} (hV:ImV M a) (h8:M.length<=8/\∀i,i<M.length->(M.getD i []).length<=8) (hA:Rt 7 [] [] (.bool true) []) {E:Env} (e0:E 0=a) (e4:E 4= .int .i64 m) (e7:E 7= .bool small) (e17:E 17= .int .i64 z) (hz:In64 z) (hQ:∀E' H',E' 16= .bool true->Q .ret E' H'):
  Wg 0 94 (.seq (.seq (.reg r4_8 none) (.cond (.t 34) (.reg r4_9 none) .skip)) (.seq (.seq (.reg r4_10 none) (.cond (.t 49) (.seq (.reg r4_11 none) (.seq (.reg r4_12 none) (.seq (.reg r4_13 none) (.cond (.t 67) (.seq (.reg r4_14 none) .ret) .skip)))) .skip)) (.seq (.reg r4_15 none) (.seq (.reg r4_16 none) (.seq (.reg r4_17 none) .ret))))) E H Q:=by
 refine wW ?_
 cases small with
 | false=>
  simp only [r4_8,SS,fC,reduceIte,e7]
  refine qsc (z:=z) (m:=m) hV h8 hA ?_ ?_ ?_ hz hQ<;>simp only [UU,qQ, *]
 | true=>
  simp only [r4_8,r4_9,SS,fC,reduceIte,qQ,e4,e7]
  refine ⟨by decide,by decide,?_⟩
  refine qsc (z:=z) (m:=IntKind.i64.wrap (Int.tmod (IntKind.i64.wrap (Int.tmod m 40+40)) 40-1)) hV h8 hA ?_ ?_ ?_ hz hQ
  ·simp only [UU,qQ,e0]
  ·simp only [UU,qQ,reduceIte]
  ·simp only [UU,qQ,e17]
theorem qkg {wild small:Bool} {p raw:Int} (hV:ImV M a) (h8:M.length<=8/\∀i,i<M.length->(M.getD i []).length<=8) (hA:Rt 7 [] [] (.bool true) []) (tP:Rt 9 [.int .u8 p] [] (.int .i64 z) []) (hz:In64 z) (hraw:In64 raw) {E:Env} (e0:E 0=a) (e2:E 2= .int .u8 p) (e3:E 3= .int .i64 raw) (e4:E 4= .int .i64 m) (e5:E 5= .bool wild) (e7:E 7= .bool small) (hQ:∀E' H',E' 16= .bool true->Q .ret E' H'):
  Wg 0 94 (.seq (.reg r4_5 none) (.seq (.seq (.reg r4_6 none) (.cond (.t 32) (.reg r4_7 none) .skip)) (.seq (.seq (.reg r4_8 none) (.cond (.t 34) (.reg r4_9 none) .skip)) (.seq (.seq (.reg r4_10 none) (.cond (.t 49) (.seq (.reg r4_11 none) (.seq (.reg r4_12 none) (.seq (.reg r4_13 none) (.cond (.t 67) (.seq (.reg r4_14 none) .ret) .skip)))) .skip)) (.seq (.reg r4_15 none) (.seq (.reg r4_16 none) (.seq (.reg r4_17 none) .ret))))))) E H Q:=by
 refine wW ?_
 simp only [r4_5,SS,reduceIte,e2]
 refine zaa tP ?_
 simp only [zaj,SS,reduceIte,qQ]
 refine wW ?_
 cases wild with
 | false=>
  simp only [r4_6,SS,fC,reduceIte,qQ,e5]
  refine qam (small:=small) (z:=z) (m:=m) hV h8 hA ?_ ?_ ?_ ?_ hz hQ<;>simp only [UU,qQ,reduceIte, *]
 | true=>
  simp only [r4_6,r4_7,SS,fC,reduceIte,qQ,e3,e5]
  refine qam (small:=small) (z:=raw) (m:=m) hV h8 hA ?_ ?_ ?_ ?_ hraw hQ<;>simp only [UU,qQ,reduceIte, *]
end
set_option maxHeartbeats 2000000 in
theorem qxl {M:List (List Int)} {h:AV} {d kd p raw k:Int} {l q:List Int} {c1 c2:Option Nat} {wild made small:Bool} (hV:ImV M h)
  (hT:zkj l) (hd:0<=d/\d<256) (hkd:0<=kd/\kd<256) (hp:0<=p/\p<256) (hraw:In64 raw) (hA:Rt 7 [] [] (.bool true) []):
  Rt 4 [h,.agg (latC d kd l q c1 c2),.int .u8 p,.int .i64 raw,.int .i64 k,.bool wild,.bool made,.bool small] [] (.bool true) []:=by
 obtain ⟨n,hn⟩:∃n:Nat,(n:Int)=1+d%3:=⟨(1+d%3).toNat,by omega⟩
 obtain ⟨M',T',hred,hL,tF⟩:=jbz (c:=c1) (c2:=c2) (q:=q) (most:=3) hT hd hkd (by omega) hn
 have hS:Shp n M':=hL.shM
 have cF:qX [.agg (latC d kd l q c1 c2),.int .i64 3]=true:=by simp only [qX,AV.closed,zlc,qY]
 have hclF:AV.closed (.vec (zco n M') n (some n))=true:=by simp only [AV.closed]
 have g0:getB [some (latC d kd l q c1 c2)] 0=some (latC d kd l q c1 c2):=rfl
 have et4:List.take 4 (latC d kd l q c1 c2)=latC d kd l q c1 c2:=rfl
 have hch:=hV.closed
 have c0:qX [h]=true:=by simp only [qX,hch,qY]
 obtain ⟨bL,hbL⟩:=zok (8<M.length\/∃i,i<M.length/\8<(M.getD i []).length)
 have tL:=qwo hV hbL
 obtain ⟨z,hz,tP⟩:=qwp hp
 refine oFW o4 ?_
 unfold c4
 refine wW ?_
 simp only [r4_0,SS]
 refine wW ?_
 simp only [r4_1,SS,reduceCtorEq,reduceIte,qQ]
 refine zaa tL ?_ c0
 simp only [zaj,SS,reduceIte,qQ]
 cases bL with
 | true=>
  simp only [r4_2,SS,fC]
  refine zaa hA ?_
  simp only [zaj,SS,reduceIte,qQ]
  exact ⟨.inl trivial,_,rfl,.freeze 1 _ _ _ rfl (by intro i cs h;omega)⟩
 | false=>
  have hM8:M.length<=8/\∀i,i<M.length->(M.getD i []).length<=8:=by
   refine ⟨?_,fun i hi=>?_⟩
   ·rcases qH 8 M.length with e | e
    ·have:=hbL.2 (.inl e);simp at this
    ·exact e
   ·rcases qH 8 (M.getD i []).length with e | e
    ·have:=hbL.2 (.inr ⟨i,hi,e⟩);simp at this
    ·exact e
  have hfinal:∀(E':Env) (H':Heap),E' 16= .bool true->(fun (x:Exit) (E':Env) (H':Heap)=>(x=Exit.ret\/x=Exit.normal)/\∃v',resA Tryz.prog [ResultVar.tmp 16] E' H'=some v'/\AL.Fin 0 v' H' (AV.bool true) []) .ret E' H':=fun E' H' h=>⟨.inl rfl,.bool true,by simp [resA,zew,h],.freeze 1 _ _ _ rfl (by intro i cs h;omega)⟩
  simp only [SS,fC]
  refine wW ?_
  cases made with
  | false=>
   simp only [r4_3,SS,fC,reduceIte,qQ]
   refine qkg (z:=z) (m:=k) (p:=p) (raw:=raw) (wild:=wild) (small:=small) hV hM8 hA tP hz hraw ?_ ?_ ?_ ?_ ?_ ?_ hfinal
   all_goals simp only [UU,qQ]
  | true=>
   obtain ⟨hV',h8a,h8b⟩:=qxk hS hred
   simp only [r4_3,r4_4,SS,fC,reduceIte,qQ]
   refine ⟨by show 4<=4;omega,?_⟩
   rw [et4]
   refine zaa tF ?_ cF hclF
   simp only [zaj,SS,reduceIte,qQ]
   refine qkg (z:=z) (m:=k) (p:=p) (raw:=raw) (wild:=wild) (small:=small) hV' ⟨h8a,h8b⟩ hA tP hz hraw ?_ ?_ ?_ ?_ ?_ ?_ hfinal
   all_goals simp only [UU,qQ,reduceIte]
end Go.Proofs.YtpflahgcdgdkjaaGreatDoor
