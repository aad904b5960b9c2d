/- A part of the proof. -/
import Derived.Test.YtpflahgcdgdkjaaGreatDoorPG
import Derived.Test.YtpflahgcdgdkjaaGreatDoorPD
import Derived.Test.YtpflahgcdgdkjaaGreatDoorPA
import Derived.Test.YtpflahgcdgdkjaaGreatDoorPE
import Derived.Test.YtpflahgcdgdkjaaGreatDoorPB
set_option linter.all false
set_option maxRecDepth 100000
namespace Go.Proofs.YtpflahgcdgdkjaaGreatDoor
open Nat renaming reduceEqDiff -> qQ, le_refl -> qU, reduceAdd -> qB, zero_le -> qE, add_zero -> qT
open List renaming getD_eq_getElem?_getD -> qX, getElem?_cons_zero -> qJ, getElem?_cons_succ -> qK, length_map -> qL, nil_append -> qM, length_nil -> qN, getElem?_set -> qS, length_set -> xX
open Go.AL.AV.closed renaming closedL -> qZ
open Int renaming toNat_natCast -> qW
open Bool renaming and_self -> qV
open Option renaming getD_some -> xB
open Go Go.AL Go.Proofs Go.Limb
def idB(H:Heap)(ps:List (Nat×Option Nat))(uv:List AV):Nat->Heap
 |0=>H
 |i+1=>(idB H ps uv i).set (pid ps i) (some (setL ((getB (idB H ps uv i) (pid ps i)).getD []) (i*2) uv))
def idX(n:Nat):Nat->List (List Int)
 |0=>zmat n n
 |i+1=>setM (idX n i) i i 1
theorem zqj(n:Nat):∀i,(idX n i).length=n:=by
 intro i
 induction i with
 |zero=>exact(ziy n n).1
 |succ i ih=>show(setM _ _ _ _).length=n;rw[zcu,ih]
theorem jbb{H:Heap}{ps:List (Nat×Option Nat)}{n:Nat}{u v:AV}(h:MatH H 0 ps n (zmat n n))(hz:zag 1 (.agg [u,v])):∀i,i<=n->MatH (idB H ps [u,v] i) 0 ps n (idX n i):=by
 intro i
 induction i with
 |zero=>intro _;exact h
 |succ i ih=>
  intro hi;have hM:=ih (by omega);obtain⟨cs,gk,_⟩:=zdw hM (i:=i) (by rw[zqj];omega);have:=zhz hM (i:=i) (j:=i) (by rw[zqj];omega) (by omega) hz gk
  show MatH ((idB H ps [u,v] i).set (pid ps i) (some (setL ((getB (idB H ps [u,v] i) (pid ps i)).getD []) (i*2) [u,v]))) 0 ps n (setM (idX n i) i i 1)
  rw[gk];exact this
theorem jbc{n:Nat}:∀i,i<=n->(∀s,s<n->((idX n i).getD s []).length=n)/\∀s t,ent (idX n i) s t=if s<i/\s=t then 1 else 0:=by
 intro i
 induction i with
 |zero=>intro _;exact⟨(ziy n n).2,λs t=>by rw[if_neg (by omega)];exact zko n n s t⟩
 |succ i ih=>
  intro hi;obtain⟨h1,h2⟩:=ih (by omega);have hl:=zqj n i
  have hrow:∀s,s<n->((setM (idX n i) i i 1).getD s []).length=n:=by
   intro s hs;unfold setM;rw[qX,qS];by_cases e:i=s
   ·subst e;rw[if_pos rfl,if_pos (by omega),xB,xX];exact h1 i hs
   ·rw[if_neg e,<-qX];exact h1 s hs
  refine⟨hrow,λs t=>?_⟩
  show ent (setM (idX n i) i i 1) s t=_
  rw[zhb (by omega) (by rw[h1 i (by omega)];omega),h2];by_cases e1:s=i/\t=i
  ·rw[if_pos e1,if_pos ⟨by omega,by omega⟩]
  ·rw[if_neg e1];by_cases e2:s<i/\s=t
   ·rw[if_pos e2,if_pos ⟨by omega,e2.2⟩]
   ·rw[if_neg e2,if_neg (by omega)]
theorem jen(n:Nat):idX n n=idM n:=by
 obtain⟨h1,h2⟩:=jbc (n:=n) n (qU _);refine zub (n:=n) ⟨zqj n n,h1⟩ (zfo n) λs t hs ht=>?_
 rw[h2,zpo hs ht];by_cases e:s=t
 ·rw[if_pos ⟨hs,e⟩,if_pos e]
 ·rw[if_neg (λx=>e x.2),if_neg e]
theorem qgp{n:Nat}(hn:1<=n/\n<=16):∃H1 ps,MatH H1 0 ps n (idM n)/\Rt 59 [.int .i64 (n:Nat)] [] (.tup [.sl 0 0 n 1 (some n),.bool true]) H1:=by
 obtain⟨H1,ps,hH1,hz⟩:=zja n n;obtain⟨v,hv,ts⟩:=zfb 1 (by omega) (by omega);have hv0:=hv;obtain⟨lv,cv,_,_,_,rfl⟩:=hv0;have hM:=jbb hz hv;refine⟨idB H1 ps _ n,ps,by have:=hM n (qU _);rw[jen]at this;exact this,?_⟩;refine oF o59 ?_;simp only[c59,r59_0,r59_1,SS,fC,reduceCtorEq,reduceIte,qQ];refine⟨λ_=>⟨λh=>absurd h (by omega),λ_=>?_⟩,λh=>absurd h (by omega)⟩;simp only[r59_3,SS,reduceCtorEq,reduceIte,qQ];refine zdz (qks hn.2 hn.2) rfl ?_;simp only[zay,SS,reduceIte,qQ,AV.ren,zcb,qT,hH1];simp only[r59_4,SS,reduceIte,qQ];refine zaf (λk E H=>∃i,i+k=n/\H=idB H1 ps [.bool (decide ((1:Int)<0)),.vec (u32s lv) lv.length cv] i/\E 4= .sl 0 0 n 1 (some n)/\E 16= .int .i64 (n:Nat)/\E 17= .int .i64 (i:Nat)) (n:=n) ⟨0,by omega,rfl,by simp only[UU,qQ,reduceIte],by simp only[UU,qQ,reduceIte],by simp only[UU,qQ,reduceIte];rfl⟩ ?_;rintro k E H ⟨i,hik,rfl,e4,e16,e17⟩;refine wM ?_;simp only[l59_0,r59_5,SS,reduceCtorEq,reduceIte,e16,e17];refine⟨λhlt=>?_,λhge=>?_⟩
 ·obtain⟨k,rfl⟩:∃k',k=k'+1:=⟨k-1,by omega⟩
  have hi:i<n:=by omega
  have hMi:=hM i (by omega);have hXl:=zqj n i;obtain⟨csk,gk,lk,rk,fk⟩:=zdw hMi (i:=i) (by omega);have ok:=zbv (ps:=ps) (n:=n) (i:=i) (by rw[hMi.len];omega);have hol:(ps.map (zck n)).length=n:=by rw[qL,hMi.len];exact hXl
  have hou:=hMi.outer;have w5:=wS1 i (by omega);simp only[r59_6,r59_7,SS,fC,reduceIte,qQ,e4,e17,qW,hou,hol,ok];refine⟨⟨by omega,by omega⟩,by omega,?_⟩;refine zaa ts ?_;simp only[SS,reduceIte,qB,qQ,gk,lk,qW];refine⟨⟨by omega,by omega⟩,by omega,rfl,?_⟩;simp only[r59_8,SS,reduceIte,qQ,e17,w5];refine⟨k,_,_,by omega,⟨i+1,by omega,?_,?_,?_,?_⟩,.refl⟩
  ·show _=(idB H1 ps _ i).set (pid ps i) (some (setL ((getB (idB H1 ps _ i) (pid ps i)).getD []) (i*2) _))
   rw[gk];rfl
  all_goals simp only[UU,qQ,reduceIte, *]
 ·have hin:i=n:=by omega
  subst hin;simp only[r59_9,SS,reduceIte,qQ,e4];exact kR
open Go.Det
structure StepOut(n:Nat)(M:List (List Int))(out:AV):Prop where
 add:∀i j,CurA n (rowF M) i j->out= .tup [matC (zil n M i j),.bool true]
 sw:∀i,CurS n (rowF M) i->out= .tup [matC (zlj n i),.bool true]
 none:(∀i,i<n->OKr (rowF M) i)->out= .tup [.vec [] 0 none,.bool false]
theorem qtr{n N A0:Nat}{M:List (List Int)}{ar:List AV}{ac:Option Nat}{ds:List Int}(hsq:Sq n M (.vec ar n ac))(hL:Lead BIG n M ds)(hF:FitN N BIG A0)(hb:Bnd A0 M)(hnN:n<=N)(hp:∀t,t<=n->0<lead (rowF M) t)(hds:zds BIG M n=some ds)(hdf:∀z∈ds,z.natAbs<=bndS A0 N)
  {H2:Heap} {ps:List (Nat×Option Nat)} (hH:MatH H2 0 ps n (idM n)) {out:AV} (ho:StepOut n M out) {i:Nat} (hi:i<n) (hpre:∀s,s<i->OKr (rowF M) s) {v22 v23:AV} {E:Env} {Q:Post}
  (e0:E 0= .vec ar n ac) (e4:E 4=rowV ds) (e6:E 6= .sl 0 0 n 1 (some n)) (e8:E 8= .int .i64 (i:Nat)) (e9:E 9= .int .i64 ((i:Int)-1)) (e22:E 22=v22) (e23:E 23=v23)
  (hret:∀E' H' v,E' 2= .sl 0 0 n 1 (some n)->E' 3= .bool true->AL.Fin 0 (.tup [.sl 0 0 n 1 (some n),.bool true]) H' v []->v.wk=out->Q .ret E' H')
  (hQ:∀E',(∀l,l<i->SZ (rowF M) i l)->E' 0= .vec ar n ac->E' 4=rowV ds->E' 6= .sl 0 0 n 1 (some n)->E' 8= .int .i64 (i:Nat)->E' 22=v22->E' 23=v23->Q (.exit 2) E' H2):
  Wg 0 83 (.loop l60_1) E H2 Q:=by
 have hn:1<=n/\n<=8:=⟨hsq.lo,hsq.hi⟩
 refine zaf (λk E H=>k<=i/\(∀l,k<=l->l<i->SZ (rowF M) i l)/\H=H2/\E 0= .vec ar n ac/\E 4=rowV ds/\E 6= .sl 0 0 n 1 (some n)/\E 8= .int .i64 (i:Nat)/\E 9= .int .i64 ((k:Int)-1)/\E 22=v22/\E 23=v23) (n:=i)
  ⟨qU _,λl h1 h2=>absurd h2 (by omega),rfl,e0,e4,e6,e8,e9,e22,e23⟩ ?_
 clear e0 e4 e6 e8 e9 e22 e23 E;rintro k E H ⟨hki,hup,rfl,e0,e4,e6,e8,e9,e22,e23⟩;refine wM ?_;simp only[l60_1,r60_7,SS,reduceIte,qQ,e9];refine⟨λhge=>?_,λhlt=>?_⟩
 ·obtain⟨k,rfl⟩:∃k',k=k'+1:=⟨k-1,by omega⟩
  have e9k:((k+1:Nat):Int)-1=(k:Nat):=by omega
  rw[e9k]at e9;have hk:k<n:=by omega
  have tS:=quy zdj hsq hL hi hk (qnr hF hb hnN hds hp (i:=i) hk);have c1:qZ [.vec ar n ac,rowV ds,.int .i64 (i:Nat),.int .i64 (k:Nat)]=true:=rfl;have w3:IntKind.i64.wrap ((k:Int)-1)=(k:Int)-1:=w64 (by omega) (by omega);simp only[r60_8,SS,reduceCtorEq,reduceIte,qQ,e0,e4,e8,e9,e9k];refine zaa tS ?_ c1;simp only[SS,reduceIte,qQ];by_cases hz:SZ (rowF M) i k
  ·have d1:decide (SZ (rowF M) i k)=true:=decide_eq_true hz;simp only[SS,fC,d1];simp only[r60_11,SS,reduceIte,qQ,e9,w3];refine⟨k,_,_,by omega,⟨by omega,λl h1 h2=>?_,rfl,?_,?_,?_,?_,?_,?_,?_⟩,.refl⟩
   ·rcases(by omega:l=k\/k+1<=l)with e | e
    ·rw[e];exact hz
    ·exact hup l e h2
   all_goals simp only[UU,qQ,reduceIte, *]
  ·have d1:decide (SZ (rowF M) i k)=false:=decide_eq_false hz;have hc:CurA n (rowF M) i k:=⟨hi,by omega,hpre,λl h1 h2=>hup l (by omega) h2,hz⟩
   have hout:=ho.add i k hc;obtain⟨hlam,hlb⟩:=qns hF hb hnN hp (i:=i) (j:=k) hk;obtain⟨hdet,hlf⟩:=zgj hlam;have tL:=zzt zdj hsq hi hk hdet hlf;have hli:=zbk (z:=stg (rowF M) k i k) hlf;have tM:=zwn zdj hL hn.2 (k:=k+1) (by omega);have hmin:zcq ds (k+1)=lead (rowF M) (k+1):=zgn hds hp (by omega);have hmi:=zbk (zma zdj hL (k+1));rw[hmin]at tM hmi;have hdp:=hp (k+1) (by omega);obtain⟨q,hq,tQ⟩:=qlu hli hmi hdp;have hmb:=zie hF hdf (k+1);rw[hmin]at hmb;have hfit:=hF.fit;have hsq1:=Nat.mul_le_mul_left (bndS A0 N) (zkt hF.one N);obtain⟨w,hw,tN⟩:=qse hq hdp (by omega);obtain⟨x,hx,tG⟩:=zNeg hw;obtain⟨csk,gk,lk,rk,fk⟩:=zdw hH (i:=k) (by rw[(zfo n).len];exact hk);have ok:=zbv (ps:=ps) (n:=n) (i:=k) (by rw[hH.len,(zfo n).len];exact hk);have hol:(ps.map (zck n)).length=n:=by rw[qL,hH.len];exact(zfo n).len
   have hou:=hH.outer;have hx0:=hx;obtain⟨lx,cx,_,_,_,rfl⟩:=hx0;have hset:=zhz hH (i:=k) (j:=i) (by rw[(zfo n).len];exact hk) hi hx gk;have eU:setM (idM n) k i (-(zgo (stg (rowF M) k i k) (lead (rowF M) (k+1))))=zil n M i k:=rfl;rw[eU]at hset;have hUl:(zil n M i k).length=n:=(qcr (c:= -(zgo (stg (rowF M) k i k) (lead (rowF M) (k+1)))) (i:=i) hk).len;obtain⟨a1,a2,b1,b2,rfl,p1,p2⟩:=id hq;obtain⟨_,_,y1,y2⟩:=zam p1;obtain⟨_,_,y3,y4⟩:=zam p2;subst y1 y2 y3 y4;obtain⟨lw,cw,_,_,_,hew⟩:=id hw;subst hew;have w6:=wS1 k (by omega);have cL:qZ [.vec ar n ac,.int .i64 (i:Nat),.int .i64 (k:Nat)]=true:=rfl;have cM:qZ [rowV ds,.int .i64 ((k+1:Nat):Int)]=true:=rfl;have cQ:qZ [intV (stg (rowF M) k i k),intV (lead (rowF M) (k+1))]=true:=by simp only[qZ,hli.closed,hmi.closed,qV]
   simp only[SS,fC,d1];simp only[r60_9,SS,fC,reduceCtorEq,reduceIte,qQ,e0,e6,e8,e9,qW,hou,hol,ok];refine⟨⟨by omega,by omega⟩,by omega,?_⟩;refine zaa tL ?_ cL hli.closed;simp only[SS,reduceIte,qQ,e4,e9,w6];refine zaa tM ?_ cM hmi.closed;simp only[SS,reduceIte,qQ];refine zaa tQ ?_ cQ;simp only[SS,reduceIte,qQ];refine zaa tN ?_;simp only[SS,reduceIte,qQ];refine zaa tG ?_;simp only[SS,reduceIte,qB,qQ,gk,lk,qW];refine⟨⟨by omega,by omega⟩,by omega,rfl,?_⟩;simp only[r60_10,SS,reduceIte,qQ,e6];obtain⟨v,g1,g2⟩:=zix (cap:=some n) (b:=true) hset;rw[hUl]at g1;exact hret _ _ v (by simp only[UU,qQ,reduceIte]) (by simp only[UU,qQ,reduceIte]) g1 (by rw[g2,hout])
 ·have hk0:k=0:=by omega
  subst hk0;exact hQ _ (λl hl=>hup l (qE _) hl) (by simp only[UU,qQ,e0]) (by simp only[UU,qQ,e4]) (by simp only[UU,qQ,e6]) (by simp only[UU,qQ,e8]) (by simp only[UU,qQ,e22]) (by simp only[UU,qQ,e23])
theorem jbd{n N A0:Nat}{M:List (List Int)}{a out:AV}{ds:List Int}(hsq:Sq n M a)(hF:FitN N BIG A0)(hb:Bnd A0 M)(hnN:n<=N)(hp:∀t,t<=n->0<lead (rowF M) t)(ho:StepOut n M out):Rt 60 [a] [] out []:=by
 have hn:1<=n/\n<=8:=⟨hsq.lo,hsq.hi⟩
 obtain⟨ds,hds,hdf⟩:=znl hF hb n hnN;have hds':zkk BIG M=some ds:=by unfold zkk;rw[hsq.len];exact hds
 have hL:=qkq hsq hds';have t1:=ztp zdj hsq hds';obtain⟨H0,ps0,hM0,t2⟩:=qgp (n:=n) (by omega);have hM2:=zkn (H:=[]) hM0;have hH2:zad (effs (zan [] 0) 0 H0) (List.replicate H0.length none)=H0.map (renB (zan [] 0)):=zgz (H:=[]) (zan [] 0) (λi=>zcb 0 i) H0 [];simp only[qM,qN]at hM2;have c1:qZ [a]=true:=by simp only[qZ,hsq.closed,qV]
 obtain⟨ar,ac,hae,hal,har⟩:=hsq.mat;subst hae;rw[hsq.len]at hsq t1 c1 ⊢;refine oFw o60 ?_;simp only[c60,r60_0,r60_1,SS,reduceCtorEq,reduceIte];refine zaa t1 ?_ c1;simp only[SS,reduceIte,qQ,qJ,qK];simp only[r60_2,SS,reduceCtorEq,reduceIte,qQ];refine zdz t2 rfl ?_;simp only[zay,SS,reduceIte,qQ,AV.ren,AV.ren.renL,zcb,qT,hH2,qJ,qK];generalize H0.map (renB (zan [] 0))=H2 at*;generalize (ps0.map λp=>(0+p.1,p.2))=ps at*;simp only[r60_3,SS,reduceCtorEq,reduceIte,qQ]
 have hret:∀E' H' v,E' 2= .sl 0 0 n 1 (some n)->E' 3= .bool true->AL.Fin 0 (.tup [.sl 0 0 n 1 (some n),.bool true]) H' v []->v.wk=out->∃v' v'',resA Tryz.prog [.tmp 2,.tmp 3] E' H'=some v'/\AL.Fin 0 v' H' v'' []/\v''.wk=out:=by
  intro E' H' v f2 f3 g gw;refine⟨.tup [.sl 0 0 n 1 (some n),.bool true],v,?_,g,gw⟩;simp only[resA,zdv,List.mapM_cons,List.mapM_nil,f2,f3];rfl
 refine zaf (λk E H=>∃i,i+k=n/\H=H2/\E 0= .vec ar n ac/\E 4=rowV ds/\E 6= .sl 0 0 n 1 (some n)/\E 22= .int .i64 (n:Nat)/\E 23= .int .i64 (i:Nat)/\∀s,s<i->OKr (rowF M) s) (n:=n)
  ⟨0,by omega,rfl,by simp only[UU,qQ],by simp only[UU,qQ,reduceIte],by simp only[UU,qQ,reduceIte],by simp only[UU,qQ,reduceIte],by simp only[UU,qQ,reduceIte];rfl,λs hs=>absurd hs (by omega)⟩ ?_
 rintro k E H ⟨i,hik,rfl,e0,e4,e6,e22,e23,hpre⟩;refine wM ?_;simp only[l60_0,r60_4,SS,reduceCtorEq,reduceIte,e22,e23];refine⟨λhlt=>?_,λhge=>?_⟩
 ·obtain⟨k,rfl⟩:∃k',k=k'+1:=⟨k-1,by omega⟩
  have hi:i<n:=by omega
  have w5:=wS1 i (by omega);have w3:IntKind.i64.wrap ((i:Int)-1)=(i:Int)-1:=w64 (by omega) (by omega);simp only[r60_5,r60_6,SS,reduceIte,qQ,e23,w3];refine qtr (ar:=ar) (ac:=ac) hsq hL hF hb hnN hp hds hdf hM2 ho hi hpre (by simp only[UU,qQ,e0]) (by simp only[UU,qQ,e4]) (by simp only[UU,qQ,e6]) (by simp only[UU,qQ,reduceIte]) (by simp only[UU,qQ,reduceIte]) (by simp only[UU,qQ];exact e22) (by simp only[UU,qQ];exact e23) ?_ ?_
  ·intro E' H' v f2 f3 g gw;simp only[SS,reduceCtorEq];exact⟨.inl trivial,hret E' H' v f2 f3 g gw⟩
  intro E' hSZ f0 f4 f6 f8 f22 f23;rcases Nat.eq_zero_or_pos i with h0 | h0
  ·have d0:decide ((0:Int)<(i:Nat))=false:=dF;simp only[SS,fC,reduceCtorEq,reduceIte,qQ,r60_12,f0,f4,f8,d0];simp only[r60_15,SS,reduceIte,qQ,f23,w5];refine⟨k,_,_,by omega,⟨i+1,by omega,rfl,?_,?_,?_,?_,?_,λs hs=>?_⟩,.refl⟩
   ·simp only[UU,qQ, *]
   ·simp only[UU,qQ, *]
   ·simp only[UU,qQ, *]
   ·simp only[UU,qQ, *]
   ·simp only[UU,qQ,reduceIte, *]
   ·rcases(by omega:s<i\/s=i)with e | e
    ·exact hpre s e
    ·rw[e];exact⟨hSZ,λh=>absurd h (by omega)⟩
  ·have d0:decide ((0:Int)<(i:Nat))=true:=dT;have tV:=qkr zdj hsq hL h0 hi (jax hF hb hnN hds hdf hp h0 hi);simp only[SS,fC,reduceCtorEq,reduceIte,qQ,r60_12,f0,f4,f8,d0];refine zaa tV ?_;by_cases hv:LV (rowF M) i
   ·have d1:decide (LV (rowF M) i)=true:=decide_eq_true hv;simp only[SS,fC,reduceIte,qQ,d1];simp only[r60_15,SS,reduceIte,qQ,f23,w5];refine⟨k,_,_,by omega,⟨i+1,by omega,rfl,?_,?_,?_,?_,?_,λs hs=>?_⟩,.refl⟩
    ·simp only[UU,qQ, *]
    ·simp only[UU,qQ, *]
    ·simp only[UU,qQ, *]
    ·simp only[UU,qQ, *]
    ·simp only[UU,qQ,reduceIte, *]
    ·rcases(by omega:s<i\/s=i)with e | e
     ·exact hpre s e
     ·rw[e];exact⟨hSZ,λ_=>hv⟩
   ·have d1:decide (LV (rowF M) i)=false:=decide_eq_false hv;have hc:CurS n (rowF M) i:=⟨hi,h0,hpre,hSZ,hv⟩
    have hout:=ho.sw i hc;have hIl:=(zfo n).len;have o1:=zbv (ps:=ps) (n:=n) (i:=i) (by rw[hM2.len,hIl];exact hi);have o2:=zbv (ps:=ps) (n:=n) (i:=i-1) (by rw[hM2.len,hIl];omega);have hol:(ps.map (zck n)).length=n:=by rw[qL,hM2.len];exact hIl
    have hou:=hM2.outer;have w7:(i:Int)-1=((i-1:Nat):Int):=by omega
    have w8:IntKind.i64.wrap ((i-1:Nat):Int)=((i-1:Nat):Int):=w64 (by omega) (by omega);have hlt0:=zal hou;have hsw:=(qbx hM2 (p:=i) (k:=i-1) (by rw[hIl];exact hi) (by rw[hIl];omega)).1;have hUl:(zdm (idM n) i (i-1)).length=n:=(zks (zfo n) hi (by omega)).1.len;simp only[SS,fC,reduceIte,qQ,d1];simp only[r60_13,SS,fC,reduceIte,qQ,f6,f8,w7,w8,qW,hou,hol,o1,o2,zbd hlt0,xX,List.set_set];refine⟨⟨by omega,by omega⟩,by omega,⟨by omega,by omega⟩,by omega,⟨by omega,by omega⟩,by omega,⟨by omega,by omega⟩,by omega,rfl,?_⟩;simp only[r60_14,SS,reduceIte,qQ,f6];obtain⟨v,g1,g2⟩:=zix (cap:=some n) (b:=true) hsw;rw[hUl]at g1;exact⟨.inl trivial,hret _ _ v (by simp only[UU,qQ,reduceIte]) (by simp only[UU,qQ,reduceIte]) g1 (by rw[g2,hout];rfl)⟩
 ·have hin:i=n:=by omega
  subst hin;have hout:=ho.none hpre;simp only[r60_16,SS];exact⟨.inl trivial,_,_,rfl,.drop _ _ rfl (by intro i cs h;omega),by rw[hout];rfl⟩
end Go.Proofs.YtpflahgcdgdkjaaGreatDoor
namespace Go.Proofs.YtpflahgcdgdkjaaGreatDoor
open Nat renaming reduceEqDiff -> qQ, le_refl -> qU, zero_le -> qE, lt_of_le_of_lt -> qG, mul_le_mul -> qP, add_zero -> qT, zero_add -> xQ, mul_one -> xC
open List renaming getElem?_cons_zero -> qJ, getElem?_cons_succ -> qK, take_of_length_le -> qI, length_map -> qL, nil_append -> qM, length_nil -> qN, drop_zero -> xW
open Go.AL.AV.closed renaming closedL -> qZ
open Bool renaming and_self -> qV, true_and -> xY
open Go Go.AL Go.Det Go.Limb
theorem jbe{n:Nat}(h1:1<=n)(h5:n<=5):FitN n BIG (bigK (16^n) (8*16^n)).toNat:=by
 rcases(by omega:n=1\/n=2\/n=3\/n=4\/n=5)with rfl | rfl | rfl | rfl | rfl
 ·exact⟨by decide +kernel,by decide +kernel⟩
 ·exact⟨by decide +kernel,by decide +kernel⟩
 ·exact⟨by decide +kernel,by decide +kernel⟩
 ·exact⟨by decide +kernel,by decide +kernel⟩
 ·exact⟨by decide +kernel,by decide +kernel⟩
def qnt:Nat:=2^2000
def qvt:Nat:=2^12000
def zms:Nat:=2^12001
def qnu:Nat:=2^30000
theorem qnv{n:Nat}(h1:1<=n)(h5:n<=5):vecB (16^n) (8*16^n) (bigK (16^n) (8*16^n)) 7<=((qnt:Nat):Int)/\(bndS (bigK (16^n) (8*16^n)).toNat n:Int)<=((qvt:Nat):Int):=by
 rcases(by omega:n=1\/n=2\/n=3\/n=4\/n=5)with rfl | rfl | rfl | rfl | rfl
 ·exact⟨by decide +kernel,by decide +kernel⟩
 ·exact⟨by decide +kernel,by decide +kernel⟩
 ·exact⟨by decide +kernel,by decide +kernel⟩
 ·exact⟨by decide +kernel,by decide +kernel⟩
 ·exact⟨by decide +kernel,by decide +kernel⟩
theorem qts{n:Nat}(h1:1<=n)(h5:n<=5):1<=bigK (16^n) (8*16^n)/\bigK (16^n) (8*16^n)<=2^200:=by
 rcases(by omega:n=1\/n=2\/n=3\/n=4\/n=5)with rfl | rfl | rfl | rfl | rfl
 ·exact⟨by decide +kernel,by decide +kernel⟩
 ·exact⟨by decide +kernel,by decide +kernel⟩
 ·exact⟨by decide +kernel,by decide +kernel⟩
 ·exact⟨by decide +kernel,by decide +kernel⟩
 ·exact⟨by decide +kernel,by decide +kernel⟩
theorem jbf{x y a b B:Nat}(hx:x<=a)(hy:y<=b)(h:64*(b*a*b)+8*(b*a)+a+b<B):64*(y*x*y)+8*(y*x)+x+y<B:=by
 have h1:=qP hy hx;have h2:=qP h1 hy;omega
theorem jbg{x y a b B:Nat}(hx:x<=a)(hy:y<=b)(h:8*(a*b)+a+b<B):8*(x*y)+x+y<B:=by
 have h1:=qP hx hy;omega
theorem jeo{x y:Nat}(hx:x<=2^200)(hy:y<=zms):64*(y*x*y)+8*(y*x)+x+y<BIG:=jbf hx hy (by decide +kernel)
theorem jep{x y:Nat}(hx:x<=qnt)(hy:y<=zms):8*(x*y)+x+y<BIG:=jbg hx hy (by decide +kernel)
theorem jeq:qvt+1<=zms:=by decide +kernel
theorem jer:qnt<qnu:=by decide +kernel
theorem jbh:zms<qnu:=by decide +kernel
theorem qtt:1<=zms:=by decide +kernel
theorem qvu:qnu<BIG:=by decide +kernel
open Go.Proofs
theorem zxu{n:Nat}{M:List (List Int)}(h:∀i,i<n->OKr (rowF M) i):StepOut n M (.tup [.vec [] 0 none,.bool false]):=
 ⟨λi j c=>absurd ((h i c.hi).1 j c.hj) c.no,λi c=>absurd ((h i c.hi).2 c.h0) c.no,λ_=>rfl⟩
theorem qat{n i j:Nat}{M:List (List Int)}(h:CurA n (rowF M) i j):StepOut n M (.tup [matC (zil n M i j),.bool true]):=
 ⟨λi' j' c=>by obtain⟨rfl,rfl⟩:=qtn h c;rfl,λi' c=>(qvs h c).elim,λhk=>absurd ((hk i h.hi).1 j h.hj) h.no⟩
theorem qgq{n i:Nat}{M:List (List Int)}(h:CurS n (rowF M) i):StepOut n M (.tup [matC (zlj n i),.bool true]):=
 ⟨λi' j' c=>(qvs c h).elim,λi' c=>by obtain rfl:=qto h c;rfl,λhk=>absurd ((hk i h.hi).2 h.h0) h.no⟩
theorem jbi{H:Heap}{o n:Nat}{ps:List (Nat×Option Nat)}{M:List (List Int)}{cap:Option Nat}(h:MatH H o ps n M):∃vs,frzI 0 H 3 (.sl o 0 M.length 1 cap)=some (.vec vs M.length cap)/\MatV M (.vec vs M.length cap):=by
 obtain⟨vs,h1,h2,h3⟩:=zto (zts h);have hl:=h.len;refine⟨vs,?_,⟨vs,cap,rfl,h2,h3⟩⟩;rw[frzI];simp only[Nat.not_lt_zero,if_false,h.outer,need,xQ,xC,qL,hl,qU,if_true,xW];rw[qI (by simp[hl]),h1];rfl
theorem qvv{n y:Nat}(hy:1<=y):Bnd y (idM n):=by
 intro i j;by_cases h:i<n/\j<n
 ·rw[zpo h.1 h.2];split<;>simp<;>omega
 ·rw[(zfo n).out (by omega)];simp
theorem qtu{n y i j:Nat}{M:List (List Int)}(hj:j<n)(hi:i<n)(hy:1<=y)(hc:(zgo (stg (rowF M) j i j) (lead (rowF M) (j+1))).natAbs<=y):Bnd y (zil n M i j):=by
 intro s t;unfold zil addU;rw[(zfo n).ent_set hj hi];split
 ·rw[Int.natAbs_neg];exact hc
 ·exact qvv hy s t
theorem qtv{n y i:Nat}(hi:i<n)(hy:1<=y):Bnd y (zlj n i):=by
 intro s t;unfold zlj;rw[(zks (zfo n) hi (by omega)).2];exact qvv hy _ _
theorem qtw{n i j:Nat}{M:List (List Int)}(hj:j<n):Shp n (zil n M i j):=qcr hj
theorem qnw{n i:Nat}(hi:i<n):Shp n (zlj n i):=(zks (zfo n) hi (by omega)).1
theorem zlk{n:Nat}{M0 M T:List (List Int)}(h1:1<=n)(h5:n<=5)(hp:Pos n (16^n) (rowF M0))(ha:∀s,s<n->ent M0 s s<=8*16^n)(hL:LState n (16^n) (8*16^n) M0 M T):
  Bnd (bigK (16^n) (8*16^n)).toNat M/\Bnd qnt T:=by
 have h16:(1:Int)<=16^n:=by
  have:=Nat.one_le_pow n 16 (by decide)
  exact_mod_cast this
 obtain⟨b1,b2⟩:=hL.bound (by omega) (by omega) hp ha (qno (n:=n) (rowF M));have hv:=(qnv h1 h5).1;have hv2:vecB (16^n) (8*16^n) (bigK (16^n) (8*16^n)) 7<=((qnt:Nat):Int):=hv;refine⟨λi j=>?_,λi j=>?_⟩
 ·by_cases h:i<n/\j<n
  ·have:=b1 i j h.1 h.2;omega
  ·rw[hL.shM.out (by omega)];simp
 ·by_cases h:i<n/\j<n
  ·have:=b2 i j h.1 h.2;omega
  ·rw[hL.shT.out (by omega)];simp
theorem jbj{n:Nat}{M0:List (List Int)}{a:AV}(hsq:Sq n M0 a)(h5:n<=5)(hG:SmallG n M0)(hg:zjd n M0):∃M' T',Red n (rowF M')/\LState n (16^n) (8*16^n) M0 M' T'/\Rt 23 [a] [] (.tup [.vec (zcx n M') n (some n),matC T',.int .i64 0]) []:=by
 have h1:=hsq.lo;have h8:=hsq.hi;obtain⟨k0,M',T',hE,hst,hend,hred⟩:=qtq h1 h8 hG hg;refine⟨M',T',hred,hend,?_⟩;have hpos:=qdt hG hg
 have h16:(1:Int)<=16^n:=by
  have:=Nat.one_le_pow n 16 (by decide)
  exact_mod_cast this
 have hK1:(1:Int)<=8*16^n:=by omega
 have ha:∀s,s<n->ent M0 s s<=8*16^n:=by
  intro s _;have:=(hG.bnd s s).2
  have h2:(16:Int)^1<=16^n:=by
   have:=Nat.pow_le_pow_right (n:=16) (by decide) h1
   exact_mod_cast this
  have e1:(16:Int)^1=16:=by decide
  omega
 have hF:=jbe h1 h5;have hb0:=(zlk h1 h5 hpos ha hst).1;obtain⟨ds,hds,hdf⟩:=znl hF hb0 n (qU _);have hds':zkk BIG M0=some ds:=by unfold zkk;rw[hsq.len];exact hds
 obtain⟨d0,hd0,hd0f⟩:=zpl (B:=BIG) hF.one (λk hk=>(hF.all (k:=k) hk).2) hst.shM hb0;have hd0e:d0=lead (rowF M0) n:=zgm hst.shM (λt ht=>by have:=hpos.pos t (by omega);omega) hd0
 have hval:valZ M0 ds=0:=by
  have hsy:=(znk hst.shM).2 hpos.sym
  have hdf2:defB M0 ds=true:=by
   unfold defB;rw[hsy,xY,zpk,zdg hds];intro t ht;rw[ztx hds hpos.pos t ht];exact hpos.pos (t+1) (by omega)
  unfold valZ;rw[hsy,hdf2];rfl
 have t1:=zpd zdj hsq hds';rw[hval]at t1;have t2:=qux zdj hsq hd0 (qG hd0f hF.lt);have e2:decide (d0<=10000)=true:=decide_eq_true (by rw[hd0e];exact hg.2);rw[e2]at t2;have t3:=qnm (n:=n) (by omega) (I:=idM n) (zfo n).len (zfo n).row (λi j hi hj=>zpo hi hj);obtain⟨ps0,L,hLm,tc⟩:=jcq (n:=n) hsq.mat (by omega) (by rw[hsq.len];omega) (λi hi=>hsq.cols i (by rw[hsq.len]at hi;exact hi));have hM2:=zkn (H:=[]) hLm;have hH2:zad (effs (zan [] 0) 0 L) (List.replicate L.length none)=L.map (renB (zan [] 0)):=zgz (H:=[]) (zan [] 0) (λi=>zcb 0 i) L [];simp only[qM,qN]at hM2;have c1:qZ [a]=true:=by simp only[qZ,hsq.closed,qV]
 have hI:(matC (idM n)).closed=true:=rfl;have hlen:=hsq.len;obtain⟨ar,ac,hae,hal,har⟩:=hsq.mat;subst hae;rw[hlen]at hsq t1 t2 tc c1 ⊢;refine oF o23 ?_;simp only[c23,r23_0,r23_1,SS,reduceCtorEq,reduceIte];refine zaa t1 ?_ c1;simp only[SS,reduceIte,qQ];simp only[r23_2,SS,reduceIte,qQ];refine⟨λhne=>absurd rfl hne,λ_=>?_⟩;simp only[r23_4,SS,reduceCtorEq,reduceIte,qQ];refine zaa t2 ?_ c1;simp only[SS,fC,reduceIte,qQ];simp only[r23_6,SS,reduceCtorEq,reduceIte,qQ];refine zdz tc c1 ?_;simp only[zay,SS,reduceIte,qQ,AV.ren,zcb,qT,hH2];generalize L.map (renB (zan [] 0))=H2 at*;generalize (ps0.map λp=>(0+p.1,p.2))=ps at*;simp only[r23_7,SS,reduceCtorEq,reduceIte,qQ];refine zaa t3 ?_;simp only[SS,reduceIte,qQ,qJ,qK];obtain⟨vs,hfz,hmv⟩:=jbi (cap:=some n) hM2;rw[hlen]at hfz hmv;have hsq0:Sq n M0 (.vec vs n (some n)):=⟨hmv,hlen,hst.shM.row,h1,h8⟩
 refine W.weak (ztf 0 3 (qU _) (qE _) (λi cs h=>absurd h (by omega))) ?_
 refine zaf (λk E H=>∃M T av,Ends n M' T' k M T/\LState n (16^n) (8*16^n) M0 M T/\Sq n M av/\E 6=av/\E 7=matC T/\H=[]) (n:=k0)
  ⟨M0,idM n,_,hE,hst,hsq0,?_,?_,rfl⟩ ?_
 ·unfold frzE;simp only[UU,qQ,reduceIte];rw[if_neg (by simp[AV.under]),hfz];rfl
 ·unfold frzE;simp only[UU,qQ,reduceIte];rfl
 rintro k E H ⟨M,T,av,hEn,hL,hsM,e6,e7,rfl⟩;refine wM ?_;obtain⟨hbM,hbT⟩:=zlk h1 h5 hpos ha hL
 have hA200:(bigK (16^n) (8*16^n)).toNat<=2^200:=by
  have:=(qts h1 h5).2;have e:((2^200:Nat):Int)=(2:Int)^200:=Int.natCast_pow 2 200;omega
 have hTsq:Sq n T (matC T):=zug hL.shT ⟨h1,h8⟩ hbT (by
  exact Nat.lt_trans jer qvu)
 have cM:qZ [av]=true:=by simp only[qZ,hsM.closed,qV]
 have next:∀U,Shp n U->Bnd (zms) U->Rt 62 [av,matC U] [] (matC (cgM n M U)) []/\Rt 63 [matC T,matC U] [] (matC (mulM n T U)) []/\Sq n U (matC U):=by
  intro U hU hbU
  have hUsq:=zug hU ⟨h1,h8⟩ hbU (by
   exact Nat.lt_trans jbh qvu)
  exact⟨qgo hsM hUsq hbM hbU (jeo hA200 (qU _)),zuv hTsq hUsq ⟨hbT,hbU,jep (qU _) (qU _)⟩,hUsq⟩
 have y1:1<=zms:=qtt;rcases qnq h8 hK1 (Int.le_refl _) hL hEn with⟨hok,rfl,rfl⟩ | ⟨k',i,j,rfl,hc,hL',hE'⟩ | ⟨k',i,rfl,hc,hL',hE'⟩
 ·have tS:=jbd (ds:=[]) hsM hF hbM (qU _) hL.pos.pos (zxu hok)
  have hIn:∀i j,In64 (ent M i j):=by
   intro i j;by_cases h:i<n/\j<n
   ·have:=hred.entry h.1 h.2;have e:rowF M i j=ent M i j:=rfl;unfold In64;omega
   ·rw[hL.shM.out (by omega)];unfold In64;omega
  have tI:=qzp hsM hIn;simp only[l23_0,r23_8,SS,reduceCtorEq,reduceIte,e6];refine zaa tS ?_ cM;simp only[SS,reduceIte,qQ,qJ,qK];simp only[r23_9,SS,fC,reduceIte,qQ];simp only[r23_10,SS,reduceIte,qQ,e6];refine zaa tI ?_ cM;simp only[SS,reduceIte,qQ,qJ,qK];simp only[r23_11,SS,reduceIte,qQ,e7];exact dR
 ·have hi:=hc.hi;have hj:=hc.hj
  have hnb:(zgo (stg (rowF M) j i j) (lead (rowF M) (j+1))).natAbs<=zms:=by
   have h2:=jay (l:=stg (rowF M) j i j) (hL.pos.pos (j+1) (by omega));have h3:=(qns hF hbM (qU n) hL.pos.pos (i:=i) (j:=j) (by omega)).2;have h4:=(qnv h1 h5).2;have h5':=jeq;omega
  obtain⟨tC,tP,hUsq⟩:=next (zil n M i j) (qtw (by omega)) (qtu (by omega) hi y1 hnb)
  have tS:=jbd (ds:=[]) hsM hF hbM (qU _) hL.pos.pos (qat hc);have hcg:=zug hL'.shM ⟨h1,h8⟩ (zlk h1 h5 hpos ha hL').1 (qG (hF.all (k:=0) (qE _)).1 hF.lt);have c2:qZ [av,matC (zil n M i j)]=true:=by simp only[qZ,hsM.closed,hUsq.closed,qV]
  have c3:qZ [matC T,matC (zil n M i j)]=true:=rfl;simp only[l23_0,r23_8,SS,reduceCtorEq,reduceIte,e6];refine zaa tS ?_ cM;simp only[SS,reduceIte,qQ,qJ,qK];simp only[r23_9,SS,fC,reduceIte,qQ];simp only[r23_12,SS,reduceIte,qQ,e6];refine zaa tC ?_ c2;simp only[SS,reduceIte,qQ,e7];refine zaa tP ?_ c3;simp only[SS,reduceIte,qQ];exact⟨k',_,_,by omega,⟨_,_,_,hE',hL',hcg,by simp only[UU,qQ,reduceIte],by simp only[UU,qQ,reduceIte],rfl⟩,.refl⟩
 ·have hi:=hc.hi;have h0:=hc.h0;obtain⟨tC,tP,hUsq⟩:=next (zlj n i) (qnw hi) (qtv hi y1)
  have tS:=jbd (ds:=[]) hsM hF hbM (qU _) hL.pos.pos (qgq hc);have hcg:=zug hL'.shM ⟨h1,h8⟩ (zlk h1 h5 hpos ha hL').1 (qG (hF.all (k:=0) (qE _)).1 hF.lt);have c2:qZ [av,matC (zlj n i)]=true:=by simp only[qZ,hsM.closed,hUsq.closed,qV]
  have c3:qZ [matC T,matC (zlj n i)]=true:=rfl;simp only[l23_0,r23_8,SS,reduceCtorEq,reduceIte,e6];refine zaa tS ?_ cM;simp only[SS,reduceIte,qQ,qJ,qK];simp only[r23_9,SS,fC,reduceIte,qQ];simp only[r23_12,SS,reduceIte,qQ,e6];refine zaa tC ?_ c2;simp only[SS,reduceIte,qQ,e7];refine zaa tP ?_ c3;simp only[SS,reduceIte,qQ];exact⟨k',_,_,by omega,⟨_,_,_,hE',hL',hcg,by simp only[UU,qQ,reduceIte],by simp only[UU,qQ,reduceIte],rfl⟩,.refl⟩
theorem zuw:FitN 8 BIG 16:=⟨by decide,by decide +kernel⟩
theorem zxv{n:Nat}{M:List (List Int)}(h:SmallG n M):Bnd 16 M:=by
 intro i j;have:=h.bnd i j;omega
theorem qau{n:Nat}{M:List (List Int)}{ds:List Int}(hS:Shp n M)(hsy:∀i j,i<n->j<n->ent M i j=ent M j i)(hds:zds BIG M n=some ds):valZ M ds=0↔∀k,k<n+1->0<lead (rowF M) k:=by
 have hsb:=(znk hS).2 (λi j hi hj=>hsy i j hi hj);constructor
 ·intro hv
  have hdf:defB M ds=true:=by
   unfold valZ at hv;rw[hsb]at hv;cases e:defB M ds with
   |true=>rfl
   |false=>rw[e]at hv;simp at hv
  unfold defB at hdf;rw[hsb,xY,zpk,zdg hds]at hdf;intro k hk;exact(qle hds n (qU _) hdf).1 k (by omega)
 ·intro hp
  have hdf:defB M ds=true:=by
   unfold defB;rw[hsb,xY,zpk,zdg hds];intro t ht;rw[ztx hds (λk hk=>hp k (by omega)) t ht];exact hp (t+1) (by omega)
  unfold valZ;rw[hsb,hdf];rfl
theorem jgl{n:Nat}{M:List (List Int)}{a:AV}(hG:SmallG n M)(ha:ImV M a)(hn:1<=n/\n<=8):Rt 69 [a] [] (.bool (decide (zjd n M))) []:=by
 have hS:=hG.shp;have hb:=zxv hG;have hsq:=zug hS hn hb (qG (zuw.all (k:=0) (qE _)).1 zuw.lt);have t0:=mOf (n:=n) ha (by omega) (by rw[hS.len];omega) (λi hi=>hS.row i (by rw[hS.len]at hi;exact hi));obtain⟨ds,hds,hdf⟩:=znl zuw hb n hn.2;have hds':zkk BIG M=some ds:=by unfold zkk;rw[hS.len];exact hds
 obtain⟨d0,hd0,hd0f⟩:=zpl (B:=BIG) zuw.one (λk hk=>(zuw.all (k:=k) (by omega)).2) hS hb;have hd0B:d0.natAbs<BIG:=by have:=(zuw.all hn.2).1;have:=zuw.lt;omega
 have t1:=zpd zdj hsq hds';have t2:=mDet zdj hsq.mat (by rw[hsq.len];omega) (λi hi=>by rw[hsq.len]at hi ⊢;exact hsq.cols i hi) hd0;obtain⟨v3,hv3,t3⟩:=zfb 10000 (by omega) (by omega);have t4:=zCmp (zbk hd0B) hv3;have hviff:=qau hS hG.sym hds;have hcl:=hsq.closed;have c1:qZ [a]=true:=by simp only[qZ,ha.closed,qV]
 have c2:qZ [matC M]=true:=by simp only[qZ,hcl,qV]
 have c3:qZ [intV d0,v3]=true:=by simp only[qZ,(zbk hd0B).closed,hv3.closed,qV]
 refine oF o69 ?_;simp only[c69,r69_0,r69_1,SS,reduceCtorEq,reduceIte];refine zaa t0 ?_ c1;simp only[SS,reduceIte,qQ];simp only[r69_2,SS,reduceIte,qQ];refine zaa t1 ?_ c2;simp only[SS,fC,reduceIte,qQ];refine⟨λh1=>?_,λh1=>?_⟩
 ·have hp:=hviff.1 h1;have hd0e:d0=lead (rowF M) n:=zgm hS (λt ht=>by have:=hp t (by omega);omega) hd0;refine zaa t2 ?_ c2 (zbk hd0B).closed;simp only[SS,fC,reduceIte,qQ];refine zaa t3 ?_ rfl hv3.closed;simp only[SS,fC,reduceIte,qQ];refine zaa t4 ?_ c3;simp only[SS,fC,reduceIte,qQ]
  have e:decide ((if d0<10000 then(-1:Int)else if d0=10000 then 0 else 1)<=0)=decide (zjd n M):=by
   rw[decide_eq_decide];unfold zjd;rw[<-hd0e];constructor
   ·intro h;refine⟨hp,?_⟩;split at h
    ·omega
    ·split at h<;>omega
   ·rintro⟨_,h⟩;split
    ·omega
    ·split<;>omega
  rw[e];exact dR
 ·have hng:decide (zjd n M)=false:=decide_eq_false (λhg=>h1 (hviff.2 hg.1));have d1:decide (valZ M ds=0)=false:=decide_eq_false h1;rw[hng];simp only[d1];exact dR
end Go.Proofs.YtpflahgcdgdkjaaGreatDoor
namespace Go.Proofs.YtpflahgcdgdkjaaGreatDoor
open Nat renaming reduceEqDiff -> qQ, le_refl -> qU, reduceAdd -> qB, reduceLeDiff -> qC, sub_self -> qD, zero_le -> qE, lt_of_le_of_lt -> qG, zero_add -> xQ, lt_or_ge -> xA, mul_one -> xC
open List renaming getD_eq_getElem?_getD -> qX, getElem?_cons_zero -> qJ, getElem?_cons_succ -> qK, getElem?_append_right -> qY, getElem?_append_left -> qA, getElem?_set_ne -> qH, take_of_length_le -> qI, nil_append -> qM, length_nil -> qN, replicate_zero -> qO, getElem?_set -> qS, length_set -> xX, append_nil -> xZ, getElem?_eq_none -> xJ, set_append_right -> xK, drop_zero -> xW, map_congr_left -> xV
open Go.AL.AV.closed renaming closedL -> qZ
open Int renaming toNat_natCast -> qW, tmod_eq_emod_of_nonneg -> qR, emod_lt_of_pos -> xU, emod_nonneg -> xD
open Bool renaming and_self -> qV
open Option renaming getD_some -> xB
open Go Go.AL Go.Proofs Go.Limb
theorem qvw{σ:Nat->Nat}{K N n:Nat}{rows:List (List Int)}(hσ:∀j,σ j=K+j):(bH N n rows).map (renB σ)=bO K N n rows:=by
 unfold bH bO;rw[List.map_cons,List.map_map];congr 1
 ·show some ((outS N n rows.length).map (AV.ren σ))=_
  congr 1;unfold outS outO;rw[List.map_append];congr 1
  ·unfold zpu zjx;rw[List.map_map];refine xV λk _=>?_
   show AV.sl (σ (k+1)) 0 n 1 (some n)= .sl (K+k+1) 0 n 1 (some n)
   rw[hσ];rfl
  ·rw[List.map_replicate];rfl
 ·refine xV λr _=>?_
  show some ((i64z r).map (AV.ren σ))=some (i64z r)
  rw[zaw _ _ (zqi r)]
structure ChainR(n:Nat)(fork:Bool)(i:Nat)(R:List (List Int)):Prop where
 len:R.length=i
 row:∀s,s<i->(R.getD s []).length=n
 ent:∀s t,s<i->t<n->ent R s t=if s=t then 2 else if t<i/\(zcm n fork s t=true\/zcm n fork t s=true)then -1 else 0
def zqk(n:Nat)(fork:Bool)(i:Nat):Int:=if fork=true/\i+1=n/\3<n then(i:Int)-2 else(i:Int)-1
theorem zda{n i k:Nat}{fork:Bool}:zcm n fork i k=true↔(k:Int)=zqk n fork i:=by
 unfold zcm zqk;split
 ·rw[beq_iff_eq];omega
 ·rw[beq_iff_eq];omega
theorem zeb{n i k:Nat}{fork:Bool}(h:zcm n fork i k=true):k<i:=by
 have:=zda.1 h;unfold zqk at this;split at this<;>omega
theorem qgr{n:Nat}{fork:Bool}{R:List (List Int)}(h:ChainR n fork n R):R=zcj n fork:=by
 refine zub (n:=n) ⟨h.len,h.row⟩ (zct _ _) λs t hs ht=>?_
 rw[h.ent s t hs ht];unfold zcj;rw[zco hs ht];by_cases e:s=t
 ·rw[if_pos e,if_pos e]
 ·rw[if_neg e,if_neg e];by_cases e2:zcm n fork s t=true\/zcm n fork t s=true
  ·rw[if_pos ⟨ht,e2⟩,if_pos e2]
  ·rw[if_neg (λx=>e2 x.2),if_neg e2]
def zao(n i:Nat):List Int:=(List.replicate n 0).set i 2
theorem qdu{R:List (List Int)}{i:Nat}(hl:R.length=i)(r:List Int)(s t:Nat):ent (R++[r]) s t=if s=i then r.getD t 0 else ent R s t:=by
 unfold ent;by_cases e:s=i
 ·rw[if_pos e,e,qX (l:=R++[r]),qY (by omega),hl,qD];rfl
 ·rw[if_neg e];rcases xA s i with h | h
  ·rw[qX (l:=R++[r]),qA (by omega),<-qX]
  ·rw[qX (l:=R++[r]),xJ (by simp;omega),qX (l:=R),xJ (by omega)]
theorem qnx{n i t:Nat}(hi:i<n):(zao n i).getD t 0=if t=i then 2 else 0:=by
 unfold zao;rw[qX,qS];by_cases e:i=t
 ·rw[if_pos e,if_pos (by simpa using hi),if_pos e.symm];rfl
 ·rw[if_neg e,if_neg (λx=>e x.symm),List.getElem?_replicate];split<;>rfl
theorem zhj{n i:Nat}{fork:Bool}{R:List (List Int)}(h:ChainR n fork i R)(hi:i<n)(hno:∀t,zcm n fork i t=false):ChainR n fork (i+1) (R++[zao n i]):=by
 refine⟨by simp[h.len],λs hs=>?_,λs t hs ht=>?_⟩
 ·rcases(by omega:s<i\/s=i)with e | e
  ·rw[qX,qA (by rw[h.len];exact e),<-qX];exact h.row s e
  ·rw[e,qX,qY (by rw[h.len];omega),h.len,qD];simp[zao]
 ·rw[qdu h.len];by_cases e:s=i
  ·rw[if_pos e,qnx hi];subst e;by_cases e2:t=s
   ·rw[if_pos e2,if_pos e2.symm]
   ·rw[if_neg e2,if_neg (λx=>e2 x.symm),if_neg];rintro⟨h1,h2 | h2⟩
    ·rw[hno]at h2;cases h2
    ·have:=zeb h2;omega
  ·rw[if_neg e,h.ent s t (by omega) ht];by_cases e2:s=t
   ·rw[if_pos e2,if_pos e2]
   ·rw[if_neg e2,if_neg e2];by_cases e3:t<i/\(zcm n fork s t=true\/zcm n fork t s=true)
    ·rw[if_pos e3,if_pos ⟨by omega,e3.2⟩]
    ·rw[if_neg e3,if_neg];rintro⟨h1,h2⟩;rcases(by omega:t<i\/t=i)with e4 | e4
     ·exact e3 ⟨e4,h2⟩
     ·rw[e4]at h2;rcases h2 with h2 | h2
      ·have:=zeb h2;omega
      ·rw[hno]at h2;cases h2
theorem zjb{n i k:Nat}{fork:Bool}{R:List (List Int)}(h:ChainR n fork i R)(hi:i<n)(hk:zcm n fork i k=true):ChainR n fork (i+1) (setM (setM (R++[zao n i]) i k (-1)) k i (-1)):=by
 have hki:=zeb hk
 have hone:∀t,zcm n fork i t=true↔t=k:=by
  intro t;rw[zda,<-zda.1 hk];omega
 have hl:(R++[zao n i]).length=i+1:=by simp[h.len]
 have hrow:∀s,s<i+1->((R++[zao n i]).getD s []).length=n:=by
  intro s hs;rcases(by omega:s<i\/s=i)with e | e
  ·rw[qX,qA (by rw[h.len];exact e),<-qX];exact h.row s e
  ·rw[e,qX,qY (by rw[h.len];omega),h.len,qD];simp[zao]
 have hset:∀(X:List (List Int)) (a b:Nat) (z:Int),(∀s,s<i+1->(X.getD s []).length=n)->X.length=i+1->a<i+1->∀s,s<i+1->((setM X a b z).getD s []).length=n:=by
  intro X a b z hX hXl ha s hs;unfold setM;rw[qX,qS];by_cases e:a=s
  ·subst e;rw[if_pos rfl,if_pos (by omega),xB,xX];exact hX a hs
  ·rw[if_neg e,<-qX];exact hX s hs
 have h1l:(setM (R++[zao n i]) i k (-1)).length=i+1:=by rw[zcu];exact hl
 have h1r:=hset _ i k (-1) hrow hl (by omega);refine⟨by rw[zcu];exact h1l,hset _ k i (-1) h1r h1l (by omega),λs t hs ht=>?_⟩;rw[zhb (by omega) (by rw[h1r k (by omega)];exact hi),zhb (by omega) (by rw[hrow i (by omega)];omega),qdu h.len];by_cases a1:s=k/\t=i
 ·obtain⟨rfl,rfl⟩:=a1;rw[if_pos ⟨rfl,rfl⟩,if_neg (by omega),if_pos ⟨by omega,.inr hk⟩]
 ·rw[if_neg a1];by_cases a2:s=i/\t=k
  ·obtain⟨rfl,rfl⟩:=a2;rw[if_pos ⟨rfl,rfl⟩,if_neg (by omega),if_pos ⟨by omega,.inl hk⟩]
  ·rw[if_neg a2];by_cases e:s=i
   ·rw[if_pos e,qnx hi];subst e;by_cases e2:t=s
    ·rw[if_pos e2,if_pos e2.symm]
    ·rw[if_neg e2,if_neg (λx=>e2 x.symm),if_neg];rintro⟨h1,h2 | h2⟩
     ·exact a2 ⟨rfl,(hone t).1 h2⟩
     ·have:=zeb h2;omega
   ·rw[if_neg e,h.ent s t (by omega) ht];by_cases e2:s=t
    ·rw[if_pos e2,if_pos e2]
    ·rw[if_neg e2,if_neg e2];by_cases e3:t<i/\(zcm n fork s t=true\/zcm n fork t s=true)
     ·rw[if_pos e3,if_pos ⟨by omega,e3.2⟩]
     ·rw[if_neg e3,if_neg];rintro⟨h1,h2⟩;rcases(by omega:t<i\/t=i)with e4 | e4
      ·exact e3 ⟨e4,h2⟩
      ·rw[e4]at h2;rcases h2 with h2 | h2
       ·have:=zeb h2;omega
       ·exact a1 ⟨(hone s).1 h2,e4⟩
set_option maxHeartbeats 4000000 in
theorem qvx{n:Nat}{fork:Bool}(hn:1<=n/\n<=8):Rt 66 [.int .i64 (n:Nat),.bool fork] [] (.sl 0 0 n 1 (some n)) (bH n n (zcj n fork)):=by
 refine oF o66 ?_;simp only[c66,r66_0,r66_1,SS,reduceCtorEq,reduceIte,qQ,qW];refine⟨by decide,⟨by omega,by omega,by omega,by omega⟩,?_⟩;simp only[r66_2,SS,reduceIte,qQ];have hb0:[some (List.replicate n (AV.vec [] 0 (some 0)))]=bH n n []:=rfl;rw[hb0]
 refine zaf (λq E H=>∃i R,i+q=n/\ChainR n fork i R/\H=bH n n R/\E 0= .int .i64 (n:Nat)/\E 1= .bool fork/\E 5= .sl 0 0 n 1 (some n)/\E 11= .int .i64 (n:Nat)/\E 12= .int .i64 (i:Nat)) (n:=n)
  ⟨0,[],by omega,⟨rfl,λs h=>absurd h (by omega),λs t h=>absurd h (by omega)⟩,rfl,by simp only[UU,qQ],by simp only[UU,qQ],by simp only[UU,qQ,reduceIte],by simp only[UU,qQ,reduceIte],by simp only[UU,qQ,reduceIte];rfl⟩ ?_
 rintro q E H ⟨i,R,hiq,hR,rfl,e0,e1,e5,e11,e12⟩;refine wM ?_;simp only[l66_0,r66_3,SS,reduceCtorEq,reduceIte,e11,e12];refine⟨λhlt=>?_,λhge=>?_⟩
 ·obtain⟨q,rfl⟩:∃q',q=q'+1:=⟨q-1,by omega⟩
  have hi:i<n:=by omega
  have hRl:=hR.len;have w5:=wS1 i (by omega);have w6:IntKind.i64.wrap ((i:Int)-1)=(i:Int)-1:=w64 (by omega) (by omega);have w7:IntKind.i64.wrap ((i:Int)-2)=(i:Int)-2:=w64 (by omega) (by omega);have w8:IntKind.i64.wrap ((n:Int)-1)=(n:Int)-1:=w64 (by omega) (by omega);have hbl:(bH n n R).length=i+1:=by rw[qct,hRl]
  have go:getB (bH n n R++[some (i64z (List.replicate n 0))]) 0=some (outS n n i):=by
   have:getB (bH n n R) 0=some (outS n n i):=by rw[zec,hRl]
   exact this
  have gol:=zew (N:=n) (n:=n) (i:=i) (by omega);have hnew:=qcu (N:=n) (n:=n) (rows:=R) (List.replicate n 0) (by omega);rw[hRl]at hnew;simp only[r66_4,r66_5,SS,reduceCtorEq,reduceIte,qQ,e0,e5,e12,qW,hbl,zkw,go,gol];refine⟨by decide,⟨by omega,by omega,by omega,by omega⟩,⟨by omega,by omega⟩,by omega,?_⟩;rw[hnew];have hrl:(R++[List.replicate n 0]).length=i+1:=by simp[hRl]
  have g0:getB (bH n n (R++[List.replicate n 0])) 0=some (outS n n (i+1)):=by rw[zec,hrl]
  have gl:=zew (N:=n) (n:=n) (i:=i+1) (by omega);have gg:=zex (N:=n) (n:=n) (i:=i+1) (k:=i) (by omega);have gr:=zfy (N:=n) (n:=n) (i:=i) (rows:=R++[List.replicate n 0]) (by omega)
  have grr:(R++[List.replicate n 0]).getD i []=List.replicate n 0:=by
   rw[qX,qY (by omega),hRl,qD];simp
  rw[grr]at gr
  have eset:(R++[List.replicate n 0]).set i ((List.replicate n 0).set i 2)=R++[zao n i]:=by
   rw[xK _ _ (by omega),hRl,qD];rfl
  simp only[r66_6,SS,fC,reduceIte,qQ,e5,qW,g0,gl,gg,gr,zbe,List.length_replicate,zdu,zhl,eset];refine⟨⟨by omega,by omega⟩,by omega,⟨by omega,by omega⟩,by omega,?_⟩;simp only[r66_7,SS,reduceIte,qQ,w6];have hrl2:(R++[zao n i]).length=i+1:=by simp[hRl]
  have k0:getB (bH n n (R++[zao n i])) 0=some (outS n n (i+1)):=by rw[zec,hrl2]
  have tailS:∀k:Nat,zcm n fork i k=true->k<i/\outS n n (i+1)=outS n n (i+1):=λk h=>⟨zeb h,rfl⟩
  rcases(by cases fork<;>simp<;>omega:fork=false\/(fork=true/\i+1≠n)\/(fork=true/\i+1=n/\¬3<n)\/(fork=true/\i+1=n/\3<n))with hf | ⟨hf,h1⟩ | ⟨hf,h1,h2⟩ | ⟨hf,h1,h2⟩
  ·subst hf;have hprev:zqk n false i=(i:Int)-1:=by unfold zqk;rw[if_neg (by simp)]
   simp only[r66_8,SS,fC,reduceCtorEq,reduceIte,qQ,e0,e1,w8];simp only[r66_10,SS,reduceIte,qQ];refine⟨λhk0=>?_,λhk0=>?_⟩
   ·obtain⟨k,hk⟩:∃k:Nat,(i:Int)-1=(k:Int):=⟨((i:Int)-1).toNat,by omega⟩
    have hlk:zcm n false i k=true:=zda.2 (by rw[hprev];exact hk.symm);have hki:=zeb hlk;have hnx:=zjb hR hi hlk;have gk:=zex (N:=n) (n:=n) (i:=i+1) (k:=k) (by omega);have r1:=zfy (N:=n) (n:=n) (i:=i) (rows:=R++[zao n i]) (by omega);have r2:=zfy (N:=n) (n:=n) (i:=k) (rows:=setM (R++[zao n i]) i k (-1)) (by rw[zcu];omega)
    have l1:((R++[zao n i]).getD i []).length=n:=by
     rw[qX,qY (by omega),hRl,qD];simp[zao]
    have l2:((setM (R++[zao n i]) i k (-1)).getD k []).length=n:=by
     unfold setM;rw[qX,qH (by omega),qA (by omega),<-qX];exact hR.row k hki
    have s1:=zhl (N:=n) (n:=n) (i:=i) (rows:=R++[zao n i]) (((R++[zao n i]).getD i []).set k (-1));have s1e:(R++[zao n i]).set i (((R++[zao n i]).getD i []).set k (-1))=setM (R++[zao n i]) i k (-1):=rfl;rw[s1e]at s1;have s2:=zhl (N:=n) (n:=n) (i:=k) (rows:=setM (R++[zao n i]) i k (-1)) (((setM (R++[zao n i]) i k (-1)).getD k []).set i (-1));have s2e:(setM (R++[zao n i]) i k (-1)).set k (((setM (R++[zao n i]) i k (-1)).getD k []).set i (-1))=setM (setM (R++[zao n i]) i k (-1)) k i (-1):=rfl;rw[s2e]at s2;simp only[r66_11,SS,fC,reduceIte,qQ,e5,hk,qW,k0,gl,gg,gk,r1,l1,zbe,zdu,s1,r2,l2,s2];refine⟨⟨by omega,by omega⟩,by omega,⟨by omega,by omega⟩,by omega,⟨by omega,by omega⟩,by omega,⟨by omega,by omega⟩,by omega,rfl,?_⟩;simp only[r66_12,SS,reduceIte,qQ,e12,w5];refine⟨q,_,_,by omega,⟨i+1,_,by omega,hnx,rfl,?_,?_,?_,?_,?_⟩,.refl⟩
    all_goals simp only[UU,qQ,reduceIte, *]
   ·have hno:∀t,zcm n false i t=false:=by
     intro t;cases hb:zcm n false i t with
     |false=>rfl
     |true=>have:=zda.1 hb;rw[hprev]at this;omega
    have hnx:=zhj hR hi hno;simp only[r66_12,SS,reduceIte,qQ,e12,w5];refine⟨q,_,_,by omega,⟨i+1,_,by omega,hnx,rfl,?_,?_,?_,?_,?_⟩,.refl⟩
    all_goals simp only[UU,qQ,reduceIte, *]
  ·subst hf;have hprev:zqk n true i=(i:Int)-1:=by unfold zqk;rw[if_neg (λe=>h1 e.2.1)]
   have d1:decide ((i:Int)=(n:Int)-1)=false:=dF;simp only[r66_8,SS,fC,reduceCtorEq,reduceIte,qQ,e0,e1,w8,d1];simp only[r66_10,SS,reduceIte,qQ];refine⟨λhk0=>?_,λhk0=>?_⟩
   ·obtain⟨k,hk⟩:∃k:Nat,(i:Int)-1=(k:Int):=⟨((i:Int)-1).toNat,by omega⟩
    have hlk:zcm n true i k=true:=zda.2 (by rw[hprev];exact hk.symm);have hki:=zeb hlk;have hnx:=zjb hR hi hlk;have gk:=zex (N:=n) (n:=n) (i:=i+1) (k:=k) (by omega);have r1:=zfy (N:=n) (n:=n) (i:=i) (rows:=R++[zao n i]) (by omega);have r2:=zfy (N:=n) (n:=n) (i:=k) (rows:=setM (R++[zao n i]) i k (-1)) (by rw[zcu];omega)
    have l1:((R++[zao n i]).getD i []).length=n:=by
     rw[qX,qY (by omega),hRl,qD];simp[zao]
    have l2:((setM (R++[zao n i]) i k (-1)).getD k []).length=n:=by
     unfold setM;rw[qX,qH (by omega),qA (by omega),<-qX];exact hR.row k hki
    have s1:=zhl (N:=n) (n:=n) (i:=i) (rows:=R++[zao n i]) (((R++[zao n i]).getD i []).set k (-1));have s1e:(R++[zao n i]).set i (((R++[zao n i]).getD i []).set k (-1))=setM (R++[zao n i]) i k (-1):=rfl;rw[s1e]at s1;have s2:=zhl (N:=n) (n:=n) (i:=k) (rows:=setM (R++[zao n i]) i k (-1)) (((setM (R++[zao n i]) i k (-1)).getD k []).set i (-1));have s2e:(setM (R++[zao n i]) i k (-1)).set k (((setM (R++[zao n i]) i k (-1)).getD k []).set i (-1))=setM (setM (R++[zao n i]) i k (-1)) k i (-1):=rfl;rw[s2e]at s2;simp only[r66_11,SS,fC,reduceIte,qQ,e5,hk,qW,k0,gl,gg,gk,r1,l1,zbe,zdu,s1,r2,l2,s2];refine⟨⟨by omega,by omega⟩,by omega,⟨by omega,by omega⟩,by omega,⟨by omega,by omega⟩,by omega,⟨by omega,by omega⟩,by omega,rfl,?_⟩;simp only[r66_12,SS,reduceIte,qQ,e12,w5];refine⟨q,_,_,by omega,⟨i+1,_,by omega,hnx,rfl,?_,?_,?_,?_,?_⟩,.refl⟩
    all_goals simp only[UU,qQ,reduceIte, *]
   ·have hno:∀t,zcm n true i t=false:=by
     intro t;cases hb:zcm n true i t with
     |false=>rfl
     |true=>have:=zda.1 hb;rw[hprev]at this;omega
    have hnx:=zhj hR hi hno;simp only[r66_12,SS,reduceIte,qQ,e12,w5];refine⟨q,_,_,by omega,⟨i+1,_,by omega,hnx,rfl,?_,?_,?_,?_,?_⟩,.refl⟩
    all_goals simp only[UU,qQ,reduceIte, *]
  ·subst hf;have hprev:zqk n true i=(i:Int)-1:=by unfold zqk;rw[if_neg (λe=>h2 e.2.2)]
   have d1:decide ((i:Int)=(n:Int)-1)=true:=dT;have d2:decide ((3:Int)<(n:Nat))=false:=dF;simp only[r66_8,SS,fC,reduceCtorEq,reduceIte,qQ,e0,e1,w8,d1,d2];simp only[r66_10,SS,reduceIte,qQ];refine⟨λhk0=>?_,λhk0=>?_⟩
   ·obtain⟨k,hk⟩:∃k:Nat,(i:Int)-1=(k:Int):=⟨((i:Int)-1).toNat,by omega⟩
    have hlk:zcm n true i k=true:=zda.2 (by rw[hprev];exact hk.symm);have hki:=zeb hlk;have hnx:=zjb hR hi hlk;have gk:=zex (N:=n) (n:=n) (i:=i+1) (k:=k) (by omega);have r1:=zfy (N:=n) (n:=n) (i:=i) (rows:=R++[zao n i]) (by omega);have r2:=zfy (N:=n) (n:=n) (i:=k) (rows:=setM (R++[zao n i]) i k (-1)) (by rw[zcu];omega)
    have l1:((R++[zao n i]).getD i []).length=n:=by
     rw[qX,qY (by omega),hRl,qD];simp[zao]
    have l2:((setM (R++[zao n i]) i k (-1)).getD k []).length=n:=by
     unfold setM;rw[qX,qH (by omega),qA (by omega),<-qX];exact hR.row k hki
    have s1:=zhl (N:=n) (n:=n) (i:=i) (rows:=R++[zao n i]) (((R++[zao n i]).getD i []).set k (-1));have s1e:(R++[zao n i]).set i (((R++[zao n i]).getD i []).set k (-1))=setM (R++[zao n i]) i k (-1):=rfl;rw[s1e]at s1;have s2:=zhl (N:=n) (n:=n) (i:=k) (rows:=setM (R++[zao n i]) i k (-1)) (((setM (R++[zao n i]) i k (-1)).getD k []).set i (-1));have s2e:(setM (R++[zao n i]) i k (-1)).set k (((setM (R++[zao n i]) i k (-1)).getD k []).set i (-1))=setM (setM (R++[zao n i]) i k (-1)) k i (-1):=rfl;rw[s2e]at s2;simp only[r66_11,SS,fC,reduceIte,qQ,e5,hk,qW,k0,gl,gg,gk,r1,l1,zbe,zdu,s1,r2,l2,s2];refine⟨⟨by omega,by omega⟩,by omega,⟨by omega,by omega⟩,by omega,⟨by omega,by omega⟩,by omega,⟨by omega,by omega⟩,by omega,rfl,?_⟩;simp only[r66_12,SS,reduceIte,qQ,e12,w5];refine⟨q,_,_,by omega,⟨i+1,_,by omega,hnx,rfl,?_,?_,?_,?_,?_⟩,.refl⟩
    all_goals simp only[UU,qQ,reduceIte, *]
   ·have hno:∀t,zcm n true i t=false:=by
     intro t;cases hb:zcm n true i t with
     |false=>rfl
     |true=>have:=zda.1 hb;rw[hprev]at this;omega
    have hnx:=zhj hR hi hno;simp only[r66_12,SS,reduceIte,qQ,e12,w5];refine⟨q,_,_,by omega,⟨i+1,_,by omega,hnx,rfl,?_,?_,?_,?_,?_⟩,.refl⟩
    all_goals simp only[UU,qQ,reduceIte, *]
  ·subst hf;have hprev:zqk n true i=(i:Int)-2:=by unfold zqk;rw[if_pos ⟨rfl,h1,h2⟩]
   have d1:decide ((i:Int)=(n:Int)-1)=true:=dT;have d2:decide ((3:Int)<(n:Nat))=true:=dT;simp only[r66_8,SS,fC,reduceCtorEq,reduceIte,qQ,e0,e1,w8,d1,d2];simp only[r66_9,SS,reduceIte,qQ,w7];simp only[r66_10,SS,reduceIte,qQ];refine⟨λhk0=>?_,λhk0=>?_⟩
   ·obtain⟨k,hk⟩:∃k:Nat,(i:Int)-2=(k:Int):=⟨((i:Int)-2).toNat,by omega⟩
    have hlk:zcm n true i k=true:=zda.2 (by rw[hprev];exact hk.symm);have hki:=zeb hlk;have hnx:=zjb hR hi hlk;have gk:=zex (N:=n) (n:=n) (i:=i+1) (k:=k) (by omega);have r1:=zfy (N:=n) (n:=n) (i:=i) (rows:=R++[zao n i]) (by omega);have r2:=zfy (N:=n) (n:=n) (i:=k) (rows:=setM (R++[zao n i]) i k (-1)) (by rw[zcu];omega)
    have l1:((R++[zao n i]).getD i []).length=n:=by
     rw[qX,qY (by omega),hRl,qD];simp[zao]
    have l2:((setM (R++[zao n i]) i k (-1)).getD k []).length=n:=by
     unfold setM;rw[qX,qH (by omega),qA (by omega),<-qX];exact hR.row k hki
    have s1:=zhl (N:=n) (n:=n) (i:=i) (rows:=R++[zao n i]) (((R++[zao n i]).getD i []).set k (-1));have s1e:(R++[zao n i]).set i (((R++[zao n i]).getD i []).set k (-1))=setM (R++[zao n i]) i k (-1):=rfl;rw[s1e]at s1;have s2:=zhl (N:=n) (n:=n) (i:=k) (rows:=setM (R++[zao n i]) i k (-1)) (((setM (R++[zao n i]) i k (-1)).getD k []).set i (-1));have s2e:(setM (R++[zao n i]) i k (-1)).set k (((setM (R++[zao n i]) i k (-1)).getD k []).set i (-1))=setM (setM (R++[zao n i]) i k (-1)) k i (-1):=rfl;rw[s2e]at s2;simp only[r66_11,SS,fC,reduceIte,qQ,e5,hk,qW,k0,gl,gg,gk,r1,l1,zbe,zdu,s1,r2,l2,s2];refine⟨⟨by omega,by omega⟩,by omega,⟨by omega,by omega⟩,by omega,⟨by omega,by omega⟩,by omega,⟨by omega,by omega⟩,by omega,rfl,?_⟩;simp only[r66_12,SS,reduceIte,qQ,e12,w5];refine⟨q,_,_,by omega,⟨i+1,_,by omega,hnx,rfl,?_,?_,?_,?_,?_⟩,.refl⟩
    all_goals simp only[UU,qQ,reduceIte, *]
   ·have hno:∀t,zcm n true i t=false:=by
     intro t;cases hb:zcm n true i t with
     |false=>rfl
     |true=>have:=zda.1 hb;rw[hprev]at this;omega
    have hnx:=zhj hR hi hno;simp only[r66_12,SS,reduceIte,qQ,e12,w5];refine⟨q,_,_,by omega,⟨i+1,_,by omega,hnx,rfl,?_,?_,?_,?_,?_⟩,.refl⟩
    all_goals simp only[UU,qQ,reduceIte, *]
 ·have hin:i=n:=by omega
  subst hin;have e:=qgr hR;subst e;simp only[r66_13,SS,reduceIte,qQ,e5];exact kR
theorem jbk{P:Heap}{m o N n:Nat}{rows:List (List Int)}(hm:m<=o)(ho:P.length=o)(hN:rows.length=N)(hn:∀i,i<N->(rows.getD i []).length=n):frzI m (P++bO o N n rows) 3 (.sl o 0 N 1 (some N))=some (.vec (zcx n rows) N (some N)):=by
 have e0:outO o N n rows.length=zjx o n N:=by
  unfold outO;rw[hN,qD,qO,xZ]
 have key:(zjx o n N).mapM (frzI m (P++bO o N n rows) 2)=some (zcx n rows):=by
  have:zcx n rows=(List.range N).map λk=>AV.vec (i64z (rows.getD k [])) n (some n):=by
   refine List.ext_getElem (by simp[zcx,hN]) λk h1 h2=>?_
   simp only[zcx,List.getElem_map,List.getElem_range];have hk:k<rows.length:=by simpa[zcx]using h1
   rw[qX,List.getElem?_eq_getElem hk];rfl
  rw[this];unfold zjx;rw[List.mapM_map]
  have:∀l:List Nat,(∀k∈l,k<N)->l.mapM (λk=>frzI m (P++bO o N n rows) 2 (.sl (o+k+1) 0 n 1 (some n)))=some (l.map λk=>AV.vec (i64z (rows.getD k [])) n (some n)):=by
   intro l
   induction l with
   |nil=>intro _;rfl
   |cons k l ih=>
    intro h;have hk:=h k (by simp)
    have e:frzI m (P++bO o N n rows) 2 (.sl (o+k+1) 0 n 1 (some n))=some (.vec (i64z (rows.getD k [])) n (some n)):=by
     rw[frzI];have hl:=hn k hk;simp only[show¬o+k+1<m by omega,if_false,zmr ho (show k<rows.length by omega),need,xQ,xC,zbe,hl,qU,if_true,xW];rw[qI (by rw[zbe];omega),zuh];rfl
    rw[List.mapM_cons,e,ih (λx hx=>h x (by simp[hx]))];rfl
  exact this _ (λk hk=>List.mem_range.1 hk)
 rw[frzI];simp only[show¬o<m by omega,if_false,zga ho,e0,need,xQ,xC,zfp,qU,if_true,xW];rw[qI (by rw[zfp];omega),key];rfl
def latC(d k:Int)(l q:List Int)(c c2:Option Nat):List AV:=[.int .u8 d,.int .u8 k,.vec (i8z l) l.length c,.vec (i8z q) q.length c2]
def tP2(d k:Int)(l q:List Int)(c c2:Option Nat)(j:Nat):Heap:=[some (latC d k l q c c2),some (zdn l c j)]
theorem zme(d kd:Int)(l q:List Int)(c c2:Option Nat):qZ (latC d kd l q c c2)=true:=by
 simp only[latC,qZ,AV.closed,qV]
theorem zde(l:List Int)(c:Option Nat)(j:Nat):qZ (zdn l c j)=true:=by
 simp only[zdn,qZ,AV.closed,qV]
theorem qny{d kd:Int}{l q:List Int}{c c2:Option Nat}{j n:Nat}{M:List (List Int)}{E:Env}{Q:Post}(h:zle l)(hj:j<=l.length)(hn:1<=n/\n<=8)(hG:SmallG n M)
  (e5:E 5= .ptr 1 0) (e6:E 6= .int .i64 (n:Nat)) (e7:E 7= .sl 2 0 n 1 (some n))
  (hQ:∀E' H',E' 4=(if zjd n M then .vec (zcx n M) n (some n)else .sl 2 0 n 1 (some n))->H'=(if zjd n M then tP2 d kd l q c c2 j else tP2 d kd l q c c2 (zbl l j n)++bO 2 n n (diaM l j n 2))->Q .ret E' H'):
  Wg 0 74 (.seq (.seq (.reg r25_19 none) (.cond (.t 69) (.seq (.reg r25_20 none) .ret) .skip)) (.seq (.reg r25_21 none) .ret)) E (tP2 d kd l q c c2 j++bO 2 n n M) Q:=by
 refine W.weak (ztf 2 3 (qE _) (by simp[tP2,bO]) (λi cs hi hg=>?_)) ?_
 ·rcases(by omega:i=0\/i=1)with rfl | rfl
  ·obtain rfl:latC d kd l q c c2=cs:=by simpa[tP2]using hg
   exact zbg _ _ (zme ..)
  ·obtain rfl:zdn l c j=cs:=by simpa[tP2]using hg
   exact zbg _ _ (zde ..)
 have htk:(tP2 d kd l q c c2 j++bO 2 n n M).take 2=tP2 d kd l q c c2 j:=rfl;rw[htk];have hfz:=jbk (P:=tP2 d kd l q c c2 j) (m:=2) (o:=2) (qU _) rfl hG.shp.len hG.shp.row;have f5:frzE 2 3 (tP2 d kd l q c c2 j++bO 2 n n M) E 5= .ptr 1 0:=by unfold frzE;rw[e5,if_pos (by rfl)]
 have f6:frzE 2 3 (tP2 d kd l q c c2 j++bO 2 n n M) E 6= .int .i64 (n:Nat):=by unfold frzE;rw[e6,if_pos (by rfl)]
 have f7:frzE 2 3 (tP2 d kd l q c c2 j++bO 2 n n M) E 7= .vec (zcx n M) n (some n):=by unfold frzE;rw[e7,if_neg (by simp[AV.under]),hfz];rfl
 generalize frzE 2 3 (tP2 d kd l q c c2 j++bO 2 n n M) E=E1 at*
 have hIn:∀s t,In64 (ent M s t):=by
  intro s t;have:=hG.bnd s t;unfold In64;omega
 have hIm:ImV M (.vec (zcx n M) n (some n)):=znn hG.shp.len hG.shp.row hIn;have tG:=jgl hG hIm hn;have c7:qZ [.vec (zcx n M) n (some n)]=true:=by simp only[qZ,hIm.closed,qV]
 refine wM ?_;simp only[r25_19,SS,reduceIte,f7];refine zaa tG ?_ c7;simp only[SS,reduceIte,qQ];refine⟨λhb=>?_,λhb=>?_⟩
 ·have hng:¬zjd n M:=by simpa using hb
  have tD:=zlh (c:=c) (most:=2) h hj hn (by omega);have heff:=zli (H:=tP2 d kd l q c c2 j) (id:=1) (n:=n) (cs':=zdn l c (zbl l j n)) (M:=diaM l j n 2) (by show 1<2;omega);simp only[r25_20,SS,reduceIte,qQ,f5,f6];refine zgk (id:=1) (cs:=zdn l c j) (cs':=zdn l c (zbl l j n)) (L:=bO 1 n n (diaM l j n 2)) tD rfl rfl rfl (zde ..) (zde ..) ?_;simp only[zay];rw[heff];simp only[SS,reduceIte,qQ];refine hQ _ _ ?_ ?_
  ·simp only[UU,qQ,reduceIte];rw[if_neg hng];rfl
  ·rw[if_neg hng];rfl
 ·have hg:zjd n M:=by simpa using hb
  simp only[r25_21,SS,reduceIte,qQ,f7];refine hQ _ _ ?_ ?_
  ·simp only[UU,qQ,reduceIte];rw[if_pos hg]
  ·rw[if_pos hg]
theorem jbl{l:List Int}{kind n:Nat}:rawK l kind n<=l.length:=by
 have hz:(0:Nat)<=l.length:=qE _;unfold rawK;split
 ·exact zhi hz _
 split
 ·exact zhi hz 1
 split
 ·exact zhi hz 1
 ·exact zhi hz _
theorem qnz(d kd:Int)(l q:List Int)(c c2:Option Nat)(j j':Nat)(X:Heap):(tP2 d kd l q c c2 j++X).set 1 (some (zdn l c j'))=tP2 d kd l q c c2 j'++X:=rfl
theorem qgs{d kd:Int}{l q:List Int}{c c2:Option Nat}{n:Nat}{E:Env}{Q:Post}(h:zle l)(hk:0<=kd/\kd<256)(hn:1<=n/\n<=8)
  (e2:E 2= .ptr 0 0) (e5:E 5= .ptr 1 0) (e6:E 6= .int .i64 (n:Nat))
  (hQ:∀E',E' 5= .ptr 1 0->E' 6= .int .i64 (n:Nat)->E' 7= .sl 2 0 n 1 (some n)->Q .normal E' (tP2 d kd l q c c2 (rawK l (kd%8).toNat n)++bO 2 n n (rawM l (kd%8).toNat n))):
  Wg 0 74 (.seq (.reg r25_4 none) (.block 0 (.seq (.seq (.reg r25_5 none) (.cond (.t 24) .skip (.seq (.reg r25_6 none) (.cond (.t 24) .skip (.seq (.reg r25_7 none) (.cond (.t 24) .skip (.reg r25_8 none))))))) (.cond (.t 24) (.reg r25_9 none) (.seq (.reg r25_10 none) (.cond (.t 32) (.seq (.reg r25_11 none) (.reg r25_12 (some [(2,6),(4,6)]))) (.seq (.reg r25_13 none) (.cond (.t 45) (.seq (.reg r25_14 none) (.reg r25_15 (some [(4,10),(8,10)]))) (.seq (.reg r25_16 none) (.cond (.t 62) (.reg r25_17 none) (.reg r25_18 none))))))))))) E (tP2 d kd l q c c2 0) Q:=by
 have hz:(0:Nat)<=l.length:=qE _;have g0:getB (tP2 d kd l q c c2 0) 0=some (latC d kd l q c c2):=rfl;have g1:getB (tP2 d kd l q c c2 0) 1=some (zdn l c 0):=rfl;have hrem:Int.tmod kd 8=kd%8:=qR hk.1;have tGen:=qtj (c:=c) h hz hn;have h9:(1:Int)<=9/\(9:Int)<=9:=by omega
 have tD9:=zlh (c:=c) (most:=9) h hz hn (by omega);have tD1:=zlh (c:=c) (most:=1) h hz hn (by omega);have effG:=zli (H:=tP2 d kd l q c c2 0) (id:=1) (n:=n) (cs':=zdn l c (zbl l 0 (n+triK n))) (M:=genM l 0 n) (by show 1<2;omega);have eff9:=zli (H:=tP2 d kd l q c c2 0) (id:=1) (n:=n) (cs':=zdn l c (zbl l 0 n)) (M:=diaM l 0 n 9) (by show 1<2;omega);have eff1:=zli (H:=tP2 d kd l q c c2 0) (id:=1) (n:=n) (cs':=zdn l c (zbl l 0 n)) (M:=diaM l 0 n 1) (by show 1<2;omega);refine wM ?_;simp only[r25_4,SS,fC,reduceIte,qB,qQ,qC,e2,g0,latC];refine⟨by decide,?_⟩;rw[hrem];rcases(by omega:kd%8=0\/kd%8=1\/kd%8=2\/kd%8=3\/kd%8=4\/kd%8=5\/kd%8=6\/kd%8=7)with e | e | e | e | e | e | e | e
 all_goals
  rw[e]at hQ ⊢;simp only[r25_5,r25_6,r25_7,r25_8,r25_9,r25_10,r25_11,r25_13,r25_14,r25_16,r25_17,r25_18,SS,fC,reduceIte,qQ,e5,e6,Int.reduceEq,decide_true,decide_false]
 iterate 4
  ·refine zgk (id:=1) (cs:=zdn l c 0) (cs':=zdn l c (zbl l 0 (n+triK n))) (L:=bO 1 n n (genM l 0 n)) tGen rfl rfl rfl (zde ..) (zde ..) ?_;simp only[zay];rw[effG];simp only[SS,reduceIte,qQ];exact hQ _ (by simp only[UU,qQ,e5]) (by simp only[UU,qQ,e6]) (by simp only[UU,qQ,reduceIte];rfl)
 ·have tC:=qvx (n:=n) (fork:=false) (by omega);have hS:Shp n (zcj n false):=zct _ _;have hcl:qZ [.int .i64 (n:Nat),.bool false]=true:=rfl
  have effC:zad (effs (zan [] (tP2 d kd l q c c2 0).length) 0 (bH n n (zcj n false))) (tP2 d kd l q c c2 0++List.replicate (bH n n (zcj n false)).length none)=tP2 d kd l q c c2 0++bO 2 n n (zcj n false):=by
   have:=zgz (H:=tP2 d kd l q c c2 0) (zan [] (tP2 d kd l q c c2 0).length) (λi=>zcb _ i) (bH n n (zcj n false)) [];simp only[qN,qM]at this;rw[this];exact congrArg (tP2 d kd l q c c2 0++ ·) (qvw (K:=2) (λi=>zcb 2 i))
  have hv:AV.ren (zan [] (tP2 d kd l q c c2 0).length) (.sl 0 0 n 1 (some n))= .sl 2 0 n 1 (some n):=rfl;have tB:=qnj (c:=c) (k:=0) (m:=3) h hz (by omega)
  have ko:∀j,getB (tP2 d kd l q c c2 j++bO 2 n n (zcj n false)) 2=some (outO 2 n n n):=λj=>by
   have:=zga (P:=tP2 d kd l q c c2 j) (o:=2) (N:=n) (n:=n) (rows:=zcj n false) rfl;rw[hS.len]at this;exact this
  have kl:=zlf (o:=2) (N:=n) (n:=n) (i:=n) (qU _);have kg:=zlg (o:=2) (N:=n) (n:=n) (i:=n) (k:=0) (by omega);have gr:=λj=>zmr (P:=tP2 d kd l q c c2 j) (o:=2) (N:=n) (n:=n) (rows:=zcj n false) rfl (i:=0) (by rw[hS.len];omega)
  have lr:=hS.row 0 (by omega)
  have gz:(i64z ((zcj n false).getD 0 [])).getD 0 .junk= .int .i64 2:=by
   rw[zcf _ _ (by omega)];have:=zff (fork:=false) (show 0<n by omega);unfold ent at this;rw[this]
  have hbz:=zfz l 0 (show(1:Int)<=3 by decide);have w2:IntKind.i64.wrap (2+zdq l 0%3)=2+zdq l 0%3:=w64 (by omega) (by omega);have hs:=λj=>zxt (P:=tP2 d kd l q c c2 j) (o:=2) (N:=n) (n:=n) (rows:=zcj n false) rfl (i:=0) (((zcj n false).getD 0 []).set 0 (2+zdq l 0%3))
  refine zdz tC hcl ?_;simp only[zay,SS,reduceIte,qQ];rw[effC,hv];have z0:Int.toNat 0=0:=rfl;simp only[r25_12,SS,fC,reduceIte,qB,qQ,z0,ko,kl,kg,gr,lr,gz,zbe,e5];refine⟨by omega,by omega,by omega,by omega,?_⟩;refine zeq (id:=1) tB rfl rfl ?_;simp only[zay,zad,keys,qO,xZ,SS,reduceIte,qQ,qnz,z0,gr,lr,zbe,w2,zdu]
  have hr:rawM l 4 n=(zcj n false).set 0 (((zcj n false).getD 0 []).set 0 (2+zdq l 0%3)):=by
   unfold rawM;rw[if_neg (by decide),if_pos rfl];unfold qgn;rw[zff (by omega)];rfl
  have h3:=hs (zik l 0);rw[<-hr]at h3;refine⟨⟨by omega,by omega⟩,by omega,rfl,?_⟩;refine Eq.mp (congrArg _ h3.symm) ?_;exact hQ _ (by simp only[UU,qQ,e5]) (by simp only[UU,qQ,e6]) (by simp only[UU,qQ,reduceIte])
 ·have tC:=qvx (n:=n) (fork:=true) (by omega);have hS:Shp n (zcj n true):=zct _ _;have hcl:qZ [.int .i64 (n:Nat),.bool true]=true:=rfl
  have effC:zad (effs (zan [] (tP2 d kd l q c c2 0).length) 0 (bH n n (zcj n true))) (tP2 d kd l q c c2 0++List.replicate (bH n n (zcj n true)).length none)=tP2 d kd l q c c2 0++bO 2 n n (zcj n true):=by
   have:=zgz (H:=tP2 d kd l q c c2 0) (zan [] (tP2 d kd l q c c2 0).length) (λi=>zcb _ i) (bH n n (zcj n true)) [];simp only[qN,qM]at this;rw[this];exact congrArg (tP2 d kd l q c c2 0++ ·) (qvw (K:=2) (λi=>zcb 2 i))
  have hv:AV.ren (zan [] (tP2 d kd l q c c2 0).length) (.sl 0 0 n 1 (some n))= .sl 2 0 n 1 (some n):=rfl;have tB:=qnj (c:=c) (k:=0) (m:=2) h hz (by omega)
  have ko:∀j,getB (tP2 d kd l q c c2 j++bO 2 n n (zcj n true)) 2=some (outO 2 n n n):=λj=>by
   have:=zga (P:=tP2 d kd l q c c2 j) (o:=2) (N:=n) (n:=n) (rows:=zcj n true) rfl;rw[hS.len]at this;exact this
  have kl:=zlf (o:=2) (N:=n) (n:=n) (i:=n) (qU _);have kg:=zlg (o:=2) (N:=n) (n:=n) (i:=n) (k:=(n-1)) (by omega);have gr:=λj=>zmr (P:=tP2 d kd l q c c2 j) (o:=2) (N:=n) (n:=n) (rows:=zcj n true) rfl (i:=(n-1)) (by rw[hS.len];omega)
  have lr:=hS.row (n-1) (by omega)
  have gz:(i64z ((zcj n true).getD (n-1) [])).getD (n-1) .junk= .int .i64 2:=by
   rw[zcf _ _ (by omega)];have:=zff (fork:=true) (show(n-1)<n by omega);unfold ent at this;rw[this]
  have hbz:=zfz l 0 (show(1:Int)<=2 by decide);have w2:IntKind.i64.wrap (2+zdq l 0%2)=2+zdq l 0%2:=w64 (by omega) (by omega);have hs:=λj=>zxt (P:=tP2 d kd l q c c2 j) (o:=2) (N:=n) (n:=n) (rows:=zcj n true) rfl (i:=(n-1)) (((zcj n true).getD (n-1) []).set (n-1) (2+zdq l 0%2))
  refine zdz tC hcl ?_;simp only[zay,SS,reduceIte,qQ];rw[effC,hv];have w1:IntKind.i64.wrap ((n:Int)-1)=((n-1:Nat):Int):=wQ (by omega);simp only[r25_15,SS,fC,reduceIte,qQ,w1,qW,ko,kl,kg,gr,lr,gz,zbe,e5,e6];refine⟨⟨by omega,by omega⟩,by omega,⟨by omega,by omega⟩,by omega,?_⟩;refine zeq (id:=1) tB rfl rfl ?_;simp only[zay,zad,keys,qO,xZ,SS,reduceIte,qQ,qnz,qW,gr,lr,zbe,w2,zdu]
  have hr:rawM l 5 n=(zcj n true).set (n-1) (((zcj n true).getD (n-1) []).set (n-1) (2+zdq l 0%2)):=by
   unfold rawM;rw[if_neg (by decide),if_neg (by decide),if_pos rfl];unfold qgn;rw[zff (by omega)];rfl
  have h3:=hs (zik l 0);rw[<-hr]at h3;refine⟨⟨by omega,by omega⟩,by omega,?_,?_⟩
  ·have hne:2+(n-1)≠0:=by omega
   generalize 2+(n-1)=s at hne;simp[dynB,zvn];exact hne
  refine Eq.mp (congrArg _ h3.symm) ?_;exact hQ _ (by simp only[UU,qQ,e5]) (by simp only[UU,qQ,e6]) (by simp only[UU,qQ,reduceIte])
 ·refine zgk (id:=1) (cs:=zdn l c 0) (cs':=zdn l c (zbl l 0 n)) (L:=bO 1 n n (diaM l 0 n 9)) tD9 rfl rfl rfl (zde ..) (zde ..) ?_;simp only[zay];rw[eff9];simp only[SS,reduceIte,qQ];exact hQ _ (by simp only[UU,qQ,e5]) (by simp only[UU,qQ,e6]) (by simp only[UU,qQ,reduceIte];rfl)
 ·refine zgk (id:=1) (cs:=zdn l c 0) (cs':=zdn l c (zbl l 0 n)) (L:=bO 1 n n (diaM l 0 n 1)) tD1 rfl rfl rfl (zde ..) (zde ..) ?_;simp only[zay];rw[eff1];simp only[SS,reduceIte,qQ];exact hQ _ (by simp only[UU,qQ,e5]) (by simp only[UU,qQ,e6]) (by simp only[UU,qQ,reduceIte];rfl)
theorem jgm{d kd most:Int}{l q:List Int}{c c2:Option Nat}{n:Nat}(h:zle l)(hd:0<=d/\d<256)(hk:0<=kd/\kd<256)(hm:1<=most/\most<=8)(hn:(n:Int)=1+d%most):
  Rt 25 [.agg (latC d kd l q c c2),.int .i64 most] [] (.vec (zcx n (qas l (kd%8).toNat n)) n (some n)) []:=by
 have hz:(0:Nat)<=l.length:=qE _;have hmod:=xU d (show 0<most by omega);have hmod0:=xD d (show most≠0 by omega);have hn8:1<=n/\n<=8:=by omega
 have g0:getB [some (latC d kd l q c c2)] 0=some (latC d kd l q c c2):=rfl;refine oFW o25 ?_;unfold c25;refine wW ?_;simp only[r25_0,SS];refine wW ?_;simp only[r25_1,SS,fC,reduceIte,qB,qQ,qC];refine⟨by show 3<=4;omega,⟨rfl,rfl⟩,?_⟩;have eH:([some (latC d kd l q c c2),some (setL [AV.vec [] 0 (some 0),AV.int IntKind.i64 0] 0 ((latC d kd l q c c2).getD 2 AV.junk).cells)]:Heap)=tP2 d kd l q c c2 0:=rfl;rw[eH];have g1:getB (tP2 d kd l q c c2 0) 0=some (latC d kd l q c c2):=rfl;have gd:(latC d kd l q c c2).getD 0 .junk= .int .u8 d:=rfl;have gl:(latC d kd l q c c2).length=4:=rfl;have wd:IntKind.i64.wrap d=d:=w64 (by omega) (by omega);have et:Int.tmod d most=d%most:=qR hd.1;have wm:IntKind.i64.wrap (d%most)=d%most:=w64 (by omega) (by omega);have wn:IntKind.i64.wrap (1+d%most)=(n:Int):=by rw[<-hn];exact w64 (by omega) (by omega)
 refine wW ?_;simp only[r25_2,SS,fC,reduceIte,qQ,qC,g1,gd,gl,wd,et,wn];refine⟨by omega,?_⟩;refine wW ?_;simp only[r25_3,SS];refine zkf (qgs h hk hn8 (by simp only[UU,qQ,reduceIte]) (by simp only[UU,qQ,reduceIte]) (by simp only[UU,qQ,reduceIte]) λE1 f5 f6 f7=>?_);simp only[SS];refine qny h jbl hn8 (zxr hn8.1) f5 f6 f7 λE2 H2 e4 eH2=>?_
 refine⟨.inl rfl,_,rfl,?_⟩;rw[e4,eH2];unfold qas;by_cases hg:zjd n (rawM l (kd%8).toNat n)
 ·rw[if_pos hg,if_pos hg,if_pos hg];exact .freeze 1 _ _ _ rfl (by intro i cs h;omega)
 ·rw[if_neg hg,if_neg hg,if_neg hg];have hS:=zqh l (rawK l (kd%8).toNat n) n 2;have:=jek (P:=tP2 d kd l q c c2 (zbl l (rawK l (kd%8).toNat n) n)) (o:=2) rfl hS.len hS.row;exact .freeze 3 _ _ _ this (by intro i cs h;omega)
open Go.Det
theorem jgn{d kd most:Int}{l q:List Int}{c c2:Option Nat}{n:Nat}(h:zle l)(hd:0<=d/\d<256)(hk:0<=kd/\kd<256)(hm:1<=most/\most<=5)(hn:(n:Int)=1+d%most):
  ∃M' T',Red n (rowF M')/\LState n (16^n) (8*16^n) (qas l (kd%8).toNat n) M' T'/\Rt 8 [.agg (latC d kd l q c c2),.int .i64 most] [] (.vec (zcx n M') n (some n)) []:=by
 have hmod:=xU d (show 0<most by omega);have hmod0:=xD d (show most≠0 by omega);have hn8:1<=n/\n<=8:=by omega
 have tG:=jgm (c:=c) (c2:=c2) (q:=q) h hd hk (by omega:1<=most/\most<=8) hn;obtain⟨hG,hg⟩:=jaw (l:=l) (kind:=(kd%8).toNat) hn8.1 hn8.2;generalize qas l (kd%8).toNat n=M0 at*;have hS:=hG.shp
 have hIn:∀s t,In64 (ent M0 s t):=by
  intro s t;have:=hG.bnd s t;unfold In64;omega
 have hIm:ImV M0 (.vec (zcx n M0) n (some n)):=znn hS.len hS.row hIn;have tO:=mOf (n:=n) hIm (by omega) (by rw[hS.len];omega) (λi hi=>hS.row i (by rw[hS.len]at hi;exact hi));have hsq:=zug hS hn8 (zxv hG) (qG (zuw.all (k:=0) (qE _)).1 zuw.lt);obtain⟨M',T',hred,hL,tR⟩:=jbj hsq (by omega) hG hg;refine⟨M',T',hred,hL,?_⟩;have c1:qZ [.agg (latC d kd l q c c2),.int .i64 most]=true:=by simp only[qZ,AV.closed,zme,qV]
 have c2':qZ [.vec (zcx n M0) n (some n)]=true:=by simp only[qZ,hIm.closed,qV]
 have c3:qZ [matC M0]=true:=by simp only[qZ,hsq.closed,qV]
 have g0:getB [some (latC d kd l q c c2)] 0=some (latC d kd l q c c2):=rfl;refine oF o8 ?_;simp only[c8,r8_0,r8_1,SS,reduceCtorEq,reduceIte,qQ,g0];have et4:List.take 4 (latC d kd l q c c2)=latC d kd l q c c2:=rfl;refine⟨by show 4<=4;omega,?_⟩;rw[et4];refine zaa tG ?_ c1 hIm.closed;simp only[zay,SS,reduceIte,qQ];refine zaa tO ?_ c2' hsq.closed;simp only[zay,SS,reduceIte,qQ];refine zaa tR ?_ c3 (by simp only[AV.closed,qZ,qV];rfl);simp only[zay,SS,reduceIte,qQ,qJ,qK,r8_2];exact⟨.inl trivial,_,rfl,.freeze 1 _ _ _ rfl (by intro i cs h;omega)⟩
end Go.Proofs.YtpflahgcdgdkjaaGreatDoor
namespace Go.Proofs.YtpflahgcdgdkjaaGreatDoor
open Nat renaming reduceEqDiff -> qQ, le_refl -> qU, reduceAdd -> qB, reduceLeDiff -> qC, sub_self -> qD, mul_le_mul -> qP, add_zero -> qT, zero_add -> xQ, lt_or_ge -> xA
open List renaming getElem?_cons_zero -> qJ, getElem?_cons_succ -> qK, set_append_right -> xK
open Go.AL.AV.closed renaming closedL -> qZ
open Int renaming toNat_natCast -> qW
open Bool renaming and_self -> qV
open Go Go.AL Go.Proofs Go.Det
theorem jbm{n:Nat}{M:List (List Int)}(hS:Shp n M)(h:Red n (rowF M)):ImV M (.vec (zcx n M) n (some n))/\M.length<=8/\∀i,i<M.length->(M.getD i []).length<=8:=
 ⟨znn hS.len hS.row (qsp hS h),by rw[hS.len];exact h.n8,λi hi=>by rw[hS.row i (by rw[<-hS.len];exact hi)];exact h.n8⟩
theorem qvy{p:Nat}(hp:p<=9973):∀q i:Nat,pwF (p:Int) 3000 q ((p^i:Nat):Int)<=3000->p^(i+q)<=3000
 |0,i,h=>by simp only[pwF]at h;rw[qT];omega
 |q+1,i,h=>by
  unfold pwF at h;by_cases hc:((p^i:Nat):Int)<=3000
  ·rw[if_pos hc]at h;have hm:=qP (show p^i<=3000 by omega) hp;rw[<-Nat.pow_succ]at hm
   have e:IntKind.i64.wrap (((p^i:Nat):Int)*(p:Int))=((p^(i+1):Nat):Int):=by
    rw[<-Int.natCast_mul,<-Nat.pow_succ];exact w64 (by omega) (by omega)
   rw[e]at h;have:=qvy hp q (i+1) h
   rwa[show i+1+q=i+(q+1) by omega]at this
  ·rw[if_neg hc]at h;exact absurd h hc
section
variable{a:AV}{M:List (List Int)}{z m:Int}{H:Heap}{Q:Post}
set_option maxHeartbeats 1000000 in
theorem qvz(hV:ImV M a)(h8:M.length<=8/\∀i,i<M.length->(M.getD i []).length<=8)(hA:Rt 7 [] [] (.bool true) []){E:Env}(e0:E 0=a)(e4:E 4= .int .i64 m)(e17:E 17= .int .i64 z)(hQ:∀E' H',E' 16= .bool true->Q .ret E' H'):
  Wg 0 91 (.seq (.reg r5_10 none) (.seq (.reg r5_11 none) (.seq (.seq (.reg r5_12 none) (.cond (.t 62) (.seq (.reg r5_13 none) .ret) .skip)) (.seq (.seq (.reg r5_14 none) (.cond (.t 71) (.seq (.reg r5_15 none) .ret) .skip)) (.seq (.reg r5_16 none) (.seq (.reg r5_17 none) .ret)))))) E H Q:=by
 obtain⟨D1,D2,e,x,y,hr1,hr2,t1,t2,hok⟩:=jaq hV h8.1 h8.2 z m;have t3:=jgk hr1 hr2;have hca:=hV.closed;have cA:qZ [a,.int .i64 z,.int .i64 m]=true:=by simp only[qZ,hca];rfl
 obtain⟨rows,c,rfl,_,_⟩:=hV.val
 have hset:∀(H:Heap) (u v:List AV),(H++[some u]).set H.length (some v)=H++[some v]:=λH u v=>by
  rw[xK _ _ (qU _),qD];rfl
 have hgs:∀(H:Heap) (u:List AV),getB (H++[some u]) H.length=some u:=λH u=>zbr
 have hg0:∀(H:Heap) (u v:List AV),getB (H++[some u]++[some v]) H.length=some u:=λH u v=>by rw[zca (by simp)];exact zbr
 have hg1:∀(H:Heap) (u v w:List AV),getB (H++[some u]++[some v]++[some w]) H.length=some u:=λH u v w=>by rw[zca (by simp)];exact hg0 _ _ _
 have hr10:=hr1;obtain⟨f1,d1,f2,d2,rfl,i1,i2⟩:=hr1.shape;obtain⟨g1,k1,g2,k2,rfl,i3,i4⟩:=hr2.shape;refine wM ?_;simp only[r5_10,SS,reduceIte,qQ,e0,e4,e17];refine zaa t1 ?_ cA;simp only[SS,reduceIte,qB,qQ,qJ,qK];simp only[hgs,SS,qB,qC,hset];simp only[r5_11,SS,reduceCtorEq,reduceIte,qQ,e0,e4,e17];refine zaa t2 ?_ cA;simp only[SS,reduceIte,qB,qQ,qC,qJ,qK,hgs,hset];simp only[r5_12,↓zcn,SS,reduceIte,qB,qQ,qC,ne_eq,not_true_eq_false,decide_false,hgs,hg0];refine zaa t3 ?_;simp only[↓zcn,SS,fC,reduceIte,qQ];by_cases he:e=0;rotate_left
 ·have de:decide (¬e=0)=true:=decide_eq_true he;simp only[r5_14,↓zki,SS,fC,reduceIte,qQ,ne_eq,de];simp only[r5_15,SS];refine zaa hA ?_;simp only[SS,reduceIte,qQ];refine hQ _ _ ?_;simp only[UU,qQ,reduceIte]
 subst he;obtain⟨p,rfl,hp2,hp9,hok⟩:=hok rfl;have tp:=qgm (p:Int) (M.length:Nat) 3000 (by omega);simp only[r5_14,↓zcn,SS,reduceCtorEq,reduceIte,qQ,ne_eq,not_true_eq_false,decide_false,e0,e17];refine zaa tp ?_;by_cases hpw:3000<pwF (p:Int) 3000 ((M.length:Nat):Int).toNat 1
 ·have dw:decide (3000<pwF (p:Int) 3000 ((M.length:Nat):Int).toNat 1)=true:=decide_eq_true hpw;simp only[↓zcn,SS,fC,reduceIte,qQ,dw];simp only[r5_15,SS];refine zaa hA ?_;simp only[SS,reduceIte,qQ];refine hQ _ _ ?_;simp only[UU,qQ,reduceIte]
 have dw:decide (3000<pwF (p:Int) 3000 ((M.length:Nat):Int).toNat 1)=false:=decide_eq_false hpw
 have hpow:p^M.length<=3000:=by
  have:=qvy (p:=p) (by omega) M.length 0 (by rw[Nat.pow_zero];rw[qW]at hpw;exact Int.not_lt.1 hpw)
  rwa[xQ]at this
 obtain⟨⟨lo,hB⟩,r,ir,t5⟩:=hok hpow;have t6:=jdp hr10 ir lo hB;obtain⟨l1,c1,l2,c2,rfl,_,_⟩:=ir.shape;simp only[↓zcn,SS,fC,reduceIte,qQ,dw];simp only[r5_16,SS,reduceCtorEq,reduceIte,qQ,e0,e4,e17];refine zaa t5 ?_ cA;simp only[SS,reduceIte,qB,qQ,qC,qJ,qK,hgs,hset];simp only[r5_17,↓zcn,SS,reduceIte,qB,qQ,qC,decide_true,hgs,hg1];refine zaa t6 ?_;simp only[↓zcn,SS,reduceIte,qQ,decide_true];refine zaa hA ?_;simp only[SS,reduceIte,qQ];refine hQ _ _ ?_;simp only[UU,qQ,reduceIte]
theorem qdv{small:Bool}(hV:ImV M a)(h8:M.length<=8/\∀i,i<M.length->(M.getD i []).length<=8)(hA:Rt 7 [] [] (.bool true) []){E:Env}(e0:E 0=a)(e4:E 4= .int .i64 m)(e7:E 7= .bool small)(e17:E 17= .int .i64 z)(hz:In64 z)(hQ:∀E' H',E' 16= .bool true->Q .ret E' H'):
  Wg 0 91 (.seq (.seq (.reg r5_8 none) (.cond (.t 34) (.reg r5_9 none) .skip)) (.seq (.reg r5_10 none) (.seq (.reg r5_11 none) (.seq (.seq (.reg r5_12 none) (.cond (.t 62) (.seq (.reg r5_13 none) .ret) .skip)) (.seq (.seq (.reg r5_14 none) (.cond (.t 71) (.seq (.reg r5_15 none) .ret) .skip)) (.seq (.reg r5_16 none) (.seq (.reg r5_17 none) .ret))))))) E H Q:=by
 refine wW ?_;cases small with
 |false=>
  simp only[r5_8,SS,fC,reduceIte,e7];refine qvz (z:=z) (m:=m) hV h8 hA ?_ ?_ ?_ hQ<;>simp only[UU,qQ, *]
 |true=>
  simp only[r5_8,r5_9,SS,fC,reduceIte,qQ,e4,e7];refine⟨by decide,by decide,?_⟩;refine qvz (z:=z) (m:=IntKind.i64.wrap (Int.tmod (IntKind.i64.wrap (Int.tmod m 40+40)) 40-1)) hV h8 hA ?_ ?_ ?_ hQ
  ·simp only[UU,qQ,e0]
  ·simp only[UU,qQ,reduceIte]
  ·simp only[UU,qQ,e17]
theorem qoa{wild small:Bool}{p raw:Int}(hV:ImV M a)(h8:M.length<=8/\∀i,i<M.length->(M.getD i []).length<=8)(hA:Rt 7 [] [] (.bool true) [])(tP:Rt 9 [.int .u8 p] [] (.int .i64 z) [])(hz:In64 z)(hraw:In64 raw){E:Env}(e0:E 0=a)(e2:E 2= .int .u8 p)(e3:E 3= .int .i64 raw)(e4:E 4= .int .i64 m)(e5:E 5= .bool wild)(e7:E 7= .bool small)(hQ:∀E' H',E' 16= .bool true->Q .ret E' H'):
  Wg 0 91 (.seq (.reg r5_5 none) (.seq (.seq (.reg r5_6 none) (.cond (.t 32) (.reg r5_7 none) .skip)) (.seq (.seq (.reg r5_8 none) (.cond (.t 34) (.reg r5_9 none) .skip)) (.seq (.reg r5_10 none) (.seq (.reg r5_11 none) (.seq (.seq (.reg r5_12 none) (.cond (.t 62) (.seq (.reg r5_13 none) .ret) .skip)) (.seq (.seq (.reg r5_14 none) (.cond (.t 71) (.seq (.reg r5_15 none) .ret) .skip)) (.seq (.reg r5_16 none) (.seq (.reg r5_17 none) .ret))))))))) E H Q:=by
 refine wW ?_;simp only[r5_5,SS,reduceIte,e2];refine zaa tP ?_;simp only[zay,SS,reduceIte,qQ];refine wW ?_;cases wild with
 |false=>
  simp only[r5_6,SS,fC,reduceIte,qQ,e5];refine qdv (small:=small) (z:=z) (m:=m) hV h8 hA ?_ ?_ ?_ ?_ hz hQ<;>simp only[UU,qQ,reduceIte, *]
 |true=>
  simp only[r5_6,r5_7,SS,fC,reduceIte,qQ,e3,e5];refine qdv (small:=small) (z:=raw) (m:=m) hV h8 hA ?_ ?_ ?_ ?_ hraw hQ<;>simp only[UU,qQ,reduceIte, *]
end
set_option maxHeartbeats 2000000 in
theorem jes{M:List (List Int)}{h:AV}{d kd p raw k:Int}{l q:List Int}{c1 c2:Option Nat}{wild made small:Bool}(hV:ImV M h)
  (hT:zle l) (hd:0<=d/\d<256) (hkd:0<=kd/\kd<256) (hp:0<=p/\p<256) (hraw:In64 raw) (hA:Rt 7 [] [] (.bool true) []):
  Rt 5 [h,.agg (latC d kd l q c1 c2),.int .u8 p,.int .i64 raw,.int .i64 k,.bool wild,.bool made,.bool small] [] (.bool true) []:=by
 obtain⟨n,hn⟩:∃n:Nat,(n:Int)=1+d%4:=⟨(1+d%4).toNat,by omega⟩
 obtain⟨M',T',hred,hL,tF⟩:=jgn (c:=c1) (c2:=c2) (q:=q) (most:=4) hT hd hkd (by omega) hn;have hS:Shp n M':=hL.shM;have cF:qZ [.agg (latC d kd l q c1 c2),.int .i64 4]=true:=by simp only[qZ,AV.closed,zme,qV]
 have hclF:AV.closed (.vec (zcx n M') n (some n))=true:=by simp only[AV.closed]
 have g0:getB [some (latC d kd l q c1 c2)] 0=some (latC d kd l q c1 c2):=rfl;have et4:List.take 4 (latC d kd l q c1 c2)=latC d kd l q c1 c2:=rfl;have hch:=hV.closed;have c0:qZ [h]=true:=by simp only[qZ,hch,qV]
 obtain⟨bL,hbL⟩:=qak (8<M.length\/∃i,i<M.length/\8<(M.getD i []).length);have tL:=jar hV hbL;obtain⟨z,hz,tP⟩:=jas hp;refine oFW o5 ?_;unfold c5;refine wW ?_;simp only[r5_0,SS];refine wW ?_;simp only[r5_1,SS,reduceCtorEq,reduceIte,qQ];refine zaa tL ?_ c0;simp only[zay,SS,reduceIte,qQ];cases bL with
 |true=>
  simp only[r5_2,SS,fC];refine zaa hA ?_;simp only[zay,SS,reduceIte,qQ];exact⟨.inl trivial,_,rfl,.freeze 1 _ _ _ rfl (by intro i cs h;omega)⟩
 |false=>
  have hM8:M.length<=8/\∀i,i<M.length->(M.getD i []).length<=8:=by
   refine⟨?_,λi hi=>?_⟩
   ·rcases xA 8 M.length with e | e
    ·have:=hbL.2 (.inl e);simp at this
    ·exact e
   ·rcases xA 8 (M.getD i []).length with e | e
    ·have:=hbL.2 (.inr ⟨i,hi,e⟩);simp at this
    ·exact e
  have hfinal:∀(E':Env) (H':Heap),E' 16= .bool true->(λ(x:Exit) (E':Env) (H':Heap)=>(x=Exit.ret\/x=Exit.normal)/\∃v',resA Tryz.prog [ResultVar.tmp 16] E' H'=some v'/\AL.Fin 0 v' H' (AV.bool true) []) .ret E' H':=λE' H' h=>⟨.inl rfl,.bool true,by simp[resA,zdv,h],.freeze 1 _ _ _ rfl (by intro i cs h;omega)⟩
  simp only[SS,fC];refine wW ?_;cases made with
  |false=>
   simp only[r5_3,SS,fC,reduceIte,qQ];refine qoa (z:=z) (m:=k) (p:=p) (raw:=raw) (wild:=wild) (small:=small) hV hM8 hA tP hz hraw ?_ ?_ ?_ ?_ ?_ ?_ hfinal
   all_goals simp only[UU,qQ]
  |true=>
   obtain⟨hV',h8a,h8b⟩:=jbm hS hred;simp only[r5_3,r5_4,SS,fC,reduceIte,qQ];refine⟨by show 4<=4;omega,?_⟩;rw[et4];refine zaa tF ?_ cF hclF;simp only[zay,SS,reduceIte,qQ];refine qoa (z:=z) (m:=k) (p:=p) (raw:=raw) (wild:=wild) (small:=small) hV' ⟨h8a,h8b⟩ hA tP hz hraw ?_ ?_ ?_ ?_ ?_ ?_ hfinal
   all_goals simp only[UU,qQ,reduceIte]
