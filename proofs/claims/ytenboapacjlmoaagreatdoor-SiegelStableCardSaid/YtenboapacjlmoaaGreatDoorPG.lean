/- A part of the proof. -/
import Derived.Test.YtenboapacjlmoaaGreatDoorPF
import Derived.Test.YtenboapacjlmoaaGreatDoorPC
import Derived.Test.YtenboapacjlmoaaGreatDoorPD
import Derived.Test.YtenboapacjlmoaaGreatDoorPA
import Derived.Test.YtenboapacjlmoaaGreatDoorPE
namespace Go.Proofs.YtenboapacjlmoaaGreatDoor
open Nat renaming reduceEqDiff → qQ, reduceAdd → qB, le_refl → qC, zero_le → qO, mul_le_mul_left → xN, eq_zero_or_pos → xR
open Go.AL.AV.closed renaming closedL → qX
open List renaming getElem?_cons_zero → qJ, getElem?_cons_succ → qK, getD_cons_succ → qW, getD_cons_zero → qS, nil_append → qT, length_nil → xQ, length_map → xB, mapM_cons → xH, length_set → yK
open Int renaming toNat_natCast → qV
open Bool renaming and_self → qY
set_option linter.unusedSimpArgs false
set_option linter.unusedVariables false
open Go Go.AL Go.Proofs Go.Limb Go.Det
set_option maxRecDepth 100000
structure StepOut (n:Nat) (M:List (List Int)) (out:AV):Prop where
 add:∀i j,CurA n (rowF M) i j→out= .tup [matC (nearU n M i j),.bool true]
 sw:∀i,CurS n (rowF M) i→out= .tup [matC (swapU n i),.bool true]
 none:(∀i,i<n→OKr (rowF M) i)→out= .tup [.vec [] 0 none,.bool false]
theorem rStep_in {n N A0:Nat} {M:List (List Int)} {ar:List AV} {ac:Option Nat} {ds:List Int} (hsq:Sq n M (.vec ar n ac)) (hL:Lead BIG n M ds) (hF:FitN N BIG A0) (hb:Bnd A0 M) (hnN:n≤N) (hp:∀t,t≤n→0<lead (rowF M) t) (hds:leadL BIG M n=some ds) (hdf:∀z∈ds,z.natAbs≤bndS A0 N)
  {H2:Heap} {ps:List (Nat×Option Nat)} (hH:MatH H2 0 ps n (idM n)) {out:AV} (ho:StepOut n M out) {i:Nat} (hi:i<n) (hpre:∀s,s<i→OKr (rowF M) s) {v22 v23:AV} {E:Env} {Q:Post}
  (e0:E 0= .vec ar n ac) (e4:E 4=rowV ds) (e6:E 6= .sl 0 0 n 1 (some n)) (e8:E 8= .int .i64 (i:Nat)) (e9:E 9= .int .i64 ((i:Int)-1)) (e22:E 22=v22) (e23:E 23=v23)
  (hret:∀E' H' v,E' 2= .sl 0 0 n 1 (some n)→E' 3= .bool true→AL.Fin 0 (.tup [.sl 0 0 n 1 (some n),.bool true]) H' v []→v.wk=out→Q .ret E' H')
  (hQ:∀E',(∀l,l<i→SZ (rowF M) i l)→E' 0= .vec ar n ac→E' 4=rowV ds→E' 6= .sl 0 0 n 1 (some n)→E' 8= .int .i64 (i:Nat)→E' 22=v22→E' 23=v23→Q (.exit 2) E' H2):
  W Tryz.prog G 0 83 (.loop l36_1) E H2 Q:=by
 have hn:1≤n∧n≤8:=⟨hsq.lo,hsq.hi⟩
 refine W_loop (fun k E H=>k≤i∧(∀l,k≤l→l<i→SZ (rowF M) i l)∧H=H2∧E 0= .vec ar n ac∧E 4=rowV ds∧E 6= .sl 0 0 n 1 (some n)∧E 8= .int .i64 (i:Nat)∧E 9= .int .i64 ((k:Int)-1)∧E 22=v22∧E 23=v23) (n:=i)
  ⟨qC _,fun l h1 h2=>absurd h2 (by omega),rfl,e0,e4,e6,e8,e9,e22,e23⟩ ?_
 clear e0 e4 e6 e8 e9 e22 e23 E
 rintro k E H ⟨hki,hup,rfl,e0,e4,e6,e8,e9,e22,e23⟩
 refine wpC_sound mixed ?_
 simp only [l36_1,r36_7,SS,reduceIte,qQ,e9]
 refine ⟨fun hge=>?_,fun hlt=>?_⟩
 ·obtain ⟨k,rfl⟩:∃k',k=k'+1:=⟨k-1,by omega⟩
  have e9k:((k+1:Nat):Int)-1=(k:Nat):=by omega
  rw [e9k] at e9
  have hk:k<n:=by omega
  have tS:=rSized divB_all hsq hL hi hk (sized_dec hF hb hnN hds hp (i:=i) hk)
  have c1:qX [.vec ar n ac,rowV ds,.int .i64 (i:Nat),.int .i64 (k:Nat)]=true:=rfl
  have w3:IntKind.i64.wrap ((k:Int)-1)=(k:Int)-1:=w64 (by omega) (by omega)
  simp only [r36_8,SS,reduceCtorEq,reduceIte,qQ,e0,e4,e8,e9,e9k]
  refine callA_pure tS ?_ c1
  simp only [SS,reduceIte,qQ]
  by_cases hz:SZ (rowF M) i k
  ·have d1:decide (SZ (rowF M) i k)=true:=decide_eq_true hz
   simp only [SS,forall_const,d1]
   simp only [r36_11,SS,reduceIte,qQ,e9,w3]
   refine ⟨k,_,_,by omega,⟨by omega,fun l h1 h2=>?_,rfl,?_,?_,?_,?_,?_,?_,?_⟩,.refl⟩
   ·rcases (by omega:l=k∨k+1≤l) with e | e
    ·rw [e];exact hz
    ·exact hup l e h2
   all_goals simp only [upd_app,qQ,reduceIte,if_false, *]
  ·have d1:decide (SZ (rowF M) i k)=false:=decide_eq_false hz
   have hc:CurA n (rowF M) i k:=⟨hi,by omega,hpre,fun l h1 h2=>hup l (by omega) h2,hz⟩
   have hout:=ho.add i k hc
   obtain ⟨hlam,hlb⟩:=lam_val hF hb hnN hp (i:=i) (j:=k) hk
   obtain ⟨hdet,hlf⟩:=lamO_some hlam
   have tL:=rLambda divB_all hsq hi hk hdet hlf
   have hli:=intV_isInt (z:=stg (rowF M) k i k) hlf
   have tM:=tMinor divB_all hL hn.2 (k:=k+1) (by omega)
   have hmin:minorZ ds (k+1)=lead (rowF M) (k+1):=minor_lead hds hp (by omega)
   have hmi:=intV_isInt (minor_fits divB_all hL (k+1))
   rw [hmin] at tM hmi
   have hdp:=hp (k+1) (by omega)
   obtain ⟨q,hq,tQ⟩:=qQuotient hli hmi hdp
   have hmb:=minor_bnd hF hdf (k+1)
   rw [hmin] at hmb
   have hfit:=hF.fit
   have hsq1:=xN (bndS A0 N) (bndS_pos hF.one N)
   obtain ⟨w,hw,tN⟩:=qNearest hq hdp (by omega)
   obtain ⟨x,hx,tG⟩:=zNeg hw
   obtain ⟨csk,gk,lk,rk,fk⟩:=mat_get hH (i:=k) (by rw [(id_shp n).len];exact hk)
   have ok:=mat_outer (ps:=ps) (n:=n) (i:=k) (by rw [hH.len,(id_shp n).len];exact hk)
   have hol:(ps.map (slRow n)).length=n:=by rw [xB,hH.len];exact (id_shp n).len
   have hou:=hH.outer
   have hx0:=hx
   obtain ⟨lx,cx,_,_,_,rfl⟩:=hx0
   have hset:=mat_set hH (i:=k) (j:=i) (by rw [(id_shp n).len];exact hk) hi hx gk
   have eU:setM (idM n) k i (-(nearZ (stg (rowF M) k i k) (lead (rowF M) (k+1))))=nearU n M i k:=rfl
   rw [eU] at hset
   have hUl:(nearU n M i k).length=n:=(addU_shp (c:= -(nearZ (stg (rowF M) k i k) (lead (rowF M) (k+1)))) (i:=i) hk).len
   obtain ⟨a1,a2,b1,b2,rfl,p1,p2⟩:=id hq
   obtain ⟨_,_,y1,y2⟩:=intCells p1
   obtain ⟨_,_,y3,y4⟩:=intCells p2
   subst y1 y2 y3 y4
   obtain ⟨lw,cw,_,_,_,hew⟩:=id hw
   subst hew
   have w6:IntKind.i64.wrap ((k:Int)+1)=((k+1:Nat):Int):=by rw [show (k:Int)+1=((k+1:Nat):Int) by omega];exact w64 (by omega) (by omega)
   have cL:qX [.vec ar n ac,.int .i64 (i:Nat),.int .i64 (k:Nat)]=true:=rfl
   have cM:qX [rowV ds,.int .i64 ((k+1:Nat):Int)]=true:=rfl
   have cQ:qX [intV (stg (rowF M) k i k),intV (lead (rowF M) (k+1))]=true:=by simp only [qX,hli.closed,hmi.closed,qY]
   simp only [SS,forall_const,d1]
   simp only [r36_9,SS,forall_const,reduceCtorEq,reduceIte,qQ,e0,e6,e8,e9,qV,hou,hol,ok]
   refine ⟨⟨by omega,by omega⟩,by omega,?_⟩
   refine callA_pure tL ?_ cL hli.closed
   simp only [SS,reduceIte,qQ,e4,e9,w6]
   refine callA_pure tM ?_ cM hmi.closed
   simp only [SS,reduceIte,qQ]
   refine callA_pure tQ ?_ cQ
   simp only [SS,reduceIte,qQ]
   refine callA_pure tN ?_
   simp only [SS,reduceIte,qQ]
   refine callA_pure tG ?_
   simp only [SS,reduceIte,qB,qQ,gk,lk,qV]
   refine ⟨⟨by omega,by omega⟩,by omega,rfl,?_⟩
   simp only [r36_10,SS,reduceIte,qQ,e6]
   obtain ⟨v,g1,g2⟩:=fin_matT (cap:=some n) (b:=true) hset
   rw [hUl] at g1
   exact hret _ _ v (by simp only [upd_app,qQ,reduceIte,if_false]) (by simp only [upd_app,qQ,reduceIte,if_false]) g1 (by rw [g2,hout])
 ·have hk0:k=0:=by omega
  subst hk0
  exact hQ _ (fun l hl=>hup l (qO _) hl) (by simp only [upd_app,qQ,if_false,e0]) (by simp only [upd_app,qQ,if_false,e4]) (by simp only [upd_app,qQ,if_false,e6]) (by simp only [upd_app,qQ,if_false,e8]) (by simp only [upd_app,qQ,if_false,e22]) (by simp only [upd_app,qQ,if_false,e23])
theorem rStep {n N A0:Nat} {M:List (List Int)} {a out:AV} {ds:List Int} (hsq:Sq n M a) (hF:FitN N BIG A0) (hb:Bnd A0 M) (hnN:n≤N) (hp:∀t,t≤n→0<lead (rowF M) t) (ho:StepOut n M out):Ret Tryz.prog G 36 [a] [] out []:=by
 have hn:1≤n∧n≤8:=⟨hsq.lo,hsq.hi⟩
 obtain ⟨ds,hds,hdf⟩:=leadL_ok hF hb n hnN
 have hds':leadO BIG M=some ds:=by unfold leadO;rw [hsq.len];exact hds
 have hL:=lead_mk hsq hds'
 have t1:=eLeading divB_all hsq hds'
 obtain ⟨H0,ps0,hM0,t2⟩:=mIdentityH (n:=n) (by omega)
 have hM2:=mat_shift (H:=[]) hM0
 have hH2:applyE (effs (names [] 0) 0 H0) (List.replicate H0.length none)=H0.map (renB (names [] 0)):=effs_new (H:=[]) (names [] 0) (fun i=>names_nil 0 i) H0 []
 simp only [qT,xQ] at hM2
 have c1:qX [a]=true:=by simp only [qX,hsq.closed,qY]
 obtain ⟨ar,ac,hae,hal,har⟩:=hsq.mat
 subst hae
 rw [hsq.len] at hsq t1 c1 ⊢
 refine Ret_ofw mixed Tryz.func36 comp36 _ 83 res36 nt36 (by simp) (by simp) ?_
 simp only [c36,r36_0,r36_1,SS,reduceCtorEq,reduceIte]
 refine callA_pure t1 ?_ c1
 simp only [SS,reduceIte,qQ,qJ,qK]
 simp only [r36_2,SS,reduceCtorEq,reduceIte,qQ]
 refine callA_new t2 rfl ?_
 simp only [restA,SS,reduceIte,qQ,AV.ren,AV.ren.renL,names_nil,Nat.add_zero,hH2,qJ,qK]
 generalize H0.map (renB (names [] 0))=H2 at*
 generalize (ps0.map fun p=>(0+p.1,p.2))=ps at*
 simp only [r36_3,SS,reduceCtorEq,reduceIte,qQ]
 have hret:∀E' H' v,E' 2= .sl 0 0 n 1 (some n)→E' 3= .bool true→AL.Fin 0 (.tup [.sl 0 0 n 1 (some n),.bool true]) H' v []→v.wk=out→∃v' v'',resA Tryz.prog [.tmp 2,.tmp 3] E' H'=some v'∧AL.Fin 0 v' H' v'' []∧v''.wk=out:=by
  intro E' H' v f2 f3 g gw
  refine ⟨.tup [.sl 0 0 n 1 (some n),.bool true],v,?_,g,gw⟩
  simp only [resA,resOne,xH,List.mapM_nil,f2,f3]
  rfl
 refine W_loop (fun k E H=>∃i,i+k=n∧H=H2∧E 0= .vec ar n ac∧E 4=rowV ds∧E 6= .sl 0 0 n 1 (some n)∧E 22= .int .i64 (n:Nat)∧E 23= .int .i64 (i:Nat)∧∀s,s<i→OKr (rowF M) s) (n:=n)
  ⟨0,by omega,rfl,by simp only [upd_app,argsE_app,qS,qQ,if_false],by simp only [upd_app,argsE_app,qW,qQ,reduceIte,if_false],by simp only [upd_app,argsE_app,qW,qQ,reduceIte,if_false],by simp only [upd_app,argsE_app,qW,qQ,reduceIte,if_false],by simp only [upd_app,argsE_app,qW,qQ,reduceIte,if_false];rfl,fun s hs=>absurd hs (by omega)⟩ ?_
 rintro k E H ⟨i,hik,rfl,e0,e4,e6,e22,e23,hpre⟩
 refine wpC_sound mixed ?_
 simp only [l36_0,r36_4,SS,reduceCtorEq,reduceIte,e22,e23]
 refine ⟨fun hlt=>?_,fun hge=>?_⟩
 ·obtain ⟨k,rfl⟩:∃k',k=k'+1:=⟨k-1,by omega⟩
  have hi:i<n:=by omega
  have w5:IntKind.i64.wrap ((i:Int)+1)=((i+1:Nat):Int):=by rw [show (i:Int)+1=((i+1:Nat):Int) by omega];exact w64 (by omega) (by omega)
  have w3:IntKind.i64.wrap ((i:Int)-1)=(i:Int)-1:=w64 (by omega) (by omega)
  simp only [r36_5,r36_6,SS,reduceIte,qQ,e23,w3]
  refine rStep_in (ar:=ar) (ac:=ac) hsq hL hF hb hnN hp hds hdf hM2 ho hi hpre (by simp only [upd_app,qQ,if_false,e0]) (by simp only [upd_app,qQ,if_false,e4]) (by simp only [upd_app,qQ,if_false,e6]) (by simp only [upd_app,qQ,reduceIte,if_false]) (by simp only [upd_app,qQ,reduceIte,if_false]) (by simp only [upd_app,qQ,if_false];exact e22) (by simp only [upd_app,qQ,if_false];exact e23) ?_ ?_
  ·intro E' H' v f2 f3 g gw
   simp only [SS,reduceCtorEq]
   exact ⟨.inl trivial,hret E' H' v f2 f3 g gw⟩
  intro E' hSZ f0 f4 f6 f8 f22 f23
  rcases xR i with h0 | h0
  ·have d0:decide ((0:Int)<(i:Nat))=false:=decide_eq_false (by omega)
   simp only [SS,forall_const,reduceCtorEq,reduceIte,qQ,r36_12,f0,f4,f8,d0]
   simp only [r36_15,SS,reduceIte,qQ,f23,w5]
   refine ⟨k,_,_,by omega,⟨i+1,by omega,rfl,?_,?_,?_,?_,?_,fun s hs=>?_⟩,.refl⟩
   ·simp only [upd_app,qQ,if_false, *]
   ·simp only [upd_app,qQ,if_false, *]
   ·simp only [upd_app,qQ,if_false, *]
   ·simp only [upd_app,qQ,if_false, *]
   ·simp only [upd_app,qQ,reduceIte,if_false, *]
   ·rcases (by omega:s<i∨s=i) with e | e
    ·exact hpre s e
    ·rw [e];exact ⟨hSZ,fun h=>absurd h (by omega)⟩
  ·have d0:decide ((0:Int)<(i:Nat))=true:=decide_eq_true (by omega)
   have tV:=rLovasz divB_all hsq hL h0 hi (lov_dec hF hb hnN hds hdf hp h0 hi)
   simp only [SS,forall_const,reduceCtorEq,reduceIte,qQ,r36_12,f0,f4,f8,d0]
   refine callA_pure tV ?_
   by_cases hv:LV (rowF M) i
   ·have d1:decide (LV (rowF M) i)=true:=decide_eq_true hv
    simp only [SS,forall_const,reduceIte,qQ,d1]
    simp only [r36_15,SS,reduceIte,qQ,f23,w5]
    refine ⟨k,_,_,by omega,⟨i+1,by omega,rfl,?_,?_,?_,?_,?_,fun s hs=>?_⟩,.refl⟩
    ·simp only [upd_app,qQ,if_false, *]
    ·simp only [upd_app,qQ,if_false, *]
    ·simp only [upd_app,qQ,if_false, *]
    ·simp only [upd_app,qQ,if_false, *]
    ·simp only [upd_app,qQ,reduceIte,if_false, *]
    ·rcases (by omega:s<i∨s=i) with e | e
     ·exact hpre s e
     ·rw [e];exact ⟨hSZ,fun _=>hv⟩
   ·have d1:decide (LV (rowF M) i)=false:=decide_eq_false hv
    have hc:CurS n (rowF M) i:=⟨hi,h0,hpre,hSZ,hv⟩
    have hout:=ho.sw i hc
    have hIl:=(id_shp n).len
    have o1:=mat_outer (ps:=ps) (n:=n) (i:=i) (by rw [hM2.len,hIl];exact hi)
    have o2:=mat_outer (ps:=ps) (n:=n) (i:=i-1) (by rw [hM2.len,hIl];omega)
    have hol:(ps.map (slRow n)).length=n:=by rw [xB,hM2.len];exact hIl
    have hou:=hM2.outer
    have w7:(i:Int)-1=((i-1:Nat):Int):=by omega
    have w8:IntKind.i64.wrap ((i-1:Nat):Int)=((i-1:Nat):Int):=w64 (by omega) (by omega)
    have hlt0:=getB_lt' hou
    have hsw:=(mat_swap hM2 (p:=i) (k:=i-1) (by rw [hIl];exact hi) (by rw [hIl];omega)).1
    have hUl:(swapM (idM n) i (i-1)).length=n:=(swap_shp (id_shp n) hi (by omega)).1.len
    simp only [SS,forall_const,reduceIte,qQ,d1]
    simp only [r36_13,SS,forall_const,reduceIte,qQ,f6,f8,w7,w8,qV,hou,hol,o1,o2,getB_set_eq hlt0,yK,List.set_set]
    refine ⟨⟨by omega,by omega⟩,by omega,⟨by omega,by omega⟩,by omega,⟨by omega,by omega⟩,by omega,⟨by omega,by omega⟩,by omega,rfl,?_⟩
    simp only [r36_14,SS,reduceIte,qQ,f6]
    obtain ⟨v,g1,g2⟩:=fin_matT (cap:=some n) (b:=true) hsw
    rw [hUl] at g1
    exact ⟨.inl trivial,hret _ _ v (by simp only [upd_app,qQ,reduceIte,if_false]) (by simp only [upd_app,qQ,reduceIte,if_false]) g1 (by rw [g2,hout];rfl)⟩
 ·have hin:i=n:=by omega
  subst hin
  have hout:=ho.none hpre
  simp only [r36_16,SS]
  exact ⟨.inl trivial,_,_,rfl,.drop _ _ rfl (by intro i cs h;omega),by rw [hout];rfl⟩
end Go.Proofs.YtenboapacjlmoaaGreatDoor
namespace Go.Proofs.YtenboapacjlmoaaGreatDoor
open Nat renaming reduceEqDiff → qQ, reduceLeDiff → qU, reduceAdd → qB, sub_self → qE
open Go.AL.AV.closed renaming closedL → qX
open List renaming getD_eq_getElem?_getD → qZ, getElem?_cons_zero → qJ, getElem?_cons_succ → qK, getD_cons_succ → qW, getElem?_append_right → qA, getElem?_eq_getElem → qI, take_of_length_le → qL, getElem?_set_ne → qP, getD_cons_zero → qS, ext_getElem → xV, getElem?_set_self → xA, set_append_right → xE, mapM_cons → xH
open Int renaming toNat_natCast → qV
open Bool renaming and_self → qY
set_option linter.unusedSimpArgs false
set_option linter.unusedVariables false
open Go Go.AL Go.Proofs Go.Limb
set_option maxRecDepth 100000
theorem zInt64 {z:Int} {a:AV} (ha:IsInt z a) (hz:In64 z):Ret Tryz.prog G 86 [a] [] (.tup [.int .i64 z,.bool true]) []:=by
 obtain ⟨z1,z2⟩:=hz
 obtain ⟨l,ca,hc,hl,hv,rfl⟩:=ha
 obtain ⟨c1,t1⟩:=zTrim l ca (by omega)
 have k1:=trimL_canon hc.1
 have kv:=(val_trimL l).trans hv
 generalize trimL l=m at*
 have hm2:=canon_small k1 (by omega)
 have t2:=zlow m c1 k1.1 (by omega)
 rw [qL hm2,kv] at t2
 have d1:decide ((2:Int)<(m.length:Nat))=false:=decide_eq_false (by omega)
 by_cases hn:z<0
 ·have e1:decide (z<0)=true:=decide_eq_true hn
  have d2:decide ((z.natAbs:Int)≤9223372036854775808)=true:=decide_eq_true (by omega)
  have w1:IntKind.i64.wrap (IntKind.u64.wrap (0-(z.natAbs:Int)))=z:=by
   simp [IntKind.wrap,IntKind.bits,IntKind.signed];omega
  refine Ret_of mixed Tryz.func86 comp86 _ 35 res86 nt86 (by simp) (by simp) ?_
  simp only [c86,r86_0,r86_1,SS,forall_const,reduceCtorEq,reduceIte,qB,qQ,qU,e1]
  refine callA_pure t1 ?_
  simp only [SS,reduceIte,qQ]
  simp only [r86_2,SS,reduceIte,qQ]
  refine callA_pure t2 ?_
  simp only [SS,reduceIte,qQ]
  simp only [r86_3,SS,forall_const,reduceIte,qQ,d1]
  simp only [r86_5,SS,forall_const,reduceIte,qB,qQ,qU,d2]
  simp only [r86_6,SS,reduceIte,qQ,w1]
  exact ⟨.inl trivial,_,rfl,.drop _ _ rfl (by intro i cs h;omega)⟩
 ·have e1:decide (z<0)=false:=decide_eq_false hn
  have d2:decide ((z.natAbs:Int)<9223372036854775808)=true:=decide_eq_true (by omega)
  have w1:IntKind.i64.wrap (z.natAbs:Int)=z:=by
   rw [show (z.natAbs:Int)=z by omega];exact w64 z1 z2
  refine Ret_of mixed Tryz.func86 comp86 _ 35 res86 nt86 (by simp) (by simp) ?_
  simp only [c86,r86_0,r86_1,SS,forall_const,reduceCtorEq,reduceIte,qB,qQ,qU,e1]
  refine callA_pure t1 ?_
  simp only [SS,reduceIte,qQ]
  simp only [r86_2,SS,reduceIte,qQ]
  refine callA_pure t2 ?_
  simp only [SS,reduceIte,qQ]
  simp only [r86_3,SS,forall_const,reduceIte,qQ,d1]
  simp only [r86_5,SS,forall_const,reduceIte,qB,qQ,qU]
  simp only [r86_7,SS,forall_const,reduceIte,qB,qQ,qU,d2]
  simp only [r86_8,SS,reduceIte,qQ,w1]
  exact ⟨.inl trivial,_,rfl,.drop _ _ rfl (by intro i cs h;omega)⟩
theorem mTo_in {n:Nat} {M:List (List Int)} {rows:List AV} {c:Option Nat} (hn:1≤n∧n≤8) (hS:Shp n M) (hl:rows.length=n) (hr:∀i,i<n→IsRowV (M.getD i []) (rows.getD i .junk)) (hf:∀i j,In64 (ent M i j)) {i:Nat} (hi:i<n) {rs:List (List Int)} (hrl:rs.length=i+1) (hr0:(rs.getD i []).length=n) {E:Env} {Q:Post}
  (e0:E 0= .vec rows n c) (e5:E 5= .int .i64 (n:Nat)) (e7:E 7= .sl 0 0 n 1 (some n)) (e8:E 8= .int .i64 (i:Nat)) (e23:E 23= .int .i64 (n:Nat)) (e24:E 24= .int .i64 (i:Nat)) (e36:E 36= .int .i64 (n:Nat)) (e37:E 37= .int .i64 0)
  (hQ:∀E' r,r.length=n→(∀j,j<n→r.getD j 0=ent M i j)→E' 0= .vec rows n c→E' 5= .int .i64 (n:Nat)→E' 7= .sl 0 0 n 1 (some n)→E' 23= .int .i64 (n:Nat)→E' 24= .int .i64 (i:Nat)→Q (.exit 2) E' (bH n n (rs.set i r))):
  W Tryz.prog G 0 63 (.loop l37_1) E (bH n n rs) Q:=by
 refine W_loop (fun k E H=>∃j r,j+k=n∧r.length=n∧(∀t,t<j→r.getD t 0=ent M i t)∧H=bH n n (rs.set i r)∧E 0= .vec rows n c∧E 5= .int .i64 (n:Nat)∧E 7= .sl 0 0 n 1 (some n)∧E 8= .int .i64 (i:Nat)∧E 23= .int .i64 (n:Nat)∧E 24= .int .i64 (i:Nat)∧
  E 36= .int .i64 (n:Nat)∧E 37= .int .i64 (j:Nat)) (n:=n)
  ⟨0,rs.getD i [],by omega,hr0,fun t ht=>absurd ht (by omega),?_,e0,e5,e7,e8,e23,e24,e36,e37⟩ ?_
 ·congr 1
  refine xV (by simp) fun t h1 h2=>?_
  rw [List.getElem_set]
  split
  ·rename_i e;subst e;rw [qZ,qI h1];rfl
  ·rfl
 clear e0 e5 e7 e8 e23 e24 e36 e37 E
 rintro k E H ⟨j,r,hjk,hrm,hr',rfl,e0,e5,e7,e8,e23,e24,e36,e37⟩
 refine wpC_sound mixed ?_
 simp only [l37_1,r37_10,SS,reduceIte,e36,e37]
 refine ⟨fun hlt=>?_,fun hge=>?_⟩
 ·obtain ⟨k,rfl⟩:∃k',k=k'+1:=⟨k-1,by omega⟩
  have hj:j<n:=by omega
  have lM:=hS.row i hi
  obtain ⟨csi,ci,hei,hci⟩:=hr i hi
  have hcl:=rowC_len hci
  obtain ⟨u,v,hu,hz⟩:=rowC_get hci j (by omega)
  obtain ⟨lz,cz,hz1,hz2⟩:=intCells hz
  subst hz1 hz2
  have ts:=zInt64 hz (hf i j)
  have w5:IntKind.i64.wrap ((j:Int)+1)=((j+1:Nat):Int):=by rw [show (j:Int)+1=((j+1:Nat):Int) by omega];exact w64 (by omega) (by omega)
  have hset:(rs.set i r).length=i+1:=by simp [hrl]
  have gr:=bH_row (N:=n) (n:=n) (i:=i) (rows:=rs.set i r) (by omega)
  have gri:(rs.set i r).getD i []=r:=by rw [qZ,xA (by omega)];rfl
  rw [gri] at gr
  have go:getB (bH n n (rs.set i r)) 0=some (outS n n (i+1)):=by rw [bH_outer,hset]
  have gol:=outS_len (N:=n) (n:=n) (i:=i+1) (by omega)
  have gog:=outS_get (N:=n) (n:=n) (i:=i+1) (k:=i) (by omega)
  have hent:(M.getD i []).getD j 0=ent M i j:=rfl
  rw [hent] at ts
  simp only [r37_11,r37_12,SS,forall_const,reduceCtorEq,reduceIte,qQ,e0,e8,e37,qV,hl,hei,hcl,lM,hu]
  refine ⟨⟨by omega,by omega⟩,by omega,⟨by omega,by omega⟩,by omega,?_⟩
  refine callA_pure ts ?_
  simp only [SS,reduceIte,qQ,qJ,qK]
  simp only [r37_13,SS,forall_const,reduceIte,qQ]
  simp only [r37_15,SS,forall_const,reduceIte,qQ,e7,e8,qV,go,gol,gog,gr,hrm,i64z_len,i64z_set]
  refine ⟨⟨by omega,by omega⟩,by omega,⟨by omega,by omega⟩,by omega,?_⟩
  simp only [r37_16,SS,reduceIte,qQ,e37,w5,bH_set]
  refine ⟨k,_,_,by omega,⟨j+1,r.set j (ent M i j),by omega,by simp [hrm],fun t ht=>?_,?_,?_,?_,?_,?_,?_,?_,?_,?_⟩,.refl⟩
  ·rw [qZ]
   rcases (by omega:t<j∨t=j) with e | e
   ·rw [qP (by omega),←qZ];exact hr' t e
   ·rw [e,xA (by omega)];rfl
  ·rw [List.set_set]
  all_goals simp only [upd_app,qQ,reduceIte,if_false, *]
 ·have hjm:j=n:=by omega
  subst hjm
  exact hQ _ r hrm hr' (by simp only [upd_app,qQ,if_false,e0]) (by simp only [upd_app,qQ,if_false,e5]) (by simp only [upd_app,qQ,if_false,e7]) (by simp only [upd_app,qQ,if_false,e23]) (by simp only [upd_app,qQ,if_false,e24])
theorem mToInts {n:Nat} {M:List (List Int)} {a:AV} (h:Sq n M a) (hf:∀i j,In64 (ent M i j)):Ret Tryz.prog G 37 [a] [] (.tup [.vec (rowsV n M) n (some n),.bool true]) []:=by
 have hn:1≤n∧n≤8:=⟨h.lo,h.hi⟩
 have hS:Shp n M:=⟨h.len,h.cols⟩
 have t1:=mShape h.mat h.shape
 rw [h.cols 0 (by omega),h.len] at t1
 have c1:qX [a]=true:=by simp only [qX,h.closed,qY]
 obtain ⟨rows,c,hae,hl,hr⟩:=h.mat
 subst hae
 rw [h.len] at hl hr t1 c1 ⊢
 have hTl:=hS.len
 refine Ret_of mixed Tryz.func37 comp37 _ 63 res37 nt37 (by simp) (by simp) ?_
 simp only [c37,r37_0,r37_1,SS,reduceCtorEq,reduceIte]
 refine callA_pure t1 ?_ c1
 simp only [SS,reduceIte,qQ,qJ,qK]
 simp only [r37_2,SS,forall_const,reduceIte,qQ]
 simp only [r37_4,SS,reduceIte,qQ,qV]
 refine ⟨by decide,⟨by omega,by omega,by omega,by omega⟩,?_⟩
 simp only [r37_5,SS,reduceIte,qQ]
 have hb0:[some (List.replicate n (AV.vec [] 0 (some 0)))]=bH n n []:=rfl
 rw [hb0]
 refine W_loop (fun k E H=>∃i,i+k=n∧H=bH n n (M.take i)∧E 0= .vec rows n c∧E 5= .int .i64 (n:Nat)∧E 7= .sl 0 0 n 1 (some n)∧E 23= .int .i64 (n:Nat)∧E 24= .int .i64 (i:Nat)) (n:=n)
  ⟨0,by omega,rfl,by simp only [upd_app,argsE_app,qS,qQ,if_false],by simp only [upd_app,argsE_app,qW,qQ,reduceIte,if_false],by simp only [upd_app,argsE_app,qW,qQ,reduceIte,if_false],by simp only [upd_app,argsE_app,qW,qQ,reduceIte,if_false],by simp only [upd_app,argsE_app,qW,qQ,reduceIte,if_false];rfl⟩ ?_
 rintro k E H ⟨i,hik,rfl,e0,e5,e7,e23,e24⟩
 refine wpC_sound mixed ?_
 simp only [l37_0,r37_6,SS,reduceCtorEq,reduceIte,e23,e24]
 refine ⟨fun hlt=>?_,fun hge=>?_⟩
 ·obtain ⟨k,rfl⟩:∃k',k=k'+1:=⟨k-1,by omega⟩
  have hi:i<n:=by omega
  have htl:(M.take i).length=i:=by rw [List.length_take];omega
  have w5:IntKind.i64.wrap ((i:Int)+1)=((i+1:Nat):Int):=by rw [show (i:Int)+1=((i+1:Nat):Int) by omega];exact w64 (by omega) (by omega)
  have hbl:(bH n n (M.take i)).length=i+1:=by rw [bH_len,htl]
  have go:getB (bH n n (M.take i)++[some (i64z (List.replicate n 0))]) 0=some (outS n n i):=by
   have:getB (bH n n (M.take i)) 0=some (outS n n i):=by rw [bH_outer,htl]
   exact this
  have gol:=outS_len (N:=n) (n:=n) (i:=i) (by omega)
  have hnew:=bH_new (N:=n) (n:=n) (rows:=M.take i) (List.replicate n 0) (by omega)
  rw [htl] at hnew
  simp only [r37_7,r37_8,SS,reduceIte,qQ,e5,e7,e24,qV,hbl,i64z_rep,go,gol]
  refine ⟨by decide,⟨by omega,by omega,by omega,by omega⟩,⟨by omega,by omega⟩,by omega,?_⟩
  rw [hnew]
  have hrl:(M.take i++[List.replicate n 0]).length=i+1:=by simp;omega
  have hg0:getB (bH n n (M.take i++[List.replicate n 0])) 0=some (outS n n (i+1)):=by rw [bH_outer,hrl]
  have hgl:=outS_len (N:=n) (n:=n) (i:=i+1) (by omega)
  have hgg:=outS_get (N:=n) (n:=n) (i:=i+1) (k:=i) (by omega)
  simp only [r37_9,SS,forall_const,reduceIte,qQ,e7,qV,hg0,hgl,hgg]
  refine ⟨⟨by omega,by omega⟩,by omega,?_⟩
  refine mTo_in (rows:=rows) (c:=c) hn hS hl hr hf hi (rs:=M.take i++[List.replicate n 0]) hrl ?_ (by simp only [upd_app,qQ,if_false,e0]) (by simp only [upd_app,qQ,if_false,e5]) (by simp only [upd_app,qQ,if_false,e7]) (by simp only [upd_app,qQ,reduceIte,if_false]) (by simp only [upd_app,qQ,if_false,e23]) (by simp only [upd_app,qQ,if_false,e24]) (by simp only [upd_app,qQ,reduceIte,if_false]) (by simp only [upd_app,qQ,reduceIte,if_false]) ?_
  ·rw [qZ,qA (by omega),htl,qE]
   simp
  intro E' r hrm hr' f0 f5 f7 f23 f24
  have er:r=M.getD i []:=by
   have hTi:=hS.row i hi
   refine xV (by omega) fun t h1 h2=>?_
   have h3:=hr' t (by omega)
   unfold ent at h3
   rw [qZ,qI h1,qZ (l:=M.getD i []),qI h2] at h3
   exact h3
  have eset:(M.take i++[List.replicate n 0]).set i r=M.take (i+1):=by
   rw [xE _ _ (by omega),htl,qE,er]
   rw [List.take_add_one,qZ,qI (by omega)]
   rfl
  rw [eset]
  simp only [r37_17,SS,reduceCtorEq,reduceIte,qQ,f24,w5]
  refine ⟨k,_,_,by omega,⟨i+1,by omega,rfl,?_,?_,?_,?_,?_⟩,.refl⟩
  all_goals simp only [upd_app,qQ,reduceIte,if_false, *]
 ·have hin:i=n:=by omega
  have htl:M.take i=M:=qL (by omega)
  rw [htl]
  simp only [r37_18,SS,reduceIte,qQ,e7]
  have this:=bH_frz (N:=n) (n:=n) (rows:=M) hS.len hS.row
  have key:frzI 0 (bH n n M) 4 (.tup [.sl 0 0 n 1 (some n),.bool true])=some (.tup [.vec (rowsV n M) n (some n),.bool true]):=by
   rw [frzI]
   simp only [xH,List.mapM_nil,this]
   rfl
  exact ⟨.inl trivial,.tup [.sl 0 0 n 1 (some n),.bool true],rfl,.freeze 4 _ _ _ key (by intro i cs h;omega)⟩
end Go.Proofs.YtenboapacjlmoaaGreatDoor
namespace Go.Proofs.YtenboapacjlmoaaGreatDoor
open Nat renaming reduceEqDiff → qQ, le_refl → qC, lt_of_le_of_lt → qH, mul_le_mul → qM, zero_le → qO, pow_le_pow_right → qR, mul_one → xI, zero_add → xS
open Go.AL.AV.closed renaming closedL → qX
open List renaming getElem?_cons_zero → qJ, getElem?_cons_succ → qK, getD_cons_succ → qW, take_of_length_le → qL, nil_append → qT, length_nil → xQ, length_map → xB, drop_zero → xL
open Bool renaming and_self → qY, true_and → xP
set_option linter.unusedSimpArgs false
set_option linter.unusedVariables false
open Go Go.AL Go.Det Go.Limb
set_option maxRecDepth 100000
theorem fit_one {n:Nat} (h1:1≤n) (h5:n≤5):FitN n BIG (bigK (16^n) (8*16^n)).toNat:=by
 rcases (by omega:n=1∨n=2∨n=3∨n=4∨n=5) with rfl | rfl | rfl | rfl | rfl
 ·exact ⟨by decide +kernel,by decide +kernel⟩
 ·exact ⟨by decide +kernel,by decide +kernel⟩
 ·exact ⟨by decide +kernel,by decide +kernel⟩
 ·exact ⟨by decide +kernel,by decide +kernel⟩
 ·exact ⟨by decide +kernel,by decide +kernel⟩
def E2000:Nat:=2^2000
def E12000:Nat:=2^12000
def E12001:Nat:=2^12001
def E30000:Nat:=2^30000
theorem vec_fit {n:Nat} (h1:1≤n) (h5:n≤5):vecB (16^n) (8*16^n) (bigK (16^n) (8*16^n)) 7≤((E2000:Nat):Int)∧(bndS (bigK (16^n) (8*16^n)).toNat n:Int)≤((E12000:Nat):Int):=by
 rcases (by omega:n=1∨n=2∨n=3∨n=4∨n=5) with rfl | rfl | rfl | rfl | rfl
 ·exact ⟨by decide +kernel,by decide +kernel⟩
 ·exact ⟨by decide +kernel,by decide +kernel⟩
 ·exact ⟨by decide +kernel,by decide +kernel⟩
 ·exact ⟨by decide +kernel,by decide +kernel⟩
 ·exact ⟨by decide +kernel,by decide +kernel⟩
theorem bigK_fit {n:Nat} (h1:1≤n) (h5:n≤5):1≤bigK (16^n) (8*16^n)∧bigK (16^n) (8*16^n)≤2^200:=by
 rcases (by omega:n=1∨n=2∨n=3∨n=4∨n=5) with rfl | rfl | rfl | rfl | rfl
 ·exact ⟨by decide +kernel,by decide +kernel⟩
 ·exact ⟨by decide +kernel,by decide +kernel⟩
 ·exact ⟨by decide +kernel,by decide +kernel⟩
 ·exact ⟨by decide +kernel,by decide +kernel⟩
 ·exact ⟨by decide +kernel,by decide +kernel⟩
theorem fit_cg0 {x y a b B:Nat} (hx:x≤a) (hy:y≤b) (h:64*(b*a*b)+8*(b*a)+a+b<B):64*(y*x*y)+8*(y*x)+x+y<B:=by
 have h1:=qM hy hx
 have h2:=qM h1 hy
 omega
theorem fit_pr0 {x y a b B:Nat} (hx:x≤a) (hy:y≤b) (h:8*(a*b)+a+b<B):8*(x*y)+x+y<B:=by
 have h1:=qM hx hy
 omega
theorem fit_cg {x y:Nat} (hx:x≤2^200) (hy:y≤E12001):64*(y*x*y)+8*(y*x)+x+y<BIG:=fit_cg0 hx hy (by decide +kernel)
theorem fit_pr {x y:Nat} (hx:x≤E2000) (hy:y≤E12001):8*(x*y)+x+y<BIG:=fit_pr0 hx hy (by decide +kernel)
theorem two_le:E12000+1≤E12001:=by decide +kernel
theorem lt2000:E2000<E30000:=by decide +kernel
theorem lt12001:E12001<E30000:=by decide +kernel
theorem one12001:1≤E12001:=by decide +kernel
theorem big_lt:E30000<BIG:=by decide +kernel
open Go.Proofs
theorem stepOut_none {n:Nat} {M:List (List Int)} (h:∀i,i<n→OKr (rowF M) i):StepOut n M (.tup [.vec [] 0 none,.bool false]):=
 ⟨fun i j c=>absurd ((h i c.hi).1 j c.hj) c.no,fun i c=>absurd ((h i c.hi).2 c.h0) c.no,fun _=>rfl⟩
theorem stepOut_add {n i j:Nat} {M:List (List Int)} (h:CurA n (rowF M) i j):StepOut n M (.tup [matC (nearU n M i j),.bool true]):=
 ⟨fun i' j' c=>by obtain ⟨rfl,rfl⟩:=curA_one h c;rfl,fun i' c=>(curA_S h c).elim,fun hk=>absurd ((hk i h.hi).1 j h.hj) h.no⟩
theorem stepOut_sw {n i:Nat} {M:List (List Int)} (h:CurS n (rowF M) i):StepOut n M (.tup [matC (swapU n i),.bool true]):=
 ⟨fun i' j' c=>(curA_S c h).elim,fun i' c=>by obtain rfl:=curS_one h c;rfl,fun hk=>absurd ((hk i h.hi).2 h.h0) h.no⟩
theorem mat_frz {H:Heap} {o n:Nat} {ps:List (Nat×Option Nat)} {M:List (List Int)} {cap:Option Nat} (h:MatH H o ps n M):∃vs,frzI 0 H 3 (.sl o 0 M.length 1 cap)=some (.vec vs M.length cap)∧MatV M (.vec vs M.length cap):=by
 obtain ⟨vs,h1,h2,h3⟩:=rows_frz (mat_rows h)
 have hl:=h.len
 refine ⟨vs,?_,⟨vs,cap,rfl,h2,h3⟩⟩
 rw [frzI]
 simp only [Nat.not_lt_zero,if_false,h.outer,need,xS,xI,xB,hl,qC,if_true,xL]
 rw [qL (by simp [hl]),h1]
 rfl
theorem id_bnd {n y:Nat} (hy:1≤y):Bnd y (idM n):=by
 intro i j
 by_cases h:i<n∧j<n
 ·rw [id_ent h.1 h.2]
  split<;>simp<;>omega
 ·rw [(id_shp n).out (by omega)];simp
theorem near_bnd {n y i j:Nat} {M:List (List Int)} (hj:j<n) (hi:i<n) (hy:1≤y) (hc:(nearZ (stg (rowF M) j i j) (lead (rowF M) (j+1))).natAbs≤y):Bnd y (nearU n M i j):=by
 intro s t
 unfold nearU addU
 rw [(id_shp n).ent_set hj hi]
 split
 ·rw [Int.natAbs_neg];exact hc
 ·exact id_bnd hy s t
theorem swap_bnd {n y i:Nat} (hi:i<n) (hy:1≤y):Bnd y (swapU n i):=by
 intro s t
 unfold swapU
 rw [(swap_shp (id_shp n) hi (by omega)).2]
 exact id_bnd hy _ _
theorem near_shp {n i j:Nat} {M:List (List Int)} (hj:j<n):Shp n (nearU n M i j):=addU_shp hj
theorem swapU_shp {n i:Nat} (hi:i<n):Shp n (swapU n i):=(swap_shp (id_shp n) hi (by omega)).1
theorem state_bnd {n:Nat} {M0 M T:List (List Int)} (h1:1≤n) (h5:n≤5) (hp:Pos n (16^n) (rowF M0)) (ha:∀s,s<n→ent M0 s s≤8*16^n) (hL:LState n (16^n) (8*16^n) M0 M T):
  Bnd (bigK (16^n) (8*16^n)).toNat M∧Bnd E2000 T:=by
 have h16:(1:Int)≤16^n:=by
  have:=Nat.one_le_pow n 16 (by decide)
  exact_mod_cast this
 obtain ⟨b1,b2⟩:=hL.bound (by omega) (by omega) hp ha (cur_any (n:=n) (rowF M))
 have hv:=(vec_fit h1 h5).1
 have hv2:vecB (16^n) (8*16^n) (bigK (16^n) (8*16^n)) 7≤((E2000:Nat):Int):=hv
 refine ⟨fun i j=>?_,fun i j=>?_⟩
 ·by_cases h:i<n∧j<n
  ·have:=b1 i j h.1 h.2
   omega
  ·rw [hL.shM.out (by omega)];simp
 ·by_cases h:i<n∧j<n
  ·have:=b2 i j h.1 h.2
   omega
  ·rw [hL.shT.out (by omega)];simp
theorem rReduce {n:Nat} {M0:List (List Int)} {a:AV} (hsq:Sq n M0 a) (h5:n≤5) (hG:SmallG n M0) (hg:goodD n M0):∃M' T',Red n (rowF M')∧LState n (16^n) (8*16^n) M0 M' T'∧Ret Tryz.prog G 13 [a] [] (.tup [.vec (rowsV n M') n (some n),matC T',.int .i64 0]) []:=by
 have h1:=hsq.lo
 have h8:=hsq.hi
 obtain ⟨k0,M',T',hE,hst,hend,hred⟩:=run_gram h1 h8 hG hg
 refine ⟨M',T',hred,hend,?_⟩
 have hpos:=good_pos hG hg
 have h16:(1:Int)≤16^n:=by
  have:=Nat.one_le_pow n 16 (by decide)
  exact_mod_cast this
 have hK1:(1:Int)≤8*16^n:=by omega
 have ha:∀s,s<n→ent M0 s s≤8*16^n:=by
  intro s _
  have:=(hG.bnd s s).2
  have h2:(16:Int)^1≤16^n:=by
   have:=qR (n:=16) (by decide) h1
   exact_mod_cast this
  have e1:(16:Int)^1=16:=by decide
  omega
 have hF:=fit_one h1 h5
 have hb0:=(state_bnd h1 h5 hpos ha hst).1
 obtain ⟨ds,hds,hdf⟩:=leadL_ok hF hb0 n (qC _)
 have hds':leadO BIG M0=some ds:=by unfold leadO;rw [hsq.len];exact hds
 obtain ⟨d0,hd0,hd0f⟩:=detO_ok (B:=BIG) hF.one (fun k hk=>(hF.all (k:=k) hk).2) hst.shM hb0
 have hd0e:d0=lead (rowF M0) n:=detO_spec hst.shM (fun t ht=>by have:=hpos.pos t (by omega);omega) hd0
 have hval:valZ M0 ds=0:=by
  have hsy:=(symB_iff hst.shM).2 hpos.sym
  have hdf2:defB M0 ds=true:=by
   unfold defB
   rw [hsy,xP,all_pos,leadL_len hds]
   intro t ht
   rw [lead_ds hds hpos.pos t ht]
   exact hpos.pos (t+1) (by omega)
  unfold valZ
  rw [hsy,hdf2];rfl
 have t1:=gValidate divB_all hsq hds'
 rw [hval] at t1
 have t2:=rSmall divB_all hsq hd0 (qH hd0f hF.lt)
 have e2:decide (d0≤10000)=true:=decide_eq_true (by rw [hd0e];exact hg.2)
 rw [e2] at t2
 have t3:=mIdentity (n:=n) (by omega) (I:=idM n) (id_shp n).len (id_shp n).row (fun i j hi hj=>id_ent hi hj)
 obtain ⟨ps0,L,hLm,tc⟩:=mCopy (n:=n) hsq.mat (by omega) (by rw [hsq.len];omega) (fun i hi=>hsq.cols i (by rw [hsq.len] at hi;exact hi))
 have hM2:=mat_shift (H:=[]) hLm
 have hH2:applyE (effs (names [] 0) 0 L) (List.replicate L.length none)=L.map (renB (names [] 0)):=effs_new (H:=[]) (names [] 0) (fun i=>names_nil 0 i) L []
 simp only [qT,xQ] at hM2
 have c1:qX [a]=true:=by simp only [qX,hsq.closed,qY]
 have hI:(matC (idM n)).closed=true:=rfl
 have hlen:=hsq.len
 obtain ⟨ar,ac,hae,hal,har⟩:=hsq.mat
 subst hae
 rw [hlen] at hsq t1 t2 tc c1 ⊢
 refine Ret_of mixed Tryz.func13 comp13 _ 49 res13 nt13 (by simp) (by simp) ?_
 simp only [c13,r13_0,r13_1,SS,reduceCtorEq,reduceIte]
 refine callA_pure t1 ?_ c1
 simp only [SS,reduceIte,qQ]
 simp only [r13_2,SS,reduceIte,qQ]
 refine ⟨fun hne=>absurd rfl hne,fun _=>?_⟩
 simp only [r13_4,SS,reduceCtorEq,reduceIte,qQ]
 refine callA_pure t2 ?_ c1
 simp only [SS,forall_const,reduceIte,qQ]
 simp only [r13_6,SS,reduceCtorEq,reduceIte,qQ]
 refine callA_new tc c1 ?_
 simp only [restA,SS,reduceIte,qQ,AV.ren,names_nil,Nat.add_zero,hH2]
 generalize L.map (renB (names [] 0))=H2 at*
 generalize (ps0.map fun p=>(0+p.1,p.2))=ps at*
 simp only [r13_7,SS,reduceCtorEq,reduceIte,qQ]
 refine callA_pure t3 ?_
 simp only [SS,reduceIte,qQ,qJ,qK]
 obtain ⟨vs,hfz,hmv⟩:=mat_frz (cap:=some n) hM2
 rw [hlen] at hfz hmv
 have hsq0:Sq n M0 (.vec vs n (some n)):=⟨hmv,hlen,hst.shM.row,h1,h8⟩
 refine W.weak (weak_frz 0 3 (qC _) (qO _) (fun i cs h=>absurd h (by omega))) ?_
 refine W_loop (fun k E H=>∃M T av,Ends n M' T' k M T∧LState n (16^n) (8*16^n) M0 M T∧Sq n M av∧E 6=av∧E 7=matC T∧H=[]) (n:=k0)
  ⟨M0,idM n,_,hE,hst,hsq0,?_,?_,rfl⟩ ?_
 ·unfold frzE
  simp only [upd_app,argsE_app,qW,qQ,reduceIte,if_false]
  rw [if_neg (by simp [AV.under]),hfz]
  rfl
 ·unfold frzE
  simp only [upd_app,argsE_app,qW,qQ,reduceIte,if_false]
  rfl
 rintro k E H ⟨M,T,av,hEn,hL,hsM,e6,e7,rfl⟩
 refine wpC_sound mixed ?_
 obtain ⟨hbM,hbT⟩:=state_bnd h1 h5 hpos ha hL
 have hA200:(bigK (16^n) (8*16^n)).toNat≤2^200:=by
  have:=(bigK_fit h1 h5).2
  have e:((2^200:Nat):Int)=(2:Int)^200:=Int.natCast_pow 2 200
  omega
 have hTsq:Sq n T (matC T):=sq_mk hL.shT ⟨h1,h8⟩ hbT (by
  exact Nat.lt_trans lt2000 big_lt)
 have cM:qX [av]=true:=by simp only [qX,hsM.closed,qY]
 have next:∀U,Shp n U→Bnd (E12001) U→Ret Tryz.prog G 38 [av,matC U] [] (matC (cgM n M U)) []∧Ret Tryz.prog G 39 [matC T,matC U] [] (matC (mulM n T U)) []∧Sq n U (matC U):=by
  intro U hU hbU
  have hUsq:=sq_mk hU ⟨h1,h8⟩ hbU (by
   exact Nat.lt_trans lt12001 big_lt)
  exact ⟨gCongruent hsM hUsq hbM hbU (fit_cg hA200 (qC _)),mProduct hTsq hUsq ⟨hbT,hbU,fit_pr (qC _) (qC _)⟩,hUsq⟩
 have y1:1≤E12001:=one12001
 rcases ends_step h8 hK1 (Int.le_refl _) hL hEn with ⟨hok,rfl,rfl⟩ | ⟨k',i,j,rfl,hc,hL',hE'⟩ | ⟨k',i,rfl,hc,hL',hE'⟩
 ·have tS:=rStep (ds:=[]) hsM hF hbM (qC _) hL.pos.pos (stepOut_none hok)
  have hIn:∀i j,In64 (ent M i j):=by
   intro i j
   by_cases h:i<n∧j<n
   ·have:=hred.entry h.1 h.2
    have e:rowF M i j=ent M i j:=rfl
    unfold In64;omega
   ·rw [hL.shM.out (by omega)];unfold In64;omega
  have tI:=mToInts hsM hIn
  simp only [l13_0,r13_8,SS,reduceCtorEq,reduceIte,e6]
  refine callA_pure tS ?_ cM
  simp only [SS,reduceIte,qQ,qJ,qK]
  simp only [r13_9,SS,forall_const,reduceIte,qQ]
  simp only [r13_10,SS,reduceIte,qQ,e6]
  refine callA_pure tI ?_ cM
  simp only [SS,reduceIte,qQ,qJ,qK]
  simp only [r13_11,SS,reduceIte,qQ,e7]
  exact ⟨.inl trivial,_,rfl,.drop _ _ rfl (by intro i cs h;omega)⟩
 ·have hi:=hc.hi
  have hj:=hc.hj
  have hnb:(nearZ (stg (rowF M) j i j) (lead (rowF M) (j+1))).natAbs≤E12001:=by
   have h2:=near_le (l:=stg (rowF M) j i j) (hL.pos.pos (j+1) (by omega))
   have h3:=(lam_val hF hbM (qC n) hL.pos.pos (i:=i) (j:=j) (by omega)).2
   have h4:=(vec_fit h1 h5).2
   have h5':=two_le
   omega
  obtain ⟨tC,tP,hUsq⟩:=next (nearU n M i j) (near_shp (by omega)) (near_bnd (by omega) hi y1 hnb)
  have tS:=rStep (ds:=[]) hsM hF hbM (qC _) hL.pos.pos (stepOut_add hc)
  have hcg:=sq_mk hL'.shM ⟨h1,h8⟩ (state_bnd h1 h5 hpos ha hL').1 (qH (hF.all (k:=0) (qO _)).1 hF.lt)
  have c2:qX [av,matC (nearU n M i j)]=true:=by simp only [qX,hsM.closed,hUsq.closed,qY]
  have c3:qX [matC T,matC (nearU n M i j)]=true:=rfl
  simp only [l13_0,r13_8,SS,reduceCtorEq,reduceIte,e6]
  refine callA_pure tS ?_ cM
  simp only [SS,reduceIte,qQ,qJ,qK]
  simp only [r13_9,SS,forall_const,reduceIte,qQ]
  simp only [r13_12,SS,reduceIte,qQ,e6]
  refine callA_pure tC ?_ c2
  simp only [SS,reduceIte,qQ,e7]
  refine callA_pure tP ?_ c3
  simp only [SS,reduceIte,qQ]
  exact ⟨k',_,_,by omega,⟨_,_,_,hE',hL',hcg,by simp only [upd_app,qQ,reduceIte,if_false],by simp only [upd_app,qQ,reduceIte,if_false],rfl⟩,.refl⟩
 ·have hi:=hc.hi
  have h0:=hc.h0
  obtain ⟨tC,tP,hUsq⟩:=next (swapU n i) (swapU_shp hi) (swap_bnd hi y1)
  have tS:=rStep (ds:=[]) hsM hF hbM (qC _) hL.pos.pos (stepOut_sw hc)
  have hcg:=sq_mk hL'.shM ⟨h1,h8⟩ (state_bnd h1 h5 hpos ha hL').1 (qH (hF.all (k:=0) (qO _)).1 hF.lt)
  have c2:qX [av,matC (swapU n i)]=true:=by simp only [qX,hsM.closed,hUsq.closed,qY]
  have c3:qX [matC T,matC (swapU n i)]=true:=rfl
  simp only [l13_0,r13_8,SS,reduceCtorEq,reduceIte,e6]
  refine callA_pure tS ?_ cM
  simp only [SS,reduceIte,qQ,qJ,qK]
  simp only [r13_9,SS,forall_const,reduceIte,qQ]
  simp only [r13_12,SS,reduceIte,qQ,e6]
  refine callA_pure tC ?_ c2
  simp only [SS,reduceIte,qQ,e7]
  refine callA_pure tP ?_ c3
  simp only [SS,reduceIte,qQ]
  exact ⟨k',_,_,by omega,⟨_,_,_,hE',hL',hcg,by simp only [upd_app,qQ,reduceIte,if_false],by simp only [upd_app,qQ,reduceIte,if_false],rfl⟩,.refl⟩
theorem fit16:FitN 8 BIG 16:=⟨by decide,by decide +kernel⟩
theorem small_bnd {n:Nat} {M:List (List Int)} (h:SmallG n M):Bnd 16 M:=by
 intro i j
 have:=h.bnd i j
 omega
theorem val_pos_iff {n:Nat} {M:List (List Int)} {ds:List Int} (hS:Shp n M) (hsy:∀i j,i<n→j<n→ent M i j=ent M j i) (hds:leadL BIG M n=some ds):valZ M ds=0↔∀k,k<n+1→0<lead (rowF M) k:=by
 have hsb:=(symB_iff hS).2 (fun i j hi hj=>hsy i j hi hj)
 constructor
 ·intro hv
  have hdf:defB M ds=true:=by
   unfold valZ at hv
   rw [hsb] at hv
   cases e:defB M ds with
   | true=>rfl
   | false=>rw [e] at hv;simp at hv
  unfold defB at hdf
  rw [hsb,xP,all_pos,leadL_len hds] at hdf
  intro k hk
  exact (ds_lead hds n (qC _) hdf).1 k (by omega)
 ·intro hp
  have hdf:defB M ds=true:=by
   unfold defB
   rw [hsb,xP,all_pos,leadL_len hds]
   intro t ht
   rw [lead_ds hds (fun k hk=>hp k (by omega)) t ht]
   exact hp (t+1) (by omega)
  unfold valZ
  rw [hsb,hdf];rfl
theorem tGood {n:Nat} {M:List (List Int)} {a:AV} (hG:SmallG n M) (ha:ImV M a) (hn:1≤n∧n≤8):Ret Tryz.prog G 45 [a] [] (.bool (decide (goodD n M))) []:=by
 have hS:=hG.shp
 have hb:=small_bnd hG
 have hsq:=sq_mk hS hn hb (qH (fit16.all (k:=0) (qO _)).1 fit16.lt)
 have t0:=mOf (n:=n) ha (by omega) (by rw [hS.len];omega) (fun i hi=>hS.row i (by rw [hS.len] at hi;exact hi))
 obtain ⟨ds,hds,hdf⟩:=leadL_ok fit16 hb n hn.2
 have hds':leadO BIG M=some ds:=by unfold leadO;rw [hS.len];exact hds
 obtain ⟨d0,hd0,hd0f⟩:=detO_ok (B:=BIG) fit16.one (fun k hk=>(fit16.all (k:=k) (by omega)).2) hS hb
 have hd0B:d0.natAbs<BIG:=by have:=(fit16.all hn.2).1;have:=fit16.lt;omega
 have t1:=gValidate divB_all hsq hds'
 have t2:=mDet divB_all hsq.mat (by rw [hsq.len];omega) (fun i hi=>by rw [hsq.len] at hi ⊢;exact hsq.cols i hi) hd0
 obtain ⟨v3,hv3,t3⟩:=zSmall 10000 (by omega) (by omega)
 have t4:=zCmp (intV_isInt hd0B) hv3
 have hviff:=val_pos_iff hS hG.sym hds
 have hcl:=hsq.closed
 have c1:qX [a]=true:=by simp only [qX,ha.closed,qY]
 have c2:qX [matC M]=true:=by simp only [qX,hcl,qY]
 have c3:qX [intV d0,v3]=true:=by simp only [qX,(intV_isInt hd0B).closed,hv3.closed,qY]
 refine Ret_of mixed Tryz.func45 comp45 _ 16 res45 nt45 (by simp) (by simp) ?_
 simp only [c45,r45_0,r45_1,SS,reduceCtorEq,reduceIte]
 refine callA_pure t0 ?_ c1
 simp only [SS,reduceIte,qQ]
 simp only [r45_2,SS,reduceIte,qQ]
 refine callA_pure t1 ?_ c2
 simp only [SS,forall_const,reduceIte,qQ]
 refine ⟨fun h1=>?_,fun h1=>?_⟩
 ·have hp:=hviff.1 h1
  have hd0e:d0=lead (rowF M) n:=detO_spec hS (fun t ht=>by have:=hp t (by omega);omega) hd0
  refine callA_pure t2 ?_ c2 (intV_isInt hd0B).closed
  simp only [SS,forall_const,reduceIte,qQ]
  refine callA_pure t3 ?_ rfl hv3.closed
  simp only [SS,forall_const,reduceIte,qQ]
  refine callA_pure t4 ?_ c3
  simp only [SS,forall_const,reduceIte,qQ]
  have e:decide ((if d0<10000 then (-1:Int) else if d0=10000 then 0 else 1)≤0)=decide (goodD n M):=by
   rw [decide_eq_decide]
   unfold goodD
   rw [←hd0e]
   constructor
   ·intro h
    refine ⟨hp,?_⟩
    split at h
    ·omega
    ·split at h<;>omega
   ·rintro ⟨_,h⟩
    split
    ·omega
    ·split<;>omega
  rw [e]
  exact ⟨.inl trivial,_,rfl,.drop _ _ rfl (by intro i cs h;omega)⟩
 ·have hng:decide (goodD n M)=false:=decide_eq_false (fun hg=>h1 (hviff.2 hg.1))
  have d1:decide (valZ M ds=0)=false:=decide_eq_false h1
  rw [hng]
  simp only [d1]
  exact ⟨.inl trivial,_,rfl,.drop _ _ rfl (by intro i cs h;omega)⟩
end Go.Proofs.YtenboapacjlmoaaGreatDoor
namespace Go.Proofs.YtenboapacjlmoaaGreatDoor
open Nat renaming reduceEqDiff → qQ, reduceLeDiff → qU, reduceAdd → qB, le_refl → qC, sub_self → qE, lt_of_le_of_lt → qH, zero_le → qO, mul_one → xI, zero_add → xS
open Go.AL.AV.closed renaming closedL → qX
open List renaming getD_eq_getElem?_getD → qZ, getElem?_cons_zero → qJ, getElem?_cons_succ → qK, getD_cons_succ → qW, getElem?_append_right → qA, getElem?_append_left → qD, getElem?_eq_getElem → qI, take_of_length_le → qL, getElem?_set_ne → qP, getD_cons_zero → qS, nil_append → qT, length_nil → xQ, replicate_zero → xZ, ext_getElem → xV, append_nil → xC, set_append_right → xE, getElem?_eq_none → xG, mapM_cons → xH, drop_zero → xL, map_congr_left → xO, getElem?_set → xT, length_set → yK
open Int renaming toNat_natCast → qV, tmod_eq_emod_of_nonneg → qN, emod_lt_of_pos → xJ, emod_nonneg → xD
open Bool renaming and_self → qY
set_option linter.unusedSimpArgs false
set_option linter.unusedVariables false
open Go Go.AL Go.Proofs Go.Limb
set_option maxRecDepth 100000
theorem bH_ren {σ:Nat→Nat} {K N n:Nat} {rows:List (List Int)} (hσ:∀j,σ j=K+j):(bH N n rows).map (renB σ)=bO K N n rows:=by
 unfold bH bO
 rw [List.map_cons,List.map_map]
 congr 1
 ·show some ((outS N n rows.length).map (AV.ren σ))=_
  congr 1
  unfold outS outO
  rw [List.map_append]
  congr 1
  ·unfold rowsS rowsO
   rw [List.map_map]
   refine xO fun k _=>?_
   show AV.sl (σ (k+1)) 0 n 1 (some n)= .sl (K+k+1) 0 n 1 (some n)
   rw [hσ]
   rfl
  ·rw [List.map_replicate]
   rfl
 ·refine xO fun r _=>?_
  show some ((i64z r).map (AV.ren σ))=some (i64z r)
  rw [map_ren_closed _ _ (i64z_closed r)]
structure ChainR (n:Nat) (fork:Bool) (i:Nat) (R:List (List Int)):Prop where
 len:R.length=i
 row:∀s,s<i→(R.getD s []).length=n
 ent:∀s t,s<i→t<n→ent R s t=if s=t then 2 else if t<i∧(linked n fork s t=true∨linked n fork t s=true) then -1 else 0
def prevI (n:Nat) (fork:Bool) (i:Nat):Int:=if fork=true∧i+1=n∧3<n then (i:Int)-2 else (i:Int)-1
theorem linked_iff {n i k:Nat} {fork:Bool}:linked n fork i k=true↔(k:Int)=prevI n fork i:=by
 unfold linked prevI
 split
 ·rw [beq_iff_eq];omega
 ·rw [beq_iff_eq];omega
theorem linked_lt {n i k:Nat} {fork:Bool} (h:linked n fork i k=true):k<i:=by
 have:=linked_iff.1 h
 unfold prevI at this
 split at this<;>omega
theorem chain_done {n:Nat} {fork:Bool} {R:List (List Int)} (h:ChainR n fork n R):R=chainM n fork:=by
 refine shp_ext (n:=n) ⟨h.len,h.row⟩ (mkM_shp _ _) fun s t hs ht=>?_
 rw [h.ent s t hs ht]
 unfold chainM
 rw [ent_mk hs ht]
 by_cases e:s=t
 ·rw [if_pos e,if_pos e]
 ·rw [if_neg e,if_neg e]
  by_cases e2:linked n fork s t=true∨linked n fork t s=true
  ·rw [if_pos ⟨ht,e2⟩,if_pos e2]
  ·rw [if_neg (fun x=>e2 x.2),if_neg e2]
def twoRow (n i:Nat):List Int:=(List.replicate n 0).set i 2
theorem snoc_ent {R:List (List Int)} {i:Nat} (hl:R.length=i) (r:List Int) (s t:Nat):ent (R++[r]) s t=if s=i then r.getD t 0 else ent R s t:=by
 unfold ent
 by_cases e:s=i
 ·rw [if_pos e,e,qZ (l:=R++[r]),qA (by omega),hl,qE];rfl
 ·rw [if_neg e]
  rcases Nat.lt_or_ge s i with h | h
  ·rw [qZ (l:=R++[r]),qD (by omega),←qZ]
  ·rw [qZ (l:=R++[r]),xG (by simp;omega),qZ (l:=R),xG (by omega)]
theorem two_get {n i t:Nat} (hi:i<n):(twoRow n i).getD t 0=if t=i then 2 else 0:=by
 unfold twoRow
 rw [qZ,xT]
 by_cases e:i=t
 ·rw [if_pos e,if_pos (by simpa using hi),if_pos e.symm];rfl
 ·rw [if_neg e,if_neg (fun x=>e x.symm),List.getElem?_replicate]
  split<;>rfl
theorem chain_first {n i:Nat} {fork:Bool} {R:List (List Int)} (h:ChainR n fork i R) (hi:i<n) (hno:∀t,linked n fork i t=false):ChainR n fork (i+1) (R++[twoRow n i]):=by
 refine ⟨by simp [h.len],fun s hs=>?_,fun s t hs ht=>?_⟩
 ·rcases (by omega:s<i∨s=i) with e | e
  ·rw [qZ,qD (by rw [h.len];exact e),←qZ];exact h.row s e
  ·rw [e,qZ,qA (by rw [h.len];omega),h.len,qE];simp [twoRow]
 ·rw [snoc_ent h.len]
  by_cases e:s=i
  ·rw [if_pos e,two_get hi]
   subst e
   by_cases e2:t=s
   ·rw [if_pos e2,if_pos e2.symm]
   ·rw [if_neg e2,if_neg (fun x=>e2 x.symm),if_neg]
    rintro ⟨h1,h2 | h2⟩
    ·rw [hno] at h2;cases h2
    ·have:=linked_lt h2;omega
  ·rw [if_neg e,h.ent s t (by omega) ht]
   by_cases e2:s=t
   ·rw [if_pos e2,if_pos e2]
   ·rw [if_neg e2,if_neg e2]
    by_cases e3:t<i∧(linked n fork s t=true∨linked n fork t s=true)
    ·rw [if_pos e3,if_pos ⟨by omega,e3.2⟩]
    ·rw [if_neg e3,if_neg]
     rintro ⟨h1,h2⟩
     rcases (by omega:t<i∨t=i) with e4 | e4
     ·exact e3 ⟨e4,h2⟩
     ·rw [e4] at h2
      rcases h2 with h2 | h2
      ·have:=linked_lt h2;omega
      ·rw [hno] at h2;cases h2
theorem chain_next {n i k:Nat} {fork:Bool} {R:List (List Int)} (h:ChainR n fork i R) (hi:i<n) (hk:linked n fork i k=true):ChainR n fork (i+1) (setM (setM (R++[twoRow n i]) i k (-1)) k i (-1)):=by
 have hki:=linked_lt hk
 have hone:∀t,linked n fork i t=true↔t=k:=by
  intro t
  rw [linked_iff,←linked_iff.1 hk]
  omega
 have hl:(R++[twoRow n i]).length=i+1:=by simp [h.len]
 have hrow:∀s,s<i+1→((R++[twoRow n i]).getD s []).length=n:=by
  intro s hs
  rcases (by omega:s<i∨s=i) with e | e
  ·rw [qZ,qD (by rw [h.len];exact e),←qZ];exact h.row s e
  ·rw [e,qZ,qA (by rw [h.len];omega),h.len,qE];simp [twoRow]
 have hset:∀(X:List (List Int)) (a b:Nat) (z:Int),(∀s,s<i+1→(X.getD s []).length=n)→X.length=i+1→a<i+1→∀s,s<i+1→((setM X a b z).getD s []).length=n:=by
  intro X a b z hX hXl ha s hs
  unfold setM
  rw [qZ,xT]
  by_cases e:a=s
  ·subst e
   rw [if_pos rfl,if_pos (by omega),Option.getD_some,yK];exact hX a hs
  ·rw [if_neg e,←qZ];exact hX s hs
 have h1l:(setM (R++[twoRow n i]) i k (-1)).length=i+1:=by rw [setM_len];exact hl
 have h1r:=hset _ i k (-1) hrow hl (by omega)
 refine ⟨by rw [setM_len];exact h1l,hset _ k i (-1) h1r h1l (by omega),fun s t hs ht=>?_⟩
 rw [ent_set' (by omega) (by rw [h1r k (by omega)];exact hi),ent_set' (by omega) (by rw [hrow i (by omega)];omega),snoc_ent h.len]
 by_cases a1:s=k∧t=i
 ·obtain ⟨rfl,rfl⟩:=a1
  rw [if_pos ⟨rfl,rfl⟩,if_neg (by omega),if_pos ⟨by omega,.inr hk⟩]
 ·rw [if_neg a1]
  by_cases a2:s=i∧t=k
  ·obtain ⟨rfl,rfl⟩:=a2
   rw [if_pos ⟨rfl,rfl⟩,if_neg (by omega),if_pos ⟨by omega,.inl hk⟩]
  ·rw [if_neg a2]
   by_cases e:s=i
   ·rw [if_pos e,two_get hi]
    subst e
    by_cases e2:t=s
    ·rw [if_pos e2,if_pos e2.symm]
    ·rw [if_neg e2,if_neg (fun x=>e2 x.symm),if_neg]
     rintro ⟨h1,h2 | h2⟩
     ·exact a2 ⟨rfl,(hone t).1 h2⟩
     ·have:=linked_lt h2;omega
   ·rw [if_neg e,h.ent s t (by omega) ht]
    by_cases e2:s=t
    ·rw [if_pos e2,if_pos e2]
    ·rw [if_neg e2,if_neg e2]
     by_cases e3:t<i∧(linked n fork s t=true∨linked n fork t s=true)
     ·rw [if_pos e3,if_pos ⟨by omega,e3.2⟩]
     ·rw [if_neg e3,if_neg]
      rintro ⟨h1,h2⟩
      rcases (by omega:t<i∨t=i) with e4 | e4
      ·exact e3 ⟨e4,h2⟩
      ·rw [e4] at h2
       rcases h2 with h2 | h2
       ·have:=linked_lt h2;omega
       ·exact a1 ⟨(hone s).1 h2,e4⟩
set_option maxHeartbeats 4000000 in
theorem tChain {n:Nat} {fork:Bool} (hn:1≤n∧n≤8):Ret Tryz.prog G 42 [.int .i64 (n:Nat),.bool fork] [] (.sl 0 0 n 1 (some n)) (bH n n (chainM n fork)):=by
 refine Ret_of mixed Tryz.func42 comp42 _ 57 res42 nt42 (by simp) (by simp) ?_
 simp only [c42,r42_0,r42_1,SS,reduceCtorEq,reduceIte,qQ,qV]
 refine ⟨by decide,⟨by omega,by omega,by omega,by omega⟩,?_⟩
 simp only [r42_2,SS,reduceIte,qQ]
 have hb0:[some (List.replicate n (AV.vec [] 0 (some 0)))]=bH n n []:=rfl
 rw [hb0]
 refine W_loop (fun q E H=>∃i R,i+q=n∧ChainR n fork i R∧H=bH n n R∧E 0= .int .i64 (n:Nat)∧E 1= .bool fork∧E 5= .sl 0 0 n 1 (some n)∧E 11= .int .i64 (n:Nat)∧E 12= .int .i64 (i:Nat)) (n:=n)
  ⟨0,[],by omega,⟨rfl,fun s h=>absurd h (by omega),fun s t h=>absurd h (by omega)⟩,rfl,by simp only [upd_app,argsE_app,qS,qQ,if_false],by simp only [upd_app,argsE_app,qS,qW,qQ,if_false],by simp only [upd_app,argsE_app,qW,qQ,reduceIte,if_false],by simp only [upd_app,argsE_app,qW,qQ,reduceIte,if_false],by simp only [upd_app,argsE_app,qW,qQ,reduceIte,if_false];rfl⟩ ?_
 rintro q E H ⟨i,R,hiq,hR,rfl,e0,e1,e5,e11,e12⟩
 refine wpC_sound mixed ?_
 simp only [l42_0,r42_3,SS,reduceCtorEq,reduceIte,e11,e12]
 refine ⟨fun hlt=>?_,fun hge=>?_⟩
 ·obtain ⟨q,rfl⟩:∃q',q=q'+1:=⟨q-1,by omega⟩
  have hi:i<n:=by omega
  have hRl:=hR.len
  have w5:IntKind.i64.wrap ((i:Int)+1)=((i+1:Nat):Int):=by rw [show (i:Int)+1=((i+1:Nat):Int) by omega];exact w64 (by omega) (by omega)
  have w6:IntKind.i64.wrap ((i:Int)-1)=(i:Int)-1:=w64 (by omega) (by omega)
  have w7:IntKind.i64.wrap ((i:Int)-2)=(i:Int)-2:=w64 (by omega) (by omega)
  have w8:IntKind.i64.wrap ((n:Int)-1)=(n:Int)-1:=w64 (by omega) (by omega)
  have hbl:(bH n n R).length=i+1:=by rw [bH_len,hRl]
  have go:getB (bH n n R++[some (i64z (List.replicate n 0))]) 0=some (outS n n i):=by
   have:getB (bH n n R) 0=some (outS n n i):=by rw [bH_outer,hRl]
   exact this
  have gol:=outS_len (N:=n) (n:=n) (i:=i) (by omega)
  have hnew:=bH_new (N:=n) (n:=n) (rows:=R) (List.replicate n 0) (by omega)
  rw [hRl] at hnew
  simp only [r42_4,r42_5,SS,reduceCtorEq,reduceIte,qQ,e0,e5,e12,qV,hbl,i64z_rep,go,gol]
  refine ⟨by decide,⟨by omega,by omega,by omega,by omega⟩,⟨by omega,by omega⟩,by omega,?_⟩
  rw [hnew]
  have hrl:(R++[List.replicate n 0]).length=i+1:=by simp [hRl]
  have g0:getB (bH n n (R++[List.replicate n 0])) 0=some (outS n n (i+1)):=by rw [bH_outer,hrl]
  have gl:=outS_len (N:=n) (n:=n) (i:=i+1) (by omega)
  have gg:=outS_get (N:=n) (n:=n) (i:=i+1) (k:=i) (by omega)
  have gr:=bH_row (N:=n) (n:=n) (i:=i) (rows:=R++[List.replicate n 0]) (by omega)
  have grr:(R++[List.replicate n 0]).getD i []=List.replicate n 0:=by
   rw [qZ,qA (by omega),hRl,qE];simp
  rw [grr] at gr
  have eset:(R++[List.replicate n 0]).set i ((List.replicate n 0).set i 2)=R++[twoRow n i]:=by
   rw [xE _ _ (by omega),hRl,qE];rfl
  simp only [r42_6,SS,forall_const,reduceIte,qQ,e5,qV,g0,gl,gg,gr,i64z_len,List.length_replicate,i64z_set,bH_set,eset]
  refine ⟨⟨by omega,by omega⟩,by omega,⟨by omega,by omega⟩,by omega,?_⟩
  simp only [r42_7,SS,reduceIte,qQ,w6]
  have hrl2:(R++[twoRow n i]).length=i+1:=by simp [hRl]
  have k0:getB (bH n n (R++[twoRow n i])) 0=some (outS n n (i+1)):=by rw [bH_outer,hrl2]
  have tailS:∀k:Nat,linked n fork i k=true→k<i∧outS n n (i+1)=outS n n (i+1):=fun k h=>⟨linked_lt h,rfl⟩
  rcases (by cases fork<;>simp<;>omega:fork=false∨(fork=true∧i+1≠n)∨(fork=true∧i+1=n∧¬3<n)∨(fork=true∧i+1=n∧3<n)) with hf | ⟨hf,h1⟩ | ⟨hf,h1,h2⟩ | ⟨hf,h1,h2⟩
  ·subst hf
   have hprev:prevI n false i=(i:Int)-1:=by unfold prevI;rw [if_neg (by simp)]
   simp only [r42_8,SS,forall_const,reduceCtorEq,reduceIte,qQ,e0,e1,w8]
   simp only [r42_10,SS,reduceIte,qQ]
   refine ⟨fun hk0=>?_,fun hk0=>?_⟩
   ·obtain ⟨k,hk⟩:∃k:Nat,(i:Int)-1=(k:Int):=⟨((i:Int)-1).toNat,by omega⟩
    have hlk:linked n false i k=true:=linked_iff.2 (by rw [hprev];exact hk.symm)
    have hki:=linked_lt hlk
    have hnx:=chain_next hR hi hlk
    have gk:=outS_get (N:=n) (n:=n) (i:=i+1) (k:=k) (by omega)
    have r1:=bH_row (N:=n) (n:=n) (i:=i) (rows:=R++[twoRow n i]) (by omega)
    have r2:=bH_row (N:=n) (n:=n) (i:=k) (rows:=setM (R++[twoRow n i]) i k (-1)) (by rw [setM_len];omega)
    have l1:((R++[twoRow n i]).getD i []).length=n:=by
     rw [qZ,qA (by omega),hRl,qE];simp [twoRow]
    have l2:((setM (R++[twoRow n i]) i k (-1)).getD k []).length=n:=by
     unfold setM
     rw [qZ,qP (by omega),qD (by omega),←qZ]
     exact hR.row k hki
    have s1:=bH_set (N:=n) (n:=n) (i:=i) (rows:=R++[twoRow n i]) (((R++[twoRow n i]).getD i []).set k (-1))
    have s1e:(R++[twoRow n i]).set i (((R++[twoRow n i]).getD i []).set k (-1))=setM (R++[twoRow n i]) i k (-1):=rfl
    rw [s1e] at s1
    have s2:=bH_set (N:=n) (n:=n) (i:=k) (rows:=setM (R++[twoRow n i]) i k (-1)) (((setM (R++[twoRow n i]) i k (-1)).getD k []).set i (-1))
    have s2e:(setM (R++[twoRow n i]) i k (-1)).set k (((setM (R++[twoRow n i]) i k (-1)).getD k []).set i (-1))=setM (setM (R++[twoRow n i]) i k (-1)) k i (-1):=rfl
    rw [s2e] at s2
    simp only [r42_11,SS,forall_const,reduceIte,qQ,e5,hk,qV,k0,gl,gg,gk,r1,l1,i64z_len,i64z_set,s1,r2,l2,s2]
    refine ⟨⟨by omega,by omega⟩,by omega,⟨by omega,by omega⟩,by omega,⟨by omega,by omega⟩,by omega,⟨by omega,by omega⟩,by omega,rfl,?_⟩
    simp only [r42_12,SS,reduceIte,qQ,e12,w5]
    refine ⟨q,_,_,by omega,⟨i+1,_,by omega,hnx,rfl,?_,?_,?_,?_,?_⟩,.refl⟩
    all_goals simp only [upd_app,qQ,reduceIte,if_false, *]
   ·have hno:∀t,linked n false i t=false:=by
     intro t
     cases hb:linked n false i t with
     | false=>rfl
     | true=>have:=linked_iff.1 hb;rw [hprev] at this;omega
    have hnx:=chain_first hR hi hno
    simp only [r42_12,SS,reduceIte,qQ,e12,w5]
    refine ⟨q,_,_,by omega,⟨i+1,_,by omega,hnx,rfl,?_,?_,?_,?_,?_⟩,.refl⟩
    all_goals simp only [upd_app,qQ,reduceIte,if_false, *]
  ·subst hf
   have hprev:prevI n true i=(i:Int)-1:=by unfold prevI;rw [if_neg (fun e=>h1 e.2.1)]
   have d1:decide ((i:Int)=(n:Int)-1)=false:=decide_eq_false (by omega)
   simp only [r42_8,SS,forall_const,reduceCtorEq,reduceIte,qQ,e0,e1,w8,d1]
   simp only [r42_10,SS,reduceIte,qQ]
   refine ⟨fun hk0=>?_,fun hk0=>?_⟩
   ·obtain ⟨k,hk⟩:∃k:Nat,(i:Int)-1=(k:Int):=⟨((i:Int)-1).toNat,by omega⟩
    have hlk:linked n true i k=true:=linked_iff.2 (by rw [hprev];exact hk.symm)
    have hki:=linked_lt hlk
    have hnx:=chain_next hR hi hlk
    have gk:=outS_get (N:=n) (n:=n) (i:=i+1) (k:=k) (by omega)
    have r1:=bH_row (N:=n) (n:=n) (i:=i) (rows:=R++[twoRow n i]) (by omega)
    have r2:=bH_row (N:=n) (n:=n) (i:=k) (rows:=setM (R++[twoRow n i]) i k (-1)) (by rw [setM_len];omega)
    have l1:((R++[twoRow n i]).getD i []).length=n:=by
     rw [qZ,qA (by omega),hRl,qE];simp [twoRow]
    have l2:((setM (R++[twoRow n i]) i k (-1)).getD k []).length=n:=by
     unfold setM
     rw [qZ,qP (by omega),qD (by omega),←qZ]
     exact hR.row k hki
    have s1:=bH_set (N:=n) (n:=n) (i:=i) (rows:=R++[twoRow n i]) (((R++[twoRow n i]).getD i []).set k (-1))
    have s1e:(R++[twoRow n i]).set i (((R++[twoRow n i]).getD i []).set k (-1))=setM (R++[twoRow n i]) i k (-1):=rfl
    rw [s1e] at s1
    have s2:=bH_set (N:=n) (n:=n) (i:=k) (rows:=setM (R++[twoRow n i]) i k (-1)) (((setM (R++[twoRow n i]) i k (-1)).getD k []).set i (-1))
    have s2e:(setM (R++[twoRow n i]) i k (-1)).set k (((setM (R++[twoRow n i]) i k (-1)).getD k []).set i (-1))=setM (setM (R++[twoRow n i]) i k (-1)) k i (-1):=rfl
    rw [s2e] at s2
    simp only [r42_11,SS,forall_const,reduceIte,qQ,e5,hk,qV,k0,gl,gg,gk,r1,l1,i64z_len,i64z_set,s1,r2,l2,s2]
    refine ⟨⟨by omega,by omega⟩,by omega,⟨by omega,by omega⟩,by omega,⟨by omega,by omega⟩,by omega,⟨by omega,by omega⟩,by omega,rfl,?_⟩
    simp only [r42_12,SS,reduceIte,qQ,e12,w5]
    refine ⟨q,_,_,by omega,⟨i+1,_,by omega,hnx,rfl,?_,?_,?_,?_,?_⟩,.refl⟩
    all_goals simp only [upd_app,qQ,reduceIte,if_false, *]
   ·have hno:∀t,linked n true i t=false:=by
     intro t
     cases hb:linked n true i t with
     | false=>rfl
     | true=>have:=linked_iff.1 hb;rw [hprev] at this;omega
    have hnx:=chain_first hR hi hno
    simp only [r42_12,SS,reduceIte,qQ,e12,w5]
    refine ⟨q,_,_,by omega,⟨i+1,_,by omega,hnx,rfl,?_,?_,?_,?_,?_⟩,.refl⟩
    all_goals simp only [upd_app,qQ,reduceIte,if_false, *]
  ·subst hf
   have hprev:prevI n true i=(i:Int)-1:=by unfold prevI;rw [if_neg (fun e=>h2 e.2.2)]
   have d1:decide ((i:Int)=(n:Int)-1)=true:=decide_eq_true (by omega)
   have d2:decide ((3:Int)<(n:Nat))=false:=decide_eq_false (by omega)
   simp only [r42_8,SS,forall_const,reduceCtorEq,reduceIte,qQ,e0,e1,w8,d1,d2]
   simp only [r42_10,SS,reduceIte,qQ]
   refine ⟨fun hk0=>?_,fun hk0=>?_⟩
   ·obtain ⟨k,hk⟩:∃k:Nat,(i:Int)-1=(k:Int):=⟨((i:Int)-1).toNat,by omega⟩
    have hlk:linked n true i k=true:=linked_iff.2 (by rw [hprev];exact hk.symm)
    have hki:=linked_lt hlk
    have hnx:=chain_next hR hi hlk
    have gk:=outS_get (N:=n) (n:=n) (i:=i+1) (k:=k) (by omega)
    have r1:=bH_row (N:=n) (n:=n) (i:=i) (rows:=R++[twoRow n i]) (by omega)
    have r2:=bH_row (N:=n) (n:=n) (i:=k) (rows:=setM (R++[twoRow n i]) i k (-1)) (by rw [setM_len];omega)
    have l1:((R++[twoRow n i]).getD i []).length=n:=by
     rw [qZ,qA (by omega),hRl,qE];simp [twoRow]
    have l2:((setM (R++[twoRow n i]) i k (-1)).getD k []).length=n:=by
     unfold setM
     rw [qZ,qP (by omega),qD (by omega),←qZ]
     exact hR.row k hki
    have s1:=bH_set (N:=n) (n:=n) (i:=i) (rows:=R++[twoRow n i]) (((R++[twoRow n i]).getD i []).set k (-1))
    have s1e:(R++[twoRow n i]).set i (((R++[twoRow n i]).getD i []).set k (-1))=setM (R++[twoRow n i]) i k (-1):=rfl
    rw [s1e] at s1
    have s2:=bH_set (N:=n) (n:=n) (i:=k) (rows:=setM (R++[twoRow n i]) i k (-1)) (((setM (R++[twoRow n i]) i k (-1)).getD k []).set i (-1))
    have s2e:(setM (R++[twoRow n i]) i k (-1)).set k (((setM (R++[twoRow n i]) i k (-1)).getD k []).set i (-1))=setM (setM (R++[twoRow n i]) i k (-1)) k i (-1):=rfl
    rw [s2e] at s2
    simp only [r42_11,SS,forall_const,reduceIte,qQ,e5,hk,qV,k0,gl,gg,gk,r1,l1,i64z_len,i64z_set,s1,r2,l2,s2]
    refine ⟨⟨by omega,by omega⟩,by omega,⟨by omega,by omega⟩,by omega,⟨by omega,by omega⟩,by omega,⟨by omega,by omega⟩,by omega,rfl,?_⟩
    simp only [r42_12,SS,reduceIte,qQ,e12,w5]
    refine ⟨q,_,_,by omega,⟨i+1,_,by omega,hnx,rfl,?_,?_,?_,?_,?_⟩,.refl⟩
    all_goals simp only [upd_app,qQ,reduceIte,if_false, *]
   ·have hno:∀t,linked n true i t=false:=by
     intro t
     cases hb:linked n true i t with
     | false=>rfl
     | true=>have:=linked_iff.1 hb;rw [hprev] at this;omega
    have hnx:=chain_first hR hi hno
    simp only [r42_12,SS,reduceIte,qQ,e12,w5]
    refine ⟨q,_,_,by omega,⟨i+1,_,by omega,hnx,rfl,?_,?_,?_,?_,?_⟩,.refl⟩
    all_goals simp only [upd_app,qQ,reduceIte,if_false, *]
  ·subst hf
   have hprev:prevI n true i=(i:Int)-2:=by unfold prevI;rw [if_pos ⟨rfl,h1,h2⟩]
   have d1:decide ((i:Int)=(n:Int)-1)=true:=decide_eq_true (by omega)
   have d2:decide ((3:Int)<(n:Nat))=true:=decide_eq_true (by omega)
   simp only [r42_8,SS,forall_const,reduceCtorEq,reduceIte,qQ,e0,e1,w8,d1,d2]
   simp only [r42_9,SS,reduceIte,qQ,w7]
   simp only [r42_10,SS,reduceIte,qQ]
   refine ⟨fun hk0=>?_,fun hk0=>?_⟩
   ·obtain ⟨k,hk⟩:∃k:Nat,(i:Int)-2=(k:Int):=⟨((i:Int)-2).toNat,by omega⟩
    have hlk:linked n true i k=true:=linked_iff.2 (by rw [hprev];exact hk.symm)
    have hki:=linked_lt hlk
    have hnx:=chain_next hR hi hlk
    have gk:=outS_get (N:=n) (n:=n) (i:=i+1) (k:=k) (by omega)
    have r1:=bH_row (N:=n) (n:=n) (i:=i) (rows:=R++[twoRow n i]) (by omega)
    have r2:=bH_row (N:=n) (n:=n) (i:=k) (rows:=setM (R++[twoRow n i]) i k (-1)) (by rw [setM_len];omega)
    have l1:((R++[twoRow n i]).getD i []).length=n:=by
     rw [qZ,qA (by omega),hRl,qE];simp [twoRow]
    have l2:((setM (R++[twoRow n i]) i k (-1)).getD k []).length=n:=by
     unfold setM
     rw [qZ,qP (by omega),qD (by omega),←qZ]
     exact hR.row k hki
    have s1:=bH_set (N:=n) (n:=n) (i:=i) (rows:=R++[twoRow n i]) (((R++[twoRow n i]).getD i []).set k (-1))
    have s1e:(R++[twoRow n i]).set i (((R++[twoRow n i]).getD i []).set k (-1))=setM (R++[twoRow n i]) i k (-1):=rfl
    rw [s1e] at s1
    have s2:=bH_set (N:=n) (n:=n) (i:=k) (rows:=setM (R++[twoRow n i]) i k (-1)) (((setM (R++[twoRow n i]) i k (-1)).getD k []).set i (-1))
    have s2e:(setM (R++[twoRow n i]) i k (-1)).set k (((setM (R++[twoRow n i]) i k (-1)).getD k []).set i (-1))=setM (setM (R++[twoRow n i]) i k (-1)) k i (-1):=rfl
    rw [s2e] at s2
    simp only [r42_11,SS,forall_const,reduceIte,qQ,e5,hk,qV,k0,gl,gg,gk,r1,l1,i64z_len,i64z_set,s1,r2,l2,s2]
    refine ⟨⟨by omega,by omega⟩,by omega,⟨by omega,by omega⟩,by omega,⟨by omega,by omega⟩,by omega,⟨by omega,by omega⟩,by omega,rfl,?_⟩
    simp only [r42_12,SS,reduceIte,qQ,e12,w5]
    refine ⟨q,_,_,by omega,⟨i+1,_,by omega,hnx,rfl,?_,?_,?_,?_,?_⟩,.refl⟩
    all_goals simp only [upd_app,qQ,reduceIte,if_false, *]
   ·have hno:∀t,linked n true i t=false:=by
     intro t
     cases hb:linked n true i t with
     | false=>rfl
     | true=>have:=linked_iff.1 hb;rw [hprev] at this;omega
    have hnx:=chain_first hR hi hno
    simp only [r42_12,SS,reduceIte,qQ,e12,w5]
    refine ⟨q,_,_,by omega,⟨i+1,_,by omega,hnx,rfl,?_,?_,?_,?_,?_⟩,.refl⟩
    all_goals simp only [upd_app,qQ,reduceIte,if_false, *]
 ·have hin:i=n:=by omega
  subst hin
  have e:=chain_done hR
  subst e
  simp only [r42_13,SS,reduceIte,qQ,e5]
  exact ⟨.inl trivial,_,rfl,.keep _ _⟩
theorem bO_frzM {P:Heap} {m o N n:Nat} {rows:List (List Int)} (hm:m≤o) (ho:P.length=o) (hN:rows.length=N) (hn:∀i,i<N→(rows.getD i []).length=n):frzI m (P++bO o N n rows) 3 (.sl o 0 N 1 (some N))=some (.vec (rowsV n rows) N (some N)):=by
 have e0:outO o N n rows.length=rowsO o n N:=by
  unfold outO
  rw [hN,qE,xZ,xC]
 have key:(rowsO o n N).mapM (frzI m (P++bO o N n rows) 2)=some (rowsV n rows):=by
  have:rowsV n rows=(List.range N).map fun k=>AV.vec (i64z (rows.getD k [])) n (some n):=by
   refine xV (by simp [rowsV,hN]) fun k h1 h2=>?_
   simp only [rowsV,List.getElem_map,List.getElem_range]
   have hk:k<rows.length:=by simpa [rowsV] using h1
   rw [qZ,qI hk]
   rfl
  rw [this]
  unfold rowsO
  rw [List.mapM_map]
  have:∀l:List Nat,(∀k∈l,k<N)→l.mapM (fun k=>frzI m (P++bO o N n rows) 2 (.sl (o+k+1) 0 n 1 (some n)))=some (l.map fun k=>AV.vec (i64z (rows.getD k [])) n (some n)):=by
   intro l
   induction l with
   | nil=>intro _;rfl
   | cons k l ih=>
    intro h
    have hk:=h k (by simp)
    have e:frzI m (P++bO o N n rows) 2 (.sl (o+k+1) 0 n 1 (some n))=some (.vec (i64z (rows.getD k [])) n (some n)):=by
     rw [frzI]
     have hl:=hn k hk
     simp only [show ¬o+k+1<m by omega,if_false,bO_row ho (show k<rows.length by omega),need,xS,xI,i64z_len,hl,qC,if_true,xL]
     rw [qL (by rw [i64z_len];omega),i64z_frz]
     rfl
    rw [xH,e,ih (fun x hx=>h x (by simp [hx]))]
    rfl
  exact this _ (fun k hk=>List.mem_range.1 hk)
 rw [frzI]
 simp only [show ¬o<m by omega,if_false,bO_outer ho,e0,need,xS,xI,rowsO_len,qC,if_true,xL]
 rw [qL (by rw [rowsO_len];omega),key]
 rfl
def latC (d k:Int) (l q:List Int) (c c2:Option Nat):List AV:=[.int .u8 d,.int .u8 k,.vec (i8z l) l.length c,.vec (i8z q) q.length c2]
def tP2 (d k:Int) (l q:List Int) (c c2:Option Nat) (j:Nat):Heap:=[some (latC d k l q c c2),some (tapeC l c j)]
theorem lat_closed (d kd:Int) (l q:List Int) (c c2:Option Nat):qX (latC d kd l q c c2)=true:=by
 simp only [latC,qX,AV.closed,qY]
theorem tape_closed (l:List Int) (c:Option Nat) (j:Nat):qX (tapeC l c j)=true:=by
 simp only [tapeC,qX,AV.closed,qY]
theorem tGram_end {d kd:Int} {l q:List Int} {c c2:Option Nat} {j n:Nat} {M:List (List Int)} {E:Env} {Q:Post} (h:Tape8 l) (hj:j≤l.length) (hn:1≤n∧n≤8) (hG:SmallG n M)
  (e5:E 5= .ptr 1 0) (e6:E 6= .int .i64 (n:Nat)) (e7:E 7= .sl 2 0 n 1 (some n))
  (hQ:∀E' H',E' 4=(if goodD n M then .vec (rowsV n M) n (some n) else .sl 2 0 n 1 (some n))→H'=(if goodD n M then tP2 d kd l q c c2 j else tP2 d kd l q c c2 (tapeK l j n)++bO 2 n n (diaM l j n 2))→Q .ret E' H'):
  W Tryz.prog G 0 74 (.seq (.seq (.reg r15_19 none) (.cond (.t 69) (.seq (.reg r15_20 none) .ret) .skip)) (.seq (.reg r15_21 none) .ret)) E (tP2 d kd l q c c2 j++bO 2 n n M) Q:=by
 refine W.weak (weak_frz 2 3 (qO _) (by simp [tP2,bO]) (fun i cs hi hg=>?_)) ?_
 ·rcases (by omega:i=0∨i=1) with rfl | rfl
  ·obtain rfl:latC d kd l q c c2=cs:=by simpa [tP2] using hg
   exact underL_closed _ _ (lat_closed ..)
  ·obtain rfl:tapeC l c j=cs:=by simpa [tP2] using hg
   exact underL_closed _ _ (tape_closed ..)
 have htk:(tP2 d kd l q c c2 j++bO 2 n n M).take 2=tP2 d kd l q c c2 j:=rfl
 rw [htk]
 have hfz:=bO_frzM (P:=tP2 d kd l q c c2 j) (m:=2) (o:=2) (qC _) rfl hG.shp.len hG.shp.row
 have f5:frzE 2 3 (tP2 d kd l q c c2 j++bO 2 n n M) E 5= .ptr 1 0:=by unfold frzE;rw [e5,if_pos (by rfl)]
 have f6:frzE 2 3 (tP2 d kd l q c c2 j++bO 2 n n M) E 6= .int .i64 (n:Nat):=by unfold frzE;rw [e6,if_pos (by rfl)]
 have f7:frzE 2 3 (tP2 d kd l q c c2 j++bO 2 n n M) E 7= .vec (rowsV n M) n (some n):=by unfold frzE;rw [e7,if_neg (by simp [AV.under]),hfz];rfl
 generalize frzE 2 3 (tP2 d kd l q c c2 j++bO 2 n n M) E=E1 at*
 have hIn:∀s t,In64 (ent M s t):=by
  intro s t
  have:=hG.bnd s t
  unfold In64;omega
 have hIm:ImV M (.vec (rowsV n M) n (some n)):=imV_rows hG.shp.len hG.shp.row hIn
 have tG:=tGood hG hIm hn
 have c7:qX [.vec (rowsV n M) n (some n)]=true:=by simp only [qX,hIm.closed,qY]
 refine wpC_sound mixed ?_
 simp only [r15_19,SS,reduceIte,f7]
 refine callA_pure tG ?_ c7
 simp only [SS,reduceIte,qQ]
 refine ⟨fun hb=>?_,fun hb=>?_⟩
 ·have hng:¬goodD n M:=by simpa using hb
  have tD:=tDiagonal (c:=c) (most:=2) h hj hn (by omega)
  have heff:=tape_eff (H:=tP2 d kd l q c c2 j) (id:=1) (n:=n) (cs':=tapeC l c (tapeK l j n)) (M:=diaM l j n 2) (by show 1<2;omega)
  simp only [r15_20,SS,reduceIte,qQ,f5,f6]
  refine callA_one (id:=1) (cs:=tapeC l c j) (cs':=tapeC l c (tapeK l j n)) (L:=bO 1 n n (diaM l j n 2)) tD rfl rfl rfl (tape_closed ..) (tape_closed ..) ?_
  simp only [restA]
  rw [heff]
  simp only [SS,reduceIte,qQ]
  refine hQ _ _ ?_ ?_
  ·simp only [upd_app,qQ,reduceIte,if_false];rw [if_neg hng];rfl
  ·rw [if_neg hng];rfl
 ·have hg:goodD n M:=by simpa using hb
  simp only [r15_21,SS,reduceIte,qQ,f7]
  refine hQ _ _ ?_ ?_
  ·simp only [upd_app,qQ,reduceIte,if_false];rw [if_pos hg]
  ·rw [if_pos hg]
theorem rawK_le {l:List Int} {kind n:Nat}:rawK l kind n≤l.length:=by
 have hz:(0:Nat)≤l.length:=qO _
 unfold rawK
 split
 ·exact tapeK_le hz _
 split
 ·exact tapeK_le hz 1
 split
 ·exact tapeK_le hz 1
 ·exact tapeK_le hz _
theorem tP2_set (d kd:Int) (l q:List Int) (c c2:Option Nat) (j j':Nat) (X:Heap):(tP2 d kd l q c c2 j++X).set 1 (some (tapeC l c j'))=tP2 d kd l q c c2 j'++X:=rfl
theorem tGram_pick {d kd:Int} {l q:List Int} {c c2:Option Nat} {n:Nat} {E:Env} {Q:Post} (h:Tape8 l) (hk:0≤kd∧kd<256) (hn:1≤n∧n≤8)
  (e2:E 2= .ptr 0 0) (e5:E 5= .ptr 1 0) (e6:E 6= .int .i64 (n:Nat))
  (hQ:∀E',E' 5= .ptr 1 0→E' 6= .int .i64 (n:Nat)→E' 7= .sl 2 0 n 1 (some n)→Q .normal E' (tP2 d kd l q c c2 (rawK l (kd%8).toNat n)++bO 2 n n (rawM l (kd%8).toNat n))):
  W Tryz.prog G 0 74 (.seq (.reg r15_4 none) (.block 0 (.seq (.seq (.reg r15_5 none) (.cond (.t 24) .skip (.seq (.reg r15_6 none) (.cond (.t 24) .skip (.seq (.reg r15_7 none) (.cond (.t 24) .skip (.reg r15_8 none))))))) (.cond (.t 24) (.reg r15_9 none) (.seq (.reg r15_10 none) (.cond (.t 32) (.seq (.reg r15_11 none) (.reg r15_12 (some [(2,6),(4,6)]))) (.seq (.reg r15_13 none) (.cond (.t 45) (.seq (.reg r15_14 none) (.reg r15_15 (some [(4,10),(8,10)]))) (.seq (.reg r15_16 none) (.cond (.t 62) (.reg r15_17 none) (.reg r15_18 none))))))))))) E (tP2 d kd l q c c2 0) Q:=by
 have hz:(0:Nat)≤l.length:=qO _
 have g0:getB (tP2 d kd l q c c2 0) 0=some (latC d kd l q c c2):=rfl
 have g1:getB (tP2 d kd l q c c2 0) 1=some (tapeC l c 0):=rfl
 have hrem:Int.tmod kd 8=kd%8:=qN hk.1
 have tGen:=tGeneral (c:=c) h hz hn
 have h9:(1:Int)≤9∧(9:Int)≤9:=by omega
 have tD9:=tDiagonal (c:=c) (most:=9) h hz hn (by omega)
 have tD1:=tDiagonal (c:=c) (most:=1) h hz hn (by omega)
 have effG:=tape_eff (H:=tP2 d kd l q c c2 0) (id:=1) (n:=n) (cs':=tapeC l c (tapeK l 0 (n+triK n))) (M:=genM l 0 n) (by show 1<2;omega)
 have eff9:=tape_eff (H:=tP2 d kd l q c c2 0) (id:=1) (n:=n) (cs':=tapeC l c (tapeK l 0 n)) (M:=diaM l 0 n 9) (by show 1<2;omega)
 have eff1:=tape_eff (H:=tP2 d kd l q c c2 0) (id:=1) (n:=n) (cs':=tapeC l c (tapeK l 0 n)) (M:=diaM l 0 n 1) (by show 1<2;omega)
 refine wpC_sound mixed ?_
 simp only [r15_4,SS,forall_const,reduceIte,qB,qQ,qU,e2,g0,latC]
 refine ⟨by decide,?_⟩
 rw [hrem]
 rcases (by omega:kd%8=0∨kd%8=1∨kd%8=2∨kd%8=3∨kd%8=4∨kd%8=5∨kd%8=6∨kd%8=7) with e | e | e | e | e | e | e | e
 all_goals
  rw [e] at hQ ⊢
  simp only [r15_5,r15_6,r15_7,r15_8,r15_9,r15_10,r15_11,r15_13,r15_14,r15_16,r15_17,r15_18,SS,forall_const,reduceIte,qQ,e5,e6,Int.reduceEq,decide_true,decide_false]
 iterate 4
  ·refine callA_one (id:=1) (cs:=tapeC l c 0) (cs':=tapeC l c (tapeK l 0 (n+triK n))) (L:=bO 1 n n (genM l 0 n)) tGen rfl rfl rfl (tape_closed ..) (tape_closed ..) ?_
   simp only [restA]
   rw [effG]
   simp only [SS,reduceIte,qQ]
   exact hQ _ (by simp only [upd_app,qQ,if_false,e5]) (by simp only [upd_app,qQ,if_false,e6]) (by simp only [upd_app,qQ,reduceIte,if_false];rfl)
 ·have tC:=tChain (n:=n) (fork:=false) (by omega)
  have hS:Shp n (chainM n false):=mkM_shp _ _
  have hcl:qX [.int .i64 (n:Nat),.bool false]=true:=rfl
  have effC:applyE (effs (names [] (tP2 d kd l q c c2 0).length) 0 (bH n n (chainM n false))) (tP2 d kd l q c c2 0++List.replicate (bH n n (chainM n false)).length none)=tP2 d kd l q c c2 0++bO 2 n n (chainM n false):=by
   have:=effs_new (H:=tP2 d kd l q c c2 0) (names [] (tP2 d kd l q c c2 0).length) (fun i=>names_nil _ i) (bH n n (chainM n false)) []
   simp only [xQ,qT] at this
   rw [this]
   exact congrArg (tP2 d kd l q c c2 0++ ·) (bH_ren (K:=2) (fun i=>names_nil 2 i))
  have hv:AV.ren (names [] (tP2 d kd l q c c2 0).length) (.sl 0 0 n 1 (some n))= .sl 2 0 n 1 (some n):=rfl
  have tB:=tBelow (c:=c) (k:=0) (m:=3) h hz (by omega)
  have ko:∀j,getB (tP2 d kd l q c c2 j++bO 2 n n (chainM n false)) 2=some (outO 2 n n n):=fun j=>by
   have:=bO_outer (P:=tP2 d kd l q c c2 j) (o:=2) (N:=n) (n:=n) (rows:=chainM n false) rfl
   rw [hS.len] at this;exact this
  have kl:=outO_len (o:=2) (N:=n) (n:=n) (i:=n) (qC _)
  have kg:=outO_get (o:=2) (N:=n) (n:=n) (i:=n) (k:=0) (by omega)
  have gr:=fun j=>bO_row (P:=tP2 d kd l q c c2 j) (o:=2) (N:=n) (n:=n) (rows:=chainM n false) rfl (i:=0) (by rw [hS.len];omega)
  have lr:=hS.row 0 (by omega)
  have gz:(i64z ((chainM n false).getD 0 [])).getD 0 .junk= .int .i64 2:=by
   rw [i64z_getD _ _ (by omega)]
   have:=chain_diag (fork:=false) (show 0<n by omega)
   unfold ent at this
   rw [this]
  have hbz:=byte_mod l 0 (show (1:Int)≤3 by decide)
  have w2:IntKind.i64.wrap (2+byteZ l 0%3)=2+byteZ l 0%3:=w64 (by omega) (by omega)
  have hs:=fun j=>bO_set (P:=tP2 d kd l q c c2 j) (o:=2) (N:=n) (n:=n) (rows:=chainM n false) rfl (i:=0) (((chainM n false).getD 0 []).set 0 (2+byteZ l 0%3))
  refine callA_new tC hcl ?_
  simp only [restA,SS,reduceIte,qQ]
  rw [effC,hv]
  have z0:Int.toNat 0=0:=rfl
  simp only [r15_12,SS,forall_const,reduceIte,qB,qQ,z0,ko,kl,kg,gr,lr,gz,i64z_len,e5]
  refine ⟨by omega,by omega,by omega,by omega,?_⟩
  refine callA_one0 (id:=1) tB rfl rfl ?_
  simp only [restA,applyE,keys,xZ,xC,SS,reduceIte,qQ,tP2_set,z0,gr,lr,i64z_len,w2,i64z_set]
  have hr:rawM l 4 n=(chainM n false).set 0 (((chainM n false).getD 0 []).set 0 (2+byteZ l 0%3)):=by
   unfold rawM
   rw [if_neg (by decide),if_pos rfl]
   unfold bumpM
   rw [chain_diag (by omega)]
   rfl
  have h3:=hs (nextK l 0)
  rw [←hr] at h3
  refine ⟨⟨by omega,by omega⟩,by omega,rfl,?_⟩
  refine Eq.mp (congrArg _ h3.symm) ?_
  exact hQ _ (by simp only [upd_app,qQ,if_false,e5]) (by simp only [upd_app,qQ,if_false,e6]) (by simp only [upd_app,qQ,reduceIte,if_false])
 ·have tC:=tChain (n:=n) (fork:=true) (by omega)
  have hS:Shp n (chainM n true):=mkM_shp _ _
  have hcl:qX [.int .i64 (n:Nat),.bool true]=true:=rfl
  have effC:applyE (effs (names [] (tP2 d kd l q c c2 0).length) 0 (bH n n (chainM n true))) (tP2 d kd l q c c2 0++List.replicate (bH n n (chainM n true)).length none)=tP2 d kd l q c c2 0++bO 2 n n (chainM n true):=by
   have:=effs_new (H:=tP2 d kd l q c c2 0) (names [] (tP2 d kd l q c c2 0).length) (fun i=>names_nil _ i) (bH n n (chainM n true)) []
   simp only [xQ,qT] at this
   rw [this]
   exact congrArg (tP2 d kd l q c c2 0++ ·) (bH_ren (K:=2) (fun i=>names_nil 2 i))
  have hv:AV.ren (names [] (tP2 d kd l q c c2 0).length) (.sl 0 0 n 1 (some n))= .sl 2 0 n 1 (some n):=rfl
  have tB:=tBelow (c:=c) (k:=0) (m:=2) h hz (by omega)
  have ko:∀j,getB (tP2 d kd l q c c2 j++bO 2 n n (chainM n true)) 2=some (outO 2 n n n):=fun j=>by
   have:=bO_outer (P:=tP2 d kd l q c c2 j) (o:=2) (N:=n) (n:=n) (rows:=chainM n true) rfl
   rw [hS.len] at this;exact this
  have kl:=outO_len (o:=2) (N:=n) (n:=n) (i:=n) (qC _)
  have kg:=outO_get (o:=2) (N:=n) (n:=n) (i:=n) (k:=(n-1)) (by omega)
  have gr:=fun j=>bO_row (P:=tP2 d kd l q c c2 j) (o:=2) (N:=n) (n:=n) (rows:=chainM n true) rfl (i:=(n-1)) (by rw [hS.len];omega)
  have lr:=hS.row (n-1) (by omega)
  have gz:(i64z ((chainM n true).getD (n-1) [])).getD (n-1) .junk= .int .i64 2:=by
   rw [i64z_getD _ _ (by omega)]
   have:=chain_diag (fork:=true) (show (n-1)<n by omega)
   unfold ent at this
   rw [this]
  have hbz:=byte_mod l 0 (show (1:Int)≤2 by decide)
  have w2:IntKind.i64.wrap (2+byteZ l 0%2)=2+byteZ l 0%2:=w64 (by omega) (by omega)
  have hs:=fun j=>bO_set (P:=tP2 d kd l q c c2 j) (o:=2) (N:=n) (n:=n) (rows:=chainM n true) rfl (i:=(n-1)) (((chainM n true).getD (n-1) []).set (n-1) (2+byteZ l 0%2))
  refine callA_new tC hcl ?_
  simp only [restA,SS,reduceIte,qQ]
  rw [effC,hv]
  have w1:IntKind.i64.wrap ((n:Int)-1)=((n-1:Nat):Int):=by rw [show (n:Int)-1=((n-1:Nat):Int) by omega];exact w64 (by omega) (by omega)
  simp only [r15_15,SS,forall_const,reduceIte,qQ,w1,qV,ko,kl,kg,gr,lr,gz,i64z_len,e5,e6]
  refine ⟨⟨by omega,by omega⟩,by omega,⟨by omega,by omega⟩,by omega,?_⟩
  refine callA_one0 (id:=1) tB rfl rfl ?_
  simp only [restA,applyE,keys,xZ,xC,SS,reduceIte,qQ,tP2_set,qV,gr,lr,i64z_len,w2,i64z_set]
  have hr:rawM l 5 n=(chainM n true).set (n-1) (((chainM n true).getD (n-1) []).set (n-1) (2+byteZ l 0%2)):=by
   unfold rawM
   rw [if_neg (by decide),if_neg (by decide),if_pos rfl]
   unfold bumpM
   rw [chain_diag (by omega)]
   rfl
  have h3:=hs (nextK l 0)
  rw [←hr] at h3
  refine ⟨⟨by omega,by omega⟩,by omega,?_,?_⟩
  ·have hne:2+(n-1)≠0:=by omega
   generalize 2+(n-1)=s at hne
   simp [dynB,disjL]
   exact hne
  refine Eq.mp (congrArg _ h3.symm) ?_
  exact hQ _ (by simp only [upd_app,qQ,if_false,e5]) (by simp only [upd_app,qQ,if_false,e6]) (by simp only [upd_app,qQ,reduceIte,if_false])
 ·refine callA_one (id:=1) (cs:=tapeC l c 0) (cs':=tapeC l c (tapeK l 0 n)) (L:=bO 1 n n (diaM l 0 n 9)) tD9 rfl rfl rfl (tape_closed ..) (tape_closed ..) ?_
  simp only [restA]
  rw [eff9]
  simp only [SS,reduceIte,qQ]
  exact hQ _ (by simp only [upd_app,qQ,if_false,e5]) (by simp only [upd_app,qQ,if_false,e6]) (by simp only [upd_app,qQ,reduceIte,if_false];rfl)
 ·refine callA_one (id:=1) (cs:=tapeC l c 0) (cs':=tapeC l c (tapeK l 0 n)) (L:=bO 1 n n (diaM l 0 n 1)) tD1 rfl rfl rfl (tape_closed ..) (tape_closed ..) ?_
  simp only [restA]
  rw [eff1]
  simp only [SS,reduceIte,qQ]
  exact hQ _ (by simp only [upd_app,qQ,if_false,e5]) (by simp only [upd_app,qQ,if_false,e6]) (by simp only [upd_app,qQ,reduceIte,if_false];rfl)
theorem Ret_ofW {P:Program} {Γ:Glob} {f:FuncId} {fn:Func} {c:CC} {args:List AV} {H:Heap} {v:AV} {Hout:Heap} (hm:P.follows .mixedOrders=true) (hf:P.funcs[f]?=some fn) (hc:fn.body.bind (compC P Γ fn.ntmps)=some c) (rs:List ResultVar) (nt:Nat)
  (hrs:fn.results.toList=rs) (hnt:fn.ntmps=nt) (hn:args.length≤nt) (hlen:H.length≤Hout.length)
  (h:W P Γ H.length nt c (argsE args) H (fun x E' H'=>(x= .ret∨x= .normal)∧∃v',resA P rs E' H'=some v'∧Fin H.length v' H' v Hout)) (hne:f≠4095:=by decide):Ret P Γ f args H v Hout:=by
 subst hrs hnt
 cases hb:fn.body with
 | none=>rw [hb] at hc;simp at hc
 | some code=>
  rw [hb] at hc
  exact Ret_intro hf hb hc hn hlen hne h
theorem tGram {d kd most:Int} {l q:List Int} {c c2:Option Nat} {n:Nat} (h:Tape8 l) (hd:0≤d∧d<256) (hk:0≤kd∧kd<256) (hm:1≤most∧most≤8) (hn:(n:Int)=1+d%most):
  Ret Tryz.prog G 15 [.agg (latC d kd l q c c2),.int .i64 most] [] (.vec (rowsV n (gramM l (kd%8).toNat n)) n (some n)) []:=by
 have hz:(0:Nat)≤l.length:=qO _
 have hmod:=xJ d (show 0<most by omega)
 have hmod0:=xD d (show most≠0 by omega)
 have hn8:1≤n∧n≤8:=by omega
 have g0:getB [some (latC d kd l q c c2)] 0=some (latC d kd l q c c2):=rfl
 refine Ret_ofW mixed Tryz.func15 comp15 _ 74 res15 nt15 (by simp) (by simp) ?_
 unfold c15
 refine W_seq (wpC_sound mixed ?_)
 simp only [r15_0,SS]
 refine W_seq (wpC_sound mixed ?_)
 simp only [r15_1,SS,forall_const,reduceIte,qB,qQ,qU]
 refine ⟨by show 3≤4;omega,⟨rfl,rfl⟩,?_⟩
 have eH:([some (latC d kd l q c c2),some (setL [AV.vec [] 0 (some 0),AV.int IntKind.i64 0] 0 ((latC d kd l q c c2).getD 2 AV.junk).cells)]:Heap)=tP2 d kd l q c c2 0:=rfl
 rw [eH]
 have g1:getB (tP2 d kd l q c c2 0) 0=some (latC d kd l q c c2):=rfl
 have gd:(latC d kd l q c c2).getD 0 .junk= .int .u8 d:=rfl
 have gl:(latC d kd l q c c2).length=4:=rfl
 have wd:IntKind.i64.wrap d=d:=w64 (by omega) (by omega)
 have et:Int.tmod d most=d%most:=qN hd.1
 have wm:IntKind.i64.wrap (d%most)=d%most:=w64 (by omega) (by omega)
 have wn:IntKind.i64.wrap (1+d%most)=(n:Int):=by rw [←hn];exact w64 (by omega) (by omega)
 refine W_seq (wpC_sound mixed ?_)
 simp only [r15_2,SS,forall_const,reduceIte,qQ,qU,g1,gd,gl,wd,et,wn]
 refine ⟨by omega,?_⟩
 refine W_seq (wpC_sound mixed ?_)
 simp only [r15_3,SS]
 refine W_seq (tGram_pick h hk hn8 (by simp only [upd_app,argsE_app,qW,qQ,reduceIte,if_false]) (by simp only [upd_app,argsE_app,qW,qQ,reduceIte,if_false]) (by simp only [upd_app,argsE_app,qW,qQ,reduceIte,if_false]) fun E1 f5 f6 f7=>?_)
 simp only [SS]
 refine tGram_end h rawK_le hn8 (raw_small hn8.1) f5 f6 f7 fun E2 H2 e4 eH2=>?_
 refine ⟨.inl rfl,_,rfl,?_⟩
 rw [e4,eH2]
 unfold gramM
 by_cases hg:goodD n (rawM l (kd%8).toNat n)
 ·rw [if_pos hg,if_pos hg,if_pos hg]
  exact .freeze 1 _ _ _ rfl (by intro i cs h;omega)
 ·rw [if_neg hg,if_neg hg,if_neg hg]
  have hS:=dia_shp l (rawK l (kd%8).toNat n) n 2
  have:=bO_frz (P:=tP2 d kd l q c c2 (tapeK l (rawK l (kd%8).toNat n) n)) (o:=2) rfl hS.len hS.row
  exact .freeze 3 _ _ _ this (by intro i cs h;omega)
open Go.Det
theorem tForm {d kd most:Int} {l q:List Int} {c c2:Option Nat} {n:Nat} (h:Tape8 l) (hd:0≤d∧d<256) (hk:0≤kd∧kd<256) (hm:1≤most∧most≤5) (hn:(n:Int)=1+d%most):
  ∃M' T',Red n (rowF M')∧LState n (16^n) (8*16^n) (gramM l (kd%8).toNat n) M' T'∧Ret Tryz.prog G 5 [.agg (latC d kd l q c c2),.int .i64 most] [] (.vec (rowsV n M') n (some n)) []:=by
 have hmod:=xJ d (show 0<most by omega)
 have hmod0:=xD d (show most≠0 by omega)
 have hn8:1≤n∧n≤8:=by omega
 have tG:=tGram (c:=c) (c2:=c2) (q:=q) h hd hk (by omega:1≤most∧most≤8) hn
 obtain ⟨hG,hg⟩:=gram_ok (l:=l) (kind:=(kd%8).toNat) hn8.1 hn8.2
 generalize gramM l (kd%8).toNat n=M0 at*
 have hS:=hG.shp
 have hIn:∀s t,In64 (ent M0 s t):=by
  intro s t
  have:=hG.bnd s t
  unfold In64;omega
 have hIm:ImV M0 (.vec (rowsV n M0) n (some n)):=imV_rows hS.len hS.row hIn
 have tO:=mOf (n:=n) hIm (by omega) (by rw [hS.len];omega) (fun i hi=>hS.row i (by rw [hS.len] at hi;exact hi))
 have hsq:=sq_mk hS hn8 (small_bnd hG) (qH (fit16.all (k:=0) (qO _)).1 fit16.lt)
 obtain ⟨M',T',hred,hL,tR⟩:=rReduce hsq (by omega) hG hg
 refine ⟨M',T',hred,hL,?_⟩
 have c1:qX [.agg (latC d kd l q c c2),.int .i64 most]=true:=by simp only [qX,AV.closed,lat_closed,qY]
 have c2':qX [.vec (rowsV n M0) n (some n)]=true:=by simp only [qX,hIm.closed,qY]
 have c3:qX [matC M0]=true:=by simp only [qX,hsq.closed,qY]
 have g0:getB [some (latC d kd l q c c2)] 0=some (latC d kd l q c c2):=rfl
 refine Ret_of mixed Tryz.func5 comp5 _ 18 res5 nt5 (by simp) (by simp) ?_
 simp only [c5,r5_0,r5_1,SS,reduceCtorEq,reduceIte,qQ,g0]
 have et4:List.take 4 (latC d kd l q c c2)=latC d kd l q c c2:=rfl
 refine ⟨by show 4≤4;omega,?_⟩
 rw [et4]
 refine callA_pure tG ?_ c1 hIm.closed
 simp only [restA,SS,reduceIte,qQ]
 refine callA_pure tO ?_ c2' hsq.closed
 simp only [restA,SS,reduceIte,qQ]
 refine callA_pure tR ?_ c3 (by simp only [AV.closed,qX,qY];rfl)
 simp only [restA,SS,reduceIte,qQ,qJ,qK,r5_2]
 exact ⟨.inl trivial,_,rfl,.freeze 1 _ _ _ rfl (by intro i cs h;omega)⟩
end Go.Proofs.YtenboapacjlmoaaGreatDoor
namespace Go.Proofs.YtenboapacjlmoaaGreatDoor
open Nat renaming le_refl → qC, le_trans → qG
set_option linter.unusedSimpArgs false
set_option linter.unusedVariables false
open Go Go.AL Go.Proofs Go.Det
set_option maxRecDepth 100000
theorem rA_guardT {P:Program} {Γ:Glob} {n0:Nat} {E:Env} {H:Heap} {d:Option Nat} {g:Nat} {want:Bool} {k:CK} {os:List COp} {Q:List FP→Env→Heap→Prop} (h:E g= .bool want):regA P Γ n0 (⟨d,some (g,want),k⟩::os) E H Q=regA P Γ n0 (⟨d,none,k⟩::os) E H Q:=by
 rw [rA_guardf,h]
 simp only [boolA,bindP,upd_self h,true_implies]
 apply propext
 refine ⟨fun x=>x.1,fun x=>⟨x,fun e=>?_⟩⟩
 cases want<;>simp at e
theorem sumN_mono (f:Nat→Nat) {a b:Nat} (h:a≤b):Count.sumN f a≤Count.sumN f b:=by
 induction b with
 | zero=>rw [Nat.le_zero.1 h];exact qC _
 | succ b ih=>
  rcases Nat.lt_or_ge a (b+1) with h' | h'
  ·exact qG (ih (by omega)) (Nat.le_add_right _ _)
  ·rw [show a=b+1 by omega];exact qC _
theorem sumN_term (f:Nat→Nat) {i b:Nat} (h:i<b):f i≤Count.sumN f b:=
 qG (Nat.le_add_left _ _) (sumN_mono f (show i+1≤b from h))
end Go.Proofs.YtenboapacjlmoaaGreatDoor
namespace Go.Proofs.YtenboapacjlmoaaGreatDoor
open Nat renaming reduceEqDiff → qQ, reduceLeDiff → qU, reduceAdd → qB, le_trans → qG, lt_of_le_of_lt → qH, pow_le_pow_right → qR, div_le_self → xX, pos_of_ne_zero → xK, gcd_dvd_right → xW, gcd_dvd_left → xU, mod_lt → yY
open Go.AL.AV.closed renaming closedL → qX
open List renaming getElem?_cons_zero → qJ, getElem?_cons_succ → qK
open Int renaming toNat_natCast → qV, gcd_natCast_natCast → xY, natCast_ediv → yX
open Bool renaming and_self → qY
set_option linter.unusedSimpArgs false
set_option linter.unusedVariables false
open Go Go.AL Go.Proofs
set_option maxRecDepth 100000
set_option maxHeartbeats 1000000 in
theorem sgDensity {rows:List AV} {n c k v M s A:Nat} {cf:Option Nat} {ca:List Nat} {w:AV} {l1 l2:List AV} {n1 n2 x:Nat} {c1 c2 cc:Option Nat} (hcl:AV.closed (.vec rows n cf)=true) (hcw:w.closed=true) (hc1:qX l1=true) (hc2:qX l2=true)
  (hchk:Ret Tryz.prog G 16 [.vec rows n cf,.int .i64 (c:Int)] [] (.int .i64 0) []) (hk:1≤k∧k≤12) (hv:v≤4) (hn:1≤n∧n≤8)
  (hval:Ret Tryz.prog G 21 [pz (2*k) s2,.int .i64 (c:Int)] [] (.tup [.int .i64 (v:Int),pz x cc,.int .i64 0]) [])
  (hcnt:Ret Tryz.prog G 6 [.vec rows n cf,.int .i64 (c:Int),.int .i64 ((2*v+1:Nat):Int)] [] (.tup [.vec (ints ca) M (some M),.int .i64 0]) []) (hla:ca.length=M) (hM:M≠0) (hM2:M<2^30) (hs:ca.getD (k%M) 0=s)
  (hpow:Ret Tryz.prog G 23 [fr M none 1 s2,.int .i64 ((n-1:Nat):Int)] [] (.tup [fr A s2 1 s2,.bool true]) [])
  (hw:Ret Tryz.prog G 24 [.int .i64 (s:Int)] [] w []) (hq:Ret Tryz.prog G 25 [w,fr A s2 1 s2] [] (.agg [.bool false,.vec l1 n1 c1,.bool false,.vec l2 n2 c2]) []):
  Ret Tryz.prog G 10 [.vec rows n cf,.int .i64 (c:Int),.int .i64 (k:Int)] [] (.tup [.agg [.bool false,.vec l1 n1 c1,.bool false,.vec l2 n2 c2],.int .i64 0]) []:=by
 have cA:∀y:Int,qX [.vec rows n cf,.int .i64 (c:Int),.int .i64 y]=true:=fun y=>by simp only [qX,hcl];rfl
 have cB:qX [.vec rows n cf,.int .i64 (c:Int)]=true:=by simp only [qX,hcl];rfl
 have cV:AV.closed (.tup [.vec (ints ca) M (some M),.int .i64 0])=true:=by simp only [AV.closed,qX,qY]
 have cW:qX [w,fr A s2 1 s2]=true:=by simp only [qX,hcw];rfl
 have cD:AV.closed (.agg [.bool false,.vec l1 n1 c1,.bool false,.vec l2 n2 c2])=true:=by simp only [AV.closed,qX,qY]
 have w1:IntKind.i64.wrap (2*(k:Int))=((2*k:Nat):Int):=by rw [show 2*(k:Int)=((2*k:Nat):Int) by omega];exact wrapN (by omega)
 have w2:IntKind.i64.wrap (2*(v:Int))=((2*v:Nat):Int):=by rw [show 2*(v:Int)=((2*v:Nat):Int) by omega];exact wrapN (by omega)
 have w3:IntKind.i64.wrap (((2*v:Nat):Int)+1)=((2*v+1:Nat):Int):=by rw [show ((2*v:Nat):Int)+1=((2*v+1:Nat):Int) by omega];exact wrapN (by omega)
 have w4:IntKind.i64.wrap ((n:Int)-1)=((n-1:Nat):Int):=by rw [show (n:Int)-1=((n-1:Nat):Int) by omega];exact wrapN (by omega)
 have d1:decide ((k:Int)<1)=false:=decide_eq_false (by omega)
 have d2:decide (1000<(k:Int))=false:=decide_eq_false (by omega)
 have et:Int.tmod (k:Int) (M:Int)=((k%M:Nat):Int):=rfl
 have hkM:=yY k (xK hM)
 have ga:=ints_getD ca (k%M) (by omega) AV.junk
 rw [hs] at ga
 refine Ret_of mixed Tryz.func10 comp10 _ 73 res10 nt10 (by simp) (by simp) ?_
 simp only [c10,r10_0,SS,reduceCtorEq]
 simp only [r10_1,SS,reduceCtorEq,reduceIte,qQ]
 refine callA_pure hchk ?_ cB
 simp only [SS,reduceIte,qQ]
 simp only [r10_2,SS,forall_const,reduceIte,qQ,ne_eq,not_true_eq_false,decide_false]
 simp only [r10_4,↓rA_guardT,SS,forall_const,reduceIte,qQ,d1,d2]
 simp only [r10_6,SS,reduceIte,qQ,w1]
 refine callA_pure (smallP (2*k) (by omega) (by omega)) ?_
 simp only [SS,reduceIte,qQ]
 refine callA_pure hval ?_
 simp only [SS,reduceIte,qB,qQ,qU,qJ,qK]
 simp only [r10_7,SS,reduceCtorEq,reduceIte,qQ,w2,w3]
 refine callA_pure hcnt ?_ (cA _) cV
 simp only [SS,reduceIte,qQ,qJ,qK]
 simp only [r10_8,SS,forall_const,reduceIte,qQ,ne_eq,not_true_eq_false,decide_false]
 simp only [r10_10,SS,reduceIte,qQ]
 simp only [r10_11,SS,reduceIte,qQ]
 refine callA_pure (whole1 hM (by omega)) ?_
 simp only [SS,reduceCtorEq,reduceIte,qQ,w4]
 refine callA_pure hpow ?_
 simp only [SS,reduceIte,qB,qQ,qU,qJ,qK]
 simp only [r10_12,SS,forall_const,reduceIte,qQ,et,qV,ga,ints_len,hla]
 refine ⟨by omega,⟨by omega,by omega⟩,by omega,?_⟩
 refine callA_pure hw ?_ rfl hcw
 simp only [SS,reduceIte,qB,qQ,qU]
 refine callA_pure hq ?_ cW cD
 simp only [SS,reduceIte,qB,qQ,qU]
 refine ⟨rfl,?_⟩
 exact ⟨.inl trivial,_,rfl,.drop _ _ rfl (by intro i cs h;omega)⟩
open Go.Limb
theorem one_limb {l:List Nat} {x:Nat} (h:Canon l) (hv:val l=x) (hx:x≠0) (hx':x<4294967296):l=[x]:=by
 cases l with
 | nil=>exact absurd hv.symm hx
 | cons a r=>
  have h1:=val_pos h.2 (by simp)
  cases r with
  | nil=>
   have:Limb.val [a]=a:=by show a+4294967296*0=a;omega
   rw [this] at hv
   rw [hv]
  | cons b s=>
   have h2:4294967296^1≤4294967296^((a::b::s).length-1):=qR (by decide) (by simp)
   have h3:4294967296≤val (a::b::s):=qG (by rw [Nat.pow_one] at h2;exact h2) h1
   omega
theorem isInt_pz {x:Nat} {a:AV} (h:IsInt (x:Int) a) (hx:x≠0) (hx':x<4294967296):∃c,a=pz x c:=by
 obtain ⟨l,c,hc,_,hv,rfl⟩:=h
 rw [Int.natAbs_natCast] at hv
 have e:=one_limb hc hv hx hx'
 subst e
 exact ⟨c,by rw [decide_eq_false (by omega)];rfl⟩
theorem isRat_fr {x y:Nat} {v:AV} (h:IsRat (x:Int) (y:Int) v) (hx:x≠0) (hx':x<4294967296) (hy:y≠0) (hy':y<4294967296):∃c d,v=fr x c y d:=by
 obtain ⟨a1,a2,b1,b2,rfl,ha,hb⟩:=h
 obtain ⟨c,e1⟩:=isInt_pz ha hx hx'
 obtain ⟨d,e2⟩:=isInt_pz hb hy hy'
 injection e1 with e1
 injection e2 with e2
 simp only [List.cons.injEq,and_true] at e1 e2
 obtain ⟨rfl,rfl⟩:=e1
 obtain ⟨rfl,rfl⟩:=e2
 exact ⟨c,d,rfl⟩
theorem numR_nat (a b:Nat):numR (a:Int) (b:Int)=((a/Nat.gcd a b:Nat):Int):=by
 unfold numR
 rw [xY,←yX]
theorem denR_nat (a b:Nat):denR (a:Int) (b:Int)=((b/Nat.gcd a b:Nat):Int):=by
 unfold denR
 rw [xY,←yX]
theorem ratio11 {a b:Nat} (ha:a≠0) (ha':a<4294967296) (hb:b≠0) (hb':b<4294967296):∃c d,Ret Tryz.prog G 11 [.int .i64 (a:Int),.int .i64 (b:Int)] [] (fr (a/Nat.gcd a b) c (b/Nat.gcd a b) d) []:=by
 obtain ⟨va,ia,t1⟩:=zSmall (a:Int) (by omega) (by omega)
 obtain ⟨vb,ib,t2⟩:=zSmall (b:Int) (by omega) (by omega)
 obtain ⟨v,hv,t3⟩:=qNew ia ib (by omega)
 rw [numR_nat,denR_nat] at hv
 obtain ⟨c,d,rfl⟩:=isRat_fr hv (divP0 ha (xU a b)) (qH (xX _ _) ha') (divP0 hb (xW a b)) (qH (xX _ _) hb')
 have ca:=ia.closed
 have cb:=ib.closed
 have cab:qX [va,vb]=true:=by simp only [qX,ca,cb,qY]
 refine ⟨c,d,?_⟩
 refine Ret_of mixed Tryz.func11 comp11 _ 16 res11 nt11 (by simp) (by simp) ?_
 simp only [c11,r11_0,SS,reduceCtorEq]
 simp only [r11_1,SS,reduceCtorEq,reduceIte,qQ]
 refine callA_pure t1 ?_ rfl ca
 simp only [SS,reduceIte,qQ]
 refine callA_pure t2 ?_ rfl cb
 simp only [SS,reduceIte,qQ]
 refine callA_pure t3 ?_ cab
 simp only [SS,reduceIte,qB,qQ,qU,qJ,qK]
 simp only [r11_2,SS,reduceIte,qB,qQ,qU]
 exact ⟨.inl trivial,_,rfl,.drop _ _ rfl (by intro i cs h;omega)⟩
end Go.Proofs.YtenboapacjlmoaaGreatDoor
namespace Go.Proofs.YtenboapacjlmoaaGreatDoor
open Nat renaming reduceEqDiff → qQ, reduceLeDiff → qU, reduceAdd → qB, sub_self → qE, le_trans → qG, mul_le_mul → qM, pow_le_pow_right → qR, div_le_self → xX, pos_of_ne_zero → xK, gcd_dvd_right → xW, gcd_dvd_left → xU, mul_one → xI, mul_div_mul_left → xM, mul_le_mul_left → xN, eq_zero_or_pos → xR, gcd_one_right → yQ, gcd_mul_left → yZ, pow_pos → yJ, mul_ne_zero → yW, mod_lt → yY
open Go.AL.AV.closed renaming closedL → qX
open List renaming getElem?_cons_zero → qJ, getElem?_cons_succ → qK
open Int renaming toNat_natCast → qV, tmod_eq_emod_of_nonneg → qN, emod_lt_of_pos → xJ, emod_nonneg → xD, natCast_mul → yV
open Bool renaming and_self → qY
set_option linter.unusedSimpArgs false
set_option linter.unusedVariables false
open Go Go.AL Go.Proofs Go.Det
set_option maxRecDepth 100000
def StCa (n c v:Nat):Prop:=(n=1∧(c=3∧v=0∨c=3∧v=1∨c=3∧v=2∨c=5∧v=0∨c=5∧v=1∨c=2∧v=1∨c=2∧v=2∨c=2∧v=3∨c=2∧v=4))∨
 (n=2∧(c=3∧v=0∨c=3∧v=1∨c=5∧v=0∨c=2∧v=1∨c=2∧v=2∨c=2∧v=3))
instance (n c v:Nat):Decidable (StCa n c v):=by unfold StCa;infer_instance
theorem st_cases {n c k:Nat} (hn:n=1∨n=2) (hc:c=2∨c=3∨c=5) (hk:1≤k∧k≤12) (hs:c^((2*vE c (2*k)+2)*n)≤70000):2*k%c^(vE c (2*k)+1)≠0∧StCa n c (vE c (2*k)):=by
 rcases (by omega:k=1∨k=2∨k=3∨k=4∨k=5∨k=6∨k=7∨k=8∨k=9∨k=10∨k=11∨k=12) with rfl | rfl | rfl | rfl | rfl | rfl | rfl | rfl | rfl | rfl | rfl | rfl<;>rcases hc with rfl | rfl | rfl<;>rcases hn with rfl | rfl<;>first | exact ⟨by decide,by decide⟩ | exact absurd hs (by decide)
def StFa (n c v:Nat):Prop:=(c^(2*v+1))^n≤70000∧(c^(2*v+2))^n≤70000∧v≤4∧
 (c^(2*v+1)=3∨c^(2*v+1)=27∨c^(2*v+1)=243∨c^(2*v+1)=5∨c^(2*v+1)=125∨c^(2*v+1)=8∨c^(2*v+1)=32∨c^(2*v+1)=128∨c^(2*v+1)=512)∧
 (n=1∨n=2∧(c^(2*v+1)=3∨c^(2*v+1)=27∨c^(2*v+1)=5∨c^(2*v+1)=8∨c^(2*v+1)=32∨c^(2*v+1)=128))∧
 ((c^(2*v+1))^(n-1)=1∨(c^(2*v+1))^(n-1)=3∨(c^(2*v+1))^(n-1)=27∨(c^(2*v+1))^(n-1)=5∨(c^(2*v+1))^(n-1)=8∨(c^(2*v+1))^(n-1)=32∨(c^(2*v+1))^(n-1)=128)∧
 (c^((2*v+2)*(n-1))=1∨c^((2*v+2)*(n-1))=9∨c^((2*v+2)*(n-1))=81∨c^((2*v+2)*(n-1))=25∨c^((2*v+2)*(n-1))=16∨c^((2*v+2)*(n-1))=64∨c^((2*v+2)*(n-1))=256)∧
 c^((2*v+2)*(n-1))=c^(n-1)*(c^(2*v+1))^(n-1)∧c^(n-1)≤5
instance (n c v:Nat):Decidable (StFa n c v):=by unfold StFa;infer_instance
theorem st_facts {n c v:Nat} (h:StCa n c v):StFa n c v:=by
 rcases h with ⟨rfl,h⟩ | ⟨rfl,h⟩
 ·rcases h with ⟨rfl,rfl⟩ | ⟨rfl,rfl⟩ | ⟨rfl,rfl⟩ | ⟨rfl,rfl⟩ | ⟨rfl,rfl⟩ | ⟨rfl,rfl⟩ | ⟨rfl,rfl⟩ | ⟨rfl,rfl⟩ | ⟨rfl,rfl⟩<;>decide
 ·rcases h with ⟨rfl,rfl⟩ | ⟨rfl,rfl⟩ | ⟨rfl,rfl⟩ | ⟨rfl,rfl⟩ | ⟨rfl,rfl⟩ | ⟨rfl,rfl⟩<;>decide
theorem low_mul {T s A:Nat} (hT:T≠0):T*s/Nat.gcd (T*s) (T*A)=s/Nat.gcd s A:=by
 rw [yZ]
 exact xM _ _ (xK hT)
theorem low_mul2 {T s A:Nat} (hT:T≠0):T*A/Nat.gcd (T*s) (T*A)=A/Nat.gcd s A:=by
 rw [yZ]
 exact xM _ _ (xK hT)
def ratV (D:AV):Prop:= ∃l1 l2 n1 n2 c1 c2,D= .agg [.bool false,.vec l1 n1 c1,.bool false,.vec l2 n2 c2]∧qX l1=true∧qX l2=true
theorem ratV_fr (x y:Nat) (c d:Option Nat):ratV (fr x c y d):=⟨_,_,_,_,_,_,rfl,rfl,rfl⟩
set_option maxHeartbeats 1000000 in
theorem stData {n c k:Nat} {M:List (List Int)} (hS:Shp n M) (h:Red n (rowF M)) (hn:n=1∨n=2) (hc:c=2∨c=3∨c=5) (hk:1≤k∧k≤12) (hpr:Ret Tryz.prog G 47 [.int .i64 (c:Int)] [] (.bool true) []) (hsm:c^((2*vE c (2*k)+2)*n)≤70000):
  ∃(cb:List Nat) (D R:AV),ratV D∧ratV R∧cb.length=c^(2*vE c (2*k)+2)∧
   Ret Tryz.prog G 10 [.vec (rowsV n M) n (some n),.int .i64 (c:Int),.int .i64 (k:Int)] [] (.tup [D,.int .i64 0]) []∧
   Ret Tryz.prog G 6 [.vec (rowsV n M) n (some n),.int .i64 (c:Int),.int .i64 ((2*vE c (2*k)+2:Nat):Int)] [] (.tup [.vec (ints cb) (c^(2*vE c (2*k)+2)) (some (c^(2*vE c (2*k)+2))),.int .i64 0]) []∧
   Ret Tryz.prog G 11 [.int .i64 ((cb.getD (k%c^(2*vE c (2*k)+2)) 0:Nat):Int),.int .i64 ((c^((2*vE c (2*k)+2)*(n-1)):Nat):Int)] [] R []∧
   Ret Tryz.prog G 12 [D,R] [] (.int .i64 0) []:=by
 obtain ⟨hm,hcs⟩:=st_cases hn hc hk hsm
 obtain ⟨b1,b2,hv4,m9,m6,mA,mB,eB,hT5⟩:=st_facts hcs
 obtain ⟨x,cc,tv⟩:=valuation hc hk
 generalize vE c (2*k)=v at*
 have hc2:2≤c:=by omega
 obtain ⟨ca,hla,hca,tA⟩:=sgCountsRed hS h hc2 (by omega) hpr (show 1≤2*v+1 by omega) (by omega) (qG b1 (by decide))
 obtain ⟨cb,hlb,hcb,tB⟩:=sgCountsRed hS h hc2 (by omega) hpr (show 1≤2*v+2 by omega) (by omega) (qG b2 (by decide))
 have hst:=stab (n:=n) (M:=M) (fun i j hi hj=>h.sym i j hi hj) hc hm hca hcb
 have hM0:0<c^(2*v+1):=yJ (by omega)
 have hT:c^(n-1)≠0:=Nat.ne_of_gt (yJ (by omega))
 have ht:cb.getD (k%c^(2*v+2)) 0=c^(n-1)*ca.getD (k%c^(2*v+1)) 0:=by
  have e:c^n=c*c^(n-1):=by rw [Nat.mul_comm,←Nat.pow_succ];congr 1;omega
  rw [e,Nat.mul_assoc] at hst
  exact Nat.eq_of_mul_eq_mul_left (by omega) hst
 have hsle:ca.getD (k%c^(2*v+1)) 0≤70000:=by
  have h1:=sumN_term (fun i=>ca.getD i 0) (yY k hM0)
  rw [sum_total (by omega) hca,Nat.pow_mul] at h1
  exact qG h1 b1
 have hIm:ImV M (.vec (rowsV n M) n (some n)):=imV_rows hS.len hS.row (red_in64 hS h)
 have hchk:=sgCheck (redIs hS h) hIm.closed (p:=(c:Int)) (by omega) hpr
 have tp:Ret Tryz.prog G 23 [fr (c^(2*v+1)) none 1 s2,.int .i64 ((n-1:Nat):Int)] [] (.tup [fr ((c^(2*v+1))^(n-1)) s2 1 s2,.bool true]) []:=by
  rcases m6 with rfl | ⟨rfl,m6⟩
  ·rw [qE,Nat.pow_zero];exact pow0 m9
  ·rw [show 2-1=1 from rfl,Nat.pow_one];exact pow1 m6
 have hM512:c^(2*v+1)≤512:=by omega
 rcases xR (ca.getD (k%c^(2*v+1)) 0) with hs | hs
 ·rw [hs,Nat.mul_zero] at ht
  refine ⟨cb,z0,r0,⟨_,_,_,_,_,_,rfl,rfl,rfl⟩,⟨_,_,_,_,_,_,rfl,rfl,rfl⟩,hlb,?_,tB,?_,cmp0⟩
  ·exact sgDensity (w:=z0) (s:=0) (A:=(c^(2*v+1))^(n-1)) hIm.closed rfl rfl rfl hchk hk hv4 (by omega) tv tA hla (by omega) (by omega) hs tp whole0 (zquo mA)
  ·rw [ht];exact ratio0 mB
 ·generalize hs0:ca.getD (k%c^(2*v+1)) 0=s at*
  generalize hA:(c^(2*v+1))^(n-1)=A at*
  have hA0:A≠0:=by omega
  have hA1:A≤128:=by omega
  have tq:=quotient11 (x:=s) (y:=1) (u:=A) (v:=1) (c:=none) (d:=s2) (e:=s2) (f:=s2) (by omega) (by omega) (by decide) (by decide) hA0 (by omega) (by decide) (by decide) (yQ s) (yQ A) (by omega) (by omega)
  rw [xI,Nat.one_mul] at tq
  have hTs:c^(n-1)*s≤5*70000:=qM hT5 hsle
  have hTA:c^(n-1)*A≤5*128:=qM hT5 hA1
  obtain ⟨d1,d2,tr⟩:=ratio11 (a:=c^(n-1)*s) (b:=c^(n-1)*A) (yW hT (by omega)) (by omega) (yW hT hA0) (by omega)
  rw [low_mul hT,low_mul2 hT] at tr
  have g0:0<Nat.gcd s A:=Nat.gcd_pos_of_pos_left _ hs
  have p1:=divP0 (x:=s) (by omega) (xU s A)
  have p2:=divP0 hA0 (xW s A)
  have q1:s/Nat.gcd s A≤70000:=qG (xX _ _) hsle
  have q2:A/Nat.gcd s A≤128:=qG (xX _ _) hA1
  have q3:s/Nat.gcd s A*(A/Nat.gcd s A)≤70000*128:=qM q1 q2
  refine ⟨cb,fr (s/Nat.gcd s A) s2 (A/Nat.gcd s A) s2,fr (s/Nat.gcd s A) d1 (A/Nat.gcd s A) d2,ratV_fr ..,ratV_fr ..,hlb,?_,tB,?_,?_⟩
  ·exact sgDensity (w:=fr s none 1 s2) (s:=s) (A:=A) hIm.closed rfl rfl rfl hchk hk hv4 (by omega) tv tA hla (by omega) (by omega) hs0 tp (whole1 (by omega) (by omega)) tq
  ·rw [ht,eB];exact tr
  ·exact fcmp11 p1 (by omega) p2 (by omega) (by rw [Nat.gcd_div (xU s A) (xW s A)];exact Nat.div_self g0) (by omega)
theorem st_big {n c k:Nat} (hn:n=1∨n=2) (hc:c=2∨c=3∨c=5) (hk:1≤k∧k≤12) (hs:¬c^((2*vE c (2*k)+2)*n)≤70000):(c=3∧(2*vE c (2*k)+2)*n=12)∨(c=5∧(2*vE c (2*k)+2)*n=8)∨(c=2∧(2*vE c (2*k)+2)*n=20):=by
 rcases (by omega:k=1∨k=2∨k=3∨k=4∨k=5∨k=6∨k=7∨k=8∨k=9∨k=10∨k=11∨k=12) with rfl | rfl | rfl | rfl | rfl | rfl | rfl | rfl | rfl | rfl | rfl | rfl<;>rcases hc with rfl | rfl | rfl<;>rcases hn with rfl | rfl<;>first | exact absurd (by decide) hs | decide
theorem big_pow {c x:Nat} (h:(c=3∧x=12)∨(c=5∧x=8)∨(c=2∧x=20)):∃r:Int,70000<r∧Ret Tryz.prog G 7 [.int .i64 (c:Int),.int .i64 (x:Int),.int .i64 70000] [] (.int .i64 r) []:=by
 rcases h with ⟨rfl,rfl⟩ | ⟨rfl,rfl⟩ | ⟨rfl,rfl⟩
 ·exact ⟨177147,by decide,run_ret mem0 (by kernel_rfl)⟩
 ·exact ⟨78125,by decide,run_ret mem0 (by kernel_rfl)⟩
 ·exact ⟨131072,by decide,run_ret mem0 (by kernel_rfl)⟩
theorem vE_le (c m:Nat):vE c m≤4:=by unfold vE;(repeat' split)<;>omega
set_option maxHeartbeats 2000000 in
theorem stableRet {a b d kd:Int} {l q:List Int} {c1 c2:Option Nat} (hT:Tape8 l) (hd:0≤d∧d<256) (hkd:0≤kd∧kd<256) (ha:0≤a∧a<256) (hb:0≤b∧b<256)
  (h2:Ret Tryz.prog G 47 [.int .i64 2] [] (.bool true) []) (h3:Ret Tryz.prog G 47 [.int .i64 3] [] (.bool true) []) (h5:Ret Tryz.prog G 47 [.int .i64 5] [] (.bool true) []) (hA:Ret Tryz.prog G 8 [] [] (.bool true) []):
  Ret Tryz.prog G 4 [.agg (latC d kd l q c1 c2),.int .u8 a,.int .u8 b] [] (.bool true) []:=by
 obtain ⟨n,hn⟩:∃n:Nat,(n:Int)=1+d%2:=⟨(1+d%2).toNat,by omega⟩
 obtain ⟨k,hk⟩:∃k:Nat,(k:Int)=1+b%12:=⟨(1+b%12).toNat,by omega⟩
 have hn12:n=1∨n=2:=by omega
 have hk12:1≤k∧k≤12:=by omega
 obtain ⟨c,hc,gc,hpr⟩:∃c:Nat,(c=2∨c=3∨c=5)∧([AV.int .i64 3,.int .i64 5,.int .i64 2]:List AV).getD (a%3).toNat .junk= .int .i64 (c:Int)∧Ret Tryz.prog G 47 [.int .i64 (c:Int)] [] (.bool true) []:=by
  rcases (by omega:a%3=0∨a%3=1∨a%3=2) with e | e | e<;>rw [e]
  ·exact ⟨3,by decide,rfl,h3⟩
  ·exact ⟨5,by decide,rfl,h5⟩
  ·exact ⟨2,by decide,rfl,h2⟩
 obtain ⟨M',T',hred,hL,tF⟩:=tForm (c:=c1) (c2:=c2) (q:=q) (most:=2) hT hd hkd (by omega) hn
 have hS:Shp n M':=hL.shM
 have te:=exponent hc hk12
 have hv4:=vE_le c (2*k)
 have cF:qX [.agg (latC d kd l q c1 c2),.int .i64 2]=true:=by simp only [qX,AV.closed,lat_closed,qY]
 have hcl:AV.closed (.vec (rowsV n M') n (some n))=true:=by simp only [AV.closed]
 have cA:∀y:Int,qX [.vec (rowsV n M') n (some n),.int .i64 (c:Int),.int .i64 y]=true:=fun y=>by simp only [qX,hcl];rfl
 have g0:getB [some (latC d kd l q c1 c2)] 0=some (latC d kd l q c1 c2):=rfl
 have et4:List.take 4 (latC d kd l q c1 c2)=latC d kd l q c1 c2:=rfl
 have e3:Int.tmod a 3=a%3:=qN ha.1
 have w3:IntKind.u8.wrap (a%3)=a%3:=by
  have:=xD a (show (3:Int)≠0 by decide)
  have:=xJ a (show (0:Int)<3 by decide)
  simp [IntKind.wrap,IntKind.bits,IntKind.signed];omega
 have wb:IntKind.i64.wrap b=b:=w64 (by omega) (by omega)
 have eb:Int.tmod b 12=b%12:=qN hb.1
 have wk:IntKind.i64.wrap (1+b%12)=(k:Int):=by rw [←hk];exact w64 (by omega) (by omega)
 have w1:IntKind.i64.wrap (2*(k:Int))=((2*k:Nat):Int):=by rw [show 2*(k:Int)=((2*k:Nat):Int) by omega];exact wrapN (by omega)
 have dat:=stData hS hred hn12 hc hk12 hpr
 have big:=st_big hn12 hc hk12
 generalize vE c (2*k)=v at*
 have w2:IntKind.i64.wrap (2*(v:Int))=((2*v:Nat):Int):=by rw [show 2*(v:Int)=((2*v:Nat):Int) by omega];exact wrapN (by omega)
 have w4:IntKind.i64.wrap (((2*v:Nat):Int)+2)=((2*v+2:Nat):Int):=by rw [show ((2*v:Nat):Int)+2=((2*v+2:Nat):Int) by omega];exact wrapN (by omega)
 have hen:(2*v+2)*n≤20:=qG (qM (show 2*v+2≤10 by omega) (show n≤2 by omega)) (by decide)
 have hen1:(2*v+2)*(n-1)≤20:=qG (qM (show 2*v+2≤10 by omega) (show n-1≤2 by omega)) (by decide)
 have w5:IntKind.i64.wrap (((2*v+2:Nat):Int)*(n:Int))=(((2*v+2)*n:Nat):Int):=by rw [show ((2*v+2:Nat):Int)*(n:Int)=(((2*v+2)*n:Nat):Int) from (yV _ _).symm];exact wrapN (by omega)
 have w6:IntKind.i64.wrap ((n:Int)-1)=((n-1:Nat):Int):=by rw [show (n:Int)-1=((n-1:Nat):Int) by omega];exact wrapN (by omega)
 have w7:IntKind.i64.wrap (((2*v+2:Nat):Int)*((n-1:Nat):Int))=(((2*v+2)*(n-1):Nat):Int):=by rw [show ((2*v+2:Nat):Int)*((n-1:Nat):Int)=(((2*v+2)*(n-1):Nat):Int) from (yV _ _).symm];exact wrapN (by omega)
 refine Ret_of mixed Tryz.func4 comp4 _ 88 res4 nt4 (by simp) (by simp) ?_
 simp only [c4,r4_0,SS,reduceCtorEq]
 simp only [r4_1,SS,reduceIte,qQ,g0]
 refine ⟨by show 4≤4;omega,?_⟩
 rw [et4]
 refine callA_pure tF ?_ cF hcl
 simp only [SS,reduceIte,qQ]
 simp only [r4_2,SS,forall_const,reduceIte,qB,qQ,qU,e3,gc]
 refine ⟨by decide,⟨by omega,by omega⟩,by omega,?_⟩
 simp only [r4_3,SS,reduceIte,qQ,wb,eb,wk]
 refine ⟨by decide,?_⟩
 simp only [r4_4,SS,reduceIte,qQ,w1]
 refine callA_pure te ?_
 simp only [SS,reduceIte,qQ,w2,w4]
 simp only [r4_5,SS,reduceIte,qQ,w5]
 by_cases hsm:c^((2*v+2)*n)≤70000
 ·obtain ⟨cb,D,R,⟨l1,l2,m1,m2,k1,k2,rfl,hl1,hl2⟩,⟨l3,l4,m3,m4,k3,k4,rfl,hl3,hl4⟩,hlb,tD,tB,tR,tC⟩:=dat hsm
  have tp1:Ret Tryz.prog G 7 [.int .i64 (c:Int),.int .i64 (((2*v+2)*n:Nat):Int),.int .i64 70000] [] (.int .i64 ((c^((2*v+2)*n):Nat):Int)) []:=laPower (cap:=70000) (by omega) hsm (by decide) (by omega) (by omega)
  have hB:c^((2*v+2)*(n-1))≤70000:=qG (qR (by omega) (xN _ (Nat.sub_le _ _))) hsm
  have tp2:Ret Tryz.prog G 7 [.int .i64 (c:Int),.int .i64 (((2*v+2)*(n-1):Nat):Int),.int .i64 1099511627776] [] (.int .i64 ((c^((2*v+2)*(n-1)):Nat):Int)) []:=laPower (cap:=1099511627776) (by omega) (qG hB (by decide)) (by decide) (by omega) (by omega)
  have d1:decide (70000<((c^((2*v+2)*n):Nat):Int))=false:=decide_eq_false (by omega)
  have hM0:0<c^(2*v+2):=yJ (by omega)
  have hM2:c^(2*v+2)≤70000:=qG (qR (by omega) (by rcases hn12 with rfl | rfl<;>omega)) hsm
  have d2:decide (((c^(2*v+2):Nat):Int)=0)=false:=decide_eq_false (by omega)
  have et:Int.tmod (k:Int) ((c^(2*v+2):Nat):Int)=((k%c^(2*v+2):Nat):Int):=rfl
  have hkM:=yY k hM0
  have ga:=ints_getD cb (k%c^(2*v+2)) (by omega) AV.junk
  have cV:AV.closed (.tup [.vec (ints cb) (c^(2*v+2)) (some (c^(2*v+2))),.int .i64 0])=true:=by simp only [AV.closed,qX,qY]
  have cD:AV.closed (.tup [.agg [.bool false,.vec l1 m1 k1,.bool false,.vec l2 m2 k2],.int .i64 0])=true:=by simp only [AV.closed,qX,qY]
  have cR:AV.closed (.agg [.bool false,.vec l3 m3 k3,.bool false,.vec l4 m4 k4])=true:=by simp only [AV.closed,qX,qY]
  have cC:qX [.agg [.bool false,.vec l1 m1 k1,.bool false,.vec l2 m2 k2],.agg [.bool false,.vec l3 m3 k3,.bool false,.vec l4 m4 k4]]=true:=by simp only [AV.closed,qX,qY]
  refine callA_pure tp1 ?_
  simp only [SS,forall_const,reduceIte,qQ,d1]
  simp only [r4_7,SS,reduceIte,qQ]
  refine callA_pure tD ?_ (cA _) cD
  simp only [SS,reduceIte,qB,qQ,qU,qJ,qK]
  simp only [r4_8,SS,reduceIte,qQ]
  refine callA_pure tB ?_ (cA _) cV
  simp only [SS,reduceIte,qQ,qJ,qK]
  simp only [r4_9,↓rA_guardT,SS,forall_const,reduceIte,qQ,ne_eq,not_true_eq_false,decide_false,d2]
  simp only [r4_11,SS,forall_const,reduceIte,qQ,et,qV,ga,ints_len,hlb,w6,w7]
  refine ⟨by omega,⟨Int.natCast_nonneg _,Int.ofNat_lt.2 hkM⟩,hkM,?_⟩
  refine callA_pure tp2 ?_
  simp only [SS,reduceIte,qQ]
  refine callA_pure tR ?_ rfl cR
  simp only [SS,reduceIte,qB,qQ,qU]
  refine ⟨rfl,?_⟩
  simp only [r4_12,SS,reduceIte,qB,qQ,qU]
  refine callA_pure tC ?_ cC
  simp only [↓rA_guardT,SS,reduceIte,qQ,decide_true]
  refine callA_pure hA ?_
  simp only [SS,reduceIte,qQ]
  exact ⟨.inl trivial,_,rfl,.freeze 1 _ _ _ rfl (by intro i cs h;omega)⟩
 ·obtain ⟨r,hr,tp⟩:=big_pow (big hsm)
  have d1:decide (70000<r)=true:=decide_eq_true hr
  refine callA_pure tp ?_
  simp only [SS,forall_const,reduceIte,qQ,d1]
  simp only [r4_6,SS]
  refine callA_pure hA ?_
  simp only [SS,reduceIte,qQ]
  exact ⟨.inl trivial,_,rfl,.freeze 1 _ _ _ rfl (by intro i cs h;omega)⟩
end Go.Proofs.YtenboapacjlmoaaGreatDoor
